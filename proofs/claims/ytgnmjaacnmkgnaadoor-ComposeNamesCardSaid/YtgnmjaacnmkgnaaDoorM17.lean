/- Words and walks that the row of ComposeNames needs: printed by programs, and plain laws. -/
import Derived.Test.YtgnmjaacnmkgnaaDoorM14
import Derived.Test.YtgnmjaacnmkgnaaDoorM3
import Derived.Test.YtgnmjaacnmkgnaaDoorM15
import Derived.Test.YtgnmjaacnmkgnaaDoorM16
namespace Go.Proofs.YtgnmjaacnmkgnaaDoorW.PrintWords
end Go.Proofs.YtgnmjaacnmkgnaaDoorW.PrintWords
namespace Go.Proofs.YtgnmjaacnmkgnaaDoorW.PrintLast
end Go.Proofs.YtgnmjaacnmkgnaaDoorW.PrintLast
namespace Go.Proofs.YtgnmjaacnmkgnaaDoorW.PrintMore
end Go.Proofs.YtgnmjaacnmkgnaaDoorW.PrintMore
namespace Go.Proofs.YtgnmjaacnmkgnaaDoor.X
open Go.RowKit Go.Shelf Go.Proofs Go.Proofs.YtgnmjaacnmkgnaaDoorW.PrintWords Go.Proofs.YtgnmjaacnmkgnaaDoorW.PrintLast Go.Proofs.YtgnmjaacnmkgnaaDoorW.PrintMore
set_option linter.unusedVariables false
set_option linter.unusedSimpArgs false
attribute [local go_sem] max2_int min2_int max_two min_two
set_option maxHeartbeats 4000000 in
set_option maxRecDepth 100000 in
theorem Dc.names_walk (v : Value) (l : List Evt.Ev) (w : World) (hT : Tabs.Holds w) (hl : Eng.Reads w v l.length 5 (Evt.cells l)) (hll : l.length ≤ 2199023255488) : Calls Tryd.prog 6 #[v] w fun e w' => e = .returned (.bool true) ∧ Below w.heap.size w w' := by
 have hm := Eng.Reads.len_le hl
 refine Eng.enter Tryd.func6 rfl fun act0 d0 s0 v0 => ?_
 have s0 : act0.tmps.size = 98 := s0
 have h0_0 : act0.eval (.tmp 0) = v := v0 0 (by simp)
 clear v0
 have bl0 : Below w.heap.size w w := Below.refl _ _
 refine wp_seq ?_
 refine Eng.rS [.bool false] (fun _ => .plain) 1 0 s0 ?_ ?_
 ·refine .c ?_ (.nil)
  ·exact Eng.pv fun a w' H => Eng.vr rfl (Eng.run_assign rfl (rfl : a.eval (.const (.bool false)) = .bool false))
 intro act1 w1 T
 have h0_1 := T.r1 h0_0
 have Fl_1 := T.f hl
 have h2_1 : act1.eval (.tmp 2) = .bool false := T.done 0 2 rfl rfl
 have d1 := T.e d0
 have s1 := T.z s0
 have bl1 := T.b bl0
 clear T
 refine Eng.tail_nil ?_
 refine wp_seq ?_
 refine wp_seq ?_
 obtain ⟨q15, Bq15⟩ : ∃ b : Bool, b = (!true) := ⟨_, rfl⟩
 refine Eng.rS [.bool true, .bool q15] (fun _ => .plain) 2 0 s1 ?_ ?_
 ·refine .c ?_ (.c ?_ (.nil))
  ·refine Eng.pv fun a w' H => ?_
   refine Eng.call Tryd.func8 (by kernel_rfl) (by kernel_rfl) rfl #[] ?_ ?_
   ·simp
   refine (Dal.alive_calls _ (Tabs.below (Tabs.below hT bl1) H.below)).mono ?_
   rintro e w'' ⟨rfl, hb⟩
   exact ⟨_, rfl, (by show _ = Value.bool true; rw [show (true) = true from rfl]), hb⟩
  exact Eng.pv fun a w' H => Eng.vr (v := .bool (!true)) (by show _ = Value.bool q15; rw [Bq15]) (Eng.run_not rfl (H.d 0 14))
 intro act2 w2 T
 have ⟨h0_2, h2_2⟩ := T.r2 h0_1 h2_1
 have Fl_2 := T.f Fl_1
 have h15_2 : act2.eval (.tmp 15) = .bool q15 := T.done 1 15 rfl rfl
 have d2 := T.e d1
 have s2 := T.z s1
 have bl2 := T.b bl1
 clear T
 refine Eng.tail_nil ?_
 have n15 : q15 = false := by
  try simp only [Bq15]
  first | done | rfl
 refine wp_cond_false (h15_2.trans (by rw [n15])) ?_
 refine wp_skip ?_
 refine wp_seq ?_
 refine (wpIn_wide (n := 1)).1 ?_
 refine EngI.regionT (n := 3) rfl ?_
 refine EngI.tv rfl (Eng.run_move rfl h0_2) s2 fun act3 d3 s3 h16_3 hr => ?_
 have ⟨h0_3, h2_3, h15_3⟩ := Eng.k3 hr h0_2 h2_2 h15_2
 have d3 := d3.trans d2
 clear hr
 refine EngI.tail_call EngI.free_wide Tryd.func13 (by kernel_rfl) (by kernel_rfl) rfl rfl rfl rfl #[v] (by have e0 : act3.eval (.tmp 16) = v := h16_3; simp only [List.map_toArray, List.map_cons, List.map_nil, e0]) s3 rfl (R := fun v w' => w'.ownsRow w2.heap.size 30 5 v l.length (Evt.cells l) ∧ Below w2.heap.size w2 w') ((Evt.theirs_calls v l _ Fl_2 hll).mono ?_) fun v_4 w4 act4 R d4 s4 h17_4 hr => ?_
 ·rintro e w1 ⟨o, rfl, r⟩; exact ⟨_, rfl, r⟩
 have ⟨h0_4, h2_4, h15_4⟩ := Eng.k3 hr h0_3 h2_3 h15_3
 have d4 := d4.trans d3
 clear hr
 obtain ⟨O_4, b_4⟩ := R
 have Fl_4 := Eng.Reads.below Fl_2 b_4
 have bl4 := bl2.trans (b_4.mono bl2.size)
 have Ox_4 := Eng.own_mono O_4 bl2.size
 have Fx_4 := Eng.Reads.of_own Ox_4
 refine EngI.tv rfl (Eng.run_assign rfl h17_4) s4 fun act5 d5 s5 h3_5 hr => ?_
 have ⟨h0_5, h2_5, h15_5⟩ := Eng.k3 hr h0_4 h2_4 h15_4
 have d5 := d5.trans d4
 clear hr
 refine EngI.tail_nil ?_
 refine wp_seq ?_
 refine wp_seq ?_
 refine (wpIn_wide (n := 1)).1 ?_
 refine EngI.regionT (n := 7) rfl ?_
 refine EngI.tv rfl (Eng.run_move rfl h0_5) s5 fun act6 d6 s6 h18_6 hr => ?_
 have ⟨h0_6, h2_6, h3_6, h15_6⟩ := Eng.k4 hr h0_5 h2_5 h3_5 h15_5
 have d6 := d6.trans d5
 clear hr
 obtain ⟨q19, Bq19⟩ : ∃ b : Bool, b = (Evt.heavyL l) := ⟨_, rfl⟩
 refine EngI.tail_call EngI.free_wide Tryd.func9 (by kernel_rfl) (by kernel_rfl) rfl rfl rfl rfl #[v] (by have e0 : act6.eval (.tmp 18) = v := h18_6; simp only [List.map_toArray, List.map_cons, List.map_nil, e0]) s6 rfl (R := fun v w_ => v = .bool (Evt.heavyL l) ∧ Below w4.heap.size w4 w_) ((Evt.heavy_calls v l _ Fl_4).mono ?_) fun v_7 w7 act7 R d7 s7 hv hr => ?_
 ·rintro e w_ ⟨rfl, hb⟩; exact ⟨_, rfl, rfl, hb⟩
 obtain ⟨ev_7, b_7⟩ := R
 have ⟨h0_7, h2_7, h3_7, h15_7⟩ := Eng.k4 hr h0_6 h2_6 h3_6 h15_6
 have h19_7 : act7.eval (.tmp 19) = .bool q19 := (hv.trans ev_7).trans (congrArg Value.bool Bq19.symm)
 have d7 := d7.trans d6
 clear hv hr
 have Fx_7 := Eng.Reads.below Fx_4 b_7
 have Ox_7 := Eng.own_below Ox_4 b_7
 have bl7 := bl4.trans (b_7.mono bl4.size)
 refine EngI.tv rfl (Eng.run_move rfl h19_7) s7 fun act8 d8 s8 h20_8 hr => ?_
 have ⟨h0_8, h2_8, h3_8, h15_8, h19_8⟩ := Eng.k5 hr h0_7 h2_7 h3_7 h15_7 h19_7
 have d8 := d8.trans d7
 clear hr
 rcases Bool.eq_false_or_eq_true q19 with hq | hq
 ·
  have kn9 := hq
  have c20 := Bq19.symm.trans hq
  clear hq
  have h19_kn9 := h19_8.trans (congrArg Value.bool kn9)
  have h20_kn9 := h20_8.trans (congrArg Value.bool kn9)
  refine EngG.tail_off EngI.free_wide rfl (EngG.wanted_off (want := false) rfl rfl rfl (by rw [s8]; decide) h20_kn9) rfl s8 rfl fun act10 d10 s10 hr => ?_
  have h20_10 : act10.eval (.tmp 20) = .bool true := (hr 20 rfl).trans h20_kn9
  have d10 := d10.trans d8
  clear hr
  refine EngG.tail_off EngI.free_wide rfl (EngG.wanted_off (want := false) rfl rfl rfl (by rw [s10]; decide) h20_10) rfl s10 rfl fun act11 d11 s11 hr => ?_
  have h20_11 := Eng.k1 hr h20_10
  have d11 := d11.trans d10
  clear hr
  refine EngG.tail_off EngI.free_wide rfl (EngG.wanted_off (want := false) rfl rfl rfl (by rw [s11]; decide) h20_11) rfl s11 rfl fun act12 d12 s12 hr => ?_
  have h20_12 := Eng.k1 hr h20_11
  have d12 := d12.trans d11
  clear hr
  refine EngI.tv rfl (Eng.run_pick rfl h20_12 (v := .bool true) (by exact (rfl : act12.eval (.const (.bool true)) = .bool true))) s12 fun act13 d13 s13 h24_13 hr => ?_
  have d13 := d13.trans d12
  clear hr
  refine EngI.tail_nil ?_
  refine wp_cond_true h24_13 ?_
  refine wp_seq ?_
  refine Eng.rS [.bool true] (fun _ => .plain) 1 0 s13 ?_ ?_
  ·refine .c ?_ (.nil)
   ·exact Eng.pv fun a w' H => Eng.vr rfl (Eng.run_assign rfl (rfl : a.eval (.const (.bool true)) = .bool true))
  intro act14 w14 T
  have h2_14 : act14.eval (.tmp 2) = .bool true := T.done 0 2 rfl rfl
  have d14 := T.e d13
  have bl14 := T.b bl7
  clear T
  refine Eng.tail_nil ?_
  refine wp_ret ?_
  repeat (first | with_reducible refine Eng.in_ret ?_ | with_reducible refine Eng.then_ret ?_)
  exact Eng.ret1 rfl d14 h2_14 ⟨rfl, bl14⟩
 have kn15 := hq
 have c20 := Bq19.symm.trans hq
 clear hq
 have h19_kn15 := h19_8.trans (congrArg Value.bool kn15)
 have h20_kn15 := h20_8.trans (congrArg Value.bool kn15)
 have la_ := Evt.light_all (by simpa using c20)
 refine EngG.tail_val EngI.free_wide rfl (EngG.wanted_on (want := false) rfl rfl rfl (by rw [s8]; decide) h20_kn15) rfl rfl (Eng.run_move rfl h3_8) s8 rfl fun act16 d16 s16 h21_16 hr => ?_
 have ⟨h0_16, h2_16, h3_16, h15_16⟩ := Eng.k4 hr h0_8 h2_8 h3_8 h15_8
 have h20_16 : act16.eval (.tmp 20) = .bool false := (hr 20 rfl).trans h20_kn15
 have d16 := d16.trans d8
 clear hr
 obtain ⟨q22, Bq22⟩ : ∃ b : Bool, b = (Evt.rightG Evt.rightE l) := ⟨_, rfl⟩
 refine EngG.tail_call EngI.free_wide Tryd.func17 (by kernel_rfl) (by kernel_rfl) rfl (EngG.wanted_on (want := false) rfl rfl rfl (by rw [s16]; decide) h20_16) rfl rfl #[v_4] (by have e0 : act16.eval (.tmp 21) = v_4 := h21_16; simp only [List.map_toArray, List.map_cons, List.map_nil, e0]) s16 rfl (R := fun v w_ => v = .bool (Evt.rightG Evt.rightE l) ∧ Below w7.heap.size w7 w_) ((Evt.Right_calls v_4 l _ (Tabs.below (Tabs.below hT bl7) (Below.refl _ _)) Fx_7 (fun k hk => Nat.le_trans (la_.text k hk) (by decide)) (Nat.le_trans la_.1 (by decide))).mono ?_) fun v_17 w17 act17 R d17 s17 hv hr => ?_
 ·rintro e w_ ⟨rfl, hb⟩; exact ⟨_, rfl, rfl, hb⟩
 obtain ⟨ev_17, b_17⟩ := R
 have ⟨h0_17, h2_17, h3_17, h15_17, h20_17⟩ := Eng.k5 hr h0_16 h2_16 h3_16 h15_16 h20_16
 have h22_17 : act17.eval (.tmp 22) = .bool q22 := (hv.trans ev_17).trans (congrArg Value.bool Bq22.symm)
 have d17 := d17.trans d16
 clear hv hr
 have Fx_17 := Eng.Reads.below Fx_7 b_17
 have Ox_17 := Eng.own_below Ox_7 b_17
 have bl17 := bl7.trans (b_17.mono bl7.size)
 refine EngG.tail_val EngI.free_wide rfl (EngG.wanted_on (want := false) rfl rfl rfl (by rw [s17]; decide) h20_17) rfl rfl (Eng.run_not rfl h22_17) s17 rfl fun act18 d18 s18 h23_18 hr => ?_
 have ⟨h0_18, h2_18, h3_18, h15_18, h20_18⟩ := Eng.k5 hr h0_17 h2_17 h3_17 h15_17 h20_17
 have d18 := d18.trans d17
 clear hr
 refine EngI.tv rfl (Eng.run_pick rfl h20_18 (v := .bool (!q22)) (by exact h23_18)) s18 fun act19 d19 s19 h24_19 hr => ?_
 have ⟨h0_19, h2_19, h3_19, h15_19⟩ := Eng.k4 hr h0_18 h2_18 h3_18 h15_18
 have d19 := d19.trans d18
 clear hr
 refine EngI.tail_nil ?_
 refine wp_cond_split h24_19 (fun hq => ?_) (fun hq => ?_)
 ·
  have c24 := hq
  clear hq
  refine wp_seq ?_
  refine Eng.rS [.bool true] (fun _ => .plain) 1 0 s19 ?_ ?_
  ·refine .c ?_ (.nil)
   ·exact Eng.pv fun a w' H => Eng.vr rfl (Eng.run_assign rfl (rfl : a.eval (.const (.bool true)) = .bool true))
  intro act21 w21 T
  have h2_21 : act21.eval (.tmp 2) = .bool true := T.done 0 2 rfl rfl
  have d21 := T.e d19
  have bl21 := T.b bl17
  clear T
  refine Eng.tail_nil ?_
  refine wp_ret ?_
  repeat (first | with_reducible refine Eng.in_ret ?_ | with_reducible refine Eng.then_ret ?_)
  exact Eng.ret1 rfl d21 h2_21 ⟨rfl, bl21⟩
 have c24 := hq
 clear hq
 have ra_ : Evt.rightG Evt.rightE l = true := by have h1 := c24; rw [Bq22] at h1; simpa using h1
 have hA1 := la_.1
 refine wp_skip ?_
 refine wp_seq ?_
 refine Eng.regionT (n := 2) rfl ?_
 refine Eng.tail_ex rfl rfl rfl (Tm.made_run w.heap.size bl17.size 9 rfl Tryd.underlying46) s19 rfl fun v_23 w23 act23 R d23 s23 h25_23 hr => ?_
 obtain ⟨mb, ev_23, rg_23, M_23, b_23⟩ := R
 have ⟨h0_23, h2_23, h3_23, h15_23, h24_23⟩ := Eng.k5 hr h0_19 h2_19 h3_19 h15_19 h24_19
 have d23 := d23.trans d19
 clear hr
 have Fx_23 := Eng.Reads.below Fx_17 b_23
 have Ox_23 := Eng.own_below Ox_17 b_23
 have bl23 := bl17.trans (b_23.mono bl17.size)
 rw [ev_23] at h25_23
 refine Eng.tail_val rfl rfl rfl (Eng.run_assign rfl h25_23) s23 rfl fun act24 d24 s24 h4_24 hr => ?_
 have ⟨h0_24, h2_24, h3_24, h15_24, h24_24⟩ := Eng.k5 hr h0_23 h2_23 h3_23 h15_23 h24_23
 have d24 := d24.trans d23
 clear hr
 refine Eng.tail_nil ?_
 refine wp_seq ?_
 refine wp_seq ?_
 refine Eng.rS [v_4, .int .i64 ((l.length : Nat) : Int), .int .i64 0] (fun _ => .plain) 3 0 s24 ?_ ?_
 ·refine .c ?_ (.c ?_ (.c ?_ (.nil)))
  ·exact Eng.pv fun a w' H => Eng.vr rfl (Eng.run_move rfl (H.q 3 h3_24))
  ·exact Eng.pv fun a w' H => Eng.vr (v := .int .i64 ((l.length : Nat) : Int)) rfl (Eng.run_len_sl rfl Tryd.underlying37 (show a.eval (.tmp 26) = v_4 from (H.d 0 26)) (Eng.Reads.below Fx_23 H.below))
  exact Eng.pv fun a w' H => Eng.vr rfl (Eng.run_move rfl (rfl : a.eval (.const (.int .i64 0)) = .int .i64 0))
 intro act25 w25 T
 have ⟨h0_25, h2_25, h3_25, h4_25, h15_25, h24_25⟩ := T.r6 h0_24 h2_24 h3_24 h4_24 h15_24 h24_24
 have Ox_25 := T.g Ox_23
 have h26_25 : act25.eval (.tmp 26) = v_4 := T.done 0 26 rfl rfl
 have h27_25 : act25.eval (.tmp 27) = .int .i64 ((l.length : Nat) : Int) := T.done 1 27 rfl rfl
 have h28_25 : act25.eval (.tmp 28) = .int .i64 0 := T.done 2 28 rfl rfl
 have d25 := T.e d24
 have s25 := T.z s24
 have bl25 := T.b bl23
 have XM_25 := Tm.Cn.below M_23 T.below
 clear T
 refine Eng.tail_nil ?_
 refine wp_block ?_
 refine Eng.loopN (fun n a w' => ∃ (k : Nat), l.length - k = n ∧ (k ≤ l.length) ∧ (w'.ownsRow w.heap.size 30 5 v_4 l.length (Evt.cells l)) ∧ (Tm.Cn w' w.heap.size mb 9 k (Dc.askL (List.take k l))) ∧ a.defers = [] ∧ a.tmps.size = 98 ∧ Below w.heap.size w w' ∧ a.eval (.tmp 0) = v ∧ a.eval (.tmp 2) = .bool false ∧ a.eval (.tmp 3) = v_4 ∧ a.eval (.tmp 4) = .map (some mb) ∧ a.eval (.tmp 15) = .bool q15 ∧ a.eval (.tmp 24) = .bool (!q22) ∧ a.eval (.tmp 26) = v_4 ∧ a.eval (.tmp 27) = .int .i64 ((l.length : Nat) : Int) ∧ a.eval (.tmp 28) = .int .i64 (k : Nat)) (n0 := l.length - 0) ?_ ?_
 ·exact ⟨0, rfl, Nat.zero_le _, Ox_25, XM_25, d25, s25, bl25, h0_25, h2_25, h3_25, h4_25, h15_25, h24_25, h26_25, h27_25, (h28_25.trans (by first | rfl | (congr 1; rw [Eng.i64_id (by omega) (by omega)]; omega) | (simp; done)))⟩
 rintro n act26 w26 ⟨k, rfl, hc0_26, hc1_26, hc2_26, d26, s26, bl26, h0_26, h2_26, h3_26, h4_26, h15_26, h24_26, h26_26, h27_26, h28_26⟩
 have Fl_26 := Eng.Reads.below hl bl26
 have hk1 := hc0_26
 have Fx_26 := Eng.Reads.of_own hc1_26
 refine wp_seq ?_
 obtain ⟨q29, Bq29⟩ : ∃ b : Bool, b = (decide ((k : Nat) < ((l.length : Nat) : Int))) := ⟨_, rfl⟩
 refine Eng.rS [.bool q29] (fun _ => .plain) 1 0 s26 ?_ ?_
 ·refine .c ?_ (.nil)
  ·refine Eng.pv fun a w' H => ?_
   refine Eng.vr (v := .bool (decide ((k : Nat) < ((l.length : Nat) : Int)))) (by show _ = Value.bool q29; rw [Bq29]) ?_
   have e0 := (H.q 28 h28_26)
   have e1 := (H.q 27 h27_26)
   simp only [execOp, resolve, e0, e1]
   go_simp
 intro act27 w27 T
 have ⟨h0_27, h2_27, h3_27, h4_27, h15_27, h24_27, h26_27, h27_27, h28_27⟩ := T.r9 h0_26 h2_26 h3_26 h4_26 h15_26 h24_26 h26_26 h27_26 h28_26
 have Fl_27 := T.f Fl_26
 have Fx_27 := T.f Fx_26
 have Ox_27 := T.g hc1_26
 have h29_27 : act27.eval (.tmp 29) = .bool q29 := T.done 0 29 rfl rfl
 have d27 := T.e d26
 have s27 := T.z s26
 have bl27 := T.b bl26
 have XM_27 := Tm.Cn.below hc2_26 T.below
 clear T
 refine Eng.tail_nil ?_
 refine wp_seq ?_
 refine wp_cond_split h29_27 (fun hq => ?_) (fun hq => ?_)
 ·
  have c29 := Bq29.symm.trans hq
  clear hq
  have c29 := of_decide_eq_true c29
  have hk0 : k < l.length := by omega
  have haz := la_.at_ hk0
  refine wp_skip ?_
  refine wp_seq ?_
  refine wp_block ?_
  refine wp_seq ?_
  refine Eng.regionT (n := 4) rfl ?_
  refine Eng.tail_val (w1 := w27) (v := Eng.elemPtr v_4 (k * 5)) rfl rfl rfl ?_ s27 rfl ?_
  ·exact Eng.run_index_sl rfl Tryd.underlying37 (by kernel_rfl) (show act27.eval (.tmp 26) = v_4 from h26_27) ((show act27.eval (.tmp 28) = .int .i64 (k : Nat) from h28_27).trans (congrArg (Value.int _) (show (k : Nat) = ((k : Nat) : Int) from by omega))) Fx_27 (by omega) rfl
  intro act29 d29 s29 h30_29 hr
  have ⟨h0_29, h2_29, h3_29, h4_29, h15_29, h24_29, h26_29, h27_29, h28_29⟩ := Eng.k9 hr h0_27 h2_27 h3_27 h4_27 h15_27 h24_27 h26_27 h27_27 h28_27
  have d29 := d29.trans d27
  clear hr
  refine Eng.tail_val (w1 := w27) (v := .agg #[.int .i64 ((l.getD k default).kind), .string ((l.getD k default).anchor), .string ((l.getD k default).tag), .string ((l.getD k default).text), .bool ((l.getD k default).plain)]) rfl rfl rfl ?_ s29 rfl ?_
  ·exact Eng.run_load_els [.int .i64 ((l.getD k default).kind), .string ((l.getD k default).anchor), .string ((l.getD k default).tag), .string ((l.getD k default).text), .bool ((l.getD k default).plain)] rfl (show act29.eval (.tmp 30) = Eng.elemPtr v_4 (k * 5) from h30_29) Fx_27 (Evt.cells_at l k (by omega)) rfl Tryd.underlying30 rfl (by kernel_rfl)
  intro act30 d30 s30 h31_30 hr
  have ⟨h0_30, h2_30, h3_30, h4_30, h15_30, h24_30, h26_30, h27_30, h28_30⟩ := Eng.k9 hr h0_29 h2_29 h3_29 h4_29 h15_29 h24_29 h26_29 h27_29 h28_29
  have d30 := d30.trans d29
  clear hr
  refine Eng.tail_ex rfl rfl rfl (Eng.alloc_ex (cs := #[.int .i64 0, .string ⟨#[]⟩, .string ⟨#[]⟩, .string ⟨#[]⟩, .bool false]) rfl (by kernel_rfl)) s30 rfl fun v_31 w31 act31 R d31 s31 h6_31 hr => ?_
  obtain ⟨g6_31, ev_31, rg_31, lg6_31, kg6_31, b_31⟩ := R
  have ⟨h0_31, h2_31, h3_31, h4_31, h15_31, h24_31, h26_31, h27_31, h28_31, h31_31⟩ := Eng.k10 hr h0_30 h2_30 h3_30 h4_30 h15_30 h24_30 h26_30 h27_30 h28_30 h31_30
  have d31 := d31.trans d30
  clear hr
  have og6_31 : w.heap.size ≤ g6_31 := Nat.le_trans bl27.size rg_31
  have Ox_31 := Eng.own_below Ox_27 b_31
  have XM_31 := Tm.Cn.below XM_27 b_31
  have bl31 := bl27.trans (b_31.mono bl27.size)
  rw [ev_31] at h6_31
  have ap_x_31 := Eng.own_new Ox_27 rg_31
  refine Eng.tail_put [.int .i64 ((l.getD k default).kind), .string ((l.getD k default).anchor), .string ((l.getD k default).tag), .string ((l.getD k default).text), .bool ((l.getD k default).plain)] (n := 0) (new := #[.int .i64 ((l.getD k default).kind), .string ((l.getD k default).anchor), .string ((l.getD k default).tag), .string ((l.getD k default).text), .bool ((l.getD k default).plain)]) rfl rfl rfl kg6_31 rfl ?_ fun w32 S => ?_
  ·have e0 : act31.eval (.tmp 6) = .pointer (some ⟨g6_31, 0, none⟩) := h6_31
   have e1 : act31.eval (.tmp 31) = .agg #[.int .i64 ((l.getD k default).kind), .string ((l.getD k default).anchor), .string ((l.getD k default).tag), .string ((l.getD k default).text), .bool ((l.getD k default).plain)] := h31_31
   have z0 := (Eng.cells kg6_31 (0)).trans (rfl)
   have f0 := Eng.unfrozen kg6_31 (0)
   have z1 := (Eng.cells kg6_31 (1)).trans (rfl)
   have f1 := Eng.unfrozen kg6_31 (1)
   have z2 := (Eng.cells kg6_31 (2)).trans (rfl)
   have f2 := Eng.unfrozen kg6_31 (2)
   have z3 := (Eng.cells kg6_31 (3)).trans (rfl)
   have f3 := Eng.unfrozen kg6_31 (3)
   have z4 := (Eng.cells kg6_31 (4)).trans (rfl)
   have f4 := Eng.unfrozen kg6_31 (4)
   simp only [execOp]
   rw [e0, e1]
   go_simp
   try rfl
  have kg6_31_32 := S.new
  have lg6_31_32 := Nat.lt_of_lt_of_eq lg6_31 S.size.symm
  have bl32 := S.below bl31 og6_31
  have Ox_32 := Eng.own_sets_ap Ox_31 S ap_x_31
  have XM_32 := Tm.Cn.sets XM_31 S kg6_31
  clear S
  refine Eng.tail_nil ?_
  refine wp_seq ?_
  obtain ⟨q34, Bq34⟩ : ∃ b : Bool, b = (((l.getD k default).kind) == 7) := ⟨_, rfl⟩
  refine Eng.rS [.pointer (some ⟨g6_31, 0, none⟩), .int .i64 ((l.getD k default).kind), .bool q34] (fun _ => .plain) 3 0 s31 ?_ ?_
  ·refine .c ?_ (.c ?_ (.c ?_ (.nil)))
   ·exact Eng.pv fun a w' H => Eng.vr rfl (Eng.run_fieldb rfl Tryd.underlying30 0 (by kernel_rfl) (H.q 6 h6_31))
   ·exact Eng.pv fun a w' H => Eng.vr rfl (Eng.run_loadb rfl (H.d 0 32) ((H.below.block _ lg6_31_32).trans kg6_31_32) rfl (by kernel_rfl))
   refine Eng.pv fun a w' H => ?_
   refine Eng.vr (v := .bool (((l.getD k default).kind) == 7)) (by show _ = Value.bool q34; rw [Bq34]) ?_
   have e0 : a.eval (.tmp 33) = .int .i64 ((l.getD k default).kind) := (H.d 1 33)
   have e1 : a.eval (.const (.int .i64 7)) = .int .i64 7 := rfl
   simp only [execOp, resolve, e0, e1]
   go_simp
  intro act33 w33 T
  have ⟨h0_33, h2_33, h3_33, h4_33, h6_33, h15_33, h24_33, h26_33, h27_33, h28_33⟩ := T.r10 h0_31 h2_31 h3_31 h4_31 h6_31 h15_31 h24_31 h26_31 h27_31 h28_31
  have kg6_31_33 := T.x lg6_31_32 kg6_31_32
  have lg6_31_33 := T.l lg6_31_32
  have Ox_33 := T.g Ox_32
  have h34_33 : act33.eval (.tmp 34) = .bool q34 := T.done 2 34 rfl rfl
  have d33 := T.e d31
  have s33 := T.z s31
  have bl33 := T.b bl32
  have XM_33 := Tm.Cn.below XM_32 T.below
  clear T
  refine Eng.tail_nil ?_
  refine wp_cond_split h34_33 (fun hq => ?_) (fun hq => ?_)
  ·
   have c34 := Bq34.symm.trans hq
   clear hq
   have h7 : (l.getD k default).kind = 7 := by simpa using c34
   have hkl := Tm.kl_str (s := (l.getD k default).anchor) (by unfold maxLen; omega)
   have hal : (Dc.askL (List.take k l)).length ≤ k := Nat.le_trans (Dc.ask_len _) (by rw [List.length_take]; omega)
   refine Eng.regionT (n := 6) rfl ?_
   refine Eng.tail_val rfl rfl rfl (Eng.run_move rfl h4_33) s33 rfl fun act35 d35 s35 h35_35 hr => ?_
   have ⟨h0_35, h2_35, h3_35, h4_35, h6_35, h15_35, h24_35, h26_35, h27_35, h28_35⟩ := Eng.k10 hr h0_33 h2_33 h3_33 h4_33 h6_33 h15_33 h24_33 h26_33 h27_33 h28_33
   have d35 := d35.trans d33
   clear hr
   refine Eng.tail_val (w1 := w33) (v := .pointer (some ⟨g6_31, 1, none⟩)) rfl rfl rfl ?_ s35 rfl ?_
   ·exact Eng.run_fieldb rfl Tryd.underlying30 1 (by kernel_rfl) h6_35
   intro act36 d36 s36 h36_36 hr
   have ⟨h0_36, h2_36, h3_36, h4_36, h15_36, h24_36, h26_36, h27_36, h28_36, h35_36⟩ := Eng.k10 hr h0_35 h2_35 h3_35 h4_35 h15_35 h24_35 h26_35 h27_35 h28_35 h35_35
   have d36 := d36.trans d35
   clear hr
   refine Eng.tail_val (w1 := w33) (v := .string ((l.getD k default).anchor)) rfl rfl rfl ?_ s36 rfl ?_
   ·exact Eng.run_loadb rfl h36_36 (((Below.refl _ _).block _ lg6_31_33).trans kg6_31_33) rfl (by kernel_rfl)
   intro act37 d37 s37 h37_37 hr
   have ⟨h0_37, h2_37, h3_37, h4_37, h15_37, h24_37, h26_37, h27_37, h28_37, h35_37⟩ := Eng.k10 hr h0_36 h2_36 h3_36 h4_36 h15_36 h24_36 h26_36 h27_36 h28_36 h35_36
   have d37 := d37.trans d36
   clear hr
   refine Eng.tail_val rfl rfl rfl (Eng.run_look0 rfl h35_37 h37_37 (Tm.Cn.look XM_33 Tm.key_str Tryd.underlying46 hkl)) s37 rfl fun act38 d38 s38 h38_38 hr => ?_
   have ⟨h0_38, h2_38, h3_38, h4_38, h15_38, h24_38, h26_38, h27_38, h28_38, h35_38⟩ := Eng.k10 hr h0_37 h2_37 h3_37 h4_37 h15_37 h24_37 h26_37 h27_37 h28_37 h35_37
   have h37_38 := Eng.k1 hr h37_37
   have d38 := d38.trans d37
   clear hr
   refine Eng.tail_val rfl rfl rfl (Eng.run_inc rfl h38_38 Tryd.underlying3 (Tm.cnt_bd _ _).1 (by have := (Tm.cnt_bd (.string (l.getD k default).anchor) (Dc.askL (List.take k l))).2; omega)) s38 rfl fun act39 d39 s39 h39_39 hr => ?_
   have ⟨h0_39, h2_39, h3_39, h4_39, h15_39, h24_39, h26_39, h27_39, h28_39, h35_39⟩ := Eng.k10 hr h0_38 h2_38 h3_38 h4_38 h15_38 h24_38 h26_38 h27_38 h28_38 h35_38
   have h37_39 := Eng.k1 hr h37_38
   have d39 := d39.trans d38
   clear hr
   obtain ⟨w40, rn_40, M_40, G_40⟩ := Tm.Cn.put XM_33 Tm.key_str Tryd.underlying46 hkl (by unfold maxLen; omega) (by omega)
   refine Eng.tail_skip rfl rfl rfl (Eng.run_upd rfl h35_39 h37_39 h39_39 rn_40) ?_
   have bl40 := bl33.grown G_40 bl33.size (fun j hj => by injection hj with hj; subst hj; exact Tm.Cn.lo XM_33)
   have Ox_40 := Tm.Cn.own_kept XM_33 Ox_33 G_40
   refine Eng.tail_nil ?_
   refine Eng.rS [.int .i64 (IntKind.i64.wrap ((k : Nat) + 1)), .int .i64 (IntKind.i64.wrap ((k : Nat) + 1))] (fun _ => .plain) 2 0 s39 ?_ ?_
   ·refine .c ?_ (.c ?_ (.nil))
    ·refine Eng.pv fun a w' H => ?_
     refine Eng.vr (v := .int .i64 (IntKind.i64.wrap ((k : Nat) + 1))) rfl ?_
     have e0 := (H.q 28 h28_39)
     have e1 : a.eval (.const (.int .i64 1)) = .int .i64 1 := rfl
     simp only [execOp, resolve, e0, e1]
     go_simp
    exact Eng.pv fun a w' H => Eng.vr rfl (Eng.run_move rfl (H.d 0 40))
   intro act41 w41 T
   have ⟨h0_41, h2_41, h3_41, h4_41, h15_41, h24_41, h26_41, h27_41⟩ := T.r8 h0_39 h2_39 h3_39 h4_39 h15_39 h24_39 h26_39 h27_39
   have Ox_41 := T.g Ox_40
   have h28_41 : act41.eval (.tmp 28) = .int .i64 (IntKind.i64.wrap ((k : Nat) + 1)) := T.done 1 28 rfl rfl
   have d41 := T.e d39
   have s41 := T.z s39
   have bl41 := T.b bl40
   have XM_41 := Tm.Cn.below M_40 T.below
   clear T
   refine Eng.tail_nil ?_
   exact ⟨_, by omega, k + 1, rfl, by omega, Ox_41, Tm.Cn.eqL XM_41 (Dc.ask_is hk0 h7), d41, s41, bl41, h0_41, h2_41, h3_41, h4_41, h15_41, h24_41, h26_41, h27_41, (h28_41.trans (by first | rfl | (congr 1; rw [Eng.i64_id (by omega) (by omega)]; omega) | (simp; done)))⟩
  have c34 := Bq34.symm.trans hq
  clear hq
  have h7 : ¬ (l.getD k default).kind = 7 := by simpa using c34
  refine wp_skip ?_
  refine Eng.rS [.int .i64 (IntKind.i64.wrap ((k : Nat) + 1)), .int .i64 (IntKind.i64.wrap ((k : Nat) + 1))] (fun _ => .plain) 2 0 s33 ?_ ?_
  ·refine .c ?_ (.c ?_ (.nil))
   ·refine Eng.pv fun a w' H => ?_
    refine Eng.vr (v := .int .i64 (IntKind.i64.wrap ((k : Nat) + 1))) rfl ?_
    have e0 := (H.q 28 h28_33)
    have e1 : a.eval (.const (.int .i64 1)) = .int .i64 1 := rfl
    simp only [execOp, resolve, e0, e1]
    go_simp
   exact Eng.pv fun a w' H => Eng.vr rfl (Eng.run_move rfl (H.d 0 40))
  intro act43 w43 T
  have ⟨h0_43, h2_43, h3_43, h4_43, h15_43, h24_43, h26_43, h27_43⟩ := T.r8 h0_33 h2_33 h3_33 h4_33 h15_33 h24_33 h26_33 h27_33
  have Ox_43 := T.g Ox_33
  have h28_43 : act43.eval (.tmp 28) = .int .i64 (IntKind.i64.wrap ((k : Nat) + 1)) := T.done 1 28 rfl rfl
  have d43 := T.e d33
  have s43 := T.z s33
  have bl43 := T.b bl33
  have XM_43 := Tm.Cn.below XM_33 T.below
  clear T
  refine Eng.tail_nil ?_
  exact ⟨_, by omega, k + 1, rfl, by omega, Ox_43, Tm.Cn.eqL (Tm.Cn.mono XM_43 (Nat.le_succ _)) (Dc.ask_not hk0 h7), d43, s43, bl43, h0_43, h2_43, h3_43, h4_43, h15_43, h24_43, h26_43, h27_43, (h28_43.trans (by first | rfl | (congr 1; rw [Eng.i64_id (by omega) (by omega)]; omega) | (simp; done)))⟩
 have c29 := Bq29.symm.trans hq
 clear hq
 have c29 := of_decide_eq_false c29
 have hke : k = l.length := by omega
 obtain ⟨L, hL⟩ : ∃ L, L = Dc.askL l := ⟨_, rfl⟩
 have M_45 := Tm.Cn.eqL (Tm.Cn.mono XM_27 (Nat.le_of_eq hke)) (show L = Dc.askL (List.take k l) by rw [hL, hke, List.take_length])
 refine wp_exit ?_
 refine wp_seq ?_
 refine (wpIn_wide (n := 1)).1 ?_
 refine EngI.regionT (n := 3) rfl ?_
 refine EngI.tv rfl (Eng.run_move rfl h0_27) s27 fun act46 d46 s46 h41_46 hr => ?_
 have ⟨h0_46, h2_46, h3_46, h4_46, h15_46, h24_46, h26_46, h27_46, h28_46, h29_46⟩ := Eng.k10 hr h0_27 h2_27 h3_27 h4_27 h15_27 h24_27 h26_27 h27_27 h28_27 h29_27
 have d46 := d46.trans d27
 clear hr
 refine EngI.tail_call EngI.free_wide Tryd.func13 (by kernel_rfl) (by kernel_rfl) rfl rfl rfl rfl #[v] (by have e0 : act46.eval (.tmp 41) = v := h41_46; simp only [List.map_toArray, List.map_cons, List.map_nil, e0]) s46 rfl (R := fun v w' => w'.ownsRow w27.heap.size 30 5 v l.length (Evt.cells l) ∧ Below w27.heap.size w27 w') ((Evt.theirs_calls v l _ Fl_27 hll).mono ?_) fun v_47 w47 act47 R d47 s47 h42_47 hr => ?_
 ·rintro e w1 ⟨o, rfl, r⟩; exact ⟨_, rfl, r⟩
 have ⟨h0_47, h2_47, h3_47, h4_47, h15_47, h24_47, h26_47, h27_47, h28_47, h29_47⟩ := Eng.k10 hr h0_46 h2_46 h3_46 h4_46 h15_46 h24_46 h26_46 h27_46 h28_46 h29_46
 have d47 := d47.trans d46
 clear hr
 obtain ⟨O_47, b_47⟩ := R
 have axo := Dc.apart_age Ox_27 O_47 (Nat.le_refl _)
 have Ox_47 := Eng.own_below Ox_27 b_47
 have XM_47 := Tm.Cn.below M_45 b_47
 have bl47 := bl27.trans (b_47.mono bl27.size)
 have Oo_47 := Eng.own_mono O_47 bl27.size
 have Fo_47 := Eng.Reads.of_own Oo_47
 refine EngI.tv rfl (Eng.run_assign rfl h42_47) s47 fun act48 d48 s48 h7_48 hr => ?_
 have ⟨h0_48, h2_48, h3_48, h4_48, h15_48, h24_48, h26_48, h27_48, h28_48, h29_48⟩ := Eng.k10 hr h0_47 h2_47 h3_47 h4_47 h15_47 h24_47 h26_47 h27_47 h28_47 h29_47
 have d48 := d48.trans d47
 clear hr
 refine EngI.tail_nil ?_
 refine wp_seq ?_
 refine wp_seq ?_
 refine Eng.rS [v_47, .int .i64 ((l.length : Nat) : Int), .int .i64 0] (fun _ => .plain) 3 0 s48 ?_ ?_
 ·refine .c ?_ (.c ?_ (.c ?_ (.nil)))
  ·exact Eng.pv fun a w' H => Eng.vr rfl (Eng.run_move rfl (H.q 7 h7_48))
  ·exact Eng.pv fun a w' H => Eng.vr (v := .int .i64 ((l.length : Nat) : Int)) rfl (Eng.run_len_sl rfl Tryd.underlying37 (show a.eval (.tmp 43) = v_47 from (H.d 0 43)) (Eng.Reads.below Fo_47 H.below))
  exact Eng.pv fun a w' H => Eng.vr rfl (Eng.run_move rfl (rfl : a.eval (.const (.int .i64 0)) = .int .i64 0))
 intro act49 w49 T
 have ⟨h0_49, h2_49, h3_49, h4_49, h7_49, h15_49, h24_49, h26_49, h27_49, h28_49⟩ := T.r10 h0_48 h2_48 h3_48 h4_48 h7_48 h15_48 h24_48 h26_48 h27_48 h28_48
 have h29_49 := T.r1 h29_48
 have Ox_49 := T.g Ox_47
 have Oo_49 := T.g Oo_47
 have h43_49 : act49.eval (.tmp 43) = v_47 := T.done 0 43 rfl rfl
 have h44_49 : act49.eval (.tmp 44) = .int .i64 ((l.length : Nat) : Int) := T.done 1 44 rfl rfl
 have h45_49 : act49.eval (.tmp 45) = .int .i64 0 := T.done 2 45 rfl rfl
 have d49 := T.e d48
 have s49 := T.z s48
 have bl49 := T.b bl47
 have XM_49 := Tm.Cn.below XM_47 T.below
 clear T
 refine Eng.tail_nil ?_
 refine wp_block ?_
 refine Eng.loopN (fun n a w' => ∃ (j : Nat), l.length - j = n ∧ (j ≤ l.length) ∧ (w'.ownsRow w.heap.size 30 5 v_4 l.length (Evt.cells l)) ∧ (w'.ownsRow w.heap.size 30 5 v_47 l.length (Evt.cells (Dc.half L l j))) ∧ (Tm.Cn w' w.heap.size mb 9 l.length L) ∧ a.defers = [] ∧ a.tmps.size = 98 ∧ Below w.heap.size w w' ∧ a.eval (.tmp 0) = v ∧ a.eval (.tmp 2) = .bool false ∧ a.eval (.tmp 3) = v_4 ∧ a.eval (.tmp 4) = .map (some mb) ∧ a.eval (.tmp 7) = v_47 ∧ a.eval (.tmp 15) = .bool q15 ∧ a.eval (.tmp 24) = .bool (!q22) ∧ a.eval (.tmp 26) = v_4 ∧ a.eval (.tmp 27) = .int .i64 ((l.length : Nat) : Int) ∧ a.eval (.tmp 28) = .int .i64 (k : Nat) ∧ a.eval (.tmp 29) = .bool q29 ∧ a.eval (.tmp 43) = v_47 ∧ a.eval (.tmp 44) = .int .i64 ((l.length : Nat) : Int) ∧ a.eval (.tmp 45) = .int .i64 (j : Nat)) (n0 := l.length - 0) ?_ ?_
 ·exact ⟨0, rfl, Nat.zero_le _, Ox_49, Oo_49, XM_49, d49, s49, bl49, h0_49, h2_49, h3_49, h4_49, h7_49, h15_49, h24_49, h26_49, h27_49, h28_49, h29_49, h43_49, h44_49, (h45_49.trans (by first | rfl | (congr 1; rw [Eng.i64_id (by omega) (by omega)]; omega) | (simp; done)))⟩
 rintro n act50 w50 ⟨j, rfl, hc0_50, hc1_50, hc2_50, hc3_50, d50, s50, bl50, h0_50, h2_50, h3_50, h4_50, h7_50, h15_50, h24_50, h26_50, h27_50, h28_50, h29_50, h43_50, h44_50, h45_50⟩
 have hj1 := hc0_50
 have Fx_50 := Eng.Reads.of_own hc1_50
 have Fo_50 := Eng.Reads.of_own hc2_50
 refine wp_seq ?_
 obtain ⟨q46, Bq46⟩ : ∃ b : Bool, b = (decide ((j : Nat) < ((l.length : Nat) : Int))) := ⟨_, rfl⟩
 refine Eng.rS [.bool q46] (fun _ => .plain) 1 0 s50 ?_ ?_
 ·refine .c ?_ (.nil)
  ·refine Eng.pv fun a w' H => ?_
   refine Eng.vr (v := .bool (decide ((j : Nat) < ((l.length : Nat) : Int)))) (by show _ = Value.bool q46; rw [Bq46]) ?_
   have e0 := (H.q 45 h45_50)
   have e1 := (H.q 44 h44_50)
   simp only [execOp, resolve, e0, e1]
   go_simp
 intro act51 w51 T
 have ⟨h0_51, h2_51, h3_51, h4_51, h7_51, h15_51, h24_51, h26_51, h27_51, h28_51⟩ := T.r10 h0_50 h2_50 h3_50 h4_50 h7_50 h15_50 h24_50 h26_50 h27_50 h28_50
 have ⟨h29_51, h43_51, h44_51, h45_51⟩ := T.r4 h29_50 h43_50 h44_50 h45_50
 have Fx_51 := T.f Fx_50
 have Ox_51 := T.g hc1_50
 have Fo_51 := T.f Fo_50
 have Oo_51 := T.g hc2_50
 have h46_51 : act51.eval (.tmp 46) = .bool q46 := T.done 0 46 rfl rfl
 have d51 := T.e d50
 have s51 := T.z s50
 have bl51 := T.b bl50
 have XM_51 := Tm.Cn.below hc3_50 T.below
 clear T
 refine Eng.tail_nil ?_
 refine wp_seq ?_
 refine wp_cond_split h46_51 (fun hq => ?_) (fun hq => ?_)
 ·
  have c46 := Bq46.symm.trans hq
  clear hq
  have c46 := of_decide_eq_true c46
  have hj0 : j < l.length := by omega
  refine wp_skip ?_
  refine wp_seq ?_
  refine wp_block ?_
  refine wp_seq ?_
  refine Eng.regionT (n := 6) rfl ?_
  refine Eng.tail_val rfl rfl rfl (Eng.run_move rfl h45_51) s51 rfl fun act53 d53 s53 h47_53 hr => ?_
  have ⟨h0_53, h2_53, h3_53, h4_53, h7_53, h15_53, h24_53, h26_53, h27_53, h28_53⟩ := Eng.k10 hr h0_51 h2_51 h3_51 h4_51 h7_51 h15_51 h24_51 h26_51 h27_51 h28_51
  have ⟨h29_53, h43_53, h44_53, h45_53⟩ := Eng.k4 hr h29_51 h43_51 h44_51 h45_51
  have d53 := d53.trans d51
  clear hr
  refine Eng.tail_val (w1 := w51) (v := Eng.elemPtr v_47 (j * 5)) rfl rfl rfl ?_ s53 rfl ?_
  ·exact Eng.run_index_sl rfl Tryd.underlying37 (by kernel_rfl) (show act53.eval (.tmp 43) = v_47 from h43_53) ((show act53.eval (.tmp 45) = .int .i64 (j : Nat) from h45_53).trans (congrArg (Value.int _) (show (j : Nat) = ((j : Nat) : Int) from by omega))) Fo_51 (by omega) rfl
  intro act54 d54 s54 h48_54 hr
  have ⟨h0_54, h2_54, h3_54, h4_54, h7_54, h15_54, h24_54, h26_54, h27_54, h28_54⟩ := Eng.k10 hr h0_53 h2_53 h3_53 h4_53 h7_53 h15_53 h24_53 h26_53 h27_53 h28_53
  have ⟨h29_54, h43_54, h44_54, h45_54, h47_54⟩ := Eng.k5 hr h29_53 h43_53 h44_53 h45_53 h47_53
  have d54 := d54.trans d53
  clear hr
  refine Eng.tail_val (w1 := w51) (v := .agg #[.int .i64 ((l.getD j default).kind), .string ((l.getD j default).anchor), .string ((l.getD j default).tag), .string ((l.getD j default).text), .bool ((l.getD j default).plain)]) rfl rfl rfl ?_ s54 rfl ?_
  ·exact Eng.run_load_els [.int .i64 ((l.getD j default).kind), .string ((l.getD j default).anchor), .string ((l.getD j default).tag), .string ((l.getD j default).text), .bool ((l.getD j default).plain)] rfl (show act54.eval (.tmp 48) = Eng.elemPtr v_47 (j * 5) from h48_54) Fo_51 (Dc.half_cells L l hj0) rfl Tryd.underlying30 rfl (by kernel_rfl)
  intro act55 d55 s55 h49_55 hr
  have ⟨h0_55, h2_55, h3_55, h4_55, h7_55, h15_55, h24_55, h26_55, h27_55, h28_55⟩ := Eng.k10 hr h0_54 h2_54 h3_54 h4_54 h7_54 h15_54 h24_54 h26_54 h27_54 h28_54
  have ⟨h29_55, h43_55, h44_55, h45_55, h47_55⟩ := Eng.k5 hr h29_54 h43_54 h44_54 h45_54 h47_54
  have d55 := d55.trans d54
  clear hr
  refine Eng.tail_ex rfl rfl rfl (Eng.alloc_ex (cs := #[.int .i64 0, .string ⟨#[]⟩, .string ⟨#[]⟩, .string ⟨#[]⟩, .bool false]) rfl (by kernel_rfl)) s55 rfl fun v_56 w56 act56 R d56 s56 h9_56 hr => ?_
  obtain ⟨g9_56, ev_56, rg_56, lg9_56, kg9_56, b_56⟩ := R
  have ⟨h0_56, h2_56, h3_56, h4_56, h7_56, h15_56, h24_56, h26_56, h27_56, h28_56⟩ := Eng.k10 hr h0_55 h2_55 h3_55 h4_55 h7_55 h15_55 h24_55 h26_55 h27_55 h28_55
  have ⟨h29_56, h43_56, h44_56, h45_56, h47_56, h49_56⟩ := Eng.k6 hr h29_55 h43_55 h44_55 h45_55 h47_55 h49_55
  have d56 := d56.trans d55
  clear hr
  have og9_56 : w.heap.size ≤ g9_56 := Nat.le_trans bl51.size rg_56
  have Ox_56 := Eng.own_below Ox_51 b_56
  have Oo_56 := Eng.own_below Oo_51 b_56
  have XM_56 := Tm.Cn.below XM_51 b_56
  have bl56 := bl51.trans (b_56.mono bl51.size)
  rw [ev_56] at h9_56
  have ap_x_56 := Eng.own_new Ox_51 rg_56
  have ap_o_56 := Eng.own_new Oo_51 rg_56
  refine Eng.tail_val rfl rfl rfl (Eng.run_assign rfl h47_56) s56 rfl fun act57 d57 s57 h8_57 hr => ?_
  have ⟨h0_57, h2_57, h3_57, h4_57, h7_57, h9_57, h15_57, h24_57, h26_57, h27_57⟩ := Eng.k10 hr h0_56 h2_56 h3_56 h4_56 h7_56 h9_56 h15_56 h24_56 h26_56 h27_56
  have ⟨h28_57, h29_57, h43_57, h44_57, h45_57, h49_57⟩ := Eng.k6 hr h28_56 h29_56 h43_56 h44_56 h45_56 h49_56
  have d57 := d57.trans d56
  clear hr
  refine Eng.tail_put [.int .i64 ((l.getD j default).kind), .string ((l.getD j default).anchor), .string ((l.getD j default).tag), .string ((l.getD j default).text), .bool ((l.getD j default).plain)] (n := 0) (new := #[.int .i64 ((l.getD j default).kind), .string ((l.getD j default).anchor), .string ((l.getD j default).tag), .string ((l.getD j default).text), .bool ((l.getD j default).plain)]) rfl rfl rfl kg9_56 rfl ?_ fun w58 S => ?_
  ·have e0 : act57.eval (.tmp 9) = .pointer (some ⟨g9_56, 0, none⟩) := h9_57
   have e1 : act57.eval (.tmp 49) = .agg #[.int .i64 ((l.getD j default).kind), .string ((l.getD j default).anchor), .string ((l.getD j default).tag), .string ((l.getD j default).text), .bool ((l.getD j default).plain)] := h49_57
   have z0 := (Eng.cells kg9_56 (0)).trans (rfl)
   have f0 := Eng.unfrozen kg9_56 (0)
   have z1 := (Eng.cells kg9_56 (1)).trans (rfl)
   have f1 := Eng.unfrozen kg9_56 (1)
   have z2 := (Eng.cells kg9_56 (2)).trans (rfl)
   have f2 := Eng.unfrozen kg9_56 (2)
   have z3 := (Eng.cells kg9_56 (3)).trans (rfl)
   have f3 := Eng.unfrozen kg9_56 (3)
   have z4 := (Eng.cells kg9_56 (4)).trans (rfl)
   have f4 := Eng.unfrozen kg9_56 (4)
   simp only [execOp]
   rw [e0, e1]
   go_simp
   try rfl
  have kg9_56_58 := S.new
  have lg9_56_58 := Nat.lt_of_lt_of_eq lg9_56 S.size.symm
  have bl58 := S.below bl56 og9_56
  have Ox_58 := Eng.own_sets_ap Ox_56 S ap_x_56
  have Oo_58 := Eng.own_sets_ap Oo_56 S ap_o_56
  have Fo_58 := Eng.Reads.of_own Oo_58
  have XM_58 := Tm.Cn.sets XM_56 S kg9_56
  clear S
  refine Eng.tail_nil ?_
  refine wp_seq ?_
  refine wp_seq ?_
  obtain ⟨q52, Bq52⟩ : ∃ b : Bool, b = (((l.getD j default).anchor).toList.isEmpty) := ⟨_, rfl⟩
  refine Eng.rS [.pointer (some ⟨g9_56, 1, none⟩), .string ((l.getD j default).anchor), .bool q52] (fun _ => .plain) 3 0 s57 ?_ ?_
  ·refine .c ?_ (.c ?_ (.c ?_ (.nil)))
   ·exact Eng.pv fun a w' H => Eng.vr rfl (Eng.run_fieldb rfl Tryd.underlying30 1 (by kernel_rfl) (H.q 9 h9_57))
   ·exact Eng.pv fun a w' H => Eng.vr rfl (Eng.run_loadb rfl (H.d 0 50) ((H.below.block _ lg9_56_58).trans kg9_56_58) rfl (by kernel_rfl))
   refine Eng.pv fun a w' H => ?_
   refine Eng.vr (v := .bool (((l.getD j default).anchor).toList.isEmpty)) (by show _ = Value.bool q52; rw [Bq52]) ?_
   have e0 : a.eval (.tmp 51) = .string ((l.getD j default).anchor) := (H.d 1 51)
   have e1 : a.eval (.const (.string ⟨#[]⟩)) = .string ⟨#[]⟩ := rfl
   simp only [execOp, resolve, e0, e1]
   go_simp
  intro act59 w59 T
  have ⟨h0_59, h2_59, h3_59, h4_59, h7_59, h8_59, h9_59, h15_59, h24_59, h26_59⟩ := T.r10 h0_57 h2_57 h3_57 h4_57 h7_57 h8_57 h9_57 h15_57 h24_57 h26_57
  have ⟨h27_59, h28_59, h29_59, h43_59, h44_59, h45_59⟩ := T.r6 h27_57 h28_57 h29_57 h43_57 h44_57 h45_57
  have kg9_56_59 := T.x lg9_56_58 kg9_56_58
  have lg9_56_59 := T.l lg9_56_58
  have Ox_59 := T.g Ox_58
  have Fo_59 := T.f Fo_58
  have Oo_59 := T.g Oo_58
  have h52_59 : act59.eval (.tmp 52) = .bool q52 := T.done 2 52 rfl rfl
  have d59 := T.e d57
  have s59 := T.z s57
  have bl59 := T.b bl58
  have XM_59 := Tm.Cn.below XM_58 T.below
  clear T
  refine Eng.tail_nil ?_
  refine wp_cond_split h52_59 (fun hq => ?_) (fun hq => ?_)
  ·
   have c52 := Bq52.symm.trans hq
   clear hq
   have hren := Dc.ren_em (L := L) c52
   refine wp_exit ?_
   refine Eng.rS [.int .i64 (IntKind.i64.wrap ((j : Nat) + 1)), .int .i64 (IntKind.i64.wrap ((j : Nat) + 1))] (fun _ => .plain) 2 0 s59 ?_ ?_
   ·refine .c ?_ (.c ?_ (.nil))
    ·refine Eng.pv fun a w' H => ?_
     refine Eng.vr (v := .int .i64 (IntKind.i64.wrap ((j : Nat) + 1))) rfl ?_
     have e0 := (H.q 45 h45_59)
     have e1 : a.eval (.const (.int .i64 1)) = .int .i64 1 := rfl
     simp only [execOp, resolve, e0, e1]
     go_simp
    exact Eng.pv fun a w' H => Eng.vr rfl (Eng.run_move rfl (H.d 0 74))
   intro act61 w61 T
   have ⟨h0_61, h2_61, h3_61, h4_61, h7_61, h15_61, h24_61, h26_61, h27_61, h28_61⟩ := T.r10 h0_59 h2_59 h3_59 h4_59 h7_59 h15_59 h24_59 h26_59 h27_59 h28_59
   have ⟨h29_61, h43_61, h44_61⟩ := T.r3 h29_59 h43_59 h44_59
   have Ox_61 := T.g Ox_59
   have Oo_61 := T.g Oo_59
   have h45_61 : act61.eval (.tmp 45) = .int .i64 (IntKind.i64.wrap ((j : Nat) + 1)) := T.done 1 45 rfl rfl
   have d61 := T.e d59
   have s61 := T.z s59
   have bl61 := T.b bl59
   have XM_61 := Tm.Cn.below XM_59 T.below
   clear T
   refine Eng.tail_nil ?_
   exact ⟨_, by omega, j + 1, rfl, by omega, Ox_61, Dc.half_keep hj0 hren Oo_61, XM_61, d61, s61, bl61, h0_61, h2_61, h3_61, h4_61, h7_61, h15_61, h24_61, h26_61, h27_61, h28_61, h29_61, h43_61, h44_61, (h45_61.trans (by first | rfl | (congr 1; rw [Eng.i64_id (by omega) (by omega)]; omega) | (simp; done)))⟩
  have c52 := Bq52.symm.trans hq
  clear hq
  have hne := c52
  have hkl := Tm.kl_str (s := (l.getD j default).anchor) (by have := (la_.at_ hj0).2.1; unfold maxLen; omega)
  refine wp_skip ?_
  refine wp_seq ?_
  refine (wpIn_wide (n := 1)).1 ?_
  refine EngI.regionT (n := 10) rfl ?_
  refine EngI.tv (w1 := w59) (v := .pointer (some ⟨g9_56, 0, none⟩)) rfl ?_ s59 ?_
  ·exact Eng.run_fieldb rfl Tryd.underlying30 0 (by kernel_rfl) h9_59
  intro act63 d63 s63 h53_63 hr
  have ⟨h0_63, h2_63, h3_63, h4_63, h7_63, h8_63, h9_63, h15_63, h24_63, h26_63⟩ := Eng.k10 hr h0_59 h2_59 h3_59 h4_59 h7_59 h8_59 h9_59 h15_59 h24_59 h26_59
  have ⟨h27_63, h28_63, h29_63, h43_63, h44_63, h45_63⟩ := Eng.k6 hr h27_59 h28_59 h29_59 h43_59 h44_59 h45_59
  have d63 := d63.trans d59
  clear hr
  refine EngI.tv (w1 := w59) (v := .int .i64 ((l.getD j default).kind)) rfl ?_ s63 ?_
  ·exact Eng.run_loadb rfl h53_63 (((Below.refl _ _).block _ lg9_56_59).trans kg9_56_59) rfl (by kernel_rfl)
  intro act64 d64 s64 h54_64 hr
  have ⟨h0_64, h2_64, h3_64, h4_64, h7_64, h8_64, h9_64, h15_64, h24_64, h26_64⟩ := Eng.k10 hr h0_63 h2_63 h3_63 h4_63 h7_63 h8_63 h9_63 h15_63 h24_63 h26_63
  have ⟨h27_64, h28_64, h29_64, h43_64, h44_64, h45_64⟩ := Eng.k6 hr h27_63 h28_63 h29_63 h43_63 h44_63 h45_63
  have d64 := d64.trans d63
  clear hr
  obtain ⟨q55, Bq55⟩ : ∃ b : Bool, b = (!(((l.getD j default).kind) == 7)) := ⟨_, rfl⟩
  refine EngI.tv (w1 := w59) (v := .bool (!(((l.getD j default).kind) == 7))) rfl ?_ s64 ?_
  ·have e0 : act64.eval (.tmp 54) = .int .i64 ((l.getD j default).kind) := h54_64
   have e1 : act64.eval (.const (.int .i64 7)) = .int .i64 7 := rfl
   simp only [execOp, resolve, e0, e1]
   go_simp
   all_goals first | rfl | (simp; done) | (rw [Bool.eq_iff_iff]; simp; done) | omega | (split <;> first | (simp_all; done) | (split <;> simp_all; done)) | skip
  intro act65 d65 s65 hv hr
  have ⟨h0_65, h2_65, h3_65, h4_65, h7_65, h8_65, h9_65, h15_65, h24_65, h26_65⟩ := Eng.k10 hr h0_64 h2_64 h3_64 h4_64 h7_64 h8_64 h9_64 h15_64 h24_64 h26_64
  have ⟨h27_65, h28_65, h29_65, h43_65, h44_65, h45_65⟩ := Eng.k6 hr h27_64 h28_64 h29_64 h43_64 h44_64 h45_64
  have h55_65 : act65.eval (.tmp 55) = .bool q55 := hv.trans (congrArg Value.bool Bq55.symm)
  have d65 := d65.trans d64
  clear hv hr
  refine EngI.tv rfl (Eng.run_move rfl h55_65) s65 fun act66 d66 s66 h56_66 hr => ?_
  have ⟨h0_66, h2_66, h3_66, h4_66, h7_66, h8_66, h9_66, h15_66, h24_66, h26_66⟩ := Eng.k10 hr h0_65 h2_65 h3_65 h4_65 h7_65 h8_65 h9_65 h15_65 h24_65 h26_65
  have ⟨h27_66, h28_66, h29_66, h43_66, h44_66, h45_66, h55_66⟩ := Eng.k7 hr h27_65 h28_65 h29_65 h43_65 h44_65 h45_65 h55_65
  have d66 := d66.trans d65
  clear hr
  rcases Bool.eq_false_or_eq_true q55 with hq | hq
  ·
   have kn67 := hq
   have c56 := Bq55.symm.trans hq
   clear hq
   have h55_kn67 := h55_66.trans (congrArg Value.bool kn67)
   have h56_kn67 := h56_66.trans (congrArg Value.bool kn67)
   have h56 := c56
   refine EngG.tail_val EngI.free_wide rfl (EngG.wanted_on (want := true) rfl rfl rfl (by rw [s66]; decide) h56_kn67) rfl rfl (Eng.run_move rfl h4_66) s66 rfl fun act68 d68 s68 h57_68 hr => ?_
   have ⟨h0_68, h2_68, h3_68, h4_68, h7_68, h8_68, h9_68, h15_68, h24_68, h26_68⟩ := Eng.k10 hr h0_66 h2_66 h3_66 h4_66 h7_66 h8_66 h9_66 h15_66 h24_66 h26_66
   have ⟨h27_68, h28_68, h29_68, h43_68, h44_68, h45_68⟩ := Eng.k6 hr h27_66 h28_66 h29_66 h43_66 h44_66 h45_66
   have h56_68 : act68.eval (.tmp 56) = .bool true := (hr 56 rfl).trans h56_kn67
   have d68 := d68.trans d66
   clear hr
   refine EngG.tail_val (w1 := w59) (v := .pointer (some ⟨g9_56, 1, none⟩)) EngI.free_wide rfl (EngG.wanted_on (want := true) rfl rfl rfl (by rw [s68]; decide) h56_68) rfl rfl ?_ s68 rfl ?_
   ·exact Eng.run_fieldb rfl Tryd.underlying30 1 (by kernel_rfl) h9_68
   intro act69 d69 s69 h58_69 hr
   have ⟨h0_69, h2_69, h3_69, h4_69, h7_69, h8_69, h9_69, h15_69, h24_69, h26_69⟩ := Eng.k10 hr h0_68 h2_68 h3_68 h4_68 h7_68 h8_68 h9_68 h15_68 h24_68 h26_68
   have ⟨h27_69, h28_69, h29_69, h43_69, h44_69, h45_69, h56_69, h57_69⟩ := Eng.k8 hr h27_68 h28_68 h29_68 h43_68 h44_68 h45_68 h56_68 h57_68
   have d69 := d69.trans d68
   clear hr
   refine EngG.tail_val (w1 := w59) (v := .string ((l.getD j default).anchor)) EngI.free_wide rfl (EngG.wanted_on (want := true) rfl rfl rfl (by rw [s69]; decide) h56_69) rfl rfl ?_ s69 rfl ?_
   ·exact Eng.run_loadb rfl h58_69 (((Below.refl _ _).block _ lg9_56_59).trans kg9_56_59) rfl (by kernel_rfl)
   intro act70 d70 s70 h59_70 hr
   have ⟨h0_70, h2_70, h3_70, h4_70, h7_70, h8_70, h9_70, h15_70, h24_70, h26_70⟩ := Eng.k10 hr h0_69 h2_69 h3_69 h4_69 h7_69 h8_69 h9_69 h15_69 h24_69 h26_69
   have ⟨h27_70, h28_70, h29_70, h43_70, h44_70, h45_70, h56_70, h57_70⟩ := Eng.k8 hr h27_69 h28_69 h29_69 h43_69 h44_69 h45_69 h56_69 h57_69
   have d70 := d70.trans d69
   clear hr
   refine EngG.tail_val EngI.free_wide rfl (EngG.wanted_on (want := true) rfl rfl rfl (by rw [s70]; decide) h56_70) rfl rfl (Eng.run_look0 rfl h57_70 h59_70 (Tm.Cn.look XM_59 Tm.key_str Tryd.underlying46 hkl)) s70 rfl fun act71 d71 s71 h60_71 hr => ?_
   have ⟨h0_71, h2_71, h3_71, h4_71, h7_71, h8_71, h9_71, h15_71, h24_71, h26_71⟩ := Eng.k10 hr h0_70 h2_70 h3_70 h4_70 h7_70 h8_70 h9_70 h15_70 h24_70 h26_70
   have ⟨h27_71, h28_71, h29_71, h43_71, h44_71, h45_71, h56_71⟩ := Eng.k7 hr h27_70 h28_70 h29_70 h43_70 h44_70 h45_70 h56_70
   have d71 := d71.trans d70
   clear hr
   obtain ⟨q61, Bq61⟩ : ∃ b : Bool, b = ((Tm.cnt L (.string (l.getD j default).anchor)) == 0) := ⟨_, rfl⟩
   refine EngG.tail_val (w1 := w59) (v := .bool ((Tm.cnt L (.string (l.getD j default).anchor)) == 0)) EngI.free_wide rfl (EngG.wanted_on (want := true) rfl rfl rfl (by rw [s71]; decide) h56_71) rfl rfl ?_ s71 rfl ?_
   ·have e0 : act71.eval (.tmp 60) = .int .i64 (Tm.cnt L (.string (l.getD j default).anchor)) := h60_71
    have e1 : act71.eval (.const (.int .i64 0)) = .int .i64 0 := rfl
    simp only [execOp, resolve, e0, e1]
    go_simp
   intro act72 d72 s72 hv hr
   have ⟨h0_72, h2_72, h3_72, h4_72, h7_72, h8_72, h9_72, h15_72, h24_72, h26_72⟩ := Eng.k10 hr h0_71 h2_71 h3_71 h4_71 h7_71 h8_71 h9_71 h15_71 h24_71 h26_71
   have ⟨h27_72, h28_72, h29_72, h43_72, h44_72, h45_72, h56_72⟩ := Eng.k7 hr h27_71 h28_71 h29_71 h43_71 h44_71 h45_71 h56_71
   have h61_72 : act72.eval (.tmp 61) = .bool q61 := hv.trans (congrArg Value.bool Bq61.symm)
   have d72 := d72.trans d71
   clear hv hr
   refine EngI.tv rfl (Eng.run_pick rfl h56_72 (v := .bool q61) (by exact h61_72)) s72 fun act73 d73 s73 h62_73 hr => ?_
   have ⟨h0_73, h2_73, h3_73, h4_73, h7_73, h8_73, h9_73, h15_73, h24_73, h26_73⟩ := Eng.k10 hr h0_72 h2_72 h3_72 h4_72 h7_72 h8_72 h9_72 h15_72 h24_72 h26_72
   have ⟨h27_73, h28_73, h29_73, h43_73, h44_73, h45_73⟩ := Eng.k6 hr h27_72 h28_72 h29_72 h43_72 h44_72 h45_72
   have d73 := d73.trans d72
   clear hr
   refine EngI.tail_nil ?_
   refine wp_cond_split h62_73 (fun hq => ?_) (fun hq => ?_)
   ·
    have c62 := Bq61.symm.trans hq
    clear hq
    have hren := Dc.ren_no (L := L) hne h56 c62
    refine (wpIn_wide (n := 1)).1 ?_
    refine EngI.regionT (n := 5) rfl ?_
    refine EngI.tv rfl (Eng.run_move rfl h7_73) s73 fun act75 d75 s75 h63_75 hr => ?_
    have ⟨h0_75, h2_75, h3_75, h4_75, h7_75, h8_75, h15_75, h24_75, h26_75, h27_75⟩ := Eng.k10 hr h0_73 h2_73 h3_73 h4_73 h7_73 h8_73 h15_73 h24_73 h26_73 h27_73
    have ⟨h28_75, h29_75, h43_75, h44_75, h45_75⟩ := Eng.k5 hr h28_73 h29_73 h43_73 h44_73 h45_73
    have d75 := d75.trans d73
    clear hr
    refine EngI.tv rfl (Eng.run_move rfl h8_75) s75 fun act76 d76 s76 h64_76 hr => ?_
    have ⟨h0_76, h2_76, h3_76, h4_76, h7_76, h15_76, h24_76, h26_76, h27_76, h28_76⟩ := Eng.k10 hr h0_75 h2_75 h3_75 h4_75 h7_75 h15_75 h24_75 h26_75 h27_75 h28_75
    have ⟨h29_76, h43_76, h44_76, h45_76, h63_76⟩ := Eng.k5 hr h29_75 h43_75 h44_75 h45_75 h63_75
    have d76 := d76.trans d75
    clear hr
    refine EngI.tv (w1 := w59) (v := Eng.elemPtr v_47 (j * 5)) rfl ?_ s76 ?_
    ·exact Eng.run_index_sl rfl Tryd.underlying37 (by kernel_rfl) (show act76.eval (.tmp 63) = v_47 from h63_76) ((show act76.eval (.tmp 64) = .int .i64 (j : Nat) from h64_76).trans (congrArg (Value.int _) (show (j : Nat) = ((j : Nat) : Int) from by omega))) Fo_59 (by omega) rfl
    intro act77 d77 s77 h65_77 hr
    have ⟨h0_77, h2_77, h3_77, h4_77, h7_77, h15_77, h24_77, h26_77, h27_77, h28_77⟩ := Eng.k10 hr h0_76 h2_76 h3_76 h4_76 h7_76 h15_76 h24_76 h26_76 h27_76 h28_76
    have ⟨h29_77, h43_77, h44_77, h45_77⟩ := Eng.k4 hr h29_76 h43_76 h44_76 h45_76
    have d77 := d77.trans d76
    clear hr
    refine EngI.tv (w1 := w59) (v := Eng.elemPtr v_47 (j * 5 + 1)) rfl ?_ s77 ?_
    ·exact Eng.run_field_el rfl Tryd.underlying30 1 (by kernel_rfl) (show act77.eval (.tmp 65) = Eng.elemPtr v_47 (j * 5) from h65_77) Fo_59 (by have h_ : j < l.length := (by omega); omega)
    intro act78 d78 s78 h66_78 hr
    have ⟨h0_78, h2_78, h3_78, h4_78, h7_78, h15_78, h24_78, h26_78, h27_78, h28_78⟩ := Eng.k10 hr h0_77 h2_77 h3_77 h4_77 h7_77 h15_77 h24_77 h26_77 h27_77 h28_77
    have ⟨h29_78, h43_78, h44_78, h45_78⟩ := Eng.k4 hr h29_77 h43_77 h44_77 h45_77
    have d78 := d78.trans d77
    clear hr
    refine EngG.tail_exs EngI.free_wide rfl rfl rfl rfl (Eng.run_store_own (j := j * 5 + 1) (u := .string ⟨#[]⟩) rfl (show act78.eval (.tmp 66) = Eng.elemPtr v_47 (j * 5 + 1) from h66_78) (rfl : act78.eval (.const (.string ⟨#[]⟩)) = .string ⟨#[]⟩) Oo_59 (by have h_ : j < l.length := (by omega); omega) (by kernel_rfl) (by rfl)) fun w79 R => ?_
    obtain ⟨O_79, G_79⟩ := R
    have XM_79 := Tm.Cn.rowed XM_59 Oo_59 G_79
    have bl79 := bl59.grown G_79 bl59.size (fun j hj => (Eng.ownB Oo_59 hj.symm).1)
    have Ox_79 := Dc.kept_own (e' := 30) (size' := 5) (B' := 0) (n' := 0) (xs' := []) Ox_59 G_79 axo
    have Oo_79 := Dc.half_put hj0 hren O_79
    refine EngI.tail_nil ?_
    refine Eng.rS [.int .i64 (IntKind.i64.wrap ((j : Nat) + 1)), .int .i64 (IntKind.i64.wrap ((j : Nat) + 1))] (fun _ => .plain) 2 0 s78 ?_ ?_
    ·refine .c ?_ (.c ?_ (.nil))
     ·refine Eng.pv fun a w' H => ?_
      refine Eng.vr (v := .int .i64 (IntKind.i64.wrap ((j : Nat) + 1))) rfl ?_
      have e0 := (H.q 45 h45_78)
      have e1 : a.eval (.const (.int .i64 1)) = .int .i64 1 := rfl
      simp only [execOp, resolve, e0, e1]
      go_simp
     exact Eng.pv fun a w' H => Eng.vr rfl (Eng.run_move rfl (H.d 0 74))
    intro act80 w80 T
    have ⟨h0_80, h2_80, h3_80, h4_80, h7_80, h15_80, h24_80, h26_80, h27_80, h28_80⟩ := T.r10 h0_78 h2_78 h3_78 h4_78 h7_78 h15_78 h24_78 h26_78 h27_78 h28_78
    have ⟨h29_80, h43_80, h44_80⟩ := T.r3 h29_78 h43_78 h44_78
    have Ox_80 := T.g Ox_79
    have Oo_80 := T.g Oo_79
    have h45_80 : act80.eval (.tmp 45) = .int .i64 (IntKind.i64.wrap ((j : Nat) + 1)) := T.done 1 45 rfl rfl
    have d80 := T.e d78
    have s80 := T.z s78
    have bl80 := T.b bl79
    have XM_80 := Tm.Cn.below XM_79 T.below
    clear T
    refine Eng.tail_nil ?_
    exact ⟨_, by omega, j + 1, rfl, by omega, Ox_80, Oo_80, XM_80, d80, s80, bl80, h0_80, h2_80, h3_80, h4_80, h7_80, h15_80, h24_80, h26_80, h27_80, h28_80, h29_80, h43_80, h44_80, (h45_80.trans (by first | rfl | (congr 1; rw [Eng.i64_id (by omega) (by omega)]; omega) | (simp; done)))⟩
   have c62 := Bq61.symm.trans hq
   clear hq
   have hren := Dc.ren_zz (L := L) hne c62
   refine (wpIn_wide (n := 1)).1 ?_
   refine EngI.regionT (n := 8) rfl ?_
   refine EngI.tv rfl (Eng.run_move rfl h7_73) s73 fun act82 d82 s82 h67_82 hr => ?_
   have ⟨h0_82, h2_82, h3_82, h4_82, h7_82, h8_82, h9_82, h15_82, h24_82, h26_82⟩ := Eng.k10 hr h0_73 h2_73 h3_73 h4_73 h7_73 h8_73 h9_73 h15_73 h24_73 h26_73
   have ⟨h27_82, h28_82, h29_82, h43_82, h44_82, h45_82⟩ := Eng.k6 hr h27_73 h28_73 h29_73 h43_73 h44_73 h45_73
   have d82 := d82.trans d73
   clear hr
   refine EngI.tv rfl (Eng.run_move rfl h8_82) s82 fun act83 d83 s83 h68_83 hr => ?_
   have ⟨h0_83, h2_83, h3_83, h4_83, h7_83, h9_83, h15_83, h24_83, h26_83, h27_83⟩ := Eng.k10 hr h0_82 h2_82 h3_82 h4_82 h7_82 h9_82 h15_82 h24_82 h26_82 h27_82
   have ⟨h28_83, h29_83, h43_83, h44_83, h45_83, h67_83⟩ := Eng.k6 hr h28_82 h29_82 h43_82 h44_82 h45_82 h67_82
   have d83 := d83.trans d82
   clear hr
   refine EngI.tv (w1 := w59) (v := .pointer (some ⟨g9_56, 1, none⟩)) rfl ?_ s83 ?_
   ·exact Eng.run_fieldb rfl Tryd.underlying30 1 (by kernel_rfl) h9_83
   intro act84 d84 s84 h69_84 hr
   have ⟨h0_84, h2_84, h3_84, h4_84, h7_84, h15_84, h24_84, h26_84, h27_84, h28_84⟩ := Eng.k10 hr h0_83 h2_83 h3_83 h4_83 h7_83 h15_83 h24_83 h26_83 h27_83 h28_83
   have ⟨h29_84, h43_84, h44_84, h45_84, h67_84, h68_84⟩ := Eng.k6 hr h29_83 h43_83 h44_83 h45_83 h67_83 h68_83
   have d84 := d84.trans d83
   clear hr
   refine EngI.tv (w1 := w59) (v := .string ((l.getD j default).anchor)) rfl ?_ s84 ?_
   ·exact Eng.run_loadb rfl h69_84 (((Below.refl _ _).block _ lg9_56_59).trans kg9_56_59) rfl (by kernel_rfl)
   intro act85 d85 s85 h70_85 hr
   have ⟨h0_85, h2_85, h3_85, h4_85, h7_85, h15_85, h24_85, h26_85, h27_85, h28_85⟩ := Eng.k10 hr h0_84 h2_84 h3_84 h4_84 h7_84 h15_84 h24_84 h26_84 h27_84 h28_84
   have ⟨h29_85, h43_85, h44_85, h45_85, h67_85, h68_85⟩ := Eng.k6 hr h29_84 h43_84 h44_84 h45_84 h67_84 h68_84
   have d85 := d85.trans d84
   clear hr
   refine EngI.tv (w1 := w59) (v := .string ((⟨#[122, 45]⟩ : ByteArray) ++ ((l.getD j default).anchor))) rfl ?_ s85 ?_
   ·exact (Eng.run_add_str rfl (show act85.eval _ = .string ⟨#[122, 45]⟩ from (rfl : act85.eval (.const (.string ⟨#[122, 45]⟩)) = .string ⟨#[122, 45]⟩)) (show act85.eval (.tmp 70) = .string ((l.getD j default).anchor) from h70_85) (by have h_ := (la_.at_ hj0).2.1; have h2_ : (⟨#[122, 45]⟩ : ByteArray).size = 2 := rfl; omega)).trans (by rfl)
   intro act86 d86 s86 h71_86 hr
   have ⟨h0_86, h2_86, h3_86, h4_86, h7_86, h15_86, h24_86, h26_86, h27_86, h28_86⟩ := Eng.k10 hr h0_85 h2_85 h3_85 h4_85 h7_85 h15_85 h24_85 h26_85 h27_85 h28_85
   have ⟨h29_86, h43_86, h44_86, h45_86, h67_86, h68_86⟩ := Eng.k6 hr h29_85 h43_85 h44_85 h45_85 h67_85 h68_85
   have d86 := d86.trans d85
   clear hr
   refine EngI.tv (w1 := w59) (v := Eng.elemPtr v_47 (j * 5)) rfl ?_ s86 ?_
   ·exact Eng.run_index_sl rfl Tryd.underlying37 (by kernel_rfl) (show act86.eval (.tmp 67) = v_47 from h67_86) ((show act86.eval (.tmp 68) = .int .i64 (j : Nat) from h68_86).trans (congrArg (Value.int _) (show (j : Nat) = ((j : Nat) : Int) from by omega))) Fo_59 (by omega) rfl
   intro act87 d87 s87 h72_87 hr
   have ⟨h0_87, h2_87, h3_87, h4_87, h7_87, h15_87, h24_87, h26_87, h27_87, h28_87⟩ := Eng.k10 hr h0_86 h2_86 h3_86 h4_86 h7_86 h15_86 h24_86 h26_86 h27_86 h28_86
   have ⟨h29_87, h43_87, h44_87, h45_87, h71_87⟩ := Eng.k5 hr h29_86 h43_86 h44_86 h45_86 h71_86
   have d87 := d87.trans d86
   clear hr
   refine EngI.tv (w1 := w59) (v := Eng.elemPtr v_47 (j * 5 + 1)) rfl ?_ s87 ?_
   ·exact Eng.run_field_el rfl Tryd.underlying30 1 (by kernel_rfl) (show act87.eval (.tmp 72) = Eng.elemPtr v_47 (j * 5) from h72_87) Fo_59 (by have h_ : j < l.length := (by omega); omega)
   intro act88 d88 s88 h73_88 hr
   have ⟨h0_88, h2_88, h3_88, h4_88, h7_88, h15_88, h24_88, h26_88, h27_88, h28_88⟩ := Eng.k10 hr h0_87 h2_87 h3_87 h4_87 h7_87 h15_87 h24_87 h26_87 h27_87 h28_87
   have ⟨h29_88, h43_88, h44_88, h45_88, h71_88⟩ := Eng.k5 hr h29_87 h43_87 h44_87 h45_87 h71_87
   have d88 := d88.trans d87
   clear hr
   refine EngG.tail_exs EngI.free_wide rfl rfl rfl rfl (Eng.run_store_own (j := j * 5 + 1) (u := .string ((⟨#[122, 45]⟩ : ByteArray) ++ ((l.getD j default).anchor))) rfl (show act88.eval (.tmp 73) = Eng.elemPtr v_47 (j * 5 + 1) from h73_88) h71_88 Oo_59 (by have h_ : j < l.length := (by omega); omega) (by kernel_rfl) (by rfl)) fun w89 R => ?_
   obtain ⟨O_89, G_89⟩ := R
   have XM_89 := Tm.Cn.rowed XM_59 Oo_59 G_89
   have bl89 := bl59.grown G_89 bl59.size (fun j hj => (Eng.ownB Oo_59 hj.symm).1)
   have Ox_89 := Dc.kept_own (e' := 30) (size' := 5) (B' := 0) (n' := 0) (xs' := []) Ox_59 G_89 axo
   have Oo_89 := Dc.half_put hj0 hren O_89
   refine EngI.tail_nil ?_
   refine Eng.rS [.int .i64 (IntKind.i64.wrap ((j : Nat) + 1)), .int .i64 (IntKind.i64.wrap ((j : Nat) + 1))] (fun _ => .plain) 2 0 s88 ?_ ?_
   ·refine .c ?_ (.c ?_ (.nil))
    ·refine Eng.pv fun a w' H => ?_
     refine Eng.vr (v := .int .i64 (IntKind.i64.wrap ((j : Nat) + 1))) rfl ?_
     have e0 := (H.q 45 h45_88)
     have e1 : a.eval (.const (.int .i64 1)) = .int .i64 1 := rfl
     simp only [execOp, resolve, e0, e1]
     go_simp
    exact Eng.pv fun a w' H => Eng.vr rfl (Eng.run_move rfl (H.d 0 74))
   intro act90 w90 T
   have ⟨h0_90, h2_90, h3_90, h4_90, h7_90, h15_90, h24_90, h26_90, h27_90, h28_90⟩ := T.r10 h0_88 h2_88 h3_88 h4_88 h7_88 h15_88 h24_88 h26_88 h27_88 h28_88
   have ⟨h29_90, h43_90, h44_90⟩ := T.r3 h29_88 h43_88 h44_88
   have Ox_90 := T.g Ox_89
   have Oo_90 := T.g Oo_89
   have h45_90 : act90.eval (.tmp 45) = .int .i64 (IntKind.i64.wrap ((j : Nat) + 1)) := T.done 1 45 rfl rfl
   have d90 := T.e d88
   have s90 := T.z s88
   have bl90 := T.b bl89
   have XM_90 := Tm.Cn.below XM_89 T.below
   clear T
   refine Eng.tail_nil ?_
   exact ⟨_, by omega, j + 1, rfl, by omega, Ox_90, Oo_90, XM_90, d90, s90, bl90, h0_90, h2_90, h3_90, h4_90, h7_90, h15_90, h24_90, h26_90, h27_90, h28_90, h29_90, h43_90, h44_90, (h45_90.trans (by first | rfl | (congr 1; rw [Eng.i64_id (by omega) (by omega)]; omega) | (simp; done)))⟩
  have kn91 := hq
  have c56 := Bq55.symm.trans hq
  clear hq
  have h55_kn91 := h55_66.trans (congrArg Value.bool kn91)
  have h56_kn91 := h56_66.trans (congrArg Value.bool kn91)
  have hren := Dc.ren_z7 (L := L) hne c56
  refine EngG.tail_off EngI.free_wide rfl (EngG.wanted_off (want := true) rfl rfl rfl (by rw [s66]; decide) h56_kn91) rfl s66 rfl fun act92 d92 s92 hr => ?_
  have ⟨h0_92, h2_92, h3_92, h4_92, h7_92, h8_92, h9_92, h15_92, h24_92, h26_92⟩ := Eng.k10 hr h0_66 h2_66 h3_66 h4_66 h7_66 h8_66 h9_66 h15_66 h24_66 h26_66
  have ⟨h27_92, h28_92, h29_92, h43_92, h44_92, h45_92⟩ := Eng.k6 hr h27_66 h28_66 h29_66 h43_66 h44_66 h45_66
  have h56_92 : act92.eval (.tmp 56) = .bool false := (hr 56 rfl).trans h56_kn91
  have d92 := d92.trans d66
  clear hr
  refine EngG.tail_off EngI.free_wide rfl (EngG.wanted_off (want := true) rfl rfl rfl (by rw [s92]; decide) h56_92) rfl s92 rfl fun act93 d93 s93 hr => ?_
  have ⟨h0_93, h2_93, h3_93, h4_93, h7_93, h8_93, h9_93, h15_93, h24_93, h26_93⟩ := Eng.k10 hr h0_92 h2_92 h3_92 h4_92 h7_92 h8_92 h9_92 h15_92 h24_92 h26_92
  have ⟨h27_93, h28_93, h29_93, h43_93, h44_93, h45_93, h56_93⟩ := Eng.k7 hr h27_92 h28_92 h29_92 h43_92 h44_92 h45_92 h56_92
  have d93 := d93.trans d92
  clear hr
  refine EngG.tail_off EngI.free_wide rfl (EngG.wanted_off (want := true) rfl rfl rfl (by rw [s93]; decide) h56_93) rfl s93 rfl fun act94 d94 s94 hr => ?_
  have ⟨h0_94, h2_94, h3_94, h4_94, h7_94, h8_94, h9_94, h15_94, h24_94, h26_94⟩ := Eng.k10 hr h0_93 h2_93 h3_93 h4_93 h7_93 h8_93 h9_93 h15_93 h24_93 h26_93
  have ⟨h27_94, h28_94, h29_94, h43_94, h44_94, h45_94, h56_94⟩ := Eng.k7 hr h27_93 h28_93 h29_93 h43_93 h44_93 h45_93 h56_93
  have d94 := d94.trans d93
  clear hr
  refine EngG.tail_off EngI.free_wide rfl (EngG.wanted_off (want := true) rfl rfl rfl (by rw [s94]; decide) h56_94) rfl s94 rfl fun act95 d95 s95 hr => ?_
  have ⟨h0_95, h2_95, h3_95, h4_95, h7_95, h8_95, h9_95, h15_95, h24_95, h26_95⟩ := Eng.k10 hr h0_94 h2_94 h3_94 h4_94 h7_94 h8_94 h9_94 h15_94 h24_94 h26_94
  have ⟨h27_95, h28_95, h29_95, h43_95, h44_95, h45_95, h56_95⟩ := Eng.k7 hr h27_94 h28_94 h29_94 h43_94 h44_94 h45_94 h56_94
  have d95 := d95.trans d94
  clear hr
  refine EngG.tail_off EngI.free_wide rfl (EngG.wanted_off (want := true) rfl rfl rfl (by rw [s95]; decide) h56_95) rfl s95 rfl fun act96 d96 s96 hr => ?_
  have ⟨h0_96, h2_96, h3_96, h4_96, h7_96, h8_96, h9_96, h15_96, h24_96, h26_96⟩ := Eng.k10 hr h0_95 h2_95 h3_95 h4_95 h7_95 h8_95 h9_95 h15_95 h24_95 h26_95
  have ⟨h27_96, h28_96, h29_96, h43_96, h44_96, h45_96, h56_96⟩ := Eng.k7 hr h27_95 h28_95 h29_95 h43_95 h44_95 h45_95 h56_95
  have d96 := d96.trans d95
  clear hr
  refine EngI.tv rfl (Eng.run_pick rfl h56_96 (v := .bool false) (by exact (rfl : act96.eval (.const (.bool false)) = .bool false))) s96 fun act97 d97 s97 h62_97 hr => ?_
  have ⟨h0_97, h2_97, h3_97, h4_97, h7_97, h8_97, h9_97, h15_97, h24_97, h26_97⟩ := Eng.k10 hr h0_96 h2_96 h3_96 h4_96 h7_96 h8_96 h9_96 h15_96 h24_96 h26_96
  have ⟨h27_97, h28_97, h29_97, h43_97, h44_97, h45_97⟩ := Eng.k6 hr h27_96 h28_96 h29_96 h43_96 h44_96 h45_96
  have d97 := d97.trans d96
  clear hr
  refine EngI.tail_nil ?_
  refine wp_cond_false h62_97 ?_
  refine (wpIn_wide (n := 1)).1 ?_
  refine EngI.regionT (n := 8) rfl ?_
  refine EngI.tv rfl (Eng.run_move rfl h7_97) s97 fun act98 d98 s98 h67_98 hr => ?_
  have ⟨h0_98, h2_98, h3_98, h4_98, h7_98, h8_98, h9_98, h15_98, h24_98, h26_98⟩ := Eng.k10 hr h0_97 h2_97 h3_97 h4_97 h7_97 h8_97 h9_97 h15_97 h24_97 h26_97
  have ⟨h27_98, h28_98, h29_98, h43_98, h44_98, h45_98⟩ := Eng.k6 hr h27_97 h28_97 h29_97 h43_97 h44_97 h45_97
  have d98 := d98.trans d97
  clear hr
  refine EngI.tv rfl (Eng.run_move rfl h8_98) s98 fun act99 d99 s99 h68_99 hr => ?_
  have ⟨h0_99, h2_99, h3_99, h4_99, h7_99, h9_99, h15_99, h24_99, h26_99, h27_99⟩ := Eng.k10 hr h0_98 h2_98 h3_98 h4_98 h7_98 h9_98 h15_98 h24_98 h26_98 h27_98
  have ⟨h28_99, h29_99, h43_99, h44_99, h45_99, h67_99⟩ := Eng.k6 hr h28_98 h29_98 h43_98 h44_98 h45_98 h67_98
  have d99 := d99.trans d98
  clear hr
  refine EngI.tv (w1 := w59) (v := .pointer (some ⟨g9_56, 1, none⟩)) rfl ?_ s99 ?_
  ·exact Eng.run_fieldb rfl Tryd.underlying30 1 (by kernel_rfl) h9_99
  intro act100 d100 s100 h69_100 hr
  have ⟨h0_100, h2_100, h3_100, h4_100, h7_100, h15_100, h24_100, h26_100, h27_100, h28_100⟩ := Eng.k10 hr h0_99 h2_99 h3_99 h4_99 h7_99 h15_99 h24_99 h26_99 h27_99 h28_99
  have ⟨h29_100, h43_100, h44_100, h45_100, h67_100, h68_100⟩ := Eng.k6 hr h29_99 h43_99 h44_99 h45_99 h67_99 h68_99
  have d100 := d100.trans d99
  clear hr
  refine EngI.tv (w1 := w59) (v := .string ((l.getD j default).anchor)) rfl ?_ s100 ?_
  ·exact Eng.run_loadb rfl h69_100 (((Below.refl _ _).block _ lg9_56_59).trans kg9_56_59) rfl (by kernel_rfl)
  intro act101 d101 s101 h70_101 hr
  have ⟨h0_101, h2_101, h3_101, h4_101, h7_101, h15_101, h24_101, h26_101, h27_101, h28_101⟩ := Eng.k10 hr h0_100 h2_100 h3_100 h4_100 h7_100 h15_100 h24_100 h26_100 h27_100 h28_100
  have ⟨h29_101, h43_101, h44_101, h45_101, h67_101, h68_101⟩ := Eng.k6 hr h29_100 h43_100 h44_100 h45_100 h67_100 h68_100
  have d101 := d101.trans d100
  clear hr
  refine EngI.tv (w1 := w59) (v := .string ((⟨#[122, 45]⟩ : ByteArray) ++ ((l.getD j default).anchor))) rfl ?_ s101 ?_
  ·exact (Eng.run_add_str rfl (show act101.eval _ = .string ⟨#[122, 45]⟩ from (rfl : act101.eval (.const (.string ⟨#[122, 45]⟩)) = .string ⟨#[122, 45]⟩)) (show act101.eval (.tmp 70) = .string ((l.getD j default).anchor) from h70_101) (by have h_ := (la_.at_ hj0).2.1; have h2_ : (⟨#[122, 45]⟩ : ByteArray).size = 2 := rfl; omega)).trans (by rfl)
  intro act102 d102 s102 h71_102 hr
  have ⟨h0_102, h2_102, h3_102, h4_102, h7_102, h15_102, h24_102, h26_102, h27_102, h28_102⟩ := Eng.k10 hr h0_101 h2_101 h3_101 h4_101 h7_101 h15_101 h24_101 h26_101 h27_101 h28_101
  have ⟨h29_102, h43_102, h44_102, h45_102, h67_102, h68_102⟩ := Eng.k6 hr h29_101 h43_101 h44_101 h45_101 h67_101 h68_101
  have d102 := d102.trans d101
  clear hr
  refine EngI.tv (w1 := w59) (v := Eng.elemPtr v_47 (j * 5)) rfl ?_ s102 ?_
  ·exact Eng.run_index_sl rfl Tryd.underlying37 (by kernel_rfl) (show act102.eval (.tmp 67) = v_47 from h67_102) ((show act102.eval (.tmp 68) = .int .i64 (j : Nat) from h68_102).trans (congrArg (Value.int _) (show (j : Nat) = ((j : Nat) : Int) from by omega))) Fo_59 (by omega) rfl
  intro act103 d103 s103 h72_103 hr
  have ⟨h0_103, h2_103, h3_103, h4_103, h7_103, h15_103, h24_103, h26_103, h27_103, h28_103⟩ := Eng.k10 hr h0_102 h2_102 h3_102 h4_102 h7_102 h15_102 h24_102 h26_102 h27_102 h28_102
  have ⟨h29_103, h43_103, h44_103, h45_103, h71_103⟩ := Eng.k5 hr h29_102 h43_102 h44_102 h45_102 h71_102
  have d103 := d103.trans d102
  clear hr
  refine EngI.tv (w1 := w59) (v := Eng.elemPtr v_47 (j * 5 + 1)) rfl ?_ s103 ?_
  ·exact Eng.run_field_el rfl Tryd.underlying30 1 (by kernel_rfl) (show act103.eval (.tmp 72) = Eng.elemPtr v_47 (j * 5) from h72_103) Fo_59 (by have h_ : j < l.length := (by omega); omega)
  intro act104 d104 s104 h73_104 hr
  have ⟨h0_104, h2_104, h3_104, h4_104, h7_104, h15_104, h24_104, h26_104, h27_104, h28_104⟩ := Eng.k10 hr h0_103 h2_103 h3_103 h4_103 h7_103 h15_103 h24_103 h26_103 h27_103 h28_103
  have ⟨h29_104, h43_104, h44_104, h45_104, h71_104⟩ := Eng.k5 hr h29_103 h43_103 h44_103 h45_103 h71_103
  have d104 := d104.trans d103
  clear hr
  refine EngG.tail_exs EngI.free_wide rfl rfl rfl rfl (Eng.run_store_own (j := j * 5 + 1) (u := .string ((⟨#[122, 45]⟩ : ByteArray) ++ ((l.getD j default).anchor))) rfl (show act104.eval (.tmp 73) = Eng.elemPtr v_47 (j * 5 + 1) from h73_104) h71_104 Oo_59 (by have h_ : j < l.length := (by omega); omega) (by kernel_rfl) (by rfl)) fun w105 R => ?_
  obtain ⟨O_105, G_105⟩ := R
  have XM_105 := Tm.Cn.rowed XM_59 Oo_59 G_105
  have bl105 := bl59.grown G_105 bl59.size (fun j hj => (Eng.ownB Oo_59 hj.symm).1)
  have Ox_105 := Dc.kept_own (e' := 30) (size' := 5) (B' := 0) (n' := 0) (xs' := []) Ox_59 G_105 axo
  have Oo_105 := Dc.half_put hj0 hren O_105
  refine EngI.tail_nil ?_
  refine Eng.rS [.int .i64 (IntKind.i64.wrap ((j : Nat) + 1)), .int .i64 (IntKind.i64.wrap ((j : Nat) + 1))] (fun _ => .plain) 2 0 s104 ?_ ?_
  ·refine .c ?_ (.c ?_ (.nil))
   ·refine Eng.pv fun a w' H => ?_
    refine Eng.vr (v := .int .i64 (IntKind.i64.wrap ((j : Nat) + 1))) rfl ?_
    have e0 := (H.q 45 h45_104)
    have e1 : a.eval (.const (.int .i64 1)) = .int .i64 1 := rfl
    simp only [execOp, resolve, e0, e1]
    go_simp
   exact Eng.pv fun a w' H => Eng.vr rfl (Eng.run_move rfl (H.d 0 74))
  intro act106 w106 T
  have ⟨h0_106, h2_106, h3_106, h4_106, h7_106, h15_106, h24_106, h26_106, h27_106, h28_106⟩ := T.r10 h0_104 h2_104 h3_104 h4_104 h7_104 h15_104 h24_104 h26_104 h27_104 h28_104
  have ⟨h29_106, h43_106, h44_106⟩ := T.r3 h29_104 h43_104 h44_104
  have Ox_106 := T.g Ox_105
  have Oo_106 := T.g Oo_105
  have h45_106 : act106.eval (.tmp 45) = .int .i64 (IntKind.i64.wrap ((j : Nat) + 1)) := T.done 1 45 rfl rfl
  have d106 := T.e d104
  have s106 := T.z s104
  have bl106 := T.b bl105
  have XM_106 := Tm.Cn.below XM_105 T.below
  clear T
  refine Eng.tail_nil ?_
  exact ⟨_, by omega, j + 1, rfl, by omega, Ox_106, Oo_106, XM_106, d106, s106, bl106, h0_106, h2_106, h3_106, h4_106, h7_106, h15_106, h24_106, h26_106, h27_106, h28_106, h29_106, h43_106, h44_106, (h45_106.trans (by first | rfl | (congr 1; rw [Eng.i64_id (by omega) (by omega)]; omega) | (simp; done)))⟩
 have c46 := Bq46.symm.trans hq
 clear hq
 have c46 := of_decide_eq_false c46
 have hje : j = l.length := by omega
 obtain ⟨lo, hlo⟩ : ∃ m, m = l.map (Dc.renE L) := ⟨_, rfl⟩
 have lz_ : Evt.Lz 150 lo := hlo ▸ Dc.ren_lz L la_
 have Oo_108 := Dc.half_fin hje hlo Oo_51
 have Fo_108 := Eng.Reads.of_own Oo_108
 refine wp_exit ?_
 refine wp_seq ?_
 refine wp_seq ?_
 refine (wpIn_wide (n := 1)).1 ?_
 refine EngI.regionT (n := 3) rfl ?_
 refine EngI.tv rfl (Eng.run_move rfl h7_51) s51 fun act109 d109 s109 h75_109 hr => ?_
 have ⟨h3_109, h7_109⟩ := Eng.k2 hr h3_51 h7_51
 have d109 := d109.trans d51
 clear hr
 obtain ⟨q76, Bq76⟩ : ∃ b : Bool, b = (Evt.rightG Evt.rightE lo) := ⟨_, rfl⟩
 refine EngI.tail_call EngI.free_wide Tryd.func17 (by kernel_rfl) (by kernel_rfl) rfl rfl rfl rfl #[v_47] (by have e0 : act109.eval (.tmp 75) = v_47 := h75_109; simp only [List.map_toArray, List.map_cons, List.map_nil, e0]) s109 rfl (R := fun v w_ => v = .bool (Evt.rightG Evt.rightE lo) ∧ Below w51.heap.size w51 w_) ((Evt.Right_calls v_47 lo _ (Tabs.below (Tabs.below hT bl51) (Below.refl _ _)) Fo_108 (fun k hk => Nat.le_trans (lz_.text k hk) (by decide)) (Nat.le_trans lz_.len (by decide))).mono ?_) fun v_110 w110 act110 R d110 s110 hv hr => ?_
 ·rintro e w_ ⟨rfl, hb⟩; exact ⟨_, rfl, rfl, hb⟩
 obtain ⟨ev_110, b_110⟩ := R
 have ⟨h3_110, h7_110⟩ := Eng.k2 hr h3_109 h7_109
 have h76_110 : act110.eval (.tmp 76) = .bool q76 := (hv.trans ev_110).trans (congrArg Value.bool Bq76.symm)
 have d110 := d110.trans d109
 clear hv hr
 have Fx_110 := Eng.Reads.below Fx_51 b_110
 have Fo_110 := Eng.Reads.below Fo_108 b_110
 have bl110 := bl51.trans (b_110.mono bl51.size)
 refine EngI.tv rfl (Eng.run_not rfl h76_110) s110 fun act111 d111 s111 h77_111 hr => ?_
 have ⟨h3_111, h7_111⟩ := Eng.k2 hr h3_110 h7_110
 have d111 := d111.trans d110
 clear hr
 refine EngI.tail_nil ?_
 refine wp_cond_split h77_111 (fun hq => ?_) (fun hq => ?_)
 ·
  have c77 := hq
  clear hq
  refine wp_seq ?_
  refine Eng.rS [.bool true] (fun _ => .plain) 1 0 s111 ?_ ?_
  ·refine .c ?_ (.nil)
   ·exact Eng.pv fun a w' H => Eng.vr rfl (Eng.run_assign rfl (rfl : a.eval (.const (.bool true)) = .bool true))
  intro act113 w113 T
  have h2_113 : act113.eval (.tmp 2) = .bool true := T.done 0 2 rfl rfl
  have d113 := T.e d111
  have bl113 := T.b bl110
  clear T
  refine Eng.tail_nil ?_
  refine wp_ret ?_
  repeat (first | with_reducible refine Eng.in_ret ?_ | with_reducible refine Eng.then_ret ?_)
  exact Eng.ret1 rfl d113 h2_113 ⟨rfl, bl113⟩
 have c77 := hq
 clear hq
 have ro_ : Evt.rightG Evt.rightE lo = true := by have h1 := c77; rw [Bq76] at h1; simpa using h1
 have hgr : Dc.graphsF l = Dc.graphsF lo := by rw [hlo, hL]; rw [hlo, hL] at ro_; exact (Dc.graphsF_ren ra_ ro_).symm
 refine wp_skip ?_
 refine wp_seq ?_
 refine (wpIn_wide (n := 1)).1 ?_
 refine EngI.regionT (n := 7) rfl ?_
 refine EngI.tv rfl (Eng.run_move rfl h3_111) s111 fun act115 d115 s115 h79_115 hr => ?_
 have h7_115 := Eng.k1 hr h7_111
 have d115 := d115.trans d111
 clear hr
 refine EngI.tail_call EngI.free_wide Tryd.func12 (by kernel_rfl) (by kernel_rfl) rfl rfl rfl rfl #[v_4] (by have e0 : act115.eval (.tmp 79) = v_4 := h79_115; simp only [List.map_toArray, List.map_cons, List.map_nil, e0]) s115 rfl (R := fun v w' => ∃ outv fin, v = .tuple #[outv, .int .i64 (Dc.graphsF l).2] ∧ List.map (·.1) fin = (Dc.graphsF l).1 ∧ w'.ownsRow w110.heap.size 48 1 outv fin.length (List.map (·.2) fin) ∧ (∀ f ∈ fin, Dc.Fin w110 w' f (fun _ => False)) ∧ Below w110.heap.size w110 w') ((Dc.Graphs_calls v_4 l _ (Tabs.below hT bl110) Fx_110 (Nat.le_trans la_.1 (by decide)) la_.text la_.anchor (la_.tw (by decide))).mono ?_) fun v_116 w116 act116 R d116 s116 h80_116 hr => ?_
 ·rintro e w1 ⟨o1, f1, rfl, r1⟩; exact ⟨_, rfl, o1, f1, rfl, r1⟩
 have h7_116 := Eng.k1 hr h7_115
 have d116 := d116.trans d115
 clear hr
 obtain ⟨outv1, fin1, ev_116, hm1, Oo1, hF1, b_116⟩ := R
 rw [ev_116] at h80_116
 have Fo_116 := Eng.Reads.below Fo_110 b_116
 have bl116 := bl110.trans (b_116.mono bl110.size)
 have G1_0 := Dc.gsR_fin Oo1 hF1
 have sm1 := Dc.fin_small' (n := 150) la_.1 (by decide) hm1
 clear ev_116 Oo1 hF1
 refine EngI.tv rfl (Eng.run_move rfl h80_116) s116 fun act117 d117 s117 h78_117 hr => ?_
 have h7_117 := Eng.k1 hr h7_116
 have d117 := d117.trans d116
 clear hr
 refine EngI.tv (w1 := w116) (v := outv1) rfl ?_ s117 ?_
 ·have e0 : act117.eval (.tmp 78) = .tuple #[outv1, .int .i64 ((Dc.graphsF l).2)] := h78_117
  simp only [execOp, resolve, e0]
  go_simp
 intro act118 d118 s118 h81_118 hr
 have ⟨h7_118, h78_118⟩ := Eng.k2 hr h7_117 h78_117
 have d118 := d118.trans d117
 clear hr
 refine EngI.tv (w1 := w116) (v := .int .i64 ((Dc.graphsF l).2)) rfl ?_ s118 ?_
 ·have e0 : act118.eval (.tmp 78) = .tuple #[outv1, .int .i64 ((Dc.graphsF l).2)] := h78_118
  simp only [execOp, resolve, e0]
  go_simp
 intro act119 d119 s119 h82_119 hr
 have ⟨h7_119, h81_119⟩ := Eng.k2 hr h7_118 h81_118
 have d119 := d119.trans d118
 clear hr
 refine EngI.tv rfl (Eng.run_assign rfl h81_119) s119 fun act120 d120 s120 h10_120 hr => ?_
 have ⟨h7_120, h82_120⟩ := Eng.k2 hr h7_119 h82_119
 have d120 := d120.trans d119
 clear hr
 refine EngI.tv rfl (Eng.run_assign rfl h82_120) s120 fun act121 d121 s121 h11_121 hr => ?_
 have ⟨h7_121, h10_121⟩ := Eng.k2 hr h7_120 h10_120
 have d121 := d121.trans d120
 clear hr
 refine EngI.tail_nil ?_
 refine wp_seq ?_
 refine (wpIn_wide (n := 1)).1 ?_
 refine EngI.regionT (n := 7) rfl ?_
 refine EngI.tv rfl (Eng.run_move rfl h7_121) s121 fun act122 d122 s122 h84_122 hr => ?_
 have ⟨h10_122, h11_122⟩ := Eng.k2 hr h10_121 h11_121
 have d122 := d122.trans d121
 clear hr
 refine EngI.tail_call EngI.free_wide Tryd.func12 (by kernel_rfl) (by kernel_rfl) rfl rfl rfl rfl #[v_47] (by have e0 : act122.eval (.tmp 84) = v_47 := h84_122; simp only [List.map_toArray, List.map_cons, List.map_nil, e0]) s122 rfl (R := fun v w' => ∃ outv fin, v = .tuple #[outv, .int .i64 (Dc.graphsF lo).2] ∧ List.map (·.1) fin = (Dc.graphsF lo).1 ∧ w'.ownsRow w116.heap.size 48 1 outv fin.length (List.map (·.2) fin) ∧ (∀ f ∈ fin, Dc.Fin w116 w' f (fun _ => False)) ∧ Below w116.heap.size w116 w') ((Dc.Graphs_calls v_47 lo _ (Tabs.below hT bl116) Fo_116 (Nat.le_trans lz_.len (by decide)) lz_.text lz_.anchor (lz_.tw (by decide))).mono ?_) fun v_123 w123 act123 R d123 s123 h85_123 hr => ?_
 ·rintro e w1 ⟨o1, f1, rfl, r1⟩; exact ⟨_, rfl, o1, f1, rfl, r1⟩
 have ⟨h10_123, h11_123⟩ := Eng.k2 hr h10_122 h11_122
 have d123 := d123.trans d122
 clear hr
 obtain ⟨outv2, fin2, ev_123, hm2, Oo2, hF2, b_123⟩ := R
 rw [ev_123] at h85_123
 have XG1_123 := Dc.GsR.below G1_0 b_123
 have bl123 := bl116.trans (b_123.mono bl116.size)
 have G2_0 := Dc.gsR_fin Oo2 hF2
 have sm2 := Dc.fin_small' (n := 150) lz_.len (by decide) hm2
 clear ev_123 Oo2 hF2
 refine EngI.tv rfl (Eng.run_move rfl h85_123) s123 fun act124 d124 s124 h83_124 hr => ?_
 have ⟨h10_124, h11_124⟩ := Eng.k2 hr h10_123 h11_123
 have d124 := d124.trans d123
 clear hr
 refine EngI.tv (w1 := w123) (v := outv2) rfl ?_ s124 ?_
 ·have e0 : act124.eval (.tmp 83) = .tuple #[outv2, .int .i64 ((Dc.graphsF lo).2)] := h83_124
  simp only [execOp, resolve, e0]
  go_simp
 intro act125 d125 s125 h86_125 hr
 have ⟨h10_125, h11_125, h83_125⟩ := Eng.k3 hr h10_124 h11_124 h83_124
 have d125 := d125.trans d124
 clear hr
 refine EngI.tv (w1 := w123) (v := .int .i64 ((Dc.graphsF lo).2)) rfl ?_ s125 ?_
 ·have e0 : act125.eval (.tmp 83) = .tuple #[outv2, .int .i64 ((Dc.graphsF lo).2)] := h83_125
  simp only [execOp, resolve, e0]
  go_simp
 intro act126 d126 s126 h87_126 hr
 have ⟨h10_126, h11_126, h86_126⟩ := Eng.k3 hr h10_125 h11_125 h86_125
 have d126 := d126.trans d125
 clear hr
 refine EngI.tv rfl (Eng.run_assign rfl h86_126) s126 fun act127 d127 s127 h12_127 hr => ?_
 have ⟨h10_127, h11_127, h87_127⟩ := Eng.k3 hr h10_126 h11_126 h87_126
 have d127 := d127.trans d126
 clear hr
 refine EngI.tv rfl (Eng.run_assign rfl h87_127) s127 fun act128 d128 s128 h13_128 hr => ?_
 have ⟨h10_128, h11_128, h12_128⟩ := Eng.k3 hr h10_127 h11_127 h12_127
 have d128 := d128.trans d127
 clear hr
 refine EngI.tail_nil ?_
 refine wp_seq ?_
 refine (wpIn_wide (n := 1)).1 ?_
 refine EngI.regionT (n := 11) rfl ?_
 refine EngI.tv rfl (Eng.run_move rfl h11_128) s128 fun act129 d129 s129 h88_129 hr => ?_
 have ⟨h10_129, h12_129, h13_129⟩ := Eng.k3 hr h10_128 h12_128 h13_128
 have d129 := d129.trans d128
 clear hr
 refine EngI.tv rfl (Eng.run_move rfl h13_129) s129 fun act130 d130 s130 h89_130 hr => ?_
 have ⟨h10_130, h12_130, h88_130⟩ := Eng.k3 hr h10_129 h12_129 h88_129
 have d130 := d130.trans d129
 clear hr
 refine EngI.tv (w1 := w123) (v := .bool (((Dc.graphsF l).2) == ((Dc.graphsF lo).2))) rfl ?_ s130 ?_
 ·have e0 : act130.eval (.tmp 88) = .int .i64 ((Dc.graphsF l).2) := h88_130
  have e1 : act130.eval (.tmp 89) = .int .i64 ((Dc.graphsF lo).2) := h89_130
  simp only [execOp, resolve, e0, e1]
  go_simp
 intro act131 d131 s131 hv hr
 have ⟨h10_131, h12_131⟩ := Eng.k2 hr h10_130 h12_130
 have h90_131 : act131.eval (.tmp 90) = .bool true := hv.trans (congrArg Value.bool ((by rw [hgr, beq_self_eq_true]) : _ = true))
 have d131 := d131.trans d130
 clear hv hr
 refine EngI.tv rfl (Eng.run_move rfl h90_131) s131 fun act132 d132 s132 h91_132 hr => ?_
 have ⟨h10_132, h12_132⟩ := Eng.k2 hr h10_131 h12_131
 have d132 := d132.trans d131
 clear hr
 refine EngG.tail_val EngI.free_wide rfl (EngG.wanted_on (want := true) rfl rfl rfl (by rw [s132]; decide) h91_132) rfl rfl (Eng.run_move rfl h10_132) s132 rfl fun act133 d133 s133 h92_133 hr => ?_
 have ⟨h12_133, h91_133⟩ := Eng.k2 hr h12_132 h91_132
 have d133 := d133.trans d132
 clear hr
 refine EngG.tail_call EngI.free_wide Tryd.func16 (by kernel_rfl) (by kernel_rfl) rfl (EngG.wanted_on (want := true) rfl rfl rfl (by rw [s133]; decide) h91_133) rfl rfl #[outv1] (by have e0 : act133.eval (.tmp 92) = outv1 := h92_133; simp only [List.map_toArray, List.map_cons, List.map_nil, e0]) s133 rfl (R := fun v w' => ∃ hs, List.map (·.1) hs = List.map (·.1) fin1 ∧ w'.ownsRow w123.heap.size 51 1 v hs.length (List.map (·.2) hs) ∧ Dc.GsO w123.heap.size w' hs ∧ Below w123.heap.size w123 w') ((Dc.ours9_calls outv1 fin1 _ XG1_123 sm1.1 sm1.2).mono ?_) fun v_134 w134 act134 R d134 s134 h93_134 hr => ?_
 ·rintro e w1 ⟨o, hs, rfl, r⟩; exact ⟨_, rfl, hs, r⟩
 have ⟨h12_134, h91_134⟩ := Eng.k2 hr h12_133 h91_133
 have d134 := d134.trans d133
 clear hr
 obtain ⟨hs1, he1, O_134, Q_134, b_134⟩ := R
 have XG2_134 := Dc.GsR.below G2_0 b_134
 have bl134 := bl123.trans (b_134.mono bl123.size)
 have H1_0 := Dc.GsO.reads Q_134 O_134
 clear Q_134 O_134
 refine EngG.tail_val EngI.free_wide rfl (EngG.wanted_on (want := true) rfl rfl rfl (by rw [s134]; decide) h91_134) rfl rfl (Eng.run_move rfl h12_134) s134 rfl fun act135 d135 s135 h94_135 hr => ?_
 have ⟨h91_135, h93_135⟩ := Eng.k2 hr h91_134 h93_134
 have d135 := d135.trans d134
 clear hr
 refine EngG.tail_call EngI.free_wide Tryd.func16 (by kernel_rfl) (by kernel_rfl) rfl (EngG.wanted_on (want := true) rfl rfl rfl (by rw [s135]; decide) h91_135) rfl rfl #[outv2] (by have e0 : act135.eval (.tmp 94) = outv2 := h94_135; simp only [List.map_toArray, List.map_cons, List.map_nil, e0]) s135 rfl (R := fun v w' => ∃ hs, List.map (·.1) hs = List.map (·.1) fin2 ∧ w'.ownsRow w134.heap.size 51 1 v hs.length (List.map (·.2) hs) ∧ Dc.GsO w134.heap.size w' hs ∧ Below w134.heap.size w134 w') ((Dc.ours9_calls outv2 fin2 _ XG2_134 sm2.1 sm2.2).mono ?_) fun v_136 w136 act136 R d136 s136 h95_136 hr => ?_
 ·rintro e w1 ⟨o, hs, rfl, r⟩; exact ⟨_, rfl, hs, r⟩
 have ⟨h91_136, h93_136⟩ := Eng.k2 hr h91_135 h93_135
 have d136 := d136.trans d135
 clear hr
 obtain ⟨hs2, he2, O_136, Q_136, b_136⟩ := R
 have XH1_136 := Dc.GsR.below H1_0 b_136
 have bl136 := bl134.trans (b_136.mono bl134.size)
 have H2_0 := Dc.GsO.reads Q_136 O_136
 clear Q_136 O_136
 refine EngG.tail_call EngI.free_wide Tryd.func15 (by kernel_rfl) (by kernel_rfl) rfl (EngG.wanted_on (want := true) rfl rfl rfl (by rw [s136]; decide) h91_136) rfl rfl #[v_134, v_136] (by have e0 : act136.eval (.tmp 93) = v_134 := h93_136; have e1 : act136.eval (.tmp 95) = v_136 := h95_136; simp only [List.map_toArray, List.map_cons, List.map_nil, e0, e1]) s136 rfl (R := fun v w_ => v = .bool true ∧ Below w136.heap.size w136 w_) ((Dc.equal9_calls _ _ hs1 hs2 _ XH1_136 H2_0 (he1.trans ((hm1.trans ((congrArg (·.1) hgr).trans hm2.symm)).trans he2.symm))).mono ?_) fun v_137 w137 act137 R d137 s137 hv hr => ?_
 ·rintro e w_ ⟨rfl, hb⟩; exact ⟨_, rfl, rfl, hb⟩
 obtain ⟨ev_137, b_137⟩ := R
 have h91_137 := Eng.k1 hr h91_136
 have h96_137 : act137.eval (.tmp 96) = .bool true := (hv.trans ev_137)
 have d137 := d137.trans d136
 clear hv hr
 have bl137 := bl136.trans (b_137.mono bl136.size)
 refine EngI.tv rfl (Eng.run_pick rfl h91_137 (v := .bool true) (by exact h96_137)) s137 fun act138 d138 s138 h97_138 hr => ?_
 have d138 := d138.trans d137
 clear hr
 refine EngI.tv rfl (Eng.run_assign rfl h97_138) s138 fun act139 d139 s139 h2_139 hr => ?_
 have d139 := d139.trans d138
 clear hr
 refine EngI.tail_nil ?_
 refine wp_ret ?_
 repeat (first | with_reducible refine Eng.in_ret ?_ | with_reducible refine Eng.then_ret ?_)
 exact Eng.ret1 rfl d139 h2_139 ⟨rfl, bl137⟩
end Go.Proofs.YtgnmjaacnmkgnaaDoor.X
