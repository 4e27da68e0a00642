/- Words and walks that the row of ComposeNames needs: printed by programs, and plain laws. -/
import Derived.Test.YtgnmjaacnmkgnaaDoorM7
import Derived.Test.YtgnmjaacnmkgnaaDoorM3
namespace Go.Proofs.YtgnmjaacnmkgnaaDoorW.PrintWords
end Go.Proofs.YtgnmjaacnmkgnaaDoorW.PrintWords
namespace Go.Proofs.YtgnmjaacnmkgnaaDoorW.PrintLast
end Go.Proofs.YtgnmjaacnmkgnaaDoorW.PrintLast
namespace Go.Proofs.YtgnmjaacnmkgnaaDoorW.PrintMore
end Go.Proofs.YtgnmjaacnmkgnaaDoorW.PrintMore
section
namespace Go.Proofs.YtgnmjaacnmkgnaaDoor.X
open Go.RowKit Go.Shelf Go.Proofs Go.Proofs.YtgnmjaacnmkgnaaDoorW.PrintWords Go.Proofs.YtgnmjaacnmkgnaaDoorW.PrintLast Go.Proofs.YtgnmjaacnmkgnaaDoorW.PrintMore
set_option linter.unusedVariables false
set_option linter.unusedSimpArgs false
attribute [local go_sem] max2_int min2_int max_two min_two
set_option maxHeartbeats 4000000 in
set_option maxRecDepth 100000 in
theorem Dc.keys_calls (kv : Value) (x : Dc.Nd) (w : World) (hk : Eng.Reads w kv x.kids.length 1 (Dc.ints x.kids)) (hkl1 : x.kids.length ≤ 1000000) : Calls Tryd.prog 76 #[.agg #[.int .i64 x.kind, .string x.tag, .string x.text, kv]] w fun e w' => ∃ o, e = .returned o ∧ w'.ownsRow w.heap.size 3 1 o (Dc.keysL x.kids).length (Dc.ints (Dc.keysL x.kids)) ∧ Below w.heap.size w w' := by
 have hkl := Eng.Reads.len_le hk
 refine Eng.enter Tryd.func76 rfl fun act0 d0 s0 v0 => ?_
 have s0 : act0.tmps.size = 20 := s0
 have h0_0 : act0.eval (.tmp 0) = .agg #[.int .i64 x.kind, .string x.tag, .string x.text, kv] := v0 0 (by simp)
 clear v0
 have bl0 : Below w.heap.size w w := Below.refl _ _
 refine wp_seq ?_
 refine Eng.regionT (n := 2) rfl ?_
 refine Eng.tail_ex rfl rfl rfl (Eng.box_ex (cs := #[.int .i64 x.kind, .string x.tag, .string x.text, kv]) rfl h0_0 (by obtain ⟨A3_, c3_, ev3_⟩ := Eng.Reads.shape hk; subst ev3_; rfl)) s0 rfl fun v_1 w1 act1 R d1 s1 h1_1 hr => ?_
 obtain ⟨g1_1, ev_1, rg_1, lg1_1, kg1_1, b_1⟩ := R
 have h0_1 := Eng.k1 hr h0_0
 have d1 := d1.trans d0
 clear hr
 have bl1 := bl0.trans (b_1.mono bl0.size)
 rw [ev_1] at h1_1
 refine Eng.tail_val rfl rfl rfl (Eng.run_assign rfl (rfl : act1.eval (.const (.slice none 0 0)) = .slice none 0 0)) s1 rfl fun act2 d2 s2 h2_2 hr => ?_
 have ⟨h0_2, h1_2⟩ := Eng.k2 hr h0_1 h1_1
 have d2 := d2.trans d1
 clear hr
 refine Eng.tail_nil ?_
 refine wp_seq ?_
 refine wp_seq ?_
 refine Eng.rS [.int .i64 0] (fun _ => .plain) 1 0 s2 ?_ ?_
 ·refine .c ?_ (.nil)
  ·exact Eng.pv fun a w' H => Eng.vr rfl (Eng.run_assign rfl (rfl : a.eval (.const (.int .i64 0)) = .int .i64 0))
 intro act3 w3 T
 have ⟨h0_3, h1_3, h2_3⟩ := T.r3 h0_2 h1_2 h2_2
 have kg1_1_3 := T.x lg1_1 kg1_1
 have lg1_1_3 := T.l lg1_1
 have h3_3 : act3.eval (.tmp 3) = .int .i64 0 := T.done 0 3 rfl rfl
 have d3 := T.e d2
 have s3 := T.z s2
 have bl3 := T.b bl1
 clear T
 refine Eng.tail_nil ?_
 refine wp_block ?_
 refine Eng.loopN (fun n a w' => ∃ (m : Nat) (o : Value), x.kids.length + 2 - 2 * m = n ∧ (2 * m ≤ x.kids.length + 1) ∧ (w'.ownsRow w.heap.size 3 1 o (Dc.keysI x.kids m).length (Dc.ints (Dc.keysI x.kids m))) ∧ a.defers = [] ∧ a.tmps.size = 20 ∧ Below w.heap.size w w' ∧ a.eval (.tmp 0) = .agg #[.int .i64 x.kind, .string x.tag, .string x.text, kv] ∧ a.eval (.tmp 1) = .pointer (some ⟨g1_1, 0, none⟩) ∧ a.eval (.tmp 2) = o ∧ a.eval (.tmp 3) = .int .i64 ((2 * m : Nat) : Int) ∧ w'.heap[g1_1]? = some (.cells (#[.int .i64 x.kind, .string x.tag, .string x.text, kv]) 57 (0, 0)) ∧ g1_1 < w'.heap.size) (n0 := x.kids.length + 2 - 2 * 0) ?_ ?_
 ·exact ⟨0, .slice none 0 0, rfl, by omega, World.ownsRow_nil _ _ _ _, d3, s3, bl3, h0_3, h1_3, (h2_3.trans (by first | rfl | (congr 1; rw [Eng.i64_id (by omega) (by omega)]; omega) | (simp; done))), (h3_3.trans (by first | rfl | (congr 1; rw [Eng.i64_id (by omega) (by omega)]; omega) | (simp; done))), kg1_1_3, lg1_1_3⟩
 rintro n act4 w4 ⟨m, o, rfl, hc0_4, hc1_4, d4, s4, bl4, h0_4, h1_4, h2_4, h3_4, kg1_1_4, lg1_1_4⟩
 have Fkj_4 := Eng.Reads.below hk bl4
 have hm1 := hc0_4
 refine wp_seq ?_
 refine wp_seq ?_
 obtain ⟨q8, Bq8⟩ : ∃ b : Bool, b = (decide (((2 * m : Nat) : Int) < ((x.kids.length : Nat) : Int))) := ⟨_, rfl⟩
 refine Eng.rS [.int .i64 ((2 * m : Nat) : Int), .pointer (some ⟨g1_1, 3, none⟩), kv, .int .i64 ((x.kids.length : Nat) : Int), .bool q8] (fun _ => .plain) 5 0 s4 ?_ ?_
 ·refine .c ?_ (.c ?_ (.c ?_ (.c ?_ (.c ?_ (.nil)))))
  ·exact Eng.pv fun a w' H => Eng.vr rfl (Eng.run_move rfl (H.q 3 h3_4))
  ·exact Eng.pv fun a w' H => Eng.vr rfl (Eng.run_fieldb rfl Tryd.underlying57 3 (by kernel_rfl) (H.q 1 h1_4))
  ·exact Eng.pv fun a w' H => Eng.vr rfl (Eng.run_loadb rfl (H.d 1 5) ((H.below.block _ lg1_1_4).trans kg1_1_4) rfl (by kernel_rfl))
  ·exact Eng.pv fun a w' H => Eng.vr (v := .int .i64 ((x.kids.length : Nat) : Int)) rfl (Eng.run_len_sl rfl Tryd.underlying55 (show a.eval (.tmp 6) = kv from (H.d 2 6)) (Eng.Reads.below Fkj_4 H.below))
  refine Eng.pv fun a w' H => ?_
  refine Eng.vr (v := .bool (decide (((2 * m : Nat) : Int) < ((x.kids.length : Nat) : Int)))) (by show _ = Value.bool q8; rw [Bq8]) ?_
  have e0 : a.eval (.tmp 4) = .int .i64 ((2 * m : Nat) : Int) := (H.d 0 4)
  have e1 : a.eval (.tmp 7) = .int .i64 ((x.kids.length : Nat) : Int) := (H.d 3 7)
  simp only [execOp, resolve, e0, e1]
  go_simp
 intro act5 w5 T
 have ⟨h0_5, h1_5, h2_5, h3_5⟩ := T.r4 h0_4 h1_4 h2_4 h3_4
 have kg1_1_5 := T.x lg1_1_4 kg1_1_4
 have lg1_1_5 := T.l lg1_1_4
 have Fkj_5 := T.f Fkj_4
 have Oout_5 := T.g hc1_4
 have h8_5 : act5.eval (.tmp 8) = .bool q8 := T.done 4 8 rfl rfl
 have d5 := T.e d4
 have s5 := T.z s4
 have bl5 := T.b bl4
 clear T
 refine Eng.tail_nil ?_
 refine wp_cond_split h8_5 (fun hq => ?_) (fun hq => ?_)
 ·
  have c8 := Bq8.symm.trans hq
  clear hq
  have c8 := of_decide_eq_true c8
  have hm0 : 2 * m < x.kids.length := by omega
  refine wp_skip ?_
  refine wp_seq ?_
  refine wp_block ?_
  refine Eng.regionT (n := 9) rfl ?_
  refine Eng.tail_val rfl rfl rfl (Eng.run_move rfl h2_5) s5 rfl fun act7 d7 s7 h11_7 hr => ?_
  have ⟨h0_7, h1_7, h3_7⟩ := Eng.k3 hr h0_5 h1_5 h3_5
  have d7 := d7.trans d5
  clear hr
  refine Eng.tail_val (w1 := w5) (v := .pointer (some ⟨g1_1, 3, none⟩)) rfl rfl rfl ?_ s7 rfl ?_
  ·exact Eng.run_fieldb rfl Tryd.underlying57 3 (by kernel_rfl) h1_7
  intro act8 d8 s8 h12_8 hr
  have ⟨h0_8, h1_8, h3_8, h11_8⟩ := Eng.k4 hr h0_7 h1_7 h3_7 h11_7
  have d8 := d8.trans d7
  clear hr
  refine Eng.tail_val (w1 := w5) (v := kv) rfl rfl rfl ?_ s8 rfl ?_
  ·exact Eng.run_loadb rfl h12_8 (((Below.refl _ _).block _ lg1_1_5).trans kg1_1_5) rfl (by kernel_rfl)
  intro act9 d9 s9 h13_9 hr
  have ⟨h0_9, h1_9, h3_9, h11_9⟩ := Eng.k4 hr h0_8 h1_8 h3_8 h11_8
  have d9 := d9.trans d8
  clear hr
  refine Eng.tail_val rfl rfl rfl (Eng.run_move rfl h3_9) s9 rfl fun act10 d10 s10 h14_10 hr => ?_
  have ⟨h0_10, h1_10, h3_10, h11_10, h13_10⟩ := Eng.k5 hr h0_9 h1_9 h3_9 h11_9 h13_9
  have d10 := d10.trans d9
  clear hr
  refine Eng.tail_val (w1 := w5) (v := Eng.elemPtr kv ((2 * m) * 1)) rfl rfl rfl ?_ s10 rfl ?_
  ·exact Eng.run_index_sl rfl Tryd.underlying55 (by kernel_rfl) (show act10.eval (.tmp 13) = kv from h13_10) ((show act10.eval (.tmp 14) = .int .i64 ((2 * m : Nat) : Int) from h14_10).trans (congrArg (Value.int _) (show ((2 * m : Nat) : Int) = (((2 * m) : Nat) : Int) from by first | rfl | omega))) Fkj_5 (by first | rfl | omega) rfl
  intro act11 d11 s11 h15_11 hr
  have ⟨h0_11, h1_11, h3_11, h11_11⟩ := Eng.k4 hr h0_10 h1_10 h3_10 h11_10
  have d11 := d11.trans d10
  clear hr
  refine Eng.tail_val (w1 := w5) (v := .int .i64 (x.kids.getD (2 * m) 0)) rfl rfl rfl ?_ s11 rfl ?_
  ·exact Eng.run_load_el (.int .i64 (x.kids.getD (2 * m) 0)) rfl (show act11.eval (.tmp 15) = Eng.elemPtr kv ((2 * m) * 1) from h15_11) Fkj_5 (Dc.ints_get1 x.kids (2 * m) (by first | rfl | omega)) (by kernel_rfl)
  intro act12 d12 s12 h16_12 hr
  have ⟨h0_12, h1_12, h3_12, h11_12⟩ := Eng.k4 hr h0_11 h1_11 h3_11 h11_11
  have d12 := d12.trans d11
  clear hr
  refine Eng.tail_ex rfl rfl rfl (Eng.run_buildN1 (z := .int .i64 0) [.int .i64 (x.kids.getD (2 * m) 0)] rfl Tryd.underlying55 (by kernel_rfl) rfl rfl rfl rfl (by intro v hv; have h := List.mem_singleton.1 hv; rw [h]; exact rfl) (by have e0 : act12.eval (.tmp 16) = .int .i64 (x.kids.getD (2 * m) 0) := h16_12; simp [e0])) s12 rfl fun v_13 w13 act13 R d13 s13 h17_13 hr => ?_
  obtain ⟨F_13, b_13⟩ := R
  have ⟨h0_13, h1_13, h3_13, h11_13⟩ := Eng.k4 hr h0_12 h1_12 h3_12 h11_12
  have d13 := d13.trans d12
  clear hr
  have kg1_1_13 := (b_13.block _ lg1_1_5).trans kg1_1_5
  have lg1_1_13 := Nat.lt_of_lt_of_le lg1_1_5 b_13.size
  have Oout_13 := Eng.own_below Oout_5 b_13
  have bl13 := bl5.trans (b_13.mono bl5.size)
  refine Eng.tail_ex rfl rfl rfl (Eng.run_appendI (z := .int .i64 0) rfl Tryd.underlying55 (by kernel_rfl) rfl rfl h11_13 Oout_13 h17_13 F_13 (by intro u hu; simp at hu; subst hu; rfl) (by rw [Dc.keysI_len]; omega) bl13.size) s13 rfl fun v_14 w14 act14 R d14 s14 h18_14 hr => ?_
  obtain ⟨O_14, _, b_14, G_14, EO_14⟩ := R
  have ⟨h0_14, h1_14, h3_14⟩ := Eng.k3 hr h0_13 h1_13 h3_13
  have d14 := d14.trans d13
  clear hr
  have kg1_1_14 := (G_14.block _ lg1_1_13 (Eng.own_ne Oout_13 kg1_1_13 rfl)).trans kg1_1_13
  have lg1_1_14 := Nat.lt_of_lt_of_le lg1_1_13 G_14.size
  have bl14 := bl13.trans b_14
  have Oa14 : w14.ownsRow w.heap.size 3 1 v_14 (Dc.keysI x.kids (m + 1)).length (Dc.ints (Dc.keysI x.kids (m + 1))) := Dc.own_keys O_14
  have Fa14 := Eng.Reads.of_own Oa14
  refine Eng.tail_val rfl rfl rfl (Eng.run_assign rfl h18_14) s14 rfl fun act15 d15 s15 h2_15 hr => ?_
  have ⟨h0_15, h1_15, h3_15⟩ := Eng.k3 hr h0_14 h1_14 h3_14
  have d15 := d15.trans d14
  clear hr
  refine Eng.tail_nil ?_
  refine Eng.rS [.int .i64 ((2 * m : Nat) : Int), .int .i64 (IntKind.i64.wrap (((2 * m : Nat) : Int) + 2)), .int .i64 (IntKind.i64.wrap (((2 * m : Nat) : Int) + 2))] (fun _ => .plain) 3 0 s15 ?_ ?_
  ·refine .c ?_ (.c ?_ (.c ?_ (.nil)))
   ·exact Eng.pv fun a w' H => Eng.vr rfl (Eng.run_move rfl (H.q 3 h3_15))
   ·refine Eng.pv fun a w' H => ?_
    refine Eng.vr (v := .int .i64 (IntKind.i64.wrap (((2 * m : Nat) : Int) + 2))) rfl ?_
    have e0 : a.eval (.tmp 9) = .int .i64 ((2 * m : Nat) : Int) := (H.d 0 9)
    have e1 : a.eval (.const (.int .i64 2)) = .int .i64 2 := rfl
    simp only [execOp, resolve, e0, e1]
    go_simp
   exact Eng.pv fun a w' H => Eng.vr rfl (Eng.run_assign rfl (H.d 1 10))
  intro act16 w16 T
  have ⟨h0_16, h1_16, h2_16⟩ := T.r3 h0_15 h1_15 h2_15
  have kg1_1_16 := T.x lg1_1_14 kg1_1_14
  have lg1_1_16 := T.l lg1_1_14
  have Oa14_16 := T.g Oa14
  have h3_16 : act16.eval (.tmp 3) = .int .i64 (IntKind.i64.wrap (((2 * m : Nat) : Int) + 2)) := T.done 2 3 rfl rfl
  have d16 := T.e d15
  have s16 := T.z s15
  have bl16 := T.b bl14
  clear T
  refine Eng.tail_nil ?_
  exact ⟨_, by omega, m + 1, v_14, rfl, by omega, Oa14_16, d16, s16, bl16, h0_16, h1_16, (h2_16.trans (by first | rfl | (congr 1; rw [Eng.i64_id (by omega) (by omega)]; omega) | (simp; done))), (h3_16.trans (by first | rfl | (congr 1; rw [Eng.i64_id (by omega) (by omega)]; omega) | (simp; done))), kg1_1_16, lg1_1_16⟩
 have c8 := Bq8.symm.trans hq
 clear hq
 have c8 := of_decide_eq_false c8
 have hme : x.kids.length ≤ 2 * m := by omega
 refine wp_exit ?_
 refine wp_seq ?_
 refine Eng.rS [o, o] (fun _ => .plain) 2 0 s5 ?_ ?_
 ·refine .c ?_ (.c ?_ (.nil))
  ·exact Eng.pv fun a w' H => Eng.vr rfl (Eng.run_move rfl (H.q 2 h2_5))
  exact Eng.pv fun a w' H => Eng.vr rfl (Eng.run_assign rfl (H.d 0 19))
 intro act18 w18 T
 have Oout_18 := T.g Oout_5
 have h2_18 : act18.eval (.tmp 2) = o := T.done 1 2 rfl rfl
 have d18 := T.e d5
 have bl18 := T.b bl5
 clear T
 refine Eng.tail_nil ?_
 refine wp_ret ?_
 repeat (first | refine Eng.in_ret ?_ | refine Eng.then_ret ?_)
 have fin := Oout_18
 rw [Dc.keys_end _ _ hme hm1] at fin
 exact Eng.ret1 rfl d18 h2_18 ⟨_, rfl, fin, bl18⟩
end Go.Proofs.YtgnmjaacnmkgnaaDoor.X
end
section
namespace Go.Proofs.YtgnmjaacnmkgnaaDoor.X
open Go.RowKit Go.Shelf Go.Proofs Go.Proofs.YtgnmjaacnmkgnaaDoorW.PrintWords Go.Proofs.YtgnmjaacnmkgnaaDoorW.PrintLast Go.Proofs.YtgnmjaacnmkgnaaDoorW.PrintMore
set_option linter.unusedVariables false
set_option linter.unusedSimpArgs false
attribute [local go_sem] max2_int min2_int max_two min_two
set_option maxHeartbeats 4000000 in
set_option maxRecDepth 100000 in
theorem Dc.has_calls (gv : Value) (n : Nat) (xs : List Value) (i : Int) (w : World) (hl : Eng.Reads w gv n 4 xs) : Calls Tryd.prog 73 #[gv, .int .i64 i] w fun e w' => e = .returned (.bool (decide (i ≥ 0) && decide (i < (n : Int)))) ∧ Below w.heap.size w w' := by
 refine Eng.enter Tryd.func73 rfl fun act0 d0 s0 v0 => ?_
 have s0 : act0.tmps.size = 13 := s0
 have h0_0 : act0.eval (.tmp 0) = gv := v0 0 (by simp)
 have h1_0 : act0.eval (.tmp 1) = .int .i64 i := v0 1 (by simp)
 clear v0
 have bl0 : Below w.heap.size w w := Below.refl _ _
 refine wp_seq ?_
 refine Eng.rS [.bool false] (fun _ => .plain) 1 0 s0 ?_ ?_
 ·refine .c ?_ (.nil)
  ·exact Eng.pv fun a w' H => Eng.vr rfl (Eng.run_assign rfl (rfl : a.eval (.const (.bool false)) = .bool false))
 intro act1 w1 T
 have ⟨h0_1, h1_1⟩ := T.r2 h0_0 h1_0
 have Fgr_1 := T.f hl
 have d1 := T.e d0
 have s1 := T.z s0
 have bl1 := T.b bl0
 clear T
 refine Eng.tail_nil ?_
 refine wp_seq ?_
 obtain ⟨q6, Bq6⟩ : ∃ b : Bool, b = (decide (i ≥ 0)) := ⟨_, rfl⟩
 obtain ⟨q11, Bq11⟩ : ∃ b : Bool, b = (decide (i < (n : Int))) := ⟨_, rfl⟩
 obtain ⟨q12, Bq12⟩ : ∃ b : Bool, b = (q6 && q11) := ⟨_, rfl⟩
 refine Eng.rS [.int .i64 i, .bool q6, .bool q6, bif (q6 == true) then (.int .i64 i) else undef, bif (q6 == true) then (gv) else undef, bif (q6 == true) then (.int .i64 (n : Int)) else undef, bif (q6 == true) then (.bool q11) else undef, .bool q12, .bool q12] (fun _ => .plain) 9 0 s1 ?_ ?_
 ·refine .c ?_ (.c ?_ (.c ?_ (.c ?_ (.c ?_ (.c ?_ (.c ?_ (.c ?_ (.c ?_ (.nil)))))))))
  ·exact Eng.pv fun a w' H => Eng.vr rfl (Eng.run_move rfl (H.q 1 h1_1))
  ·refine Eng.pv fun a w' H => ?_
   refine Eng.vr (v := .bool (decide (i ≥ 0))) (by show _ = Value.bool q6; rw [Bq6]) ?_
   have e0 : a.eval (.tmp 5) = .int .i64 i := (H.d 0 5)
   have e1 : a.eval (.const (.int .i64 0)) = .int .i64 0 := rfl
   simp only [execOp, resolve, e0, e1]
   go_simp
  ·exact Eng.pv fun a w' H => Eng.vr rfl (Eng.run_move rfl (H.d 1 6))
  ·refine Eng.guarded1 (j := 2) (d := 7) (b := q6) rfl rfl (by kernel_rfl) rfl (fun v w h => h) (fun hG w => Eng.off hG) fun hG a w' H => ?_
   exact Eng.val (w1 := w') (v := .int .i64 i) (Eng.run_move rfl (H.q 1 h1_1)) (Below.refl _ _) (Eng.off' hG rfl)
  ·refine Eng.guarded1 (j := 2) (d := 7) (b := q6) rfl rfl (by kernel_rfl) rfl (fun v w h => h) (fun hG w => Eng.off hG) fun hG a w' H => ?_
   exact Eng.val (w1 := w') (v := gv) (Eng.run_move rfl (H.q 0 h0_1)) (Below.refl _ _) (Eng.off' hG rfl)
  ·refine Eng.guarded1 (j := 2) (d := 7) (b := q6) rfl rfl (by kernel_rfl) rfl (fun v w h => h) (fun hG w => Eng.off hG) fun hG a w' H => ?_
   refine Eng.vr (v := .int .i64 (n : Int)) (Eng.off' hG rfl) ?_
   exact Eng.run_len_sl rfl Tryd.underlying48 (show a.eval (.tmp 9) = gv from (Eng.on (H.d 4 9) hG)) (Eng.Reads.below Fgr_1 H.below)
  ·refine Eng.guarded1 (j := 2) (d := 7) (b := q6) rfl rfl (by kernel_rfl) rfl (fun v w h => h) (fun hG w => Eng.off hG) fun hG a w' H => ?_
   refine Eng.vr (v := .bool (decide (i < (n : Int)))) (Eng.off' hG (by rw [Bq11])) ?_
   have e0 : a.eval (.tmp 8) = .int .i64 i := (Eng.on (H.d 3 8) hG)
   have e1 : a.eval (.tmp 10) = .int .i64 (n : Int) := (Eng.on (H.d 5 10) hG)
   simp only [execOp, resolve, e0, e1]
   go_simp
  ·exact Eng.pv fun a w' H => Eng.vr (v := .bool (q6 && q11)) (by show _ = Value.bool q12; rw [Bq12]) (Eng.run_and rfl rfl (G := true) (H.d 2 7) (fun hb => (Eng.on (H.d 6 11) (Eng.mk1 hb))))
  exact Eng.pv fun a w' H => Eng.vr rfl (Eng.run_assign rfl (H.d 7 12))
 intro act2 w2 T
 have h4_2 : act2.eval (.tmp 4) = .bool q12 := T.done 8 4 rfl rfl
 have d2 := T.e d1
 have bl2 := T.b bl1
 clear T
 refine Eng.tail_nil ?_
 refine wp_ret ?_
 repeat (first | refine Eng.in_ret ?_ | refine Eng.then_ret ?_)
 exact Eng.ret1 rfl d2 (h4_2.trans (by rw [Bq12, Bq11, Bq6])) ⟨rfl, bl2⟩
end Go.Proofs.YtgnmjaacnmkgnaaDoor.X
end
section
namespace Go.Proofs.YtgnmjaacnmkgnaaDoor.X
open Go.RowKit Go.Shelf Go.Proofs Go.Proofs.YtgnmjaacnmkgnaaDoorW.PrintWords Go.Proofs.YtgnmjaacnmkgnaaDoorW.PrintLast Go.Proofs.YtgnmjaacnmkgnaaDoorW.PrintMore
set_option linter.unusedVariables false
set_option linter.unusedSimpArgs false
attribute [local go_sem] max2_int min2_int max_two min_two
set_option maxHeartbeats 4000000 in
set_option maxRecDepth 100000 in
theorem Dc.take_begin (dg : Nat) (gv ov mv : Value) (x : Evt.Ev) (w W0 : World) (hB : Below w.heap.size w W0) (hlo : w.heap.size ≤ dg) (hk : W0.heap[dg]? = some (.cells #[gv, ov, mv] 64 (0, 0))) (hkd : x.kind = 0) : Calls Tryd.prog 30 #[.pointer (some ⟨dg, 0, none⟩), .agg #[.int .i64 x.kind, .string x.anchor, .string x.tag, .string x.text, .bool x.plain]] W0 fun e w' => e = .returned (.tuple #[.bool false, .int .i64 0]) ∧ ∃ mb, Dc.Rep w.heap.size w' [] [] [] (.slice none 0 0) (.slice none 0 0) mb ∧ w'.heap[dg]? = some (.cells #[.slice none 0 0, .slice none 0 0, .map (some mb)] 64 (0, 0)) ∧ Eng.Aft (fun b => b = dg) W0 w' ∧ W0.heap.size ≤ mb := by
 refine Eng.enter Tryd.func30 rfl fun act0 d0 s0 v0 => ?_
 have s0 : act0.tmps.size = 60 := s0
 have h0_0 : act0.eval (.tmp 0) = .pointer (some ⟨dg, 0, none⟩) := v0 0 (by simp)
 have h1_0 : act0.eval (.tmp 1) = .agg #[.int .i64 x.kind, .string x.anchor, .string x.tag, .string x.text, .bool x.plain] := v0 1 (by simp)
 clear v0
 refine wp_seq ?_
 refine Eng.regionS (Eng.still [fun u_ => True, fun u_ => u_ = .bool false, fun u_ => u_ = .int .i64 0]) (fun i => ([.alloc 30 #[.int .i64 x.kind, .string x.anchor, .string x.tag, .string x.text, .bool x.plain], .plain, .plain] : List Eng.Kind).getD i .plain) 3 0 60 s0 rfl (by kernel_rfl) (Eng.still_stable _) (Or.inr (Eng.still_any _)) ?_ ?_
 ·refine .c ?_ (.c ?_ (.c ?_ (.nil)))
  ·refine Eng.made rfl (by simp) rfl (fun a w' hd ho => ?_) (fun _ _ => trivial)
   exact Eng.run_box rfl ((ho 1 (by kernel_rfl)).trans h1_0)
  ·exact Eng.pv fun a w' H => Eng.vr rfl (Eng.run_assign rfl (rfl : a.eval (.const (.bool false)) = .bool false))
  exact Eng.pv fun a w' H => Eng.vr rfl (Eng.run_assign rfl (rfl : a.eval (.const (.int .i64 0)) = .int .i64 0))
 intro act1 w1 T
 have h0_1 := T.r1 h0_0
 have kdg_1 := (T.below.block _ (Array.getElem?_eq_some_iff.1 hk).1).trans hk
 have ldg_1 := Nat.lt_of_lt_of_le (Array.getElem?_eq_some_iff.1 hk).1 T.below.size
 obtain ⟨g3_1, h3_1, rg3_1, lg3_1_1, kg3_1_1⟩ := T.al 0 3 _ _ rfl rfl rfl (by kernel_rfl)
 have d1 := T.e d0
 have s1 := T.z s0
 have bl1 := hB.trans (T.below.mono hB.size)
 have XX_1 := Eng.Aft.step (Eng.Aft.refl (fun b => b = dg) W0) T.below
 clear T
 refine Eng.tail_nil ?_
 refine wp_seq ?_
 refine wp_seq ?_
 refine Eng.rS [.pointer (some ⟨g3_1, 0, none⟩), .int .i64 x.kind] (fun _ => .plain) 2 0 s1 ?_ ?_
 ·refine .c ?_ (.c ?_ (.nil))
  ·exact Eng.pv fun a w' H => Eng.vr rfl (Eng.run_fieldb rfl Tryd.underlying30 0 (by kernel_rfl) (H.q 3 h3_1))
  exact Eng.pv fun a w' H => Eng.vr rfl (Eng.run_loadb rfl (H.d 0 8) ((H.below.block _ lg3_1_1).trans kg3_1_1) rfl (by kernel_rfl))
 intro act2 w2 T
 have h0_2 := T.r1 h0_1
 have kdg_2 := T.x ldg_1 kdg_1
 have ldg_2 := T.l ldg_1
 have h9_2 : act2.eval (.tmp 9) = .int .i64 x.kind := T.done 1 9 rfl rfl
 have d2 := T.e d1
 have s2 := T.z s1
 have bl2 := T.b bl1
 have XX_2 := Eng.Aft.step XX_1 T.below
 clear T
 refine Eng.tail_nil ?_
 refine wp_block ?_
 refine wp_seq ?_
 obtain ⟨q14, Bq14⟩ : ∃ b : Bool, b = (x.kind == 0) := ⟨_, rfl⟩
 refine Eng.rS [.bool q14, .bool q14] (fun _ => .plain) 2 0 s2 ?_ ?_
 ·refine .c ?_ (.c ?_ (.nil))
  ·refine Eng.pv fun a w' H => ?_
   refine Eng.vr (v := .bool (x.kind == 0)) (by show _ = Value.bool q14; rw [Bq14]) ?_
   have e0 := (H.q 9 h9_2)
   have e1 : a.eval (.const (.int .i64 0)) = .int .i64 0 := rfl
   simp only [execOp, resolve, List.map_toArray, List.map_cons, List.map_nil, e0, e1]
   go_simp
  exact Eng.pv fun a w' H => Eng.vr rfl (Eng.run_assign rfl (H.d 0 14))
 intro act3 w3 T
 have h0_3 := T.r1 h0_2
 have kdg_3 := T.x ldg_2 kdg_2
 have ldg_3 := T.l ldg_2
 have h13_3 : act3.eval (.tmp 13) = .bool q14 := T.done 1 13 rfl rfl
 have d3 := T.e d2
 have s3 := T.z s2
 have bl3 := T.b bl2
 have XX_3 := Eng.Aft.step XX_2 T.below
 clear T
 refine Eng.tail_nil ?_
 have n13_0 : q14 = true := by
  simp only [Bq14]
  rw [hkd]; rfl
 refine wp_cond_true (h13_3.trans (by rw [n13_0])) ?_
 refine Eng.regionT (n := 5) rfl ?_
 refine Eng.tail_val rfl rfl rfl (Eng.run_move rfl h0_3) s3 rfl fun act4 d4 s4 hv hr => ?_
 have h15_4 : act4.eval (.tmp 15) = .pointer (some ⟨dg, 0, none⟩) := hv
 have d4 := d4.trans d3
 clear hv hr
 refine Eng.tail_ex rfl rfl rfl (Dc.make_ex (B := w.heap.size) rfl bl3.size) s4 rfl fun v_5 w5 act5 R d5 s5 hv hr => ?_
 obtain ⟨mb5, ev_5, rm_5, M_5, b_5⟩ := R
 have h15_5 := Eng.k1 hr h15_4
 have h16_5 : act5.eval (.tmp 16) = v_5 := hv
 have d5 := d5.trans d4
 clear hv hr
 have nm5 : W0.heap.size ≤ mb5 := Nat.le_trans XX_3.size rm_5
 have kdg_5 := (b_5.block _ ldg_3).trans kdg_3
 have ldg_5 := Nat.lt_of_lt_of_le ldg_3 b_5.size
 have XX_5 := Eng.Aft.step XX_3 b_5
 rw [ev_5] at h16_5
 refine Eng.tail_val (w1 := w5) (v := .agg #[.slice none 0 0, .slice none 0 0, .map (some mb5)]) rfl rfl rfl ?_ s5 rfl ?_
 ·have e0 : act5.eval (.tmp 16) = .map (some mb5) := h16_5
  simp only [execOp, resolve, List.map_toArray, List.map_cons, List.map_nil, e0]
  go_simp
 intro act6 d6 s6 hv hr
 have h15_6 := Eng.k1 hr h15_5
 have h17_6 : act6.eval (.tmp 17) = .agg #[.slice none 0 0, .slice none 0 0, .map (some mb5)] := hv
 have d6 := d6.trans d5
 clear hv hr
 refine Eng.tail_val (w1 := w5) (v := .pointer (some ⟨dg, 0, none⟩)) rfl rfl rfl ?_ s6 rfl ?_
 ·exact Eng.run_nilb rfl h15_6
 intro act7 d7 s7 hv hr
 have h17_7 := Eng.k1 hr h17_6
 have h18_7 : act7.eval (.tmp 18) = .pointer (some ⟨dg, 0, none⟩) := hv
 have d7 := d7.trans d6
 clear hv hr
 refine Eng.tail_put [.slice none 0 0, .slice none 0 0, .map (some mb5)] (n := 0) (new := #[.slice none 0 0, .slice none 0 0, .map (some mb5)]) rfl rfl rfl kdg_5 rfl ?_ fun w8 S => ?_
 ·have e0 : act7.eval (.tmp 18) = .pointer (some ⟨dg, 0, none⟩) := h18_7
  have e1 : act7.eval (.tmp 17) = .agg #[.slice none 0 0, .slice none 0 0, .map (some mb5)] := h17_7
  have z0 := (Eng.cells kdg_5 (0)).trans (rfl)
  have f0 := Eng.unfrozen kdg_5 (0)
  have z1 := (Eng.cells kdg_5 (1)).trans (rfl)
  have f1 := Eng.unfrozen kdg_5 (1)
  have z2 := (Eng.cells kdg_5 (2)).trans (rfl)
  have f2 := Eng.unfrozen kdg_5 (2)
  simp only [execOp]
  rw [e0, e1]
  go_simp
  try rfl
 have kdg_8 := S.new
 have ldg_8 := Nat.lt_of_lt_of_eq ldg_5 S.size.symm
 have XX_8 := Eng.Aft.sets XX_5 S (fun _ => rfl)
 have XM_8 := Dc.mrep_sets M_5 S kdg_5
 clear S
 refine Eng.tail_nil ?_
 refine wp_seq ?_
 refine Eng.rS [.bool false, .int .i64 0] (fun _ => .plain) 2 0 s7 ?_ ?_
 ·refine .c ?_ (.c ?_ (.nil))
  ·exact Eng.pv fun a w' H => Eng.vr rfl (Eng.run_assign rfl (rfl : a.eval (.const (.bool false)) = .bool false))
  exact Eng.pv fun a w' H => Eng.vr rfl (Eng.run_assign rfl (rfl : a.eval (.const (.int .i64 0)) = .int .i64 0))
 intro act9 w9 T
 have kdg_9 := T.x ldg_8 kdg_8
 have h4_9 : act9.eval (.tmp 4) = .bool false := T.done 0 4 rfl rfl
 have h5_9 : act9.eval (.tmp 5) = .int .i64 0 := T.done 1 5 rfl rfl
 have d9 := T.e d7
 have XX_9 := Eng.Aft.step XX_8 T.below
 have XM_9 := Dc.mrep_below XM_8 T.below
 clear T
 refine Eng.tail_nil ?_
 refine wp_ret ?_
 repeat (first | refine Eng.in_ret ?_ | refine Eng.then_ret ?_)
 exact Eng.ret2 rfl d9 h4_9 h5_9 ⟨rfl, mb5, Dc.rep_nil XM_9, kdg_9, XX_9, nm5⟩
set_option maxHeartbeats 4000000 in
set_option maxRecDepth 100000 in
theorem Dc.take_end (dg mb : Nat) (gv ov : Value) (h : List Dc.NV) (opn : List Int) (names : List (List UInt8 × Int)) (x : Evt.Ev) (w W0 : World) (hB : Below w.heap.size w W0) (hlo : w.heap.size ≤ dg) (hk : W0.heap[dg]? = some (.cells #[gv, ov, .map (some mb)] 64 (0, 0))) (hR : Dc.Rep w.heap.size W0 h opn names gv ov mb) (hkd : x.kind = 1) (hTw : Dc.TwOK (h.map (·.1))) : Calls Tryd.prog 30 #[.pointer (some ⟨dg, 0, none⟩), .agg #[.int .i64 x.kind, .string x.anchor, .string x.tag, .string x.text, .bool x.plain]] W0 fun e w' => e = .returned (.tuple #[.bool (!Dc.twiceF (h.map (·.1))), .int .i64 (if Dc.twiceF (h.map (·.1)) = true then 12 else 0)]) ∧ Dc.St w.heap.size W0 w' dg (Dc.Blk h gv ov mb) h opn names gv ov mb ∧ w'.heap[dg]? = some (.cells #[gv, ov, .map (some mb)] 64 (0, 0)) := by
 refine Eng.enter Tryd.func30 rfl fun act0 d0 s0 v0 => ?_
 have s0 : act0.tmps.size = 60 := s0
 have h0_0 : act0.eval (.tmp 0) = .pointer (some ⟨dg, 0, none⟩) := v0 0 (by simp)
 have h1_0 : act0.eval (.tmp 1) = .agg #[.int .i64 x.kind, .string x.anchor, .string x.tag, .string x.text, .bool x.plain] := v0 1 (by simp)
 clear v0
 refine wp_seq ?_
 refine Eng.regionS (Eng.still [fun u_ => True, fun u_ => u_ = .bool false, fun u_ => u_ = .int .i64 0]) (fun i => ([.alloc 30 #[.int .i64 x.kind, .string x.anchor, .string x.tag, .string x.text, .bool x.plain], .plain, .plain] : List Eng.Kind).getD i .plain) 3 0 60 s0 rfl (by kernel_rfl) (Eng.still_stable _) (Or.inr (Eng.still_any _)) ?_ ?_
 ·refine .c ?_ (.c ?_ (.c ?_ (.nil)))
  ·refine Eng.made rfl (by simp) rfl (fun a w' hd ho => ?_) (fun _ _ => trivial)
   exact Eng.run_box rfl ((ho 1 (by kernel_rfl)).trans h1_0)
  ·exact Eng.pv fun a w' H => Eng.vr rfl (Eng.run_assign rfl (rfl : a.eval (.const (.bool false)) = .bool false))
  exact Eng.pv fun a w' H => Eng.vr rfl (Eng.run_assign rfl (rfl : a.eval (.const (.int .i64 0)) = .int .i64 0))
 intro act1 w1 T
 have h0_1 := T.r1 h0_0
 have kdg_1 := (T.below.block _ (Array.getElem?_eq_some_iff.1 hk).1).trans hk
 have ldg_1 := Nat.lt_of_lt_of_le (Array.getElem?_eq_some_iff.1 hk).1 T.below.size
 obtain ⟨g3_1, h3_1, rg3_1, lg3_1_1, kg3_1_1⟩ := T.al 0 3 _ _ rfl rfl rfl (by kernel_rfl)
 have d1 := T.e d0
 have s1 := T.z s0
 have XX_1 := Dc.St.below (Dc.St.start (dg := dg) hR) T.below
 clear T
 refine Eng.tail_nil ?_
 refine wp_seq ?_
 refine wp_seq ?_
 refine Eng.rS [.pointer (some ⟨g3_1, 0, none⟩), .int .i64 x.kind] (fun _ => .plain) 2 0 s1 ?_ ?_
 ·refine .c ?_ (.c ?_ (.nil))
  ·exact Eng.pv fun a w' H => Eng.vr rfl (Eng.run_fieldb rfl Tryd.underlying30 0 (by kernel_rfl) (H.q 3 h3_1))
  exact Eng.pv fun a w' H => Eng.vr rfl (Eng.run_loadb rfl (H.d 0 8) ((H.below.block _ lg3_1_1).trans kg3_1_1) rfl (by kernel_rfl))
 intro act2 w2 T
 have h0_2 := T.r1 h0_1
 have kdg_2 := T.x ldg_1 kdg_1
 have ldg_2 := T.l ldg_1
 have h9_2 : act2.eval (.tmp 9) = .int .i64 x.kind := T.done 1 9 rfl rfl
 have d2 := T.e d1
 have s2 := T.z s1
 have XX_2 := Dc.St.below XX_1 T.below
 clear T
 refine Eng.tail_nil ?_
 refine wp_block ?_
 refine wp_seq ?_
 obtain ⟨q14, Bq14⟩ : ∃ b : Bool, b = (x.kind == 0) := ⟨_, rfl⟩
 refine Eng.rS [.bool q14, .bool q14] (fun _ => .plain) 2 0 s2 ?_ ?_
 ·refine .c ?_ (.c ?_ (.nil))
  ·refine Eng.pv fun a w' H => ?_
   refine Eng.vr (v := .bool (x.kind == 0)) (by show _ = Value.bool q14; rw [Bq14]) ?_
   have e0 := (H.q 9 h9_2)
   have e1 : a.eval (.const (.int .i64 0)) = .int .i64 0 := rfl
   simp only [execOp, resolve, List.map_toArray, List.map_cons, List.map_nil, e0, e1]
   go_simp
  exact Eng.pv fun a w' H => Eng.vr rfl (Eng.run_assign rfl (H.d 0 14))
 intro act3 w3 T
 have ⟨h0_3, h9_3⟩ := T.r2 h0_2 h9_2
 have kdg_3 := T.x ldg_2 kdg_2
 have ldg_3 := T.l ldg_2
 have h13_3 : act3.eval (.tmp 13) = .bool q14 := T.done 1 13 rfl rfl
 have d3 := T.e d2
 have s3 := T.z s2
 have XX_3 := Dc.St.below XX_2 T.below
 clear T
 refine Eng.tail_nil ?_
 have n13_0 : q14 = false := by
  simp only [Bq14]
  rw [hkd]; rfl
 refine wp_cond_false (h13_3.trans (by rw [n13_0])) ?_
 refine wp_seq ?_
 obtain ⟨q20, Bq20⟩ : ∃ b : Bool, b = (x.kind == 1) := ⟨_, rfl⟩
 refine Eng.rS [.bool q20, .bool q20] (fun _ => .plain) 2 0 s3 ?_ ?_
 ·refine .c ?_ (.c ?_ (.nil))
  ·refine Eng.pv fun a w' H => ?_
   refine Eng.vr (v := .bool (x.kind == 1)) (by show _ = Value.bool q20; rw [Bq20]) ?_
   have e0 := (H.q 9 h9_3)
   have e1 : a.eval (.const (.int .i64 1)) = .int .i64 1 := rfl
   simp only [execOp, resolve, List.map_toArray, List.map_cons, List.map_nil, e0, e1]
   go_simp
  exact Eng.pv fun a w' H => Eng.vr rfl (Eng.run_assign rfl (H.d 0 20))
 intro act4 w4 T
 have h0_4 := T.r1 h0_3
 have kdg_4 := T.x ldg_3 kdg_3
 have ldg_4 := T.l ldg_3
 have h19_4 : act4.eval (.tmp 19) = .bool q20 := T.done 1 19 rfl rfl
 have d4 := T.e d3
 have s4 := T.z s3
 have XX_4 := Dc.St.below XX_3 T.below
 clear T
 refine Eng.tail_nil ?_
 have n19_1 : q20 = true := by
  simp only [Bq20, Bq14]
  rw [hkd]; rfl
 refine wp_cond_true (h19_4.trans (by rw [n19_1])) ?_
 refine wp_seq ?_
 refine wp_seq ?_
 obtain ⟨q25, Bq25⟩ : ∃ b : Bool, b = (Dc.twiceF (h.map (·.1))) := ⟨_, rfl⟩
 refine Eng.rS [.pointer (some ⟨dg, 0, none⟩), .pointer (some ⟨dg, 0, none⟩), .pointer (some ⟨dg, 0, none⟩), gv, .bool q25] (fun _ => .plain) 5 0 s4 ?_ ?_
 ·refine .c ?_ (.c ?_ (.c ?_ (.c ?_ (.c ?_ (.nil)))))
  ·exact Eng.pv fun a w' H => Eng.vr rfl (Eng.run_move rfl (H.q 0 h0_4))
  ·exact Eng.pv fun a w' H => Eng.vr rfl (Eng.run_nilb rfl (H.d 0 21))
  ·exact Eng.pv fun a w' H => Eng.vr rfl (Eng.run_fieldb rfl Tryd.underlying64 0 (by kernel_rfl) (H.d 1 22))
  ·exact Eng.pv fun a w' H => Eng.vr rfl (Eng.run_loadb rfl (H.d 2 23) ((H.below.block _ ldg_4).trans kdg_4) rfl (by kernel_rfl))
  refine Eng.pv fun a w' H => ?_
  refine Eng.call Tryd.func41 (by kernel_rfl) (by kernel_rfl) rfl #[gv] ?_ ?_
  ·have e0 : a.eval (.tmp 24) = gv := (H.d 3 24); simp only [List.map_toArray, List.map_cons, List.map_nil, e0]
  refine (hTw w.heap.size _ h opn names gv ov mb rfl (Dc.Rep.below XX_4.R H.below)).mono ?_
  rintro e w'' ⟨rfl, hb⟩
  exact ⟨_, rfl, (by show _ = Value.bool q25; rw [Bq25]), hb⟩
 intro act5 w5 T
 have kdg_5 := T.x ldg_4 kdg_4
 have ldg_5 := T.l ldg_4
 have h25_5 : act5.eval (.tmp 25) = .bool q25 := T.done 4 25 rfl rfl
 have d5 := T.e d4
 have s5 := T.z s4
 have XX_5 := Dc.St.below XX_4 T.below
 clear T
 refine Eng.tail_nil ?_
 refine wp_cond_split h25_5 (fun hq => ?_) (fun hq => ?_)
 ·
  have c25 := Bq25.symm.trans hq
  clear hq
  refine wp_seq ?_
  refine Eng.rS [.bool false, .int .i64 12] (fun _ => .plain) 2 0 s5 ?_ ?_
  ·refine .c ?_ (.c ?_ (.nil))
   ·exact Eng.pv fun a w' H => Eng.vr rfl (Eng.run_assign rfl (rfl : a.eval (.const (.bool false)) = .bool false))
   exact Eng.pv fun a w' H => Eng.vr rfl (Eng.run_assign rfl (rfl : a.eval (.const (.int .i64 12)) = .int .i64 12))
  intro act7 w7 T
  have kdg_7 := T.x ldg_5 kdg_5
  have h4_7 : act7.eval (.tmp 4) = .bool false := T.done 0 4 rfl rfl
  have h5_7 : act7.eval (.tmp 5) = .int .i64 12 := T.done 1 5 rfl rfl
  have d7 := T.e d5
  have XX_7 := Dc.St.below XX_5 T.below
  clear T
  refine Eng.tail_nil ?_
  refine wp_ret ?_
  repeat (first | refine Eng.in_ret ?_ | refine Eng.then_ret ?_)
  have htw : Dc.twiceF (h.map (·.1)) = true := by have h1 := c25; simpa using h1
  exact Eng.ret2 rfl d7 h4_7 h5_7 ⟨by rw [htw]; rfl, XX_7, kdg_7⟩
 have c25 := Bq25.symm.trans hq
 clear hq
 refine wp_skip ?_
 refine wp_seq ?_
 refine Eng.rS [.bool true, .int .i64 0] (fun _ => .plain) 2 0 s5 ?_ ?_
 ·refine .c ?_ (.c ?_ (.nil))
  ·exact Eng.pv fun a w' H => Eng.vr rfl (Eng.run_assign rfl (rfl : a.eval (.const (.bool true)) = .bool true))
  exact Eng.pv fun a w' H => Eng.vr rfl (Eng.run_assign rfl (rfl : a.eval (.const (.int .i64 0)) = .int .i64 0))
 intro act9 w9 T
 have kdg_9 := T.x ldg_5 kdg_5
 have h4_9 : act9.eval (.tmp 4) = .bool true := T.done 0 4 rfl rfl
 have h5_9 : act9.eval (.tmp 5) = .int .i64 0 := T.done 1 5 rfl rfl
 have d9 := T.e d5
 have XX_9 := Dc.St.below XX_5 T.below
 clear T
 refine Eng.tail_nil ?_
 refine wp_ret ?_
 repeat (first | refine Eng.in_ret ?_ | refine Eng.then_ret ?_)
 have htw : Dc.twiceF (h.map (·.1)) = false := by have h1 := c25; simpa using h1
 exact Eng.ret2 rfl d9 h4_9 h5_9 ⟨by rw [htw]; rfl, XX_9, kdg_9⟩
set_option maxHeartbeats 4000000 in
set_option maxRecDepth 100000 in
theorem Dc.take_close3 (dg mb : Nat) (gv ov : Value) (h : List Dc.NV) (pre : List Int) (o : Int) (names : List (List UInt8 × Int)) (x : Evt.Ev) (w W0 : World) (hB : Below w.heap.size w W0) (hlo : w.heap.size ≤ dg) (hk : W0.heap[dg]? = some (.cells #[gv, ov, .map (some mb)] 64 (0, 0))) (hR : Dc.Rep w.heap.size W0 h (pre ++ [o]) names gv ov mb) (hkd : x.kind = 3) : Calls Tryd.prog 30 #[.pointer (some ⟨dg, 0, none⟩), .agg #[.int .i64 x.kind, .string x.anchor, .string x.tag, .string x.text, .bool x.plain]] W0 fun e w' => e = .returned (.tuple #[.bool false, .int .i64 0]) ∧ ∃ ov', Dc.St w.heap.size W0 w' dg (Dc.Blk h gv ov mb) h pre names gv ov' mb ∧ w'.heap[dg]? = some (.cells #[gv, ov', .map (some mb)] 64 (0, 0)) := by
 have hm := Eng.Reads.len_le (Eng.Reads.of_own hR.op)
 rw [List.length_append] at hm
 have hm1 : pre.length + 1 ≤ 9223372036854775807 := hm
 refine Eng.enter Tryd.func30 rfl fun act0 d0 s0 v0 => ?_
 have s0 : act0.tmps.size = 60 := s0
 have h0_0 : act0.eval (.tmp 0) = .pointer (some ⟨dg, 0, none⟩) := v0 0 (by simp)
 have h1_0 : act0.eval (.tmp 1) = .agg #[.int .i64 x.kind, .string x.anchor, .string x.tag, .string x.text, .bool x.plain] := v0 1 (by simp)
 clear v0
 refine wp_seq ?_
 refine Eng.regionS (Eng.still [fun u_ => True, fun u_ => u_ = .bool false, fun u_ => u_ = .int .i64 0]) (fun i => ([.alloc 30 #[.int .i64 x.kind, .string x.anchor, .string x.tag, .string x.text, .bool x.plain], .plain, .plain] : List Eng.Kind).getD i .plain) 3 0 60 s0 rfl (by kernel_rfl) (Eng.still_stable _) (Or.inr (Eng.still_any _)) ?_ ?_
 ·refine .c ?_ (.c ?_ (.c ?_ (.nil)))
  ·refine Eng.made rfl (by simp) rfl (fun a w' hd ho => ?_) (fun _ _ => trivial)
   exact Eng.run_box rfl ((ho 1 (by kernel_rfl)).trans h1_0)
  ·exact Eng.pv fun a w' H => Eng.vr rfl (Eng.run_assign rfl (rfl : a.eval (.const (.bool false)) = .bool false))
  exact Eng.pv fun a w' H => Eng.vr rfl (Eng.run_assign rfl (rfl : a.eval (.const (.int .i64 0)) = .int .i64 0))
 intro act1 w1 T
 have h0_1 := T.r1 h0_0
 have kdg_1 := (T.below.block _ (Array.getElem?_eq_some_iff.1 hk).1).trans hk
 have ldg_1 := Nat.lt_of_lt_of_le (Array.getElem?_eq_some_iff.1 hk).1 T.below.size
 have Fop_1 := Eng.Reads.below (Eng.Reads.of_own hR.op) T.below
 obtain ⟨g3_1, h3_1, rg3_1, lg3_1_1, kg3_1_1⟩ := T.al 0 3 _ _ rfl rfl rfl (by kernel_rfl)
 have d1 := T.e d0
 have s1 := T.z s0
 have XX_1 := Dc.St.below (Dc.St.start (dg := dg) hR) T.below
 clear T
 refine Eng.tail_nil ?_
 refine wp_seq ?_
 refine wp_seq ?_
 refine Eng.rS [.pointer (some ⟨g3_1, 0, none⟩), .int .i64 x.kind] (fun _ => .plain) 2 0 s1 ?_ ?_
 ·refine .c ?_ (.c ?_ (.nil))
  ·exact Eng.pv fun a w' H => Eng.vr rfl (Eng.run_fieldb rfl Tryd.underlying30 0 (by kernel_rfl) (H.q 3 h3_1))
  exact Eng.pv fun a w' H => Eng.vr rfl (Eng.run_loadb rfl (H.d 0 8) ((H.below.block _ lg3_1_1).trans kg3_1_1) rfl (by kernel_rfl))
 intro act2 w2 T
 have h0_2 := T.r1 h0_1
 have kdg_2 := T.x ldg_1 kdg_1
 have ldg_2 := T.l ldg_1
 have Fop_2 := T.f Fop_1
 have h9_2 : act2.eval (.tmp 9) = .int .i64 x.kind := T.done 1 9 rfl rfl
 have d2 := T.e d1
 have s2 := T.z s1
 have XX_2 := Dc.St.below XX_1 T.below
 clear T
 refine Eng.tail_nil ?_
 refine wp_block ?_
 refine wp_seq ?_
 obtain ⟨q14, Bq14⟩ : ∃ b : Bool, b = (x.kind == 0) := ⟨_, rfl⟩
 refine Eng.rS [.bool q14, .bool q14] (fun _ => .plain) 2 0 s2 ?_ ?_
 ·refine .c ?_ (.c ?_ (.nil))
  ·refine Eng.pv fun a w' H => ?_
   refine Eng.vr (v := .bool (x.kind == 0)) (by show _ = Value.bool q14; rw [Bq14]) ?_
   have e0 := (H.q 9 h9_2)
   have e1 : a.eval (.const (.int .i64 0)) = .int .i64 0 := rfl
   simp only [execOp, resolve, List.map_toArray, List.map_cons, List.map_nil, e0, e1]
   go_simp
  exact Eng.pv fun a w' H => Eng.vr rfl (Eng.run_assign rfl (H.d 0 14))
 intro act3 w3 T
 have ⟨h0_3, h9_3⟩ := T.r2 h0_2 h9_2
 have kdg_3 := T.x ldg_2 kdg_2
 have ldg_3 := T.l ldg_2
 have Fop_3 := T.f Fop_2
 have h13_3 : act3.eval (.tmp 13) = .bool q14 := T.done 1 13 rfl rfl
 have d3 := T.e d2
 have s3 := T.z s2
 have XX_3 := Dc.St.below XX_2 T.below
 clear T
 refine Eng.tail_nil ?_
 have n13_0 : q14 = false := by
  simp only [Bq14]
  rw [hkd]; rfl
 refine wp_cond_false (h13_3.trans (by rw [n13_0])) ?_
 refine wp_seq ?_
 obtain ⟨q20, Bq20⟩ : ∃ b : Bool, b = (x.kind == 1) := ⟨_, rfl⟩
 refine Eng.rS [.bool q20, .bool q20] (fun _ => .plain) 2 0 s3 ?_ ?_
 ·refine .c ?_ (.c ?_ (.nil))
  ·refine Eng.pv fun a w' H => ?_
   refine Eng.vr (v := .bool (x.kind == 1)) (by show _ = Value.bool q20; rw [Bq20]) ?_
   have e0 := (H.q 9 h9_3)
   have e1 : a.eval (.const (.int .i64 1)) = .int .i64 1 := rfl
   simp only [execOp, resolve, List.map_toArray, List.map_cons, List.map_nil, e0, e1]
   go_simp
  exact Eng.pv fun a w' H => Eng.vr rfl (Eng.run_assign rfl (H.d 0 20))
 intro act4 w4 T
 have ⟨h0_4, h9_4⟩ := T.r2 h0_3 h9_3
 have kdg_4 := T.x ldg_3 kdg_3
 have ldg_4 := T.l ldg_3
 have Fop_4 := T.f Fop_3
 have h19_4 : act4.eval (.tmp 19) = .bool q20 := T.done 1 19 rfl rfl
 have d4 := T.e d3
 have s4 := T.z s3
 have XX_4 := Dc.St.below XX_3 T.below
 clear T
 refine Eng.tail_nil ?_
 have n19_1 : q20 = false := by
  simp only [Bq20, Bq14]
  rw [hkd]; rfl
 refine wp_cond_false (h19_4.trans (by rw [n19_1])) ?_
 refine wp_seq ?_
 refine wp_seq ?_
 obtain ⟨q27, Bq27⟩ : ∃ b : Bool, b = (x.kind == 3) := ⟨_, rfl⟩
 refine Eng.rS [.bool q27, .bool q27] (fun _ => .plain) 2 0 s4 ?_ ?_
 ·refine .c ?_ (.c ?_ (.nil))
  ·refine Eng.pv fun a w' H => ?_
   refine Eng.vr (v := .bool (x.kind == 3)) (by show _ = Value.bool q27; rw [Bq27]) ?_
   have e0 := (H.q 9 h9_4)
   have e1 : a.eval (.const (.int .i64 3)) = .int .i64 3 := rfl
   simp only [execOp, resolve, List.map_toArray, List.map_cons, List.map_nil, e0, e1]
   go_simp
  exact Eng.pv fun a w' H => Eng.vr rfl (Eng.run_assign rfl (H.d 0 27))
 intro act5 w5 T
 have h0_5 := T.r1 h0_4
 have kdg_5 := T.x ldg_4 kdg_4
 have ldg_5 := T.l ldg_4
 have Fop_5 := T.f Fop_4
 have h26_5 : act5.eval (.tmp 26) = .bool q27 := T.done 1 26 rfl rfl
 have d5 := T.e d4
 have s5 := T.z s4
 have XX_5 := Dc.St.below XX_4 T.below
 clear T
 refine Eng.tail_nil ?_
 have n26_3 : q27 = true := by
  simp only [Bq27, Bq20, Bq14]
  rw [hkd]; rfl
 refine wp_cond_true (h26_5.trans (by rw [n26_3])) ?_
 refine wp_skip ?_
 have n26_3 : q27 = true := by
  simp only [Bq27, Bq20, Bq14]
  rw [hkd]; rfl
 refine wp_cond_true (h26_5.trans (by rw [n26_3])) ?_
 refine Eng.rD [.pointer (some ⟨dg, 0, none⟩), .pointer (some ⟨dg, 0, none⟩), .pointer (some ⟨dg, 0, none⟩), .pointer (some ⟨dg, 1, none⟩), ov, .pointer (some ⟨dg, 0, none⟩), .pointer (some ⟨dg, 0, none⟩), .pointer (some ⟨dg, 1, none⟩), ov, .int .i64 (((pre ++ [o]).length : Nat) : Int), .int .i64 (IntKind.i64.wrap ((((pre ++ [o]).length : Nat) : Int) - 1)), (Eng.cutVal ov 0 pre.length 1), .pointer (some ⟨dg, 0, none⟩), .pointer (some ⟨dg, 1, none⟩)] (fun _ => .plain) 14 1 s5 ?_ ?_
 ·refine .c ?_ (.c ?_ (.c ?_ (.c ?_ (.c ?_ (.c ?_ (.c ?_ (.c ?_ (.c ?_ (.c ?_ (.c ?_ (.c ?_ (.c ?_ (.c ?_ (.cons (fun h => absurd h (by decide)) (.nil)))))))))))))))
  ·exact Eng.pv fun a w' H => Eng.vr rfl (Eng.run_move rfl (H.q 0 h0_5))
  ·exact Eng.pv fun a w' H => Eng.vr rfl (Eng.run_move rfl (H.q 0 h0_5))
  ·exact Eng.pv fun a w' H => Eng.vr rfl (Eng.run_nilb rfl (H.d 1 30))
  ·exact Eng.pv fun a w' H => Eng.vr rfl (Eng.run_fieldb rfl Tryd.underlying64 1 (by kernel_rfl) (H.d 2 31))
  ·exact Eng.pv fun a w' H => Eng.vr rfl (Eng.run_loadb rfl (H.d 3 32) ((H.below.block _ ldg_5).trans kdg_5) rfl (by kernel_rfl))
  ·exact Eng.pv fun a w' H => Eng.vr rfl (Eng.run_move rfl (H.q 0 h0_5))
  ·exact Eng.pv fun a w' H => Eng.vr rfl (Eng.run_nilb rfl (H.d 5 34))
  ·exact Eng.pv fun a w' H => Eng.vr rfl (Eng.run_fieldb rfl Tryd.underlying64 1 (by kernel_rfl) (H.d 6 35))
  ·exact Eng.pv fun a w' H => Eng.vr rfl (Eng.run_loadb rfl (H.d 7 36) ((H.below.block _ ldg_5).trans kdg_5) rfl (by kernel_rfl))
  ·exact Eng.pv fun a w' H => Eng.vr (v := .int .i64 (((pre ++ [o]).length : Nat) : Int)) rfl (Eng.run_len_sl rfl Tryd.underlying55 (show a.eval (.tmp 37) = ov from (H.d 8 37)) (Eng.Reads.below Fop_5 H.below))
  ·refine Eng.pv fun a w' H => ?_
   refine Eng.vr (v := .int .i64 (IntKind.i64.wrap ((((pre ++ [o]).length : Nat) : Int) - 1))) rfl ?_
   have e0 : a.eval (.tmp 38) = .int .i64 (((pre ++ [o]).length : Nat) : Int) := (H.d 9 38)
   have e1 : a.eval (.const (.int .i64 1)) = .int .i64 1 := rfl
   simp only [execOp, resolve, List.map_toArray, List.map_cons, List.map_nil, e0, e1]
   go_simp
  ·exact Eng.pv fun a w' H => Eng.vr (v := (Eng.cutVal ov 0 pre.length 1)) rfl (Eng.run_cutv (l := 0) (h := pre.length) (size := 1) rfl Tryd.underlying55 (by kernel_rfl) (show a.eval (.tmp 33) = ov from (H.d 4 33)) (Eng.Reads.below Fop_5 H.below) rfl (congrArg some ((show a.eval (.tmp 39) = .int .i64 (IntKind.i64.wrap ((((pre ++ [o]).length : Nat) : Int) - 1)) from (H.d 10 39)).trans (congrArg (Value.int _) (show IntKind.i64.wrap ((((pre ++ [o]).length : Nat) : Int) - 1) = ((pre.length : Nat) : Int) from by exact Dc.last_ix pre o hm1)))) (Or.inl ⟨rfl, rfl⟩) (Or.inr ⟨_, rfl⟩) (by omega) (by first | omega | (simp; done) | (simp; omega)))
  ·exact Eng.pv fun a w' H => Eng.vr rfl (Eng.run_nilb rfl (H.d 0 29))
  exact Eng.pv fun a w' H => Eng.vr rfl (Eng.run_fieldb rfl Tryd.underlying64 1 (by kernel_rfl) (H.d 12 41))
 intro act6 w6 T
 have kdg_6 := T.x ldg_5 kdg_5
 have ldg_6 := T.l ldg_5
 have h40_6 : act6.eval (.tmp 40) = (Eng.cutVal ov 0 pre.length 1) := T.done 11 40 rfl rfl
 have h42_6 : act6.eval (.tmp 42) = .pointer (some ⟨dg, 1, none⟩) := T.done 13 42 rfl rfl
 have d6 := T.e d5
 have s6 := T.z s5
 have XX_6 := Dc.St.below XX_5 T.below
 obtain ⟨cv6, hcv6⟩ : ∃ v, v = Eng.cutVal ov 0 pre.length 1 := ⟨_, rfl⟩
 have Xp6 := Dc.St.pop XX_6
 rw [← hcv6] at Xp6
 have hx6 := h40_6.trans hcv6.symm
 have Oc6 := Xp6.R.op
 have Fc6 := Eng.Reads.of_own Oc6
 clear hcv6
 clear T
 refine Eng.tail_set (n := 1) (v := cv6) (new := #[gv, cv6, .map (some mb)]) rfl rfl rfl kdg_6 rfl ?_ fun w7 S => ?_
 ·have e0 : act6.eval (.tmp 42) = .pointer (some ⟨dg, 1, none⟩) := h42_6
  have e1 : act6.eval (.tmp 40) = cv6 := hx6
  obtain ⟨A0_, c0_, ev0_⟩ := Eng.Reads.shape Fc6
  subst ev0_
  have z0 := (Eng.cells kdg_6 (1)).trans (rfl)
  have f0 := Eng.unfrozen kdg_6 (1)
  simp only [execOp]
  rw [e0, e1]
  go_simp
 have kdg_7 := S.new
 have ldg_7 := Nat.lt_of_lt_of_eq ldg_6 S.size.symm
 have XX_7 := Dc.St.setd Xp6 S kdg_6
 clear S
 refine Eng.tail_nil ?_
 refine wp_seq ?_
 refine Eng.rS [.bool false, .int .i64 0] (fun _ => .plain) 2 0 s6 ?_ ?_
 ·refine .c ?_ (.c ?_ (.nil))
  ·exact Eng.pv fun a w' H => Eng.vr rfl (Eng.run_assign rfl (rfl : a.eval (.const (.bool false)) = .bool false))
  exact Eng.pv fun a w' H => Eng.vr rfl (Eng.run_assign rfl (rfl : a.eval (.const (.int .i64 0)) = .int .i64 0))
 intro act8 w8 T
 have kdg_8 := T.x ldg_7 kdg_7
 have h4_8 : act8.eval (.tmp 4) = .bool false := T.done 0 4 rfl rfl
 have h5_8 : act8.eval (.tmp 5) = .int .i64 0 := T.done 1 5 rfl rfl
 have d8 := T.e d6
 have XX_8 := Dc.St.below XX_7 T.below
 clear T
 refine Eng.tail_nil ?_
 refine wp_ret ?_
 repeat (first | refine Eng.in_ret ?_ | refine Eng.then_ret ?_)
 exact Eng.ret2 rfl d8 h4_8 h5_8 ⟨rfl, cv6, XX_8, kdg_8⟩
set_option maxHeartbeats 4000000 in
set_option maxRecDepth 100000 in
theorem Dc.take_close5 (dg mb : Nat) (gv ov : Value) (h : List Dc.NV) (pre : List Int) (o : Int) (names : List (List UInt8 × Int)) (x : Evt.Ev) (w W0 : World) (hB : Below w.heap.size w W0) (hlo : w.heap.size ≤ dg) (hk : W0.heap[dg]? = some (.cells #[gv, ov, .map (some mb)] 64 (0, 0))) (hR : Dc.Rep w.heap.size W0 h (pre ++ [o]) names gv ov mb) (hkd : x.kind = 5) : Calls Tryd.prog 30 #[.pointer (some ⟨dg, 0, none⟩), .agg #[.int .i64 x.kind, .string x.anchor, .string x.tag, .string x.text, .bool x.plain]] W0 fun e w' => e = .returned (.tuple #[.bool false, .int .i64 0]) ∧ ∃ ov', Dc.St w.heap.size W0 w' dg (Dc.Blk h gv ov mb) h pre names gv ov' mb ∧ w'.heap[dg]? = some (.cells #[gv, ov', .map (some mb)] 64 (0, 0)) := by
 have hm := Eng.Reads.len_le (Eng.Reads.of_own hR.op)
 rw [List.length_append] at hm
 have hm1 : pre.length + 1 ≤ 9223372036854775807 := hm
 refine Eng.enter Tryd.func30 rfl fun act0 d0 s0 v0 => ?_
 have s0 : act0.tmps.size = 60 := s0
 have h0_0 : act0.eval (.tmp 0) = .pointer (some ⟨dg, 0, none⟩) := v0 0 (by simp)
 have h1_0 : act0.eval (.tmp 1) = .agg #[.int .i64 x.kind, .string x.anchor, .string x.tag, .string x.text, .bool x.plain] := v0 1 (by simp)
 clear v0
 refine wp_seq ?_
 refine Eng.regionS (Eng.still [fun u_ => True, fun u_ => u_ = .bool false, fun u_ => u_ = .int .i64 0]) (fun i => ([.alloc 30 #[.int .i64 x.kind, .string x.anchor, .string x.tag, .string x.text, .bool x.plain], .plain, .plain] : List Eng.Kind).getD i .plain) 3 0 60 s0 rfl (by kernel_rfl) (Eng.still_stable _) (Or.inr (Eng.still_any _)) ?_ ?_
 ·refine .c ?_ (.c ?_ (.c ?_ (.nil)))
  ·refine Eng.made rfl (by simp) rfl (fun a w' hd ho => ?_) (fun _ _ => trivial)
   exact Eng.run_box rfl ((ho 1 (by kernel_rfl)).trans h1_0)
  ·exact Eng.pv fun a w' H => Eng.vr rfl (Eng.run_assign rfl (rfl : a.eval (.const (.bool false)) = .bool false))
  exact Eng.pv fun a w' H => Eng.vr rfl (Eng.run_assign rfl (rfl : a.eval (.const (.int .i64 0)) = .int .i64 0))
 intro act1 w1 T
 have h0_1 := T.r1 h0_0
 have kdg_1 := (T.below.block _ (Array.getElem?_eq_some_iff.1 hk).1).trans hk
 have ldg_1 := Nat.lt_of_lt_of_le (Array.getElem?_eq_some_iff.1 hk).1 T.below.size
 have Fop_1 := Eng.Reads.below (Eng.Reads.of_own hR.op) T.below
 obtain ⟨g3_1, h3_1, rg3_1, lg3_1_1, kg3_1_1⟩ := T.al 0 3 _ _ rfl rfl rfl (by kernel_rfl)
 have d1 := T.e d0
 have s1 := T.z s0
 have XX_1 := Dc.St.below (Dc.St.start (dg := dg) hR) T.below
 clear T
 refine Eng.tail_nil ?_
 refine wp_seq ?_
 refine wp_seq ?_
 refine Eng.rS [.pointer (some ⟨g3_1, 0, none⟩), .int .i64 x.kind] (fun _ => .plain) 2 0 s1 ?_ ?_
 ·refine .c ?_ (.c ?_ (.nil))
  ·exact Eng.pv fun a w' H => Eng.vr rfl (Eng.run_fieldb rfl Tryd.underlying30 0 (by kernel_rfl) (H.q 3 h3_1))
  exact Eng.pv fun a w' H => Eng.vr rfl (Eng.run_loadb rfl (H.d 0 8) ((H.below.block _ lg3_1_1).trans kg3_1_1) rfl (by kernel_rfl))
 intro act2 w2 T
 have h0_2 := T.r1 h0_1
 have kdg_2 := T.x ldg_1 kdg_1
 have ldg_2 := T.l ldg_1
 have Fop_2 := T.f Fop_1
 have h9_2 : act2.eval (.tmp 9) = .int .i64 x.kind := T.done 1 9 rfl rfl
 have d2 := T.e d1
 have s2 := T.z s1
 have XX_2 := Dc.St.below XX_1 T.below
 clear T
 refine Eng.tail_nil ?_
 refine wp_block ?_
 refine wp_seq ?_
 obtain ⟨q14, Bq14⟩ : ∃ b : Bool, b = (x.kind == 0) := ⟨_, rfl⟩
 refine Eng.rS [.bool q14, .bool q14] (fun _ => .plain) 2 0 s2 ?_ ?_
 ·refine .c ?_ (.c ?_ (.nil))
  ·refine Eng.pv fun a w' H => ?_
   refine Eng.vr (v := .bool (x.kind == 0)) (by show _ = Value.bool q14; rw [Bq14]) ?_
   have e0 := (H.q 9 h9_2)
   have e1 : a.eval (.const (.int .i64 0)) = .int .i64 0 := rfl
   simp only [execOp, resolve, List.map_toArray, List.map_cons, List.map_nil, e0, e1]
   go_simp
  exact Eng.pv fun a w' H => Eng.vr rfl (Eng.run_assign rfl (H.d 0 14))
 intro act3 w3 T
 have ⟨h0_3, h9_3⟩ := T.r2 h0_2 h9_2
 have kdg_3 := T.x ldg_2 kdg_2
 have ldg_3 := T.l ldg_2
 have Fop_3 := T.f Fop_2
 have h13_3 : act3.eval (.tmp 13) = .bool q14 := T.done 1 13 rfl rfl
 have d3 := T.e d2
 have s3 := T.z s2
 have XX_3 := Dc.St.below XX_2 T.below
 clear T
 refine Eng.tail_nil ?_
 have n13_0 : q14 = false := by
  simp only [Bq14]
  rw [hkd]; rfl
 refine wp_cond_false (h13_3.trans (by rw [n13_0])) ?_
 refine wp_seq ?_
 obtain ⟨q20, Bq20⟩ : ∃ b : Bool, b = (x.kind == 1) := ⟨_, rfl⟩
 refine Eng.rS [.bool q20, .bool q20] (fun _ => .plain) 2 0 s3 ?_ ?_
 ·refine .c ?_ (.c ?_ (.nil))
  ·refine Eng.pv fun a w' H => ?_
   refine Eng.vr (v := .bool (x.kind == 1)) (by show _ = Value.bool q20; rw [Bq20]) ?_
   have e0 := (H.q 9 h9_3)
   have e1 : a.eval (.const (.int .i64 1)) = .int .i64 1 := rfl
   simp only [execOp, resolve, List.map_toArray, List.map_cons, List.map_nil, e0, e1]
   go_simp
  exact Eng.pv fun a w' H => Eng.vr rfl (Eng.run_assign rfl (H.d 0 20))
 intro act4 w4 T
 have ⟨h0_4, h9_4⟩ := T.r2 h0_3 h9_3
 have kdg_4 := T.x ldg_3 kdg_3
 have ldg_4 := T.l ldg_3
 have Fop_4 := T.f Fop_3
 have h19_4 : act4.eval (.tmp 19) = .bool q20 := T.done 1 19 rfl rfl
 have d4 := T.e d3
 have s4 := T.z s3
 have XX_4 := Dc.St.below XX_3 T.below
 clear T
 refine Eng.tail_nil ?_
 have n19_1 : q20 = false := by
  simp only [Bq20, Bq14]
  rw [hkd]; rfl
 refine wp_cond_false (h19_4.trans (by rw [n19_1])) ?_
 refine wp_seq ?_
 refine wp_seq ?_
 obtain ⟨q27, Bq27⟩ : ∃ b : Bool, b = (x.kind == 3) := ⟨_, rfl⟩
 refine Eng.rS [.bool q27, .bool q27] (fun _ => .plain) 2 0 s4 ?_ ?_
 ·refine .c ?_ (.c ?_ (.nil))
  ·refine Eng.pv fun a w' H => ?_
   refine Eng.vr (v := .bool (x.kind == 3)) (by show _ = Value.bool q27; rw [Bq27]) ?_
   have e0 := (H.q 9 h9_4)
   have e1 : a.eval (.const (.int .i64 3)) = .int .i64 3 := rfl
   simp only [execOp, resolve, List.map_toArray, List.map_cons, List.map_nil, e0, e1]
   go_simp
  exact Eng.pv fun a w' H => Eng.vr rfl (Eng.run_assign rfl (H.d 0 27))
 intro act5 w5 T
 have ⟨h0_5, h9_5⟩ := T.r2 h0_4 h9_4
 have kdg_5 := T.x ldg_4 kdg_4
 have ldg_5 := T.l ldg_4
 have Fop_5 := T.f Fop_4
 have h26_5 : act5.eval (.tmp 26) = .bool q27 := T.done 1 26 rfl rfl
 have d5 := T.e d4
 have s5 := T.z s4
 have XX_5 := Dc.St.below XX_4 T.below
 clear T
 refine Eng.tail_nil ?_
 have n26_3 : q27 = false := by
  simp only [Bq27, Bq20, Bq14]
  rw [hkd]; rfl
 refine wp_cond_false (h26_5.trans (by rw [n26_3])) ?_
 obtain ⟨q28, Bq28⟩ : ∃ b : Bool, b = (x.kind == 5) := ⟨_, rfl⟩
 refine Eng.rS [.bool q28, .bool q28] (fun _ => .plain) 2 0 s5 ?_ ?_
 ·refine .c ?_ (.c ?_ (.nil))
  ·refine Eng.pv fun a w' H => ?_
   refine Eng.vr (v := .bool (x.kind == 5)) (by show _ = Value.bool q28; rw [Bq28]) ?_
   have e0 := (H.q 9 h9_5)
   have e1 : a.eval (.const (.int .i64 5)) = .int .i64 5 := rfl
   simp only [execOp, resolve, List.map_toArray, List.map_cons, List.map_nil, e0, e1]
   go_simp
  exact Eng.pv fun a w' H => Eng.vr rfl (Eng.run_assign rfl (H.d 0 28))
 intro act6 w6 T
 have h0_6 := T.r1 h0_5
 have kdg_6 := T.x ldg_5 kdg_5
 have ldg_6 := T.l ldg_5
 have Fop_6 := T.f Fop_5
 have h26_6 : act6.eval (.tmp 26) = .bool q28 := T.done 1 26 rfl rfl
 have d6 := T.e d5
 have s6 := T.z s5
 have XX_6 := Dc.St.below XX_5 T.below
 clear T
 refine Eng.tail_nil ?_
 have n26_5 : q28 = true := by
  simp only [Bq28, Bq27, Bq20, Bq14]
  rw [hkd]; rfl
 refine wp_cond_true (h26_6.trans (by rw [n26_5])) ?_
 refine Eng.rD [.pointer (some ⟨dg, 0, none⟩), .pointer (some ⟨dg, 0, none⟩), .pointer (some ⟨dg, 0, none⟩), .pointer (some ⟨dg, 1, none⟩), ov, .pointer (some ⟨dg, 0, none⟩), .pointer (some ⟨dg, 0, none⟩), .pointer (some ⟨dg, 1, none⟩), ov, .int .i64 (((pre ++ [o]).length : Nat) : Int), .int .i64 (IntKind.i64.wrap ((((pre ++ [o]).length : Nat) : Int) - 1)), (Eng.cutVal ov 0 pre.length 1), .pointer (some ⟨dg, 0, none⟩), .pointer (some ⟨dg, 1, none⟩)] (fun _ => .plain) 14 1 s6 ?_ ?_
 ·refine .c ?_ (.c ?_ (.c ?_ (.c ?_ (.c ?_ (.c ?_ (.c ?_ (.c ?_ (.c ?_ (.c ?_ (.c ?_ (.c ?_ (.c ?_ (.c ?_ (.cons (fun h => absurd h (by decide)) (.nil)))))))))))))))
  ·exact Eng.pv fun a w' H => Eng.vr rfl (Eng.run_move rfl (H.q 0 h0_6))
  ·exact Eng.pv fun a w' H => Eng.vr rfl (Eng.run_move rfl (H.q 0 h0_6))
  ·exact Eng.pv fun a w' H => Eng.vr rfl (Eng.run_nilb rfl (H.d 1 30))
  ·exact Eng.pv fun a w' H => Eng.vr rfl (Eng.run_fieldb rfl Tryd.underlying64 1 (by kernel_rfl) (H.d 2 31))
  ·exact Eng.pv fun a w' H => Eng.vr rfl (Eng.run_loadb rfl (H.d 3 32) ((H.below.block _ ldg_6).trans kdg_6) rfl (by kernel_rfl))
  ·exact Eng.pv fun a w' H => Eng.vr rfl (Eng.run_move rfl (H.q 0 h0_6))
  ·exact Eng.pv fun a w' H => Eng.vr rfl (Eng.run_nilb rfl (H.d 5 34))
  ·exact Eng.pv fun a w' H => Eng.vr rfl (Eng.run_fieldb rfl Tryd.underlying64 1 (by kernel_rfl) (H.d 6 35))
  ·exact Eng.pv fun a w' H => Eng.vr rfl (Eng.run_loadb rfl (H.d 7 36) ((H.below.block _ ldg_6).trans kdg_6) rfl (by kernel_rfl))
  ·exact Eng.pv fun a w' H => Eng.vr (v := .int .i64 (((pre ++ [o]).length : Nat) : Int)) rfl (Eng.run_len_sl rfl Tryd.underlying55 (show a.eval (.tmp 37) = ov from (H.d 8 37)) (Eng.Reads.below Fop_6 H.below))
  ·refine Eng.pv fun a w' H => ?_
   refine Eng.vr (v := .int .i64 (IntKind.i64.wrap ((((pre ++ [o]).length : Nat) : Int) - 1))) rfl ?_
   have e0 : a.eval (.tmp 38) = .int .i64 (((pre ++ [o]).length : Nat) : Int) := (H.d 9 38)
   have e1 : a.eval (.const (.int .i64 1)) = .int .i64 1 := rfl
   simp only [execOp, resolve, List.map_toArray, List.map_cons, List.map_nil, e0, e1]
   go_simp
  ·exact Eng.pv fun a w' H => Eng.vr (v := (Eng.cutVal ov 0 pre.length 1)) rfl (Eng.run_cutv (l := 0) (h := pre.length) (size := 1) rfl Tryd.underlying55 (by kernel_rfl) (show a.eval (.tmp 33) = ov from (H.d 4 33)) (Eng.Reads.below Fop_6 H.below) rfl (congrArg some ((show a.eval (.tmp 39) = .int .i64 (IntKind.i64.wrap ((((pre ++ [o]).length : Nat) : Int) - 1)) from (H.d 10 39)).trans (congrArg (Value.int _) (show IntKind.i64.wrap ((((pre ++ [o]).length : Nat) : Int) - 1) = ((pre.length : Nat) : Int) from by exact Dc.last_ix pre o hm1)))) (Or.inl ⟨rfl, rfl⟩) (Or.inr ⟨_, rfl⟩) (by omega) (by first | omega | (simp; done) | (simp; omega)))
  ·exact Eng.pv fun a w' H => Eng.vr rfl (Eng.run_nilb rfl (H.d 0 29))
  exact Eng.pv fun a w' H => Eng.vr rfl (Eng.run_fieldb rfl Tryd.underlying64 1 (by kernel_rfl) (H.d 12 41))
 intro act7 w7 T
 have kdg_7 := T.x ldg_6 kdg_6
 have ldg_7 := T.l ldg_6
 have h40_7 : act7.eval (.tmp 40) = (Eng.cutVal ov 0 pre.length 1) := T.done 11 40 rfl rfl
 have h42_7 : act7.eval (.tmp 42) = .pointer (some ⟨dg, 1, none⟩) := T.done 13 42 rfl rfl
 have d7 := T.e d6
 have s7 := T.z s6
 have XX_7 := Dc.St.below XX_6 T.below
 obtain ⟨cv7, hcv7⟩ : ∃ v, v = Eng.cutVal ov 0 pre.length 1 := ⟨_, rfl⟩
 have Xp7 := Dc.St.pop XX_7
 rw [← hcv7] at Xp7
 have hx7 := h40_7.trans hcv7.symm
 have Oc7 := Xp7.R.op
 have Fc7 := Eng.Reads.of_own Oc7
 clear hcv7
 clear T
 refine Eng.tail_set (n := 1) (v := cv7) (new := #[gv, cv7, .map (some mb)]) rfl rfl rfl kdg_7 rfl ?_ fun w8 S => ?_
 ·have e0 : act7.eval (.tmp 42) = .pointer (some ⟨dg, 1, none⟩) := h42_7
  have e1 : act7.eval (.tmp 40) = cv7 := hx7
  obtain ⟨A0_, c0_, ev0_⟩ := Eng.Reads.shape Fc7
  subst ev0_
  have z0 := (Eng.cells kdg_7 (1)).trans (rfl)
  have f0 := Eng.unfrozen kdg_7 (1)
  simp only [execOp]
  rw [e0, e1]
  go_simp
 have kdg_8 := S.new
 have ldg_8 := Nat.lt_of_lt_of_eq ldg_7 S.size.symm
 have XX_8 := Dc.St.setd Xp7 S kdg_7
 clear S
 refine Eng.tail_nil ?_
 refine wp_seq ?_
 refine Eng.rS [.bool false, .int .i64 0] (fun _ => .plain) 2 0 s7 ?_ ?_
 ·refine .c ?_ (.c ?_ (.nil))
  ·exact Eng.pv fun a w' H => Eng.vr rfl (Eng.run_assign rfl (rfl : a.eval (.const (.bool false)) = .bool false))
  exact Eng.pv fun a w' H => Eng.vr rfl (Eng.run_assign rfl (rfl : a.eval (.const (.int .i64 0)) = .int .i64 0))
 intro act9 w9 T
 have kdg_9 := T.x ldg_8 kdg_8
 have h4_9 : act9.eval (.tmp 4) = .bool false := T.done 0 4 rfl rfl
 have h5_9 : act9.eval (.tmp 5) = .int .i64 0 := T.done 1 5 rfl rfl
 have d9 := T.e d7
 have XX_9 := Dc.St.below XX_8 T.below
 clear T
 refine Eng.tail_nil ?_
 refine wp_ret ?_
 repeat (first | refine Eng.in_ret ?_ | refine Eng.then_ret ?_)
 exact Eng.ret2 rfl d9 h4_9 h5_9 ⟨rfl, cv7, XX_9, kdg_9⟩
set_option maxHeartbeats 4000000 in
set_option maxRecDepth 100000 in
theorem Dc.take_alias (dg mb : Nat) (gv ov : Value) (h : List Dc.NV) (opn : List Int) (names : List (List UInt8 × Int)) (x : Evt.Ev) (w W0 : World) (hB : Below w.heap.size w W0) (hlo : w.heap.size ≤ dg) (hk : W0.heap[dg]? = some (.cells #[gv, ov, .map (some mb)] 64 (0, 0))) (hR : Dc.Rep w.heap.size W0 h opn names gv ov mb) (hkd : x.kind = 7) (hasz : x.anchor.size ≤ maxLen) (hnv : ∀ s d, Dc.find names s = some d → 0 ≤ d ∧ d.toNat < h.length) (hop : ∀ o ∈ opn, 0 ≤ o ∧ o.toNat < h.length) (hkl : ∀ i, i < h.length → (h.getD i default).1.kids.length ≤ 1000000) : Calls Tryd.prog 30 #[.pointer (some ⟨dg, 0, none⟩), .agg #[.int .i64 x.kind, .string x.anchor, .string x.tag, .string x.text, .bool x.plain]] W0 fun e w' => ∃ h', e = .returned (.tuple #[.bool false, .int .i64 (Dc.aliasF ⟨h.map (·.1), opn, names⟩ x).2]) ∧ h'.map (·.1) = (Dc.aliasF ⟨h.map (·.1), opn, names⟩ x).1.nodes ∧ Dc.St w.heap.size W0 w' dg (Dc.Blk h gv ov mb) h' opn names gv ov mb ∧ w'.heap[dg]? = some (.cells #[gv, ov, .map (some mb)] 64 (0, 0)) := by
 refine Eng.enter Tryd.func30 rfl fun act0 d0 s0 v0 => ?_
 have s0 : act0.tmps.size = 60 := s0
 have h0_0 : act0.eval (.tmp 0) = .pointer (some ⟨dg, 0, none⟩) := v0 0 (by simp)
 have h1_0 : act0.eval (.tmp 1) = .agg #[.int .i64 x.kind, .string x.anchor, .string x.tag, .string x.text, .bool x.plain] := v0 1 (by simp)
 clear v0
 refine wp_seq ?_
 refine Eng.regionS (Eng.still [fun u_ => True, fun u_ => u_ = .bool false, fun u_ => u_ = .int .i64 0]) (fun i => ([.alloc 30 #[.int .i64 x.kind, .string x.anchor, .string x.tag, .string x.text, .bool x.plain], .plain, .plain] : List Eng.Kind).getD i .plain) 3 0 60 s0 rfl (by kernel_rfl) (Eng.still_stable _) (Or.inr (Eng.still_any _)) ?_ ?_
 ·refine .c ?_ (.c ?_ (.c ?_ (.nil)))
  ·refine Eng.made rfl (by simp) rfl (fun a w' hd ho => ?_) (fun _ _ => trivial)
   exact Eng.run_box rfl ((ho 1 (by kernel_rfl)).trans h1_0)
  ·exact Eng.pv fun a w' H => Eng.vr rfl (Eng.run_assign rfl (rfl : a.eval (.const (.bool false)) = .bool false))
  exact Eng.pv fun a w' H => Eng.vr rfl (Eng.run_assign rfl (rfl : a.eval (.const (.int .i64 0)) = .int .i64 0))
 intro act1 w1 T
 have h0_1 := T.r1 h0_0
 have kdg_1 := (T.below.block _ (Array.getElem?_eq_some_iff.1 hk).1).trans hk
 have ldg_1 := Nat.lt_of_lt_of_le (Array.getElem?_eq_some_iff.1 hk).1 T.below.size
 obtain ⟨g3_1, h3_1, rg3_1, lg3_1_1, kg3_1_1⟩ := T.al 0 3 _ _ rfl rfl rfl (by kernel_rfl)
 have d1 := T.e d0
 have s1 := T.z s0
 have bl1 := hB.trans (T.below.mono hB.size)
 have XX_1 := Dc.St.below (Dc.St.start (dg := dg) hR) T.below
 clear T
 refine Eng.tail_nil ?_
 refine wp_seq ?_
 refine wp_seq ?_
 refine Eng.rS [.pointer (some ⟨g3_1, 0, none⟩), .int .i64 x.kind] (fun _ => .plain) 2 0 s1 ?_ ?_
 ·refine .c ?_ (.c ?_ (.nil))
  ·exact Eng.pv fun a w' H => Eng.vr rfl (Eng.run_fieldb rfl Tryd.underlying30 0 (by kernel_rfl) (H.q 3 h3_1))
  exact Eng.pv fun a w' H => Eng.vr rfl (Eng.run_loadb rfl (H.d 0 8) ((H.below.block _ lg3_1_1).trans kg3_1_1) rfl (by kernel_rfl))
 intro act2 w2 T
 have ⟨h0_2, h3_2⟩ := T.r2 h0_1 h3_1
 have kdg_2 := T.x ldg_1 kdg_1
 have ldg_2 := T.l ldg_1
 have kg3_1_2 := T.x lg3_1_1 kg3_1_1
 have lg3_1_2 := T.l lg3_1_1
 have h9_2 : act2.eval (.tmp 9) = .int .i64 x.kind := T.done 1 9 rfl rfl
 have d2 := T.e d1
 have s2 := T.z s1
 have bl2 := T.b bl1
 have XX_2 := Dc.St.below XX_1 T.below
 clear T
 refine Eng.tail_nil ?_
 refine wp_block ?_
 refine wp_seq ?_
 obtain ⟨q14, Bq14⟩ : ∃ b : Bool, b = (x.kind == 0) := ⟨_, rfl⟩
 refine Eng.rS [.bool q14, .bool q14] (fun _ => .plain) 2 0 s2 ?_ ?_
 ·refine .c ?_ (.c ?_ (.nil))
  ·refine Eng.pv fun a w' H => ?_
   refine Eng.vr (v := .bool (x.kind == 0)) (by show _ = Value.bool q14; rw [Bq14]) ?_
   have e0 := (H.q 9 h9_2)
   have e1 : a.eval (.const (.int .i64 0)) = .int .i64 0 := rfl
   simp only [execOp, resolve, List.map_toArray, List.map_cons, List.map_nil, e0, e1]
   go_simp
  exact Eng.pv fun a w' H => Eng.vr rfl (Eng.run_assign rfl (H.d 0 14))
 intro act3 w3 T
 have ⟨h0_3, h3_3, h9_3⟩ := T.r3 h0_2 h3_2 h9_2
 have kdg_3 := T.x ldg_2 kdg_2
 have ldg_3 := T.l ldg_2
 have kg3_1_3 := T.x lg3_1_2 kg3_1_2
 have lg3_1_3 := T.l lg3_1_2
 have h13_3 : act3.eval (.tmp 13) = .bool q14 := T.done 1 13 rfl rfl
 have d3 := T.e d2
 have s3 := T.z s2
 have bl3 := T.b bl2
 have XX_3 := Dc.St.below XX_2 T.below
 clear T
 refine Eng.tail_nil ?_
 have n13_0 : q14 = false := by
  simp only [Bq14]
  rw [hkd]; rfl
 refine wp_cond_false (h13_3.trans (by rw [n13_0])) ?_
 refine wp_seq ?_
 obtain ⟨q20, Bq20⟩ : ∃ b : Bool, b = (x.kind == 1) := ⟨_, rfl⟩
 refine Eng.rS [.bool q20, .bool q20] (fun _ => .plain) 2 0 s3 ?_ ?_
 ·refine .c ?_ (.c ?_ (.nil))
  ·refine Eng.pv fun a w' H => ?_
   refine Eng.vr (v := .bool (x.kind == 1)) (by show _ = Value.bool q20; rw [Bq20]) ?_
   have e0 := (H.q 9 h9_3)
   have e1 : a.eval (.const (.int .i64 1)) = .int .i64 1 := rfl
   simp only [execOp, resolve, List.map_toArray, List.map_cons, List.map_nil, e0, e1]
   go_simp
  exact Eng.pv fun a w' H => Eng.vr rfl (Eng.run_assign rfl (H.d 0 20))
 intro act4 w4 T
 have ⟨h0_4, h3_4, h9_4⟩ := T.r3 h0_3 h3_3 h9_3
 have kdg_4 := T.x ldg_3 kdg_3
 have ldg_4 := T.l ldg_3
 have kg3_1_4 := T.x lg3_1_3 kg3_1_3
 have lg3_1_4 := T.l lg3_1_3
 have h19_4 : act4.eval (.tmp 19) = .bool q20 := T.done 1 19 rfl rfl
 have d4 := T.e d3
 have s4 := T.z s3
 have bl4 := T.b bl3
 have XX_4 := Dc.St.below XX_3 T.below
 clear T
 refine Eng.tail_nil ?_
 have n19_1 : q20 = false := by
  simp only [Bq20, Bq14]
  rw [hkd]; rfl
 refine wp_cond_false (h19_4.trans (by rw [n19_1])) ?_
 refine wp_seq ?_
 refine wp_seq ?_
 obtain ⟨q27, Bq27⟩ : ∃ b : Bool, b = (x.kind == 3) := ⟨_, rfl⟩
 refine Eng.rS [.bool q27, .bool q27] (fun _ => .plain) 2 0 s4 ?_ ?_
 ·refine .c ?_ (.c ?_ (.nil))
  ·refine Eng.pv fun a w' H => ?_
   refine Eng.vr (v := .bool (x.kind == 3)) (by show _ = Value.bool q27; rw [Bq27]) ?_
   have e0 := (H.q 9 h9_4)
   have e1 : a.eval (.const (.int .i64 3)) = .int .i64 3 := rfl
   simp only [execOp, resolve, List.map_toArray, List.map_cons, List.map_nil, e0, e1]
   go_simp
  exact Eng.pv fun a w' H => Eng.vr rfl (Eng.run_assign rfl (H.d 0 27))
 intro act5 w5 T
 have ⟨h0_5, h3_5, h9_5⟩ := T.r3 h0_4 h3_4 h9_4
 have kdg_5 := T.x ldg_4 kdg_4
 have ldg_5 := T.l ldg_4
 have kg3_1_5 := T.x lg3_1_4 kg3_1_4
 have lg3_1_5 := T.l lg3_1_4
 have h26_5 : act5.eval (.tmp 26) = .bool q27 := T.done 1 26 rfl rfl
 have d5 := T.e d4
 have s5 := T.z s4
 have bl5 := T.b bl4
 have XX_5 := Dc.St.below XX_4 T.below
 clear T
 refine Eng.tail_nil ?_
 have n26_3 : q27 = false := by
  simp only [Bq27, Bq20, Bq14]
  rw [hkd]; rfl
 refine wp_cond_false (h26_5.trans (by rw [n26_3])) ?_
 obtain ⟨q28, Bq28⟩ : ∃ b : Bool, b = (x.kind == 5) := ⟨_, rfl⟩
 refine Eng.rS [.bool q28, .bool q28] (fun _ => .plain) 2 0 s5 ?_ ?_
 ·refine .c ?_ (.c ?_ (.nil))
  ·refine Eng.pv fun a w' H => ?_
   refine Eng.vr (v := .bool (x.kind == 5)) (by show _ = Value.bool q28; rw [Bq28]) ?_
   have e0 := (H.q 9 h9_5)
   have e1 : a.eval (.const (.int .i64 5)) = .int .i64 5 := rfl
   simp only [execOp, resolve, List.map_toArray, List.map_cons, List.map_nil, e0, e1]
   go_simp
  exact Eng.pv fun a w' H => Eng.vr rfl (Eng.run_assign rfl (H.d 0 28))
 intro act6 w6 T
 have ⟨h0_6, h3_6, h9_6⟩ := T.r3 h0_5 h3_5 h9_5
 have kdg_6 := T.x ldg_5 kdg_5
 have ldg_6 := T.l ldg_5
 have kg3_1_6 := T.x lg3_1_5 kg3_1_5
 have lg3_1_6 := T.l lg3_1_5
 have h26_6 : act6.eval (.tmp 26) = .bool q28 := T.done 1 26 rfl rfl
 have d6 := T.e d5
 have s6 := T.z s5
 have bl6 := T.b bl5
 have XX_6 := Dc.St.below XX_5 T.below
 clear T
 refine Eng.tail_nil ?_
 have n26_5 : q28 = false := by
  simp only [Bq28, Bq27, Bq20, Bq14]
  rw [hkd]; rfl
 refine wp_cond_false (h26_6.trans (by rw [n26_5])) ?_
 refine wp_seq ?_
 obtain ⟨q44, Bq44⟩ : ∃ b : Bool, b = (x.kind == 7) := ⟨_, rfl⟩
 refine Eng.rS [.bool q44, .bool q44] (fun _ => .plain) 2 0 s6 ?_ ?_
 ·refine .c ?_ (.c ?_ (.nil))
  ·refine Eng.pv fun a w' H => ?_
   refine Eng.vr (v := .bool (x.kind == 7)) (by show _ = Value.bool q44; rw [Bq44]) ?_
   have e0 := (H.q 9 h9_6)
   have e1 : a.eval (.const (.int .i64 7)) = .int .i64 7 := rfl
   simp only [execOp, resolve, List.map_toArray, List.map_cons, List.map_nil, e0, e1]
   go_simp
  exact Eng.pv fun a w' H => Eng.vr rfl (Eng.run_assign rfl (H.d 0 44))
 intro act7 w7 T
 have ⟨h0_7, h3_7⟩ := T.r2 h0_6 h3_6
 have kdg_7 := T.x ldg_6 kdg_6
 have ldg_7 := T.l ldg_6
 have kg3_1_7 := T.x lg3_1_6 kg3_1_6
 have lg3_1_7 := T.l lg3_1_6
 have h43_7 : act7.eval (.tmp 43) = .bool q44 := T.done 1 43 rfl rfl
 have d7 := T.e d6
 have s7 := T.z s6
 have bl7 := T.b bl6
 have XX_7 := Dc.St.below XX_6 T.below
 clear T
 refine Eng.tail_nil ?_
 have n43_7 : q44 = true := by
  simp only [Bq44, Bq28, Bq27, Bq20, Bq14]
  rw [hkd]; rfl
 refine wp_cond_true (h43_7.trans (by rw [n43_7])) ?_
 refine wp_seq ?_
 refine Eng.rD [.pointer (some ⟨dg, 0, none⟩), .pointer (some ⟨dg, 0, none⟩), .pointer (some ⟨dg, 2, none⟩), .map (some mb), .pointer (some ⟨g3_1, 1, none⟩), .string x.anchor, .tuple #[.int .i64 ((Dc.find names x.anchor.data.toList).getD 0), .bool (Dc.find names x.anchor.data.toList).isSome], .tuple #[.int .i64 ((Dc.find names x.anchor.data.toList).getD 0), .bool (Dc.find names x.anchor.data.toList).isSome], .int .i64 ((Dc.find names x.anchor.data.toList).getD 0), .bool ((Dc.find names x.anchor.data.toList).isSome), .int .i64 ((Dc.find names x.anchor.data.toList).getD 0), .bool ((Dc.find names x.anchor.data.toList).isSome)] (fun _ => .plain) 12 0 s7 ?_ ?_
 ·refine .c ?_ (.c ?_ (.c ?_ (.c ?_ (.c ?_ (.c ?_ (.c ?_ (.c ?_ (.c ?_ (.c ?_ (.c ?_ (.c ?_ (.nil))))))))))))
  ·exact Eng.pv fun a w' H => Eng.vr rfl (Eng.run_move rfl (H.q 0 h0_7))
  ·exact Eng.pv fun a w' H => Eng.vr rfl (Eng.run_nilb rfl (H.d 0 46))
  ·exact Eng.pv fun a w' H => Eng.vr rfl (Eng.run_fieldb rfl Tryd.underlying64 2 (by kernel_rfl) (H.d 1 47))
  ·exact Eng.pv fun a w' H => Eng.vr rfl (Eng.run_loadb rfl (H.d 2 48) ((H.below.block _ ldg_7).trans kdg_7) rfl (by kernel_rfl))
  ·exact Eng.pv fun a w' H => Eng.vr rfl (Eng.run_fieldb rfl Tryd.underlying30 1 (by kernel_rfl) (H.q 3 h3_7))
  ·exact Eng.pv fun a w' H => Eng.vr rfl (Eng.run_loadb rfl (H.d 4 50) ((H.below.block _ lg3_1_7).trans kg3_1_7) rfl (by kernel_rfl))
  ·exact Eng.pv fun a w' H => Eng.vr (v := .tuple #[.int .i64 ((Dc.find names x.anchor.data.toList).getD 0), .bool (Dc.find names x.anchor.data.toList).isSome]) rfl (Dc.run_look2 (Dc.Rep.below XX_7.R H.below) rfl (H.d 3 49) (H.d 5 51) hasz)
  ·exact Eng.pv fun a w' H => Eng.vr rfl (Eng.run_move rfl (H.d 6 52))
  ·refine Eng.pv fun a w' H => ?_
   refine Eng.vr (v := .int .i64 ((Dc.find names x.anchor.data.toList).getD 0)) rfl ?_
   have e0 : a.eval (.tmp 45) = .tuple #[.int .i64 ((Dc.find names x.anchor.data.toList).getD 0), .bool (Dc.find names x.anchor.data.toList).isSome] := (H.d 7 45)
   simp only [execOp, resolve, List.map_toArray, List.map_cons, List.map_nil, e0]
   go_simp
  ·refine Eng.pv fun a w' H => ?_
   refine Eng.vr (v := .bool ((Dc.find names x.anchor.data.toList).isSome)) rfl ?_
   have e0 : a.eval (.tmp 45) = .tuple #[.int .i64 ((Dc.find names x.anchor.data.toList).getD 0), .bool (Dc.find names x.anchor.data.toList).isSome] := (H.d 7 45)
   simp only [execOp, resolve, List.map_toArray, List.map_cons, List.map_nil, e0]
   go_simp
  ·exact Eng.pv fun a w' H => Eng.vr rfl (Eng.run_assign rfl (H.d 8 53))
  exact Eng.pv fun a w' H => Eng.vr rfl (Eng.run_assign rfl (H.d 9 54))
 intro act8 w8 T
 have h0_8 := T.r1 h0_7
 have kdg_8 := T.x ldg_7 kdg_7
 have ldg_8 := T.l ldg_7
 have h6_8 : act8.eval (.tmp 6) = .int .i64 ((Dc.find names x.anchor.data.toList).getD 0) := T.done 10 6 rfl rfl
 have h7_8 : act8.eval (.tmp 7) = .bool ((Dc.find names x.anchor.data.toList).isSome) := T.done 11 7 rfl rfl
 have d8 := T.e d7
 have s8 := T.z s7
 have bl8 := T.b bl7
 have XX_8 := Dc.St.below XX_7 T.below
 clear T
 refine Eng.tail_nil ?_
 refine wp_seq ?_
 refine wp_seq ?_
 obtain ⟨q56, Bq56⟩ : ∃ b : Bool, b = (!(Dc.find names x.anchor.data.toList).isSome) := ⟨_, rfl⟩
 refine Eng.rS [.bool ((Dc.find names x.anchor.data.toList).isSome), .bool q56] (fun _ => .plain) 2 0 s8 ?_ ?_
 ·refine .c ?_ (.c ?_ (.nil))
  ·exact Eng.pv fun a w' H => Eng.vr rfl (Eng.run_move rfl (H.q 7 h7_8))
  exact Eng.pv fun a w' H => Eng.vr (v := .bool (!(Dc.find names x.anchor.data.toList).isSome)) (by show _ = Value.bool q56; rw [Bq56]) (Eng.run_not rfl (H.d 0 55))
 intro act9 w9 T
 have ⟨h0_9, h6_9⟩ := T.r2 h0_8 h6_8
 have kdg_9 := T.x ldg_8 kdg_8
 have ldg_9 := T.l ldg_8
 have h56_9 : act9.eval (.tmp 56) = .bool q56 := T.done 1 56 rfl rfl
 have d9 := T.e d8
 have s9 := T.z s8
 have bl9 := T.b bl8
 have XX_9 := Dc.St.below XX_8 T.below
 clear T
 refine Eng.tail_nil ?_
 refine wp_cond_split h56_9 (fun hq => ?_) (fun hq => ?_)
 ·
  have c56 := Bq56.symm.trans hq
  clear hq
  have hno_ : Dc.find names x.anchor.data.toList = none := by rw [← Option.not_isSome_iff_eq_none]; revert c56; cases (Dc.find names x.anchor.data.toList).isSome <;> simp
  refine wp_seq ?_
  refine Eng.rS [.bool false, .int .i64 11] (fun _ => .plain) 2 0 s9 ?_ ?_
  ·refine .c ?_ (.c ?_ (.nil))
   ·exact Eng.pv fun a w' H => Eng.vr rfl (Eng.run_assign rfl (rfl : a.eval (.const (.bool false)) = .bool false))
   exact Eng.pv fun a w' H => Eng.vr rfl (Eng.run_assign rfl (rfl : a.eval (.const (.int .i64 11)) = .int .i64 11))
  intro act11 w11 T
  have kdg_11 := T.x ldg_9 kdg_9
  have h4_11 : act11.eval (.tmp 4) = .bool false := T.done 0 4 rfl rfl
  have h5_11 : act11.eval (.tmp 5) = .int .i64 11 := T.done 1 5 rfl rfl
  have d11 := T.e d9
  have XX_11 := Dc.St.below XX_9 T.below
  clear T
  refine Eng.tail_nil ?_
  refine wp_ret ?_
  repeat (first | refine Eng.in_ret ?_ | refine Eng.then_ret ?_)
  have e_ : Dc.aliasF ⟨h.map (·.1), opn, names⟩ x = (⟨h.map (·.1), opn, names⟩, 11) := Dc.aliasF_no hno_
  exact Eng.ret2 rfl d11 h4_11 h5_11 ⟨h, by rw [e_], by rw [e_], XX_11, kdg_11⟩
 have c56 := Bq56.symm.trans hq
 clear hq
 obtain ⟨d_, hd_⟩ := Option.isSome_iff_exists.1 (show (Dc.find names x.anchor.data.toList).isSome = true from by revert c56; cases (Dc.find names x.anchor.data.toList).isSome <;> simp)
 have hdr_ := hnv _ _ hd_
 obtain ⟨at_, hat_⟩ : ∃ n : Nat, d_ = (n : Int) := ⟨d_.toNat, by omega⟩
 subst hat_
 have hgd_ : (Dc.find names x.anchor.data.toList).getD 0 = (at_ : Int) := by rw [hd_]; rfl
 have ha6_ := h6_9.trans (congrArg (Value.int .i64) hgd_)
 refine wp_skip ?_
 refine wp_seq ?_
 refine (wpIn_wide (n := 1)).1 ?_
 refine EngI.regionS EngI.free_wide (Eng.still [fun u_ => u_ = .pointer (some ⟨dg, 0, none⟩), fun u_ => u_ = .int .i64 (at_ : Int)]) (fun _ => .plain) 2 3 60 s9 rfl (by kernel_rfl) (Eng.still_stable _) (Or.inr (Eng.still_any _)) (by kernel_rfl) ?_ ?_
 ·refine .c ?_ (.c ?_ (.cons (fun h => absurd h (by decide)) (.cons (fun h => absurd h (by decide)) (.cons (fun h => absurd h (by decide)) (.nil)))))
  ·exact Eng.pv fun a w' H => Eng.vr rfl (Eng.run_move rfl (H.q 0 h0_9))
  exact Eng.pv fun a w' H => Eng.vr rfl (Eng.run_move rfl ((H.kept 6 (by kernel_rfl)).trans ha6_))
 intro act13 w13 T
 have kdg_13 := T.x ldg_9 kdg_9
 have h57_13 : act13.eval (.tmp 57) = .pointer (some ⟨dg, 0, none⟩) := T.done 0 57 rfl rfl
 have h58_13 : act13.eval (.tmp 58) = .int .i64 (at_ : Int) := T.done 1 58 rfl rfl
 have d13 := T.e d9
 have s13 := T.z s9
 have bl13 := T.b bl9
 have XX_13 := Dc.St.below XX_9 T.below
 clear T
 refine EngI.tail_call EngI.free_wide Tryd.func56 (by kernel_rfl) (by kernel_rfl) rfl rfl rfl rfl #[.pointer (some ⟨dg, 0, none⟩), .int .i64 (at_ : Int)] (by have e0 : act13.eval (.tmp 57) = .pointer (some ⟨dg, 0, none⟩) := h57_13; have e1 : act13.eval (.tmp 58) = .int .i64 (at_ : Int) := h58_13; simp only [List.map_toArray, List.map_cons, List.map_nil, e0, e1]) s13 rfl (R := fun v w' => ∃ h', v = .int .i64 (Dc.kidF ⟨h.map (·.1), opn, names⟩ at_).2 ∧ h'.map (·.1) = (Dc.kidF ⟨h.map (·.1), opn, names⟩ at_).1.nodes ∧ Dc.St w.heap.size w13 w' dg (Dc.Blk h gv ov mb) h' opn names gv ov mb ∧ w'.heap[dg]? = some (.cells #[gv, ov, .map (some mb)] 64 (0, 0))) ((Dc.kid_calls dg mb gv ov h opn names at_ w _ bl13 hlo kdg_13 XX_13.R (by have := hdr_.2; omega) hop hkl).mono ?_) fun v_14 w14 act14 R d14 s14 hv hr => ?_
 ·rintro e w1 ⟨h1, rfl, r1⟩; exact ⟨_, rfl, h1, rfl, r1⟩
 have h59_14 : act14.eval (.tmp 59) = v_14 := hv
 have d14 := d14.trans d13
 clear hv hr
 obtain ⟨h14, ev_14, hm14, Y14, kb14⟩ := R
 obtain ⟨kr14, hkr14⟩ : ∃ k, k = (Dc.kidF ⟨h.map (·.1), opn, names⟩ at_).2 := ⟨_, rfl⟩
 rw [ev_14, ← hkr14] at h59_14
 have X_14 := Dc.St.call XX_13 Y14
 have lb14 := (Array.getElem?_eq_some_iff.1 kb14).1
 refine EngI.tv rfl (Eng.run_assign rfl (rfl : act14.eval (.const (.bool false)) = .bool false)) s14 fun act15 d15 s15 hv hr => ?_
 have h59_15 := Eng.k1 hr h59_14
 have h4_15 : act15.eval (.tmp 4) = .bool false := hv
 have d15 := d15.trans d14
 clear hv hr
 refine EngI.tv rfl (Eng.run_assign rfl h59_15) s15 fun act16 d16 s16 hv hr => ?_
 have h4_16 := Eng.k1 hr h4_15
 have h5_16 : act16.eval (.tmp 5) = .int .i64 kr14 := hv
 have d16 := d16.trans d15
 clear hv hr
 refine EngI.tail_nil ?_
 refine wp_ret ?_
 repeat (first | refine Eng.in_ret ?_ | refine Eng.then_ret ?_)
 have e_ : Dc.aliasF ⟨h.map (·.1), opn, names⟩ x = Dc.kidF ⟨h.map (·.1), opn, names⟩ at_ := Dc.aliasF_is hd_
 exact Eng.ret2 rfl d16 h4_16 h5_16 ⟨h14, by rw [e_, hkr14], by rw [e_]; exact hm14, X_14, kb14⟩
set_option maxHeartbeats 4000000 in
set_option maxRecDepth 100000 in
theorem Dc.take_node (dg mb : Nat) (gv ov : Value) (h : List Dc.NV) (opn : List Int) (names : List (List UInt8 × Int)) (x : Evt.Ev) (w W0 : World) (hB : Below w.heap.size w W0) (hlo : w.heap.size ≤ dg) (hk : W0.heap[dg]? = some (.cells #[gv, ov, .map (some mb)] 64 (0, 0))) (hR : Dc.Rep w.heap.size W0 h opn names gv ov mb) (hn0 : x.kind ≠ 0) (hn1 : x.kind ≠ 1) (hn3 : x.kind ≠ 3) (hn5 : x.kind ≠ 5) (hn7 : x.kind ≠ 7) (hsz : x.text.size ≤ 2000) (hasz : x.anchor.size ≤ maxLen) (hnl : names.length ≤ 1000000) (hop : ∀ o ∈ opn, 0 ≤ o ∧ o.toNat < h.length) (hopl : opn.length ≤ 1000000) (hkl : ∀ i, i < h.length → (h.getD i default).1.kids.length ≤ 1000000) : Calls Tryd.prog 30 #[.pointer (some ⟨dg, 0, none⟩), .agg #[.int .i64 x.kind, .string x.anchor, .string x.tag, .string x.text, .bool x.plain]] W0 fun e w' => ∃ h' opn' names' gv' ov', e = .returned (.tuple #[.bool false, .int .i64 (Dc.nodeF ⟨h.map (·.1), opn, names⟩ x).2]) ∧ (⟨h'.map (·.1), opn', names'⟩ : Dc.Dc) = (Dc.nodeF ⟨h.map (·.1), opn, names⟩ x).1 ∧ Dc.St w.heap.size W0 w' dg (Dc.Blk h gv ov mb) h' opn' names' gv' ov' mb ∧ w'.heap[dg]? = some (.cells #[gv', ov', .map (some mb)] 64 (0, 0)) := by
 refine Eng.enter Tryd.func30 rfl fun act0 d0 s0 v0 => ?_
 have s0 : act0.tmps.size = 60 := s0
 have h0_0 : act0.eval (.tmp 0) = .pointer (some ⟨dg, 0, none⟩) := v0 0 (by simp)
 have h1_0 : act0.eval (.tmp 1) = .agg #[.int .i64 x.kind, .string x.anchor, .string x.tag, .string x.text, .bool x.plain] := v0 1 (by simp)
 clear v0
 refine wp_seq ?_
 refine Eng.regionS (Eng.still [fun u_ => True, fun u_ => u_ = .bool false, fun u_ => u_ = .int .i64 0]) (fun i => ([.alloc 30 #[.int .i64 x.kind, .string x.anchor, .string x.tag, .string x.text, .bool x.plain], .plain, .plain] : List Eng.Kind).getD i .plain) 3 0 60 s0 rfl (by kernel_rfl) (Eng.still_stable _) (Or.inr (Eng.still_any _)) ?_ ?_
 ·refine .c ?_ (.c ?_ (.c ?_ (.nil)))
  ·refine Eng.made rfl (by simp) rfl (fun a w' hd ho => ?_) (fun _ _ => trivial)
   exact Eng.run_box rfl ((ho 1 (by kernel_rfl)).trans h1_0)
  ·exact Eng.pv fun a w' H => Eng.vr rfl (Eng.run_assign rfl (rfl : a.eval (.const (.bool false)) = .bool false))
  exact Eng.pv fun a w' H => Eng.vr rfl (Eng.run_assign rfl (rfl : a.eval (.const (.int .i64 0)) = .int .i64 0))
 intro act1 w1 T
 have h0_1 := T.r1 h0_0
 have kdg_1 := (T.below.block _ (Array.getElem?_eq_some_iff.1 hk).1).trans hk
 have ldg_1 := Nat.lt_of_lt_of_le (Array.getElem?_eq_some_iff.1 hk).1 T.below.size
 obtain ⟨g3_1, h3_1, rg3_1, lg3_1_1, kg3_1_1⟩ := T.al 0 3 _ _ rfl rfl rfl (by kernel_rfl)
 have d1 := T.e d0
 have s1 := T.z s0
 have bl1 := hB.trans (T.below.mono hB.size)
 have XX_1 := Dc.St.below (Dc.St.start (dg := dg) hR) T.below
 clear T
 refine Eng.tail_nil ?_
 refine wp_seq ?_
 refine wp_seq ?_
 refine Eng.rS [.pointer (some ⟨g3_1, 0, none⟩), .int .i64 x.kind] (fun _ => .plain) 2 0 s1 ?_ ?_
 ·refine .c ?_ (.c ?_ (.nil))
  ·exact Eng.pv fun a w' H => Eng.vr rfl (Eng.run_fieldb rfl Tryd.underlying30 0 (by kernel_rfl) (H.q 3 h3_1))
  exact Eng.pv fun a w' H => Eng.vr rfl (Eng.run_loadb rfl (H.d 0 8) ((H.below.block _ lg3_1_1).trans kg3_1_1) rfl (by kernel_rfl))
 intro act2 w2 T
 have ⟨h0_2, h3_2⟩ := T.r2 h0_1 h3_1
 have kdg_2 := T.x ldg_1 kdg_1
 have ldg_2 := T.l ldg_1
 have kg3_1_2 := T.x lg3_1_1 kg3_1_1
 have lg3_1_2 := T.l lg3_1_1
 have h9_2 : act2.eval (.tmp 9) = .int .i64 x.kind := T.done 1 9 rfl rfl
 have d2 := T.e d1
 have s2 := T.z s1
 have bl2 := T.b bl1
 have XX_2 := Dc.St.below XX_1 T.below
 clear T
 refine Eng.tail_nil ?_
 refine wp_block ?_
 refine wp_seq ?_
 obtain ⟨q14, Bq14⟩ : ∃ b : Bool, b = (x.kind == 0) := ⟨_, rfl⟩
 refine Eng.rS [.bool q14, .bool q14] (fun _ => .plain) 2 0 s2 ?_ ?_
 ·refine .c ?_ (.c ?_ (.nil))
  ·refine Eng.pv fun a w' H => ?_
   refine Eng.vr (v := .bool (x.kind == 0)) (by show _ = Value.bool q14; rw [Bq14]) ?_
   have e0 := (H.q 9 h9_2)
   have e1 : a.eval (.const (.int .i64 0)) = .int .i64 0 := rfl
   simp only [execOp, resolve, List.map_toArray, List.map_cons, List.map_nil, e0, e1]
   go_simp
  exact Eng.pv fun a w' H => Eng.vr rfl (Eng.run_assign rfl (H.d 0 14))
 intro act3 w3 T
 have ⟨h0_3, h3_3, h9_3⟩ := T.r3 h0_2 h3_2 h9_2
 have kdg_3 := T.x ldg_2 kdg_2
 have ldg_3 := T.l ldg_2
 have kg3_1_3 := T.x lg3_1_2 kg3_1_2
 have lg3_1_3 := T.l lg3_1_2
 have h13_3 : act3.eval (.tmp 13) = .bool q14 := T.done 1 13 rfl rfl
 have d3 := T.e d2
 have s3 := T.z s2
 have bl3 := T.b bl2
 have XX_3 := Dc.St.below XX_2 T.below
 clear T
 refine Eng.tail_nil ?_
 have n13_0 : q14 = false := by
  simp only [Bq14]
  simpa using hn0
 refine wp_cond_false (h13_3.trans (by rw [n13_0])) ?_
 refine wp_seq ?_
 obtain ⟨q20, Bq20⟩ : ∃ b : Bool, b = (x.kind == 1) := ⟨_, rfl⟩
 refine Eng.rS [.bool q20, .bool q20] (fun _ => .plain) 2 0 s3 ?_ ?_
 ·refine .c ?_ (.c ?_ (.nil))
  ·refine Eng.pv fun a w' H => ?_
   refine Eng.vr (v := .bool (x.kind == 1)) (by show _ = Value.bool q20; rw [Bq20]) ?_
   have e0 := (H.q 9 h9_3)
   have e1 : a.eval (.const (.int .i64 1)) = .int .i64 1 := rfl
   simp only [execOp, resolve, List.map_toArray, List.map_cons, List.map_nil, e0, e1]
   go_simp
  exact Eng.pv fun a w' H => Eng.vr rfl (Eng.run_assign rfl (H.d 0 20))
 intro act4 w4 T
 have ⟨h0_4, h3_4, h9_4⟩ := T.r3 h0_3 h3_3 h9_3
 have kdg_4 := T.x ldg_3 kdg_3
 have ldg_4 := T.l ldg_3
 have kg3_1_4 := T.x lg3_1_3 kg3_1_3
 have lg3_1_4 := T.l lg3_1_3
 have h19_4 : act4.eval (.tmp 19) = .bool q20 := T.done 1 19 rfl rfl
 have d4 := T.e d3
 have s4 := T.z s3
 have bl4 := T.b bl3
 have XX_4 := Dc.St.below XX_3 T.below
 clear T
 refine Eng.tail_nil ?_
 have n19_1 : q20 = false := by
  simp only [Bq20, Bq14]
  simpa using hn1
 refine wp_cond_false (h19_4.trans (by rw [n19_1])) ?_
 refine wp_seq ?_
 refine wp_seq ?_
 obtain ⟨q27, Bq27⟩ : ∃ b : Bool, b = (x.kind == 3) := ⟨_, rfl⟩
 refine Eng.rS [.bool q27, .bool q27] (fun _ => .plain) 2 0 s4 ?_ ?_
 ·refine .c ?_ (.c ?_ (.nil))
  ·refine Eng.pv fun a w' H => ?_
   refine Eng.vr (v := .bool (x.kind == 3)) (by show _ = Value.bool q27; rw [Bq27]) ?_
   have e0 := (H.q 9 h9_4)
   have e1 : a.eval (.const (.int .i64 3)) = .int .i64 3 := rfl
   simp only [execOp, resolve, List.map_toArray, List.map_cons, List.map_nil, e0, e1]
   go_simp
  exact Eng.pv fun a w' H => Eng.vr rfl (Eng.run_assign rfl (H.d 0 27))
 intro act5 w5 T
 have ⟨h0_5, h3_5, h9_5⟩ := T.r3 h0_4 h3_4 h9_4
 have kdg_5 := T.x ldg_4 kdg_4
 have ldg_5 := T.l ldg_4
 have kg3_1_5 := T.x lg3_1_4 kg3_1_4
 have lg3_1_5 := T.l lg3_1_4
 have h26_5 : act5.eval (.tmp 26) = .bool q27 := T.done 1 26 rfl rfl
 have d5 := T.e d4
 have s5 := T.z s4
 have bl5 := T.b bl4
 have XX_5 := Dc.St.below XX_4 T.below
 clear T
 refine Eng.tail_nil ?_
 have n26_3 : q27 = false := by
  simp only [Bq27, Bq20, Bq14]
  simpa using hn3
 refine wp_cond_false (h26_5.trans (by rw [n26_3])) ?_
 obtain ⟨q28, Bq28⟩ : ∃ b : Bool, b = (x.kind == 5) := ⟨_, rfl⟩
 refine Eng.rS [.bool q28, .bool q28] (fun _ => .plain) 2 0 s5 ?_ ?_
 ·refine .c ?_ (.c ?_ (.nil))
  ·refine Eng.pv fun a w' H => ?_
   refine Eng.vr (v := .bool (x.kind == 5)) (by show _ = Value.bool q28; rw [Bq28]) ?_
   have e0 := (H.q 9 h9_5)
   have e1 : a.eval (.const (.int .i64 5)) = .int .i64 5 := rfl
   simp only [execOp, resolve, List.map_toArray, List.map_cons, List.map_nil, e0, e1]
   go_simp
  exact Eng.pv fun a w' H => Eng.vr rfl (Eng.run_assign rfl (H.d 0 28))
 intro act6 w6 T
 have ⟨h0_6, h3_6, h9_6⟩ := T.r3 h0_5 h3_5 h9_5
 have kdg_6 := T.x ldg_5 kdg_5
 have ldg_6 := T.l ldg_5
 have kg3_1_6 := T.x lg3_1_5 kg3_1_5
 have lg3_1_6 := T.l lg3_1_5
 have h26_6 : act6.eval (.tmp 26) = .bool q28 := T.done 1 26 rfl rfl
 have d6 := T.e d5
 have s6 := T.z s5
 have bl6 := T.b bl5
 have XX_6 := Dc.St.below XX_5 T.below
 clear T
 refine Eng.tail_nil ?_
 have n26_5 : q28 = false := by
  simp only [Bq28, Bq27, Bq20, Bq14]
  simpa using hn5
 refine wp_cond_false (h26_6.trans (by rw [n26_5])) ?_
 refine wp_seq ?_
 obtain ⟨q44, Bq44⟩ : ∃ b : Bool, b = (x.kind == 7) := ⟨_, rfl⟩
 refine Eng.rS [.bool q44, .bool q44] (fun _ => .plain) 2 0 s6 ?_ ?_
 ·refine .c ?_ (.c ?_ (.nil))
  ·refine Eng.pv fun a w' H => ?_
   refine Eng.vr (v := .bool (x.kind == 7)) (by show _ = Value.bool q44; rw [Bq44]) ?_
   have e0 := (H.q 9 h9_6)
   have e1 : a.eval (.const (.int .i64 7)) = .int .i64 7 := rfl
   simp only [execOp, resolve, List.map_toArray, List.map_cons, List.map_nil, e0, e1]
   go_simp
  exact Eng.pv fun a w' H => Eng.vr rfl (Eng.run_assign rfl (H.d 0 44))
 intro act7 w7 T
 have ⟨h0_7, h3_7⟩ := T.r2 h0_6 h3_6
 have kdg_7 := T.x ldg_6 kdg_6
 have ldg_7 := T.l ldg_6
 have kg3_1_7 := T.x lg3_1_6 kg3_1_6
 have lg3_1_7 := T.l lg3_1_6
 have h43_7 : act7.eval (.tmp 43) = .bool q44 := T.done 1 43 rfl rfl
 have d7 := T.e d6
 have s7 := T.z s6
 have bl7 := T.b bl6
 have XX_7 := Dc.St.below XX_6 T.below
 clear T
 refine Eng.tail_nil ?_
 have n43_7 : q44 = false := by
  simp only [Bq44, Bq28, Bq27, Bq20, Bq14]
  simpa using hn7
 refine wp_cond_false (h43_7.trans (by rw [n43_7])) ?_
 refine wp_seq ?_
 refine (wpIn_wide (n := 1)).1 ?_
 refine EngI.regionS EngI.free_wide (Eng.still [fun u_ => u_ = .pointer (some ⟨dg, 0, none⟩), fun u_ => u_ = .agg #[.int .i64 x.kind, .string x.anchor, .string x.tag, .string x.text, .bool x.plain]]) (fun _ => .plain) 2 3 60 s7 rfl (by kernel_rfl) (Eng.still_stable _) (Or.inr (Eng.still_any _)) (by kernel_rfl) ?_ ?_
 ·refine .c ?_ (.c ?_ (.cons (fun h => absurd h (by decide)) (.cons (fun h => absurd h (by decide)) (.cons (fun h => absurd h (by decide)) (.nil)))))
  ·exact Eng.pv fun a w' H => Eng.vr rfl (Eng.run_move rfl (H.q 0 h0_7))
  refine Eng.pv fun a w' H => ?_
  have kb := (H.below.block _ lg3_1_7).trans kg3_1_7
  have z0 : w'.cell? ⟨g3_1, 0, none⟩ = some (.int .i64 x.kind) := (Eng.cells kb 0).trans rfl
  have z1 : w'.cell? ⟨g3_1, 1, none⟩ = some (.string x.anchor) := (Eng.cells kb 1).trans rfl
  have z2 : w'.cell? ⟨g3_1, 2, none⟩ = some (.string x.tag) := (Eng.cells kb 2).trans rfl
  have z3 : w'.cell? ⟨g3_1, 3, none⟩ = some (.string x.text) := (Eng.cells kb 3).trans rfl
  have z4 : w'.cell? ⟨g3_1, 4, none⟩ = some (.bool x.plain) := (Eng.cells kb 4).trans rfl
  refine Eng.vr (v := .agg #[.int .i64 x.kind, .string x.anchor, .string x.tag, .string x.text, .bool x.plain]) rfl ?_
  have e0 := (H.q 3 h3_7)
  simp only [execOp, resolve, List.map_toArray, List.map_cons, List.map_nil, e0]
  go_simp
 intro act8 w8 T
 have kdg_8 := T.x ldg_7 kdg_7
 have h10_8 : act8.eval (.tmp 10) = .pointer (some ⟨dg, 0, none⟩) := T.done 0 10 rfl rfl
 have h11_8 : act8.eval (.tmp 11) = .agg #[.int .i64 x.kind, .string x.anchor, .string x.tag, .string x.text, .bool x.plain] := T.done 1 11 rfl rfl
 have d8 := T.e d7
 have s8 := T.z s7
 have bl8 := T.b bl7
 have XX_8 := Dc.St.below XX_7 T.below
 clear T
 refine EngI.tail_call EngI.free_wide Tryd.func57 (by kernel_rfl) (by kernel_rfl) rfl rfl rfl rfl #[.pointer (some ⟨dg, 0, none⟩), .agg #[.int .i64 x.kind, .string x.anchor, .string x.tag, .string x.text, .bool x.plain]] (by have e0 : act8.eval (.tmp 10) = .pointer (some ⟨dg, 0, none⟩) := h10_8; have e1 : act8.eval (.tmp 11) = .agg #[.int .i64 x.kind, .string x.anchor, .string x.tag, .string x.text, .bool x.plain] := h11_8; simp only [List.map_toArray, List.map_cons, List.map_nil, e0, e1]) s8 rfl (R := fun v w' => ∃ h' opn' names' gv' ov', v = .int .i64 (Dc.nodeF ⟨h.map (·.1), opn, names⟩ x).2 ∧ (⟨h'.map (·.1), opn', names'⟩ : Dc.Dc) = (Dc.nodeF ⟨h.map (·.1), opn, names⟩ x).1 ∧ Dc.St w.heap.size w8 w' dg (Dc.Blk h gv ov mb) h' opn' names' gv' ov' mb ∧ w'.heap[dg]? = some (.cells #[gv', ov', .map (some mb)] 64 (0, 0))) ((Dc.node_calls dg mb gv ov h opn names x w _ bl8 hlo kdg_8 XX_8.R hsz hasz hnl hop hopl hkl).mono ?_) fun v_9 w9 act9 R d9 s9 hv hr => ?_
 ·rintro e w1 ⟨h1, o1, n1, g1, v1, rfl, r1⟩; exact ⟨_, rfl, h1, o1, n1, g1, v1, rfl, r1⟩
 have h12_9 : act9.eval (.tmp 12) = v_9 := hv
 have d9 := d9.trans d8
 clear hv hr
 obtain ⟨h9, op9, nm9, gv9, ov9, ev_9, hm9, Y9, kb9⟩ := R
 obtain ⟨nr9, hnr9⟩ : ∃ k, k = (Dc.nodeF ⟨h.map (·.1), opn, names⟩ x).2 := ⟨_, rfl⟩
 rw [ev_9, ← hnr9] at h12_9
 have X_9 := Dc.St.call XX_8 Y9
 have lb9 := (Array.getElem?_eq_some_iff.1 kb9).1
 refine EngI.tv rfl (Eng.run_assign rfl (rfl : act9.eval (.const (.bool false)) = .bool false)) s9 fun act10 d10 s10 hv hr => ?_
 have h12_10 := Eng.k1 hr h12_9
 have h4_10 : act10.eval (.tmp 4) = .bool false := hv
 have d10 := d10.trans d9
 clear hv hr
 refine EngI.tv rfl (Eng.run_assign rfl h12_10) s10 fun act11 d11 s11 hv hr => ?_
 have h4_11 := Eng.k1 hr h4_10
 have h5_11 : act11.eval (.tmp 5) = .int .i64 nr9 := hv
 have d11 := d11.trans d10
 clear hv hr
 refine EngI.tail_nil ?_
 refine wp_ret ?_
 repeat (first | refine Eng.in_ret ?_ | refine Eng.then_ret ?_)
 exact Eng.ret2 rfl d11 h4_11 h5_11 ⟨h9, op9, nm9, gv9, ov9, by rw [hnr9], hm9, X_9, kb9⟩
end Go.Proofs.YtgnmjaacnmkgnaaDoor.X
end
