/- Words and walks that the row of ComposeNames needs: printed by programs, and plain laws. -/
import Derived.Test.YtgnmjaacnmkgnaaDoorM12
import Derived.Test.YtgnmjaacnmkgnaaDoorM3
import Derived.Test.YtgnmjaacnmkgnaaDoorM7
import Derived.Test.YtgnmjaacnmkgnaaDoorM8
namespace Go.Proofs.YtgnmjaacnmkgnaaDoorW.PrintWords
end Go.Proofs.YtgnmjaacnmkgnaaDoorW.PrintWords
namespace Go.Proofs.YtgnmjaacnmkgnaaDoorW.PrintLast
end Go.Proofs.YtgnmjaacnmkgnaaDoorW.PrintLast
namespace Go.Proofs.YtgnmjaacnmkgnaaDoorW.PrintMore
end Go.Proofs.YtgnmjaacnmkgnaaDoorW.PrintMore
section
namespace Go.Proofs.YtgnmjaacnmkgnaaDoor.X
open Go.RowKit Go.Shelf Go.Proofs Go.Proofs.YtgnmjaacnmkgnaaDoorW.PrintWords Go.Proofs.YtgnmjaacnmkgnaaDoorW.PrintLast Go.Proofs.YtgnmjaacnmkgnaaDoorW.PrintMore
set_option linter.unusedVariables false
set_option linter.unusedSimpArgs false
attribute [local go_sem] max2_int min2_int max_two min_two
set_option maxHeartbeats 4000000 in
set_option maxRecDepth 100000 in
theorem Dc.Graphs_calls (v : Value) (l : List Evt.Ev) (w : World) (hT : Tabs.Holds w) (hl : Eng.Reads w v l.length 5 (Evt.cells l)) (hlen : l.length ≤ 100000) (hsz : ∀ k, k < l.length → (l.getD k default).text.size ≤ 2000) (hasz : ∀ k, k < l.length → (l.getD k default).anchor.size ≤ maxLen) (htw0 : Dc.TwAll ⟨[], [], []⟩ l) : Calls Tryd.prog 12 #[v] w fun e w' => ∃ outv fin, e = .returned (.tuple #[outv, .int .i64 (Dc.graphsF l).2]) ∧ List.map (·.1) fin = (Dc.graphsF l).1 ∧ w'.ownsRow w.heap.size 48 1 outv fin.length (List.map (·.2) fin) ∧ (∀ f ∈ fin, Dc.Fin w w' f (fun _ => False)) ∧ Below w.heap.size w w' := by
 have hm := Eng.Reads.len_le hl
 refine Eng.enter Tryd.func12 rfl fun act0 d0 s0 v0 => ?_
 have s0 : act0.tmps.size = 39 := s0
 have h0_0 : act0.eval (.tmp 0) = v := v0 0 (by simp)
 clear v0
 have bl0 : Below w.heap.size w w := Below.refl _ _
 refine wp_seq ?_
 refine Eng.rS [.slice none 0 0, .int .i64 0] (fun _ => .plain) 2 0 s0 ?_ ?_
 ·refine .c ?_ (.c ?_ (.nil))
  ·exact Eng.pv fun a w' H => Eng.vr rfl (Eng.run_assign rfl (rfl : a.eval (.const (.slice none 0 0)) = .slice none 0 0))
  exact Eng.pv fun a w' H => Eng.vr rfl (Eng.run_assign rfl (rfl : a.eval (.const (.int .i64 0)) = .int .i64 0))
 intro act1 w1 T
 have h0_1 := T.r1 h0_0
 have Fl_1 := T.f hl
 have h2_1 : act1.eval (.tmp 2) = .slice none 0 0 := T.done 0 2 rfl rfl
 have d1 := T.e d0
 have s1 := T.z s0
 have bl1 := T.b bl0
 clear T
 refine Eng.tail_nil ?_
 refine wp_seq ?_
 refine wp_seq ?_
 obtain ⟨q10, Bq10⟩ : ∃ b : Bool, b = (Evt.rightG Evt.rightE l) := ⟨_, rfl⟩
 obtain ⟨q11, Bq11⟩ : ∃ b : Bool, b = (!q10) := ⟨_, rfl⟩
 refine Eng.rS [v, .bool q10, .bool q11] (fun _ => .plain) 3 0 s1 ?_ ?_
 ·refine .c ?_ (.c ?_ (.c ?_ (.nil)))
  ·exact Eng.pv fun a w' H => Eng.vr rfl (Eng.run_move rfl (H.q 0 h0_1))
  ·refine Eng.pv fun a w' H => ?_
   refine Eng.call Tryd.func17 (by kernel_rfl) (by kernel_rfl) rfl #[v] ?_ ?_
   ·have e0 : a.eval (.tmp 9) = v := (H.d 0 9); simp only [List.map_toArray, List.map_cons, List.map_nil, e0]
   refine (Evt.Right_calls v l _ (Tabs.below (Tabs.below hT bl1) H.below) (Eng.Reads.below Fl_1 H.below) (fun k hk => Nat.le_trans (hsz k hk) (by decide)) (by omega)).mono ?_
   rintro e w'' ⟨rfl, hb⟩
   exact ⟨_, rfl, (by show _ = Value.bool q10; rw [Bq10]), hb⟩
  exact Eng.pv fun a w' H => Eng.vr (v := .bool (!q10)) (by show _ = Value.bool q11; rw [Bq11]) (Eng.run_not rfl (H.d 1 10))
 intro act2 w2 T
 have ⟨h0_2, h2_2⟩ := T.r2 h0_1 h2_1
 have Fl_2 := T.f Fl_1
 have h11_2 : act2.eval (.tmp 11) = .bool q11 := T.done 2 11 rfl rfl
 have d2 := T.e d1
 have s2 := T.z s1
 have bl2 := T.b bl1
 clear T
 refine Eng.tail_nil ?_
 refine wp_cond_split h11_2 (fun hq => ?_) (fun hq => ?_)
 ·
  have c11 := Bq11.symm.trans hq
  clear hq
  have hnr : Evt.rightG Evt.rightE l = false := by have h1 := c11; rw [Bq10] at h1; simpa using h1
  refine wp_seq ?_
  refine Eng.rS [.slice none 0 0, .int .i64 5] (fun _ => .plain) 2 0 s2 ?_ ?_
  ·refine .c ?_ (.c ?_ (.nil))
   ·exact Eng.pv fun a w' H => Eng.vr rfl (Eng.run_assign rfl (rfl : a.eval (.const (.slice none 0 0)) = .slice none 0 0))
   exact Eng.pv fun a w' H => Eng.vr rfl (Eng.run_assign rfl (rfl : a.eval (.const (.int .i64 5)) = .int .i64 5))
  intro act4 w4 T
  have h2_4 : act4.eval (.tmp 2) = .slice none 0 0 := T.done 0 2 rfl rfl
  have h3_4 : act4.eval (.tmp 3) = .int .i64 5 := T.done 1 3 rfl rfl
  have d4 := T.e d2
  have bl4 := T.b bl2
  clear T
  refine Eng.tail_nil ?_
  refine wp_ret ?_
  repeat (first | refine Eng.in_ret ?_ | refine Eng.then_ret ?_)
  exact Eng.ret2 rfl d4 h2_4 h3_4 ⟨_, [], by rw [Dc.graphsF_no hnr], by rw [Dc.graphsF_no hnr]; rfl, Dc.fin_nil, fun f hf => absurd hf List.not_mem_nil, bl4⟩
 have c11 := Bq11.symm.trans hq
 clear hq
 have hnr : Evt.rightG Evt.rightE l = true := by have h1 := c11; rw [Bq10] at h1; simpa using h1
 refine wp_skip ?_
 refine wp_seq ?_
 refine Eng.regionT (n := 3) rfl ?_
 refine Eng.tail_val (w1 := w2) (v := .agg #[.slice none 0 0, .slice none 0 0, .map none]) rfl rfl rfl ?_ s2 rfl ?_
 ·simp only [execOp, resolve]
  go_simp
 intro act6 d6 s6 h12_6 hr
 have ⟨h0_6, h2_6, h11_6⟩ := Eng.k3 hr h0_2 h2_2 h11_2
 have d6 := d6.trans d2
 clear hr
 refine Eng.tail_ex rfl rfl rfl (Eng.box_ex (cs := #[.slice none 0 0, .slice none 0 0, .map none]) rfl h12_6 (by rfl)) s6 rfl fun v_7 w7 act7 R d7 s7 h13_7 hr => ?_
 obtain ⟨g13_7, ev_7, rg_7, lg13_7, kg13_7, b_7⟩ := R
 have ⟨h0_7, h2_7, h11_7⟩ := Eng.k3 hr h0_6 h2_6 h11_6
 have d7 := d7.trans d6
 clear hr
 have og13_7 : w.heap.size ≤ g13_7 := Nat.le_trans bl2.size rg_7
 have Fl_7 := Eng.Reads.below Fl_2 b_7
 have bl7 := bl2.trans (b_7.mono bl2.size)
 rw [ev_7] at h13_7
 refine Eng.tail_val rfl rfl rfl (Eng.run_assign rfl h13_7) s7 rfl fun act8 d8 s8 h4_8 hr => ?_
 have ⟨h0_8, h2_8, h11_8⟩ := Eng.k3 hr h0_7 h2_7 h11_7
 have d8 := d8.trans d7
 clear hr
 refine Eng.tail_nil ?_
 refine wp_seq ?_
 refine wp_seq ?_
 refine Eng.rS [v, .int .i64 ((l.length : Nat) : Int), .int .i64 0] (fun _ => .plain) 3 0 s8 ?_ ?_
 ·refine .c ?_ (.c ?_ (.c ?_ (.nil)))
  ·exact Eng.pv fun a w' H => Eng.vr rfl (Eng.run_move rfl (H.q 0 h0_8))
  ·exact Eng.pv fun a w' H => Eng.vr (v := .int .i64 ((l.length : Nat) : Int)) rfl (Eng.run_len_sl rfl Tryd.underlying37 (show a.eval (.tmp 14) = v from (H.d 0 14)) (Eng.Reads.below Fl_7 H.below))
  exact Eng.pv fun a w' H => Eng.vr rfl (Eng.run_move rfl (rfl : a.eval (.const (.int .i64 0)) = .int .i64 0))
 intro act9 w9 T
 have ⟨h0_9, h2_9, h4_9, h11_9⟩ := T.r4 h0_8 h2_8 h4_8 h11_8
 have kg13_7_9 := T.x lg13_7 kg13_7
 have lg13_7_9 := T.l lg13_7
 have h14_9 : act9.eval (.tmp 14) = v := T.done 0 14 rfl rfl
 have h15_9 : act9.eval (.tmp 15) = .int .i64 ((l.length : Nat) : Int) := T.done 1 15 rfl rfl
 have h16_9 : act9.eval (.tmp 16) = .int .i64 0 := T.done 2 16 rfl rfl
 have d9 := T.e d8
 have s9 := T.z s8
 have bl9 := T.b bl7
 clear T
 refine Eng.tail_nil ?_
 refine wp_block ?_
 refine Eng.loopN (fun n a w' => ∃ (k : Nat) (gv : Value) (ov : Value) (mv : Value) (outv : Value) (st : List (Int × Int)) (d : Dc.Dc) (fin : List (List Dc.Nd × Value)) (live : Bool), l.length - k = n ∧ (k ≤ l.length) ∧ (Evt.rightR Evt.rightE st (List.drop k l) = true) ∧ (Dc.runF ⟨[], [], []⟩ [] l = Dc.runF d (List.map (·.1) fin) (List.drop k l)) ∧ (Dc.HS w w' g13_7 gv ov mv st d fin k live) ∧ (w'.ownsRow w.heap.size 48 1 outv (List.length fin) (List.map (·.2) fin)) ∧ (Dc.TwAll d (List.drop k l)) ∧ (List.length fin ≤ k) ∧ a.defers = [] ∧ a.tmps.size = 39 ∧ Below w.heap.size w w' ∧ a.eval (.tmp 0) = v ∧ a.eval (.tmp 2) = outv ∧ a.eval (.tmp 4) = .pointer (some ⟨g13_7, 0, none⟩) ∧ a.eval (.tmp 11) = .bool q11 ∧ a.eval (.tmp 14) = v ∧ a.eval (.tmp 15) = .int .i64 ((l.length : Nat) : Int) ∧ a.eval (.tmp 16) = .int .i64 (k : Nat) ∧ w'.heap[g13_7]? = some (.cells (#[gv, ov, mv]) 64 (0, 0)) ∧ g13_7 < w'.heap.size) (n0 := l.length - 0) ?_ ?_
 ·exact ⟨0, .slice none 0 0, .slice none 0 0, .map none, .slice none 0 0, [], ⟨[], [], []⟩, [], false, rfl, by omega, Dc.rightG_R hnr, rfl, Dc.HS.start, Dc.fin_nil, htw0, by simp, d9, s9, bl9, h0_9, (h2_9.trans (by first | rfl | (congr 1; rw [Eng.i64_id (by omega) (by omega)]; omega) | (simp; done))), h4_9, h11_9, h14_9, h15_9, (h16_9.trans (by first | rfl | (congr 1; rw [Eng.i64_id (by omega) (by omega)]; omega) | (simp; done))), (kg13_7_9.trans (by first | rfl | (simp; done))), lg13_7_9⟩
 rintro n act10 w10 ⟨k, gv, ov, mv, outv, st, d, fin, live, rfl, hc0_10, hc1_10, hc2_10, hc3_10, hc4_10, hc5_10, hc6_10, d10, s10, bl10, h0_10, h2_10, h4_10, h11_10, h14_10, h15_10, h16_10, kg13_7_10, lg13_7_10⟩
 have Fl_10 := Eng.Reads.below hl bl10
 have hk1 := hc0_10
 have hrr := hc1_10
 have hrun := hc2_10
 have htw := hc5_10
 have hfl := hc6_10
 refine wp_seq ?_
 obtain ⟨q17, Bq17⟩ : ∃ b : Bool, b = (decide ((k : Nat) < ((l.length : Nat) : Int))) := ⟨_, rfl⟩
 refine Eng.rS [.bool q17] (fun _ => .plain) 1 0 s10 ?_ ?_
 ·refine .c ?_ (.nil)
  ·refine Eng.pv fun a w' H => ?_
   refine Eng.vr (v := .bool (decide ((k : Nat) < ((l.length : Nat) : Int)))) (by show _ = Value.bool q17; rw [Bq17]) ?_
   have e0 := (H.q 16 h16_10)
   have e1 := (H.q 15 h15_10)
   simp only [execOp, resolve, e0, e1]
   go_simp
 intro act11 w11 T
 have ⟨h0_11, h2_11, h4_11, h11_11, h14_11, h15_11, h16_11⟩ := T.r7 h0_10 h2_10 h4_10 h11_10 h14_10 h15_10 h16_10
 have kg13_7_11 := T.x lg13_7_10 kg13_7_10
 have lg13_7_11 := T.l lg13_7_10
 have Fl_11 := T.f Fl_10
 have Oout_11 := T.g hc4_10
 have h17_11 : act11.eval (.tmp 17) = .bool q17 := T.done 0 17 rfl rfl
 have d11 := T.e d10
 have s11 := T.z s10
 have bl11 := T.b bl10
 have XH_11 := Dc.HS.below hc3_10 T.below
 clear T
 refine Eng.tail_nil ?_
 refine wp_seq ?_
 refine wp_cond_split h17_11 (fun hq => ?_) (fun hq => ?_)
 ·
  have c17 := Bq17.symm.trans hq
  clear hq
  have c17 := of_decide_eq_true c17
  have hk0 : k < l.length := by omega
  obtain ⟨st2, ht2, hrr2⟩ := Evt.rightR_step hk0 hrr
  have htw2 := Dc.twall_step hk0 htw
  have hover := Dc.over_st XH_11 ht2
  refine wp_skip ?_
  refine wp_seq ?_
  refine wp_block ?_
  refine wp_seq ?_
  refine Eng.regionS (Eng.still [fun u_ => u_ = Eng.elemPtr v (k * 5), fun u_ => u_ = .agg #[.int .i64 ((l.getD k default).kind), .string ((l.getD k default).anchor), .string ((l.getD k default).tag), .string ((l.getD k default).text), .bool ((l.getD k default).plain)], fun u_ => True, fun u_ => True]) (fun i => ([.plain, .plain, .alloc 30 #[.int .i64 0, .string ⟨#[]⟩, .string ⟨#[]⟩, .string ⟨#[]⟩, .bool false], .store 2 #[.int .i64 ((l.getD k default).kind), .string ((l.getD k default).anchor), .string ((l.getD k default).tag), .string ((l.getD k default).text), .bool ((l.getD k default).plain)]] : List Eng.Kind).getD i .plain) 4 0 39 s11 rfl (by kernel_rfl) (Eng.still_stable _) (Or.inr (Eng.still_any _)) ?_ ?_
  ·refine .c ?_ (.c ?_ (.c ?_ (.c ?_ (.nil))))
   ·exact Eng.pv fun a w' H => Eng.vr (v := Eng.elemPtr v (k * 5)) rfl (Eng.run_index_sl rfl Tryd.underlying37 (by kernel_rfl) (show a.eval (.tmp 14) = v from (H.q 14 h14_11)) ((show a.eval (.tmp 16) = .int .i64 (k : Nat) from (H.q 16 h16_11)).trans (congrArg (Value.int _) (show (k : Nat) = ((k : Nat) : Int) from by omega))) (Eng.Reads.below Fl_11 H.below) (by omega) rfl)
   ·exact Eng.pv fun a w' H => Eng.vr (v := .agg #[.int .i64 ((l.getD k default).kind), .string ((l.getD k default).anchor), .string ((l.getD k default).tag), .string ((l.getD k default).text), .bool ((l.getD k default).plain)]) rfl (Eng.run_load_els [.int .i64 ((l.getD k default).kind), .string ((l.getD k default).anchor), .string ((l.getD k default).tag), .string ((l.getD k default).text), .bool ((l.getD k default).plain)] rfl (show a.eval (.tmp 18) = Eng.elemPtr v (k * 5) from (H.d 0 18)) (Eng.Reads.below Fl_11 H.below) (Evt.cells_at l k (by omega)) rfl Tryd.underlying30 rfl (by kernel_rfl))
   ·refine Eng.made rfl (by simp) rfl (fun a w' hd ho => ?_) (fun _ _ => trivial)
    simp only [execOp]
    go_simp
   refine Eng.stored [.int .i64 ((l.getD k default).kind), .string ((l.getD k default).anchor), .string ((l.getD k default).tag), .string ((l.getD k default).text), .bool ((l.getD k default).plain)] rfl rfl rfl (j := 2) (d := 6) (by kernel_rfl) rfl rfl (Eng.store_uniq (by kernel_rfl)) rfl rfl fun a w' g e hc hd ho => ?_
   have e0 : a.eval _ = .agg #[.int .i64 ((l.getD k default).kind), .string ((l.getD k default).anchor), .string ((l.getD k default).tag), .string ((l.getD k default).text), .bool ((l.getD k default).plain)] := (hd 1 19 (by kernel_rfl) rfl)
   have z0 := (Eng.cells hc 0).trans rfl
   have z1 := (Eng.cells hc 1).trans rfl
   have z2 := (Eng.cells hc 2).trans rfl
   have z3 := (Eng.cells hc 3).trans rfl
   have z4 := (Eng.cells hc 4).trans rfl
   have f0 := Eng.unfrozen hc 0
   have f1 := Eng.unfrozen hc 1
   have f2 := Eng.unfrozen hc 2
   have f3 := Eng.unfrozen hc 3
   have f4 := Eng.unfrozen hc 4
   simp only [execOp, e, e0]
   go_simp
   rfl
  intro act13 w13 T
  have ⟨h0_13, h2_13, h4_13, h11_13, h14_13, h15_13, h16_13⟩ := T.r7 h0_11 h2_11 h4_11 h11_11 h14_11 h15_11 h16_11
  have kg13_7_13 := T.x lg13_7_11 kg13_7_11
  have Oout_13 := T.g Oout_11
  obtain ⟨g6_13, h6_13, rg6_13, lg6_13_13, kg6_13_13⟩ := T.st 2 6 3 _ _ _ rfl rfl rfl rfl rfl
  have d13 := T.e d11
  have s13 := T.z s11
  have bl13 := T.b bl11
  have XH_13 := Dc.HS.below XH_11 T.below
  clear T
  refine Eng.tail_nil ?_
  refine wp_seq ?_
  refine (wpIn_wide (n := 1)).1 ?_
  refine EngI.regionT (n := 8) rfl ?_
  refine EngI.tv rfl (Eng.run_move rfl h4_13) s13 fun act14 d14 s14 h21_14 hr => ?_
  have ⟨h0_14, h2_14, h4_14, h6_14, h11_14, h14_14, h15_14, h16_14⟩ := Eng.k8 hr h0_13 h2_13 h4_13 h6_13 h11_13 h14_13 h15_13 h16_13
  have d14 := d14.trans d13
  clear hr
  refine EngI.tv rfl (Eng.run_load_all rfl h6_14 kg6_13_13 Tryd.underlying30 rfl (by kernel_rfl)) s14 fun act15 d15 s15 h22_15 hr => ?_
  have ⟨h0_15, h2_15, h4_15, h11_15, h14_15, h15_15, h16_15, h21_15⟩ := Eng.k8 hr h0_14 h2_14 h4_14 h11_14 h14_14 h15_14 h16_14 h21_14
  have d15 := d15.trans d14
  clear hr
  refine EngI.tail_call EngI.free_wide Tryd.func30 (by kernel_rfl) (by kernel_rfl) rfl rfl rfl rfl #[.pointer (some ⟨g13_7, 0, none⟩), .agg #[.int .i64 ((l.getD k default).kind), .string ((l.getD k default).anchor), .string ((l.getD k default).tag), .string ((l.getD k default).text), .bool ((l.getD k default).plain)]] (by have e0 : act15.eval (.tmp 21) = .pointer (some ⟨g13_7, 0, none⟩) := h21_15; have e1 : act15.eval (.tmp 22) = .agg #[.int .i64 ((l.getD k default).kind), .string ((l.getD k default).anchor), .string ((l.getD k default).tag), .string ((l.getD k default).text), .bool ((l.getD k default).plain)] := h22_15; simp only [List.map_toArray, List.map_cons, List.map_nil, e0, e1]) s15 rfl (R := fun v w' => v = .tuple #[.bool (Dc.stepF d (l.getD k default)).2.1, .int .i64 (Dc.stepF d (l.getD k default)).2.2] ∧ Below w.heap.size w w' ∧ Dc.Keep w13 w' g13_7 ∧ ∃ gv' ov' mv', w'.heap[g13_7]? = some (.cells #[gv', ov', mv'] 64 (0, 0)) ∧ ((Dc.stepF d (l.getD k default)).2.2 = 0 → Dc.HS w w' g13_7 gv' ov' mv' st2 (Dc.stepF d (l.getD k default)).1 fin (k + 1) true)) ((Dc.take_all g13_7 gv ov mv (l.getD k default) st st2 d fin k live w _ bl13 og13_7 kg13_7_13 XH_13 ht2 (hsz k hk0) (hasz k hk0) (by omega) htw2.1).mono ?_) fun v_16 w16 act16 R d16 s16 h23_16 hr => ?_
  ·rintro e w1 ⟨rfl, r1⟩; exact ⟨_, rfl, rfl, r1⟩
  have ⟨h0_16, h2_16, h4_16, h11_16, h14_16, h15_16, h16_16⟩ := Eng.k7 hr h0_15 h2_15 h4_15 h11_15 h14_15 h15_15 h16_15
  have d16 := d16.trans d15
  clear hr
  obtain ⟨ev_16, bl16, kp_16, gv16, ov16, mv16, kb16, hP16⟩ := R
  obtain ⟨er16, her16⟩ : ∃ e, e = (Dc.stepF d (l.getD k default)).2.2 := ⟨_, rfl⟩
  obtain ⟨vr16, hvr16⟩ : ∃ e, e = (Dc.stepF d (l.getD k default)).2.1 := ⟨_, rfl⟩
  rw [ev_16, ← her16, ← hvr16] at h23_16
  rw [← her16] at hP16
  have Oout_16 := Dc.own_keep Oout_13 kp_16 kg13_7_13
  have lb16 := (Array.getElem?_eq_some_iff.1 kb16).1
  refine EngI.tv rfl (Eng.run_move rfl h23_16) s16 fun act17 d17 s17 h20_17 hr => ?_
  have ⟨h0_17, h2_17, h4_17, h11_17, h14_17, h15_17, h16_17⟩ := Eng.k7 hr h0_16 h2_16 h4_16 h11_16 h14_16 h15_16 h16_16
  have d17 := d17.trans d16
  clear hr
  refine EngI.tv (w1 := w16) (v := .bool vr16) rfl ?_ s17 ?_
  ·have e0 : act17.eval (.tmp 20) = .tuple #[.bool vr16, .int .i64 er16] := h20_17
   simp only [execOp, resolve, e0]
   go_simp
  intro act18 d18 s18 h24_18 hr
  have ⟨h0_18, h2_18, h4_18, h11_18, h14_18, h15_18, h16_18, h20_18⟩ := Eng.k8 hr h0_17 h2_17 h4_17 h11_17 h14_17 h15_17 h16_17 h20_17
  have d18 := d18.trans d17
  clear hr
  refine EngI.tv (w1 := w16) (v := .int .i64 er16) rfl ?_ s18 ?_
  ·have e0 : act18.eval (.tmp 20) = .tuple #[.bool vr16, .int .i64 er16] := h20_18
   simp only [execOp, resolve, e0]
   go_simp
  intro act19 d19 s19 h25_19 hr
  have ⟨h0_19, h2_19, h4_19, h11_19, h14_19, h15_19, h16_19, h24_19⟩ := Eng.k8 hr h0_18 h2_18 h4_18 h11_18 h14_18 h15_18 h16_18 h24_18
  have d19 := d19.trans d18
  clear hr
  refine EngI.tv rfl (Eng.run_assign rfl h24_19) s19 fun act20 d20 s20 h7_20 hr => ?_
  have ⟨h0_20, h2_20, h4_20, h11_20, h14_20, h15_20, h16_20, h25_20⟩ := Eng.k8 hr h0_19 h2_19 h4_19 h11_19 h14_19 h15_19 h16_19 h25_19
  have d20 := d20.trans d19
  clear hr
  refine EngI.tv rfl (Eng.run_assign rfl h25_20) s20 fun act21 d21 s21 h8_21 hr => ?_
  have ⟨h0_21, h2_21, h4_21, h7_21, h11_21, h14_21, h15_21, h16_21⟩ := Eng.k8 hr h0_20 h2_20 h4_20 h7_20 h11_20 h14_20 h15_20 h16_20
  have d21 := d21.trans d20
  clear hr
  refine EngI.tail_nil ?_
  refine wp_seq ?_
  refine wp_seq ?_
  obtain ⟨q27, Bq27⟩ : ∃ b : Bool, b = (!(er16 == 0)) := ⟨_, rfl⟩
  refine Eng.rS [.int .i64 er16, .bool q27] (fun _ => .plain) 2 0 s21 ?_ ?_
  ·refine .c ?_ (.c ?_ (.nil))
   ·exact Eng.pv fun a w' H => Eng.vr rfl (Eng.run_move rfl (H.q 8 h8_21))
   refine Eng.pv fun a w' H => ?_
   refine Eng.vr (v := .bool (!(er16 == 0))) (by show _ = Value.bool q27; rw [Bq27]) ?_
   have e0 : a.eval (.tmp 26) = .int .i64 er16 := (H.d 0 26)
   have e1 : a.eval (.const (.int .i64 0)) = .int .i64 0 := rfl
   simp only [execOp, resolve, e0, e1]
   go_simp
   all_goals first | rfl | (simp; done) | (rw [Bool.eq_iff_iff]; simp; done) | omega | (split <;> first | (simp_all; done) | (split <;> simp_all; done)) | skip
  intro act22 w22 T
  have ⟨h0_22, h2_22, h4_22, h7_22, h8_22, h11_22, h14_22, h15_22, h16_22⟩ := T.r9 h0_21 h2_21 h4_21 h7_21 h8_21 h11_21 h14_21 h15_21 h16_21
  have kg13_7_22 := T.x lb16 kb16
  have lg13_7_22 := T.l lb16
  have Oout_22 := T.g Oout_16
  have h27_22 : act22.eval (.tmp 27) = .bool q27 := T.done 1 27 rfl rfl
  have d22 := T.e d21
  have s22 := T.z s21
  have bl22 := T.b bl16
  have XP_22 := Dc.pend_below hP16 T.below
  clear T
  refine Eng.tail_nil ?_
  refine wp_cond_split h27_22 (fun hq => ?_) (fun hq => ?_)
  ·
   have c27 := Bq27.symm.trans hq
   clear hq
   have he0 : ¬ er16 = 0 := by simpa using c27
   refine wp_seq ?_
   refine Eng.rS [.int .i64 er16, .slice none 0 0, .int .i64 er16] (fun _ => .plain) 3 0 s22 ?_ ?_
   ·refine .c ?_ (.c ?_ (.c ?_ (.nil)))
    ·exact Eng.pv fun a w' H => Eng.vr rfl (Eng.run_move rfl (H.q 8 h8_22))
    ·exact Eng.pv fun a w' H => Eng.vr rfl (Eng.run_assign rfl (rfl : a.eval (.const (.slice none 0 0)) = .slice none 0 0))
    exact Eng.pv fun a w' H => Eng.vr rfl (Eng.run_assign rfl (H.d 0 28))
   intro act24 w24 T
   have h2_24 : act24.eval (.tmp 2) = .slice none 0 0 := T.done 1 2 rfl rfl
   have h3_24 : act24.eval (.tmp 3) = .int .i64 er16 := T.done 2 3 rfl rfl
   have d24 := T.e d22
   have bl24 := T.b bl22
   clear T
   refine Eng.tail_nil ?_
   refine wp_ret ?_
   repeat (first | refine Eng.in_ret ?_ | refine Eng.then_ret ?_)
   have hG := (Dc.graphsF_is hnr).trans hrun
   rw [Dc.runF_err hk0 (her16 ▸ he0)] at hG
   exact Eng.ret2 rfl d24 h2_24 h3_24 ⟨_, [], by rw [hG, her16], by rw [hG]; rfl, Dc.fin_nil, fun f hf => absurd hf List.not_mem_nil, bl24⟩
  have c27 := Bq27.symm.trans hq
  clear hq
  have he0 : er16 = 0 := by simpa using c27
  have H26 := XP_22 he0
  refine wp_skip ?_
  refine wp_seq ?_
  refine Eng.rS [.bool vr16] (fun _ => .plain) 1 0 s22 ?_ ?_
  ·refine .c ?_ (.nil)
   ·exact Eng.pv fun a w' H => Eng.vr rfl (Eng.run_move rfl (H.q 7 h7_22))
  intro act27 w27 T
  have ⟨h0_27, h2_27, h4_27, h11_27, h14_27, h15_27, h16_27⟩ := T.r7 h0_22 h2_22 h4_22 h11_22 h14_22 h15_22 h16_22
  have kg13_7_27 := T.x lg13_7_22 kg13_7_22
  have lg13_7_27 := T.l lg13_7_22
  have Oout_27 := T.g Oout_22
  have h29_27 : act27.eval (.tmp 29) = .bool vr16 := T.done 0 29 rfl rfl
  have d27 := T.e d22
  have s27 := T.z s22
  have bl27 := T.b bl22
  have XH_27 := Dc.HS.below H26 T.below
  clear T
  refine Eng.tail_nil ?_
  refine wp_cond_split h29_27 (fun hq => ?_) (fun hq => ?_)
  ·
   have c29 := hq
   clear hq
   have hov : (Dc.stepF d (l.getD k default)).2.1 = true := by rw [← hvr16]; exact c29
   have hst2 := hover hov
   subst hst2
   obtain ⟨h_, mb_, _, _, hR_, _⟩ := XH_27.doc rfl
   have Og29 := hR_.gr
   have Fg29 := Eng.Reads.of_own Og29
   have H29 := Dc.HS.over XH_27
   refine Eng.regionT (n := 8) rfl ?_
   refine Eng.tail_val rfl rfl rfl (Eng.run_move rfl h2_27) s27 rfl fun act30 d30 s30 h30_30 hr => ?_
   have ⟨h0_30, h4_30, h11_30, h14_30, h15_30, h16_30⟩ := Eng.k6 hr h0_27 h4_27 h11_27 h14_27 h15_27 h16_27
   have d30 := d30.trans d27
   clear hr
   refine Eng.tail_val rfl rfl rfl (Eng.run_move rfl h4_30) s30 rfl fun act31 d31 s31 h31_31 hr => ?_
   have ⟨h0_31, h4_31, h11_31, h14_31, h15_31, h16_31, h30_31⟩ := Eng.k7 hr h0_30 h4_30 h11_30 h14_30 h15_30 h16_30 h30_30
   have d31 := d31.trans d30
   clear hr
   refine Eng.tail_val (w1 := w27) (v := .pointer (some ⟨g13_7, 0, none⟩)) rfl rfl rfl ?_ s31 rfl ?_
   ·exact Eng.run_nilb rfl h31_31
   intro act32 d32 s32 h32_32 hr
   have ⟨h0_32, h4_32, h11_32, h14_32, h15_32, h16_32, h30_32⟩ := Eng.k7 hr h0_31 h4_31 h11_31 h14_31 h15_31 h16_31 h30_31
   have d32 := d32.trans d31
   clear hr
   refine Eng.tail_val (w1 := w27) (v := .pointer (some ⟨g13_7, 0, none⟩)) rfl rfl rfl ?_ s32 rfl ?_
   ·exact Eng.run_fieldb rfl Tryd.underlying64 0 (by kernel_rfl) h32_32
   intro act33 d33 s33 h33_33 hr
   have ⟨h0_33, h4_33, h11_33, h14_33, h15_33, h16_33, h30_33⟩ := Eng.k7 hr h0_32 h4_32 h11_32 h14_32 h15_32 h16_32 h30_32
   have d33 := d33.trans d32
   clear hr
   refine Eng.tail_val (w1 := w27) (v := gv16) rfl rfl rfl ?_ s33 rfl ?_
   ·exact Eng.run_loadb rfl h33_33 (((Below.refl _ _).block _ lg13_7_27).trans kg13_7_27) rfl (by kernel_rfl)
   intro act34 d34 s34 h34_34 hr
   have ⟨h0_34, h4_34, h11_34, h14_34, h15_34, h16_34, h30_34⟩ := Eng.k7 hr h0_33 h4_33 h11_33 h14_33 h15_33 h16_33 h30_33
   have d34 := d34.trans d33
   clear hr
   refine Eng.tail_ex rfl rfl rfl (Eng.run_buildN1 (z := .slice none 0 0) [gv16] rfl Tryd.underlying34 (by kernel_rfl) rfl rfl rfl rfl (by intro v hv; have h := List.mem_singleton.1 hv; rw [h]; exact (Eng.Reads.cells1 Fg29)) (by have e0 : act34.eval (.tmp 34) = gv16 := h34_34; simp [e0])) s34 rfl fun v_35 w35 act35 R d35 s35 h35_35 hr => ?_
   obtain ⟨F_35, b_35⟩ := R
   have ⟨h0_35, h4_35, h11_35, h14_35, h15_35, h16_35, h30_35⟩ := Eng.k7 hr h0_34 h4_34 h11_34 h14_34 h15_34 h16_34 h30_34
   have d35 := d35.trans d34
   clear hr
   have kg13_7_35 := (b_35.block _ lg13_7_27).trans kg13_7_27
   have lg13_7_35 := Nat.lt_of_lt_of_le lg13_7_27 b_35.size
   have Oout_35 := Eng.own_below Oout_27 b_35
   have Fgrw_35 := Eng.Reads.below Fg29 b_35
   have XH_35 := Dc.HS.below H29 b_35
   have bl35 := bl27.trans (b_35.mono bl27.size)
   refine Eng.tail_ex rfl rfl rfl (Eng.run_appendI (z := .slice none 0 0) rfl Tryd.underlying34 (by kernel_rfl) rfl rfl h30_35 Oout_35 h35_35 F_35 (by intro u hu; simp at hu; subst hu; obtain ⟨A_, c_, e_⟩ := Eng.Reads.shape Fgrw_35; rw [e_]; rfl) (by omega) bl35.size) s35 rfl fun v_36 w36 act36 R d36 s36 h36_36 hr => ?_
   obtain ⟨O_36, _, b_36, G_36, EO_36⟩ := R
   have ⟨h0_36, h4_36, h11_36, h14_36, h15_36, h16_36⟩ := Eng.k6 hr h0_35 h4_35 h11_35 h14_35 h15_35 h16_35
   have d36 := d36.trans d35
   clear hr
   have kg13_7_36 := (G_36.block _ lg13_7_35 (Eng.own_ne Oout_35 kg13_7_35 rfl)).trans kg13_7_35
   have lg13_7_36 := Nat.lt_of_lt_of_le lg13_7_35 G_36.size
   have XH_36 := Dc.HS.grown XH_35 Oout_35 G_36
   have bl36 := bl35.trans b_36
   have Oa36 : w36.ownsRow w.heap.size 48 1 v_36 (fin ++ [((Dc.stepF d (l.getD k default)).1.nodes, gv16)]).length (List.map (·.2) (fin ++ [((Dc.stepF d (l.getD k default)).1.nodes, gv16)])) := Dc.fin_snoc O_36
   have Fa36 := Eng.Reads.of_own Oa36
   refine Eng.tail_val rfl rfl rfl (Eng.run_assign rfl h36_36) s36 rfl fun act37 d37 s37 h2_37 hr => ?_
   have ⟨h0_37, h4_37, h11_37, h14_37, h15_37, h16_37⟩ := Eng.k6 hr h0_36 h4_36 h11_36 h14_36 h15_36 h16_36
   have d37 := d37.trans d36
   clear hr
   refine Eng.tail_nil ?_
   refine Eng.rS [.int .i64 (IntKind.i64.wrap ((k : Nat) + 1)), .int .i64 (IntKind.i64.wrap ((k : Nat) + 1))] (fun _ => .plain) 2 0 s37 ?_ ?_
   ·refine .c ?_ (.c ?_ (.nil))
    ·refine Eng.pv fun a w' H => ?_
     refine Eng.vr (v := .int .i64 (IntKind.i64.wrap ((k : Nat) + 1))) rfl ?_
     have e0 := (H.q 16 h16_37)
     have e1 : a.eval (.const (.int .i64 1)) = .int .i64 1 := rfl
     simp only [execOp, resolve, e0, e1]
     go_simp
    exact Eng.pv fun a w' H => Eng.vr rfl (Eng.run_move rfl (H.d 0 37))
   intro act38 w38 T
   have ⟨h0_38, h2_38, h4_38, h11_38, h14_38, h15_38⟩ := T.r6 h0_37 h2_37 h4_37 h11_37 h14_37 h15_37
   have kg13_7_38 := T.x lg13_7_36 kg13_7_36
   have lg13_7_38 := T.l lg13_7_36
   have Oa36_38 := T.g Oa36
   have h16_38 : act38.eval (.tmp 16) = .int .i64 (IntKind.i64.wrap ((k : Nat) + 1)) := T.done 1 16 rfl rfl
   have d38 := T.e d37
   have s38 := T.z s37
   have bl38 := T.b bl36
   have XH_38 := Dc.HS.below XH_36 T.below
   clear T
   refine Eng.tail_nil ?_
   exact ⟨_, by omega, k + 1, gv16, ov16, mv16, v_36, [], (Dc.stepF d (l.getD k default)).1, (fin ++ [((Dc.stepF d (l.getD k default)).1.nodes, gv16)]), false, rfl, by omega, hrr2, (by rw [hrun, Dc.runF_step hk0 (her16 ▸ he0), if_pos hov]; simp), XH_38, Oa36_38, htw2.2, (by simp; omega), d38, s38, bl38, h0_38, (h2_38.trans (by first | rfl | (congr 1; rw [Eng.i64_id (by omega) (by omega)]; omega) | (simp; done))), h4_38, h11_38, h14_38, h15_38, (h16_38.trans (by first | rfl | (congr 1; rw [Eng.i64_id (by omega) (by omega)]; omega) | (simp; done))), (kg13_7_38.trans (by first | rfl | (simp; done))), lg13_7_38⟩
  have c29 := hq
  clear hq
  have hov : ¬ (Dc.stepF d (l.getD k default)).2.1 = true := by rw [← hvr16]; simpa using c29
  refine wp_skip ?_
  refine Eng.rS [.int .i64 (IntKind.i64.wrap ((k : Nat) + 1)), .int .i64 (IntKind.i64.wrap ((k : Nat) + 1))] (fun _ => .plain) 2 0 s27 ?_ ?_
  ·refine .c ?_ (.c ?_ (.nil))
   ·refine Eng.pv fun a w' H => ?_
    refine Eng.vr (v := .int .i64 (IntKind.i64.wrap ((k : Nat) + 1))) rfl ?_
    have e0 := (H.q 16 h16_27)
    have e1 : a.eval (.const (.int .i64 1)) = .int .i64 1 := rfl
    simp only [execOp, resolve, e0, e1]
    go_simp
   exact Eng.pv fun a w' H => Eng.vr rfl (Eng.run_move rfl (H.d 0 37))
  intro act40 w40 T
  have ⟨h0_40, h2_40, h4_40, h11_40, h14_40, h15_40⟩ := T.r6 h0_27 h2_27 h4_27 h11_27 h14_27 h15_27
  have kg13_7_40 := T.x lg13_7_27 kg13_7_27
  have lg13_7_40 := T.l lg13_7_27
  have Oout_40 := T.g Oout_27
  have h16_40 : act40.eval (.tmp 16) = .int .i64 (IntKind.i64.wrap ((k : Nat) + 1)) := T.done 1 16 rfl rfl
  have d40 := T.e d27
  have s40 := T.z s27
  have bl40 := T.b bl27
  have XH_40 := Dc.HS.below XH_27 T.below
  clear T
  refine Eng.tail_nil ?_
  exact ⟨_, by omega, k + 1, gv16, ov16, mv16, outv, st2, (Dc.stepF d (l.getD k default)).1, fin, true, rfl, by omega, hrr2, (by rw [hrun, Dc.runF_step hk0 (her16 ▸ he0), if_neg hov]), XH_40, Oout_40, htw2.2, (by omega), d40, s40, bl40, h0_40, (h2_40.trans (by first | rfl | (congr 1; rw [Eng.i64_id (by omega) (by omega)]; omega) | (simp; done))), h4_40, h11_40, h14_40, h15_40, (h16_40.trans (by first | rfl | (congr 1; rw [Eng.i64_id (by omega) (by omega)]; omega) | (simp; done))), (kg13_7_40.trans (by first | rfl | (simp; done))), lg13_7_40⟩
 have c17 := Bq17.symm.trans hq
 clear hq
 have c17 := of_decide_eq_false c17
 have hke : k = l.length := by omega
 refine wp_exit ?_
 refine wp_seq ?_
 refine Eng.rS [outv, outv, .int .i64 0] (fun _ => .plain) 3 0 s11 ?_ ?_
 ·refine .c ?_ (.c ?_ (.c ?_ (.nil)))
  ·exact Eng.pv fun a w' H => Eng.vr rfl (Eng.run_move rfl (H.q 2 h2_11))
  ·exact Eng.pv fun a w' H => Eng.vr rfl (Eng.run_assign rfl (H.d 0 38))
  exact Eng.pv fun a w' H => Eng.vr rfl (Eng.run_assign rfl (rfl : a.eval (.const (.int .i64 0)) = .int .i64 0))
 intro act42 w42 T
 have Oout_42 := T.g Oout_11
 have h2_42 : act42.eval (.tmp 2) = outv := T.done 1 2 rfl rfl
 have h3_42 : act42.eval (.tmp 3) = .int .i64 0 := T.done 2 3 rfl rfl
 have d42 := T.e d11
 have bl42 := T.b bl11
 have XH_42 := Dc.HS.below XH_11 T.below
 clear T
 refine Eng.tail_nil ?_
 refine wp_ret ?_
 repeat (first | refine Eng.in_ret ?_ | refine Eng.then_ret ?_)
 have hG := (Dc.graphsF_is hnr).trans hrun
 rw [Dc.runF_end hke] at hG
 exact Eng.ret2 rfl d42 h2_42 h3_42 ⟨_, fin, by rw [hG], by rw [hG], Oout_42, XH_42.fins, bl42⟩
end Go.Proofs.YtgnmjaacnmkgnaaDoor.X
end
section
namespace Go.Proofs.YtgnmjaacnmkgnaaDoor.X
open Go.RowKit Go.Shelf Go.Proofs Go.Maps Go.WideMaps
set_option linter.unusedVariables false
set_option linter.unusedSimpArgs false
namespace Dc
theorem twiceF_plain {nodes : List Nd} (h : ∀ n ∈ nodes, n.kind ≠ 2) : twiceF nodes = false := by
  unfold twiceF
  rw [List.any_eq_false]
  intro n hn
  unfold dupNode
  have : (n.kind == 2) = false := by simpa using h n hn
  rw [this]; simp
theorem plain_at {h : List NV} (hp : ∀ n ∈ h.map (·.1), n.kind ≠ 2) {k : Nat} (hk : k < h.length) : (h.getD k default).1.kind ≠ 2 := by
  refine hp _ (List.mem_map.2 ⟨h.getD k default, ?_, rfl⟩)
  rw [List.getD_eq_getElem?_getD, List.getElem?_eq_getElem hk]; exact List.getElem_mem hk
end Dc
namespace Evt
def heavyE (x : Ev) : Bool := (decide ((x.text.size : Int) > 2000) || decide ((x.anchor.size : Int) > 2000)) || decide ((x.tag.size : Int) > 2000)
def heavyL (l : List Ev) : Bool := l.any heavyE || decide ((l.length : Int) > 150)
theorem heavy_take {l : List Ev} {k : Nat} (hk : k < l.length) (h : (l.take k).any heavyE = false) (h2 : heavyE (l.getD k default) = false) : (l.take (k + 1)).any heavyE = false := by
  rw [Rwt.take_one hk, List.any_append, h, Bool.false_or, List.any_cons, h2]; rfl
theorem heavy_at {l : List Ev} {k : Nat} (hk : k < l.length) (h2 : heavyE (l.getD k default) = true) : heavyL l = true := by
  unfold heavyL
  rw [Bool.or_eq_true]; left
  rw [List.any_eq_true]
  refine ⟨l.getD k default, ?_, h2⟩
  rw [List.getD_eq_getElem?_getD, List.getElem?_eq_getElem hk]; exact List.getElem_mem hk
end Evt
end Go.Proofs.YtgnmjaacnmkgnaaDoor.X
end
section
namespace Go.Proofs.YtgnmjaacnmkgnaaDoor.X
open Go.RowKit Go.Shelf Go.Proofs Go.Proofs.YtgnmjaacnmkgnaaDoorW.PrintWords Go.Proofs.YtgnmjaacnmkgnaaDoorW.PrintLast Go.Proofs.YtgnmjaacnmkgnaaDoorW.PrintMore
set_option linter.unusedVariables false
set_option linter.unusedSimpArgs false
attribute [local go_sem] max2_int min2_int max_two min_two
set_option maxHeartbeats 4000000 in
set_option maxRecDepth 100000 in
theorem Dc.twice_small (B mb : Nat) (gv ov : Value) (h : List Dc.NV) (opn : List Int) (names : List (List UInt8 × Int)) (w : World) (hR : Dc.Rep B w h opn names gv ov mb) (hsm : Tm.Small (h.map (·.1))) : Calls Tryd.prog 41 #[gv] w fun e w' => e = .returned (.bool (Dc.twiceF (h.map (·.1)))) ∧ Below w.heap.size w w' := by
 obtain ⟨nd, hnd⟩ : ∃ l, l = h.map (·.1) := ⟨_, rfl⟩
 rw [← hnd] at hsm ⊢
 have hln : nd.length = h.length := by rw [hnd, List.length_map]
 have hm := Eng.Reads.len_le (Eng.Reads.of_own hR.gr)
 refine Eng.enter Tryd.func41 rfl fun act0 d0 s0 v0 => ?_
 have s0 : act0.tmps.size = 67 := s0
 have h0_0 : act0.eval (.tmp 0) = gv := v0 0 (by simp)
 clear v0
 have bl0 : Below w.heap.size w w := Below.refl _ _
 refine wp_seq ?_
 refine Eng.rS [.bool false] (fun _ => .plain) 1 0 s0 ?_ ?_
 ·refine .cons (fun _ => ?_) (.nil)
  ·exact Eng.plain rfl rfl fun a w' H => Eng.vr rfl (Eng.run_assign rfl (rfl : a.eval (.const (.bool false)) = .bool false))
 intro act1 w1 T
 have h0_1 := T.r1 h0_0
 have Fgr_1 := Eng.Reads.below (Eng.Reads.of_own hR.gr) T.below
 have d1 := T.e d0
 have s1 := T.z s0
 have bl1 := T.b bl0
 clear T
 refine Eng.tail_nil ?_
 refine wp_seq ?_
 refine wp_seq ?_
 refine Eng.rS [gv, .int .i64 ((h.length : Nat) : Int), .int .i64 0] (fun _ => .plain) 3 0 s1 ?_ ?_
 ·refine .cons (fun _ => ?_) (.cons (fun _ => ?_) (.cons (fun _ => ?_) (.nil)))
  ·exact Eng.plain rfl rfl fun a w' H => Eng.vr rfl (Eng.run_move rfl ((H.kept 0 (by kernel_rfl)).trans h0_1))
  ·exact Eng.plain rfl rfl fun a w' H => Eng.vr (v := .int .i64 ((h.length : Nat) : Int)) rfl (Eng.run_len_sl rfl Tryd.underlying48 (show a.eval (.tmp 10) = gv from (H.dep 0 10 (by kernel_rfl) rfl)) (Eng.Reads.below Fgr_1 H.below))
  exact Eng.plain rfl rfl fun a w' H => Eng.vr rfl (Eng.run_move rfl (rfl : a.eval (.const (.int .i64 0)) = .int .i64 0))
 intro act2 w2 T
 have h0_2 := T.r1 h0_1
 have h10_2 : act2.eval (.tmp 10) = gv := T.done 0 10 rfl rfl
 have h11_2 : act2.eval (.tmp 11) = .int .i64 ((h.length : Nat) : Int) := T.done 1 11 rfl rfl
 have h12_2 : act2.eval (.tmp 12) = .int .i64 0 := T.done 2 12 rfl rfl
 have d2 := T.e d1
 have s2 := T.z s1
 have bl2 := T.b bl1
 clear T
 refine Eng.tail_nil ?_
 refine wp_block ?_
 refine Eng.loopN (fun n a w' => ∃ (k : Nat), h.length - k = n ∧ (k ≤ h.length) ∧ (∀ j, j < k → Dc.dupNode nd (nd.getD j default) = false) ∧ a.defers = [] ∧ a.tmps.size = 67 ∧ Below w.heap.size w w' ∧ a.eval (.tmp 0) = gv ∧ a.eval (.tmp 10) = gv ∧ a.eval (.tmp 11) = .int .i64 ((h.length : Nat) : Int) ∧ a.eval (.tmp 12) = .int .i64 (k : Nat)) (n0 := h.length - 0) ?_ ?_
 ·exact ⟨0, rfl, by omega, fun j hj => absurd hj (Nat.not_lt_zero _), d2, s2, bl2, h0_2, h10_2, h11_2, (h12_2.trans (by first | rfl | (congr 1; rw [Eng.i64_id (by omega) (by omega)]; omega) | (simp; done)))⟩
 rintro n act3 w3 ⟨k, rfl, hc0_3, hc1_3, d3, s3, bl3, h0_3, h10_3, h11_3, h12_3⟩
 have Fgr_3 := Eng.Reads.below (Eng.Reads.of_own hR.gr) bl3
 have hk1 := hc0_3
 have hnone := hc1_3
 refine wp_seq ?_
 obtain ⟨q13, Bq13⟩ : ∃ b : Bool, b = (decide ((k : Nat) < ((h.length : Nat) : Int))) := ⟨_, rfl⟩
 refine Eng.rS [.bool q13] (fun _ => .plain) 1 0 s3 ?_ ?_
 ·refine .cons (fun _ => ?_) (.nil)
  ·refine Eng.plain rfl rfl fun a w' H => ?_
   refine Eng.vr (v := .bool (decide ((k : Nat) < ((h.length : Nat) : Int)))) (by show _ = Value.bool q13; rw [Bq13]) ?_
   have e0 := ((H.kept 12 (by kernel_rfl)).trans h12_3)
   have e1 := ((H.kept 11 (by kernel_rfl)).trans h11_3)
   simp only [execOp, resolve, List.map_toArray, List.map_cons, List.map_nil, e0, e1]
   go_simp
 intro act4 w4 T
 have ⟨h0_4, h10_4, h11_4, h12_4⟩ := T.r4 h0_3 h10_3 h11_3 h12_3
 have Fgr_4 := T.f Fgr_3
 have h13_4 : act4.eval (.tmp 13) = .bool q13 := T.done 0 13 rfl rfl
 have d4 := T.e d3
 have s4 := T.z s3
 have bl4 := T.b bl3
 clear T
 refine Eng.tail_nil ?_
 refine wp_seq ?_
 refine wp_cond_split h13_4 (fun hq => ?_) (fun hq => ?_)
 ·
  have c13 := Bq13.symm.trans hq
  clear hq
  have c13 := of_decide_eq_true c13
  have hk0 : k < h.length := by omega
  have Fk0 := Eng.Reads.of_own (hR.ks k hk0)
  have hcell := Dc.cells_at h k hk0
  obtain ⟨nk, Hnk⟩ : ∃ n, n = nd.getD k default := ⟨_, rfl⟩
  have hq1 : (h.getD k default).1 = nk := by rw [Hnk, hnd, Dc.map_getD]
  obtain ⟨kv, hkv⟩ : ∃ v, v = (h.getD k default).2 := ⟨_, rfl⟩
  rw [hq1, ← hkv] at hcell Fk0
  clear hkv hq1
  have hsk := Hnk ▸ hsm.at_ (hln.symm ▸ hk0)
  have Fkj6 := Eng.Reads.below Fk0 bl4
  refine wp_skip ?_
  refine wp_seq ?_
  refine wp_block ?_
  refine wp_seq ?_
  refine Eng.regionT (n := 4) rfl ?_
  refine Eng.tail_val (w1 := w4) (v := Eng.elemPtr gv (k * 4)) rfl rfl rfl ?_ s4 rfl ?_
  ·exact Eng.run_index_sl rfl Tryd.underlying48 (by kernel_rfl) (show act4.eval (.tmp 10) = gv from h10_4) ((show act4.eval (.tmp 12) = .int .i64 (k : Nat) from h12_4).trans (congrArg (Value.int _) (show (k : Nat) = ((k : Nat) : Int) from by omega))) Fgr_4 (by omega) rfl
  intro act7 d7 s7 h14_7 hr
  have ⟨h0_7, h10_7, h11_7, h12_7, h13_7⟩ := Eng.k5 hr h0_4 h10_4 h11_4 h12_4 h13_4
  have d7 := d7.trans d4
  clear hr
  refine Eng.tail_val (w1 := w4) (v := .agg #[.int .i64 nk.kind, .string nk.tag, .string nk.text, kv]) rfl rfl rfl ?_ s7 rfl ?_
  ·exact Eng.run_load_els [.int .i64 nk.kind, .string nk.tag, .string nk.text, kv] rfl (show act7.eval (.tmp 14) = Eng.elemPtr gv (k * 4) from h14_7) Fgr_4 (hcell) rfl Tryd.underlying57 rfl (by kernel_rfl)
  intro act8 d8 s8 h15_8 hr
  have ⟨h0_8, h10_8, h11_8, h12_8, h13_8⟩ := Eng.k5 hr h0_7 h10_7 h11_7 h12_7 h13_7
  have d8 := d8.trans d7
  clear hr
  refine Eng.tail_ex rfl rfl rfl (Eng.alloc_ex (cs := #[.int .i64 0, .string ⟨#[]⟩, .string ⟨#[]⟩, .slice none 0 0]) rfl (by kernel_rfl)) s8 rfl fun v_9 w9 act9 R d9 s9 h4_9 hr => ?_
  obtain ⟨g4_9, ev_9, rg_9, lg4_9, kg4_9, b_9⟩ := R
  have ⟨h0_9, h10_9, h11_9, h12_9, h13_9, h15_9⟩ := Eng.k6 hr h0_8 h10_8 h11_8 h12_8 h13_8 h15_8
  have d9 := d9.trans d8
  clear hr
  have og4_9 : w.heap.size ≤ g4_9 := Nat.le_trans bl4.size rg_9
  have Fkj_9 := Eng.Reads.below Fkj6 b_9
  have bl9 := bl4.trans (b_9.mono bl4.size)
  rw [ev_9] at h4_9
  refine Eng.tail_put [.int .i64 nk.kind, .string nk.tag, .string nk.text, kv] (n := 0) (new := #[.int .i64 nk.kind, .string nk.tag, .string nk.text, kv]) rfl rfl rfl kg4_9 rfl ?_ fun w10 S => ?_
  ·have e0 : act9.eval (.tmp 4) = .pointer (some ⟨g4_9, 0, none⟩) := h4_9
   have e1 : act9.eval (.tmp 15) = .agg #[.int .i64 nk.kind, .string nk.tag, .string nk.text, kv] := h15_9
   obtain ⟨A3_, c3_, ev3_⟩ := Eng.Reads.shape Fkj_9
   subst ev3_
   have z0 := (Eng.cells kg4_9 (0)).trans (rfl)
   have f0 := Eng.unfrozen kg4_9 (0)
   have z1 := (Eng.cells kg4_9 (1)).trans (rfl)
   have f1 := Eng.unfrozen kg4_9 (1)
   have z2 := (Eng.cells kg4_9 (2)).trans (rfl)
   have f2 := Eng.unfrozen kg4_9 (2)
   have z3 := (Eng.cells kg4_9 (3)).trans (rfl)
   have f3 := Eng.unfrozen kg4_9 (3)
   simp only [execOp]
   rw [e0, e1]
   go_simp
   try rfl
  have kg4_9_10 := S.new
  have lg4_9_10 := Nat.lt_of_lt_of_eq lg4_9 S.size.symm
  have bl10 := S.below bl9 og4_9
  have Fkj_10 := Eng.Reads.below Fk0 bl10
  clear S
  refine Eng.tail_nil ?_
  refine wp_seq ?_
  refine wp_seq ?_
  obtain ⟨q18, Bq18⟩ : ∃ b : Bool, b = (!(nk.kind == 2)) := ⟨_, rfl⟩
  refine Eng.rS [.pointer (some ⟨g4_9, 0, none⟩), .int .i64 nk.kind, .bool q18] (fun _ => .plain) 3 0 s9 ?_ ?_
  ·refine .cons (fun _ => ?_) (.cons (fun _ => ?_) (.cons (fun _ => ?_) (.nil)))
   ·exact Eng.plain rfl rfl fun a w' H => Eng.vr rfl (Eng.run_fieldb rfl Tryd.underlying57 0 (by kernel_rfl) ((H.kept 4 (by kernel_rfl)).trans h4_9))
   ·exact Eng.plain rfl rfl fun a w' H => Eng.vr rfl (Eng.run_loadb rfl (H.dep 0 16 (by kernel_rfl) rfl) ((H.below.block _ lg4_9_10).trans kg4_9_10) rfl (by kernel_rfl))
   refine Eng.plain rfl rfl fun a w' H => ?_
   refine Eng.vr (v := .bool (!(nk.kind == 2))) (by show _ = Value.bool q18; rw [Bq18]) ?_
   have e0 : a.eval (.tmp 17) = .int .i64 nk.kind := (H.dep 1 17 (by kernel_rfl) rfl)
   have e1 : a.eval (.const (.int .i64 2)) = .int .i64 2 := (rfl : a.eval (.const (.int .i64 2)) = .int .i64 2)
   simp only [execOp, resolve, List.map_toArray, List.map_cons, List.map_nil, e0, e1]
   go_simp
   all_goals first | rfl | (simp; done) | (rw [Bool.eq_iff_iff]; simp; done) | omega | (split <;> first | (simp_all; done) | (split <;> simp_all; done)) | skip
  intro act11 w11 T
  have ⟨h0_11, h4_11, h10_11, h11_11, h12_11, h13_11⟩ := T.r6 h0_9 h4_9 h10_9 h11_9 h12_9 h13_9
  have kg4_9_11 := T.x lg4_9_10 kg4_9_10
  have lg4_9_11 := T.l lg4_9_10
  have Fkj_11 := T.f Fkj_10
  have h18_11 : act11.eval (.tmp 18) = .bool q18 := T.done 2 18 rfl rfl
  have d11 := T.e d9
  have s11 := T.z s9
  have bl11 := T.b bl10
  clear T
  refine Eng.tail_nil ?_
  refine wp_cond_split h18_11 (fun hq => ?_) (fun hq => ?_)
  ·
   have c18 := Bq18.symm.trans hq
   clear hq
   have hdup : Dc.dupNode nd (nd.getD k default) = false := Hnk ▸ Tm.dup_kind (by simpa using c18)
   refine wp_exit ?_
   refine Eng.rS [.int .i64 (IntKind.i64.wrap ((k : Nat) + 1)), .int .i64 (IntKind.i64.wrap ((k : Nat) + 1))] (fun _ => .plain) 2 0 s11 ?_ ?_
   ·refine .cons (fun _ => ?_) (.cons (fun _ => ?_) (.nil))
    ·refine Eng.plain rfl rfl fun a w' H => ?_
     refine Eng.vr (v := .int .i64 (IntKind.i64.wrap ((k : Nat) + 1))) rfl ?_
     have e0 := ((H.kept 12 (by kernel_rfl)).trans h12_11)
     have e1 : a.eval (.const (.int .i64 1)) = .int .i64 1 := (rfl : a.eval (.const (.int .i64 1)) = .int .i64 1)
     simp only [execOp, resolve, List.map_toArray, List.map_cons, List.map_nil, e0, e1]
     go_simp
    exact Eng.plain rfl rfl fun a w' H => Eng.vr rfl (Eng.run_move rfl (H.dep 0 66 (by kernel_rfl) rfl))
   intro act13 w13 T
   have ⟨h0_13, h10_13, h11_13⟩ := T.r3 h0_11 h10_11 h11_11
   have h12_13 : act13.eval (.tmp 12) = .int .i64 (IntKind.i64.wrap ((k : Nat) + 1)) := T.done 1 12 rfl rfl
   have d13 := T.e d11
   have s13 := T.z s11
   have bl13 := T.b bl11
   clear T
   refine Eng.tail_nil ?_
   exact ⟨_, by omega, k + 1, rfl, by omega, Tm.none_step hnone hdup, d13, s13, bl13, h0_13, h10_13, h11_13, (h12_13.trans (by first | rfl | (congr 1; rw [Eng.i64_id (by omega) (by omega)]; omega) | (simp; done)))⟩
  have c18 := Bq18.symm.trans hq
  clear hq
  have hk2 : nk.kind = 2 := by simpa using c18
  obtain ⟨ks, hks⟩ : ∃ l, l = Dc.keysL nk.kids := ⟨_, rfl⟩
  have hksl : ks.length ≤ 1000000 := by rw [hks]; exact Nat.le_trans (Tm.keys_len _) hsk.1
  refine wp_skip ?_
  refine wp_seq ?_
  refine Eng.regionT (n := 4) rfl ?_
  refine Eng.tail_ex rfl rfl rfl (Tm.made_run w.heap.size bl11.size 3 rfl Tryd.underlying102) s11 rfl fun v_15 w15 act15 R d15 s15 h19_15 hr => ?_
  obtain ⟨mb1, ev_15, rg_15, XM_15, b_15⟩ := R
  have ⟨h0_15, h4_15, h10_15, h11_15, h12_15, h13_15, h18_15⟩ := Eng.k7 hr h0_11 h4_11 h10_11 h11_11 h12_11 h13_11 h18_11
  have d15 := d15.trans d11
  clear hr
  have kg4_9_15 := (b_15.block _ lg4_9_11).trans kg4_9_11
  have lg4_9_15 := Nat.lt_of_lt_of_le lg4_9_11 b_15.size
  have Fkj_15 := Eng.Reads.below Fkj_11 b_15
  have bl15 := bl11.trans (b_15.mono bl11.size)
  rw [ev_15] at h19_15
  refine Eng.tail_ex rfl rfl rfl (Tm.made_run w.heap.size bl15.size 105 rfl Tryd.underlying103) s15 rfl fun v_16 w16 act16 R d16 s16 h20_16 hr => ?_
  obtain ⟨mb2, ev_16, rg_16, XM_16, b_16⟩ := R
  have ⟨h0_16, h4_16, h10_16, h11_16, h12_16, h13_16, h18_16, h19_16⟩ := Eng.k8 hr h0_15 h4_15 h10_15 h11_15 h12_15 h13_15 h18_15 h19_15
  have d16 := d16.trans d15
  clear hr
  have hne : mb1 ≠ mb2 := Nat.ne_of_lt (Nat.lt_of_lt_of_le (Tm.Cn.lt XM_15) rg_16)
  have kg4_9_16 := (b_16.block _ lg4_9_15).trans kg4_9_15
  have lg4_9_16 := Nat.lt_of_lt_of_le lg4_9_15 b_16.size
  have Fkj_16 := Eng.Reads.below Fkj_15 b_16
  have XM1_16 := Tm.Cn.below XM_15 b_16
  have bl16 := bl15.trans (b_16.mono bl15.size)
  rw [ev_16] at h20_16
  refine Eng.tail_val rfl rfl rfl (Eng.run_assign rfl h19_16) s16 rfl fun act17 d17 s17 h5_17 hr => ?_
  have ⟨h0_17, h4_17, h10_17, h11_17, h12_17, h13_17, h18_17, h20_17⟩ := Eng.k8 hr h0_16 h4_16 h10_16 h11_16 h12_16 h13_16 h18_16 h20_16
  have d17 := d17.trans d16
  clear hr
  refine Eng.tail_val rfl rfl rfl (Eng.run_assign rfl h20_17) s17 rfl fun act18 d18 s18 h6_18 hr => ?_
  have ⟨h0_18, h4_18, h5_18, h10_18, h11_18, h12_18, h13_18, h18_18⟩ := Eng.k8 hr h0_17 h4_17 h5_17 h10_17 h11_17 h12_17 h13_17 h18_17
  have d18 := d18.trans d17
  clear hr
  refine Eng.tail_nil ?_
  refine wp_seq ?_
  refine (wpIn_wide (n := 1)).1 ?_
  refine EngI.regionT (n := 4) rfl ?_
  refine EngI.tv rfl (Eng.run_load_all rfl h4_18 kg4_9_16 Tryd.underlying57 rfl (by kernel_rfl)) s18 fun act19 d19 s19 h21_19 hr => ?_
  have ⟨h0_19, h4_19, h5_19, h6_19, h10_19, h11_19, h12_19, h13_19, h18_19⟩ := Eng.k9 hr h0_18 h4_18 h5_18 h6_18 h10_18 h11_18 h12_18 h13_18 h18_18
  have d19 := d19.trans d18
  clear hr
  refine EngI.tail_call EngI.free_wide Tryd.func76 (by kernel_rfl) (by kernel_rfl) rfl rfl rfl rfl #[.agg #[.int .i64 nk.kind, .string nk.tag, .string nk.text, kv]] (by have e0 : act19.eval (.tmp 21) = .agg #[.int .i64 nk.kind, .string nk.tag, .string nk.text, kv] := h21_19; simp only [List.map_toArray, List.map_cons, List.map_nil, e0]) s19 rfl (R := fun v w' => w'.ownsRow w16.heap.size 3 1 v (Dc.keysL nk.kids).length (Dc.ints (Dc.keysL nk.kids)) ∧ Below w16.heap.size w16 w') ((Dc.keys_calls kv nk _ Fkj_16 hsk.1).mono ?_) fun v_20 w20 act20 R d20 s20 h22_20 hr => ?_
  ·rintro e w1 ⟨o, rfl, r⟩; exact ⟨_, rfl, r⟩
  have ⟨h0_20, h4_20, h5_20, h6_20, h10_20, h11_20, h12_20, h13_20, h18_20⟩ := Eng.k9 hr h0_19 h4_19 h5_19 h6_19 h10_19 h11_19 h12_19 h13_19 h18_19
  have d20 := d20.trans d19
  clear hr
  obtain ⟨Ok_20, b_20⟩ := R
  have kg4_9_20 := (b_20.block _ lg4_9_16).trans kg4_9_16
  have lg4_9_20 := Nat.lt_of_lt_of_le lg4_9_16 b_20.size
  have XM1_20 := Tm.Cn.below XM1_16 b_20
  have XM2_20 := Tm.Cn.below XM_16 b_20
  have bl20 := bl16.trans (b_20.mono bl16.size)
  rw [← hks] at Ok_20
  have Oks_20 := Eng.own_mono Ok_20 bl16.size
  have Fks_20 := Eng.Reads.of_own Oks_20
  refine EngI.tv (w1 := w20) (v := .int .i64 ((ks.length : Nat) : Int)) rfl ?_ s20 ?_
  ·exact Eng.run_len_sl rfl Tryd.underlying55 (show act20.eval (.tmp 22) = v_20 from h22_20) Fks_20
  intro act21 d21 s21 h23_21 hr
  have ⟨h0_21, h4_21, h5_21, h6_21, h10_21, h11_21, h12_21, h13_21, h18_21, h22_21⟩ := Eng.k10 hr h0_20 h4_20 h5_20 h6_20 h10_20 h11_20 h12_20 h13_20 h18_20 h22_20
  have d21 := d21.trans d20
  clear hr
  refine EngI.tv rfl (Eng.run_move rfl (rfl : act21.eval (.const (.int .i64 0)) = .int .i64 0)) s21 fun act22 d22 s22 h24_22 hr => ?_
  have ⟨h0_22, h4_22, h5_22, h6_22, h10_22, h11_22, h12_22, h13_22, h18_22, h22_22⟩ := Eng.k10 hr h0_21 h4_21 h5_21 h6_21 h10_21 h11_21 h12_21 h13_21 h18_21 h22_21
  have h23_22 := Eng.k1 hr h23_21
  have d22 := d22.trans d21
  clear hr
  refine EngI.tail_nil ?_
  refine wp_block ?_
  refine Eng.loopN (fun n a w' => ∃ (m : Nat), ks.length - m = n ∧ (m ≤ ks.length) ∧ (Tm.Ok nd ks m) ∧ (w'.ownsRow w.heap.size 3 1 v_20 ks.length (Dc.ints ks)) ∧ (Tm.Cn w' w.heap.size mb1 3 m (Tm.K1 nd ks m)) ∧ (Tm.Cn w' w.heap.size mb2 105 (2 * m) (Tm.K2 nd ks m)) ∧ a.defers = [] ∧ a.tmps.size = 67 ∧ Below w.heap.size w w' ∧ a.eval (.tmp 0) = gv ∧ a.eval (.tmp 4) = .pointer (some ⟨g4_9, 0, none⟩) ∧ a.eval (.tmp 5) = .map (some mb1) ∧ a.eval (.tmp 6) = .map (some mb2) ∧ a.eval (.tmp 10) = gv ∧ a.eval (.tmp 11) = .int .i64 ((h.length : Nat) : Int) ∧ a.eval (.tmp 12) = .int .i64 (k : Nat) ∧ a.eval (.tmp 13) = .bool q13 ∧ a.eval (.tmp 18) = .bool q18 ∧ a.eval (.tmp 22) = v_20 ∧ a.eval (.tmp 23) = .int .i64 ((ks.length : Nat) : Int) ∧ a.eval (.tmp 24) = .int .i64 (m : Nat) ∧ w'.heap[g4_9]? = some (.cells (#[.int .i64 nk.kind, .string nk.tag, .string nk.text, kv]) 57 (0, 0)) ∧ g4_9 < w'.heap.size) (n0 := ks.length - 0) ?_ ?_
  ·exact ⟨0, rfl, Nat.zero_le _, Tm.ok_zero, Oks_20, XM1_20, XM2_20, d22, s22, bl20, h0_22, h4_22, h5_22, h6_22, h10_22, h11_22, h12_22, h13_22, h18_22, h22_22, h23_22, (h24_22.trans (by first | rfl | (congr 1; rw [Eng.i64_id (by omega) (by omega)]; omega) | (simp; done))), kg4_9_20, lg4_9_20⟩
  rintro n act23 w23 ⟨m, rfl, hc0_23, hc1_23, hc2_23, hc3_23, hc4_23, d23, s23, bl23, h0_23, h4_23, h5_23, h6_23, h10_23, h11_23, h12_23, h13_23, h18_23, h22_23, h23_23, h24_23, kg4_9_23, lg4_9_23⟩
  have Fgr_23 := Eng.Reads.below (Eng.Reads.of_own hR.gr) bl23
  have hm1 := hc0_23
  have hok := hc1_23
  have Fks_23 := Eng.Reads.of_own hc2_23
  refine wp_seq ?_
  obtain ⟨q25, Bq25⟩ : ∃ b : Bool, b = (decide ((m : Nat) < ((ks.length : Nat) : Int))) := ⟨_, rfl⟩
  refine Eng.rS [.bool q25] (fun _ => .plain) 1 0 s23 ?_ ?_
  ·refine .cons (fun _ => ?_) (.nil)
   ·refine Eng.plain rfl rfl fun a w' H => ?_
    refine Eng.vr (v := .bool (decide ((m : Nat) < ((ks.length : Nat) : Int)))) (by show _ = Value.bool q25; rw [Bq25]) ?_
    have e0 := ((H.kept 24 (by kernel_rfl)).trans h24_23)
    have e1 := ((H.kept 23 (by kernel_rfl)).trans h23_23)
    simp only [execOp, resolve, List.map_toArray, List.map_cons, List.map_nil, e0, e1]
    go_simp
  intro act24 w24 T
  have ⟨h0_24, h4_24, h5_24, h6_24, h10_24, h11_24, h12_24, h13_24, h18_24, h22_24⟩ := T.r10 h0_23 h4_23 h5_23 h6_23 h10_23 h11_23 h12_23 h13_23 h18_23 h22_23
  have ⟨h23_24, h24_24⟩ := T.r2 h23_23 h24_23
  have kg4_9_24 := T.x lg4_9_23 kg4_9_23
  have lg4_9_24 := T.l lg4_9_23
  have Fgr_24 := T.f Fgr_23
  have Fks_24 := T.f Fks_23
  have Oks_24 := T.g hc2_23
  have h25_24 : act24.eval (.tmp 25) = .bool q25 := T.done 0 25 rfl rfl
  have d24 := T.e d23
  have s24 := T.z s23
  have bl24 := T.b bl23
  have XM1_24 := Tm.Cn.below hc3_23 T.below
  have XM2_24 := Tm.Cn.below hc4_23 T.below
  clear T
  refine Eng.tail_nil ?_
  refine wp_seq ?_
  refine wp_cond_split h25_24 (fun hq => ?_) (fun hq => ?_)
  ·
   have c25 := Bq25.symm.trans hq
   clear hq
   have c25 := of_decide_eq_true c25
   have hm0 : m < ks.length := by omega
   obtain ⟨key, hkey⟩ : ∃ i, i = ks.getD m 0 := ⟨_, rfl⟩
   refine wp_skip ?_
   refine wp_seq ?_
   refine wp_block ?_
   refine wp_seq ?_
   refine Eng.rS [Eng.elemPtr v_20 (m * 1), .int .i64 key, .int .i64 key] (fun _ => .plain) 3 0 s24 ?_ ?_
   ·refine .cons (fun _ => ?_) (.cons (fun _ => ?_) (.cons (fun _ => ?_) (.nil)))
    ·exact Eng.plain rfl rfl fun a w' H => Eng.vr (v := Eng.elemPtr v_20 (m * 1)) rfl (Eng.run_index_sl rfl Tryd.underlying55 (by kernel_rfl) (show a.eval (.tmp 22) = v_20 from ((H.kept 22 (by kernel_rfl)).trans h22_24)) ((show a.eval (.tmp 24) = .int .i64 (m : Nat) from ((H.kept 24 (by kernel_rfl)).trans h24_24)).trans (congrArg (Value.int _) (show (m : Nat) = ((m : Nat) : Int) from by omega))) (Eng.Reads.below Fks_24 H.below) (by omega) rfl)
    ·exact Eng.plain rfl rfl fun a w' H => Eng.vr (v := .int .i64 key) rfl (Eng.run_load_el (.int .i64 key) rfl (show a.eval (.tmp 26) = Eng.elemPtr v_20 (m * 1) from (H.dep 0 26 (by kernel_rfl) rfl)) (Eng.Reads.below Fks_24 H.below) ((by rw [hkey]; exact Dc.ints_get1 ks m (by omega))) (by kernel_rfl))
    exact Eng.plain rfl rfl fun a w' H => Eng.vr rfl (Eng.run_assign rfl (H.dep 1 27 (by kernel_rfl) rfl))
   intro act26 w26 T
   have ⟨h0_26, h4_26, h5_26, h6_26, h10_26, h11_26, h12_26, h13_26, h18_26, h22_26⟩ := T.r10 h0_24 h4_24 h5_24 h6_24 h10_24 h11_24 h12_24 h13_24 h18_24 h22_24
   have ⟨h23_26, h24_26⟩ := T.r2 h23_24 h24_24
   have kg4_9_26 := T.x lg4_9_24 kg4_9_24
   have lg4_9_26 := T.l lg4_9_24
   have Fgr_26 := T.f Fgr_24
   have Oks_26 := T.g Oks_24
   have h8_26 : act26.eval (.tmp 8) = .int .i64 key := T.done 2 8 rfl rfl
   have d26 := T.e d24
   have s26 := T.z s24
   have bl26 := T.b bl24
   have XM1_26 := Tm.Cn.below XM1_24 T.below
   have XM2_26 := Tm.Cn.below XM2_24 T.below
   clear T
   refine Eng.tail_nil ?_
   refine wp_seq ?_
   refine wp_seq ?_
   obtain ⟨q30, Bq30⟩ : ∃ b : Bool, b = (decide (key ≥ 0) && decide (key < (h.length : Int))) := ⟨_, rfl⟩
   obtain ⟨q31, Bq31⟩ : ∃ b : Bool, b = (!q30) := ⟨_, rfl⟩
   refine Eng.rS [gv, .int .i64 key, .bool q30, .bool q31] (fun _ => .plain) 4 0 s26 ?_ ?_
   ·refine .cons (fun _ => ?_) (.cons (fun _ => ?_) (.cons (fun _ => ?_) (.cons (fun _ => ?_) (.nil))))
    ·exact Eng.plain rfl rfl fun a w' H => Eng.vr rfl (Eng.run_move rfl ((H.kept 0 (by kernel_rfl)).trans h0_26))
    ·exact Eng.plain rfl rfl fun a w' H => Eng.vr rfl (Eng.run_move rfl ((H.kept 8 (by kernel_rfl)).trans h8_26))
    ·refine Eng.plain rfl rfl fun a w' H => ?_
     refine Eng.call Tryd.func73 (by kernel_rfl) (by kernel_rfl) rfl #[gv, .int .i64 key] ?_ ?_
     ·have e0 : a.eval (.tmp 28) = gv := (H.dep 0 28 (by kernel_rfl) rfl); have e1 : a.eval (.tmp 29) = .int .i64 key := (H.dep 1 29 (by kernel_rfl) rfl); simp only [List.map_toArray, List.map_cons, List.map_nil, e0, e1]
     refine (Dc.has_calls gv h.length _ key _ (Eng.Reads.below Fgr_26 H.below)).mono ?_
     rintro e w'' ⟨rfl, hb⟩
     exact ⟨_, rfl, (by show _ = Value.bool q30; rw [Bq30]), hb⟩
    exact Eng.plain rfl rfl fun a w' H => Eng.vr (v := .bool (!q30)) (by show _ = Value.bool q31; rw [Bq31]) (Eng.run_not rfl (H.dep 2 30 (by kernel_rfl) rfl))
   intro act27 w27 T
   have ⟨h0_27, h4_27, h5_27, h6_27, h8_27, h10_27, h11_27, h12_27, h13_27, h18_27⟩ := T.r10 h0_26 h4_26 h5_26 h6_26 h8_26 h10_26 h11_26 h12_26 h13_26 h18_26
   have ⟨h22_27, h23_27, h24_27⟩ := T.r3 h22_26 h23_26 h24_26
   have kg4_9_27 := T.x lg4_9_26 kg4_9_26
   have lg4_9_27 := T.l lg4_9_26
   have Oks_27 := T.g Oks_26
   have h31_27 : act27.eval (.tmp 31) = .bool q31 := T.done 3 31 rfl rfl
   have d27 := T.e d26
   have s27 := T.z s26
   have bl27 := T.b bl26
   have XM1_27 := Tm.Cn.below XM1_26 T.below
   have XM2_27 := Tm.Cn.below XM2_26 T.below
   clear T
   refine Eng.tail_nil ?_
   refine wp_cond_split h31_27 (fun hq => ?_) (fun hq => ?_)
   ·
    have c31 := Bq31.symm.trans hq
    clear hq
    have hh := c31
    simp only [Bq31, Bq30, Bq25, Bq18, Bq13] at hh
    have hhas : Dc.hasI nd key = false := by unfold Dc.hasI; rw [hln]; exact (Bool.not_eq_true' _).mp hh
    refine wp_exit ?_
    refine Eng.rS [.int .i64 (IntKind.i64.wrap ((m : Nat) + 1)), .int .i64 (IntKind.i64.wrap ((m : Nat) + 1))] (fun _ => .plain) 2 0 s27 ?_ ?_
    ·refine .cons (fun _ => ?_) (.cons (fun _ => ?_) (.nil))
     ·refine Eng.plain rfl rfl fun a w' H => ?_
      refine Eng.vr (v := .int .i64 (IntKind.i64.wrap ((m : Nat) + 1))) rfl ?_
      have e0 := ((H.kept 24 (by kernel_rfl)).trans h24_27)
      have e1 : a.eval (.const (.int .i64 1)) = .int .i64 1 := (rfl : a.eval (.const (.int .i64 1)) = .int .i64 1)
      simp only [execOp, resolve, List.map_toArray, List.map_cons, List.map_nil, e0, e1]
      go_simp
     exact Eng.plain rfl rfl fun a w' H => Eng.vr rfl (Eng.run_move rfl (H.dep 0 65 (by kernel_rfl) rfl))
    intro act29 w29 T
    have ⟨h0_29, h4_29, h5_29, h6_29, h10_29, h11_29, h12_29, h13_29, h18_29, h22_29⟩ := T.r10 h0_27 h4_27 h5_27 h6_27 h10_27 h11_27 h12_27 h13_27 h18_27 h22_27
    have h23_29 := T.r1 h23_27
    have kg4_9_29 := T.x lg4_9_27 kg4_9_27
    have lg4_9_29 := T.l lg4_9_27
    have Oks_29 := T.g Oks_27
    have h24_29 : act29.eval (.tmp 24) = .int .i64 (IntKind.i64.wrap ((m : Nat) + 1)) := T.done 1 24 rfl rfl
    have d29 := T.e d27
    have s29 := T.z s27
    have bl29 := T.b bl27
    have XM1_29 := Tm.Cn.below XM1_27 T.below
    have XM2_29 := Tm.Cn.below XM2_27 T.below
    clear T
    refine Eng.tail_nil ?_
    exact ⟨_, by omega, m + 1, rfl, by omega, Tm.ok_not hm0 hkey hhas hok, Oks_29, (Tm.Cn.mono XM1_29 (by omega)).eqL (Tm.K1_not hm0 hkey hhas), (Tm.Cn.mono XM2_29 (by omega)).eqL (Tm.K2_not hm0 hkey hhas), d29, s29, bl29, h0_29, h4_29, h5_29, h6_29, h10_29, h11_29, h12_29, h13_29, h18_29, h22_29, h23_29, (h24_29.trans (by first | rfl | (congr 1; rw [Eng.i64_id (by omega) (by omega)]; omega) | (simp; done))), kg4_9_29, lg4_9_29⟩
   have c31 := Bq31.symm.trans hq
   clear hq
   have hh := c31
   simp only [Bq31, Bq30, Bq25, Bq18, Bq13] at hh
   have hhas : Dc.hasI nd key = true := by unfold Dc.hasI; rw [hln]; simpa using hh
   have hj2 : 0 ≤ key ∧ key < (h.length : Int) := by simpa using hh
   have hj0 := hj2.1
   have hj1 : key.toNat < h.length := by omega
   have hkl1 : keyOf Tryd.prog 3 (.int .i64 key) = some (.int .i64 key) := Maps.keyOf_int_mk Tryd.underlying3 (by have h_ := Dc.wf_nat (n := key.toNat) (by omega); rw [Int.toNat_of_nonneg hj0] at h_; exact h_)
   have hL1 := Tm.K1_len (nd := nd) (ks := ks) (m := m)
   have hL2 := Tm.K2_len (nd := nd) (ks := ks) (m := m)
   have Fj0 := Eng.Reads.of_own (hR.ks key.toNat hj1)
   have hcell2 := Dc.cells_at h key.toNat hj1
   obtain ⟨nj, Hnj⟩ : ∃ n, n = nd.getD key.toNat default := ⟨_, rfl⟩
   have hq1 : (h.getD key.toNat default).1 = nj := by rw [Hnj, hnd, Dc.map_getD]
   obtain ⟨jv, hjv⟩ : ∃ v, v = (h.getD key.toNat default).2 := ⟨_, rfl⟩
   rw [hq1, ← hjv] at hcell2 Fj0
   clear hjv hq1
   have hsj := Hnj ▸ hsm.at_ (hln.symm ▸ hj1)
   have Fjj31 := Eng.Reads.below Fj0 bl27
   refine wp_skip ?_
   refine wp_seq ?_
   refine wp_seq ?_
   refine Eng.regionT (n := 5) rfl ?_
   refine Eng.tail_val rfl rfl rfl (Eng.run_move rfl h5_27) s27 rfl fun act32 d32 s32 h32_32 hr => ?_
   have ⟨h0_32, h4_32, h5_32, h6_32, h8_32, h10_32, h11_32, h12_32, h13_32, h18_32⟩ := Eng.k10 hr h0_27 h4_27 h5_27 h6_27 h8_27 h10_27 h11_27 h12_27 h13_27 h18_27
   have ⟨h22_32, h23_32, h24_32⟩ := Eng.k3 hr h22_27 h23_27 h24_27
   have d32 := d32.trans d27
   clear hr
   refine Eng.tail_val rfl rfl rfl (Eng.run_move rfl h8_32) s32 rfl fun act33 d33 s33 h33_33 hr => ?_
   have ⟨h0_33, h4_33, h5_33, h6_33, h8_33, h10_33, h11_33, h12_33, h13_33, h18_33⟩ := Eng.k10 hr h0_32 h4_32 h5_32 h6_32 h8_32 h10_32 h11_32 h12_32 h13_32 h18_32
   have ⟨h22_33, h23_33, h24_33, h32_33⟩ := Eng.k4 hr h22_32 h23_32 h24_32 h32_32
   have d33 := d33.trans d32
   clear hr
   refine Eng.tail_val rfl rfl rfl (Eng.run_look0 rfl h32_33 h33_33 (Tm.Cn.look XM1_27 Tm.key_int Tryd.underlying102 hkl1)) s33 rfl fun act34 d34 s34 h34_34 hr => ?_
   have ⟨h0_34, h4_34, h5_34, h6_34, h8_34, h10_34, h11_34, h12_34, h13_34, h18_34⟩ := Eng.k10 hr h0_33 h4_33 h5_33 h6_33 h8_33 h10_33 h11_33 h12_33 h13_33 h18_33
   have ⟨h22_34, h23_34, h24_34, h32_34, h33_34⟩ := Eng.k5 hr h22_33 h23_33 h24_33 h32_33 h33_33
   have d34 := d34.trans d33
   clear hr
   refine Eng.tail_val rfl rfl rfl (Eng.run_inc rfl h34_34 Tryd.underlying3 (Tm.cnt_bd _ _).1 (by have := (Tm.cnt_bd (.int .i64 key) (Tm.K1 nd ks m)).2; omega)) s34 rfl fun act35 d35 s35 h35_35 hr => ?_
   have ⟨h0_35, h4_35, h5_35, h6_35, h8_35, h10_35, h11_35, h12_35, h13_35, h18_35⟩ := Eng.k10 hr h0_34 h4_34 h5_34 h6_34 h8_34 h10_34 h11_34 h12_34 h13_34 h18_34
   have ⟨h22_35, h23_35, h24_35, h32_35, h33_35⟩ := Eng.k5 hr h22_34 h23_34 h24_34 h32_34 h33_34
   have d35 := d35.trans d34
   clear hr
   obtain ⟨w36, rn_36, XM_36, G_36⟩ := Tm.Cn.put XM1_27 Tm.key_int Tryd.underlying102 hkl1 (by unfold maxLen; omega) (by omega)
   refine Eng.tail_skip rfl rfl rfl (Eng.run_upd rfl h32_35 h33_35 h35_35 rn_36) ?_
   have kg4_9_36 := (G_36.block _ lg4_9_27 (fun e => Tm.Cn.ne XM1_27 kg4_9_27 (Option.some.inj e))).trans kg4_9_27
   have lg4_9_36 := Nat.lt_of_lt_of_le lg4_9_27 G_36.size
   have bl36 := bl27.grown G_36 bl27.size (fun j hj => by injection hj with hj; subst hj; exact Tm.Cn.lo XM1_27)
   have Y_36 := Tm.Cn.grown XM2_27 G_36 hne.symm
   have Fgr_36 := Eng.Reads.below (Eng.Reads.of_own hR.gr) bl36
   have Oks_36 := Tm.Cn.own_kept XM1_27 Oks_27 G_36
   have Fjj_36 := Eng.Reads.below Fj0 bl36
   refine Eng.tail_nil ?_
   refine wp_seq ?_
   refine Eng.regionT (n := 4) rfl ?_
   refine Eng.tail_val rfl rfl rfl (Eng.run_move rfl h5_35) s35 rfl fun act37 d37 s37 h36_37 hr => ?_
   have ⟨h0_37, h4_37, h5_37, h6_37, h8_37, h10_37, h11_37, h12_37, h13_37, h18_37⟩ := Eng.k10 hr h0_35 h4_35 h5_35 h6_35 h8_35 h10_35 h11_35 h12_35 h13_35 h18_35
   have ⟨h22_37, h23_37, h24_37⟩ := Eng.k3 hr h22_35 h23_35 h24_35
   have d37 := d37.trans d35
   clear hr
   refine Eng.tail_val rfl rfl rfl (Eng.run_move rfl h8_37) s37 rfl fun act38 d38 s38 h37_38 hr => ?_
   have ⟨h0_38, h4_38, h5_38, h6_38, h8_38, h10_38, h11_38, h12_38, h13_38, h18_38⟩ := Eng.k10 hr h0_37 h4_37 h5_37 h6_37 h8_37 h10_37 h11_37 h12_37 h13_37 h18_37
   have ⟨h22_38, h23_38, h24_38, h36_38⟩ := Eng.k4 hr h22_37 h23_37 h24_37 h36_37
   have d38 := d38.trans d37
   clear hr
   refine Eng.tail_val rfl rfl rfl (Eng.run_look0 rfl h36_38 h37_38 (Tm.Cn.look XM_36 Tm.key_int Tryd.underlying102 hkl1)) s38 rfl fun act39 d39 s39 h38_39 hr => ?_
   have ⟨h0_39, h4_39, h5_39, h6_39, h8_39, h10_39, h11_39, h12_39, h13_39, h18_39⟩ := Eng.k10 hr h0_38 h4_38 h5_38 h6_38 h8_38 h10_38 h11_38 h12_38 h13_38 h18_38
   have ⟨h22_39, h23_39, h24_39⟩ := Eng.k3 hr h22_38 h23_38 h24_38
   have d39 := d39.trans d38
   clear hr
   obtain ⟨q39, Bq39⟩ : ∃ b : Bool, b = (decide ((Tm.cnt (.int .i64 key :: (Tm.K1 nd ks m)) (.int .i64 key)) > 1)) := ⟨_, rfl⟩
   refine Eng.tail_val (w1 := w36) (v := .bool (decide ((Tm.cnt (.int .i64 key :: (Tm.K1 nd ks m)) (.int .i64 key)) > 1))) rfl rfl rfl ?_ s39 rfl ?_
   ·have e0 : act39.eval (.tmp 38) = .int .i64 (Tm.cnt (.int .i64 key :: (Tm.K1 nd ks m)) (.int .i64 key)) := h38_39
    have e1 : act39.eval (.const (.int .i64 1)) = .int .i64 1 := (rfl : act39.eval (.const (.int .i64 1)) = .int .i64 1)
    simp only [execOp, resolve, List.map_toArray, List.map_cons, List.map_nil, e0, e1]
    go_simp
   intro act40 d40 s40 hv hr
   have ⟨h0_40, h4_40, h5_40, h6_40, h8_40, h10_40, h11_40, h12_40, h13_40, h18_40⟩ := Eng.k10 hr h0_39 h4_39 h5_39 h6_39 h8_39 h10_39 h11_39 h12_39 h13_39 h18_39
   have ⟨h22_40, h23_40, h24_40⟩ := Eng.k3 hr h22_39 h23_39 h24_39
   have h39_40 : act40.eval (.tmp 39) = .bool q39 := hv.trans (congrArg Value.bool Bq39.symm)
   have d40 := d40.trans d39
   clear hv hr
   refine Eng.tail_nil ?_
   refine wp_cond_split h39_40 (fun hq => ?_) (fun hq => ?_)
   ·
    have c39 := Bq39.symm.trans hq
    clear hq
    have c39 := of_decide_eq_true c39
    have hlf := Tm.mem_of c39
    have htw : Dc.twiceF nd = true := Tm.twice_true (hln.symm ▸ hk0) (Hnk ▸ Tm.dup_one hk2 hks hm0 hkey hhas hlf)
    refine wp_seq ?_
    refine Eng.rS [.bool true] (fun _ => .plain) 1 0 s40 ?_ ?_
    ·refine .cons (fun _ => ?_) (.nil)
     ·exact Eng.plain rfl rfl fun a w' H => Eng.vr rfl (Eng.run_assign rfl (rfl : a.eval (.const (.bool true)) = .bool true))
    intro act42 w42 T
    have h2_42 : act42.eval (.tmp 2) = .bool true := T.done 0 2 rfl rfl
    have d42 := T.e d40
    have bl42 := T.b bl36
    clear T
    refine Eng.tail_nil ?_
    refine wp_ret ?_
    repeat (first | with_reducible refine Eng.in_ret ?_ | with_reducible refine Eng.then_ret ?_)
    exact Eng.ret1 rfl d42 h2_42 ⟨by rw [htw], bl42⟩
   have c39 := Bq39.symm.trans hq
   clear hq
   have c39 := of_decide_eq_false c39
   have hn1 := Tm.not_of c39
   refine wp_skip ?_
   refine wp_seq ?_
   refine Eng.regionT (n := 6) rfl ?_
   refine Eng.tail_val rfl rfl rfl (Eng.run_move rfl h0_40) s40 rfl fun act44 d44 s44 h40_44 hr => ?_
   have ⟨h0_44, h4_44, h5_44, h6_44, h8_44, h10_44, h11_44, h12_44, h13_44, h18_44⟩ := Eng.k10 hr h0_40 h4_40 h5_40 h6_40 h8_40 h10_40 h11_40 h12_40 h13_40 h18_40
   have ⟨h22_44, h23_44, h24_44⟩ := Eng.k3 hr h22_40 h23_40 h24_40
   have d44 := d44.trans d40
   clear hr
   refine Eng.tail_val rfl rfl rfl (Eng.run_move rfl h8_44) s44 rfl fun act45 d45 s45 h41_45 hr => ?_
   have ⟨h0_45, h4_45, h5_45, h6_45, h10_45, h11_45, h12_45, h13_45, h18_45, h22_45⟩ := Eng.k10 hr h0_44 h4_44 h5_44 h6_44 h10_44 h11_44 h12_44 h13_44 h18_44 h22_44
   have ⟨h23_45, h24_45, h40_45⟩ := Eng.k3 hr h23_44 h24_44 h40_44
   have d45 := d45.trans d44
   clear hr
   refine Eng.tail_val (w1 := w36) (v := Eng.elemPtr gv (key.toNat * 4)) rfl rfl rfl ?_ s45 rfl ?_
   ·exact Eng.run_index_sl rfl Tryd.underlying48 (by kernel_rfl) (show act45.eval (.tmp 40) = gv from h40_45) ((show act45.eval (.tmp 41) = .int .i64 key from h41_45).trans (congrArg (Value.int _) (show key = ((key.toNat : Nat) : Int) from by omega))) Fgr_36 (by omega) rfl
   intro act46 d46 s46 h42_46 hr
   have ⟨h0_46, h4_46, h5_46, h6_46, h10_46, h11_46, h12_46, h13_46, h18_46, h22_46⟩ := Eng.k10 hr h0_45 h4_45 h5_45 h6_45 h10_45 h11_45 h12_45 h13_45 h18_45 h22_45
   have ⟨h23_46, h24_46⟩ := Eng.k2 hr h23_45 h24_45
   have d46 := d46.trans d45
   clear hr
   refine Eng.tail_val (w1 := w36) (v := .agg #[.int .i64 nj.kind, .string nj.tag, .string nj.text, jv]) rfl rfl rfl ?_ s46 rfl ?_
   ·exact Eng.run_load_els [.int .i64 nj.kind, .string nj.tag, .string nj.text, jv] rfl (show act46.eval (.tmp 42) = Eng.elemPtr gv (key.toNat * 4) from h42_46) Fgr_36 (hcell2) rfl Tryd.underlying57 rfl (by kernel_rfl)
   intro act47 d47 s47 h43_47 hr
   have ⟨h0_47, h4_47, h5_47, h6_47, h10_47, h11_47, h12_47, h13_47, h18_47, h22_47⟩ := Eng.k10 hr h0_46 h4_46 h5_46 h6_46 h10_46 h11_46 h12_46 h13_46 h18_46 h22_46
   have ⟨h23_47, h24_47⟩ := Eng.k2 hr h23_46 h24_46
   have d47 := d47.trans d46
   clear hr
   refine Eng.tail_ex rfl rfl rfl (Eng.alloc_ex (cs := #[.int .i64 0, .string ⟨#[]⟩, .string ⟨#[]⟩, .slice none 0 0]) rfl (by kernel_rfl)) s47 rfl fun v_48 w48 act48 R d48 s48 h9_48 hr => ?_
   obtain ⟨g9_48, ev_48, rg_48, lg9_48, kg9_48, b_48⟩ := R
   have ⟨h0_48, h4_48, h5_48, h6_48, h10_48, h11_48, h12_48, h13_48, h18_48, h22_48⟩ := Eng.k10 hr h0_47 h4_47 h5_47 h6_47 h10_47 h11_47 h12_47 h13_47 h18_47 h22_47
   have ⟨h23_48, h24_48, h43_48⟩ := Eng.k3 hr h23_47 h24_47 h43_47
   have d48 := d48.trans d47
   clear hr
   have ne_g9_48_g4_9 : g4_9 ≠ g9_48 := fun e => Nat.lt_irrefl _ (Nat.lt_of_lt_of_le (e ▸ lg4_9_36) rg_48)
   have og9_48 : w.heap.size ≤ g9_48 := Nat.le_trans bl36.size rg_48
   have kg4_9_48 := (b_48.block _ lg4_9_36).trans kg4_9_36
   have lg4_9_48 := Nat.lt_of_lt_of_le lg4_9_36 b_48.size
   have Oks_48 := Eng.own_below Oks_36 b_48
   have Fjj_48 := Eng.Reads.below Fjj_36 b_48
   have XM1_48 := Tm.Cn.below XM_36 b_48
   have XM2_48 := Tm.Cn.below Y_36 b_48
   have bl48 := bl36.trans (b_48.mono bl36.size)
   rw [ev_48] at h9_48
   refine Eng.tail_put [.int .i64 nj.kind, .string nj.tag, .string nj.text, jv] (n := 0) (new := #[.int .i64 nj.kind, .string nj.tag, .string nj.text, jv]) rfl rfl rfl kg9_48 rfl ?_ fun w49 S => ?_
   ·have e0 : act48.eval (.tmp 9) = .pointer (some ⟨g9_48, 0, none⟩) := h9_48
    have e1 : act48.eval (.tmp 43) = .agg #[.int .i64 nj.kind, .string nj.tag, .string nj.text, jv] := h43_48
    obtain ⟨A3_, c3_, ev3_⟩ := Eng.Reads.shape Fjj_48
    subst ev3_
    have z0 := (Eng.cells kg9_48 (0)).trans (rfl)
    have f0 := Eng.unfrozen kg9_48 (0)
    have z1 := (Eng.cells kg9_48 (1)).trans (rfl)
    have f1 := Eng.unfrozen kg9_48 (1)
    have z2 := (Eng.cells kg9_48 (2)).trans (rfl)
    have f2 := Eng.unfrozen kg9_48 (2)
    have z3 := (Eng.cells kg9_48 (3)).trans (rfl)
    have f3 := Eng.unfrozen kg9_48 (3)
    simp only [execOp]
    rw [e0, e1]
    go_simp
    try rfl
   have kg4_9_49 := (S.far _ ne_g9_48_g4_9).trans kg4_9_48
   have lg4_9_49 := Nat.lt_of_lt_of_eq lg4_9_48 S.size.symm
   have kg9_48_49 := S.new
   have lg9_48_49 := Nat.lt_of_lt_of_eq lg9_48 S.size.symm
   have bl49 := S.below bl48 og9_48
   have Oks_49 := Eng.own_sets Oks_48 S kg9_48 rfl
   have XM1_49 := Tm.Cn.sets XM1_48 S kg9_48
   have XM2_49 := Tm.Cn.sets XM2_48 S kg9_48
   clear S
   refine Eng.tail_nil ?_
   refine wp_seq ?_
   obtain ⟨q46, Bq46⟩ : ∃ b : Bool, b = (nj.kind == 0) := ⟨_, rfl⟩
   refine Eng.rS [.pointer (some ⟨g9_48, 0, none⟩), .int .i64 nj.kind, .bool q46] (fun _ => .plain) 3 0 s48 ?_ ?_
   ·refine .cons (fun _ => ?_) (.cons (fun _ => ?_) (.cons (fun _ => ?_) (.nil)))
    ·exact Eng.plain rfl rfl fun a w' H => Eng.vr rfl (Eng.run_fieldb rfl Tryd.underlying57 0 (by kernel_rfl) ((H.kept 9 (by kernel_rfl)).trans h9_48))
    ·exact Eng.plain rfl rfl fun a w' H => Eng.vr rfl (Eng.run_loadb rfl (H.dep 0 44 (by kernel_rfl) rfl) ((H.below.block _ lg9_48_49).trans kg9_48_49) rfl (by kernel_rfl))
    refine Eng.plain rfl rfl fun a w' H => ?_
    refine Eng.vr (v := .bool (nj.kind == 0)) (by show _ = Value.bool q46; rw [Bq46]) ?_
    have e0 : a.eval (.tmp 45) = .int .i64 nj.kind := (H.dep 1 45 (by kernel_rfl) rfl)
    have e1 : a.eval (.const (.int .i64 0)) = .int .i64 0 := (rfl : a.eval (.const (.int .i64 0)) = .int .i64 0)
    simp only [execOp, resolve, List.map_toArray, List.map_cons, List.map_nil, e0, e1]
    go_simp
   intro act50 w50 T
   have ⟨h0_50, h4_50, h5_50, h6_50, h9_50, h10_50, h11_50, h12_50, h13_50, h18_50⟩ := T.r10 h0_48 h4_48 h5_48 h6_48 h9_48 h10_48 h11_48 h12_48 h13_48 h18_48
   have ⟨h22_50, h23_50, h24_50⟩ := T.r3 h22_48 h23_48 h24_48
   have kg4_9_50 := T.x lg4_9_49 kg4_9_49
   have lg4_9_50 := T.l lg4_9_49
   have kg9_48_50 := T.x lg9_48_49 kg9_48_49
   have lg9_48_50 := T.l lg9_48_49
   have Oks_50 := T.g Oks_49
   have h46_50 : act50.eval (.tmp 46) = .bool q46 := T.done 2 46 rfl rfl
   have d50 := T.e d48
   have s50 := T.z s48
   have bl50 := T.b bl49
   have XM1_50 := Tm.Cn.below XM1_49 T.below
   have XM2_50 := Tm.Cn.below XM2_49 T.below
   clear T
   refine Eng.tail_nil ?_
   refine wp_cond_split h46_50 (fun hq => ?_) (fun hq => ?_)
   ·
    have c46 := Bq46.symm.trans hq
    clear hq
    have hlf : Tm.leafB nd key = some (nj.tag, nj.text) := by unfold Tm.leafB; rw [← Hnj, if_pos (by simpa using c46)]
    obtain ⟨kl2, hkl2⟩ := Tm.keyOf_leaf (t := nj.tag) (x := nj.text) (by unfold maxLen; have := hsj.2.1; omega) (by unfold maxLen; have := hsj.2.2; omega)
    refine wp_seq ?_
    have XD_52 := Tm.Cn.drew (d := w50.drawn + 1) XM2_50
    obtain ⟨v0, stp, wa, wb, eE, gE, XE, eS, XS, gS⟩ := Tm.Cn.entry XD_52 Tm.law_leaf Tryd.underlying103 hkl2 (by unfold maxLen; omega) (by omega)
    have kk : ∀ u, (u = { w50 with drawn := w50.drawn + 1 } ∨ u = wa) → u.heap[g9_48]? = some (.cells (#[.int .i64 nj.kind, .string nj.tag, .string nj.text, jv]) 57 (0, 0)) := by
     rintro u (rfl | rfl)
     ·exact kg9_48_50
     ·exact (gE.block _ lg9_48_50 (fun e => Tm.Cn.ne XM2_50 kg9_48_50 (Option.some.inj e))).trans kg9_48_50
    have lk : ∀ u, (u = { w50 with drawn := w50.drawn + 1 } ∨ u = wa) → (Instr.lookup 103 (.map (some mb2)) (.agg #[.string nj.tag, .string nj.text]) false).run Tryd.prog u = .ok (.int .i64 (Tm.cnt (Tm.K2 nd ks m) (.agg #[.string nj.tag, .string nj.text]))) u := by
     rintro u (rfl | rfl)
     ·exact Tm.Cn.look XD_52 Tm.key_leaf Tryd.underlying103 hkl2
     ·exact Tm.Cn.look XE Tm.key_leaf Tryd.underlying103 hkl2
    refine Eng.regionX [fun u_ => u_ = .map (some mb2), fun u_ => u_ = .pointer (some ⟨g9_48, 1, none⟩), fun u_ => u_ = .string nj.tag, fun u_ => u_ = .pointer (some ⟨g9_48, 2, none⟩), fun u_ => u_ = .string nj.text, fun u_ => u_ = .agg #[.string nj.tag, .string nj.text], fun u_ => u_ = .int .i64 (Tm.cnt (Tm.K2 nd ks m) (.agg #[.string nj.tag, .string nj.text])), fun u_ => u_ = .int .i64 (Tm.cnt (Tm.K2 nd ks m) (.agg #[.string nj.tag, .string nj.text]) + 1), fun u_ => u_ = .tuple #[v0, goInt stp], fun u_ => u_ = goInt stp] 8 10 1 67 (by kernel_rfl) s50 rfl (by kernel_rfl) rfl wa ?_ ?_
    ·refine .cons (fun _ => ?_) (.cons (fun _ => ?_) (.cons (fun _ => ?_) (.cons (fun _ => ?_) (.cons (fun _ => ?_) (.cons (fun _ => ?_) (.cons (fun _ => ?_) (.cons (fun _ => ?_) (.cons (fun _ => ?_) (.cons (fun _ => ?_) (.cons (fun h => absurd h (by decide)) (.nil)))))))))))
     ·exact Eng.zval rfl rfl fun a u H => ⟨.map (some mb2), Eng.run_move rfl ((H.kept 6 (by kernel_rfl)).trans h6_50), rfl⟩
     ·exact Eng.zval rfl rfl fun a u H => ⟨.pointer (some ⟨g9_48, 1, none⟩), Eng.run_fieldb rfl Tryd.underlying57 1 (by kernel_rfl) ((H.kept 9 (by kernel_rfl)).trans h9_50), rfl⟩
     ·exact Eng.zval rfl rfl fun a u H => ⟨.string nj.tag, Eng.run_loadb rfl (H.dep 1 48 (by kernel_rfl) rfl) (kk u H.or) rfl (by kernel_rfl), rfl⟩
     ·exact Eng.zval rfl rfl fun a u H => ⟨.pointer (some ⟨g9_48, 2, none⟩), Eng.run_fieldb rfl Tryd.underlying57 2 (by kernel_rfl) ((H.kept 9 (by kernel_rfl)).trans h9_50), rfl⟩
     ·exact Eng.zval rfl rfl fun a u H => ⟨.string nj.text, Eng.run_loadb rfl (H.dep 3 50 (by kernel_rfl) rfl) (kk u H.or) rfl (by kernel_rfl), rfl⟩
     ·exact Eng.zval rfl rfl fun a u H => ⟨.agg #[.string nj.tag, .string nj.text], Tm.run_leaf rfl (H.dep 2 49 (by kernel_rfl) rfl) (H.dep 4 51 (by kernel_rfl) rfl), rfl⟩
     ·exact Eng.zval rfl rfl fun a u H => ⟨.int .i64 (Tm.cnt (Tm.K2 nd ks m) (.agg #[.string nj.tag, .string nj.text])), Eng.run_look0 rfl (H.dep 0 47 (by kernel_rfl) rfl) (H.dep 5 52 (by kernel_rfl) rfl) (lk u H.or), rfl⟩
     ·exact Eng.zval rfl rfl fun a u H => ⟨.int .i64 (Tm.cnt (Tm.K2 nd ks m) (.agg #[.string nj.tag, .string nj.text]) + 1), Eng.run_inc rfl (H.dep 6 53 (by kernel_rfl) rfl) Tryd.underlying3 (Tm.cnt_bd _ _).1 (by have := (Tm.cnt_bd (.agg #[.string nj.tag, .string nj.text]) (Tm.K2 nd ks m)).2; omega), rfl⟩
     ·exact Eng.zturn rfl fun a H => ⟨_, Eng.run_entry rfl (H.dep 0 47 (by kernel_rfl) rfl) (H.dep 5 52 (by kernel_rfl) rfl) eE, rfl⟩
     exact Eng.zval rfl rfl fun a u H => ⟨goInt stp, Eng.run_ext1 rfl (H.dep 8 55 (by kernel_rfl) rfl), rfl⟩
    intro act52 d52 s52 T hr
    have h0_52 := (hr 0 (by kernel_rfl)).trans h0_50
    have h4_52 := (hr 4 (by kernel_rfl)).trans h4_50
    have h5_52 := (hr 5 (by kernel_rfl)).trans h5_50
    have h6_52 := (hr 6 (by kernel_rfl)).trans h6_50
    have h9_52 := (hr 9 (by kernel_rfl)).trans h9_50
    have h10_52 := (hr 10 (by kernel_rfl)).trans h10_50
    have h11_52 := (hr 11 (by kernel_rfl)).trans h11_50
    have h12_52 := (hr 12 (by kernel_rfl)).trans h12_50
    have h13_52 := (hr 13 (by kernel_rfl)).trans h13_50
    have h18_52 := (hr 18 (by kernel_rfl)).trans h18_50
    have h22_52 := (hr 22 (by kernel_rfl)).trans h22_50
    have h23_52 := (hr 23 (by kernel_rfl)).trans h23_50
    have h24_52 := (hr 24 (by kernel_rfl)).trans h24_50
    have d52 := d52.trans d50
    have h47_52 : act52.eval (.tmp 47) = .map (some mb2) := T 0 47 rfl rfl
    have h56_52 : act52.eval (.tmp 56) = goInt stp := T 9 56 rfl rfl
    have h54_52 : act52.eval (.tmp 54) = .int .i64 (Tm.cnt (Tm.K2 nd ks m) (.agg #[.string nj.tag, .string nj.text]) + 1) := T 7 54 rfl rfl
    clear T hr
    refine Eng.tail_skip rfl rfl rfl (Eng.run_estore rfl h47_52 h56_52 h54_52 eS) ?_
    have blD := bl50.trans ((⟨rfl, rfl, rfl, Nat.le_refl _, fun _ _ => rfl⟩ : Below w50.heap.size w50 ({ w50 with drawn := w50.drawn + 1 } : World)).mono bl50.size)
    have YD_52 := Tm.Cn.drew (d := w50.drawn + 1) XM1_50
    have ODks_52 := Tm.own_drew (d := w50.drawn + 1) Oks_50
    have kg4_9_52 := (gE.block _ lg4_9_50 (fun e => Tm.Cn.ne XD_52 kg4_9_50 (Option.some.inj e))).trans kg4_9_50
    have lg4_9_52 := Nat.lt_of_lt_of_le lg4_9_50 gE.size
    have kg4_9_52' := (gS.block _ lg4_9_52 (fun e => Tm.Cn.ne XE kg4_9_52 (Option.some.inj e))).trans kg4_9_52
    have lg4_9_52' := Nat.lt_of_lt_of_le lg4_9_52 gS.size
    have kg9_48_52 := (gE.block _ lg9_48_50 (fun e => Tm.Cn.ne XD_52 kg9_48_50 (Option.some.inj e))).trans kg9_48_50
    have lg9_48_52 := Nat.lt_of_lt_of_le lg9_48_50 gE.size
    have kg9_48_52' := (gS.block _ lg9_48_52 (fun e => Tm.Cn.ne XE kg9_48_52 (Option.some.inj e))).trans kg9_48_52
    have lg9_48_52' := Nat.lt_of_lt_of_le lg9_48_52 gS.size
    have bl52 := blD.grown gE blD.size (fun j hj => by injection hj with hj; subst hj; exact Tm.Cn.lo XD_52)
    have bl52' := bl52.grown gS bl52.size (fun j hj => by injection hj with hj; subst hj; exact Tm.Cn.lo XE)
    have Y_52 := Tm.Cn.grown YD_52 gE hne
    have Y_52' := Tm.Cn.grown Y_52 gS hne
    have Oks_52 := Tm.Cn.own_kept XD_52 ODks_52 gE
    have Oks_52' := Tm.Cn.own_kept XE Oks_52 gS
    refine Eng.tail_nil ?_
    refine wp_seq ?_
    refine Eng.regionT (n := 8) rfl ?_
    refine Eng.tail_val rfl rfl rfl (Eng.run_move rfl h6_52) s52 rfl fun act53 d53 s53 h57_53 hr => ?_
    have ⟨h0_53, h4_53, h5_53, h6_53, h9_53, h10_53, h11_53, h12_53, h13_53, h18_53⟩ := Eng.k10 hr h0_52 h4_52 h5_52 h6_52 h9_52 h10_52 h11_52 h12_52 h13_52 h18_52
    have ⟨h22_53, h23_53, h24_53⟩ := Eng.k3 hr h22_52 h23_52 h24_52
    have d53 := d53.trans d52
    clear hr
    refine Eng.tail_val (w1 := wb) (v := .pointer (some ⟨g9_48, 1, none⟩)) rfl rfl rfl ?_ s53 rfl ?_
    ·exact Eng.run_fieldb rfl Tryd.underlying57 1 (by kernel_rfl) h9_53
    intro act54 d54 s54 h58_54 hr
    have ⟨h0_54, h4_54, h5_54, h6_54, h9_54, h10_54, h11_54, h12_54, h13_54, h18_54⟩ := Eng.k10 hr h0_53 h4_53 h5_53 h6_53 h9_53 h10_53 h11_53 h12_53 h13_53 h18_53
    have ⟨h22_54, h23_54, h24_54, h57_54⟩ := Eng.k4 hr h22_53 h23_53 h24_53 h57_53
    have d54 := d54.trans d53
    clear hr
    refine Eng.tail_val (w1 := wb) (v := .string nj.tag) rfl rfl rfl ?_ s54 rfl ?_
    ·exact Eng.run_loadb rfl h58_54 (((Below.refl _ _).block _ lg9_48_52').trans kg9_48_52') rfl (by kernel_rfl)
    intro act55 d55 s55 h59_55 hr
    have ⟨h0_55, h4_55, h5_55, h6_55, h9_55, h10_55, h11_55, h12_55, h13_55, h18_55⟩ := Eng.k10 hr h0_54 h4_54 h5_54 h6_54 h9_54 h10_54 h11_54 h12_54 h13_54 h18_54
    have ⟨h22_55, h23_55, h24_55, h57_55⟩ := Eng.k4 hr h22_54 h23_54 h24_54 h57_54
    have d55 := d55.trans d54
    clear hr
    refine Eng.tail_val (w1 := wb) (v := .pointer (some ⟨g9_48, 2, none⟩)) rfl rfl rfl ?_ s55 rfl ?_
    ·exact Eng.run_fieldb rfl Tryd.underlying57 2 (by kernel_rfl) h9_55
    intro act56 d56 s56 h60_56 hr
    have ⟨h0_56, h4_56, h5_56, h6_56, h10_56, h11_56, h12_56, h13_56, h18_56, h22_56⟩ := Eng.k10 hr h0_55 h4_55 h5_55 h6_55 h10_55 h11_55 h12_55 h13_55 h18_55 h22_55
    have ⟨h23_56, h24_56, h57_56, h59_56⟩ := Eng.k4 hr h23_55 h24_55 h57_55 h59_55
    have d56 := d56.trans d55
    clear hr
    refine Eng.tail_val (w1 := wb) (v := .string nj.text) rfl rfl rfl ?_ s56 rfl ?_
    ·exact Eng.run_loadb rfl h60_56 (((Below.refl _ _).block _ lg9_48_52').trans kg9_48_52') rfl (by kernel_rfl)
    intro act57 d57 s57 h61_57 hr
    have ⟨h0_57, h4_57, h5_57, h6_57, h10_57, h11_57, h12_57, h13_57, h18_57, h22_57⟩ := Eng.k10 hr h0_56 h4_56 h5_56 h6_56 h10_56 h11_56 h12_56 h13_56 h18_56 h22_56
    have ⟨h23_57, h24_57, h57_57, h59_57⟩ := Eng.k4 hr h23_56 h24_56 h57_56 h59_56
    have d57 := d57.trans d56
    clear hr
    refine Eng.tail_val (w1 := wb) (v := .agg #[.string nj.tag, .string nj.text]) rfl rfl rfl ?_ s57 rfl ?_
    ·have e0 : act57.eval (.tmp 59) = .string nj.tag := h59_57
     have e1 : act57.eval (.tmp 61) = .string nj.text := h61_57
     simp only [execOp, resolve, List.map_toArray, List.map_cons, List.map_nil, e0, e1]
     go_simp
    intro act58 d58 s58 h62_58 hr
    have ⟨h0_58, h4_58, h5_58, h6_58, h10_58, h11_58, h12_58, h13_58, h18_58, h22_58⟩ := Eng.k10 hr h0_57 h4_57 h5_57 h6_57 h10_57 h11_57 h12_57 h13_57 h18_57 h22_57
    have ⟨h23_58, h24_58, h57_58⟩ := Eng.k3 hr h23_57 h24_57 h57_57
    have d58 := d58.trans d57
    clear hr
    refine Eng.tail_val rfl rfl rfl (Eng.run_look0 rfl h57_58 h62_58 (Tm.Cn.look XS Tm.key_leaf Tryd.underlying103 hkl2)) s58 rfl fun act59 d59 s59 h63_59 hr => ?_
    have ⟨h0_59, h4_59, h5_59, h6_59, h10_59, h11_59, h12_59, h13_59, h18_59, h22_59⟩ := Eng.k10 hr h0_58 h4_58 h5_58 h6_58 h10_58 h11_58 h12_58 h13_58 h18_58 h22_58
    have ⟨h23_59, h24_59⟩ := Eng.k2 hr h23_58 h24_58
    have d59 := d59.trans d58
    clear hr
    obtain ⟨q64, Bq64⟩ : ∃ b : Bool, b = (decide ((Tm.cnt (.agg #[.string nj.tag, .string nj.text] :: (Tm.K2 nd ks m)) (.agg #[.string nj.tag, .string nj.text])) > 1)) := ⟨_, rfl⟩
    refine Eng.tail_val (w1 := wb) (v := .bool (decide ((Tm.cnt (.agg #[.string nj.tag, .string nj.text] :: (Tm.K2 nd ks m)) (.agg #[.string nj.tag, .string nj.text])) > 1))) rfl rfl rfl ?_ s59 rfl ?_
    ·have e0 : act59.eval (.tmp 63) = .int .i64 (Tm.cnt (.agg #[.string nj.tag, .string nj.text] :: (Tm.K2 nd ks m)) (.agg #[.string nj.tag, .string nj.text])) := h63_59
     have e1 : act59.eval (.const (.int .i64 1)) = .int .i64 1 := (rfl : act59.eval (.const (.int .i64 1)) = .int .i64 1)
     simp only [execOp, resolve, List.map_toArray, List.map_cons, List.map_nil, e0, e1]
     go_simp
    intro act60 d60 s60 hv hr
    have ⟨h0_60, h4_60, h5_60, h6_60, h10_60, h11_60, h12_60, h13_60, h18_60, h22_60⟩ := Eng.k10 hr h0_59 h4_59 h5_59 h6_59 h10_59 h11_59 h12_59 h13_59 h18_59 h22_59
    have ⟨h23_60, h24_60⟩ := Eng.k2 hr h23_59 h24_59
    have h64_60 : act60.eval (.tmp 64) = .bool q64 := hv.trans (congrArg Value.bool Bq64.symm)
    have d60 := d60.trans d59
    clear hv hr
    refine Eng.tail_nil ?_
    refine wp_cond_split h64_60 (fun hq => ?_) (fun hq => ?_)
    ·
     have c64 := Bq64.symm.trans hq
     clear hq
     have c64 := of_decide_eq_true c64
     have hin := Tm.mem_of c64
     have htw : Dc.twiceF nd = true := Tm.twice_true (hln.symm ▸ hk0) (Hnk ▸ Tm.dup_two hk2 hks hm0 hkey hhas hlf hin)
     refine wp_seq ?_
     refine Eng.rS [.bool true] (fun _ => .plain) 1 0 s60 ?_ ?_
     ·refine .cons (fun _ => ?_) (.nil)
      ·exact Eng.plain rfl rfl fun a w' H => Eng.vr rfl (Eng.run_assign rfl (rfl : a.eval (.const (.bool true)) = .bool true))
     intro act62 w62 T
     have h2_62 : act62.eval (.tmp 2) = .bool true := T.done 0 2 rfl rfl
     have d62 := T.e d60
     have bl62 := bl52'.trans (T.below.mono bl52'.size)
     clear T
     refine Eng.tail_nil ?_
     refine wp_ret ?_
     repeat (first | with_reducible refine Eng.in_ret ?_ | with_reducible refine Eng.then_ret ?_)
     exact Eng.ret1 rfl d62 h2_62 ⟨by rw [htw], bl62⟩
    have c64 := Bq64.symm.trans hq
    clear hq
    have c64 := of_decide_eq_false c64
    have hn2 := Tm.not_of c64
    refine wp_skip ?_
    refine Eng.rS [.int .i64 (IntKind.i64.wrap ((m : Nat) + 1)), .int .i64 (IntKind.i64.wrap ((m : Nat) + 1))] (fun _ => .plain) 2 0 s60 ?_ ?_
    ·refine .cons (fun _ => ?_) (.cons (fun _ => ?_) (.nil))
     ·refine Eng.plain rfl rfl fun a w' H => ?_
      refine Eng.vr (v := .int .i64 (IntKind.i64.wrap ((m : Nat) + 1))) rfl ?_
      have e0 := ((H.kept 24 (by kernel_rfl)).trans h24_60)
      have e1 : a.eval (.const (.int .i64 1)) = .int .i64 1 := (rfl : a.eval (.const (.int .i64 1)) = .int .i64 1)
      simp only [execOp, resolve, List.map_toArray, List.map_cons, List.map_nil, e0, e1]
      go_simp
     exact Eng.plain rfl rfl fun a w' H => Eng.vr rfl (Eng.run_move rfl (H.dep 0 65 (by kernel_rfl) rfl))
    intro act64 w64 T
    have ⟨h0_64, h4_64, h5_64, h6_64, h10_64, h11_64, h12_64, h13_64, h18_64, h22_64⟩ := T.r10 h0_60 h4_60 h5_60 h6_60 h10_60 h11_60 h12_60 h13_60 h18_60 h22_60
    have h23_64 := T.r1 h23_60
    have kg4_9_64 := (T.below.block _ lg4_9_52').trans kg4_9_52'
    have lg4_9_64 := Nat.lt_of_lt_of_le lg4_9_52' T.below.size
    have Oks_64 := Eng.own_below Oks_52' T.below
    have h24_64 : act64.eval (.tmp 24) = .int .i64 (IntKind.i64.wrap ((m : Nat) + 1)) := T.done 1 24 rfl rfl
    have d64 := T.e d60
    have s64 := T.z s60
    have bl64 := bl52'.trans (T.below.mono bl52'.size)
    have XM1_64 := Tm.Cn.below Y_52' T.below
    have XM2_64 := Tm.Cn.below XS T.below
    clear T
    refine Eng.tail_nil ?_
    exact ⟨_, by omega, m + 1, rfl, by omega, Tm.ok_some hm0 hkey hhas hlf hn1 hn2 hok, Oks_64, (Tm.Cn.mono XM1_64 (by omega)).eqL (Tm.K1_has hm0 hkey hhas), (Tm.Cn.mono XM2_64 (by omega)).eqL (Tm.K2_some hm0 hkey hhas hlf), d64, s64, bl64, h0_64, h4_64, h5_64, h6_64, h10_64, h11_64, h12_64, h13_64, h18_64, h22_64, h23_64, (h24_64.trans (by first | rfl | (congr 1; rw [Eng.i64_id (by omega) (by omega)]; omega) | (simp; done))), kg4_9_64, lg4_9_64⟩
   have c46 := Bq46.symm.trans hq
   clear hq
   have hlf : Tm.leafB nd key = none := by unfold Tm.leafB; rw [← Hnj, if_neg (by simpa using c46)]
   refine wp_skip ?_
   refine Eng.rS [.int .i64 (IntKind.i64.wrap ((m : Nat) + 1)), .int .i64 (IntKind.i64.wrap ((m : Nat) + 1))] (fun _ => .plain) 2 0 s50 ?_ ?_
   ·refine .cons (fun _ => ?_) (.cons (fun _ => ?_) (.nil))
    ·refine Eng.plain rfl rfl fun a w' H => ?_
     refine Eng.vr (v := .int .i64 (IntKind.i64.wrap ((m : Nat) + 1))) rfl ?_
     have e0 := ((H.kept 24 (by kernel_rfl)).trans h24_50)
     have e1 : a.eval (.const (.int .i64 1)) = .int .i64 1 := (rfl : a.eval (.const (.int .i64 1)) = .int .i64 1)
     simp only [execOp, resolve, List.map_toArray, List.map_cons, List.map_nil, e0, e1]
     go_simp
    exact Eng.plain rfl rfl fun a w' H => Eng.vr rfl (Eng.run_move rfl (H.dep 0 65 (by kernel_rfl) rfl))
   intro act66 w66 T
   have ⟨h0_66, h4_66, h5_66, h6_66, h10_66, h11_66, h12_66, h13_66, h18_66, h22_66⟩ := T.r10 h0_50 h4_50 h5_50 h6_50 h10_50 h11_50 h12_50 h13_50 h18_50 h22_50
   have h23_66 := T.r1 h23_50
   have kg4_9_66 := T.x lg4_9_50 kg4_9_50
   have lg4_9_66 := T.l lg4_9_50
   have Oks_66 := T.g Oks_50
   have h24_66 : act66.eval (.tmp 24) = .int .i64 (IntKind.i64.wrap ((m : Nat) + 1)) := T.done 1 24 rfl rfl
   have d66 := T.e d50
   have s66 := T.z s50
   have bl66 := T.b bl50
   have XM1_66 := Tm.Cn.below XM1_50 T.below
   have XM2_66 := Tm.Cn.below XM2_50 T.below
   clear T
   refine Eng.tail_nil ?_
   exact ⟨_, by omega, m + 1, rfl, by omega, Tm.ok_none hm0 hkey hhas hlf hn1 hok, Oks_66, (Tm.Cn.mono XM1_66 (by omega)).eqL (Tm.K1_has hm0 hkey hhas), (Tm.Cn.mono XM2_66 (by omega)).eqL (Tm.K2_none hm0 hkey hhas hlf), d66, s66, bl66, h0_66, h4_66, h5_66, h6_66, h10_66, h11_66, h12_66, h13_66, h18_66, h22_66, h23_66, (h24_66.trans (by first | rfl | (congr 1; rw [Eng.i64_id (by omega) (by omega)]; omega) | (simp; done))), kg4_9_66, lg4_9_66⟩
  have c25 := Bq25.symm.trans hq
  clear hq
  have c25 := of_decide_eq_false c25
  have hme : m = ks.length := by omega
  rw [hme] at hok
  have hdup : Dc.dupNode nd (nd.getD k default) = false := Hnk ▸ (Tm.dup_iff hk2 hks).2 hok
  refine wp_exit ?_
  refine Eng.rS [.int .i64 (IntKind.i64.wrap ((k : Nat) + 1)), .int .i64 (IntKind.i64.wrap ((k : Nat) + 1))] (fun _ => .plain) 2 0 s24 ?_ ?_
  ·refine .cons (fun _ => ?_) (.cons (fun _ => ?_) (.nil))
   ·refine Eng.plain rfl rfl fun a w' H => ?_
    refine Eng.vr (v := .int .i64 (IntKind.i64.wrap ((k : Nat) + 1))) rfl ?_
    have e0 := ((H.kept 12 (by kernel_rfl)).trans h12_24)
    have e1 : a.eval (.const (.int .i64 1)) = .int .i64 1 := (rfl : a.eval (.const (.int .i64 1)) = .int .i64 1)
    simp only [execOp, resolve, List.map_toArray, List.map_cons, List.map_nil, e0, e1]
    go_simp
   exact Eng.plain rfl rfl fun a w' H => Eng.vr rfl (Eng.run_move rfl (H.dep 0 66 (by kernel_rfl) rfl))
  intro act68 w68 T
  have ⟨h0_68, h10_68, h11_68⟩ := T.r3 h0_24 h10_24 h11_24
  have h12_68 : act68.eval (.tmp 12) = .int .i64 (IntKind.i64.wrap ((k : Nat) + 1)) := T.done 1 12 rfl rfl
  have d68 := T.e d24
  have s68 := T.z s24
  have bl68 := T.b bl24
  clear T
  refine Eng.tail_nil ?_
  exact ⟨_, by omega, k + 1, rfl, by omega, Tm.none_step hnone hdup, d68, s68, bl68, h0_68, h10_68, h11_68, (h12_68.trans (by first | rfl | (congr 1; rw [Eng.i64_id (by omega) (by omega)]; omega) | (simp; done)))⟩
 have c13 := Bq13.symm.trans hq
 clear hq
 have c13 := of_decide_eq_false c13
 have hke : k = h.length := by omega
 have htw : Dc.twiceF nd = false := Tm.twice_false (fun j hj => hnone j (by omega))
 refine wp_exit ?_
 refine wp_seq ?_
 refine Eng.rS [.bool false] (fun _ => .plain) 1 0 s4 ?_ ?_
 ·refine .cons (fun _ => ?_) (.nil)
  ·exact Eng.plain rfl rfl fun a w' H => Eng.vr rfl (Eng.run_assign rfl (rfl : a.eval (.const (.bool false)) = .bool false))
 intro act70 w70 T
 have h2_70 : act70.eval (.tmp 2) = .bool false := T.done 0 2 rfl rfl
 have d70 := T.e d4
 have bl70 := T.b bl4
 clear T
 refine Eng.tail_nil ?_
 refine wp_ret ?_
 repeat (first | with_reducible refine Eng.in_ret ?_ | with_reducible refine Eng.then_ret ?_)
 exact Eng.ret1 rfl d70 h2_70 ⟨by rw [htw], bl70⟩
end Go.Proofs.YtgnmjaacnmkgnaaDoor.X
end
