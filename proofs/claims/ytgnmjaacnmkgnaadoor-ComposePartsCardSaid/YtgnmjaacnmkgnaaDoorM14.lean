/- Words and walks that the row of ComposeParts needs: printed by programs, and plain laws. -/
import Derived.Test.YtgnmjaacnmkgnaaDoorM13
import Derived.Test.YtgnmjaacnmkgnaaDoorM3
namespace Go.Proofs.YtgnmjaacnmkgnaaDoorW.PrintWords
end Go.Proofs.YtgnmjaacnmkgnaaDoorW.PrintWords
namespace Go.Proofs.YtgnmjaacnmkgnaaDoorW.PrintLast
end Go.Proofs.YtgnmjaacnmkgnaaDoorW.PrintLast
namespace Go.Proofs.YtgnmjaacnmkgnaaDoorW.PrintMore
end Go.Proofs.YtgnmjaacnmkgnaaDoorW.PrintMore
section
namespace Go.Proofs.YtgnmjaacnmkgnaaDoor.X
open Go.RowKit Go.Shelf Go.Proofs Go.Proofs.YtgnmjaacnmkgnaaDoorW.PrintWords Go.Proofs.YtgnmjaacnmkgnaaDoorW.PrintLast Go.Proofs.YtgnmjaacnmkgnaaDoorW.PrintMore
set_option linter.unusedVariables false
set_option linter.unusedSimpArgs false
attribute [local go_sem] max2_int min2_int max_two min_two
set_option maxHeartbeats 4000000 in
set_option maxRecDepth 100000 in
theorem Dc.Graphs_calls (v : Value) (l : List Evt.Ev) (w : World) (hT : Tabs.Holds w) (hl : Eng.Reads w v l.length 5 (Evt.cells l)) (hlen : l.length ≤ 100000) (hsz : ∀ k, k < l.length → (l.getD k default).text.size ≤ 2000) (hasz : ∀ k, k < l.length → (l.getD k default).anchor.size ≤ maxLen) (htw0 : Dc.TwAll ⟨[], [], []⟩ l) : Calls Tryd.prog 12 #[v] w fun e w' => ∃ outv fin, e = .returned (.tuple #[outv, .int .i64 (Dc.graphsF l).2]) ∧ List.map (·.1) fin = (Dc.graphsF l).1 ∧ w'.ownsRow w.heap.size 48 1 outv fin.length (List.map (·.2) fin) ∧ (∀ f ∈ fin, Dc.Fin w w' f (fun _ => False)) ∧ Below w.heap.size w w' := by
 have hm := Eng.Reads.len_le hl
 refine Eng.enter Tryd.func12 rfl fun act0 d0 s0 v0 => ?_
 have s0 : act0.tmps.size = 39 := s0
 have h0_0 : act0.eval (.tmp 0) = v := v0 0 (by simp)
 clear v0
 have bl0 : Below w.heap.size w w := Below.refl _ _
 refine wp_seq ?_
 refine Eng.regionS (Eng.still [fun u_ => u_ = .slice none 0 0, fun u_ => u_ = .int .i64 0]) (fun _ => .plain) 2 0 39 s0 rfl (by kernel_rfl) (Eng.still_stable _) (Or.inr (Eng.still_any _)) ?_ ?_
 ·refine .c ?_ (.c ?_ (.nil))
  ·exact Eng.pv fun a w' H => Eng.vr rfl (Eng.run_assign rfl (rfl : a.eval (.const (.slice none 0 0)) = .slice none 0 0))
  ·exact Eng.pv fun a w' H => Eng.vr rfl (Eng.run_assign rfl (rfl : a.eval (.const (.int .i64 0)) = .int .i64 0))
 intro act1 w1 T
 have h0_1 := T.r 0 h0_0
 have Fl_1 := Eng.Reads.below hl T.below
 have h2_1 : act1.eval (.tmp 2) = .slice none 0 0 := T.done 0 2 rfl rfl
 have d1 := T.defers.trans d0
 have s1 := T.size.trans s0
 have bl1 := bl0.trans (T.below.mono bl0.size)
 clear T
 refine Eng.tail_nil ?_
 refine wp_seq ?_
 refine wp_seq ?_
 obtain ⟨q10, Bq10⟩ : ∃ b : Bool, b = (Evt.rightG Evt.rightE l) := ⟨_, rfl⟩
 obtain ⟨q11, Bq11⟩ : ∃ b : Bool, b = (!q10) := ⟨_, rfl⟩
 refine Eng.regionS (Eng.still [fun u_ => u_ = v, fun u_ => u_ = .bool q10, fun u_ => u_ = .bool q11]) (fun _ => .plain) 3 0 39 s1 rfl (by kernel_rfl) (Eng.still_stable _) (Or.inr (Eng.still_any _)) ?_ ?_
 ·refine .c ?_ (.c ?_ (.c ?_ (.nil)))
  ·exact Eng.pv fun a w' H => Eng.vr rfl (Eng.run_move rfl (H.q 0 h0_1))
  ·refine Eng.pv fun a w' H => ?_
   refine Eng.call Tryd.func17 (by kernel_rfl) (by kernel_rfl) rfl #[v] ?_ ?_
   ·have e0 : a.eval (.tmp 9) = v := (H.d 0 9); simp only [List.map_toArray, List.map_cons, List.map_nil, e0]
   refine (Evt.Right_calls v l _ (Tabs.below (Tabs.below hT bl1) H.below) (Eng.Reads.below Fl_1 H.below) (fun k hk => Nat.le_trans (hsz k hk) (by decide)) (by omega)).mono ?_
   rintro e w'' ⟨rfl, hb⟩
   exact ⟨_, rfl, (by show _ = Value.bool q10; rw [Bq10]), hb⟩
  ·exact Eng.pv fun a w' H => Eng.vr (v := .bool (!q10)) (by show _ = Value.bool q11; rw [Bq11]) (Eng.run_not rfl (H.d 1 10))
 intro act2 w2 T
 have h0_2 := T.r 0 h0_1
 have h2_2 := T.r 2 h2_1
 have Fl_2 := Eng.Reads.below Fl_1 T.below
 have h11_2 : act2.eval (.tmp 11) = .bool q11 := T.done 2 11 rfl rfl
 have d2 := T.defers.trans d1
 have s2 := T.size.trans s1
 have bl2 := bl1.trans (T.below.mono bl1.size)
 clear T
 refine Eng.tail_nil ?_
 refine wp_cond_split h11_2 (fun hq => ?_) (fun hq => ?_)
 ·
  have c11 := Bq11.symm.trans hq
  clear hq
  have hnr : Evt.rightG Evt.rightE l = false := by have h1 := c11; rw [Bq10] at h1; simpa using h1
  refine wp_seq ?_
  refine Eng.regionS (Eng.still [fun u_ => u_ = .slice none 0 0, fun u_ => u_ = .int .i64 5]) (fun _ => .plain) 2 0 39 s2 rfl (by kernel_rfl) (Eng.still_stable _) (Or.inr (Eng.still_any _)) ?_ ?_
  ·refine .c ?_ (.c ?_ (.nil))
   ·exact Eng.pv fun a w' H => Eng.vr rfl (Eng.run_assign rfl (rfl : a.eval (.const (.slice none 0 0)) = .slice none 0 0))
   ·exact Eng.pv fun a w' H => Eng.vr rfl (Eng.run_assign rfl (rfl : a.eval (.const (.int .i64 5)) = .int .i64 5))
  intro act4 w4 T
  have h2_4 : act4.eval (.tmp 2) = .slice none 0 0 := T.done 0 2 rfl rfl
  have h3_4 : act4.eval (.tmp 3) = .int .i64 5 := T.done 1 3 rfl rfl
  have d4 := T.defers.trans d2
  have bl4 := bl2.trans (T.below.mono bl2.size)
  clear T
  refine Eng.tail_nil ?_
  refine wp_ret ?_
  repeat (first | refine Eng.in_ret ?_ | refine Eng.then_ret ?_)
  exact Eng.ret2 rfl d4 h2_4 h3_4 ⟨_, [], by rw [Dc.graphsF_no hnr], by rw [Dc.graphsF_no hnr]; rfl, Dc.fin_nil, fun f hf => absurd hf List.not_mem_nil, bl4⟩
 ·
  have c11 := Bq11.symm.trans hq
  clear hq
  have hnr : Evt.rightG Evt.rightE l = true := by have h1 := c11; rw [Bq10] at h1; simpa using h1
  refine wp_skip ?_
  refine wp_seq ?_
  refine Eng.regionT (n := 3) rfl ?_
  refine Eng.tail_val (w1 := w2) (v := .agg #[.slice none 0 0, .slice none 0 0, .map none]) rfl rfl rfl ?_ s2 rfl ?_
  ·simp only [execOp, resolve]
   go_simp
  intro act6 d6 s6 hv hr
  have h0_6 := (hr 0 rfl).trans h0_2
  have h2_6 := (hr 2 rfl).trans h2_2
  have h11_6 := (hr 11 rfl).trans h11_2
  have h12_6 : act6.eval (.tmp 12) = .agg #[.slice none 0 0, .slice none 0 0, .map none] := hv
  have d6 := d6.trans d2
  clear hv hr
  refine Eng.tail_ex rfl rfl rfl (Eng.box_ex (cs := #[.slice none 0 0, .slice none 0 0, .map none]) rfl h12_6 (by rfl)) s6 rfl fun v_7 w7 act7 R d7 s7 hv hr => ?_
  obtain ⟨g13_7, ev_7, rg_7, lg13_7, kg13_7, b_7⟩ := R
  have h0_7 := (hr 0 rfl).trans h0_6
  have h2_7 := (hr 2 rfl).trans h2_6
  have h11_7 := (hr 11 rfl).trans h11_6
  have h13_7 : act7.eval (.tmp 13) = v_7 := hv
  have d7 := d7.trans d6
  clear hv hr
  have og13_7 : w.heap.size ≤ g13_7 := Nat.le_trans bl2.size rg_7
  have Fl_7 := Eng.Reads.below Fl_2 b_7
  have bl7 := bl2.trans (b_7.mono bl2.size)
  rw [ev_7] at h13_7
  refine Eng.tail_val rfl rfl rfl (Eng.run_assign rfl h13_7) s7 rfl fun act8 d8 s8 hv hr => ?_
  have h0_8 := (hr 0 rfl).trans h0_7
  have h2_8 := (hr 2 rfl).trans h2_7
  have h11_8 := (hr 11 rfl).trans h11_7
  have h4_8 : act8.eval (.tmp 4) = .pointer (some ⟨g13_7, 0, none⟩) := hv
  have d8 := d8.trans d7
  clear hv hr
  refine Eng.tail_nil ?_
  refine wp_seq ?_
  refine wp_seq ?_
  refine Eng.regionS (Eng.still [fun u_ => u_ = v, fun u_ => u_ = .int .i64 ((l.length : Nat) : Int), fun u_ => u_ = .int .i64 0]) (fun _ => .plain) 3 0 39 s8 rfl (by kernel_rfl) (Eng.still_stable _) (Or.inr (Eng.still_any _)) ?_ ?_
  ·refine .c ?_ (.c ?_ (.c ?_ (.nil)))
   ·exact Eng.pv fun a w' H => Eng.vr rfl (Eng.run_move rfl (H.q 0 h0_8))
   ·exact Eng.pv fun a w' H => Eng.vr (v := .int .i64 ((l.length : Nat) : Int)) rfl (Eng.run_len_sl rfl Tryd.underlying37 (show a.eval (.tmp 14) = v from (H.d 0 14)) (Eng.Reads.below Fl_7 H.below))
   ·exact Eng.pv fun a w' H => Eng.vr rfl (Eng.run_move rfl (rfl : a.eval (.const (.int .i64 0)) = .int .i64 0))
  intro act9 w9 T
  have h0_9 := T.r 0 h0_8
  have h2_9 := T.r 2 h2_8
  have h4_9 := T.r 4 h4_8
  have h11_9 := T.r 11 h11_8
  have kg13_7_9 := (T.below.block _ lg13_7).trans kg13_7
  have lg13_7_9 := Nat.lt_of_lt_of_le lg13_7 T.below.size
  have h14_9 : act9.eval (.tmp 14) = v := T.done 0 14 rfl rfl
  have h15_9 : act9.eval (.tmp 15) = .int .i64 ((l.length : Nat) : Int) := T.done 1 15 rfl rfl
  have h16_9 : act9.eval (.tmp 16) = .int .i64 0 := T.done 2 16 rfl rfl
  have d9 := T.defers.trans d8
  have s9 := T.size.trans s8
  have bl9 := bl7.trans (T.below.mono bl7.size)
  clear T
  refine Eng.tail_nil ?_
  refine wp_block ?_
  refine Eng.loopN (fun n a w' => ∃ (k : Nat) (gv : Value) (ov : Value) (mv : Value) (outv : Value) (st : List (Int × Int)) (d : Dc.Dc) (fin : List (List Dc.Nd × Value)) (live : Bool), l.length - k = n ∧ (k ≤ l.length) ∧ (Evt.rightR Evt.rightE st (List.drop k l) = true) ∧ (Dc.runF ⟨[], [], []⟩ [] l = Dc.runF d (List.map (·.1) fin) (List.drop k l)) ∧ (Dc.HS w w' g13_7 gv ov mv st d fin k live) ∧ (w'.ownsRow w.heap.size 48 1 outv (List.length fin) (List.map (·.2) fin)) ∧ (Dc.TwAll d (List.drop k l)) ∧ (List.length fin ≤ k) ∧ a.defers = [] ∧ a.tmps.size = 39 ∧ Below w.heap.size w w' ∧ a.eval (.tmp 0) = v ∧ a.eval (.tmp 2) = outv ∧ a.eval (.tmp 4) = .pointer (some ⟨g13_7, 0, none⟩) ∧ a.eval (.tmp 11) = .bool q11 ∧ a.eval (.tmp 14) = v ∧ a.eval (.tmp 15) = .int .i64 ((l.length : Nat) : Int) ∧ a.eval (.tmp 16) = .int .i64 (k : Nat) ∧ w'.heap[g13_7]? = some (.cells (#[gv, ov, mv]) 64 (0, 0)) ∧ g13_7 < w'.heap.size) (n0 := l.length - 0) ?_ ?_
  ·exact ⟨0, .slice none 0 0, .slice none 0 0, .map none, .slice none 0 0, [], ⟨[], [], []⟩, [], false, rfl, by omega, Dc.rightG_R hnr, rfl, Dc.HS.start, Dc.fin_nil, htw0, by simp, d9, s9, bl9, h0_9, (h2_9.trans (by first | rfl | (congr 1; rw [Eng.i64_id (by omega) (by omega)]; omega) | (simp; done))), h4_9, h11_9, h14_9, h15_9, (h16_9.trans (by first | rfl | (congr 1; rw [Eng.i64_id (by omega) (by omega)]; omega) | (simp; done))), (kg13_7_9.trans (by first | rfl | (simp; done))), lg13_7_9⟩
  rintro n act10 w10 ⟨k, gv, ov, mv, outv, st, d, fin, live, rfl, hc0_10, hc1_10, hc2_10, hc3_10, hc4_10, hc5_10, hc6_10, d10, s10, bl10, h0_10, h2_10, h4_10, h11_10, h14_10, h15_10, h16_10, kg13_7_10, lg13_7_10⟩
  have Fl_10 := Eng.Reads.below hl bl10
  have hk1 := hc0_10
  have hrr := hc1_10
  have hrun := hc2_10
  have htw := hc5_10
  have hfl := hc6_10
  refine wp_seq ?_
  obtain ⟨q17, Bq17⟩ : ∃ b : Bool, b = (decide ((k : Nat) < ((l.length : Nat) : Int))) := ⟨_, rfl⟩
  refine Eng.regionS (Eng.still [fun u_ => u_ = .bool q17]) (fun _ => .plain) 1 0 39 s10 rfl (by kernel_rfl) (Eng.still_stable _) (Or.inr (Eng.still_any _)) ?_ ?_
  ·refine .c ?_ (.nil)
   ·refine Eng.pv fun a w' H => ?_
    refine Eng.vr (v := .bool (decide ((k : Nat) < ((l.length : Nat) : Int)))) (by show _ = Value.bool q17; rw [Bq17]) ?_
    have e0 := (H.q 16 h16_10)
    have e1 := (H.q 15 h15_10)
    simp only [execOp, resolve, e0, e1]
    go_simp
  intro act11 w11 T
  have h0_11 := T.r 0 h0_10
  have h2_11 := T.r 2 h2_10
  have h4_11 := T.r 4 h4_10
  have h11_11 := T.r 11 h11_10
  have h14_11 := T.r 14 h14_10
  have h15_11 := T.r 15 h15_10
  have h16_11 := T.r 16 h16_10
  have kg13_7_11 := (T.below.block _ lg13_7_10).trans kg13_7_10
  have lg13_7_11 := Nat.lt_of_lt_of_le lg13_7_10 T.below.size
  have Fl_11 := Eng.Reads.below Fl_10 T.below
  have Oout_11 := Eng.own_below hc4_10 T.below
  have h17_11 : act11.eval (.tmp 17) = .bool q17 := T.done 0 17 rfl rfl
  have d11 := T.defers.trans d10
  have s11 := T.size.trans s10
  have bl11 := bl10.trans (T.below.mono bl10.size)
  have XH_11 := Dc.HS.below hc3_10 T.below
  clear T
  refine Eng.tail_nil ?_
  refine wp_seq ?_
  refine wp_cond_split h17_11 (fun hq => ?_) (fun hq => ?_)
  ·
   have c17 := Bq17.symm.trans hq
   clear hq
   have c17 := of_decide_eq_true c17
   have hk0 : k < l.length := by omega
   obtain ⟨st2, ht2, hrr2⟩ := Evt.rightR_step hk0 hrr
   have htw2 := Dc.twall_step hk0 htw
   have hover := Dc.over_st XH_11 ht2
   refine wp_skip ?_
   refine wp_seq ?_
   refine wp_block ?_
   refine wp_seq ?_
   refine Eng.regionS (Eng.still [fun u_ => u_ = Eng.elemPtr v (k * 5), fun u_ => u_ = .agg #[.int .i64 ((l.getD k default).kind), .string ((l.getD k default).anchor), .string ((l.getD k default).tag), .string ((l.getD k default).text), .bool ((l.getD k default).plain)], fun u_ => True, fun u_ => True]) (fun i => ([.plain, .plain, .alloc 30 #[.int .i64 0, .string ⟨#[]⟩, .string ⟨#[]⟩, .string ⟨#[]⟩, .bool false], .store 2 #[.int .i64 ((l.getD k default).kind), .string ((l.getD k default).anchor), .string ((l.getD k default).tag), .string ((l.getD k default).text), .bool ((l.getD k default).plain)]] : List Eng.Kind).getD i .plain) 4 0 39 s11 rfl (by kernel_rfl) (Eng.still_stable _) (Or.inr (Eng.still_any _)) ?_ ?_
   ·refine .c ?_ (.c ?_ (.c ?_ (.c ?_ (.nil))))
    ·exact Eng.pv fun a w' H => Eng.vr (v := Eng.elemPtr v (k * 5)) rfl (Eng.run_index_sl rfl Tryd.underlying37 (by kernel_rfl) (show a.eval (.tmp 14) = v from (H.q 14 h14_11)) ((show a.eval (.tmp 16) = .int .i64 (k : Nat) from (H.q 16 h16_11)).trans (congrArg (Value.int _) (show (k : Nat) = ((k : Nat) : Int) from by omega))) (Eng.Reads.below Fl_11 H.below) (by omega) rfl)
    ·exact Eng.pv fun a w' H => Eng.vr (v := .agg #[.int .i64 ((l.getD k default).kind), .string ((l.getD k default).anchor), .string ((l.getD k default).tag), .string ((l.getD k default).text), .bool ((l.getD k default).plain)]) rfl (Eng.run_load_els [.int .i64 ((l.getD k default).kind), .string ((l.getD k default).anchor), .string ((l.getD k default).tag), .string ((l.getD k default).text), .bool ((l.getD k default).plain)] rfl (show a.eval (.tmp 18) = Eng.elemPtr v (k * 5) from (H.d 0 18)) (Eng.Reads.below Fl_11 H.below) (Evt.cells_at l k (by omega)) rfl Tryd.underlying30 rfl (by kernel_rfl))
    ·refine Eng.made rfl (by simp) rfl (fun a w' hd ho => ?_) (fun _ _ => trivial)
     simp only [execOp]
     go_simp
    ·refine Eng.stored [.int .i64 ((l.getD k default).kind), .string ((l.getD k default).anchor), .string ((l.getD k default).tag), .string ((l.getD k default).text), .bool ((l.getD k default).plain)] rfl rfl rfl (j := 2) (d := 6) (by kernel_rfl) rfl rfl (Eng.store_uniq (by kernel_rfl)) rfl rfl fun a w' g e hc hd ho => ?_
     have e0 : a.eval _ = .agg #[.int .i64 ((l.getD k default).kind), .string ((l.getD k default).anchor), .string ((l.getD k default).tag), .string ((l.getD k default).text), .bool ((l.getD k default).plain)] := (hd 1 19 (by kernel_rfl) rfl)
     have z0 := (Eng.cells hc 0).trans rfl
     have z1 := (Eng.cells hc 1).trans rfl
     have z2 := (Eng.cells hc 2).trans rfl
     have z3 := (Eng.cells hc 3).trans rfl
     have z4 := (Eng.cells hc 4).trans rfl
     have f0 := Eng.unfrozen hc 0
     have f1 := Eng.unfrozen hc 1
     have f2 := Eng.unfrozen hc 2
     have f3 := Eng.unfrozen hc 3
     have f4 := Eng.unfrozen hc 4
     simp only [execOp, e, e0]
     go_simp
     rfl
   intro act13 w13 T
   have h0_13 := T.r 0 h0_11
   have h2_13 := T.r 2 h2_11
   have h4_13 := T.r 4 h4_11
   have h11_13 := T.r 11 h11_11
   have h14_13 := T.r 14 h14_11
   have h15_13 := T.r 15 h15_11
   have h16_13 := T.r 16 h16_11
   have kg13_7_13 := (T.below.block _ lg13_7_11).trans kg13_7_11
   have Oout_13 := Eng.own_below Oout_11 T.below
   obtain ⟨g6_13, h6_13, rg6_13, lg6_13_13, kg6_13_13⟩ := T.st 2 6 3 _ _ _ rfl rfl rfl rfl rfl
   have d13 := T.defers.trans d11
   have s13 := T.size.trans s11
   have bl13 := bl11.trans (T.below.mono bl11.size)
   have XH_13 := Dc.HS.below XH_11 T.below
   clear T
   refine Eng.tail_nil ?_
   refine wp_seq ?_
   refine (wpIn_wide (n := 1)).1 ?_
   refine EngI.regionT (n := 8) rfl ?_
   refine EngI.tail_val EngI.free_wide rfl rfl rfl rfl (Eng.run_move rfl h4_13) s13 rfl fun act14 d14 s14 hv hr => ?_
   have h0_14 := (hr 0 rfl).trans h0_13
   have h2_14 := (hr 2 rfl).trans h2_13
   have h4_14 := (hr 4 rfl).trans h4_13
   have h6_14 := (hr 6 rfl).trans h6_13
   have h11_14 := (hr 11 rfl).trans h11_13
   have h14_14 := (hr 14 rfl).trans h14_13
   have h15_14 := (hr 15 rfl).trans h15_13
   have h16_14 := (hr 16 rfl).trans h16_13
   have h21_14 : act14.eval (.tmp 21) = .pointer (some ⟨g13_7, 0, none⟩) := hv
   have d14 := d14.trans d13
   clear hv hr
   refine EngI.tail_val EngI.free_wide rfl rfl rfl rfl (Eng.run_load_all rfl h6_14 kg6_13_13 Tryd.underlying30 rfl (by kernel_rfl)) s14 rfl fun act15 d15 s15 hv hr => ?_
   have h0_15 := (hr 0 rfl).trans h0_14
   have h2_15 := (hr 2 rfl).trans h2_14
   have h4_15 := (hr 4 rfl).trans h4_14
   have h11_15 := (hr 11 rfl).trans h11_14
   have h14_15 := (hr 14 rfl).trans h14_14
   have h15_15 := (hr 15 rfl).trans h15_14
   have h16_15 := (hr 16 rfl).trans h16_14
   have h21_15 := (hr 21 rfl).trans h21_14
   have h22_15 : act15.eval (.tmp 22) = .agg #[.int .i64 ((l.getD k default).kind), .string ((l.getD k default).anchor), .string ((l.getD k default).tag), .string ((l.getD k default).text), .bool ((l.getD k default).plain)] := hv
   have d15 := d15.trans d14
   clear hv hr
   refine EngI.tail_call EngI.free_wide Tryd.func30 (by kernel_rfl) (by kernel_rfl) rfl rfl rfl rfl #[.pointer (some ⟨g13_7, 0, none⟩), .agg #[.int .i64 ((l.getD k default).kind), .string ((l.getD k default).anchor), .string ((l.getD k default).tag), .string ((l.getD k default).text), .bool ((l.getD k default).plain)]] (by have e0 : act15.eval (.tmp 21) = .pointer (some ⟨g13_7, 0, none⟩) := h21_15; have e1 : act15.eval (.tmp 22) = .agg #[.int .i64 ((l.getD k default).kind), .string ((l.getD k default).anchor), .string ((l.getD k default).tag), .string ((l.getD k default).text), .bool ((l.getD k default).plain)] := h22_15; simp only [List.map_toArray, List.map_cons, List.map_nil, e0, e1]) s15 rfl (R := fun v w' => v = .tuple #[.bool (Dc.stepF d (l.getD k default)).2.1, .int .i64 (Dc.stepF d (l.getD k default)).2.2] ∧ Below w.heap.size w w' ∧ Dc.Keep w13 w' g13_7 ∧ ∃ gv' ov' mv', w'.heap[g13_7]? = some (.cells #[gv', ov', mv'] 64 (0, 0)) ∧ ((Dc.stepF d (l.getD k default)).2.2 = 0 → Dc.HS w w' g13_7 gv' ov' mv' st2 (Dc.stepF d (l.getD k default)).1 fin (k + 1) true)) ((Dc.take_all g13_7 gv ov mv (l.getD k default) st st2 d fin k live w _ bl13 og13_7 kg13_7_13 XH_13 ht2 (hsz k hk0) (hasz k hk0) (by omega) htw2.1).mono ?_) fun v_16 w16 act16 R d16 s16 hv hr => ?_
   ·rintro e w1 ⟨rfl, r1⟩; exact ⟨_, rfl, rfl, r1⟩
   have h0_16 := (hr 0 rfl).trans h0_15
   have h2_16 := (hr 2 rfl).trans h2_15
   have h4_16 := (hr 4 rfl).trans h4_15
   have h11_16 := (hr 11 rfl).trans h11_15
   have h14_16 := (hr 14 rfl).trans h14_15
   have h15_16 := (hr 15 rfl).trans h15_15
   have h16_16 := (hr 16 rfl).trans h16_15
   have h23_16 : act16.eval (.tmp 23) = v_16 := hv
   have d16 := d16.trans d15
   clear hv hr
   obtain ⟨ev_16, bl16, kp_16, gv16, ov16, mv16, kb16, hP16⟩ := R
   obtain ⟨er16, her16⟩ : ∃ e, e = (Dc.stepF d (l.getD k default)).2.2 := ⟨_, rfl⟩
   obtain ⟨vr16, hvr16⟩ : ∃ e, e = (Dc.stepF d (l.getD k default)).2.1 := ⟨_, rfl⟩
   rw [ev_16, ← her16, ← hvr16] at h23_16
   rw [← her16] at hP16
   have Oout_16 := Dc.own_keep Oout_13 kp_16 kg13_7_13
   have lb16 := (Array.getElem?_eq_some_iff.1 kb16).1
   refine EngI.tail_val EngI.free_wide rfl rfl rfl rfl (Eng.run_move rfl h23_16) s16 rfl fun act17 d17 s17 hv hr => ?_
   have h0_17 := (hr 0 rfl).trans h0_16
   have h2_17 := (hr 2 rfl).trans h2_16
   have h4_17 := (hr 4 rfl).trans h4_16
   have h11_17 := (hr 11 rfl).trans h11_16
   have h14_17 := (hr 14 rfl).trans h14_16
   have h15_17 := (hr 15 rfl).trans h15_16
   have h16_17 := (hr 16 rfl).trans h16_16
   have h20_17 : act17.eval (.tmp 20) = .tuple #[.bool vr16, .int .i64 er16] := hv
   have d17 := d17.trans d16
   clear hv hr
   refine EngI.tail_val (w1 := w16) (v := .bool vr16) EngI.free_wide rfl rfl rfl rfl ?_ s17 rfl ?_
   ·have e0 : act17.eval (.tmp 20) = .tuple #[.bool vr16, .int .i64 er16] := h20_17
    simp only [execOp, resolve, e0]
    go_simp
   intro act18 d18 s18 hv hr
   have h0_18 := (hr 0 rfl).trans h0_17
   have h2_18 := (hr 2 rfl).trans h2_17
   have h4_18 := (hr 4 rfl).trans h4_17
   have h11_18 := (hr 11 rfl).trans h11_17
   have h14_18 := (hr 14 rfl).trans h14_17
   have h15_18 := (hr 15 rfl).trans h15_17
   have h16_18 := (hr 16 rfl).trans h16_17
   have h20_18 := (hr 20 rfl).trans h20_17
   have h24_18 : act18.eval (.tmp 24) = .bool vr16 := hv
   have d18 := d18.trans d17
   clear hv hr
   refine EngI.tail_val (w1 := w16) (v := .int .i64 er16) EngI.free_wide rfl rfl rfl rfl ?_ s18 rfl ?_
   ·have e0 : act18.eval (.tmp 20) = .tuple #[.bool vr16, .int .i64 er16] := h20_18
    simp only [execOp, resolve, e0]
    go_simp
   intro act19 d19 s19 hv hr
   have h0_19 := (hr 0 rfl).trans h0_18
   have h2_19 := (hr 2 rfl).trans h2_18
   have h4_19 := (hr 4 rfl).trans h4_18
   have h11_19 := (hr 11 rfl).trans h11_18
   have h14_19 := (hr 14 rfl).trans h14_18
   have h15_19 := (hr 15 rfl).trans h15_18
   have h16_19 := (hr 16 rfl).trans h16_18
   have h24_19 := (hr 24 rfl).trans h24_18
   have h25_19 : act19.eval (.tmp 25) = .int .i64 er16 := hv
   have d19 := d19.trans d18
   clear hv hr
   refine EngI.tail_val EngI.free_wide rfl rfl rfl rfl (Eng.run_assign rfl h24_19) s19 rfl fun act20 d20 s20 hv hr => ?_
   have h0_20 := (hr 0 rfl).trans h0_19
   have h2_20 := (hr 2 rfl).trans h2_19
   have h4_20 := (hr 4 rfl).trans h4_19
   have h11_20 := (hr 11 rfl).trans h11_19
   have h14_20 := (hr 14 rfl).trans h14_19
   have h15_20 := (hr 15 rfl).trans h15_19
   have h16_20 := (hr 16 rfl).trans h16_19
   have h25_20 := (hr 25 rfl).trans h25_19
   have h7_20 : act20.eval (.tmp 7) = .bool vr16 := hv
   have d20 := d20.trans d19
   clear hv hr
   refine EngI.tail_val EngI.free_wide rfl rfl rfl rfl (Eng.run_assign rfl h25_20) s20 rfl fun act21 d21 s21 hv hr => ?_
   have h0_21 := (hr 0 rfl).trans h0_20
   have h2_21 := (hr 2 rfl).trans h2_20
   have h4_21 := (hr 4 rfl).trans h4_20
   have h7_21 := (hr 7 rfl).trans h7_20
   have h11_21 := (hr 11 rfl).trans h11_20
   have h14_21 := (hr 14 rfl).trans h14_20
   have h15_21 := (hr 15 rfl).trans h15_20
   have h16_21 := (hr 16 rfl).trans h16_20
   have h8_21 : act21.eval (.tmp 8) = .int .i64 er16 := hv
   have d21 := d21.trans d20
   clear hv hr
   refine EngI.tail_nil ?_
   refine wp_seq ?_
   refine wp_seq ?_
   obtain ⟨q27, Bq27⟩ : ∃ b : Bool, b = (!(er16 == 0)) := ⟨_, rfl⟩
   refine Eng.regionS (Eng.still [fun u_ => u_ = .int .i64 er16, fun u_ => u_ = .bool q27]) (fun _ => .plain) 2 0 39 s21 rfl (by kernel_rfl) (Eng.still_stable _) (Or.inr (Eng.still_any _)) ?_ ?_
   ·refine .c ?_ (.c ?_ (.nil))
    ·exact Eng.pv fun a w' H => Eng.vr rfl (Eng.run_move rfl (H.q 8 h8_21))
    ·refine Eng.pv fun a w' H => ?_
     refine Eng.vr (v := .bool (!(er16 == 0))) (by show _ = Value.bool q27; rw [Bq27]) ?_
     have e0 : a.eval (.tmp 26) = .int .i64 er16 := (H.d 0 26)
     have e1 : a.eval (.const (.int .i64 0)) = .int .i64 0 := rfl
     simp only [execOp, resolve, e0, e1]
     go_simp
     all_goals first | rfl | (simp; done) | (rw [Bool.eq_iff_iff]; simp; done) | omega | (split <;> first | (simp_all; done) | (split <;> simp_all; done)) | skip
   intro act22 w22 T
   have h0_22 := T.r 0 h0_21
   have h2_22 := T.r 2 h2_21
   have h4_22 := T.r 4 h4_21
   have h7_22 := T.r 7 h7_21
   have h8_22 := T.r 8 h8_21
   have h11_22 := T.r 11 h11_21
   have h14_22 := T.r 14 h14_21
   have h15_22 := T.r 15 h15_21
   have h16_22 := T.r 16 h16_21
   have kg13_7_22 := (T.below.block _ lb16).trans kb16
   have lg13_7_22 := Nat.lt_of_lt_of_le lb16 T.below.size
   have Oout_22 := Eng.own_below Oout_16 T.below
   have h27_22 : act22.eval (.tmp 27) = .bool q27 := T.done 1 27 rfl rfl
   have d22 := T.defers.trans d21
   have s22 := T.size.trans s21
   have bl22 := bl16.trans (T.below.mono bl16.size)
   have XP_22 := Dc.pend_below hP16 T.below
   clear T
   refine Eng.tail_nil ?_
   refine wp_cond_split h27_22 (fun hq => ?_) (fun hq => ?_)
   ·
    have c27 := Bq27.symm.trans hq
    clear hq
    have he0 : ¬ er16 = 0 := by simpa using c27
    refine wp_seq ?_
    refine Eng.regionS (Eng.still [fun u_ => u_ = .int .i64 er16, fun u_ => u_ = .slice none 0 0, fun u_ => u_ = .int .i64 er16]) (fun _ => .plain) 3 0 39 s22 rfl (by kernel_rfl) (Eng.still_stable _) (Or.inr (Eng.still_any _)) ?_ ?_
    ·refine .c ?_ (.c ?_ (.c ?_ (.nil)))
     ·exact Eng.pv fun a w' H => Eng.vr rfl (Eng.run_move rfl (H.q 8 h8_22))
     ·exact Eng.pv fun a w' H => Eng.vr rfl (Eng.run_assign rfl (rfl : a.eval (.const (.slice none 0 0)) = .slice none 0 0))
     ·exact Eng.pv fun a w' H => Eng.vr rfl (Eng.run_assign rfl (H.d 0 28))
    intro act24 w24 T
    have h2_24 : act24.eval (.tmp 2) = .slice none 0 0 := T.done 1 2 rfl rfl
    have h3_24 : act24.eval (.tmp 3) = .int .i64 er16 := T.done 2 3 rfl rfl
    have d24 := T.defers.trans d22
    have bl24 := bl22.trans (T.below.mono bl22.size)
    clear T
    refine Eng.tail_nil ?_
    refine wp_ret ?_
    repeat (first | refine Eng.in_ret ?_ | refine Eng.then_ret ?_)
    have hG := (Dc.graphsF_is hnr).trans hrun
    rw [Dc.runF_err hk0 (her16 ▸ he0)] at hG
    exact Eng.ret2 rfl d24 h2_24 h3_24 ⟨_, [], by rw [hG, her16], by rw [hG]; rfl, Dc.fin_nil, fun f hf => absurd hf List.not_mem_nil, bl24⟩
   ·
    have c27 := Bq27.symm.trans hq
    clear hq
    have he0 : er16 = 0 := by simpa using c27
    have H26 := XP_22 he0
    refine wp_skip ?_
    refine wp_seq ?_
    refine Eng.regionS (Eng.still [fun u_ => u_ = .bool vr16]) (fun _ => .plain) 1 0 39 s22 rfl (by kernel_rfl) (Eng.still_stable _) (Or.inr (Eng.still_any _)) ?_ ?_
    ·refine .c ?_ (.nil)
     ·exact Eng.pv fun a w' H => Eng.vr rfl (Eng.run_move rfl (H.q 7 h7_22))
    intro act27 w27 T
    have h0_27 := T.r 0 h0_22
    have h2_27 := T.r 2 h2_22
    have h4_27 := T.r 4 h4_22
    have h11_27 := T.r 11 h11_22
    have h14_27 := T.r 14 h14_22
    have h15_27 := T.r 15 h15_22
    have h16_27 := T.r 16 h16_22
    have kg13_7_27 := (T.below.block _ lg13_7_22).trans kg13_7_22
    have lg13_7_27 := Nat.lt_of_lt_of_le lg13_7_22 T.below.size
    have Oout_27 := Eng.own_below Oout_22 T.below
    have h29_27 : act27.eval (.tmp 29) = .bool vr16 := T.done 0 29 rfl rfl
    have d27 := T.defers.trans d22
    have s27 := T.size.trans s22
    have bl27 := bl22.trans (T.below.mono bl22.size)
    have XH_27 := Dc.HS.below H26 T.below
    clear T
    refine Eng.tail_nil ?_
    refine wp_cond_split h29_27 (fun hq => ?_) (fun hq => ?_)
    ·
     have c29 := hq
     clear hq
     have hov : (Dc.stepF d (l.getD k default)).2.1 = true := by rw [← hvr16]; exact c29
     have hst2 := hover hov
     subst hst2
     obtain ⟨h_, mb_, _, _, hR_, _⟩ := XH_27.doc rfl
     have Og29 := hR_.gr
     have Fg29 := Eng.Reads.of_own Og29
     have H29 := Dc.HS.over XH_27
     refine Eng.regionT (n := 8) rfl ?_
     refine Eng.tail_val rfl rfl rfl (Eng.run_move rfl h2_27) s27 rfl fun act30 d30 s30 hv hr => ?_
     have h0_30 := (hr 0 rfl).trans h0_27
     have h4_30 := (hr 4 rfl).trans h4_27
     have h11_30 := (hr 11 rfl).trans h11_27
     have h14_30 := (hr 14 rfl).trans h14_27
     have h15_30 := (hr 15 rfl).trans h15_27
     have h16_30 := (hr 16 rfl).trans h16_27
     have h30_30 : act30.eval (.tmp 30) = outv := hv
     have d30 := d30.trans d27
     clear hv hr
     refine Eng.tail_val rfl rfl rfl (Eng.run_move rfl h4_30) s30 rfl fun act31 d31 s31 hv hr => ?_
     have h0_31 := (hr 0 rfl).trans h0_30
     have h4_31 := (hr 4 rfl).trans h4_30
     have h11_31 := (hr 11 rfl).trans h11_30
     have h14_31 := (hr 14 rfl).trans h14_30
     have h15_31 := (hr 15 rfl).trans h15_30
     have h16_31 := (hr 16 rfl).trans h16_30
     have h30_31 := (hr 30 rfl).trans h30_30
     have h31_31 : act31.eval (.tmp 31) = .pointer (some ⟨g13_7, 0, none⟩) := hv
     have d31 := d31.trans d30
     clear hv hr
     refine Eng.tail_val (w1 := w27) (v := .pointer (some ⟨g13_7, 0, none⟩)) rfl rfl rfl ?_ s31 rfl ?_
     ·exact Eng.run_nilb rfl h31_31
     intro act32 d32 s32 hv hr
     have h0_32 := (hr 0 rfl).trans h0_31
     have h4_32 := (hr 4 rfl).trans h4_31
     have h11_32 := (hr 11 rfl).trans h11_31
     have h14_32 := (hr 14 rfl).trans h14_31
     have h15_32 := (hr 15 rfl).trans h15_31
     have h16_32 := (hr 16 rfl).trans h16_31
     have h30_32 := (hr 30 rfl).trans h30_31
     have h32_32 : act32.eval (.tmp 32) = .pointer (some ⟨g13_7, 0, none⟩) := hv
     have d32 := d32.trans d31
     clear hv hr
     refine Eng.tail_val (w1 := w27) (v := .pointer (some ⟨g13_7, 0, none⟩)) rfl rfl rfl ?_ s32 rfl ?_
     ·exact Eng.run_fieldb rfl Tryd.underlying64 0 (by kernel_rfl) h32_32
     intro act33 d33 s33 hv hr
     have h0_33 := (hr 0 rfl).trans h0_32
     have h4_33 := (hr 4 rfl).trans h4_32
     have h11_33 := (hr 11 rfl).trans h11_32
     have h14_33 := (hr 14 rfl).trans h14_32
     have h15_33 := (hr 15 rfl).trans h15_32
     have h16_33 := (hr 16 rfl).trans h16_32
     have h30_33 := (hr 30 rfl).trans h30_32
     have h33_33 : act33.eval (.tmp 33) = .pointer (some ⟨g13_7, 0, none⟩) := hv
     have d33 := d33.trans d32
     clear hv hr
     refine Eng.tail_val (w1 := w27) (v := gv16) rfl rfl rfl ?_ s33 rfl ?_
     ·exact Eng.run_loadb rfl h33_33 (((Below.refl _ _).block _ lg13_7_27).trans kg13_7_27) rfl (by kernel_rfl)
     intro act34 d34 s34 hv hr
     have h0_34 := (hr 0 rfl).trans h0_33
     have h4_34 := (hr 4 rfl).trans h4_33
     have h11_34 := (hr 11 rfl).trans h11_33
     have h14_34 := (hr 14 rfl).trans h14_33
     have h15_34 := (hr 15 rfl).trans h15_33
     have h16_34 := (hr 16 rfl).trans h16_33
     have h30_34 := (hr 30 rfl).trans h30_33
     have h34_34 : act34.eval (.tmp 34) = gv16 := hv
     have d34 := d34.trans d33
     clear hv hr
     refine Eng.tail_ex rfl rfl rfl (Eng.run_buildN1 (z := .slice none 0 0) [gv16] rfl Tryd.underlying34 (by kernel_rfl) rfl rfl rfl rfl (by intro v hv; have h := List.mem_singleton.1 hv; rw [h]; exact (Eng.Reads.cells1 Fg29)) (by have e0 : act34.eval (.tmp 34) = gv16 := h34_34; simp [e0])) s34 rfl fun v_35 w35 act35 R d35 s35 hv hr => ?_
     obtain ⟨F_35, b_35⟩ := R
     have h0_35 := (hr 0 rfl).trans h0_34
     have h4_35 := (hr 4 rfl).trans h4_34
     have h11_35 := (hr 11 rfl).trans h11_34
     have h14_35 := (hr 14 rfl).trans h14_34
     have h15_35 := (hr 15 rfl).trans h15_34
     have h16_35 := (hr 16 rfl).trans h16_34
     have h30_35 := (hr 30 rfl).trans h30_34
     have h35_35 : act35.eval (.tmp 35) = v_35 := hv
     have d35 := d35.trans d34
     clear hv hr
     have kg13_7_35 := (b_35.block _ lg13_7_27).trans kg13_7_27
     have lg13_7_35 := Nat.lt_of_lt_of_le lg13_7_27 b_35.size
     have Oout_35 := Eng.own_below Oout_27 b_35
     have Fgrw_35 := Eng.Reads.below Fg29 b_35
     have XH_35 := Dc.HS.below H29 b_35
     have bl35 := bl27.trans (b_35.mono bl27.size)
     refine Eng.tail_ex rfl rfl rfl (Eng.run_appendI (z := .slice none 0 0) rfl Tryd.underlying34 (by kernel_rfl) rfl rfl h30_35 Oout_35 h35_35 F_35 (by intro u hu; simp at hu; subst hu; obtain ⟨A_, c_, e_⟩ := Eng.Reads.shape Fgrw_35; rw [e_]; rfl) (by omega) bl35.size) s35 rfl fun v_36 w36 act36 R d36 s36 hv hr => ?_
     obtain ⟨O_36, _, b_36, G_36, EO_36⟩ := R
     have h0_36 := (hr 0 rfl).trans h0_35
     have h4_36 := (hr 4 rfl).trans h4_35
     have h11_36 := (hr 11 rfl).trans h11_35
     have h14_36 := (hr 14 rfl).trans h14_35
     have h15_36 := (hr 15 rfl).trans h15_35
     have h16_36 := (hr 16 rfl).trans h16_35
     have h36_36 : act36.eval (.tmp 36) = v_36 := hv
     have d36 := d36.trans d35
     clear hv hr
     have kg13_7_36 := (G_36.block _ lg13_7_35 (Eng.own_ne Oout_35 kg13_7_35 rfl)).trans kg13_7_35
     have lg13_7_36 := Nat.lt_of_lt_of_le lg13_7_35 G_36.size
     have XH_36 := Dc.HS.grown XH_35 Oout_35 G_36
     have bl36 := bl35.trans b_36
     have Oa36 : w36.ownsRow w.heap.size 48 1 v_36 (fin ++ [((Dc.stepF d (l.getD k default)).1.nodes, gv16)]).length (List.map (·.2) (fin ++ [((Dc.stepF d (l.getD k default)).1.nodes, gv16)])) := Dc.fin_snoc O_36
     have Fa36 := Eng.Reads.of_own Oa36
     refine Eng.tail_val rfl rfl rfl (Eng.run_assign rfl h36_36) s36 rfl fun act37 d37 s37 hv hr => ?_
     have h0_37 := (hr 0 rfl).trans h0_36
     have h4_37 := (hr 4 rfl).trans h4_36
     have h11_37 := (hr 11 rfl).trans h11_36
     have h14_37 := (hr 14 rfl).trans h14_36
     have h15_37 := (hr 15 rfl).trans h15_36
     have h16_37 := (hr 16 rfl).trans h16_36
     have h2_37 : act37.eval (.tmp 2) = v_36 := hv
     have d37 := d37.trans d36
     clear hv hr
     refine Eng.tail_nil ?_
     refine Eng.regionS (Eng.still [fun u_ => u_ = .int .i64 (IntKind.i64.wrap ((k : Nat) + 1)), fun u_ => u_ = .int .i64 (IntKind.i64.wrap ((k : Nat) + 1))]) (fun _ => .plain) 2 0 39 s37 rfl (by kernel_rfl) (Eng.still_stable _) (Or.inr (Eng.still_any _)) ?_ ?_
     ·refine .c ?_ (.c ?_ (.nil))
      ·refine Eng.pv fun a w' H => ?_
       refine Eng.vr (v := .int .i64 (IntKind.i64.wrap ((k : Nat) + 1))) rfl ?_
       have e0 := (H.q 16 h16_37)
       have e1 : a.eval (.const (.int .i64 1)) = .int .i64 1 := rfl
       simp only [execOp, resolve, e0, e1]
       go_simp
      ·exact Eng.pv fun a w' H => Eng.vr rfl (Eng.run_move rfl (H.d 0 37))
     intro act38 w38 T
     have h0_38 := T.r 0 h0_37
     have h2_38 := T.r 2 h2_37
     have h4_38 := T.r 4 h4_37
     have h11_38 := T.r 11 h11_37
     have h14_38 := T.r 14 h14_37
     have h15_38 := T.r 15 h15_37
     have kg13_7_38 := (T.below.block _ lg13_7_36).trans kg13_7_36
     have lg13_7_38 := Nat.lt_of_lt_of_le lg13_7_36 T.below.size
     have Oa36_38 := Eng.own_below Oa36 T.below
     have h16_38 : act38.eval (.tmp 16) = .int .i64 (IntKind.i64.wrap ((k : Nat) + 1)) := T.done 1 16 rfl rfl
     have d38 := T.defers.trans d37
     have s38 := T.size.trans s37
     have bl38 := bl36.trans (T.below.mono bl36.size)
     have XH_38 := Dc.HS.below XH_36 T.below
     clear T
     refine Eng.tail_nil ?_
     exact ⟨_, by omega, k + 1, gv16, ov16, mv16, v_36, [], (Dc.stepF d (l.getD k default)).1, (fin ++ [((Dc.stepF d (l.getD k default)).1.nodes, gv16)]), false, rfl, by omega, hrr2, (by rw [hrun, Dc.runF_step hk0 (her16 ▸ he0), if_pos hov]; simp), XH_38, Oa36_38, htw2.2, (by simp; omega), d38, s38, bl38, h0_38, (h2_38.trans (by first | rfl | (congr 1; rw [Eng.i64_id (by omega) (by omega)]; omega) | (simp; done))), h4_38, h11_38, h14_38, h15_38, (h16_38.trans (by first | rfl | (congr 1; rw [Eng.i64_id (by omega) (by omega)]; omega) | (simp; done))), (kg13_7_38.trans (by first | rfl | (simp; done))), lg13_7_38⟩
    ·
     have c29 := hq
     clear hq
     have hov : ¬ (Dc.stepF d (l.getD k default)).2.1 = true := by rw [← hvr16]; simpa using c29
     refine wp_skip ?_
     refine Eng.regionS (Eng.still [fun u_ => u_ = .int .i64 (IntKind.i64.wrap ((k : Nat) + 1)), fun u_ => u_ = .int .i64 (IntKind.i64.wrap ((k : Nat) + 1))]) (fun _ => .plain) 2 0 39 s27 rfl (by kernel_rfl) (Eng.still_stable _) (Or.inr (Eng.still_any _)) ?_ ?_
     ·refine .c ?_ (.c ?_ (.nil))
      ·refine Eng.pv fun a w' H => ?_
       refine Eng.vr (v := .int .i64 (IntKind.i64.wrap ((k : Nat) + 1))) rfl ?_
       have e0 := (H.q 16 h16_27)
       have e1 : a.eval (.const (.int .i64 1)) = .int .i64 1 := rfl
       simp only [execOp, resolve, e0, e1]
       go_simp
      ·exact Eng.pv fun a w' H => Eng.vr rfl (Eng.run_move rfl (H.d 0 37))
     intro act40 w40 T
     have h0_40 := T.r 0 h0_27
     have h2_40 := T.r 2 h2_27
     have h4_40 := T.r 4 h4_27
     have h11_40 := T.r 11 h11_27
     have h14_40 := T.r 14 h14_27
     have h15_40 := T.r 15 h15_27
     have kg13_7_40 := (T.below.block _ lg13_7_27).trans kg13_7_27
     have lg13_7_40 := Nat.lt_of_lt_of_le lg13_7_27 T.below.size
     have Oout_40 := Eng.own_below Oout_27 T.below
     have h16_40 : act40.eval (.tmp 16) = .int .i64 (IntKind.i64.wrap ((k : Nat) + 1)) := T.done 1 16 rfl rfl
     have d40 := T.defers.trans d27
     have s40 := T.size.trans s27
     have bl40 := bl27.trans (T.below.mono bl27.size)
     have XH_40 := Dc.HS.below XH_27 T.below
     clear T
     refine Eng.tail_nil ?_
     exact ⟨_, by omega, k + 1, gv16, ov16, mv16, outv, st2, (Dc.stepF d (l.getD k default)).1, fin, true, rfl, by omega, hrr2, (by rw [hrun, Dc.runF_step hk0 (her16 ▸ he0), if_neg hov]), XH_40, Oout_40, htw2.2, (by omega), d40, s40, bl40, h0_40, (h2_40.trans (by first | rfl | (congr 1; rw [Eng.i64_id (by omega) (by omega)]; omega) | (simp; done))), h4_40, h11_40, h14_40, h15_40, (h16_40.trans (by first | rfl | (congr 1; rw [Eng.i64_id (by omega) (by omega)]; omega) | (simp; done))), (kg13_7_40.trans (by first | rfl | (simp; done))), lg13_7_40⟩
  ·
   have c17 := Bq17.symm.trans hq
   clear hq
   have c17 := of_decide_eq_false c17
   have hke : k = l.length := by omega
   refine wp_exit ?_
   refine wp_seq ?_
   refine Eng.regionS (Eng.still [fun u_ => u_ = outv, fun u_ => u_ = outv, fun u_ => u_ = .int .i64 0]) (fun _ => .plain) 3 0 39 s11 rfl (by kernel_rfl) (Eng.still_stable _) (Or.inr (Eng.still_any _)) ?_ ?_
   ·refine .c ?_ (.c ?_ (.c ?_ (.nil)))
    ·exact Eng.pv fun a w' H => Eng.vr rfl (Eng.run_move rfl (H.q 2 h2_11))
    ·exact Eng.pv fun a w' H => Eng.vr rfl (Eng.run_assign rfl (H.d 0 38))
    ·exact Eng.pv fun a w' H => Eng.vr rfl (Eng.run_assign rfl (rfl : a.eval (.const (.int .i64 0)) = .int .i64 0))
   intro act42 w42 T
   have Oout_42 := Eng.own_below Oout_11 T.below
   have h2_42 : act42.eval (.tmp 2) = outv := T.done 1 2 rfl rfl
   have h3_42 : act42.eval (.tmp 3) = .int .i64 0 := T.done 2 3 rfl rfl
   have d42 := T.defers.trans d11
   have bl42 := bl11.trans (T.below.mono bl11.size)
   have XH_42 := Dc.HS.below XH_11 T.below
   clear T
   refine Eng.tail_nil ?_
   refine wp_ret ?_
   repeat (first | refine Eng.in_ret ?_ | refine Eng.then_ret ?_)
   have hG := (Dc.graphsF_is hnr).trans hrun
   rw [Dc.runF_end hke] at hG
   exact Eng.ret2 rfl d42 h2_42 h3_42 ⟨_, fin, by rw [hG], by rw [hG], Oout_42, XH_42.fins, bl42⟩
end Go.Proofs.YtgnmjaacnmkgnaaDoor.X
end
section
namespace Go.Proofs.YtgnmjaacnmkgnaaDoor.X
open Go.RowKit Go.Shelf Go.Proofs Go.Maps Go.WideMaps
set_option linter.unusedVariables false
set_option linter.unusedSimpArgs false
namespace Dc
theorem twiceF_plain {nodes : List Nd} (h : ∀ n ∈ nodes, n.kind ≠ 2) : twiceF nodes = false := by
  unfold twiceF
  rw [List.any_eq_false]
  intro n hn
  unfold dupNode
  have : (n.kind == 2) = false := by simpa using h n hn
  rw [this]; simp
theorem plain_at {h : List NV} (hp : ∀ n ∈ h.map (·.1), n.kind ≠ 2) {k : Nat} (hk : k < h.length) : (h.getD k default).1.kind ≠ 2 := by
  refine hp _ (List.mem_map.2 ⟨h.getD k default, ?_, rfl⟩)
  rw [List.getD_eq_getElem?_getD, List.getElem?_eq_getElem hk]; exact List.getElem_mem hk
end Dc
namespace Evt
def heavyE (x : Ev) : Bool := (decide ((x.text.size : Int) > 2000) || decide ((x.anchor.size : Int) > 2000)) || decide ((x.tag.size : Int) > 2000)
def heavyL (l : List Ev) : Bool := l.any heavyE || decide ((l.length : Int) > 150)
theorem heavy_take {l : List Ev} {k : Nat} (hk : k < l.length) (h : (l.take k).any heavyE = false) (h2 : heavyE (l.getD k default) = false) : (l.take (k + 1)).any heavyE = false := by
  rw [Rwt.take_one hk, List.any_append, h, Bool.false_or, List.any_cons, h2]; rfl
theorem heavy_at {l : List Ev} {k : Nat} (hk : k < l.length) (h2 : heavyE (l.getD k default) = true) : heavyL l = true := by
  unfold heavyL
  rw [Bool.or_eq_true]; left
  rw [List.any_eq_true]
  refine ⟨l.getD k default, ?_, h2⟩
  rw [List.getD_eq_getElem?_getD, List.getElem?_eq_getElem hk]; exact List.getElem_mem hk
end Evt
end Go.Proofs.YtgnmjaacnmkgnaaDoor.X
end
