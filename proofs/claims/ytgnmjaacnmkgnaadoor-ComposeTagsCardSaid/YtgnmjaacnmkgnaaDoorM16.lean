/- Words and walks that the row of ComposeTags needs: printed by programs, and plain laws. -/
import Derived.Test.YtgnmjaacnmkgnaaDoorM15
namespace Go.Proofs.YtgnmjaacnmkgnaaDoorW.PrintWords
end Go.Proofs.YtgnmjaacnmkgnaaDoorW.PrintWords
namespace Go.Proofs.YtgnmjaacnmkgnaaDoorW.PrintLast
end Go.Proofs.YtgnmjaacnmkgnaaDoorW.PrintLast
namespace Go.Proofs.YtgnmjaacnmkgnaaDoorW.PrintMore
end Go.Proofs.YtgnmjaacnmkgnaaDoorW.PrintMore
section
namespace Go.Proofs.YtgnmjaacnmkgnaaDoor.X
open Go.RowKit Go.Shelf Go.Proofs Go.Proofs.YtgnmjaacnmkgnaaDoorW.PrintWords Go.Proofs.YtgnmjaacnmkgnaaDoorW.PrintLast Go.Proofs.YtgnmjaacnmkgnaaDoorW.PrintMore
set_option linter.unusedVariables false
set_option linter.unusedSimpArgs false
attribute [local go_sem] max2_int min2_int max_two min_two
set_option maxHeartbeats 4000000 in
set_option maxRecDepth 100000 in
theorem Dc.Graphs_calls (v : Value) (l : List Evt.Ev) (w : World) (hT : Tabs.Holds w) (hl : Eng.Reads w v l.length 5 (Evt.cells l)) (hlen : l.length ≤ 100000) (hsz : ∀ k, k < l.length → (l.getD k default).text.size ≤ 2000) (hasz : ∀ k, k < l.length → (l.getD k default).anchor.size ≤ maxLen) (htw0 : Dc.TwAll ⟨[], [], []⟩ l) : Calls Tryd.prog 12 #[v] w fun e w' => ∃ outv fin, e = .returned (.tuple #[outv, .int .i64 (Dc.graphsF l).2]) ∧ List.map (·.1) fin = (Dc.graphsF l).1 ∧ w'.ownsRow w.heap.size 48 1 outv fin.length (List.map (·.2) fin) ∧ (∀ f ∈ fin, Dc.Fin w w' f (fun _ => False)) ∧ Below w.heap.size w w' := by
 have hm := Eng.Reads.len_le hl
 refine Eng.enter Tryd.func12 rfl fun act0 d0 s0 v0 => ?_
 have s0 : act0.tmps.size = 39 := s0
 have h0_0 : act0.eval (.tmp 0) = v := v0 0 (by simp)
 clear v0
 have bl0 : Below w.heap.size w w := Below.refl _ _
 refine wp_seq ?_
 refine Eng.regionS (Eng.still [fun u_ => u_ = .slice none 0 0, fun u_ => u_ = .int .i64 0]) (fun _ => .plain) 2 0 39 s0 rfl (by kernel_rfl) (Eng.still_stable _) (Or.inr (Eng.still_any _)) ?_ ?_
 ·refine .cons (fun _ => ?_) (.cons (fun _ => ?_) (.nil))
  ·exact Eng.plain rfl rfl fun a w' H => Eng.vr rfl (Eng.run_assign rfl (rfl : a.eval (.const (.slice none 0 0)) = .slice none 0 0))
  ·exact Eng.plain rfl rfl fun a w' H => Eng.vr rfl (Eng.run_assign rfl (rfl : a.eval (.const (.int .i64 0)) = .int .i64 0))
 intro act1 w1 T
 have h0_1 := (T.rest 0 (by kernel_rfl)).trans h0_0
 have Fl_1 := Eng.Reads.below hl T.below
 have h2_1 : act1.eval (.tmp 2) = .slice none 0 0 := T.done 0 2 rfl rfl
 have d1 := T.defers.trans d0
 have s1 := T.size.trans s0
 have bl1 := bl0.trans (T.below.mono bl0.size)
 clear T
 refine Eng.tail_nil ?_
 refine wp_seq ?_
 refine wp_seq ?_
 obtain ⟨q10, Bq10⟩ : ∃ b : Bool, b = (Evt.rightG Evt.rightE l) := ⟨_, rfl⟩
 obtain ⟨q11, Bq11⟩ : ∃ b : Bool, b = (!q10) := ⟨_, rfl⟩
 refine Eng.regionS (Eng.still [fun u_ => u_ = v, fun u_ => u_ = .bool q10, fun u_ => u_ = .bool q11]) (fun _ => .plain) 3 0 39 s1 rfl (by kernel_rfl) (Eng.still_stable _) (Or.inr (Eng.still_any _)) ?_ ?_
 ·refine .cons (fun _ => ?_) (.cons (fun _ => ?_) (.cons (fun _ => ?_) (.nil)))
  ·exact Eng.plain rfl rfl fun a w' H => Eng.vr rfl (Eng.run_move rfl ((H.kept 0 (by kernel_rfl)).trans h0_1))
  ·refine Eng.plain rfl rfl fun a w' H => ?_
   refine Eng.call Tryd.func17 (by kernel_rfl) (by kernel_rfl) rfl #[v] ?_ ?_
   ·have e0 : a.eval (.tmp 9) = v := (H.dep 0 9 (by kernel_rfl) rfl); simp only [List.map_toArray, List.map_cons, List.map_nil, e0]
   refine (Evt.Right_calls v l _ (Tabs.below (Tabs.below hT bl1) H.below) (Eng.Reads.below Fl_1 H.below) (fun k hk => Nat.le_trans (hsz k hk) (by decide)) (by omega)).mono ?_
   rintro e w'' ⟨rfl, hb⟩
   exact ⟨_, rfl, (by show _ = Value.bool q10; rw [Bq10]), hb⟩
  ·exact Eng.plain rfl rfl fun a w' H => Eng.vr (v := .bool (!q10)) (by show _ = Value.bool q11; rw [Bq11]) (Eng.run_not rfl (H.dep 1 10 (by kernel_rfl) rfl))
 intro act2 w2 T
 have h0_2 := (T.rest 0 (by kernel_rfl)).trans h0_1
 have h2_2 := (T.rest 2 (by kernel_rfl)).trans h2_1
 have Fl_2 := Eng.Reads.below Fl_1 T.below
 have h11_2 : act2.eval (.tmp 11) = .bool q11 := T.done 2 11 rfl rfl
 have d2 := T.defers.trans d1
 have s2 := T.size.trans s1
 have bl2 := bl1.trans (T.below.mono bl1.size)
 clear T
 refine Eng.tail_nil ?_
 refine wp_cond_split h11_2 (fun hq => ?_) (fun hq => ?_)
 ·
  have c11 := Bq11.symm.trans hq
  clear hq
  have hnr : Evt.rightG Evt.rightE l = false := by have h1 := c11; rw [Bq10] at h1; simpa using h1
  refine wp_seq ?_
  refine Eng.regionS (Eng.still [fun u_ => u_ = .slice none 0 0, fun u_ => u_ = .int .i64 5]) (fun _ => .plain) 2 0 39 s2 rfl (by kernel_rfl) (Eng.still_stable _) (Or.inr (Eng.still_any _)) ?_ ?_
  ·refine .cons (fun _ => ?_) (.cons (fun _ => ?_) (.nil))
   ·exact Eng.plain rfl rfl fun a w' H => Eng.vr rfl (Eng.run_assign rfl (rfl : a.eval (.const (.slice none 0 0)) = .slice none 0 0))
   ·exact Eng.plain rfl rfl fun a w' H => Eng.vr rfl (Eng.run_assign rfl (rfl : a.eval (.const (.int .i64 5)) = .int .i64 5))
  intro act4 w4 T
  have h2_4 : act4.eval (.tmp 2) = .slice none 0 0 := T.done 0 2 rfl rfl
  have h3_4 : act4.eval (.tmp 3) = .int .i64 5 := T.done 1 3 rfl rfl
  have d4 := T.defers.trans d2
  have bl4 := bl2.trans (T.below.mono bl2.size)
  clear T
  refine Eng.tail_nil ?_
  refine wp_ret ?_
  repeat (first | refine Eng.in_ret ?_ | refine Eng.then_ret ?_)
  exact Eng.ret2 rfl d4 h2_4 h3_4 ⟨_, [], by rw [Dc.graphsF_no hnr], by rw [Dc.graphsF_no hnr]; rfl, Dc.fin_nil, fun f hf => absurd hf List.not_mem_nil, bl4⟩
 ·
  have c11 := Bq11.symm.trans hq
  clear hq
  have hnr : Evt.rightG Evt.rightE l = true := by have h1 := c11; rw [Bq10] at h1; simpa using h1
  refine wp_skip ?_
  refine wp_seq ?_
  refine Eng.regionT (n := 3) rfl ?_
  refine Eng.tail_val (w1 := w2) (v := .agg #[.slice none 0 0, .slice none 0 0, .map none]) rfl rfl rfl ?_ s2 rfl ?_
  ·simp only [execOp, resolve]
   go_simp
  intro act6 d6 s6 hv hr
  have h0_6 := (hr 0 rfl).trans h0_2
  have h2_6 := (hr 2 rfl).trans h2_2
  have h11_6 := (hr 11 rfl).trans h11_2
  have h12_6 : act6.eval (.tmp 12) = .agg #[.slice none 0 0, .slice none 0 0, .map none] := hv
  have d6 := d6.trans d2
  clear hv hr
  refine Eng.tail_ex rfl rfl rfl (Eng.box_ex (cs := #[.slice none 0 0, .slice none 0 0, .map none]) rfl h12_6 (by rfl)) s6 rfl fun v_7 w7 act7 R d7 s7 hv hr => ?_
  obtain ⟨g13_7, ev_7, rg_7, lg13_7, kg13_7, b_7⟩ := R
  have h0_7 := (hr 0 rfl).trans h0_6
  have h2_7 := (hr 2 rfl).trans h2_6
  have h11_7 := (hr 11 rfl).trans h11_6
  have h13_7 : act7.eval (.tmp 13) = v_7 := hv
  have d7 := d7.trans d6
  clear hv hr
  have og13_7 : w.heap.size ≤ g13_7 := Nat.le_trans bl2.size rg_7
  have Fl_7 := Eng.Reads.below Fl_2 b_7
  have bl7 := bl2.trans (b_7.mono bl2.size)
  rw [ev_7] at h13_7
  refine Eng.tail_val rfl rfl rfl (Eng.run_assign rfl h13_7) s7 rfl fun act8 d8 s8 hv hr => ?_
  have h0_8 := (hr 0 rfl).trans h0_7
  have h2_8 := (hr 2 rfl).trans h2_7
  have h11_8 := (hr 11 rfl).trans h11_7
  have h4_8 : act8.eval (.tmp 4) = .pointer (some ⟨g13_7, 0, none⟩) := hv
  have d8 := d8.trans d7
  clear hv hr
  refine Eng.tail_nil ?_
  refine wp_seq ?_
  refine wp_seq ?_
  refine Eng.regionS (Eng.still [fun u_ => u_ = v, fun u_ => u_ = .int .i64 ((l.length : Nat) : Int), fun u_ => u_ = .int .i64 0]) (fun _ => .plain) 3 0 39 s8 rfl (by kernel_rfl) (Eng.still_stable _) (Or.inr (Eng.still_any _)) ?_ ?_
  ·refine .cons (fun _ => ?_) (.cons (fun _ => ?_) (.cons (fun _ => ?_) (.nil)))
   ·exact Eng.plain rfl rfl fun a w' H => Eng.vr rfl (Eng.run_move rfl ((H.kept 0 (by kernel_rfl)).trans h0_8))
   ·exact Eng.plain rfl rfl fun a w' H => Eng.vr (v := .int .i64 ((l.length : Nat) : Int)) rfl (Eng.run_len_sl rfl Tryd.underlying37 (show a.eval (.tmp 14) = v from (H.dep 0 14 (by kernel_rfl) rfl)) (Eng.Reads.below Fl_7 H.below))
   ·exact Eng.plain rfl rfl fun a w' H => Eng.vr rfl (Eng.run_move rfl (rfl : a.eval (.const (.int .i64 0)) = .int .i64 0))
  intro act9 w9 T
  have h0_9 := (T.rest 0 (by kernel_rfl)).trans h0_8
  have h2_9 := (T.rest 2 (by kernel_rfl)).trans h2_8
  have h4_9 := (T.rest 4 (by kernel_rfl)).trans h4_8
  have h11_9 := (T.rest 11 (by kernel_rfl)).trans h11_8
  have kg13_7_9 := (T.below.block _ lg13_7).trans kg13_7
  have lg13_7_9 := Nat.lt_of_lt_of_le lg13_7 T.below.size
  have h14_9 : act9.eval (.tmp 14) = v := T.done 0 14 rfl rfl
  have h15_9 : act9.eval (.tmp 15) = .int .i64 ((l.length : Nat) : Int) := T.done 1 15 rfl rfl
  have h16_9 : act9.eval (.tmp 16) = .int .i64 0 := T.done 2 16 rfl rfl
  have d9 := T.defers.trans d8
  have s9 := T.size.trans s8
  have bl9 := bl7.trans (T.below.mono bl7.size)
  clear T
  refine Eng.tail_nil ?_
  refine wp_block ?_
  refine Eng.loopN (fun n a w' => ∃ (k : Nat) (gv : Value) (ov : Value) (mv : Value) (outv : Value) (st : List (Int × Int)) (d : Dc.Dc) (fin : List (List Dc.Nd × Value)) (live : Bool), l.length - k = n ∧ (k ≤ l.length) ∧ (Evt.rightR Evt.rightE st (List.drop k l) = true) ∧ (Dc.runF ⟨[], [], []⟩ [] l = Dc.runF d (List.map (·.1) fin) (List.drop k l)) ∧ (Dc.HS w w' g13_7 gv ov mv st d fin k live) ∧ (w'.ownsRow w.heap.size 48 1 outv (List.length fin) (List.map (·.2) fin)) ∧ (Dc.TwAll d (List.drop k l)) ∧ (List.length fin ≤ k) ∧ a.defers = [] ∧ a.tmps.size = 39 ∧ Below w.heap.size w w' ∧ a.eval (.tmp 0) = v ∧ a.eval (.tmp 2) = outv ∧ a.eval (.tmp 4) = .pointer (some ⟨g13_7, 0, none⟩) ∧ a.eval (.tmp 11) = .bool q11 ∧ a.eval (.tmp 14) = v ∧ a.eval (.tmp 15) = .int .i64 ((l.length : Nat) : Int) ∧ a.eval (.tmp 16) = .int .i64 (k : Nat) ∧ w'.heap[g13_7]? = some (.cells (#[gv, ov, mv]) 64 (0, 0)) ∧ g13_7 < w'.heap.size) (n0 := l.length - 0) ?_ ?_
  ·exact ⟨0, .slice none 0 0, .slice none 0 0, .map none, .slice none 0 0, [], ⟨[], [], []⟩, [], false, rfl, by omega, Dc.rightG_R hnr, rfl, Dc.HS.start, Dc.fin_nil, htw0, by simp, d9, s9, bl9, h0_9, (h2_9.trans (by first | rfl | (congr 1; rw [Eng.i64_id (by omega) (by omega)]; omega) | (simp; done))), h4_9, h11_9, h14_9, h15_9, (h16_9.trans (by first | rfl | (congr 1; rw [Eng.i64_id (by omega) (by omega)]; omega) | (simp; done))), (kg13_7_9.trans (by first | rfl | (simp; done))), lg13_7_9⟩
  rintro n act10 w10 ⟨k, gv, ov, mv, outv, st, d, fin, live, rfl, hc0_10, hc1_10, hc2_10, hc3_10, hc4_10, hc5_10, hc6_10, d10, s10, bl10, h0_10, h2_10, h4_10, h11_10, h14_10, h15_10, h16_10, kg13_7_10, lg13_7_10⟩
  have Fl_10 := Eng.Reads.below hl bl10
  have hk1 := hc0_10
  have hrr := hc1_10
  have hrun := hc2_10
  have htw := hc5_10
  have hfl := hc6_10
  refine wp_seq ?_
  obtain ⟨q17, Bq17⟩ : ∃ b : Bool, b = (decide ((k : Nat) < ((l.length : Nat) : Int))) := ⟨_, rfl⟩
  refine Eng.regionS (Eng.still [fun u_ => u_ = .bool q17]) (fun _ => .plain) 1 0 39 s10 rfl (by kernel_rfl) (Eng.still_stable _) (Or.inr (Eng.still_any _)) ?_ ?_
  ·refine .cons (fun _ => ?_) (.nil)
   ·refine Eng.plain rfl rfl fun a w' H => ?_
    refine Eng.vr (v := .bool (decide ((k : Nat) < ((l.length : Nat) : Int)))) (by show _ = Value.bool q17; rw [Bq17]) ?_
    have e0 := ((H.kept 16 (by kernel_rfl)).trans h16_10)
    have e1 := ((H.kept 15 (by kernel_rfl)).trans h15_10)
    simp only [execOp, resolve, e0, e1]
    go_simp
  intro act11 w11 T
  have h0_11 := (T.rest 0 (by kernel_rfl)).trans h0_10
  have h2_11 := (T.rest 2 (by kernel_rfl)).trans h2_10
  have h4_11 := (T.rest 4 (by kernel_rfl)).trans h4_10
  have h11_11 := (T.rest 11 (by kernel_rfl)).trans h11_10
  have h14_11 := (T.rest 14 (by kernel_rfl)).trans h14_10
  have h15_11 := (T.rest 15 (by kernel_rfl)).trans h15_10
  have h16_11 := (T.rest 16 (by kernel_rfl)).trans h16_10
  have kg13_7_11 := (T.below.block _ lg13_7_10).trans kg13_7_10
  have lg13_7_11 := Nat.lt_of_lt_of_le lg13_7_10 T.below.size
  have Fl_11 := Eng.Reads.below Fl_10 T.below
  have Oout_11 := Eng.own_below hc4_10 T.below
  have h17_11 : act11.eval (.tmp 17) = .bool q17 := T.done 0 17 rfl rfl
  have d11 := T.defers.trans d10
  have s11 := T.size.trans s10
  have bl11 := bl10.trans (T.below.mono bl10.size)
  have XH_11 := Dc.HS.below hc3_10 T.below
  clear T
  refine Eng.tail_nil ?_
  refine wp_seq ?_
  refine wp_cond_split h17_11 (fun hq => ?_) (fun hq => ?_)
  ·
   have c17 := Bq17.symm.trans hq
   clear hq
   have c17 := of_decide_eq_true c17
   have hk0 : k < l.length := by omega
   obtain ⟨st2, ht2, hrr2⟩ := Evt.rightR_step hk0 hrr
   have htw2 := Dc.twall_step hk0 htw
   have hover := Dc.over_st XH_11 ht2
   refine wp_skip ?_
   refine wp_seq ?_
   refine wp_block ?_
   refine wp_seq ?_
   refine Eng.regionS (Eng.still [fun u_ => u_ = Eng.elemPtr v (k * 5), fun u_ => u_ = .agg #[.int .i64 ((l.getD k default).kind), .string ((l.getD k default).anchor), .string ((l.getD k default).tag), .string ((l.getD k default).text), .bool ((l.getD k default).plain)], fun u_ => True, fun u_ => True]) (fun i => ([.plain, .plain, .alloc 30 #[.int .i64 0, .string ⟨#[]⟩, .string ⟨#[]⟩, .string ⟨#[]⟩, .bool false], .store 2 #[.int .i64 ((l.getD k default).kind), .string ((l.getD k default).anchor), .string ((l.getD k default).tag), .string ((l.getD k default).text), .bool ((l.getD k default).plain)]] : List Eng.Kind).getD i .plain) 4 0 39 s11 rfl (by kernel_rfl) (Eng.still_stable _) (Or.inr (Eng.still_any _)) ?_ ?_
   ·refine .cons (fun _ => ?_) (.cons (fun _ => ?_) (.cons (fun _ => ?_) (.cons (fun _ => ?_) (.nil))))
    ·exact Eng.plain rfl rfl fun a w' H => Eng.vr (v := Eng.elemPtr v (k * 5)) rfl (Eng.run_index_sl rfl Tryd.underlying37 (by kernel_rfl) (show a.eval (.tmp 14) = v from ((H.kept 14 (by kernel_rfl)).trans h14_11)) ((show a.eval (.tmp 16) = .int .i64 (k : Nat) from ((H.kept 16 (by kernel_rfl)).trans h16_11)).trans (congrArg (Value.int _) (show (k : Nat) = ((k : Nat) : Int) from by omega))) (Eng.Reads.below Fl_11 H.below) (by omega) rfl)
    ·exact Eng.plain rfl rfl fun a w' H => Eng.vr (v := .agg #[.int .i64 ((l.getD k default).kind), .string ((l.getD k default).anchor), .string ((l.getD k default).tag), .string ((l.getD k default).text), .bool ((l.getD k default).plain)]) rfl (Eng.run_load_els [.int .i64 ((l.getD k default).kind), .string ((l.getD k default).anchor), .string ((l.getD k default).tag), .string ((l.getD k default).text), .bool ((l.getD k default).plain)] rfl (show a.eval (.tmp 18) = Eng.elemPtr v (k * 5) from (H.dep 0 18 (by kernel_rfl) rfl)) (Eng.Reads.below Fl_11 H.below) (Evt.cells_at l k (by omega)) rfl Tryd.underlying30 rfl (by kernel_rfl))
    ·refine Eng.made rfl (by simp) rfl (fun a w' hd ho => ?_) (fun _ _ => trivial)
     simp only [execOp]
     go_simp
    ·refine Eng.stored [.int .i64 ((l.getD k default).kind), .string ((l.getD k default).anchor), .string ((l.getD k default).tag), .string ((l.getD k default).text), .bool ((l.getD k default).plain)] rfl rfl rfl (j := 2) (d := 6) (by kernel_rfl) rfl rfl (Eng.store_uniq (by kernel_rfl)) rfl rfl fun a w' g e hc hd ho => ?_
     have e0 : a.eval _ = .agg #[.int .i64 ((l.getD k default).kind), .string ((l.getD k default).anchor), .string ((l.getD k default).tag), .string ((l.getD k default).text), .bool ((l.getD k default).plain)] := (hd 1 19 (by kernel_rfl) rfl)
     have z0 := (Eng.cells hc 0).trans rfl
     have z1 := (Eng.cells hc 1).trans rfl
     have z2 := (Eng.cells hc 2).trans rfl
     have z3 := (Eng.cells hc 3).trans rfl
     have z4 := (Eng.cells hc 4).trans rfl
     have f0 := Eng.unfrozen hc 0
     have f1 := Eng.unfrozen hc 1
     have f2 := Eng.unfrozen hc 2
     have f3 := Eng.unfrozen hc 3
     have f4 := Eng.unfrozen hc 4
     simp only [execOp, e, e0]
     go_simp
     rfl
   intro act13 w13 T
   have h0_13 := (T.rest 0 (by kernel_rfl)).trans h0_11
   have h2_13 := (T.rest 2 (by kernel_rfl)).trans h2_11
   have h4_13 := (T.rest 4 (by kernel_rfl)).trans h4_11
   have h11_13 := (T.rest 11 (by kernel_rfl)).trans h11_11
   have h14_13 := (T.rest 14 (by kernel_rfl)).trans h14_11
   have h15_13 := (T.rest 15 (by kernel_rfl)).trans h15_11
   have h16_13 := (T.rest 16 (by kernel_rfl)).trans h16_11
   have kg13_7_13 := (T.below.block _ lg13_7_11).trans kg13_7_11
   have Oout_13 := Eng.own_below Oout_11 T.below
   obtain ⟨g6_13, h6_13, rg6_13, lg6_13_13, kg6_13_13⟩ := T.st 2 6 3 _ _ _ rfl rfl rfl rfl rfl
   have d13 := T.defers.trans d11
   have s13 := T.size.trans s11
   have bl13 := bl11.trans (T.below.mono bl11.size)
   have XH_13 := Dc.HS.below XH_11 T.below
   clear T
   refine Eng.tail_nil ?_
   refine wp_seq ?_
   refine (wpIn_wide (n := 1)).1 ?_
   refine EngI.regionT (n := 8) rfl ?_
   refine EngI.tail_val EngI.free_wide rfl rfl rfl rfl (Eng.run_move rfl h4_13) s13 rfl fun act14 d14 s14 hv hr => ?_
   have h0_14 := (hr 0 rfl).trans h0_13
   have h2_14 := (hr 2 rfl).trans h2_13
   have h4_14 := (hr 4 rfl).trans h4_13
   have h6_14 := (hr 6 rfl).trans h6_13
   have h11_14 := (hr 11 rfl).trans h11_13
   have h14_14 := (hr 14 rfl).trans h14_13
   have h15_14 := (hr 15 rfl).trans h15_13
   have h16_14 := (hr 16 rfl).trans h16_13
   have h21_14 : act14.eval (.tmp 21) = .pointer (some ⟨g13_7, 0, none⟩) := hv
   have d14 := d14.trans d13
   clear hv hr
   refine EngI.tail_val EngI.free_wide rfl rfl rfl rfl (Eng.run_load_all rfl h6_14 kg6_13_13 Tryd.underlying30 rfl (by kernel_rfl)) s14 rfl fun act15 d15 s15 hv hr => ?_
   have h0_15 := (hr 0 rfl).trans h0_14
   have h2_15 := (hr 2 rfl).trans h2_14
   have h4_15 := (hr 4 rfl).trans h4_14
   have h11_15 := (hr 11 rfl).trans h11_14
   have h14_15 := (hr 14 rfl).trans h14_14
   have h15_15 := (hr 15 rfl).trans h15_14
   have h16_15 := (hr 16 rfl).trans h16_14
   have h21_15 := (hr 21 rfl).trans h21_14
   have h22_15 : act15.eval (.tmp 22) = .agg #[.int .i64 ((l.getD k default).kind), .string ((l.getD k default).anchor), .string ((l.getD k default).tag), .string ((l.getD k default).text), .bool ((l.getD k default).plain)] := hv
   have d15 := d15.trans d14
   clear hv hr
   refine EngI.tail_call EngI.free_wide Tryd.func30 (by kernel_rfl) (by kernel_rfl) rfl rfl rfl rfl #[.pointer (some ⟨g13_7, 0, none⟩), .agg #[.int .i64 ((l.getD k default).kind), .string ((l.getD k default).anchor), .string ((l.getD k default).tag), .string ((l.getD k default).text), .bool ((l.getD k default).plain)]] (by have e0 : act15.eval (.tmp 21) = .pointer (some ⟨g13_7, 0, none⟩) := h21_15; have e1 : act15.eval (.tmp 22) = .agg #[.int .i64 ((l.getD k default).kind), .string ((l.getD k default).anchor), .string ((l.getD k default).tag), .string ((l.getD k default).text), .bool ((l.getD k default).plain)] := h22_15; simp only [List.map_toArray, List.map_cons, List.map_nil, e0, e1]) s15 rfl (R := fun v w' => v = .tuple #[.bool (Dc.stepF d (l.getD k default)).2.1, .int .i64 (Dc.stepF d (l.getD k default)).2.2] ∧ Below w.heap.size w w' ∧ Dc.Keep w13 w' g13_7 ∧ ∃ gv' ov' mv', w'.heap[g13_7]? = some (.cells #[gv', ov', mv'] 64 (0, 0)) ∧ ((Dc.stepF d (l.getD k default)).2.2 = 0 → Dc.HS w w' g13_7 gv' ov' mv' st2 (Dc.stepF d (l.getD k default)).1 fin (k + 1) true)) ((Dc.take_all g13_7 gv ov mv (l.getD k default) st st2 d fin k live w _ bl13 og13_7 kg13_7_13 XH_13 ht2 (hsz k hk0) (hasz k hk0) (by omega) htw2.1).mono ?_) fun v_16 w16 act16 R d16 s16 hv hr => ?_
   ·rintro e w1 ⟨rfl, r1⟩; exact ⟨_, rfl, rfl, r1⟩
   have h0_16 := (hr 0 rfl).trans h0_15
   have h2_16 := (hr 2 rfl).trans h2_15
   have h4_16 := (hr 4 rfl).trans h4_15
   have h11_16 := (hr 11 rfl).trans h11_15
   have h14_16 := (hr 14 rfl).trans h14_15
   have h15_16 := (hr 15 rfl).trans h15_15
   have h16_16 := (hr 16 rfl).trans h16_15
   have h23_16 : act16.eval (.tmp 23) = v_16 := hv
   have d16 := d16.trans d15
   clear hv hr
   obtain ⟨ev_16, bl16, kp_16, gv16, ov16, mv16, kb16, hP16⟩ := R
   obtain ⟨er16, her16⟩ : ∃ e, e = (Dc.stepF d (l.getD k default)).2.2 := ⟨_, rfl⟩
   obtain ⟨vr16, hvr16⟩ : ∃ e, e = (Dc.stepF d (l.getD k default)).2.1 := ⟨_, rfl⟩
   rw [ev_16, ← her16, ← hvr16] at h23_16
   rw [← her16] at hP16
   have Oout_16 := Dc.own_keep Oout_13 kp_16 kg13_7_13
   have lb16 := (Array.getElem?_eq_some_iff.1 kb16).1
   refine EngI.tail_val EngI.free_wide rfl rfl rfl rfl (Eng.run_move rfl h23_16) s16 rfl fun act17 d17 s17 hv hr => ?_
   have h0_17 := (hr 0 rfl).trans h0_16
   have h2_17 := (hr 2 rfl).trans h2_16
   have h4_17 := (hr 4 rfl).trans h4_16
   have h11_17 := (hr 11 rfl).trans h11_16
   have h14_17 := (hr 14 rfl).trans h14_16
   have h15_17 := (hr 15 rfl).trans h15_16
   have h16_17 := (hr 16 rfl).trans h16_16
   have h20_17 : act17.eval (.tmp 20) = .tuple #[.bool vr16, .int .i64 er16] := hv
   have d17 := d17.trans d16
   clear hv hr
   refine EngI.tail_val (w1 := w16) (v := .bool vr16) EngI.free_wide rfl rfl rfl rfl ?_ s17 rfl ?_
   ·have e0 : act17.eval (.tmp 20) = .tuple #[.bool vr16, .int .i64 er16] := h20_17
    simp only [execOp, resolve, e0]
    go_simp
   intro act18 d18 s18 hv hr
   have h0_18 := (hr 0 rfl).trans h0_17
   have h2_18 := (hr 2 rfl).trans h2_17
   have h4_18 := (hr 4 rfl).trans h4_17
   have h11_18 := (hr 11 rfl).trans h11_17
   have h14_18 := (hr 14 rfl).trans h14_17
   have h15_18 := (hr 15 rfl).trans h15_17
   have h16_18 := (hr 16 rfl).trans h16_17
   have h20_18 := (hr 20 rfl).trans h20_17
   have h24_18 : act18.eval (.tmp 24) = .bool vr16 := hv
   have d18 := d18.trans d17
   clear hv hr
   refine EngI.tail_val (w1 := w16) (v := .int .i64 er16) EngI.free_wide rfl rfl rfl rfl ?_ s18 rfl ?_
   ·have e0 : act18.eval (.tmp 20) = .tuple #[.bool vr16, .int .i64 er16] := h20_18
    simp only [execOp, resolve, e0]
    go_simp
   intro act19 d19 s19 hv hr
   have h0_19 := (hr 0 rfl).trans h0_18
   have h2_19 := (hr 2 rfl).trans h2_18
   have h4_19 := (hr 4 rfl).trans h4_18
   have h11_19 := (hr 11 rfl).trans h11_18
   have h14_19 := (hr 14 rfl).trans h14_18
   have h15_19 := (hr 15 rfl).trans h15_18
   have h16_19 := (hr 16 rfl).trans h16_18
   have h24_19 := (hr 24 rfl).trans h24_18
   have h25_19 : act19.eval (.tmp 25) = .int .i64 er16 := hv
   have d19 := d19.trans d18
   clear hv hr
   refine EngI.tail_val EngI.free_wide rfl rfl rfl rfl (Eng.run_assign rfl h24_19) s19 rfl fun act20 d20 s20 hv hr => ?_
   have h0_20 := (hr 0 rfl).trans h0_19
   have h2_20 := (hr 2 rfl).trans h2_19
   have h4_20 := (hr 4 rfl).trans h4_19
   have h11_20 := (hr 11 rfl).trans h11_19
   have h14_20 := (hr 14 rfl).trans h14_19
   have h15_20 := (hr 15 rfl).trans h15_19
   have h16_20 := (hr 16 rfl).trans h16_19
   have h25_20 := (hr 25 rfl).trans h25_19
   have h7_20 : act20.eval (.tmp 7) = .bool vr16 := hv
   have d20 := d20.trans d19
   clear hv hr
   refine EngI.tail_val EngI.free_wide rfl rfl rfl rfl (Eng.run_assign rfl h25_20) s20 rfl fun act21 d21 s21 hv hr => ?_
   have h0_21 := (hr 0 rfl).trans h0_20
   have h2_21 := (hr 2 rfl).trans h2_20
   have h4_21 := (hr 4 rfl).trans h4_20
   have h7_21 := (hr 7 rfl).trans h7_20
   have h11_21 := (hr 11 rfl).trans h11_20
   have h14_21 := (hr 14 rfl).trans h14_20
   have h15_21 := (hr 15 rfl).trans h15_20
   have h16_21 := (hr 16 rfl).trans h16_20
   have h8_21 : act21.eval (.tmp 8) = .int .i64 er16 := hv
   have d21 := d21.trans d20
   clear hv hr
   refine EngI.tail_nil ?_
   refine wp_seq ?_
   refine wp_seq ?_
   obtain ⟨q27, Bq27⟩ : ∃ b : Bool, b = (!(er16 == 0)) := ⟨_, rfl⟩
   refine Eng.regionS (Eng.still [fun u_ => u_ = .int .i64 er16, fun u_ => u_ = .bool q27]) (fun _ => .plain) 2 0 39 s21 rfl (by kernel_rfl) (Eng.still_stable _) (Or.inr (Eng.still_any _)) ?_ ?_
   ·refine .cons (fun _ => ?_) (.cons (fun _ => ?_) (.nil))
    ·exact Eng.plain rfl rfl fun a w' H => Eng.vr rfl (Eng.run_move rfl ((H.kept 8 (by kernel_rfl)).trans h8_21))
    ·refine Eng.plain rfl rfl fun a w' H => ?_
     refine Eng.vr (v := .bool (!(er16 == 0))) (by show _ = Value.bool q27; rw [Bq27]) ?_
     have e0 : a.eval (.tmp 26) = .int .i64 er16 := (H.dep 0 26 (by kernel_rfl) rfl)
     have e1 : a.eval (.const (.int .i64 0)) = .int .i64 0 := (rfl : a.eval (.const (.int .i64 0)) = .int .i64 0)
     simp only [execOp, resolve, e0, e1]
     go_simp
     all_goals first | rfl | (simp; done) | (rw [Bool.eq_iff_iff]; simp; done) | omega | (split <;> first | (simp_all; done) | (split <;> simp_all; done)) | skip
   intro act22 w22 T
   have h0_22 := (T.rest 0 (by kernel_rfl)).trans h0_21
   have h2_22 := (T.rest 2 (by kernel_rfl)).trans h2_21
   have h4_22 := (T.rest 4 (by kernel_rfl)).trans h4_21
   have h7_22 := (T.rest 7 (by kernel_rfl)).trans h7_21
   have h8_22 := (T.rest 8 (by kernel_rfl)).trans h8_21
   have h11_22 := (T.rest 11 (by kernel_rfl)).trans h11_21
   have h14_22 := (T.rest 14 (by kernel_rfl)).trans h14_21
   have h15_22 := (T.rest 15 (by kernel_rfl)).trans h15_21
   have h16_22 := (T.rest 16 (by kernel_rfl)).trans h16_21
   have kg13_7_22 := (T.below.block _ lb16).trans kb16
   have lg13_7_22 := Nat.lt_of_lt_of_le lb16 T.below.size
   have Oout_22 := Eng.own_below Oout_16 T.below
   have h27_22 : act22.eval (.tmp 27) = .bool q27 := T.done 1 27 rfl rfl
   have d22 := T.defers.trans d21
   have s22 := T.size.trans s21
   have bl22 := bl16.trans (T.below.mono bl16.size)
   have XP_22 := Dc.pend_below hP16 T.below
   clear T
   refine Eng.tail_nil ?_
   refine wp_cond_split h27_22 (fun hq => ?_) (fun hq => ?_)
   ·
    have c27 := Bq27.symm.trans hq
    clear hq
    have he0 : ¬ er16 = 0 := by simpa using c27
    refine wp_seq ?_
    refine Eng.regionS (Eng.still [fun u_ => u_ = .int .i64 er16, fun u_ => u_ = .slice none 0 0, fun u_ => u_ = .int .i64 er16]) (fun _ => .plain) 3 0 39 s22 rfl (by kernel_rfl) (Eng.still_stable _) (Or.inr (Eng.still_any _)) ?_ ?_
    ·refine .cons (fun _ => ?_) (.cons (fun _ => ?_) (.cons (fun _ => ?_) (.nil)))
     ·exact Eng.plain rfl rfl fun a w' H => Eng.vr rfl (Eng.run_move rfl ((H.kept 8 (by kernel_rfl)).trans h8_22))
     ·exact Eng.plain rfl rfl fun a w' H => Eng.vr rfl (Eng.run_assign rfl (rfl : a.eval (.const (.slice none 0 0)) = .slice none 0 0))
     ·exact Eng.plain rfl rfl fun a w' H => Eng.vr rfl (Eng.run_assign rfl (H.dep 0 28 (by kernel_rfl) rfl))
    intro act24 w24 T
    have h2_24 : act24.eval (.tmp 2) = .slice none 0 0 := T.done 1 2 rfl rfl
    have h3_24 : act24.eval (.tmp 3) = .int .i64 er16 := T.done 2 3 rfl rfl
    have d24 := T.defers.trans d22
    have bl24 := bl22.trans (T.below.mono bl22.size)
    clear T
    refine Eng.tail_nil ?_
    refine wp_ret ?_
    repeat (first | refine Eng.in_ret ?_ | refine Eng.then_ret ?_)
    have hG := (Dc.graphsF_is hnr).trans hrun
    rw [Dc.runF_err hk0 (her16 ▸ he0)] at hG
    exact Eng.ret2 rfl d24 h2_24 h3_24 ⟨_, [], by rw [hG, her16], by rw [hG]; rfl, Dc.fin_nil, fun f hf => absurd hf List.not_mem_nil, bl24⟩
   ·
    have c27 := Bq27.symm.trans hq
    clear hq
    have he0 : er16 = 0 := by simpa using c27
    have H26 := XP_22 he0
    refine wp_skip ?_
    refine wp_seq ?_
    refine Eng.regionS (Eng.still [fun u_ => u_ = .bool vr16]) (fun _ => .plain) 1 0 39 s22 rfl (by kernel_rfl) (Eng.still_stable _) (Or.inr (Eng.still_any _)) ?_ ?_
    ·refine .cons (fun _ => ?_) (.nil)
     ·exact Eng.plain rfl rfl fun a w' H => Eng.vr rfl (Eng.run_move rfl ((H.kept 7 (by kernel_rfl)).trans h7_22))
    intro act27 w27 T
    have h0_27 := (T.rest 0 (by kernel_rfl)).trans h0_22
    have h2_27 := (T.rest 2 (by kernel_rfl)).trans h2_22
    have h4_27 := (T.rest 4 (by kernel_rfl)).trans h4_22
    have h11_27 := (T.rest 11 (by kernel_rfl)).trans h11_22
    have h14_27 := (T.rest 14 (by kernel_rfl)).trans h14_22
    have h15_27 := (T.rest 15 (by kernel_rfl)).trans h15_22
    have h16_27 := (T.rest 16 (by kernel_rfl)).trans h16_22
    have kg13_7_27 := (T.below.block _ lg13_7_22).trans kg13_7_22
    have lg13_7_27 := Nat.lt_of_lt_of_le lg13_7_22 T.below.size
    have Oout_27 := Eng.own_below Oout_22 T.below
    have h29_27 : act27.eval (.tmp 29) = .bool vr16 := T.done 0 29 rfl rfl
    have d27 := T.defers.trans d22
    have s27 := T.size.trans s22
    have bl27 := bl22.trans (T.below.mono bl22.size)
    have XH_27 := Dc.HS.below H26 T.below
    clear T
    refine Eng.tail_nil ?_
    refine wp_cond_split h29_27 (fun hq => ?_) (fun hq => ?_)
    ·
     have c29 := hq
     clear hq
     have hov : (Dc.stepF d (l.getD k default)).2.1 = true := by rw [← hvr16]; exact c29
     have hst2 := hover hov
     subst hst2
     obtain ⟨h_, mb_, _, _, hR_, _⟩ := XH_27.doc rfl
     have Og29 := hR_.gr
     have Fg29 := Eng.Reads.of_own Og29
     have H29 := Dc.HS.over XH_27
     refine Eng.regionT (n := 8) rfl ?_
     refine Eng.tail_val rfl rfl rfl (Eng.run_move rfl h2_27) s27 rfl fun act30 d30 s30 hv hr => ?_
     have h0_30 := (hr 0 rfl).trans h0_27
     have h4_30 := (hr 4 rfl).trans h4_27
     have h11_30 := (hr 11 rfl).trans h11_27
     have h14_30 := (hr 14 rfl).trans h14_27
     have h15_30 := (hr 15 rfl).trans h15_27
     have h16_30 := (hr 16 rfl).trans h16_27
     have h30_30 : act30.eval (.tmp 30) = outv := hv
     have d30 := d30.trans d27
     clear hv hr
     refine Eng.tail_val rfl rfl rfl (Eng.run_move rfl h4_30) s30 rfl fun act31 d31 s31 hv hr => ?_
     have h0_31 := (hr 0 rfl).trans h0_30
     have h4_31 := (hr 4 rfl).trans h4_30
     have h11_31 := (hr 11 rfl).trans h11_30
     have h14_31 := (hr 14 rfl).trans h14_30
     have h15_31 := (hr 15 rfl).trans h15_30
     have h16_31 := (hr 16 rfl).trans h16_30
     have h30_31 := (hr 30 rfl).trans h30_30
     have h31_31 : act31.eval (.tmp 31) = .pointer (some ⟨g13_7, 0, none⟩) := hv
     have d31 := d31.trans d30
     clear hv hr
     refine Eng.tail_val (w1 := w27) (v := .pointer (some ⟨g13_7, 0, none⟩)) rfl rfl rfl ?_ s31 rfl ?_
     ·exact Eng.run_nilb rfl h31_31
     intro act32 d32 s32 hv hr
     have h0_32 := (hr 0 rfl).trans h0_31
     have h4_32 := (hr 4 rfl).trans h4_31
     have h11_32 := (hr 11 rfl).trans h11_31
     have h14_32 := (hr 14 rfl).trans h14_31
     have h15_32 := (hr 15 rfl).trans h15_31
     have h16_32 := (hr 16 rfl).trans h16_31
     have h30_32 := (hr 30 rfl).trans h30_31
     have h32_32 : act32.eval (.tmp 32) = .pointer (some ⟨g13_7, 0, none⟩) := hv
     have d32 := d32.trans d31
     clear hv hr
     refine Eng.tail_val (w1 := w27) (v := .pointer (some ⟨g13_7, 0, none⟩)) rfl rfl rfl ?_ s32 rfl ?_
     ·exact Eng.run_fieldb rfl Tryd.underlying64 0 (by kernel_rfl) h32_32
     intro act33 d33 s33 hv hr
     have h0_33 := (hr 0 rfl).trans h0_32
     have h4_33 := (hr 4 rfl).trans h4_32
     have h11_33 := (hr 11 rfl).trans h11_32
     have h14_33 := (hr 14 rfl).trans h14_32
     have h15_33 := (hr 15 rfl).trans h15_32
     have h16_33 := (hr 16 rfl).trans h16_32
     have h30_33 := (hr 30 rfl).trans h30_32
     have h33_33 : act33.eval (.tmp 33) = .pointer (some ⟨g13_7, 0, none⟩) := hv
     have d33 := d33.trans d32
     clear hv hr
     refine Eng.tail_val (w1 := w27) (v := gv16) rfl rfl rfl ?_ s33 rfl ?_
     ·exact Eng.run_loadb rfl h33_33 (((Below.refl _ _).block _ lg13_7_27).trans kg13_7_27) rfl (by kernel_rfl)
     intro act34 d34 s34 hv hr
     have h0_34 := (hr 0 rfl).trans h0_33
     have h4_34 := (hr 4 rfl).trans h4_33
     have h11_34 := (hr 11 rfl).trans h11_33
     have h14_34 := (hr 14 rfl).trans h14_33
     have h15_34 := (hr 15 rfl).trans h15_33
     have h16_34 := (hr 16 rfl).trans h16_33
     have h30_34 := (hr 30 rfl).trans h30_33
     have h34_34 : act34.eval (.tmp 34) = gv16 := hv
     have d34 := d34.trans d33
     clear hv hr
     refine Eng.tail_ex rfl rfl rfl (Eng.run_buildN1 (z := .slice none 0 0) [gv16] rfl Tryd.underlying34 (by kernel_rfl) rfl rfl rfl rfl (by intro v hv; have h := List.mem_singleton.1 hv; rw [h]; exact (Eng.Reads.cells1 Fg29)) (by have e0 : act34.eval (.tmp 34) = gv16 := h34_34; simp [e0])) s34 rfl fun v_35 w35 act35 R d35 s35 hv hr => ?_
     obtain ⟨F_35, b_35⟩ := R
     have h0_35 := (hr 0 rfl).trans h0_34
     have h4_35 := (hr 4 rfl).trans h4_34
     have h11_35 := (hr 11 rfl).trans h11_34
     have h14_35 := (hr 14 rfl).trans h14_34
     have h15_35 := (hr 15 rfl).trans h15_34
     have h16_35 := (hr 16 rfl).trans h16_34
     have h30_35 := (hr 30 rfl).trans h30_34
     have h35_35 : act35.eval (.tmp 35) = v_35 := hv
     have d35 := d35.trans d34
     clear hv hr
     have kg13_7_35 := (b_35.block _ lg13_7_27).trans kg13_7_27
     have lg13_7_35 := Nat.lt_of_lt_of_le lg13_7_27 b_35.size
     have Oout_35 := Eng.own_below Oout_27 b_35
     have Fgrw_35 := Eng.Reads.below Fg29 b_35
     have XH_35 := Dc.HS.below H29 b_35
     have bl35 := bl27.trans (b_35.mono bl27.size)
     refine Eng.tail_ex rfl rfl rfl (Eng.run_appendI (z := .slice none 0 0) rfl Tryd.underlying34 (by kernel_rfl) rfl rfl h30_35 Oout_35 h35_35 F_35 (by intro u hu; simp at hu; subst hu; obtain ⟨A_, c_, e_⟩ := Eng.Reads.shape Fgrw_35; rw [e_]; rfl) (by omega) bl35.size) s35 rfl fun v_36 w36 act36 R d36 s36 hv hr => ?_
     obtain ⟨O_36, _, b_36, G_36, EO_36⟩ := R
     have h0_36 := (hr 0 rfl).trans h0_35
     have h4_36 := (hr 4 rfl).trans h4_35
     have h11_36 := (hr 11 rfl).trans h11_35
     have h14_36 := (hr 14 rfl).trans h14_35
     have h15_36 := (hr 15 rfl).trans h15_35
     have h16_36 := (hr 16 rfl).trans h16_35
     have h36_36 : act36.eval (.tmp 36) = v_36 := hv
     have d36 := d36.trans d35
     clear hv hr
     have kg13_7_36 := (G_36.block _ lg13_7_35 (Eng.own_ne Oout_35 kg13_7_35 rfl)).trans kg13_7_35
     have lg13_7_36 := Nat.lt_of_lt_of_le lg13_7_35 G_36.size
     have XH_36 := Dc.HS.grown XH_35 Oout_35 G_36
     have bl36 := bl35.trans b_36
     have Oa36 : w36.ownsRow w.heap.size 48 1 v_36 (fin ++ [((Dc.stepF d (l.getD k default)).1.nodes, gv16)]).length (List.map (·.2) (fin ++ [((Dc.stepF d (l.getD k default)).1.nodes, gv16)])) := Dc.fin_snoc O_36
     have Fa36 := Eng.Reads.of_own Oa36
     refine Eng.tail_val rfl rfl rfl (Eng.run_assign rfl h36_36) s36 rfl fun act37 d37 s37 hv hr => ?_
     have h0_37 := (hr 0 rfl).trans h0_36
     have h4_37 := (hr 4 rfl).trans h4_36
     have h11_37 := (hr 11 rfl).trans h11_36
     have h14_37 := (hr 14 rfl).trans h14_36
     have h15_37 := (hr 15 rfl).trans h15_36
     have h16_37 := (hr 16 rfl).trans h16_36
     have h2_37 : act37.eval (.tmp 2) = v_36 := hv
     have d37 := d37.trans d36
     clear hv hr
     refine Eng.tail_nil ?_
     refine Eng.regionS (Eng.still [fun u_ => u_ = .int .i64 (IntKind.i64.wrap ((k : Nat) + 1)), fun u_ => u_ = .int .i64 (IntKind.i64.wrap ((k : Nat) + 1))]) (fun _ => .plain) 2 0 39 s37 rfl (by kernel_rfl) (Eng.still_stable _) (Or.inr (Eng.still_any _)) ?_ ?_
     ·refine .cons (fun _ => ?_) (.cons (fun _ => ?_) (.nil))
      ·refine Eng.plain rfl rfl fun a w' H => ?_
       refine Eng.vr (v := .int .i64 (IntKind.i64.wrap ((k : Nat) + 1))) rfl ?_
       have e0 := ((H.kept 16 (by kernel_rfl)).trans h16_37)
       have e1 : a.eval (.const (.int .i64 1)) = .int .i64 1 := (rfl : a.eval (.const (.int .i64 1)) = .int .i64 1)
       simp only [execOp, resolve, e0, e1]
       go_simp
      ·exact Eng.plain rfl rfl fun a w' H => Eng.vr rfl (Eng.run_move rfl (H.dep 0 37 (by kernel_rfl) rfl))
     intro act38 w38 T
     have h0_38 := (T.rest 0 (by kernel_rfl)).trans h0_37
     have h2_38 := (T.rest 2 (by kernel_rfl)).trans h2_37
     have h4_38 := (T.rest 4 (by kernel_rfl)).trans h4_37
     have h11_38 := (T.rest 11 (by kernel_rfl)).trans h11_37
     have h14_38 := (T.rest 14 (by kernel_rfl)).trans h14_37
     have h15_38 := (T.rest 15 (by kernel_rfl)).trans h15_37
     have kg13_7_38 := (T.below.block _ lg13_7_36).trans kg13_7_36
     have lg13_7_38 := Nat.lt_of_lt_of_le lg13_7_36 T.below.size
     have Oa36_38 := Eng.own_below Oa36 T.below
     have h16_38 : act38.eval (.tmp 16) = .int .i64 (IntKind.i64.wrap ((k : Nat) + 1)) := T.done 1 16 rfl rfl
     have d38 := T.defers.trans d37
     have s38 := T.size.trans s37
     have bl38 := bl36.trans (T.below.mono bl36.size)
     have XH_38 := Dc.HS.below XH_36 T.below
     clear T
     refine Eng.tail_nil ?_
     exact ⟨_, by omega, k + 1, gv16, ov16, mv16, v_36, [], (Dc.stepF d (l.getD k default)).1, (fin ++ [((Dc.stepF d (l.getD k default)).1.nodes, gv16)]), false, rfl, by omega, hrr2, (by rw [hrun, Dc.runF_step hk0 (her16 ▸ he0), if_pos hov]; simp), XH_38, Oa36_38, htw2.2, (by simp; omega), d38, s38, bl38, h0_38, (h2_38.trans (by first | rfl | (congr 1; rw [Eng.i64_id (by omega) (by omega)]; omega) | (simp; done))), h4_38, h11_38, h14_38, h15_38, (h16_38.trans (by first | rfl | (congr 1; rw [Eng.i64_id (by omega) (by omega)]; omega) | (simp; done))), (kg13_7_38.trans (by first | rfl | (simp; done))), lg13_7_38⟩
    ·
     have c29 := hq
     clear hq
     have hov : ¬ (Dc.stepF d (l.getD k default)).2.1 = true := by rw [← hvr16]; simpa using c29
     refine wp_skip ?_
     refine Eng.regionS (Eng.still [fun u_ => u_ = .int .i64 (IntKind.i64.wrap ((k : Nat) + 1)), fun u_ => u_ = .int .i64 (IntKind.i64.wrap ((k : Nat) + 1))]) (fun _ => .plain) 2 0 39 s27 rfl (by kernel_rfl) (Eng.still_stable _) (Or.inr (Eng.still_any _)) ?_ ?_
     ·refine .cons (fun _ => ?_) (.cons (fun _ => ?_) (.nil))
      ·refine Eng.plain rfl rfl fun a w' H => ?_
       refine Eng.vr (v := .int .i64 (IntKind.i64.wrap ((k : Nat) + 1))) rfl ?_
       have e0 := ((H.kept 16 (by kernel_rfl)).trans h16_27)
       have e1 : a.eval (.const (.int .i64 1)) = .int .i64 1 := (rfl : a.eval (.const (.int .i64 1)) = .int .i64 1)
       simp only [execOp, resolve, e0, e1]
       go_simp
      ·exact Eng.plain rfl rfl fun a w' H => Eng.vr rfl (Eng.run_move rfl (H.dep 0 37 (by kernel_rfl) rfl))
     intro act40 w40 T
     have h0_40 := (T.rest 0 (by kernel_rfl)).trans h0_27
     have h2_40 := (T.rest 2 (by kernel_rfl)).trans h2_27
     have h4_40 := (T.rest 4 (by kernel_rfl)).trans h4_27
     have h11_40 := (T.rest 11 (by kernel_rfl)).trans h11_27
     have h14_40 := (T.rest 14 (by kernel_rfl)).trans h14_27
     have h15_40 := (T.rest 15 (by kernel_rfl)).trans h15_27
     have kg13_7_40 := (T.below.block _ lg13_7_27).trans kg13_7_27
     have lg13_7_40 := Nat.lt_of_lt_of_le lg13_7_27 T.below.size
     have Oout_40 := Eng.own_below Oout_27 T.below
     have h16_40 : act40.eval (.tmp 16) = .int .i64 (IntKind.i64.wrap ((k : Nat) + 1)) := T.done 1 16 rfl rfl
     have d40 := T.defers.trans d27
     have s40 := T.size.trans s27
     have bl40 := bl27.trans (T.below.mono bl27.size)
     have XH_40 := Dc.HS.below XH_27 T.below
     clear T
     refine Eng.tail_nil ?_
     exact ⟨_, by omega, k + 1, gv16, ov16, mv16, outv, st2, (Dc.stepF d (l.getD k default)).1, fin, true, rfl, by omega, hrr2, (by rw [hrun, Dc.runF_step hk0 (her16 ▸ he0), if_neg hov]), XH_40, Oout_40, htw2.2, (by omega), d40, s40, bl40, h0_40, (h2_40.trans (by first | rfl | (congr 1; rw [Eng.i64_id (by omega) (by omega)]; omega) | (simp; done))), h4_40, h11_40, h14_40, h15_40, (h16_40.trans (by first | rfl | (congr 1; rw [Eng.i64_id (by omega) (by omega)]; omega) | (simp; done))), (kg13_7_40.trans (by first | rfl | (simp; done))), lg13_7_40⟩
  ·
   have c17 := Bq17.symm.trans hq
   clear hq
   have c17 := of_decide_eq_false c17
   have hke : k = l.length := by omega
   refine wp_exit ?_
   refine wp_seq ?_
   refine Eng.regionS (Eng.still [fun u_ => u_ = outv, fun u_ => u_ = outv, fun u_ => u_ = .int .i64 0]) (fun _ => .plain) 3 0 39 s11 rfl (by kernel_rfl) (Eng.still_stable _) (Or.inr (Eng.still_any _)) ?_ ?_
   ·refine .cons (fun _ => ?_) (.cons (fun _ => ?_) (.cons (fun _ => ?_) (.nil)))
    ·exact Eng.plain rfl rfl fun a w' H => Eng.vr rfl (Eng.run_move rfl ((H.kept 2 (by kernel_rfl)).trans h2_11))
    ·exact Eng.plain rfl rfl fun a w' H => Eng.vr rfl (Eng.run_assign rfl (H.dep 0 38 (by kernel_rfl) rfl))
    ·exact Eng.plain rfl rfl fun a w' H => Eng.vr rfl (Eng.run_assign rfl (rfl : a.eval (.const (.int .i64 0)) = .int .i64 0))
   intro act42 w42 T
   have Oout_42 := Eng.own_below Oout_11 T.below
   have h2_42 : act42.eval (.tmp 2) = outv := T.done 1 2 rfl rfl
   have h3_42 : act42.eval (.tmp 3) = .int .i64 0 := T.done 2 3 rfl rfl
   have d42 := T.defers.trans d11
   have bl42 := bl11.trans (T.below.mono bl11.size)
   have XH_42 := Dc.HS.below XH_11 T.below
   clear T
   refine Eng.tail_nil ?_
   refine wp_ret ?_
   repeat (first | refine Eng.in_ret ?_ | refine Eng.then_ret ?_)
   have hG := (Dc.graphsF_is hnr).trans hrun
   rw [Dc.runF_end hke] at hG
   exact Eng.ret2 rfl d42 h2_42 h3_42 ⟨_, fin, by rw [hG], by rw [hG], Oout_42, XH_42.fins, bl42⟩
end Go.Proofs.YtgnmjaacnmkgnaaDoor.X
end
section
namespace Go.Proofs.YtgnmjaacnmkgnaaDoor.X
open Go.RowKit Go.Shelf Go.Proofs Go.Maps Go.WideMaps
set_option linter.unusedVariables false
set_option linter.unusedSimpArgs false
namespace Dc
theorem twiceF_plain {nodes : List Nd} (h : ∀ n ∈ nodes, n.kind ≠ 2) : twiceF nodes = false := by
  unfold twiceF
  rw [List.any_eq_false]
  intro n hn
  unfold dupNode
  have : (n.kind == 2) = false := by simpa using h n hn
  rw [this]; simp
theorem plain_at {h : List NV} (hp : ∀ n ∈ h.map (·.1), n.kind ≠ 2) {k : Nat} (hk : k < h.length) : (h.getD k default).1.kind ≠ 2 := by
  refine hp _ (List.mem_map.2 ⟨h.getD k default, ?_, rfl⟩)
  rw [List.getD_eq_getElem?_getD, List.getElem?_eq_getElem hk]; exact List.getElem_mem hk
end Dc
namespace Evt
def heavyE (x : Ev) : Bool := (decide ((x.text.size : Int) > 2000) || decide ((x.anchor.size : Int) > 2000)) || decide ((x.tag.size : Int) > 2000)
def heavyL (l : List Ev) : Bool := l.any heavyE || decide ((l.length : Int) > 150)
theorem heavy_take {l : List Ev} {k : Nat} (hk : k < l.length) (h : (l.take k).any heavyE = false) (h2 : heavyE (l.getD k default) = false) : (l.take (k + 1)).any heavyE = false := by
  rw [Rwt.take_one hk, List.any_append, h, Bool.false_or, List.any_cons, h2]; rfl
theorem heavy_at {l : List Ev} {k : Nat} (hk : k < l.length) (h2 : heavyE (l.getD k default) = true) : heavyL l = true := by
  unfold heavyL
  rw [Bool.or_eq_true]; left
  rw [List.any_eq_true]
  refine ⟨l.getD k default, ?_, h2⟩
  rw [List.getD_eq_getElem?_getD, List.getElem?_eq_getElem hk]; exact List.getElem_mem hk
end Evt
end Go.Proofs.YtgnmjaacnmkgnaaDoor.X
end
section
namespace Go.Proofs.YtgnmjaacnmkgnaaDoor.X
open Go.RowKit Go.Shelf Go.Proofs Go.Proofs.YtgnmjaacnmkgnaaDoorW.PrintWords Go.Proofs.YtgnmjaacnmkgnaaDoorW.PrintLast Go.Proofs.YtgnmjaacnmkgnaaDoorW.PrintMore
set_option linter.unusedVariables false
set_option linter.unusedSimpArgs false
attribute [local go_sem] max2_int min2_int max_two min_two
set_option maxHeartbeats 4000000 in
set_option maxRecDepth 100000 in
theorem Dc.twice_plain (B mb : Nat) (gv ov : Value) (h : List Dc.NV) (opn : List Int) (names : List (List UInt8 × Int)) (w : World) (hR : Dc.Rep B w h opn names gv ov mb) (hp : ∀ n ∈ h.map (·.1), n.kind ≠ 2) : Calls Tryd.prog 41 #[gv] w fun e w' => e = .returned (.bool false) ∧ Below w.heap.size w w' := by
 have hm := Eng.Reads.len_le (Eng.Reads.of_own hR.gr)
 refine Eng.enter Tryd.func41 rfl fun act0 d0 s0 v0 => ?_
 have s0 : act0.tmps.size = 67 := s0
 have h0_0 : act0.eval (.tmp 0) = gv := v0 0 (by simp)
 clear v0
 have bl0 : Below w.heap.size w w := Below.refl _ _
 refine wp_seq ?_
 refine Eng.regionS (Eng.still [fun u_ => u_ = .bool false]) (fun _ => .plain) 1 0 67 s0 rfl (by kernel_rfl) (Eng.still_stable _) (Or.inr (Eng.still_any _)) ?_ ?_
 ·refine .cons (fun _ => ?_) (.nil)
  ·exact Eng.plain rfl rfl fun a w' H => Eng.vr rfl (Eng.run_assign rfl (rfl : a.eval (.const (.bool false)) = .bool false))
 intro act1 w1 T
 have h0_1 := (T.rest 0 (by kernel_rfl)).trans h0_0
 have Fgr_1 := Eng.Reads.below (Eng.Reads.of_own hR.gr) T.below
 have d1 := T.defers.trans d0
 have s1 := T.size.trans s0
 have bl1 := bl0.trans (T.below.mono bl0.size)
 clear T
 refine Eng.tail_nil ?_
 refine wp_seq ?_
 refine wp_seq ?_
 refine Eng.regionS (Eng.still [fun u_ => u_ = gv, fun u_ => u_ = .int .i64 ((h.length : Nat) : Int), fun u_ => u_ = .int .i64 0]) (fun _ => .plain) 3 0 67 s1 rfl (by kernel_rfl) (Eng.still_stable _) (Or.inr (Eng.still_any _)) ?_ ?_
 ·refine .cons (fun _ => ?_) (.cons (fun _ => ?_) (.cons (fun _ => ?_) (.nil)))
  ·exact Eng.plain rfl rfl fun a w' H => Eng.vr rfl (Eng.run_move rfl ((H.kept 0 (by kernel_rfl)).trans h0_1))
  ·exact Eng.plain rfl rfl fun a w' H => Eng.vr (v := .int .i64 ((h.length : Nat) : Int)) rfl (Eng.run_len_sl rfl Tryd.underlying48 (show a.eval (.tmp 10) = gv from (H.dep 0 10 (by kernel_rfl) rfl)) (Eng.Reads.below Fgr_1 H.below))
  ·exact Eng.plain rfl rfl fun a w' H => Eng.vr rfl (Eng.run_move rfl (rfl : a.eval (.const (.int .i64 0)) = .int .i64 0))
 intro act2 w2 T
 have h0_2 := (T.rest 0 (by kernel_rfl)).trans h0_1
 have h10_2 : act2.eval (.tmp 10) = gv := T.done 0 10 rfl rfl
 have h11_2 : act2.eval (.tmp 11) = .int .i64 ((h.length : Nat) : Int) := T.done 1 11 rfl rfl
 have h12_2 : act2.eval (.tmp 12) = .int .i64 0 := T.done 2 12 rfl rfl
 have d2 := T.defers.trans d1
 have s2 := T.size.trans s1
 have bl2 := bl1.trans (T.below.mono bl1.size)
 clear T
 refine Eng.tail_nil ?_
 refine wp_block ?_
 refine Eng.loopN (fun n a w' => ∃ (k : Nat), h.length - k = n ∧ (k ≤ h.length) ∧ a.defers = [] ∧ a.tmps.size = 67 ∧ Below w.heap.size w w' ∧ a.eval (.tmp 0) = gv ∧ a.eval (.tmp 10) = gv ∧ a.eval (.tmp 11) = .int .i64 ((h.length : Nat) : Int) ∧ a.eval (.tmp 12) = .int .i64 (k : Nat)) (n0 := h.length - 0) ?_ ?_
 ·exact ⟨0, rfl, by omega, d2, s2, bl2, h0_2, h10_2, h11_2, (h12_2.trans (by first | rfl | (congr 1; rw [Eng.i64_id (by omega) (by omega)]; omega) | (simp; done)))⟩
 rintro n act3 w3 ⟨k, rfl, hc0_3, d3, s3, bl3, h0_3, h10_3, h11_3, h12_3⟩
 have Fgr_3 := Eng.Reads.below (Eng.Reads.of_own hR.gr) bl3
 have hk1 := hc0_3
 refine wp_seq ?_
 obtain ⟨q13, Bq13⟩ : ∃ b : Bool, b = (decide ((k : Nat) < ((h.length : Nat) : Int))) := ⟨_, rfl⟩
 refine Eng.regionS (Eng.still [fun u_ => u_ = .bool q13]) (fun _ => .plain) 1 0 67 s3 rfl (by kernel_rfl) (Eng.still_stable _) (Or.inr (Eng.still_any _)) ?_ ?_
 ·refine .cons (fun _ => ?_) (.nil)
  ·refine Eng.plain rfl rfl fun a w' H => ?_
   refine Eng.vr (v := .bool (decide ((k : Nat) < ((h.length : Nat) : Int)))) (by show _ = Value.bool q13; rw [Bq13]) ?_
   have e0 := ((H.kept 12 (by kernel_rfl)).trans h12_3)
   have e1 := ((H.kept 11 (by kernel_rfl)).trans h11_3)
   simp only [execOp, resolve, e0, e1]
   go_simp
 intro act4 w4 T
 have h0_4 := (T.rest 0 (by kernel_rfl)).trans h0_3
 have h10_4 := (T.rest 10 (by kernel_rfl)).trans h10_3
 have h11_4 := (T.rest 11 (by kernel_rfl)).trans h11_3
 have h12_4 := (T.rest 12 (by kernel_rfl)).trans h12_3
 have Fgr_4 := Eng.Reads.below Fgr_3 T.below
 have h13_4 : act4.eval (.tmp 13) = .bool q13 := T.done 0 13 rfl rfl
 have d4 := T.defers.trans d3
 have s4 := T.size.trans s3
 have bl4 := bl3.trans (T.below.mono bl3.size)
 clear T
 refine Eng.tail_nil ?_
 refine wp_seq ?_
 refine wp_cond_split h13_4 (fun hq => ?_) (fun hq => ?_)
 ·
  have c13 := Bq13.symm.trans hq
  clear hq
  have c13 := of_decide_eq_true c13
  have hk0 : k < h.length := by omega
  have Fk0 := Eng.Reads.of_own (hR.ks k hk0)
  have hcell := Dc.cells_at h k hk0
  obtain ⟨kv, hkv⟩ : ∃ v, v = (h.getD k default).2 := ⟨_, rfl⟩
  rw [← hkv] at hcell Fk0
  clear hkv
  have Fkj6 := Eng.Reads.below Fk0 bl4
  refine wp_skip ?_
  refine wp_seq ?_
  refine wp_block ?_
  refine wp_seq ?_
  refine Eng.regionT (n := 4) rfl ?_
  refine Eng.tail_val (w1 := w4) (v := Eng.elemPtr gv (k * 4)) rfl rfl rfl ?_ s4 rfl ?_
  ·exact Eng.run_index_sl rfl Tryd.underlying48 (by kernel_rfl) (show act4.eval (.tmp 10) = gv from h10_4) ((show act4.eval (.tmp 12) = .int .i64 (k : Nat) from h12_4).trans (congrArg (Value.int _) (show (k : Nat) = ((k : Nat) : Int) from by omega))) Fgr_4 (by omega) rfl
  intro act7 d7 s7 hv hr
  have h0_7 := (hr 0 rfl).trans h0_4
  have h10_7 := (hr 10 rfl).trans h10_4
  have h11_7 := (hr 11 rfl).trans h11_4
  have h12_7 := (hr 12 rfl).trans h12_4
  have h14_7 : act7.eval (.tmp 14) = Eng.elemPtr gv (k * 4) := hv
  have d7 := d7.trans d4
  clear hv hr
  refine Eng.tail_val (w1 := w4) (v := .agg #[.int .i64 ((h.getD k default).1.kind), .string ((h.getD k default).1.tag), .string ((h.getD k default).1.text), kv]) rfl rfl rfl ?_ s7 rfl ?_
  ·exact Eng.run_load_els [.int .i64 ((h.getD k default).1.kind), .string ((h.getD k default).1.tag), .string ((h.getD k default).1.text), kv] rfl (show act7.eval (.tmp 14) = Eng.elemPtr gv (k * 4) from h14_7) Fgr_4 (hcell) rfl Tryd.underlying57 rfl (by kernel_rfl)
  intro act8 d8 s8 hv hr
  have h0_8 := (hr 0 rfl).trans h0_7
  have h10_8 := (hr 10 rfl).trans h10_7
  have h11_8 := (hr 11 rfl).trans h11_7
  have h12_8 := (hr 12 rfl).trans h12_7
  have h15_8 : act8.eval (.tmp 15) = .agg #[.int .i64 ((h.getD k default).1.kind), .string ((h.getD k default).1.tag), .string ((h.getD k default).1.text), kv] := hv
  have d8 := d8.trans d7
  clear hv hr
  refine Eng.tail_ex rfl rfl rfl (Eng.alloc_ex (cs := #[.int .i64 0, .string ⟨#[]⟩, .string ⟨#[]⟩, .slice none 0 0]) rfl (by kernel_rfl)) s8 rfl fun v_9 w9 act9 R d9 s9 hv hr => ?_
  obtain ⟨g4_9, ev_9, rg_9, lg4_9, kg4_9, b_9⟩ := R
  have h0_9 := (hr 0 rfl).trans h0_8
  have h10_9 := (hr 10 rfl).trans h10_8
  have h11_9 := (hr 11 rfl).trans h11_8
  have h12_9 := (hr 12 rfl).trans h12_8
  have h15_9 := (hr 15 rfl).trans h15_8
  have h4_9 : act9.eval (.tmp 4) = v_9 := hv
  have d9 := d9.trans d8
  clear hv hr
  have og4_9 : w.heap.size ≤ g4_9 := Nat.le_trans bl4.size rg_9
  have Fkj_9 := Eng.Reads.below Fkj6 b_9
  have bl9 := bl4.trans (b_9.mono bl4.size)
  rw [ev_9] at h4_9
  refine Eng.tail_put [.int .i64 ((h.getD k default).1.kind), .string ((h.getD k default).1.tag), .string ((h.getD k default).1.text), kv] (n := 0) (new := #[.int .i64 ((h.getD k default).1.kind), .string ((h.getD k default).1.tag), .string ((h.getD k default).1.text), kv]) rfl rfl rfl kg4_9 rfl ?_ fun w10 S => ?_
  ·have e0 : act9.eval (.tmp 4) = .pointer (some ⟨g4_9, 0, none⟩) := h4_9
   have e1 : act9.eval (.tmp 15) = .agg #[.int .i64 ((h.getD k default).1.kind), .string ((h.getD k default).1.tag), .string ((h.getD k default).1.text), kv] := h15_9
   obtain ⟨A3_, c3_, ev3_⟩ := Eng.Reads.shape Fkj_9
   subst ev3_
   have z0 := (Eng.cells kg4_9 (0)).trans (rfl)
   have f0 := Eng.unfrozen kg4_9 (0)
   have z1 := (Eng.cells kg4_9 (1)).trans (rfl)
   have f1 := Eng.unfrozen kg4_9 (1)
   have z2 := (Eng.cells kg4_9 (2)).trans (rfl)
   have f2 := Eng.unfrozen kg4_9 (2)
   have z3 := (Eng.cells kg4_9 (3)).trans (rfl)
   have f3 := Eng.unfrozen kg4_9 (3)
   simp only [execOp]
   rw [e0, e1]
   go_simp
   try rfl
  have kg4_9_10 := S.new
  have lg4_9_10 := Nat.lt_of_lt_of_eq lg4_9 S.size.symm
  have bl10 := S.below bl9 og4_9
  clear S
  refine Eng.tail_nil ?_
  refine wp_seq ?_
  refine wp_seq ?_
  obtain ⟨q18, Bq18⟩ : ∃ b : Bool, b = (!(((h.getD k default).1.kind) == 2)) := ⟨_, rfl⟩
  refine Eng.regionS (Eng.still [fun u_ => u_ = .pointer (some ⟨g4_9, 0, none⟩), fun u_ => u_ = .int .i64 ((h.getD k default).1.kind), fun u_ => u_ = .bool q18]) (fun _ => .plain) 3 0 67 s9 rfl (by kernel_rfl) (Eng.still_stable _) (Or.inr (Eng.still_any _)) ?_ ?_
  ·refine .cons (fun _ => ?_) (.cons (fun _ => ?_) (.cons (fun _ => ?_) (.nil)))
   ·exact Eng.plain rfl rfl fun a w' H => Eng.vr rfl (Eng.run_fieldb rfl Tryd.underlying57 0 (by kernel_rfl) ((H.kept 4 (by kernel_rfl)).trans h4_9))
   ·exact Eng.plain rfl rfl fun a w' H => Eng.vr rfl (Eng.run_loadb rfl (H.dep 0 16 (by kernel_rfl) rfl) ((H.below.block _ lg4_9_10).trans kg4_9_10) rfl (by kernel_rfl))
   ·refine Eng.plain rfl rfl fun a w' H => ?_
    refine Eng.vr (v := .bool (!(((h.getD k default).1.kind) == 2))) (by show _ = Value.bool q18; rw [Bq18]) ?_
    have e0 : a.eval (.tmp 17) = .int .i64 ((h.getD k default).1.kind) := (H.dep 1 17 (by kernel_rfl) rfl)
    have e1 : a.eval (.const (.int .i64 2)) = .int .i64 2 := (rfl : a.eval (.const (.int .i64 2)) = .int .i64 2)
    simp only [execOp, resolve, e0, e1]
    go_simp
    all_goals first | rfl | (simp; done) | (rw [Bool.eq_iff_iff]; simp; done) | omega | (split <;> first | (simp_all; done) | (split <;> simp_all; done)) | skip
  intro act11 w11 T
  have h0_11 := (T.rest 0 (by kernel_rfl)).trans h0_9
  have h10_11 := (T.rest 10 (by kernel_rfl)).trans h10_9
  have h11_11 := (T.rest 11 (by kernel_rfl)).trans h11_9
  have h12_11 := (T.rest 12 (by kernel_rfl)).trans h12_9
  have h18_11 : act11.eval (.tmp 18) = .bool q18 := T.done 2 18 rfl rfl
  have d11 := T.defers.trans d9
  have s11 := T.size.trans s9
  have bl11 := bl10.trans (T.below.mono bl10.size)
  clear T
  refine Eng.tail_nil ?_
  have n18 : q18 = true := by
   try simp only [Bq18, Bq13]
   have hne := Dc.plain_at hp hk0
   simpa using hne
  refine wp_cond_true (h18_11.trans (by rw [n18])) ?_
  refine wp_exit ?_
  refine Eng.regionS (Eng.still [fun u_ => u_ = .int .i64 (IntKind.i64.wrap ((k : Nat) + 1)), fun u_ => u_ = .int .i64 (IntKind.i64.wrap ((k : Nat) + 1))]) (fun _ => .plain) 2 0 67 s11 rfl (by kernel_rfl) (Eng.still_stable _) (Or.inr (Eng.still_any _)) ?_ ?_
  ·refine .cons (fun _ => ?_) (.cons (fun _ => ?_) (.nil))
   ·refine Eng.plain rfl rfl fun a w' H => ?_
    refine Eng.vr (v := .int .i64 (IntKind.i64.wrap ((k : Nat) + 1))) rfl ?_
    have e0 := ((H.kept 12 (by kernel_rfl)).trans h12_11)
    have e1 : a.eval (.const (.int .i64 1)) = .int .i64 1 := (rfl : a.eval (.const (.int .i64 1)) = .int .i64 1)
    simp only [execOp, resolve, e0, e1]
    go_simp
   ·exact Eng.plain rfl rfl fun a w' H => Eng.vr rfl (Eng.run_move rfl (H.dep 0 66 (by kernel_rfl) rfl))
  intro act12 w12 T
  have h0_12 := (T.rest 0 (by kernel_rfl)).trans h0_11
  have h10_12 := (T.rest 10 (by kernel_rfl)).trans h10_11
  have h11_12 := (T.rest 11 (by kernel_rfl)).trans h11_11
  have h12_12 : act12.eval (.tmp 12) = .int .i64 (IntKind.i64.wrap ((k : Nat) + 1)) := T.done 1 12 rfl rfl
  have d12 := T.defers.trans d11
  have s12 := T.size.trans s11
  have bl12 := bl11.trans (T.below.mono bl11.size)
  clear T
  refine Eng.tail_nil ?_
  exact ⟨_, by omega, k + 1, rfl, by omega, d12, s12, bl12, h0_12, h10_12, h11_12, (h12_12.trans (by first | rfl | (congr 1; rw [Eng.i64_id (by omega) (by omega)]; omega) | (simp; done)))⟩
 ·
  have c13 := Bq13.symm.trans hq
  clear hq
  have c13 := of_decide_eq_false c13
  refine wp_exit ?_
  refine wp_seq ?_
  refine Eng.regionS (Eng.still [fun u_ => u_ = .bool false]) (fun _ => .plain) 1 0 67 s4 rfl (by kernel_rfl) (Eng.still_stable _) (Or.inr (Eng.still_any _)) ?_ ?_
  ·refine .cons (fun _ => ?_) (.nil)
   ·exact Eng.plain rfl rfl fun a w' H => Eng.vr rfl (Eng.run_assign rfl (rfl : a.eval (.const (.bool false)) = .bool false))
  intro act14 w14 T
  have h2_14 : act14.eval (.tmp 2) = .bool false := T.done 0 2 rfl rfl
  have d14 := T.defers.trans d4
  have bl14 := bl4.trans (T.below.mono bl4.size)
  clear T
  refine Eng.tail_nil ?_
  refine wp_ret ?_
  repeat (first | refine Eng.in_ret ?_ | refine Eng.then_ret ?_)
  exact Eng.ret1 rfl d14 h2_14 ⟨rfl, bl14⟩
end Go.Proofs.YtgnmjaacnmkgnaaDoor.X
end
section
namespace Go.Proofs.YtgnmjaacnmkgnaaDoor.X
open Go.RowKit Go.Shelf Go.Proofs Go.Proofs.YtgnmjaacnmkgnaaDoorW.PrintWords Go.Proofs.YtgnmjaacnmkgnaaDoorW.PrintLast Go.Proofs.YtgnmjaacnmkgnaaDoorW.PrintMore
set_option linter.unusedVariables false
set_option linter.unusedSimpArgs false
attribute [local go_sem] max2_int min2_int max_two min_two
set_option maxHeartbeats 4000000 in
set_option maxRecDepth 100000 in
theorem Evt.heavy_calls (v : Value) (l : List Evt.Ev) (w : World) (hl : Eng.Reads w v l.length 5 (Evt.cells l)) : Calls Tryd.prog 9 #[v] w fun e w' => e = .returned (.bool (Evt.heavyL l)) ∧ Below w.heap.size w w' := by
 have hm := Eng.Reads.len_le hl
 refine Eng.enter Tryd.func9 rfl fun act0 d0 s0 v0 => ?_
 have s0 : act0.tmps.size = 31 := s0
 have h0_0 : act0.eval (.tmp 0) = v := v0 0 (by simp)
 clear v0
 have bl0 : Below w.heap.size w w := Below.refl _ _
 refine wp_seq ?_
 refine Eng.regionS (Eng.still [fun u_ => u_ = .bool false]) (fun _ => .plain) 1 0 31 s0 rfl (by kernel_rfl) (Eng.still_stable _) (Or.inr (Eng.still_any _)) ?_ ?_
 ·refine .cons (fun _ => ?_) (.nil)
  ·exact Eng.plain rfl rfl fun a w' H => Eng.vr rfl (Eng.run_assign rfl (rfl : a.eval (.const (.bool false)) = .bool false))
 intro act1 w1 T
 have h0_1 := (T.rest 0 (by kernel_rfl)).trans h0_0
 have Fl_1 := Eng.Reads.below hl T.below
 have d1 := T.defers.trans d0
 have s1 := T.size.trans s0
 have bl1 := bl0.trans (T.below.mono bl0.size)
 clear T
 refine Eng.tail_nil ?_
 refine wp_seq ?_
 refine wp_seq ?_
 refine Eng.regionS (Eng.still [fun u_ => u_ = v, fun u_ => u_ = .int .i64 ((l.length : Nat) : Int), fun u_ => u_ = .int .i64 0]) (fun _ => .plain) 3 0 31 s1 rfl (by kernel_rfl) (Eng.still_stable _) (Or.inr (Eng.still_any _)) ?_ ?_
 ·refine .cons (fun _ => ?_) (.cons (fun _ => ?_) (.cons (fun _ => ?_) (.nil)))
  ·exact Eng.plain rfl rfl fun a w' H => Eng.vr rfl (Eng.run_move rfl ((H.kept 0 (by kernel_rfl)).trans h0_1))
  ·exact Eng.plain rfl rfl fun a w' H => Eng.vr (v := .int .i64 ((l.length : Nat) : Int)) rfl (Eng.run_len_sl rfl Tryd.underlying26 (show a.eval (.tmp 5) = v from (H.dep 0 5 (by kernel_rfl) rfl)) (Eng.Reads.below Fl_1 H.below))
  ·exact Eng.plain rfl rfl fun a w' H => Eng.vr rfl (Eng.run_move rfl (rfl : a.eval (.const (.int .i64 0)) = .int .i64 0))
 intro act2 w2 T
 have h0_2 := (T.rest 0 (by kernel_rfl)).trans h0_1
 have h5_2 : act2.eval (.tmp 5) = v := T.done 0 5 rfl rfl
 have h6_2 : act2.eval (.tmp 6) = .int .i64 ((l.length : Nat) : Int) := T.done 1 6 rfl rfl
 have h7_2 : act2.eval (.tmp 7) = .int .i64 0 := T.done 2 7 rfl rfl
 have d2 := T.defers.trans d1
 have s2 := T.size.trans s1
 have bl2 := bl1.trans (T.below.mono bl1.size)
 clear T
 refine Eng.tail_nil ?_
 refine wp_block ?_
 refine Eng.loopN (fun n a w' => ∃ (k : Nat), l.length - k = n ∧ (k ≤ l.length) ∧ ((List.take k l).any Evt.heavyE = false) ∧ a.defers = [] ∧ a.tmps.size = 31 ∧ Below w.heap.size w w' ∧ a.eval (.tmp 0) = v ∧ a.eval (.tmp 5) = v ∧ a.eval (.tmp 6) = .int .i64 ((l.length : Nat) : Int) ∧ a.eval (.tmp 7) = .int .i64 (k : Nat)) (n0 := l.length - 0) ?_ ?_
 ·exact ⟨0, rfl, by omega, rfl, d2, s2, bl2, h0_2, h5_2, h6_2, (h7_2.trans (by first | rfl | (congr 1; rw [Eng.i64_id (by omega) (by omega)]; omega) | (simp; done)))⟩
 rintro n act3 w3 ⟨k, rfl, hc0_3, hc1_3, d3, s3, bl3, h0_3, h5_3, h6_3, h7_3⟩
 have Fl_3 := Eng.Reads.below hl bl3
 have hk1 := hc0_3
 have hin := hc1_3
 refine wp_seq ?_
 obtain ⟨q8, Bq8⟩ : ∃ b : Bool, b = (decide ((k : Nat) < ((l.length : Nat) : Int))) := ⟨_, rfl⟩
 refine Eng.regionS (Eng.still [fun u_ => u_ = .bool q8]) (fun _ => .plain) 1 0 31 s3 rfl (by kernel_rfl) (Eng.still_stable _) (Or.inr (Eng.still_any _)) ?_ ?_
 ·refine .cons (fun _ => ?_) (.nil)
  ·refine Eng.plain rfl rfl fun a w' H => ?_
   refine Eng.vr (v := .bool (decide ((k : Nat) < ((l.length : Nat) : Int)))) (by show _ = Value.bool q8; rw [Bq8]) ?_
   have e0 := ((H.kept 7 (by kernel_rfl)).trans h7_3)
   have e1 := ((H.kept 6 (by kernel_rfl)).trans h6_3)
   simp only [execOp, resolve, List.map_toArray, List.map_cons, List.map_nil, e0, e1]
   go_simp
 intro act4 w4 T
 have h0_4 := (T.rest 0 (by kernel_rfl)).trans h0_3
 have h5_4 := (T.rest 5 (by kernel_rfl)).trans h5_3
 have h6_4 := (T.rest 6 (by kernel_rfl)).trans h6_3
 have h7_4 := (T.rest 7 (by kernel_rfl)).trans h7_3
 have Fl_4 := Eng.Reads.below Fl_3 T.below
 have h8_4 : act4.eval (.tmp 8) = .bool q8 := T.done 0 8 rfl rfl
 have d4 := T.defers.trans d3
 have s4 := T.size.trans s3
 have bl4 := bl3.trans (T.below.mono bl3.size)
 clear T
 refine Eng.tail_nil ?_
 refine wp_seq ?_
 refine wp_cond_split h8_4 (fun hq => ?_) (fun hq => ?_)
 ·
  have c8 := Bq8.symm.trans hq
  clear hq
  have c8 := of_decide_eq_true c8
  have hk0 : k < l.length := by omega
  refine wp_skip ?_
  refine wp_seq ?_
  refine wp_block ?_
  refine wp_seq ?_
  refine Eng.regionS (Eng.still [fun u_ => u_ = Eng.elemPtr v (k * 5), fun u_ => u_ = .agg #[.int .i64 ((l.getD k default).kind), .string ((l.getD k default).anchor), .string ((l.getD k default).tag), .string ((l.getD k default).text), .bool ((l.getD k default).plain)], fun u_ => True, fun u_ => True]) (fun i => ([.plain, .plain, .alloc 23 #[.int .i64 0, .string ⟨#[]⟩, .string ⟨#[]⟩, .string ⟨#[]⟩, .bool false], .store 2 #[.int .i64 ((l.getD k default).kind), .string ((l.getD k default).anchor), .string ((l.getD k default).tag), .string ((l.getD k default).text), .bool ((l.getD k default).plain)]] : List Eng.Kind).getD i .plain) 4 0 31 s4 rfl (by kernel_rfl) (Eng.still_stable _) (Or.inr (Eng.still_any _)) ?_ ?_
  ·refine .cons (fun _ => ?_) (.cons (fun _ => ?_) (.cons (fun _ => ?_) (.cons (fun _ => ?_) (.nil))))
   ·exact Eng.plain rfl rfl fun a w' H => Eng.vr (v := Eng.elemPtr v (k * 5)) rfl (Eng.run_index_sl rfl Tryd.underlying26 (by kernel_rfl) (show a.eval (.tmp 5) = v from ((H.kept 5 (by kernel_rfl)).trans h5_4)) ((show a.eval (.tmp 7) = .int .i64 (k : Nat) from ((H.kept 7 (by kernel_rfl)).trans h7_4)).trans (congrArg (Value.int _) (show (k : Nat) = ((k : Nat) : Int) from by omega))) (Eng.Reads.below Fl_4 H.below) (by omega) rfl)
   ·exact Eng.plain rfl rfl fun a w' H => Eng.vr (v := .agg #[.int .i64 ((l.getD k default).kind), .string ((l.getD k default).anchor), .string ((l.getD k default).tag), .string ((l.getD k default).text), .bool ((l.getD k default).plain)]) rfl (Eng.run_load_els [.int .i64 ((l.getD k default).kind), .string ((l.getD k default).anchor), .string ((l.getD k default).tag), .string ((l.getD k default).text), .bool ((l.getD k default).plain)] rfl (show a.eval (.tmp 9) = Eng.elemPtr v (k * 5) from (H.dep 0 9 (by kernel_rfl) rfl)) (Eng.Reads.below Fl_4 H.below) (Evt.cells_at l k (by omega)) rfl Tryd.underlying23 rfl (by kernel_rfl))
   ·refine Eng.made rfl (by simp) rfl (fun a w' hd ho => ?_) (fun _ _ => trivial)
    simp only [execOp]
    go_simp
   ·refine Eng.stored [.int .i64 ((l.getD k default).kind), .string ((l.getD k default).anchor), .string ((l.getD k default).tag), .string ((l.getD k default).text), .bool ((l.getD k default).plain)] rfl rfl rfl (j := 2) (d := 4) (by kernel_rfl) rfl rfl (Eng.store_uniq (by kernel_rfl)) rfl rfl fun a w' g e hc hd ho => ?_
    have e0 : a.eval _ = .agg #[.int .i64 ((l.getD k default).kind), .string ((l.getD k default).anchor), .string ((l.getD k default).tag), .string ((l.getD k default).text), .bool ((l.getD k default).plain)] := (hd 1 10 (by kernel_rfl) rfl)
    have z0 := (Eng.cells hc 0).trans rfl
    have z1 := (Eng.cells hc 1).trans rfl
    have z2 := (Eng.cells hc 2).trans rfl
    have z3 := (Eng.cells hc 3).trans rfl
    have z4 := (Eng.cells hc 4).trans rfl
    have f0 := Eng.unfrozen hc 0
    have f1 := Eng.unfrozen hc 1
    have f2 := Eng.unfrozen hc 2
    have f3 := Eng.unfrozen hc 3
    have f4 := Eng.unfrozen hc 4
    simp only [execOp, e, e0]
    go_simp
    rfl
  intro act6 w6 T
  have h0_6 := (T.rest 0 (by kernel_rfl)).trans h0_4
  have h5_6 := (T.rest 5 (by kernel_rfl)).trans h5_4
  have h6_6 := (T.rest 6 (by kernel_rfl)).trans h6_4
  have h7_6 := (T.rest 7 (by kernel_rfl)).trans h7_4
  obtain ⟨g4_6, h4_6, rg4_6, lg4_6_6, kg4_6_6⟩ := T.st 2 4 3 _ _ _ rfl rfl rfl rfl rfl
  have d6 := T.defers.trans d4
  have s6 := T.size.trans s4
  have bl6 := bl4.trans (T.below.mono bl4.size)
  clear T
  refine Eng.tail_nil ?_
  refine wp_seq ?_
  obtain ⟨q14, Bq14⟩ : ∃ b : Bool, b = (decide ((((l.getD k default).text).size : Int) > 2000)) := ⟨_, rfl⟩
  obtain ⟨q19, Bq19⟩ : ∃ b : Bool, b = (decide ((((l.getD k default).anchor).size : Int) > 2000)) := ⟨_, rfl⟩
  obtain ⟨q20, Bq20⟩ : ∃ b : Bool, b = (q14 || q19) := ⟨_, rfl⟩
  obtain ⟨q25, Bq25⟩ : ∃ b : Bool, b = (decide ((((l.getD k default).tag).size : Int) > 2000)) := ⟨_, rfl⟩
  obtain ⟨q26, Bq26⟩ : ∃ b : Bool, b = (q20 || q25) := ⟨_, rfl⟩
  refine Eng.regionS (Eng.still [fun u_ => u_ = .pointer (some ⟨g4_6, 3, none⟩), fun u_ => u_ = .string ((l.getD k default).text), fun u_ => u_ = .int .i64 (((l.getD k default).text).size : Int), fun u_ => u_ = .bool q14, fun u_ => u_ = .bool q14, fun u_ => u_ = bif (q14 == false) then (.pointer (some ⟨g4_6, 1, none⟩)) else undef, fun u_ => u_ = bif (q14 == false) then (.string ((l.getD k default).anchor)) else undef, fun u_ => u_ = bif (q14 == false) then (.int .i64 (((l.getD k default).anchor).size : Int)) else undef, fun u_ => u_ = bif (q14 == false) then (.bool q19) else undef, fun u_ => u_ = .bool q20, fun u_ => u_ = .bool q20, fun u_ => u_ = bif (q20 == false) then (.pointer (some ⟨g4_6, 2, none⟩)) else undef, fun u_ => u_ = bif (q20 == false) then (.string ((l.getD k default).tag)) else undef, fun u_ => u_ = bif (q20 == false) then (.int .i64 (((l.getD k default).tag).size : Int)) else undef, fun u_ => u_ = bif (q20 == false) then (.bool q25) else undef, fun u_ => u_ = .bool q26]) (fun _ => .plain) 16 0 31 s6 rfl (by kernel_rfl) (Eng.still_stable _) (Or.inr (Eng.still_any _)) ?_ ?_
  ·refine .cons (fun _ => ?_) (.cons (fun _ => ?_) (.cons (fun _ => ?_) (.cons (fun _ => ?_) (.cons (fun _ => ?_) (.cons (fun _ => ?_) (.cons (fun _ => ?_) (.cons (fun _ => ?_) (.cons (fun _ => ?_) (.cons (fun _ => ?_) (.cons (fun _ => ?_) (.cons (fun _ => ?_) (.cons (fun _ => ?_) (.cons (fun _ => ?_) (.cons (fun _ => ?_) (.cons (fun _ => ?_) (.nil))))))))))))))))
   ·exact Eng.plain rfl rfl fun a w' H => Eng.vr rfl (Eng.run_fieldb rfl Tryd.underlying23 3 (by kernel_rfl) ((H.kept 4 (by kernel_rfl)).trans h4_6))
   ·exact Eng.plain rfl rfl fun a w' H => Eng.vr rfl (Eng.run_loadb rfl (H.dep 0 11 (by kernel_rfl) rfl) ((H.below.block _ lg4_6_6).trans kg4_6_6) rfl (by kernel_rfl))
   ·refine Eng.plain rfl rfl fun a w' H => ?_
    refine Eng.vr (v := .int .i64 (((l.getD k default).text).size : Int)) rfl ?_
    have e0 : a.eval (.tmp 12) = .string ((l.getD k default).text) := (H.dep 1 12 (by kernel_rfl) rfl)
    simp only [execOp, resolve, List.map_toArray, List.map_cons, List.map_nil, e0]
    go_simp
   ·refine Eng.plain rfl rfl fun a w' H => ?_
    refine Eng.vr (v := .bool (decide ((((l.getD k default).text).size : Int) > 2000))) (by show _ = Value.bool q14; rw [Bq14]) ?_
    have e0 : a.eval (.tmp 13) = .int .i64 (((l.getD k default).text).size : Int) := (H.dep 2 13 (by kernel_rfl) rfl)
    have e1 : a.eval (.const (.int .i64 2000)) = .int .i64 2000 := (rfl : a.eval (.const (.int .i64 2000)) = .int .i64 2000)
    simp only [execOp, resolve, List.map_toArray, List.map_cons, List.map_nil, e0, e1]
    go_simp
   ·exact Eng.plain rfl rfl fun a w' H => Eng.vr rfl (Eng.run_move rfl (H.dep 3 14 (by kernel_rfl) rfl))
   ·refine Eng.guarded1 (j := 4) (d := 15) (b := q14) rfl rfl (by kernel_rfl) rfl (fun v w h => h) (fun hG w => Eng.off hG) fun hG a w' H => ?_
    exact Eng.val (w1 := w') (v := .pointer (some ⟨g4_6, 1, none⟩)) (Eng.run_fieldb rfl Tryd.underlying23 1 (by kernel_rfl) ((H.kept 4 (by kernel_rfl)).trans h4_6)) (Below.refl _ _) (Eng.off' hG rfl)
   ·refine Eng.guarded1 (j := 4) (d := 15) (b := q14) rfl rfl (by kernel_rfl) rfl (fun v w h => h) (fun hG w => Eng.off hG) fun hG a w' H => ?_
    exact Eng.val (w1 := w') (v := .string ((l.getD k default).anchor)) (Eng.run_loadb rfl (Eng.on (H.dep 5 16 (by kernel_rfl) rfl) hG) ((H.below.block _ lg4_6_6).trans kg4_6_6) rfl (by kernel_rfl)) (Below.refl _ _) (Eng.off' hG rfl)
   ·refine Eng.guarded1 (j := 4) (d := 15) (b := q14) rfl rfl (by kernel_rfl) rfl (fun v w h => h) (fun hG w => Eng.off hG) fun hG a w' H => ?_
    refine Eng.vr (v := .int .i64 (((l.getD k default).anchor).size : Int)) (Eng.off' hG rfl) ?_
    have e0 : a.eval (.tmp 17) = .string ((l.getD k default).anchor) := (Eng.on (H.dep 6 17 (by kernel_rfl) rfl) hG)
    simp only [execOp, resolve, List.map_toArray, List.map_cons, List.map_nil, e0]
    go_simp
   ·refine Eng.guarded1 (j := 4) (d := 15) (b := q14) rfl rfl (by kernel_rfl) rfl (fun v w h => h) (fun hG w => Eng.off hG) fun hG a w' H => ?_
    refine Eng.vr (v := .bool (decide ((((l.getD k default).anchor).size : Int) > 2000))) (Eng.off' hG (by rw [Bq19])) ?_
    have e0 : a.eval (.tmp 18) = .int .i64 (((l.getD k default).anchor).size : Int) := (Eng.on (H.dep 7 18 (by kernel_rfl) rfl) hG)
    have e1 : a.eval (.const (.int .i64 2000)) = .int .i64 2000 := (rfl : a.eval (.const (.int .i64 2000)) = .int .i64 2000)
    simp only [execOp, resolve, List.map_toArray, List.map_cons, List.map_nil, e0, e1]
    go_simp
   ·exact Eng.plain rfl rfl fun a w' H => Eng.vr (v := .bool (q14 || q19)) (by show _ = Value.bool q20; rw [Bq20]) (Eng.run_or rfl rfl (G := true) (H.dep 4 15 (by kernel_rfl) rfl) (fun hb => (Eng.on (H.dep 8 19 (by kernel_rfl) rfl) (Eng.mk1 hb))))
   ·exact Eng.plain rfl rfl fun a w' H => Eng.vr rfl (Eng.run_move rfl (H.dep 9 20 (by kernel_rfl) rfl))
   ·refine Eng.guarded1 (j := 10) (d := 21) (b := q20) rfl rfl (by kernel_rfl) rfl (fun v w h => h) (fun hG w => Eng.off hG) fun hG a w' H => ?_
    exact Eng.val (w1 := w') (v := .pointer (some ⟨g4_6, 2, none⟩)) (Eng.run_fieldb rfl Tryd.underlying23 2 (by kernel_rfl) ((H.kept 4 (by kernel_rfl)).trans h4_6)) (Below.refl _ _) (Eng.off' hG rfl)
   ·refine Eng.guarded1 (j := 10) (d := 21) (b := q20) rfl rfl (by kernel_rfl) rfl (fun v w h => h) (fun hG w => Eng.off hG) fun hG a w' H => ?_
    exact Eng.val (w1 := w') (v := .string ((l.getD k default).tag)) (Eng.run_loadb rfl (Eng.on (H.dep 11 22 (by kernel_rfl) rfl) hG) ((H.below.block _ lg4_6_6).trans kg4_6_6) rfl (by kernel_rfl)) (Below.refl _ _) (Eng.off' hG rfl)
   ·refine Eng.guarded1 (j := 10) (d := 21) (b := q20) rfl rfl (by kernel_rfl) rfl (fun v w h => h) (fun hG w => Eng.off hG) fun hG a w' H => ?_
    refine Eng.vr (v := .int .i64 (((l.getD k default).tag).size : Int)) (Eng.off' hG rfl) ?_
    have e0 : a.eval (.tmp 23) = .string ((l.getD k default).tag) := (Eng.on (H.dep 12 23 (by kernel_rfl) rfl) hG)
    simp only [execOp, resolve, List.map_toArray, List.map_cons, List.map_nil, e0]
    go_simp
   ·refine Eng.guarded1 (j := 10) (d := 21) (b := q20) rfl rfl (by kernel_rfl) rfl (fun v w h => h) (fun hG w => Eng.off hG) fun hG a w' H => ?_
    refine Eng.vr (v := .bool (decide ((((l.getD k default).tag).size : Int) > 2000))) (Eng.off' hG (by rw [Bq25])) ?_
    have e0 : a.eval (.tmp 24) = .int .i64 (((l.getD k default).tag).size : Int) := (Eng.on (H.dep 13 24 (by kernel_rfl) rfl) hG)
    have e1 : a.eval (.const (.int .i64 2000)) = .int .i64 2000 := (rfl : a.eval (.const (.int .i64 2000)) = .int .i64 2000)
    simp only [execOp, resolve, List.map_toArray, List.map_cons, List.map_nil, e0, e1]
    go_simp
   ·exact Eng.plain rfl rfl fun a w' H => Eng.vr (v := .bool (q20 || q25)) (by show _ = Value.bool q26; rw [Bq26]) (Eng.run_or rfl rfl (G := true) (H.dep 10 21 (by kernel_rfl) rfl) (fun hb => (Eng.on (H.dep 14 25 (by kernel_rfl) rfl) (Eng.mk1 hb))))
  intro act7 w7 T
  have h0_7 := (T.rest 0 (by kernel_rfl)).trans h0_6
  have h5_7 := (T.rest 5 (by kernel_rfl)).trans h5_6
  have h6_7 := (T.rest 6 (by kernel_rfl)).trans h6_6
  have h7_7 := (T.rest 7 (by kernel_rfl)).trans h7_6
  have h26_7 : act7.eval (.tmp 26) = .bool q26 := T.done 15 26 rfl rfl
  have d7 := T.defers.trans d6
  have s7 := T.size.trans s6
  have bl7 := bl6.trans (T.below.mono bl6.size)
  clear T
  refine Eng.tail_nil ?_
  refine wp_cond_split h26_7 (fun hq => ?_) (fun hq => ?_)
  ·
   have c26 := Bq26.symm.trans hq
   clear hq
   have hx : Evt.heavyE (l.getD k default) = true := by have h1 := c26; simp only [Bq26, Bq25, Bq20, Bq19, Bq14, Bq8] at h1; exact h1
   refine wp_seq ?_
   refine Eng.regionS (Eng.still [fun u_ => u_ = .bool true]) (fun _ => .plain) 1 0 31 s7 rfl (by kernel_rfl) (Eng.still_stable _) (Or.inr (Eng.still_any _)) ?_ ?_
   ·refine .cons (fun _ => ?_) (.nil)
    ·exact Eng.plain rfl rfl fun a w' H => Eng.vr rfl (Eng.run_assign rfl (rfl : a.eval (.const (.bool true)) = .bool true))
   intro act9 w9 T
   have h2_9 : act9.eval (.tmp 2) = .bool true := T.done 0 2 rfl rfl
   have d9 := T.defers.trans d7
   have bl9 := bl7.trans (T.below.mono bl7.size)
   clear T
   refine Eng.tail_nil ?_
   refine wp_ret ?_
   repeat (first | refine Eng.in_ret ?_ | refine Eng.then_ret ?_)
   exact Eng.ret1 rfl d9 h2_9 ⟨by rw [Evt.heavy_at hk0 hx], bl9⟩
  ·
   have c26 := Bq26.symm.trans hq
   clear hq
   have hx : Evt.heavyE (l.getD k default) = false := by have h1 := c26; simp only [Bq26, Bq25, Bq20, Bq19, Bq14, Bq8] at h1; exact h1
   refine wp_skip ?_
   refine Eng.regionS (Eng.still [fun u_ => u_ = .int .i64 (IntKind.i64.wrap ((k : Nat) + 1)), fun u_ => u_ = .int .i64 (IntKind.i64.wrap ((k : Nat) + 1))]) (fun _ => .plain) 2 0 31 s7 rfl (by kernel_rfl) (Eng.still_stable _) (Or.inr (Eng.still_any _)) ?_ ?_
   ·refine .cons (fun _ => ?_) (.cons (fun _ => ?_) (.nil))
    ·refine Eng.plain rfl rfl fun a w' H => ?_
     refine Eng.vr (v := .int .i64 (IntKind.i64.wrap ((k : Nat) + 1))) rfl ?_
     have e0 := ((H.kept 7 (by kernel_rfl)).trans h7_7)
     have e1 : a.eval (.const (.int .i64 1)) = .int .i64 1 := (rfl : a.eval (.const (.int .i64 1)) = .int .i64 1)
     simp only [execOp, resolve, List.map_toArray, List.map_cons, List.map_nil, e0, e1]
     go_simp
    ·exact Eng.plain rfl rfl fun a w' H => Eng.vr rfl (Eng.run_move rfl (H.dep 0 27 (by kernel_rfl) rfl))
   intro act11 w11 T
   have h0_11 := (T.rest 0 (by kernel_rfl)).trans h0_7
   have h5_11 := (T.rest 5 (by kernel_rfl)).trans h5_7
   have h6_11 := (T.rest 6 (by kernel_rfl)).trans h6_7
   have h7_11 : act11.eval (.tmp 7) = .int .i64 (IntKind.i64.wrap ((k : Nat) + 1)) := T.done 1 7 rfl rfl
   have d11 := T.defers.trans d7
   have s11 := T.size.trans s7
   have bl11 := bl7.trans (T.below.mono bl7.size)
   clear T
   refine Eng.tail_nil ?_
   exact ⟨_, by omega, k + 1, rfl, by omega, Evt.heavy_take hk0 hin hx, d11, s11, bl11, h0_11, h5_11, h6_11, (h7_11.trans (by first | rfl | (congr 1; rw [Eng.i64_id (by omega) (by omega)]; omega) | (simp; done)))⟩
 ·
  have c8 := Bq8.symm.trans hq
  clear hq
  have c8 := of_decide_eq_false c8
  have hke : k = l.length := by omega
  refine wp_exit ?_
  refine wp_seq ?_
  obtain ⟨q30, Bq30⟩ : ∃ b : Bool, b = (decide (((l.length : Nat) : Int) > 150)) := ⟨_, rfl⟩
  refine Eng.regionS (Eng.still [fun u_ => u_ = v, fun u_ => u_ = .int .i64 ((l.length : Nat) : Int), fun u_ => u_ = .bool q30, fun u_ => u_ = .bool q30]) (fun _ => .plain) 4 0 31 s4 rfl (by kernel_rfl) (Eng.still_stable _) (Or.inr (Eng.still_any _)) ?_ ?_
  ·refine .cons (fun _ => ?_) (.cons (fun _ => ?_) (.cons (fun _ => ?_) (.cons (fun _ => ?_) (.nil))))
   ·exact Eng.plain rfl rfl fun a w' H => Eng.vr rfl (Eng.run_move rfl ((H.kept 0 (by kernel_rfl)).trans h0_4))
   ·exact Eng.plain rfl rfl fun a w' H => Eng.vr (v := .int .i64 ((l.length : Nat) : Int)) rfl (Eng.run_len_sl rfl Tryd.underlying26 (show a.eval (.tmp 28) = v from (H.dep 0 28 (by kernel_rfl) rfl)) (Eng.Reads.below Fl_4 H.below))
   ·refine Eng.plain rfl rfl fun a w' H => ?_
    refine Eng.vr (v := .bool (decide (((l.length : Nat) : Int) > 150))) (by show _ = Value.bool q30; rw [Bq30]) ?_
    have e0 : a.eval (.tmp 29) = .int .i64 ((l.length : Nat) : Int) := (H.dep 1 29 (by kernel_rfl) rfl)
    have e1 : a.eval (.const (.int .i64 150)) = .int .i64 150 := (rfl : a.eval (.const (.int .i64 150)) = .int .i64 150)
    simp only [execOp, resolve, List.map_toArray, List.map_cons, List.map_nil, e0, e1]
    go_simp
   ·exact Eng.plain rfl rfl fun a w' H => Eng.vr rfl (Eng.run_assign rfl (H.dep 2 30 (by kernel_rfl) rfl))
  intro act13 w13 T
  have h2_13 : act13.eval (.tmp 2) = .bool q30 := T.done 3 2 rfl rfl
  have d13 := T.defers.trans d4
  have bl13 := bl4.trans (T.below.mono bl4.size)
  clear T
  refine Eng.tail_nil ?_
  refine wp_ret ?_
  repeat (first | refine Eng.in_ret ?_ | refine Eng.then_ret ?_)
  have fin : q30 = Evt.heavyL l := by
   simp only [Bq30, Bq8]
   rw [hke, List.take_length] at hin; unfold Evt.heavyL; rw [hin, Bool.false_or]
  exact Eng.ret1 rfl d13 (h2_13.trans (congrArg Value.bool fin)) ⟨rfl, bl13⟩
end Go.Proofs.YtgnmjaacnmkgnaaDoor.X
end
section
namespace Go.Proofs.YtgnmjaacnmkgnaaDoor.X
open Go.RowKit Go.Shelf Go.Proofs Go.Maps Go.WideMaps
set_option linter.unusedVariables false
set_option linter.unusedSimpArgs false
namespace Dal
open Evt (Ev)
abbrev nb : ByteArray := ⟨#[]⟩
def l1 : List Ev := [⟨0, nb, nb, nb, false⟩, ⟨2, ⟨#[97]⟩, nb, nb, false⟩, ⟨7, ⟨#[97]⟩, nb, nb, false⟩, ⟨3, nb, nb, nb, false⟩, ⟨1, nb, nb, nb, false⟩]
def l2 : List Ev := [⟨0, nb, nb, nb, false⟩, ⟨2, ⟨#[97]⟩, nb, nb, false⟩, ⟨7, ⟨#[98]⟩, nb, nb, false⟩, ⟨3, nb, nb, nb, false⟩, ⟨1, nb, nb, nb, false⟩]
def nd : Dc.Nd := ⟨1, ⟨#[115, 101, 113]⟩, nb, [0]⟩
def x1 : Ev := ⟨6, nb, nb, ⟨#[53]⟩, true⟩
def x2 : Ev := ⟨6, nb, ⟨#[105, 110, 116]⟩, ⟨#[120]⟩, false⟩
set_option maxRecDepth 100000 in
theorem t1 : Evt.tagF x1 = (⟨#[105, 110, 116]⟩, 0) := by kernel_rfl
set_option maxRecDepth 100000 in
theorem t2 : Evt.tagF x2 = (⟨#[]⟩, 14) := by kernel_rfl
set_option maxRecDepth 100000 in
theorem g1 : Dc.graphsF l1 = ([[nd]], 0) := by kernel_rfl
set_option maxRecDepth 100000 in
theorem g2 : Dc.graphsF l2 = ([], 11) := by kernel_rfl
end Dal
end Go.Proofs.YtgnmjaacnmkgnaaDoor.X
end
section
namespace Go.Proofs.Eng
open Go Go.RowKit
variable {P : Program} {a : Act} {w : World} {o : Oper}
theorem build_own {B : Nat} {T e : TypeId} {n size : Nat} {parts : Array (Nat × Operand)} {z : Value} {us : List Value} (vs : List (Nat × Value)) (hop : o.op = .buildSlice T n parts) (hu : P.underlying T = some (.slice e)) (hI : (P.info? e).map (fun i => (i.size, decide (i.bytes ≤ 128), i.zero)) = some (size, true, some z))
    (hp : (parts.map fun (i, x) => (i, a.eval x)).toList = vs) (hl : us.length = n * size) (hf : Instr.fill (fun i => some (i * size, size)) ((Array.range (n * size)).map (z.cells[· % z.cells.size]!)) vs = some us.toArray) (h1 : (decide (0 < n * size)) = true) (h2 : (decide (n * size < 10000)) = true) (h3 : (decide (n < 10000)) = true) (hB : B ≤ w.heap.size) :
    ∃ v w', (execOp a.eval o).run P w = .ok (.value v) w' ∧ w'.ownsRow B e size v n us ∧ Below w.heap.size w w' := by
  obtain ⟨i, hi, hs, hb, hz⟩ := info_of hI
  have h1 := of_decide_eq_true h1
  have h2 := of_decide_eq_true h2
  have h3 := of_decide_eq_true h3
  subst hs
  have hr := run_buildSlice (P := P) w T e n (parts.map fun (i, x) => (i, a.eval x)) us.toArray i z hu hi hz (by omega) (by omega) (by rw [hp]; exact hf)
  refine ⟨_, _, ?_, ⟨hl, .inr ⟨w.heap.size, n, us.toArray, rfl, hB, ?_, Nat.le_refl _, by unfold maxLen; omega, by simpa using hl, by rw [← hl]; simp⟩⟩, (Below.refl _ _).alloc (Nat.le_refl _) (.cells us.toArray e)⟩
  · unfold execOp
    rw [hop]
    simp only [Sem.run_bind, hr, Result.andThen_ok]
    rfl
  · show (w.heap.push _)[w.heap.size]? = _; simp
end Go.Proofs.Eng
namespace Go.Proofs.YtgnmjaacnmkgnaaDoor.X
open Go.RowKit Go.Shelf Go.Proofs Go.Maps Go.WideMaps
set_option linter.unusedVariables false
set_option linter.unusedSimpArgs false
namespace Dal
open Evt (Ev)
theorem kept30 {w w' : World} {B B' : Nat} {e : TypeId} {size n n' : Nat} {v v' : Value} {xs xs' : List Value} (O : w.ownsRow B e size v n xs) (O' : w.ownsRow B' 30 5 v' n' xs') (hne : (e != 30) = true) (G : w.grownBy w' v'.ownBlock) : w'.ownsRow B e size v n xs :=
  Dc.kept_own (e' := 30) (size' := 5) (B' := B') (n' := n') (xs' := xs') O G (Dc.apart_ty O O' hne)
theorem twok_plain {nodes : List Dc.Nd} (h : ∀ n ∈ nodes, n.kind ≠ 2) : Dc.TwOK nodes := fun B w hh opn names gv ov mb hm R => by
  subst hm; rw [Dc.twiceF_plain h]; exact Dc.twice_plain B mb gv ov hh opn names w R h
theorem plain_of {nodes : List Dc.Nd} (h : (nodes.all fun n => !(n.kind == 2)) = true) : ∀ n ∈ nodes, n.kind ≠ 2 := fun n hn => by
  have := List.all_eq_true.1 h n hn; simpa using this
set_option maxRecDepth 100000 in
theorem tw1 : Dc.TwAll ⟨[], [], []⟩ l1 := by
  refine ⟨fun h => absurd h (by decide), fun h => absurd h (by decide), fun h => absurd h (by decide), fun h => absurd h (by decide), fun _ => twok_plain (plain_of ?_), trivial⟩
  kernel_rfl
set_option maxRecDepth 100000 in
theorem tw2 : Dc.TwAll ⟨[], [], []⟩ l2 := by
  refine ⟨fun h => absurd h (by decide), fun h => absurd h (by decide), fun h => absurd h (by decide), fun h => absurd h (by decide), fun _ => twok_plain (plain_of ?_), trivial⟩
  kernel_rfl
theorem sz1 : ∀ k, k < l1.length → (l1.getD k default).text.size ≤ 2000 := by decide
theorem sz2 : ∀ k, k < l2.length → (l2.getD k default).text.size ≤ 2000 := by decide
theorem az1 : ∀ k, k < l1.length → (l1.getD k default).anchor.size ≤ maxLen := by
  have : ∀ k, k < l1.length → (l1.getD k default).anchor.size ≤ 2000 := by decide
  intro k hk; have := this k hk; unfold maxLen; omega
theorem az2 : ∀ k, k < l2.length → (l2.getD k default).anchor.size ≤ maxLen := by
  have : ∀ k, k < l2.length → (l2.getD k default).anchor.size ≤ 2000 := by decide
  intro k hk; have := this k hk; unfold maxLen; omega
theorem tagc1 (w : World) : Calls Tryd.prog 10 #[.agg #[.int .i64 6, .string ⟨#[]⟩, .string ⟨#[]⟩, .string ⟨#[53]⟩, .bool true]] w fun e w' => e = .returned (.tuple #[.string ⟨#[105, 110, 116]⟩, .int .i64 0]) ∧ Below w.heap.size w w' := by
  have h := Evt.tag_calls x1 w (by decide); rw [t1] at h; exact h
theorem tagc2 (w : World) : Calls Tryd.prog 10 #[.agg #[.int .i64 6, .string ⟨#[]⟩, .string ⟨#[105, 110, 116]⟩, .string ⟨#[120]⟩, .bool false]] w fun e w' => e = .returned (.tuple #[.string ⟨#[]⟩, .int .i64 14]) ∧ Below w.heap.size w w' := by
  have h := Evt.tag_calls x2 w (by decide); rw [t2] at h; exact h
theorem fin_one {fin : List (List Dc.Nd × Value)} (h : List.map (·.1) fin = [[nd]]) : ∃ gv, fin = [([nd], gv)] := by
  cases fin with
  | nil => cases h
  | cons f t =>
    cases t with
    | nil => obtain ⟨a, gv⟩ := f; simp only [List.map_cons, List.map_nil, List.cons.injEq, and_true] at h; exact ⟨gv, by rw [h]⟩
    | cons g u => simp at h
theorem h_one {h : List Dc.NV} (hm : h.map (·.1) = [nd]) : ∃ kv, h = [(nd, kv)] := by
  cases h with
  | nil => cases hm
  | cons f t =>
    cases t with
    | nil => obtain ⟨a, kv⟩ := f; simp only [List.map_cons, List.map_nil, List.cons.injEq, and_true] at hm; exact ⟨kv, by rw [hm]⟩
    | cons g u => simp at hm
end Dal
namespace Evt
theorem light_one {x : Ev} (h : heavyL [x] = false) : x.text.size ≤ 2000 ∧ x.tag.size ≤ 2000 := by
  unfold heavyL heavyE at h
  simp at h
  omega
end Evt
end Go.Proofs.YtgnmjaacnmkgnaaDoor.X
end
