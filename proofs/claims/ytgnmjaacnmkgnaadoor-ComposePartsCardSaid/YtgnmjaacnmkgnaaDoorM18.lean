/- Words and walks that the row of ComposeParts needs: printed by programs, and plain laws. -/
import Derived.Test.YtgnmjaacnmkgnaaDoorM17
import Derived.Test.YtgnmjaacnmkgnaaDoorM3
import Derived.Test.YtgnmjaacnmkgnaaDoorM16
import Derived.Test.YtgnmjaacnmkgnaaDoorM14
namespace Go.Proofs.YtgnmjaacnmkgnaaDoorW.PrintWords
end Go.Proofs.YtgnmjaacnmkgnaaDoorW.PrintWords
namespace Go.Proofs.YtgnmjaacnmkgnaaDoorW.PrintLast
end Go.Proofs.YtgnmjaacnmkgnaaDoorW.PrintLast
namespace Go.Proofs.YtgnmjaacnmkgnaaDoorW.PrintMore
end Go.Proofs.YtgnmjaacnmkgnaaDoorW.PrintMore
section
namespace Go.Proofs.YtgnmjaacnmkgnaaDoor.X
open Go.RowKit Go.Shelf Go.Proofs Go.Proofs.YtgnmjaacnmkgnaaDoorW.PrintWords Go.Proofs.YtgnmjaacnmkgnaaDoorW.PrintLast Go.Proofs.YtgnmjaacnmkgnaaDoorW.PrintMore
set_option linter.unusedVariables false
set_option linter.unusedSimpArgs false
attribute [local go_sem] max2_int min2_int max_two min_two
set_option maxHeartbeats 4000000 in
set_option maxRecDepth 100000 in
theorem Evt.theirs_calls (v : Value) (l : List Evt.Ev) (w : World) (hl : Eng.Reads w v l.length 5 (Evt.cells l)) (hlen : l.length ≤ 2199023255488) : Calls Tryd.prog 13 #[v] w fun e w' => ∃ o, e = .returned o ∧ w'.ownsRow w.heap.size 30 5 o l.length (Evt.cells l) ∧ Below w.heap.size w w' := by
 have hm := Eng.Reads.len_le hl
 refine Eng.enter Tryd.func13 rfl fun act0 d0 s0 v0 => ?_
 have s0 : act0.tmps.size = 18 := s0
 have h0_0 : act0.eval (.tmp 0) = v := v0 0 (by simp)
 clear v0
 have bl0 : Below w.heap.size w w := Below.refl _ _
 refine wp_seq ?_
 refine Eng.regionS (Eng.still [fun u_ => u_ = .slice none 0 0]) (fun _ => .plain) 1 0 18 s0 rfl (by kernel_rfl) (Eng.still_stable _) (Or.inr (Eng.still_any _)) ?_ ?_
 ·refine .c ?_ (.nil)
  ·exact Eng.pv fun a w' H => Eng.vr rfl (Eng.run_assign rfl (rfl : a.eval (.const (.slice none 0 0)) = .slice none 0 0))
 intro act1 w1 T
 have h0_1 := T.r 0 h0_0
 have Fl_1 := Eng.Reads.below hl T.below
 have h2_1 : act1.eval (.tmp 2) = .slice none 0 0 := T.done 0 2 rfl rfl
 have d1 := T.defers.trans d0
 have s1 := T.size.trans s0
 have bl1 := bl0.trans (T.below.mono bl0.size)
 clear T
 refine Eng.tail_nil ?_
 refine wp_seq ?_
 refine Eng.regionS (Eng.still [fun u_ => u_ = .slice none 0 0]) (fun _ => .plain) 1 0 18 s1 rfl (by kernel_rfl) (Eng.still_stable _) (Or.inr (Eng.still_any _)) ?_ ?_
 ·refine .c ?_ (.nil)
  ·exact Eng.pv fun a w' H => Eng.vr rfl (Eng.run_assign rfl (rfl : a.eval (.const (.slice none 0 0)) = .slice none 0 0))
 intro act2 w2 T
 have h0_2 := T.r 0 h0_1
 have h2_2 := T.r 2 h2_1
 have Fl_2 := Eng.Reads.below Fl_1 T.below
 have h3_2 : act2.eval (.tmp 3) = .slice none 0 0 := T.done 0 3 rfl rfl
 have d2 := T.defers.trans d1
 have s2 := T.size.trans s1
 have bl2 := bl1.trans (T.below.mono bl1.size)
 clear T
 refine Eng.tail_nil ?_
 refine wp_seq ?_
 refine wp_seq ?_
 refine Eng.regionS (Eng.still [fun u_ => u_ = v, fun u_ => u_ = .int .i64 ((l.length : Nat) : Int), fun u_ => u_ = .int .i64 0]) (fun _ => .plain) 3 0 18 s2 rfl (by kernel_rfl) (Eng.still_stable _) (Or.inr (Eng.still_any _)) ?_ ?_
 ·refine .c ?_ (.c ?_ (.c ?_ (.nil)))
  ·exact Eng.pv fun a w' H => Eng.vr rfl (Eng.run_move rfl (H.q 0 h0_2))
  ·exact Eng.pv fun a w' H => Eng.vr (v := .int .i64 ((l.length : Nat) : Int)) rfl (Eng.run_len_sl rfl Tryd.underlying26 (show a.eval (.tmp 6) = v from (H.d 0 6)) (Eng.Reads.below Fl_2 H.below))
  ·exact Eng.pv fun a w' H => Eng.vr rfl (Eng.run_move rfl (rfl : a.eval (.const (.int .i64 0)) = .int .i64 0))
 intro act3 w3 T
 have h0_3 := T.r 0 h0_2
 have h2_3 := T.r 2 h2_2
 have h3_3 := T.r 3 h3_2
 have h6_3 : act3.eval (.tmp 6) = v := T.done 0 6 rfl rfl
 have h7_3 : act3.eval (.tmp 7) = .int .i64 ((l.length : Nat) : Int) := T.done 1 7 rfl rfl
 have h8_3 : act3.eval (.tmp 8) = .int .i64 0 := T.done 2 8 rfl rfl
 have d3 := T.defers.trans d2
 have s3 := T.size.trans s2
 have bl3 := bl2.trans (T.below.mono bl2.size)
 clear T
 refine Eng.tail_nil ?_
 refine wp_block ?_
 refine Eng.loopN (fun n a w' => ∃ (k : Nat) (o : Value), l.length - k = n ∧ (k ≤ l.length) ∧ (w'.ownsRow w.heap.size 30 5 o (List.take k l).length (Evt.cells (List.take k l))) ∧ a.defers = [] ∧ a.tmps.size = 18 ∧ Below w.heap.size w w' ∧ a.eval (.tmp 0) = v ∧ a.eval (.tmp 2) = .slice none 0 0 ∧ a.eval (.tmp 3) = o ∧ a.eval (.tmp 6) = v ∧ a.eval (.tmp 7) = .int .i64 ((l.length : Nat) : Int) ∧ a.eval (.tmp 8) = .int .i64 (k : Nat)) (n0 := l.length - 0) ?_ ?_
 ·exact ⟨0, .slice none 0 0, rfl, by omega, World.ownsRow_nil _ _ _ _, d3, s3, bl3, h0_3, h2_3, (h3_3.trans (by first | rfl | (congr 1; rw [Eng.i64_id (by omega) (by omega)]; omega) | (simp; done))), h6_3, h7_3, (h8_3.trans (by first | rfl | (congr 1; rw [Eng.i64_id (by omega) (by omega)]; omega) | (simp; done)))⟩
 rintro n act4 w4 ⟨k, o, rfl, hc0_4, hc1_4, d4, s4, bl4, h0_4, h2_4, h3_4, h6_4, h7_4, h8_4⟩
 have Fl_4 := Eng.Reads.below hl bl4
 have hk1 := hc0_4
 refine wp_seq ?_
 obtain ⟨q9, Bq9⟩ : ∃ b : Bool, b = (decide ((k : Nat) < ((l.length : Nat) : Int))) := ⟨_, rfl⟩
 refine Eng.regionS (Eng.still [fun u_ => u_ = .bool q9]) (fun _ => .plain) 1 0 18 s4 rfl (by kernel_rfl) (Eng.still_stable _) (Or.inr (Eng.still_any _)) ?_ ?_
 ·refine .c ?_ (.nil)
  ·refine Eng.pv fun a w' H => ?_
   refine Eng.vr (v := .bool (decide ((k : Nat) < ((l.length : Nat) : Int)))) (by show _ = Value.bool q9; rw [Bq9]) ?_
   have e0 := (H.q 8 h8_4)
   have e1 := (H.q 7 h7_4)
   simp only [execOp, resolve, e0, e1]
   go_simp
 intro act5 w5 T
 have h0_5 := T.r 0 h0_4
 have h2_5 := T.r 2 h2_4
 have h3_5 := T.r 3 h3_4
 have h6_5 := T.r 6 h6_4
 have h7_5 := T.r 7 h7_4
 have h8_5 := T.r 8 h8_4
 have Fl_5 := Eng.Reads.below Fl_4 T.below
 have Oout_5 := Eng.own_below hc1_4 T.below
 have h9_5 : act5.eval (.tmp 9) = .bool q9 := T.done 0 9 rfl rfl
 have d5 := T.defers.trans d4
 have s5 := T.size.trans s4
 have bl5 := bl4.trans (T.below.mono bl4.size)
 clear T
 refine Eng.tail_nil ?_
 refine wp_seq ?_
 refine wp_cond_split h9_5 (fun hq => ?_) (fun hq => ?_)
 ·
  have c9 := Bq9.symm.trans hq
  clear hq
  have c9 := of_decide_eq_true c9
  have hk0 : k < l.length := by omega
  refine wp_skip ?_
  refine wp_seq ?_
  refine wp_block ?_
  refine wp_seq ?_
  refine Eng.regionS (Eng.still [fun u_ => u_ = Eng.elemPtr v (k * 5), fun u_ => u_ = .agg #[.int .i64 ((l.getD k default).kind), .string ((l.getD k default).anchor), .string ((l.getD k default).tag), .string ((l.getD k default).text), .bool ((l.getD k default).plain)], fun u_ => True, fun u_ => True]) (fun i => ([.plain, .plain, .alloc 23 #[.int .i64 0, .string ⟨#[]⟩, .string ⟨#[]⟩, .string ⟨#[]⟩, .bool false], .store 2 #[.int .i64 ((l.getD k default).kind), .string ((l.getD k default).anchor), .string ((l.getD k default).tag), .string ((l.getD k default).text), .bool ((l.getD k default).plain)]] : List Eng.Kind).getD i .plain) 4 0 18 s5 rfl (by kernel_rfl) (Eng.still_stable _) (Or.inr (Eng.still_any _)) ?_ ?_
  ·refine .c ?_ (.c ?_ (.c ?_ (.c ?_ (.nil))))
   ·exact Eng.pv fun a w' H => Eng.vr (v := Eng.elemPtr v (k * 5)) rfl (Eng.run_index_sl rfl Tryd.underlying26 (by kernel_rfl) (show a.eval (.tmp 6) = v from (H.q 6 h6_5)) ((show a.eval (.tmp 8) = .int .i64 (k : Nat) from (H.q 8 h8_5)).trans (congrArg (Value.int _) (show (k : Nat) = ((k : Nat) : Int) from by omega))) (Eng.Reads.below Fl_5 H.below) (by omega) rfl)
   ·exact Eng.pv fun a w' H => Eng.vr (v := .agg #[.int .i64 ((l.getD k default).kind), .string ((l.getD k default).anchor), .string ((l.getD k default).tag), .string ((l.getD k default).text), .bool ((l.getD k default).plain)]) rfl (Eng.run_load_els [.int .i64 ((l.getD k default).kind), .string ((l.getD k default).anchor), .string ((l.getD k default).tag), .string ((l.getD k default).text), .bool ((l.getD k default).plain)] rfl (show a.eval (.tmp 10) = Eng.elemPtr v (k * 5) from (H.d 0 10)) (Eng.Reads.below Fl_5 H.below) (Evt.cells_at l k (by omega)) rfl Tryd.underlying23 rfl (by kernel_rfl))
   ·refine Eng.made rfl (by simp) rfl (fun a w' hd ho => ?_) (fun _ _ => trivial)
    simp only [execOp]
    go_simp
   ·refine Eng.stored [.int .i64 ((l.getD k default).kind), .string ((l.getD k default).anchor), .string ((l.getD k default).tag), .string ((l.getD k default).text), .bool ((l.getD k default).plain)] rfl rfl rfl (j := 2) (d := 5) (by kernel_rfl) rfl rfl (Eng.store_uniq (by kernel_rfl)) rfl rfl fun a w' g e hc hd ho => ?_
    have e0 : a.eval _ = .agg #[.int .i64 ((l.getD k default).kind), .string ((l.getD k default).anchor), .string ((l.getD k default).tag), .string ((l.getD k default).text), .bool ((l.getD k default).plain)] := (hd 1 11 (by kernel_rfl) rfl)
    have z0 := (Eng.cells hc 0).trans rfl
    have z1 := (Eng.cells hc 1).trans rfl
    have z2 := (Eng.cells hc 2).trans rfl
    have z3 := (Eng.cells hc 3).trans rfl
    have z4 := (Eng.cells hc 4).trans rfl
    have f0 := Eng.unfrozen hc 0
    have f1 := Eng.unfrozen hc 1
    have f2 := Eng.unfrozen hc 2
    have f3 := Eng.unfrozen hc 3
    have f4 := Eng.unfrozen hc 4
    simp only [execOp, e, e0]
    go_simp
    rfl
  intro act7 w7 T
  have h0_7 := T.r 0 h0_5
  have h2_7 := T.r 2 h2_5
  have h3_7 := T.r 3 h3_5
  have h6_7 := T.r 6 h6_5
  have h7_7 := T.r 7 h7_5
  have h8_7 := T.r 8 h8_5
  have Oout_7 := Eng.own_below Oout_5 T.below
  obtain ⟨g5_7, h5_7, rg5_7, lg5_7_7, kg5_7_7⟩ := T.st 2 5 3 _ _ _ rfl rfl rfl rfl rfl
  have d7 := T.defers.trans d5
  have s7 := T.size.trans s5
  have bl7 := bl5.trans (T.below.mono bl5.size)
  clear T
  refine Eng.tail_nil ?_
  refine Eng.regionT (n := 5) rfl ?_
  refine Eng.tail_val rfl rfl rfl (Eng.run_move rfl h3_7) s7 rfl fun act8 d8 s8 hv hr => ?_
  have h0_8 := (hr 0 rfl).trans h0_7
  have h2_8 := (hr 2 rfl).trans h2_7
  have h5_8 := (hr 5 rfl).trans h5_7
  have h6_8 := (hr 6 rfl).trans h6_7
  have h7_8 := (hr 7 rfl).trans h7_7
  have h8_8 := (hr 8 rfl).trans h8_7
  have h12_8 : act8.eval (.tmp 12) = o := hv
  have d8 := d8.trans d7
  clear hv hr
  refine Eng.tail_val rfl rfl rfl (Eng.run_load_all rfl h5_8 kg5_7_7 Tryd.underlying23 rfl (by kernel_rfl)) s8 rfl fun act9 d9 s9 hv hr => ?_
  have h0_9 := (hr 0 rfl).trans h0_8
  have h2_9 := (hr 2 rfl).trans h2_8
  have h6_9 := (hr 6 rfl).trans h6_8
  have h7_9 := (hr 7 rfl).trans h7_8
  have h8_9 := (hr 8 rfl).trans h8_8
  have h12_9 := (hr 12 rfl).trans h12_8
  have h13_9 : act9.eval (.tmp 13) = .agg #[.int .i64 ((l.getD k default).kind), .string ((l.getD k default).anchor), .string ((l.getD k default).tag), .string ((l.getD k default).text), .bool ((l.getD k default).plain)] := hv
  have d9 := d9.trans d8
  clear hv hr
  refine Eng.tail_ex rfl rfl rfl (Eng.run_build1I (size := 5) (z := .agg #[.int .i64 0, .string ⟨#[]⟩, .string ⟨#[]⟩, .string ⟨#[]⟩, .bool false]) [.int .i64 ((l.getD k default).kind), .string ((l.getD k default).anchor), .string ((l.getD k default).tag), .string ((l.getD k default).text), .bool ((l.getD k default).plain)] rfl Tryd.underlying37 (by kernel_rfl) rfl rfl rfl (by kernel_rfl) (show act9.eval (.tmp 13) = .agg #[.int .i64 ((l.getD k default).kind), .string ((l.getD k default).anchor), .string ((l.getD k default).tag), .string ((l.getD k default).text), .bool ((l.getD k default).plain)] from h13_9)) s9 rfl fun v_10 w10 act10 R d10 s10 hv hr => ?_
  obtain ⟨F_10, b_10⟩ := R
  have h0_10 := (hr 0 rfl).trans h0_9
  have h2_10 := (hr 2 rfl).trans h2_9
  have h6_10 := (hr 6 rfl).trans h6_9
  have h7_10 := (hr 7 rfl).trans h7_9
  have h8_10 := (hr 8 rfl).trans h8_9
  have h12_10 := (hr 12 rfl).trans h12_9
  have h14_10 : act10.eval (.tmp 14) = v_10 := hv
  have d10 := d10.trans d9
  clear hv hr
  have Oout_10 := Eng.own_below Oout_7 b_10
  have bl10 := bl7.trans (b_10.mono bl7.size)
  refine Eng.tail_ex rfl rfl rfl (Eng.run_appendM (z := .agg #[.int .i64 0, .string ⟨#[]⟩, .string ⟨#[]⟩, .string ⟨#[]⟩, .bool false]) rfl Tryd.underlying37 (by kernel_rfl) rfl rfl h12_10 Oout_10 h14_10 F_10 (by intro u hu; simp only [List.mem_cons, List.not_mem_nil, or_false] at hu; rcases hu with rfl | rfl | rfl | rfl | rfl <;> rfl) (by rw [List.length_take]; omega) bl10.size) s10 rfl fun v_11 w11 act11 R d11 s11 hv hr => ?_
  obtain ⟨O_11, _, b_11, G_11, EO_11⟩ := R
  have h0_11 := (hr 0 rfl).trans h0_10
  have h2_11 := (hr 2 rfl).trans h2_10
  have h6_11 := (hr 6 rfl).trans h6_10
  have h7_11 := (hr 7 rfl).trans h7_10
  have h8_11 := (hr 8 rfl).trans h8_10
  have h15_11 : act11.eval (.tmp 15) = v_11 := hv
  have d11 := d11.trans d10
  clear hv hr
  have bl11 := bl10.trans b_11
  have Oa11 : w11.ownsRow w.heap.size 30 5 v_11 (List.take (k + 1) l).length (Evt.cells (List.take (k + 1) l)) := Evt.own_take hk0 O_11
  have Fa11 := Eng.Reads.of_own Oa11
  refine Eng.tail_val rfl rfl rfl (Eng.run_assign rfl h15_11) s11 rfl fun act12 d12 s12 hv hr => ?_
  have h0_12 := (hr 0 rfl).trans h0_11
  have h2_12 := (hr 2 rfl).trans h2_11
  have h6_12 := (hr 6 rfl).trans h6_11
  have h7_12 := (hr 7 rfl).trans h7_11
  have h8_12 := (hr 8 rfl).trans h8_11
  have h3_12 : act12.eval (.tmp 3) = v_11 := hv
  have d12 := d12.trans d11
  clear hv hr
  refine Eng.tail_nil ?_
  refine Eng.regionS (Eng.still [fun u_ => u_ = .int .i64 (IntKind.i64.wrap ((k : Nat) + 1)), fun u_ => u_ = .int .i64 (IntKind.i64.wrap ((k : Nat) + 1))]) (fun _ => .plain) 2 0 18 s12 rfl (by kernel_rfl) (Eng.still_stable _) (Or.inr (Eng.still_any _)) ?_ ?_
  ·refine .c ?_ (.c ?_ (.nil))
   ·refine Eng.pv fun a w' H => ?_
    refine Eng.vr (v := .int .i64 (IntKind.i64.wrap ((k : Nat) + 1))) rfl ?_
    have e0 := (H.q 8 h8_12)
    have e1 : a.eval (.const (.int .i64 1)) = .int .i64 1 := rfl
    simp only [execOp, resolve, e0, e1]
    go_simp
   ·exact Eng.pv fun a w' H => Eng.vr rfl (Eng.run_move rfl (H.d 0 16))
  intro act13 w13 T
  have h0_13 := T.r 0 h0_12
  have h2_13 := T.r 2 h2_12
  have h3_13 := T.r 3 h3_12
  have h6_13 := T.r 6 h6_12
  have h7_13 := T.r 7 h7_12
  have Oa11_13 := Eng.own_below Oa11 T.below
  have h8_13 : act13.eval (.tmp 8) = .int .i64 (IntKind.i64.wrap ((k : Nat) + 1)) := T.done 1 8 rfl rfl
  have d13 := T.defers.trans d12
  have s13 := T.size.trans s12
  have bl13 := bl11.trans (T.below.mono bl11.size)
  clear T
  refine Eng.tail_nil ?_
  exact ⟨_, by omega, k + 1, v_11, rfl, by omega, Oa11_13, d13, s13, bl13, h0_13, h2_13, (h3_13.trans (by first | rfl | (congr 1; rw [Eng.i64_id (by omega) (by omega)]; omega) | (simp; done))), h6_13, h7_13, (h8_13.trans (by first | rfl | (congr 1; rw [Eng.i64_id (by omega) (by omega)]; omega) | (simp; done)))⟩
 ·
  have c9 := Bq9.symm.trans hq
  clear hq
  have c9 := of_decide_eq_false c9
  have hke : k = l.length := by omega
  refine wp_exit ?_
  refine wp_seq ?_
  refine Eng.regionS (Eng.still [fun u_ => u_ = o, fun u_ => u_ = o]) (fun _ => .plain) 2 0 18 s5 rfl (by kernel_rfl) (Eng.still_stable _) (Or.inr (Eng.still_any _)) ?_ ?_
  ·refine .c ?_ (.c ?_ (.nil))
   ·exact Eng.pv fun a w' H => Eng.vr rfl (Eng.run_move rfl (H.q 3 h3_5))
   ·exact Eng.pv fun a w' H => Eng.vr rfl (Eng.run_assign rfl (H.d 0 17))
  intro act15 w15 T
  have Oout_15 := Eng.own_below Oout_5 T.below
  have h2_15 : act15.eval (.tmp 2) = o := T.done 1 2 rfl rfl
  have d15 := T.defers.trans d5
  have bl15 := bl5.trans (T.below.mono bl5.size)
  clear T
  refine Eng.tail_nil ?_
  refine wp_ret ?_
  repeat (first | with_reducible refine Eng.in_ret ?_ | with_reducible refine Eng.then_ret ?_)
  have fin := Oout_15
  rw [hke, List.take_length] at fin
  exact Eng.ret1 rfl d15 h2_15 ⟨_, rfl, fin, bl15⟩
end Go.Proofs.YtgnmjaacnmkgnaaDoor.X
end
section
namespace Go.Proofs.YtgnmjaacnmkgnaaDoor.X
open Go.RowKit Go.Shelf Go.Proofs Go.Proofs.YtgnmjaacnmkgnaaDoorW.PrintWords Go.Proofs.YtgnmjaacnmkgnaaDoorW.PrintLast Go.Proofs.YtgnmjaacnmkgnaaDoorW.PrintMore
set_option linter.unusedVariables false
set_option linter.unusedSimpArgs false
attribute [local go_sem] max2_int min2_int max_two min_two
set_option maxHeartbeats 4000000 in
set_option maxRecDepth 100000 in
theorem Dc.twice_plain (B mb : Nat) (gv ov : Value) (h : List Dc.NV) (opn : List Int) (names : List (List UInt8 × Int)) (w : World) (hR : Dc.Rep B w h opn names gv ov mb) (hp : ∀ n ∈ h.map (·.1), n.kind ≠ 2) : Calls Tryd.prog 41 #[gv] w fun e w' => e = .returned (.bool false) ∧ Below w.heap.size w w' := by
 have hm := Eng.Reads.len_le (Eng.Reads.of_own hR.gr)
 refine Eng.enter Tryd.func41 rfl fun act0 d0 s0 v0 => ?_
 have s0 : act0.tmps.size = 67 := s0
 have h0_0 : act0.eval (.tmp 0) = gv := v0 0 (by simp)
 clear v0
 have bl0 : Below w.heap.size w w := Below.refl _ _
 refine wp_seq ?_
 refine Eng.regionS (Eng.still [fun u_ => u_ = .bool false]) (fun _ => .plain) 1 0 67 s0 rfl (by kernel_rfl) (Eng.still_stable _) (Or.inr (Eng.still_any _)) ?_ ?_
 ·refine .cons (fun _ => ?_) (.nil)
  ·exact Eng.plain rfl rfl fun a w' H => Eng.vr rfl (Eng.run_assign rfl (rfl : a.eval (.const (.bool false)) = .bool false))
 intro act1 w1 T
 have h0_1 := (T.rest 0 (by kernel_rfl)).trans h0_0
 have Fgr_1 := Eng.Reads.below (Eng.Reads.of_own hR.gr) T.below
 have d1 := T.defers.trans d0
 have s1 := T.size.trans s0
 have bl1 := bl0.trans (T.below.mono bl0.size)
 clear T
 refine Eng.tail_nil ?_
 refine wp_seq ?_
 refine wp_seq ?_
 refine Eng.regionS (Eng.still [fun u_ => u_ = gv, fun u_ => u_ = .int .i64 ((h.length : Nat) : Int), fun u_ => u_ = .int .i64 0]) (fun _ => .plain) 3 0 67 s1 rfl (by kernel_rfl) (Eng.still_stable _) (Or.inr (Eng.still_any _)) ?_ ?_
 ·refine .cons (fun _ => ?_) (.cons (fun _ => ?_) (.cons (fun _ => ?_) (.nil)))
  ·exact Eng.plain rfl rfl fun a w' H => Eng.vr rfl (Eng.run_move rfl ((H.kept 0 (by kernel_rfl)).trans h0_1))
  ·exact Eng.plain rfl rfl fun a w' H => Eng.vr (v := .int .i64 ((h.length : Nat) : Int)) rfl (Eng.run_len_sl rfl Tryd.underlying48 (show a.eval (.tmp 10) = gv from (H.dep 0 10 (by kernel_rfl) rfl)) (Eng.Reads.below Fgr_1 H.below))
  ·exact Eng.plain rfl rfl fun a w' H => Eng.vr rfl (Eng.run_move rfl (rfl : a.eval (.const (.int .i64 0)) = .int .i64 0))
 intro act2 w2 T
 have h0_2 := (T.rest 0 (by kernel_rfl)).trans h0_1
 have h10_2 : act2.eval (.tmp 10) = gv := T.done 0 10 rfl rfl
 have h11_2 : act2.eval (.tmp 11) = .int .i64 ((h.length : Nat) : Int) := T.done 1 11 rfl rfl
 have h12_2 : act2.eval (.tmp 12) = .int .i64 0 := T.done 2 12 rfl rfl
 have d2 := T.defers.trans d1
 have s2 := T.size.trans s1
 have bl2 := bl1.trans (T.below.mono bl1.size)
 clear T
 refine Eng.tail_nil ?_
 refine wp_block ?_
 refine Eng.loopN (fun n a w' => ∃ (k : Nat), h.length - k = n ∧ (k ≤ h.length) ∧ a.defers = [] ∧ a.tmps.size = 67 ∧ Below w.heap.size w w' ∧ a.eval (.tmp 0) = gv ∧ a.eval (.tmp 10) = gv ∧ a.eval (.tmp 11) = .int .i64 ((h.length : Nat) : Int) ∧ a.eval (.tmp 12) = .int .i64 (k : Nat)) (n0 := h.length - 0) ?_ ?_
 ·exact ⟨0, rfl, by omega, d2, s2, bl2, h0_2, h10_2, h11_2, (h12_2.trans (by first | rfl | (congr 1; rw [Eng.i64_id (by omega) (by omega)]; omega) | (simp; done)))⟩
 rintro n act3 w3 ⟨k, rfl, hc0_3, d3, s3, bl3, h0_3, h10_3, h11_3, h12_3⟩
 have Fgr_3 := Eng.Reads.below (Eng.Reads.of_own hR.gr) bl3
 have hk1 := hc0_3
 refine wp_seq ?_
 obtain ⟨q13, Bq13⟩ : ∃ b : Bool, b = (decide ((k : Nat) < ((h.length : Nat) : Int))) := ⟨_, rfl⟩
 refine Eng.regionS (Eng.still [fun u_ => u_ = .bool q13]) (fun _ => .plain) 1 0 67 s3 rfl (by kernel_rfl) (Eng.still_stable _) (Or.inr (Eng.still_any _)) ?_ ?_
 ·refine .cons (fun _ => ?_) (.nil)
  ·refine Eng.plain rfl rfl fun a w' H => ?_
   refine Eng.vr (v := .bool (decide ((k : Nat) < ((h.length : Nat) : Int)))) (by show _ = Value.bool q13; rw [Bq13]) ?_
   have e0 : a.eval (.tmp 12) = .int .i64 (k : Nat) := ((H.kept 12 (by kernel_rfl)).trans h12_3)
   have e1 : a.eval (.tmp 11) = .int .i64 ((h.length : Nat) : Int) := ((H.kept 11 (by kernel_rfl)).trans h11_3)
   simp only [execOp, resolve, List.map_toArray, List.map_cons, List.map_nil, e0, e1]
   go_simp
   all_goals first | rfl | (simp; done) | (rw [Bool.eq_iff_iff]; simp; done) | omega | (split <;> first | (simp_all; done) | (split <;> simp_all; done)) | skip
 intro act4 w4 T
 have h0_4 := (T.rest 0 (by kernel_rfl)).trans h0_3
 have h10_4 := (T.rest 10 (by kernel_rfl)).trans h10_3
 have h11_4 := (T.rest 11 (by kernel_rfl)).trans h11_3
 have h12_4 := (T.rest 12 (by kernel_rfl)).trans h12_3
 have Fgr_4 := Eng.Reads.below Fgr_3 T.below
 have h13_4 : act4.eval (.tmp 13) = .bool q13 := T.done 0 13 rfl rfl
 have d4 := T.defers.trans d3
 have s4 := T.size.trans s3
 have bl4 := bl3.trans (T.below.mono bl3.size)
 clear T
 refine Eng.tail_nil ?_
 refine wp_seq ?_
 refine wp_cond_split h13_4 (fun hq => ?_) (fun hq => ?_)
 ·
  have c13 := Bq13.symm.trans hq
  clear hq
  have c13 := of_decide_eq_true c13
  have hk0 : k < h.length := by omega
  have Fk0 := Eng.Reads.of_own (hR.ks k hk0)
  have hcell := Dc.cells_at h k hk0
  obtain ⟨kv, hkv⟩ : ∃ v, v = (h.getD k default).2 := ⟨_, rfl⟩
  rw [← hkv] at hcell Fk0
  clear hkv
  have Fkj6 := Eng.Reads.below Fk0 bl4
  refine wp_skip ?_
  refine wp_seq ?_
  refine wp_block ?_
  refine wp_seq ?_
  refine Eng.regionT (n := 4) rfl ?_
  refine Eng.tail_val (w1 := w4) (v := Eng.elemPtr gv (k * 4)) rfl rfl rfl ?_ s4 rfl ?_
  ·exact Eng.run_index_sl rfl Tryd.underlying48 (by kernel_rfl) (show act4.eval (.tmp 10) = gv from h10_4) ((show act4.eval (.tmp 12) = .int .i64 (k : Nat) from h12_4).trans (congrArg (Value.int _) (show (k : Nat) = ((k : Nat) : Int) from by omega))) Fgr_4 (by omega) rfl
  intro act7 d7 s7 hv hr
  have h0_7 := (hr 0 rfl).trans h0_4
  have h10_7 := (hr 10 rfl).trans h10_4
  have h11_7 := (hr 11 rfl).trans h11_4
  have h12_7 := (hr 12 rfl).trans h12_4
  have h14_7 : act7.eval (.tmp 14) = Eng.elemPtr gv (k * 4) := hv
  have d7 := d7.trans d4
  clear hv hr
  refine Eng.tail_val (w1 := w4) (v := .agg #[.int .i64 ((h.getD k default).1.kind), .string ((h.getD k default).1.tag), .string ((h.getD k default).1.text), kv]) rfl rfl rfl ?_ s7 rfl ?_
  ·exact Eng.run_load_els [.int .i64 ((h.getD k default).1.kind), .string ((h.getD k default).1.tag), .string ((h.getD k default).1.text), kv] rfl (show act7.eval (.tmp 14) = Eng.elemPtr gv (k * 4) from h14_7) Fgr_4 (hcell) rfl Tryd.underlying57 rfl (by kernel_rfl)
  intro act8 d8 s8 hv hr
  have h0_8 := (hr 0 rfl).trans h0_7
  have h10_8 := (hr 10 rfl).trans h10_7
  have h11_8 := (hr 11 rfl).trans h11_7
  have h12_8 := (hr 12 rfl).trans h12_7
  have h15_8 : act8.eval (.tmp 15) = .agg #[.int .i64 ((h.getD k default).1.kind), .string ((h.getD k default).1.tag), .string ((h.getD k default).1.text), kv] := hv
  have d8 := d8.trans d7
  clear hv hr
  refine Eng.tail_ex rfl rfl rfl (Eng.alloc_ex (cs := #[.int .i64 0, .string ⟨#[]⟩, .string ⟨#[]⟩, .slice none 0 0]) rfl (by kernel_rfl)) s8 rfl fun v_9 w9 act9 R d9 s9 hv hr => ?_
  obtain ⟨g4_9, ev_9, rg_9, lg4_9, kg4_9, b_9⟩ := R
  have h0_9 := (hr 0 rfl).trans h0_8
  have h10_9 := (hr 10 rfl).trans h10_8
  have h11_9 := (hr 11 rfl).trans h11_8
  have h12_9 := (hr 12 rfl).trans h12_8
  have h15_9 := (hr 15 rfl).trans h15_8
  have h4_9 : act9.eval (.tmp 4) = v_9 := hv
  have d9 := d9.trans d8
  clear hv hr
  have og4_9 : w.heap.size ≤ g4_9 := Nat.le_trans bl4.size rg_9
  have Fkj_9 := Eng.Reads.below Fkj6 b_9
  have bl9 := bl4.trans (b_9.mono bl4.size)
  rw [ev_9] at h4_9
  refine Eng.tail_put [.int .i64 ((h.getD k default).1.kind), .string ((h.getD k default).1.tag), .string ((h.getD k default).1.text), kv] (n := 0) (new := #[.int .i64 ((h.getD k default).1.kind), .string ((h.getD k default).1.tag), .string ((h.getD k default).1.text), kv]) rfl rfl rfl kg4_9 rfl ?_ fun w10 S => ?_
  ·have e0 : act9.eval (.tmp 4) = .pointer (some ⟨g4_9, 0, none⟩) := h4_9
   have e1 : act9.eval (.tmp 15) = .agg #[.int .i64 ((h.getD k default).1.kind), .string ((h.getD k default).1.tag), .string ((h.getD k default).1.text), kv] := h15_9
   obtain ⟨A3_, c3_, ev3_⟩ := Eng.Reads.shape Fkj_9
   subst ev3_
   have z0 := (Eng.cells kg4_9 (0)).trans (rfl)
   have f0 := Eng.unfrozen kg4_9 (0)
   have z1 := (Eng.cells kg4_9 (1)).trans (rfl)
   have f1 := Eng.unfrozen kg4_9 (1)
   have z2 := (Eng.cells kg4_9 (2)).trans (rfl)
   have f2 := Eng.unfrozen kg4_9 (2)
   have z3 := (Eng.cells kg4_9 (3)).trans (rfl)
   have f3 := Eng.unfrozen kg4_9 (3)
   simp only [execOp]
   rw [e0, e1]
   go_simp
   try rfl
  have kg4_9_10 := S.new
  have lg4_9_10 := Nat.lt_of_lt_of_eq lg4_9 S.size.symm
  have bl10 := S.below bl9 og4_9
  clear S
  refine Eng.tail_nil ?_
  refine wp_seq ?_
  refine wp_seq ?_
  obtain ⟨q18, Bq18⟩ : ∃ b : Bool, b = (!(((h.getD k default).1.kind) == 2)) := ⟨_, rfl⟩
  refine Eng.regionS (Eng.still [fun u_ => u_ = .pointer (some ⟨g4_9, 0, none⟩), fun u_ => u_ = .int .i64 ((h.getD k default).1.kind), fun u_ => u_ = .bool q18]) (fun _ => .plain) 3 0 67 s9 rfl (by kernel_rfl) (Eng.still_stable _) (Or.inr (Eng.still_any _)) ?_ ?_
  ·refine .cons (fun _ => ?_) (.cons (fun _ => ?_) (.cons (fun _ => ?_) (.nil)))
   ·exact Eng.plain rfl rfl fun a w' H => Eng.vr rfl (Eng.run_fieldb rfl Tryd.underlying57 0 (by kernel_rfl) ((H.kept 4 (by kernel_rfl)).trans h4_9))
   ·exact Eng.plain rfl rfl fun a w' H => Eng.vr rfl (Eng.run_loadb rfl (H.dep 0 16 (by kernel_rfl) rfl) ((H.below.block _ lg4_9_10).trans kg4_9_10) rfl (by kernel_rfl))
   ·refine Eng.plain rfl rfl fun a w' H => ?_
    refine Eng.vr (v := .bool (!(((h.getD k default).1.kind) == 2))) (by show _ = Value.bool q18; rw [Bq18]) ?_
    have e0 : a.eval (.tmp 17) = .int .i64 ((h.getD k default).1.kind) := (H.dep 1 17 (by kernel_rfl) rfl)
    have e1 : a.eval (.const (.int .i64 2)) = .int .i64 2 := (rfl : a.eval (.const (.int .i64 2)) = .int .i64 2)
    simp only [execOp, resolve, List.map_toArray, List.map_cons, List.map_nil, e0, e1]
    go_simp
    all_goals first | rfl | (simp; done) | (rw [Bool.eq_iff_iff]; simp; done) | omega | (split <;> first | (simp_all; done) | (split <;> simp_all; done)) | skip
  intro act11 w11 T
  have h0_11 := (T.rest 0 (by kernel_rfl)).trans h0_9
  have h10_11 := (T.rest 10 (by kernel_rfl)).trans h10_9
  have h11_11 := (T.rest 11 (by kernel_rfl)).trans h11_9
  have h12_11 := (T.rest 12 (by kernel_rfl)).trans h12_9
  have h18_11 : act11.eval (.tmp 18) = .bool q18 := T.done 2 18 rfl rfl
  have d11 := T.defers.trans d9
  have s11 := T.size.trans s9
  have bl11 := bl10.trans (T.below.mono bl10.size)
  clear T
  refine Eng.tail_nil ?_
  have n18 : q18 = true := by
   try simp only [Bq18, Bq13]
   have hne := Dc.plain_at hp hk0
   simpa using hne
  refine wp_cond_true (h18_11.trans (by rw [n18])) ?_
  refine wp_exit ?_
  refine Eng.regionS (Eng.still [fun u_ => u_ = .int .i64 (IntKind.i64.wrap ((k : Nat) + 1)), fun u_ => u_ = .int .i64 (IntKind.i64.wrap ((k : Nat) + 1))]) (fun _ => .plain) 2 0 67 s11 rfl (by kernel_rfl) (Eng.still_stable _) (Or.inr (Eng.still_any _)) ?_ ?_
  ·refine .cons (fun _ => ?_) (.cons (fun _ => ?_) (.nil))
   ·refine Eng.plain rfl rfl fun a w' H => ?_
    refine Eng.vr (v := .int .i64 (IntKind.i64.wrap ((k : Nat) + 1))) rfl ?_
    have e0 : a.eval (.tmp 12) = .int .i64 (k : Nat) := ((H.kept 12 (by kernel_rfl)).trans h12_11)
    have e1 : a.eval (.const (.int .i64 1)) = .int .i64 1 := (rfl : a.eval (.const (.int .i64 1)) = .int .i64 1)
    simp only [execOp, resolve, List.map_toArray, List.map_cons, List.map_nil, e0, e1]
    go_simp
    all_goals first | rfl | (simp; done) | (rw [Bool.eq_iff_iff]; simp; done) | omega | (split <;> first | (simp_all; done) | (split <;> simp_all; done)) | skip
   ·exact Eng.plain rfl rfl fun a w' H => Eng.vr rfl (Eng.run_move rfl (H.dep 0 66 (by kernel_rfl) rfl))
  intro act12 w12 T
  have h0_12 := (T.rest 0 (by kernel_rfl)).trans h0_11
  have h10_12 := (T.rest 10 (by kernel_rfl)).trans h10_11
  have h11_12 := (T.rest 11 (by kernel_rfl)).trans h11_11
  have h12_12 : act12.eval (.tmp 12) = .int .i64 (IntKind.i64.wrap ((k : Nat) + 1)) := T.done 1 12 rfl rfl
  have d12 := T.defers.trans d11
  have s12 := T.size.trans s11
  have bl12 := bl11.trans (T.below.mono bl11.size)
  clear T
  refine Eng.tail_nil ?_
  exact ⟨_, by omega, k + 1, rfl, by omega, d12, s12, bl12, h0_12, h10_12, h11_12, (h12_12.trans (by first | rfl | (congr 1; rw [Eng.i64_id (by omega) (by omega)]; omega) | (simp; done)))⟩
 ·
  have c13 := Bq13.symm.trans hq
  clear hq
  have c13 := of_decide_eq_false c13
  refine wp_exit ?_
  refine wp_seq ?_
  refine Eng.regionS (Eng.still [fun u_ => u_ = .bool false]) (fun _ => .plain) 1 0 67 s4 rfl (by kernel_rfl) (Eng.still_stable _) (Or.inr (Eng.still_any _)) ?_ ?_
  ·refine .cons (fun _ => ?_) (.nil)
   ·exact Eng.plain rfl rfl fun a w' H => Eng.vr rfl (Eng.run_assign rfl (rfl : a.eval (.const (.bool false)) = .bool false))
  intro act14 w14 T
  have h2_14 : act14.eval (.tmp 2) = .bool false := T.done 0 2 rfl rfl
  have d14 := T.defers.trans d4
  have bl14 := bl4.trans (T.below.mono bl4.size)
  clear T
  refine Eng.tail_nil ?_
  refine wp_ret ?_
  repeat (first | refine Eng.in_ret ?_ | refine Eng.then_ret ?_)
  exact Eng.ret1 rfl d14 h2_14 ⟨rfl, bl14⟩
end Go.Proofs.YtgnmjaacnmkgnaaDoor.X
end
section
namespace Go.Proofs.YtgnmjaacnmkgnaaDoor.X
open Go.RowKit Go.Shelf Go.Proofs Go.Maps Go.WideMaps
set_option linter.unusedVariables false
set_option linter.unusedSimpArgs false
namespace Dal
open Evt (Ev)
abbrev nb : ByteArray := ⟨#[]⟩
def l1 : List Ev := [⟨0, nb, nb, nb, false⟩, ⟨2, ⟨#[97]⟩, nb, nb, false⟩, ⟨7, ⟨#[97]⟩, nb, nb, false⟩, ⟨3, nb, nb, nb, false⟩, ⟨1, nb, nb, nb, false⟩]
def l2 : List Ev := [⟨0, nb, nb, nb, false⟩, ⟨2, ⟨#[97]⟩, nb, nb, false⟩, ⟨7, ⟨#[98]⟩, nb, nb, false⟩, ⟨3, nb, nb, nb, false⟩, ⟨1, nb, nb, nb, false⟩]
def nd : Dc.Nd := ⟨1, ⟨#[115, 101, 113]⟩, nb, [0]⟩
def x1 : Ev := ⟨6, nb, nb, ⟨#[53]⟩, true⟩
def x2 : Ev := ⟨6, nb, ⟨#[105, 110, 116]⟩, ⟨#[120]⟩, false⟩
set_option maxRecDepth 100000 in
theorem t1 : Evt.tagF x1 = (⟨#[105, 110, 116]⟩, 0) := by kernel_rfl
set_option maxRecDepth 100000 in
theorem t2 : Evt.tagF x2 = (⟨#[]⟩, 14) := by kernel_rfl
set_option maxRecDepth 100000 in
theorem g1 : Dc.graphsF l1 = ([[nd]], 0) := by kernel_rfl
set_option maxRecDepth 100000 in
theorem g2 : Dc.graphsF l2 = ([], 11) := by kernel_rfl
end Dal
end Go.Proofs.YtgnmjaacnmkgnaaDoor.X
end
section
namespace Go.Proofs.Eng
open Go Go.RowKit
variable {P : Program} {a : Act} {w : World} {o : Oper}
theorem build_own {B : Nat} {T e : TypeId} {n size : Nat} {parts : Array (Nat × Operand)} {z : Value} {us : List Value} (vs : List (Nat × Value)) (hop : o.op = .buildSlice T n parts) (hu : P.underlying T = some (.slice e)) (hI : (P.info? e).map (fun i => (i.size, decide (i.bytes ≤ 128), i.zero)) = some (size, true, some z))
    (hp : (parts.map fun (i, x) => (i, a.eval x)).toList = vs) (hl : us.length = n * size) (hf : Instr.fill (fun i => some (i * size, size)) ((Array.range (n * size)).map (z.cells[· % z.cells.size]!)) vs = some us.toArray) (h1 : (decide (0 < n * size)) = true) (h2 : (decide (n * size < 10000)) = true) (h3 : (decide (n < 10000)) = true) (hB : B ≤ w.heap.size) :
    ∃ v w', (execOp a.eval o).run P w = .ok (.value v) w' ∧ w'.ownsRow B e size v n us ∧ Below w.heap.size w w' := by
  obtain ⟨i, hi, hs, hb, hz⟩ := info_of hI
  have h1 := of_decide_eq_true h1
  have h2 := of_decide_eq_true h2
  have h3 := of_decide_eq_true h3
  subst hs
  have hr := run_buildSlice (P := P) w T e n (parts.map fun (i, x) => (i, a.eval x)) us.toArray i z hu hi hz (by omega) (by omega) (by rw [hp]; exact hf)
  refine ⟨_, _, ?_, ⟨hl, .inr ⟨w.heap.size, n, us.toArray, rfl, hB, ?_, Nat.le_refl _, by unfold maxLen; omega, by simpa using hl, by rw [← hl]; simp⟩⟩, (Below.refl _ _).alloc (Nat.le_refl _) (.cells us.toArray e)⟩
  · unfold execOp
    rw [hop]
    simp only [Sem.run_bind, hr, Result.andThen_ok]
    rfl
  · show (w.heap.push _)[w.heap.size]? = _; simp
end Go.Proofs.Eng
namespace Go.Proofs.YtgnmjaacnmkgnaaDoor.X
open Go.RowKit Go.Shelf Go.Proofs Go.Maps Go.WideMaps
set_option linter.unusedVariables false
set_option linter.unusedSimpArgs false
namespace Dal
open Evt (Ev)
theorem kept30 {w w' : World} {B B' : Nat} {e : TypeId} {size n n' : Nat} {v v' : Value} {xs xs' : List Value} (O : w.ownsRow B e size v n xs) (O' : w.ownsRow B' 30 5 v' n' xs') (hne : (e != 30) = true) (G : w.grownBy w' v'.ownBlock) : w'.ownsRow B e size v n xs :=
  Dc.kept_own (e' := 30) (size' := 5) (B' := B') (n' := n') (xs' := xs') O G (Dc.apart_ty O O' hne)
theorem twok_plain {nodes : List Dc.Nd} (h : ∀ n ∈ nodes, n.kind ≠ 2) : Dc.TwOK nodes := fun B w hh opn names gv ov mb hm R => by
  subst hm; rw [Dc.twiceF_plain h]; exact Dc.twice_plain B mb gv ov hh opn names w R h
theorem plain_of {nodes : List Dc.Nd} (h : (nodes.all fun n => !(n.kind == 2)) = true) : ∀ n ∈ nodes, n.kind ≠ 2 := fun n hn => by
  have := List.all_eq_true.1 h n hn; simpa using this
set_option maxRecDepth 100000 in
theorem tw1 : Dc.TwAll ⟨[], [], []⟩ l1 := by
  refine ⟨fun h => absurd h (by decide), fun h => absurd h (by decide), fun h => absurd h (by decide), fun h => absurd h (by decide), fun _ => twok_plain (plain_of ?_), trivial⟩
  kernel_rfl
set_option maxRecDepth 100000 in
theorem tw2 : Dc.TwAll ⟨[], [], []⟩ l2 := by
  refine ⟨fun h => absurd h (by decide), fun h => absurd h (by decide), fun h => absurd h (by decide), fun h => absurd h (by decide), fun _ => twok_plain (plain_of ?_), trivial⟩
  kernel_rfl
theorem sz1 : ∀ k, k < l1.length → (l1.getD k default).text.size ≤ 2000 := by decide
theorem sz2 : ∀ k, k < l2.length → (l2.getD k default).text.size ≤ 2000 := by decide
theorem az1 : ∀ k, k < l1.length → (l1.getD k default).anchor.size ≤ maxLen := by
  have : ∀ k, k < l1.length → (l1.getD k default).anchor.size ≤ 2000 := by decide
  intro k hk; have := this k hk; unfold maxLen; omega
theorem az2 : ∀ k, k < l2.length → (l2.getD k default).anchor.size ≤ maxLen := by
  have : ∀ k, k < l2.length → (l2.getD k default).anchor.size ≤ 2000 := by decide
  intro k hk; have := this k hk; unfold maxLen; omega
theorem tagc1 (w : World) : Calls Tryd.prog 10 #[.agg #[.int .i64 6, .string ⟨#[]⟩, .string ⟨#[]⟩, .string ⟨#[53]⟩, .bool true]] w fun e w' => e = .returned (.tuple #[.string ⟨#[105, 110, 116]⟩, .int .i64 0]) ∧ Below w.heap.size w w' := by
  have h := Evt.tag_calls x1 w (by decide); rw [t1] at h; exact h
theorem tagc2 (w : World) : Calls Tryd.prog 10 #[.agg #[.int .i64 6, .string ⟨#[]⟩, .string ⟨#[105, 110, 116]⟩, .string ⟨#[120]⟩, .bool false]] w fun e w' => e = .returned (.tuple #[.string ⟨#[]⟩, .int .i64 14]) ∧ Below w.heap.size w w' := by
  have h := Evt.tag_calls x2 w (by decide); rw [t2] at h; exact h
theorem fin_one {fin : List (List Dc.Nd × Value)} (h : List.map (·.1) fin = [[nd]]) : ∃ gv, fin = [([nd], gv)] := by
  cases fin with
  | nil => cases h
  | cons f t =>
    cases t with
    | nil => obtain ⟨a, gv⟩ := f; simp only [List.map_cons, List.map_nil, List.cons.injEq, and_true] at h; exact ⟨gv, by rw [h]⟩
    | cons g u => simp at h
theorem h_one {h : List Dc.NV} (hm : h.map (·.1) = [nd]) : ∃ kv, h = [(nd, kv)] := by
  cases h with
  | nil => cases hm
  | cons f t =>
    cases t with
    | nil => obtain ⟨a, kv⟩ := f; simp only [List.map_cons, List.map_nil, List.cons.injEq, and_true] at hm; exact ⟨kv, by rw [hm]⟩
    | cons g u => simp at hm
end Dal
end Go.Proofs.YtgnmjaacnmkgnaaDoor.X
end
section
namespace Go.Proofs.YtgnmjaacnmkgnaaDoor.X
open Go.RowKit Go.Shelf Go.Proofs Go.Proofs.YtgnmjaacnmkgnaaDoorW.PrintWords Go.Proofs.YtgnmjaacnmkgnaaDoorW.PrintLast Go.Proofs.YtgnmjaacnmkgnaaDoorW.PrintMore
set_option linter.unusedVariables false
set_option linter.unusedSimpArgs false
attribute [local go_sem] max2_int min2_int max_two min_two
set_option maxHeartbeats 4000000 in
set_option maxRecDepth 100000 in
theorem Dal.alive_calls  (w : World) (hT : Tabs.Holds w) : Calls Tryd.prog 8 #[] w fun e w' => e = .returned (.bool true) ∧ Below w.heap.size w w' := by
 refine Eng.enter Tryd.func8 rfl fun act0 d0 s0 v0 => ?_
 have s0 : act0.tmps.size = 99 := s0
 clear v0
 have bl0 : Below w.heap.size w w := Below.refl _ _
 refine wp_seq ?_
 refine Eng.regionS (Eng.still [fun u_ => u_ = .bool false]) (fun _ => .plain) 1 0 99 s0 rfl (by kernel_rfl) (Eng.still_stable _) (Or.inr (Eng.still_any _)) ?_ ?_
 ·refine .c ?_ (.nil)
  ·exact Eng.pv fun a w' H => Eng.vr rfl (Eng.run_assign rfl (rfl : a.eval (.const (.bool false)) = .bool false))
 intro act1 w1 T
 have d1 := T.defers.trans d0
 have s1 := T.size.trans s0
 have bl1 := bl0.trans (T.below.mono bl0.size)
 clear T
 refine Eng.tail_nil ?_
 refine wp_seq ?_
 refine (wpIn_wide (n := 1)).1 ?_
 refine EngI.regionT (n := 7) rfl ?_
 refine EngI.tail_val (w1 := w1) (v := .agg #[.int .i64 0, .string ⟨#[]⟩, .string ⟨#[]⟩, .string ⟨#[]⟩, .bool false]) EngI.free_wide rfl rfl rfl rfl ?_ s1 rfl ?_
 ·have e0 : act1.eval (.const (.int .i64 0)) = .int .i64 0 := rfl
  simp only [execOp, resolve, e0]
  go_simp
 intro act2 d2 s2 hv hr
 have h10_2 : act2.eval (.tmp 10) = .agg #[.int .i64 0, .string ⟨#[]⟩, .string ⟨#[]⟩, .string ⟨#[]⟩, .bool false] := hv
 have d2 := d2.trans d1
 clear hv hr
 refine EngI.tail_val (w1 := w1) (v := .agg #[.int .i64 2, .string ⟨#[97]⟩, .string ⟨#[]⟩, .string ⟨#[]⟩, .bool false]) EngI.free_wide rfl rfl rfl rfl ?_ s2 rfl ?_
 ·have e0 : act2.eval (.const (.int .i64 2)) = .int .i64 2 := rfl
  have e1 : act2.eval (.const (.string ⟨#[97]⟩)) = .string ⟨#[97]⟩ := rfl
  simp only [execOp, resolve, e0, e1]
  go_simp
 intro act3 d3 s3 hv hr
 have h10_3 := (hr 10 rfl).trans h10_2
 have h11_3 : act3.eval (.tmp 11) = .agg #[.int .i64 2, .string ⟨#[97]⟩, .string ⟨#[]⟩, .string ⟨#[]⟩, .bool false] := hv
 have d3 := d3.trans d2
 clear hv hr
 refine EngI.tail_val (w1 := w1) (v := .agg #[.int .i64 7, .string ⟨#[97]⟩, .string ⟨#[]⟩, .string ⟨#[]⟩, .bool false]) EngI.free_wide rfl rfl rfl rfl ?_ s3 rfl ?_
 ·have e0 : act3.eval (.const (.int .i64 7)) = .int .i64 7 := rfl
  have e1 : act3.eval (.const (.string ⟨#[97]⟩)) = .string ⟨#[97]⟩ := rfl
  simp only [execOp, resolve, e0, e1]
  go_simp
 intro act4 d4 s4 hv hr
 have h10_4 := (hr 10 rfl).trans h10_3
 have h11_4 := (hr 11 rfl).trans h11_3
 have h12_4 : act4.eval (.tmp 12) = .agg #[.int .i64 7, .string ⟨#[97]⟩, .string ⟨#[]⟩, .string ⟨#[]⟩, .bool false] := hv
 have d4 := d4.trans d3
 clear hv hr
 refine EngI.tail_val (w1 := w1) (v := .agg #[.int .i64 3, .string ⟨#[]⟩, .string ⟨#[]⟩, .string ⟨#[]⟩, .bool false]) EngI.free_wide rfl rfl rfl rfl ?_ s4 rfl ?_
 ·have e0 : act4.eval (.const (.int .i64 3)) = .int .i64 3 := rfl
  simp only [execOp, resolve, e0]
  go_simp
 intro act5 d5 s5 hv hr
 have h10_5 := (hr 10 rfl).trans h10_4
 have h11_5 := (hr 11 rfl).trans h11_4
 have h12_5 := (hr 12 rfl).trans h12_4
 have h13_5 : act5.eval (.tmp 13) = .agg #[.int .i64 3, .string ⟨#[]⟩, .string ⟨#[]⟩, .string ⟨#[]⟩, .bool false] := hv
 have d5 := d5.trans d4
 clear hv hr
 refine EngI.tail_val (w1 := w1) (v := .agg #[.int .i64 1, .string ⟨#[]⟩, .string ⟨#[]⟩, .string ⟨#[]⟩, .bool false]) EngI.free_wide rfl rfl rfl rfl ?_ s5 rfl ?_
 ·have e0 : act5.eval (.const (.int .i64 1)) = .int .i64 1 := rfl
  simp only [execOp, resolve, e0]
  go_simp
 intro act6 d6 s6 hv hr
 have h10_6 := (hr 10 rfl).trans h10_5
 have h11_6 := (hr 11 rfl).trans h11_5
 have h12_6 := (hr 12 rfl).trans h12_5
 have h13_6 := (hr 13 rfl).trans h13_5
 have h14_6 : act6.eval (.tmp 14) = .agg #[.int .i64 1, .string ⟨#[]⟩, .string ⟨#[]⟩, .string ⟨#[]⟩, .bool false] := hv
 have d6 := d6.trans d5
 clear hv hr
 refine EngI.tail_ex EngI.free_wide rfl rfl rfl rfl (Eng.build_own (B := w.heap.size) (size := 5) (z := .agg #[.int .i64 0, .string ⟨#[]⟩, .string ⟨#[]⟩, .string ⟨#[]⟩, .bool false]) (us := Evt.cells Dal.l1) [(0, .agg #[.int .i64 0, .string ⟨#[]⟩, .string ⟨#[]⟩, .string ⟨#[]⟩, .bool false]), (1, .agg #[.int .i64 2, .string ⟨#[97]⟩, .string ⟨#[]⟩, .string ⟨#[]⟩, .bool false]), (2, .agg #[.int .i64 7, .string ⟨#[97]⟩, .string ⟨#[]⟩, .string ⟨#[]⟩, .bool false]), (3, .agg #[.int .i64 3, .string ⟨#[]⟩, .string ⟨#[]⟩, .string ⟨#[]⟩, .bool false]), (4, .agg #[.int .i64 1, .string ⟨#[]⟩, .string ⟨#[]⟩, .string ⟨#[]⟩, .bool false])] rfl Tryd.underlying37 (by kernel_rfl) (by have e0 : act6.eval (.tmp 10) = .agg #[.int .i64 0, .string ⟨#[]⟩, .string ⟨#[]⟩, .string ⟨#[]⟩, .bool false] := h10_6; have e1 : act6.eval (.tmp 11) = .agg #[.int .i64 2, .string ⟨#[97]⟩, .string ⟨#[]⟩, .string ⟨#[]⟩, .bool false] := h11_6; have e2 : act6.eval (.tmp 12) = .agg #[.int .i64 7, .string ⟨#[97]⟩, .string ⟨#[]⟩, .string ⟨#[]⟩, .bool false] := h12_6; have e3 : act6.eval (.tmp 13) = .agg #[.int .i64 3, .string ⟨#[]⟩, .string ⟨#[]⟩, .string ⟨#[]⟩, .bool false] := h13_6; have e4 : act6.eval (.tmp 14) = .agg #[.int .i64 1, .string ⟨#[]⟩, .string ⟨#[]⟩, .string ⟨#[]⟩, .bool false] := h14_6; simp only [List.map_toArray, List.map_cons, List.map_nil, e0, e1, e2, e3, e4]) rfl (by kernel_rfl) rfl rfl rfl bl1.size) s6 rfl fun v_7 w7 act7 R d7 s7 hv hr => ?_
 obtain ⟨O_7, b_7⟩ := R
 have h15_7 : act7.eval (.tmp 15) = v_7 := hv
 have d7 := d7.trans d6
 clear hv hr
 have bl7 := bl1.trans (b_7.mono bl1.size)
 have F_7 := Eng.Reads.of_own O_7
 refine EngI.tail_val EngI.free_wide rfl rfl rfl rfl (Eng.run_assign rfl h15_7) s7 rfl fun act8 d8 s8 hv hr => ?_
 have h1_8 : act8.eval (.tmp 1) = v_7 := hv
 have d8 := d8.trans d7
 clear hv hr
 refine EngI.tail_nil ?_
 refine wp_seq ?_
 refine (wpIn_wide (n := 1)).1 ?_
 refine EngI.regionT (n := 7) rfl ?_
 refine EngI.tail_val EngI.free_wide rfl rfl rfl rfl (Eng.run_move rfl h1_8) s8 rfl fun act9 d9 s9 hv hr => ?_
 have h1_9 := (hr 1 rfl).trans h1_8
 have h17_9 : act9.eval (.tmp 17) = v_7 := hv
 have d9 := d9.trans d8
 clear hv hr
 refine EngI.tail_call EngI.free_wide Tryd.func12 (by kernel_rfl) (by kernel_rfl) rfl rfl rfl rfl #[v_7] (by have e0 : act9.eval (.tmp 17) = v_7 := h17_9; simp only [List.map_toArray, List.map_cons, List.map_nil, e0]) s9 rfl (R := fun v w' => ∃ outv fin, v = .tuple #[outv, .int .i64 (Dc.graphsF Dal.l1).2] ∧ List.map (·.1) fin = (Dc.graphsF Dal.l1).1 ∧ w'.ownsRow w7.heap.size 48 1 outv fin.length (List.map (·.2) fin) ∧ (∀ f ∈ fin, Dc.Fin w7 w' f (fun _ => False)) ∧ Below w7.heap.size w7 w') ((Dc.Graphs_calls v_7 Dal.l1 _ (Tabs.below hT bl7) F_7 (by decide) Dal.sz1 Dal.az1 Dal.tw1).mono ?_) fun v_10 w10 act10 R d10 s10 hv hr => ?_
 ·rintro e w1 ⟨o1, f1, rfl, r1⟩; exact ⟨_, rfl, o1, f1, rfl, r1⟩
 have h1_10 := (hr 1 rfl).trans h1_9
 have h18_10 : act10.eval (.tmp 18) = v_10 := hv
 have d10 := d10.trans d9
 clear hv hr
 obtain ⟨outv1, fin1, ev_10, hm10, Oo10, hF10, b_10⟩ := R
 rw [ev_10, Dal.g1] at h18_10
 rw [Dal.g1] at hm10
 obtain ⟨gv1, rfl⟩ := Dal.fin_one hm10
 obtain ⟨hh1, op1, nm1, ov1, mb1, hm1, R1, _⟩ := hF10 _ (List.mem_singleton.2 rfl)
 obtain ⟨kv1, rfl⟩ := Dal.h_one hm1
 have Oo1 : w10.ownsRow w7.heap.size 48 1 outv1 1 [gv1] := Oo10
 have Og1 : w10.ownsRow w7.heap.size 57 4 gv1 1 (Dc.cells [(Dal.nd, kv1)]) := R1.gr
 have Ok1 : w10.ownsRow w7.heap.size 3 1 kv1 1 (Dc.ints [0]) := R1.ks 0 (Nat.lt_succ_self 0)
 have Fl_10 := Eng.Reads.below F_7 b_10
 have Ol_10 := Eng.own_below O_7 b_10
 have bl10 := bl7.trans (b_10.mono bl7.size)
 refine EngI.tail_val EngI.free_wide rfl rfl rfl rfl (Eng.run_move rfl h18_10) s10 rfl fun act11 d11 s11 hv hr => ?_
 have h1_11 := (hr 1 rfl).trans h1_10
 have h16_11 : act11.eval (.tmp 16) = .tuple #[outv1, .int .i64 0] := hv
 have d11 := d11.trans d10
 clear hv hr
 refine EngI.tail_val (w1 := w10) (v := outv1) EngI.free_wide rfl rfl rfl rfl ?_ s11 rfl ?_
 ·have e0 : act11.eval (.tmp 16) = .tuple #[outv1, .int .i64 0] := h16_11
  simp only [execOp, resolve, e0]
  go_simp
 intro act12 d12 s12 hv hr
 have h1_12 := (hr 1 rfl).trans h1_11
 have h16_12 := (hr 16 rfl).trans h16_11
 have h19_12 : act12.eval (.tmp 19) = outv1 := hv
 have d12 := d12.trans d11
 clear hv hr
 refine EngI.tail_val (w1 := w10) (v := .int .i64 0) EngI.free_wide rfl rfl rfl rfl ?_ s12 rfl ?_
 ·have e0 : act12.eval (.tmp 16) = .tuple #[outv1, .int .i64 0] := h16_12
  simp only [execOp, resolve, e0]
  go_simp
 intro act13 d13 s13 hv hr
 have h1_13 := (hr 1 rfl).trans h1_12
 have h19_13 := (hr 19 rfl).trans h19_12
 have h20_13 : act13.eval (.tmp 20) = .int .i64 0 := hv
 have d13 := d13.trans d12
 clear hv hr
 refine EngI.tail_val EngI.free_wide rfl rfl rfl rfl (Eng.run_assign rfl h19_13) s13 rfl fun act14 d14 s14 hv hr => ?_
 have h1_14 := (hr 1 rfl).trans h1_13
 have h20_14 := (hr 20 rfl).trans h20_13
 have h2_14 : act14.eval (.tmp 2) = outv1 := hv
 have d14 := d14.trans d13
 clear hv hr
 refine EngI.tail_val EngI.free_wide rfl rfl rfl rfl (Eng.run_assign rfl h20_14) s14 rfl fun act15 d15 s15 hv hr => ?_
 have h1_15 := (hr 1 rfl).trans h1_14
 have h2_15 := (hr 2 rfl).trans h2_14
 have h3_15 : act15.eval (.tmp 3) = .int .i64 0 := hv
 have d15 := d15.trans d14
 clear hv hr
 refine EngI.tail_nil ?_
 refine wp_seq ?_
 refine (wpIn_wide (n := 1)).1 ?_
 refine EngI.regionT (n := 4) rfl ?_
 refine EngI.tail_val EngI.free_wide rfl rfl rfl rfl (Eng.run_move rfl h1_15) s15 rfl fun act16 d16 s16 hv hr => ?_
 have h1_16 := (hr 1 rfl).trans h1_15
 have h2_16 := (hr 2 rfl).trans h2_15
 have h3_16 := (hr 3 rfl).trans h3_15
 have h21_16 : act16.eval (.tmp 21) = v_7 := hv
 have d16 := d16.trans d15
 clear hv hr
 refine EngI.tail_val (w1 := w10) (v := Eng.elemPtr v_7 (2 * 5)) EngI.free_wide rfl rfl rfl rfl ?_ s16 rfl ?_
 ·exact Eng.run_index_sl rfl Tryd.underlying37 (by kernel_rfl) (show act16.eval (.tmp 21) = v_7 from h21_16) ((show act16.eval (.const (.int .i64 2)) = .int .i64 2 from (rfl : act16.eval (.const (.int .i64 2)) = .int .i64 2)).trans (congrArg (Value.int _) (show 2 = ((2 : Nat) : Int) from by first | rfl | decide))) Fl_10 (by first | rfl | decide) rfl
 intro act17 d17 s17 hv hr
 have h1_17 := (hr 1 rfl).trans h1_16
 have h2_17 := (hr 2 rfl).trans h2_16
 have h3_17 := (hr 3 rfl).trans h3_16
 have h22_17 : act17.eval (.tmp 22) = Eng.elemPtr v_7 (2 * 5) := hv
 have d17 := d17.trans d16
 clear hv hr
 refine EngI.tail_val (w1 := w10) (v := Eng.elemPtr v_7 (2 * 5 + 1)) EngI.free_wide rfl rfl rfl rfl ?_ s17 rfl ?_
 ·exact Eng.run_field_el rfl Tryd.underlying30 1 (by kernel_rfl) (show act17.eval (.tmp 22) = Eng.elemPtr v_7 (2 * 5) from h22_17) Fl_10 (by have h_ : 2 < 5 := (by first | rfl | decide); omega)
 intro act18 d18 s18 hv hr
 have h1_18 := (hr 1 rfl).trans h1_17
 have h2_18 := (hr 2 rfl).trans h2_17
 have h3_18 := (hr 3 rfl).trans h3_17
 have h23_18 : act18.eval (.tmp 23) = Eng.elemPtr v_7 (2 * 5 + 1) := hv
 have d18 := d18.trans d17
 clear hv hr
 refine EngG.tail_exs EngI.free_wide rfl rfl rfl rfl (Eng.run_store_own (j := 2 * 5 + 1) (u := .string ⟨#[98]⟩) rfl (show act18.eval (.tmp 23) = Eng.elemPtr v_7 (2 * 5 + 1) from h23_18) (rfl : act18.eval (.const (.string ⟨#[98]⟩)) = .string ⟨#[98]⟩) Ol_10 (by have h_ : 2 < 5 := (by first | rfl | decide); omega) (by kernel_rfl) (by rfl)) fun w19 R => ?_
 obtain ⟨O_19, G_19⟩ := R
 have bl19 := bl10.grown G_19 bl10.size (fun j hj => (Eng.ownB Ol_10 hj.symm).1)
 have Oo1_19 := Dal.kept30 Oo1 Ol_10 rfl G_19
 have Fo1_19 := Eng.Reads.of_own Oo1_19
 have Og1_19 := Dal.kept30 Og1 Ol_10 rfl G_19
 have Fg1_19 := Eng.Reads.of_own Og1_19
 have Ok1_19 := Dal.kept30 Ok1 Ol_10 rfl G_19
 have Fk1_19 := Eng.Reads.of_own Ok1_19
 have Ol_19 : w19.ownsRow _ 30 5 v_7 5 (Evt.cells Dal.l2) := O_19
 have Fl_19 := Eng.Reads.of_own Ol_19
 refine EngI.tail_nil ?_
 refine wp_seq ?_
 refine (wpIn_wide (n := 1)).1 ?_
 refine EngI.regionT (n := 7) rfl ?_
 refine EngI.tail_val EngI.free_wide rfl rfl rfl rfl (Eng.run_move rfl h1_18) s18 rfl fun act20 d20 s20 hv hr => ?_
 have h2_20 := (hr 2 rfl).trans h2_18
 have h3_20 := (hr 3 rfl).trans h3_18
 have h25_20 : act20.eval (.tmp 25) = v_7 := hv
 have d20 := d20.trans d18
 clear hv hr
 refine EngI.tail_call EngI.free_wide Tryd.func12 (by kernel_rfl) (by kernel_rfl) rfl rfl rfl rfl #[v_7] (by have e0 : act20.eval (.tmp 25) = v_7 := h25_20; simp only [List.map_toArray, List.map_cons, List.map_nil, e0]) s20 rfl (R := fun v w' => ∃ outv fin, v = .tuple #[outv, .int .i64 (Dc.graphsF Dal.l2).2] ∧ List.map (·.1) fin = (Dc.graphsF Dal.l2).1 ∧ w'.ownsRow w19.heap.size 48 1 outv fin.length (List.map (·.2) fin) ∧ (∀ f ∈ fin, Dc.Fin w19 w' f (fun _ => False)) ∧ Below w19.heap.size w19 w') ((Dc.Graphs_calls v_7 Dal.l2 _ (Tabs.below hT bl19) Fl_19 (by decide) Dal.sz2 Dal.az2 Dal.tw2).mono ?_) fun v_21 w21 act21 R d21 s21 hv hr => ?_
 ·rintro e w1 ⟨o1, f1, rfl, r1⟩; exact ⟨_, rfl, o1, f1, rfl, r1⟩
 have h2_21 := (hr 2 rfl).trans h2_20
 have h3_21 := (hr 3 rfl).trans h3_20
 have h26_21 : act21.eval (.tmp 26) = v_21 := hv
 have d21 := d21.trans d20
 clear hv hr
 obtain ⟨outv2, fin2, ev_21, hm21, Oo21, hF21, b_21⟩ := R
 rw [ev_21, Dal.g2] at h26_21
 have Fo1_21 := Eng.Reads.below Fo1_19 b_21
 have Fg1_21 := Eng.Reads.below Fg1_19 b_21
 have Fk1_21 := Eng.Reads.below Fk1_19 b_21
 have bl21 := bl19.trans (b_21.mono bl19.size)
 refine EngI.tail_val EngI.free_wide rfl rfl rfl rfl (Eng.run_move rfl h26_21) s21 rfl fun act22 d22 s22 hv hr => ?_
 have h2_22 := (hr 2 rfl).trans h2_21
 have h3_22 := (hr 3 rfl).trans h3_21
 have h24_22 : act22.eval (.tmp 24) = .tuple #[outv2, .int .i64 11] := hv
 have d22 := d22.trans d21
 clear hv hr
 refine EngI.tail_val (w1 := w21) (v := outv2) EngI.free_wide rfl rfl rfl rfl ?_ s22 rfl ?_
 ·have e0 : act22.eval (.tmp 24) = .tuple #[outv2, .int .i64 11] := h24_22
  simp only [execOp, resolve, e0]
  go_simp
 intro act23 d23 s23 hv hr
 have h2_23 := (hr 2 rfl).trans h2_22
 have h3_23 := (hr 3 rfl).trans h3_22
 have h24_23 := (hr 24 rfl).trans h24_22
 have h27_23 : act23.eval (.tmp 27) = outv2 := hv
 have d23 := d23.trans d22
 clear hv hr
 refine EngI.tail_val (w1 := w21) (v := .int .i64 11) EngI.free_wide rfl rfl rfl rfl ?_ s23 rfl ?_
 ·have e0 : act23.eval (.tmp 24) = .tuple #[outv2, .int .i64 11] := h24_23
  simp only [execOp, resolve, e0]
  go_simp
 intro act24 d24 s24 hv hr
 have h2_24 := (hr 2 rfl).trans h2_23
 have h3_24 := (hr 3 rfl).trans h3_23
 have h27_24 := (hr 27 rfl).trans h27_23
 have h28_24 : act24.eval (.tmp 28) = .int .i64 11 := hv
 have d24 := d24.trans d23
 clear hv hr
 refine EngI.tail_val EngI.free_wide rfl rfl rfl rfl (Eng.run_assign rfl h27_24) s24 rfl fun act25 d25 s25 hv hr => ?_
 have h2_25 := (hr 2 rfl).trans h2_24
 have h3_25 := (hr 3 rfl).trans h3_24
 have h28_25 := (hr 28 rfl).trans h28_24
 have d25 := d25.trans d24
 clear hv hr
 refine EngI.tail_val EngI.free_wide rfl rfl rfl rfl (Eng.run_assign rfl h28_25) s25 rfl fun act26 d26 s26 hv hr => ?_
 have h2_26 := (hr 2 rfl).trans h2_25
 have h3_26 := (hr 3 rfl).trans h3_25
 have h5_26 : act26.eval (.tmp 5) = .int .i64 11 := hv
 have d26 := d26.trans d25
 clear hv hr
 refine EngI.tail_nil ?_
 refine wp_seq ?_
 refine (wpIn_wide (n := 1)).1 ?_
 refine EngI.regionT (n := 7) rfl ?_
 refine EngI.tail_val (w1 := w21) (v := .agg #[.int .i64 6, .string ⟨#[]⟩, .string ⟨#[]⟩, .string ⟨#[53]⟩, .bool true]) EngI.free_wide rfl rfl rfl rfl ?_ s26 rfl ?_
 ·have e0 : act26.eval (.const (.int .i64 6)) = .int .i64 6 := rfl
  have e1 : act26.eval (.const (.string ⟨#[53]⟩)) = .string ⟨#[53]⟩ := rfl
  have e2 : act26.eval (.const (.bool true)) = .bool true := rfl
  simp only [execOp, resolve, e0, e1, e2]
  go_simp
 intro act27 d27 s27 hv hr
 have h2_27 := (hr 2 rfl).trans h2_26
 have h3_27 := (hr 3 rfl).trans h3_26
 have h5_27 := (hr 5 rfl).trans h5_26
 have h30_27 : act27.eval (.tmp 30) = .agg #[.int .i64 6, .string ⟨#[]⟩, .string ⟨#[]⟩, .string ⟨#[53]⟩, .bool true] := hv
 have d27 := d27.trans d26
 clear hv hr
 refine EngI.tail_call EngI.free_wide Tryd.func10 (by kernel_rfl) (by kernel_rfl) rfl rfl rfl rfl #[.agg #[.int .i64 6, .string ⟨#[]⟩, .string ⟨#[]⟩, .string ⟨#[53]⟩, .bool true]] (by have e0 : act27.eval (.tmp 30) = .agg #[.int .i64 6, .string ⟨#[]⟩, .string ⟨#[]⟩, .string ⟨#[53]⟩, .bool true] := h30_27; simp only [List.map_toArray, List.map_cons, List.map_nil, e0]) s27 rfl (R := fun v w_ => v = .tuple #[.string ⟨#[105, 110, 116]⟩, .int .i64 0] ∧ Below w21.heap.size w21 w_) ((Dal.tagc1 _).mono ?_) fun v_28 w28 act28 R d28 s28 hv hr => ?_
 ·rintro e w_ ⟨rfl, hb⟩; exact ⟨_, rfl, rfl, hb⟩
 obtain ⟨ev_28, b_28⟩ := R
 have h2_28 := (hr 2 rfl).trans h2_27
 have h3_28 := (hr 3 rfl).trans h3_27
 have h5_28 := (hr 5 rfl).trans h5_27
 have h31_28 : act28.eval (.tmp 31) = .tuple #[.string ⟨#[105, 110, 116]⟩, .int .i64 0] := (hv.trans ev_28)
 have d28 := d28.trans d27
 clear hv hr
 have Fo1_28 := Eng.Reads.below Fo1_21 b_28
 have Fg1_28 := Eng.Reads.below Fg1_21 b_28
 have Fk1_28 := Eng.Reads.below Fk1_21 b_28
 have bl28 := bl21.trans (b_28.mono bl21.size)
 refine EngI.tail_val EngI.free_wide rfl rfl rfl rfl (Eng.run_move rfl h31_28) s28 rfl fun act29 d29 s29 hv hr => ?_
 have h2_29 := (hr 2 rfl).trans h2_28
 have h3_29 := (hr 3 rfl).trans h3_28
 have h5_29 := (hr 5 rfl).trans h5_28
 have h29_29 : act29.eval (.tmp 29) = .tuple #[.string ⟨#[105, 110, 116]⟩, .int .i64 0] := hv
 have d29 := d29.trans d28
 clear hv hr
 refine EngI.tail_val (w1 := w28) (v := .string ⟨#[105, 110, 116]⟩) EngI.free_wide rfl rfl rfl rfl ?_ s29 rfl ?_
 ·have e0 : act29.eval (.tmp 29) = .tuple #[.string ⟨#[105, 110, 116]⟩, .int .i64 0] := h29_29
  simp only [execOp, resolve, e0]
  go_simp
 intro act30 d30 s30 hv hr
 have h2_30 := (hr 2 rfl).trans h2_29
 have h3_30 := (hr 3 rfl).trans h3_29
 have h5_30 := (hr 5 rfl).trans h5_29
 have h29_30 := (hr 29 rfl).trans h29_29
 have h32_30 : act30.eval (.tmp 32) = .string ⟨#[105, 110, 116]⟩ := hv
 have d30 := d30.trans d29
 clear hv hr
 refine EngI.tail_val (w1 := w28) (v := .int .i64 0) EngI.free_wide rfl rfl rfl rfl ?_ s30 rfl ?_
 ·have e0 : act30.eval (.tmp 29) = .tuple #[.string ⟨#[105, 110, 116]⟩, .int .i64 0] := h29_30
  simp only [execOp, resolve, e0]
  go_simp
 intro act31 d31 s31 hv hr
 have h2_31 := (hr 2 rfl).trans h2_30
 have h3_31 := (hr 3 rfl).trans h3_30
 have h5_31 := (hr 5 rfl).trans h5_30
 have h32_31 := (hr 32 rfl).trans h32_30
 have h33_31 : act31.eval (.tmp 33) = .int .i64 0 := hv
 have d31 := d31.trans d30
 clear hv hr
 refine EngI.tail_val EngI.free_wide rfl rfl rfl rfl (Eng.run_assign rfl h32_31) s31 rfl fun act32 d32 s32 hv hr => ?_
 have h2_32 := (hr 2 rfl).trans h2_31
 have h3_32 := (hr 3 rfl).trans h3_31
 have h5_32 := (hr 5 rfl).trans h5_31
 have h33_32 := (hr 33 rfl).trans h33_31
 have h6_32 : act32.eval (.tmp 6) = .string ⟨#[105, 110, 116]⟩ := hv
 have d32 := d32.trans d31
 clear hv hr
 refine EngI.tail_val EngI.free_wide rfl rfl rfl rfl (Eng.run_assign rfl h33_32) s32 rfl fun act33 d33 s33 hv hr => ?_
 have h2_33 := (hr 2 rfl).trans h2_32
 have h3_33 := (hr 3 rfl).trans h3_32
 have h5_33 := (hr 5 rfl).trans h5_32
 have h6_33 := (hr 6 rfl).trans h6_32
 have h7_33 : act33.eval (.tmp 7) = .int .i64 0 := hv
 have d33 := d33.trans d32
 clear hv hr
 refine EngI.tail_nil ?_
 refine wp_seq ?_
 refine (wpIn_wide (n := 1)).1 ?_
 refine EngI.regionT (n := 7) rfl ?_
 refine EngI.tail_val (w1 := w28) (v := .agg #[.int .i64 6, .string ⟨#[]⟩, .string ⟨#[105, 110, 116]⟩, .string ⟨#[120]⟩, .bool false]) EngI.free_wide rfl rfl rfl rfl ?_ s33 rfl ?_
 ·have e0 : act33.eval (.const (.int .i64 6)) = .int .i64 6 := rfl
  have e1 : act33.eval (.const (.string ⟨#[105, 110, 116]⟩)) = .string ⟨#[105, 110, 116]⟩ := rfl
  have e2 : act33.eval (.const (.string ⟨#[120]⟩)) = .string ⟨#[120]⟩ := rfl
  simp only [execOp, resolve, e0, e1, e2]
  go_simp
 intro act34 d34 s34 hv hr
 have h2_34 := (hr 2 rfl).trans h2_33
 have h3_34 := (hr 3 rfl).trans h3_33
 have h5_34 := (hr 5 rfl).trans h5_33
 have h6_34 := (hr 6 rfl).trans h6_33
 have h7_34 := (hr 7 rfl).trans h7_33
 have h35_34 : act34.eval (.tmp 35) = .agg #[.int .i64 6, .string ⟨#[]⟩, .string ⟨#[105, 110, 116]⟩, .string ⟨#[120]⟩, .bool false] := hv
 have d34 := d34.trans d33
 clear hv hr
 refine EngI.tail_call EngI.free_wide Tryd.func10 (by kernel_rfl) (by kernel_rfl) rfl rfl rfl rfl #[.agg #[.int .i64 6, .string ⟨#[]⟩, .string ⟨#[105, 110, 116]⟩, .string ⟨#[120]⟩, .bool false]] (by have e0 : act34.eval (.tmp 35) = .agg #[.int .i64 6, .string ⟨#[]⟩, .string ⟨#[105, 110, 116]⟩, .string ⟨#[120]⟩, .bool false] := h35_34; simp only [List.map_toArray, List.map_cons, List.map_nil, e0]) s34 rfl (R := fun v w_ => v = .tuple #[.string ⟨#[]⟩, .int .i64 14] ∧ Below w28.heap.size w28 w_) ((Dal.tagc2 _).mono ?_) fun v_35 w35 act35 R d35 s35 hv hr => ?_
 ·rintro e w_ ⟨rfl, hb⟩; exact ⟨_, rfl, rfl, hb⟩
 obtain ⟨ev_35, b_35⟩ := R
 have h2_35 := (hr 2 rfl).trans h2_34
 have h3_35 := (hr 3 rfl).trans h3_34
 have h5_35 := (hr 5 rfl).trans h5_34
 have h6_35 := (hr 6 rfl).trans h6_34
 have h7_35 := (hr 7 rfl).trans h7_34
 have h36_35 : act35.eval (.tmp 36) = .tuple #[.string ⟨#[]⟩, .int .i64 14] := (hv.trans ev_35)
 have d35 := d35.trans d34
 clear hv hr
 have Fo1_35 := Eng.Reads.below Fo1_28 b_35
 have Fg1_35 := Eng.Reads.below Fg1_28 b_35
 have Fk1_35 := Eng.Reads.below Fk1_28 b_35
 have bl35 := bl28.trans (b_35.mono bl28.size)
 refine EngI.tail_val EngI.free_wide rfl rfl rfl rfl (Eng.run_move rfl h36_35) s35 rfl fun act36 d36 s36 hv hr => ?_
 have h2_36 := (hr 2 rfl).trans h2_35
 have h3_36 := (hr 3 rfl).trans h3_35
 have h5_36 := (hr 5 rfl).trans h5_35
 have h6_36 := (hr 6 rfl).trans h6_35
 have h7_36 := (hr 7 rfl).trans h7_35
 have h34_36 : act36.eval (.tmp 34) = .tuple #[.string ⟨#[]⟩, .int .i64 14] := hv
 have d36 := d36.trans d35
 clear hv hr
 refine EngI.tail_val (w1 := w35) (v := .string ⟨#[]⟩) EngI.free_wide rfl rfl rfl rfl ?_ s36 rfl ?_
 ·have e0 : act36.eval (.tmp 34) = .tuple #[.string ⟨#[]⟩, .int .i64 14] := h34_36
  simp only [execOp, resolve, e0]
  go_simp
 intro act37 d37 s37 hv hr
 have h2_37 := (hr 2 rfl).trans h2_36
 have h3_37 := (hr 3 rfl).trans h3_36
 have h5_37 := (hr 5 rfl).trans h5_36
 have h6_37 := (hr 6 rfl).trans h6_36
 have h7_37 := (hr 7 rfl).trans h7_36
 have h34_37 := (hr 34 rfl).trans h34_36
 have h37_37 : act37.eval (.tmp 37) = .string ⟨#[]⟩ := hv
 have d37 := d37.trans d36
 clear hv hr
 refine EngI.tail_val (w1 := w35) (v := .int .i64 14) EngI.free_wide rfl rfl rfl rfl ?_ s37 rfl ?_
 ·have e0 : act37.eval (.tmp 34) = .tuple #[.string ⟨#[]⟩, .int .i64 14] := h34_37
  simp only [execOp, resolve, e0]
  go_simp
 intro act38 d38 s38 hv hr
 have h2_38 := (hr 2 rfl).trans h2_37
 have h3_38 := (hr 3 rfl).trans h3_37
 have h5_38 := (hr 5 rfl).trans h5_37
 have h6_38 := (hr 6 rfl).trans h6_37
 have h7_38 := (hr 7 rfl).trans h7_37
 have h37_38 := (hr 37 rfl).trans h37_37
 have h38_38 : act38.eval (.tmp 38) = .int .i64 14 := hv
 have d38 := d38.trans d37
 clear hv hr
 refine EngI.tail_val EngI.free_wide rfl rfl rfl rfl (Eng.run_assign rfl h37_38) s38 rfl fun act39 d39 s39 hv hr => ?_
 have h2_39 := (hr 2 rfl).trans h2_38
 have h3_39 := (hr 3 rfl).trans h3_38
 have h5_39 := (hr 5 rfl).trans h5_38
 have h6_39 := (hr 6 rfl).trans h6_38
 have h7_39 := (hr 7 rfl).trans h7_38
 have h38_39 := (hr 38 rfl).trans h38_38
 have d39 := d39.trans d38
 clear hv hr
 refine EngI.tail_val EngI.free_wide rfl rfl rfl rfl (Eng.run_assign rfl h38_39) s39 rfl fun act40 d40 s40 hv hr => ?_
 have h2_40 := (hr 2 rfl).trans h2_39
 have h3_40 := (hr 3 rfl).trans h3_39
 have h5_40 := (hr 5 rfl).trans h5_39
 have h6_40 := (hr 6 rfl).trans h6_39
 have h7_40 := (hr 7 rfl).trans h7_39
 have h9_40 : act40.eval (.tmp 9) = .int .i64 14 := hv
 have d40 := d40.trans d39
 clear hv hr
 refine EngI.tail_nil ?_
 refine wp_seq ?_
 refine Eng.regionS (Eng.still [fun u_ => u_ = outv1, fun u_ => u_ = .int .i64 (1 : Int), fun u_ => u_ = .bool true, fun u_ => u_ = .bool true, fun u_ => u_ = outv1, fun u_ => u_ = Eng.elemPtr outv1 (0 * 1), fun u_ => u_ = gv1, fun u_ => u_ = .int .i64 (1 : Int), fun u_ => u_ = .bool true, fun u_ => u_ = .bool true, fun u_ => u_ = .bool true, fun u_ => u_ = outv1, fun u_ => u_ = Eng.elemPtr outv1 (0 * 1), fun u_ => u_ = gv1, fun u_ => u_ = Eng.elemPtr gv1 (0 * 4), fun u_ => u_ = Eng.elemPtr gv1 (0 * 4 + 3), fun u_ => u_ = kv1, fun u_ => u_ = .int .i64 (1 : Int), fun u_ => u_ = .bool true, fun u_ => u_ = .bool true, fun u_ => u_ = .bool true, fun u_ => u_ = outv1, fun u_ => u_ = Eng.elemPtr outv1 (0 * 1), fun u_ => u_ = gv1, fun u_ => u_ = Eng.elemPtr gv1 (0 * 4), fun u_ => u_ = Eng.elemPtr gv1 (0 * 4 + 3), fun u_ => u_ = kv1, fun u_ => u_ = Eng.elemPtr kv1 (0 * 1), fun u_ => u_ = .int .i64 0, fun u_ => u_ = .bool true, fun u_ => u_ = .bool true, fun u_ => u_ = .bool true, fun u_ => u_ = outv1, fun u_ => u_ = Eng.elemPtr outv1 (0 * 1), fun u_ => u_ = gv1, fun u_ => u_ = Eng.elemPtr gv1 (0 * 4), fun u_ => u_ = Eng.elemPtr gv1 (0 * 4 + 1), fun u_ => u_ = .string ⟨#[115, 101, 113]⟩, fun u_ => u_ = .bool true, fun u_ => u_ = .bool true, fun u_ => u_ = .bool true, fun u_ => u_ = .int .i64 0, fun u_ => u_ = .bool true, fun u_ => u_ = .bool true, fun u_ => u_ = .bool true, fun u_ => u_ = .int .i64 11, fun u_ => u_ = .bool true, fun u_ => u_ = .bool true, fun u_ => u_ = .bool true, fun u_ => u_ = .string ⟨#[105, 110, 116]⟩, fun u_ => u_ = .bool true, fun u_ => u_ = .bool true, fun u_ => u_ = .bool true, fun u_ => u_ = .int .i64 0, fun u_ => u_ = .bool true, fun u_ => u_ = .bool true, fun u_ => u_ = .bool true, fun u_ => u_ = .int .i64 14, fun u_ => u_ = .bool true, fun u_ => u_ = .bool true, fun u_ => u_ = .bool true]) (fun _ => .plain) 61 0 99 s40 rfl (by kernel_rfl) (Eng.still_stable _) (Or.inr (Eng.still_any _)) ?_ ?_
 ·refine .c ?_ (.c ?_ (.c ?_ (.c ?_ (.c ?_ (.c ?_ (.c ?_ (.c ?_ (.c ?_ (.c ?_ (.c ?_ (.c ?_ (.c ?_ (.c ?_ (.c ?_ (.c ?_ (.c ?_ (.c ?_ (.c ?_ (.c ?_ (.c ?_ (.c ?_ (.c ?_ (.c ?_ (.c ?_ (.c ?_ (.c ?_ (.c ?_ (.c ?_ (.c ?_ (.c ?_ (.c ?_ (.c ?_ (.c ?_ (.c ?_ (.c ?_ (.c ?_ (.c ?_ (.c ?_ (.c ?_ (.c ?_ (.c ?_ (.c ?_ (.c ?_ (.c ?_ (.c ?_ (.c ?_ (.c ?_ (.c ?_ (.c ?_ (.c ?_ (.c ?_ (.c ?_ (.c ?_ (.c ?_ (.c ?_ (.c ?_ (.c ?_ (.c ?_ (.c ?_ (.c ?_ (.nil)))))))))))))))))))))))))))))))))))))))))))))))))))))))))))))
  ·exact Eng.pv fun a w' H => Eng.vr rfl (Eng.run_move rfl (H.q 2 h2_40))
  ·exact Eng.pv fun a w' H => Eng.vr (v := .int .i64 (1 : Int)) rfl (Eng.run_len_sl rfl Tryd.underlying34 (show a.eval (.tmp 39) = outv1 from (H.d 0 39)) (Eng.Reads.below Fo1_35 H.below))
  ·refine Eng.pv fun a w' H => ?_
   refine Eng.vr (v := .bool ((1 : Int) == 1)) (by show _ = Value.bool true; rw [show ((1 : Int) == 1) = true from beq_self_eq_true _]) ?_
   have e0 : a.eval (.tmp 40) = .int .i64 (1 : Int) := (H.d 1 40)
   have e1 : a.eval (.const (.int .i64 1)) = .int .i64 1 := rfl
   simp only [execOp, resolve, e0, e1]
   go_simp
  ·exact Eng.pv fun a w' H => Eng.vr rfl (Eng.run_move rfl (H.d 2 41))
  ·refine Eng.guardedT (j := 3) (d := 42) rfl rfl (by kernel_rfl) rfl (fun v w h => h) fun a w' H => ?_
   exact Eng.val (w1 := w') (v := outv1) (Eng.run_move rfl (H.q 2 h2_40)) (Below.refl _ _) rfl
  ·refine Eng.guardedT (j := 3) (d := 42) rfl rfl (by kernel_rfl) rfl (fun v w h => h) fun a w' H => ?_
   refine Eng.vr (v := Eng.elemPtr outv1 (0 * 1)) rfl ?_
   exact Eng.run_index_sl rfl Tryd.underlying34 (by kernel_rfl) (show a.eval (.tmp 43) = outv1 from (H.d 4 43)) ((show a.eval (.const (.int .i64 0)) = .int .i64 0 from (rfl : a.eval (.const (.int .i64 0)) = .int .i64 0)).trans (congrArg (Value.int _) (show 0 = ((0 : Nat) : Int) from by first | rfl | decide))) (Eng.Reads.below Fo1_35 H.below) (by first | rfl | decide) rfl
  ·refine Eng.guardedT (j := 3) (d := 42) rfl rfl (by kernel_rfl) rfl (fun v w h => h) fun a w' H => ?_
   refine Eng.vr (v := gv1) rfl ?_
   exact Eng.run_load_el (gv1) rfl (show a.eval (.tmp 44) = Eng.elemPtr outv1 (0 * 1) from (H.d 5 44)) (Eng.Reads.below Fo1_35 H.below) (rfl) (by kernel_rfl)
  ·refine Eng.guardedT (j := 3) (d := 42) rfl rfl (by kernel_rfl) rfl (fun v w h => h) fun a w' H => ?_
   refine Eng.vr (v := .int .i64 (1 : Int)) rfl ?_
   exact Eng.run_len_sl rfl Tryd.underlying48 (show a.eval (.tmp 45) = gv1 from (H.d 6 45)) (Eng.Reads.below Fg1_35 H.below)
  ·refine Eng.guardedT (j := 3) (d := 42) rfl rfl (by kernel_rfl) rfl (fun v w h => h) fun a w' H => ?_
   refine Eng.vr (v := .bool ((1 : Int) == 1)) (by show _ = Value.bool true; rw [show ((1 : Int) == 1) = true from beq_self_eq_true _]) ?_
   have e0 : a.eval (.tmp 46) = .int .i64 (1 : Int) := (H.d 7 46)
   have e1 : a.eval (.const (.int .i64 1)) = .int .i64 1 := rfl
   simp only [execOp, resolve, e0, e1]
   go_simp
  ·exact Eng.pv fun a w' H => Eng.vr rfl (Eng.run_and rfl rfl (G := true) (H.d 3 42) (fun hb => (H.d 8 47)))
  ·exact Eng.pv fun a w' H => Eng.vr rfl (Eng.run_move rfl (H.d 9 48))
  ·refine Eng.guardedT (j := 10) (d := 49) rfl rfl (by kernel_rfl) rfl (fun v w h => h) fun a w' H => ?_
   exact Eng.val (w1 := w') (v := outv1) (Eng.run_move rfl (H.q 2 h2_40)) (Below.refl _ _) rfl
  ·refine Eng.guardedT (j := 10) (d := 49) rfl rfl (by kernel_rfl) rfl (fun v w h => h) fun a w' H => ?_
   refine Eng.vr (v := Eng.elemPtr outv1 (0 * 1)) rfl ?_
   exact Eng.run_index_sl rfl Tryd.underlying34 (by kernel_rfl) (show a.eval (.tmp 50) = outv1 from (H.d 11 50)) ((show a.eval (.const (.int .i64 0)) = .int .i64 0 from (rfl : a.eval (.const (.int .i64 0)) = .int .i64 0)).trans (congrArg (Value.int _) (show 0 = ((0 : Nat) : Int) from by first | rfl | decide))) (Eng.Reads.below Fo1_35 H.below) (by first | rfl | decide) rfl
  ·refine Eng.guardedT (j := 10) (d := 49) rfl rfl (by kernel_rfl) rfl (fun v w h => h) fun a w' H => ?_
   refine Eng.vr (v := gv1) rfl ?_
   exact Eng.run_load_el (gv1) rfl (show a.eval (.tmp 51) = Eng.elemPtr outv1 (0 * 1) from (H.d 12 51)) (Eng.Reads.below Fo1_35 H.below) (rfl) (by kernel_rfl)
  ·refine Eng.guardedT (j := 10) (d := 49) rfl rfl (by kernel_rfl) rfl (fun v w h => h) fun a w' H => ?_
   refine Eng.vr (v := Eng.elemPtr gv1 (0 * 4)) rfl ?_
   exact Eng.run_index_sl rfl Tryd.underlying48 (by kernel_rfl) (show a.eval (.tmp 52) = gv1 from (H.d 13 52)) ((show a.eval (.const (.int .i64 0)) = .int .i64 0 from (rfl : a.eval (.const (.int .i64 0)) = .int .i64 0)).trans (congrArg (Value.int _) (show 0 = ((0 : Nat) : Int) from by first | rfl | decide))) (Eng.Reads.below Fg1_35 H.below) (by first | rfl | decide) rfl
  ·refine Eng.guardedT (j := 10) (d := 49) rfl rfl (by kernel_rfl) rfl (fun v w h => h) fun a w' H => ?_
   refine Eng.vr (v := Eng.elemPtr gv1 (0 * 4 + 3)) rfl ?_
   exact Eng.run_field_el rfl Tryd.underlying57 3 (by kernel_rfl) (show a.eval (.tmp 53) = Eng.elemPtr gv1 (0 * 4) from (H.d 14 53)) (Eng.Reads.below Fg1_35 H.below) (by have h_ : 0 < 1 := (by first | rfl | decide); omega)
  ·refine Eng.guardedT (j := 10) (d := 49) rfl rfl (by kernel_rfl) rfl (fun v w h => h) fun a w' H => ?_
   refine Eng.vr (v := kv1) rfl ?_
   exact Eng.run_load_el (kv1) rfl (show a.eval (.tmp 54) = Eng.elemPtr gv1 (0 * 4 + 3) from (H.d 15 54)) (Eng.Reads.below Fg1_35 H.below) (rfl) (by kernel_rfl)
  ·refine Eng.guardedT (j := 10) (d := 49) rfl rfl (by kernel_rfl) rfl (fun v w h => h) fun a w' H => ?_
   refine Eng.vr (v := .int .i64 (1 : Int)) rfl ?_
   exact Eng.run_len_sl rfl Tryd.underlying55 (show a.eval (.tmp 55) = kv1 from (H.d 16 55)) (Eng.Reads.below Fk1_35 H.below)
  ·refine Eng.guardedT (j := 10) (d := 49) rfl rfl (by kernel_rfl) rfl (fun v w h => h) fun a w' H => ?_
   refine Eng.vr (v := .bool ((1 : Int) == 1)) (by show _ = Value.bool true; rw [show ((1 : Int) == 1) = true from beq_self_eq_true _]) ?_
   have e0 : a.eval (.tmp 56) = .int .i64 (1 : Int) := (H.d 17 56)
   have e1 : a.eval (.const (.int .i64 1)) = .int .i64 1 := rfl
   simp only [execOp, resolve, e0, e1]
   go_simp
  ·exact Eng.pv fun a w' H => Eng.vr rfl (Eng.run_and rfl rfl (G := true) (H.d 10 49) (fun hb => (H.d 18 57)))
  ·exact Eng.pv fun a w' H => Eng.vr rfl (Eng.run_move rfl (H.d 19 58))
  ·refine Eng.guardedT (j := 20) (d := 59) rfl rfl (by kernel_rfl) rfl (fun v w h => h) fun a w' H => ?_
   exact Eng.val (w1 := w') (v := outv1) (Eng.run_move rfl (H.q 2 h2_40)) (Below.refl _ _) rfl
  ·refine Eng.guardedT (j := 20) (d := 59) rfl rfl (by kernel_rfl) rfl (fun v w h => h) fun a w' H => ?_
   refine Eng.vr (v := Eng.elemPtr outv1 (0 * 1)) rfl ?_
   exact Eng.run_index_sl rfl Tryd.underlying34 (by kernel_rfl) (show a.eval (.tmp 60) = outv1 from (H.d 21 60)) ((show a.eval (.const (.int .i64 0)) = .int .i64 0 from (rfl : a.eval (.const (.int .i64 0)) = .int .i64 0)).trans (congrArg (Value.int _) (show 0 = ((0 : Nat) : Int) from by first | rfl | decide))) (Eng.Reads.below Fo1_35 H.below) (by first | rfl | decide) rfl
  ·refine Eng.guardedT (j := 20) (d := 59) rfl rfl (by kernel_rfl) rfl (fun v w h => h) fun a w' H => ?_
   refine Eng.vr (v := gv1) rfl ?_
   exact Eng.run_load_el (gv1) rfl (show a.eval (.tmp 61) = Eng.elemPtr outv1 (0 * 1) from (H.d 22 61)) (Eng.Reads.below Fo1_35 H.below) (rfl) (by kernel_rfl)
  ·refine Eng.guardedT (j := 20) (d := 59) rfl rfl (by kernel_rfl) rfl (fun v w h => h) fun a w' H => ?_
   refine Eng.vr (v := Eng.elemPtr gv1 (0 * 4)) rfl ?_
   exact Eng.run_index_sl rfl Tryd.underlying48 (by kernel_rfl) (show a.eval (.tmp 62) = gv1 from (H.d 23 62)) ((show a.eval (.const (.int .i64 0)) = .int .i64 0 from (rfl : a.eval (.const (.int .i64 0)) = .int .i64 0)).trans (congrArg (Value.int _) (show 0 = ((0 : Nat) : Int) from by first | rfl | decide))) (Eng.Reads.below Fg1_35 H.below) (by first | rfl | decide) rfl
  ·refine Eng.guardedT (j := 20) (d := 59) rfl rfl (by kernel_rfl) rfl (fun v w h => h) fun a w' H => ?_
   refine Eng.vr (v := Eng.elemPtr gv1 (0 * 4 + 3)) rfl ?_
   exact Eng.run_field_el rfl Tryd.underlying57 3 (by kernel_rfl) (show a.eval (.tmp 63) = Eng.elemPtr gv1 (0 * 4) from (H.d 24 63)) (Eng.Reads.below Fg1_35 H.below) (by have h_ : 0 < 1 := (by first | rfl | decide); omega)
  ·refine Eng.guardedT (j := 20) (d := 59) rfl rfl (by kernel_rfl) rfl (fun v w h => h) fun a w' H => ?_
   refine Eng.vr (v := kv1) rfl ?_
   exact Eng.run_load_el (kv1) rfl (show a.eval (.tmp 64) = Eng.elemPtr gv1 (0 * 4 + 3) from (H.d 25 64)) (Eng.Reads.below Fg1_35 H.below) (rfl) (by kernel_rfl)
  ·refine Eng.guardedT (j := 20) (d := 59) rfl rfl (by kernel_rfl) rfl (fun v w h => h) fun a w' H => ?_
   refine Eng.vr (v := Eng.elemPtr kv1 (0 * 1)) rfl ?_
   exact Eng.run_index_sl rfl Tryd.underlying55 (by kernel_rfl) (show a.eval (.tmp 65) = kv1 from (H.d 26 65)) ((show a.eval (.const (.int .i64 0)) = .int .i64 0 from (rfl : a.eval (.const (.int .i64 0)) = .int .i64 0)).trans (congrArg (Value.int _) (show 0 = ((0 : Nat) : Int) from by first | rfl | decide))) (Eng.Reads.below Fk1_35 H.below) (by first | rfl | decide) rfl
  ·refine Eng.guardedT (j := 20) (d := 59) rfl rfl (by kernel_rfl) rfl (fun v w h => h) fun a w' H => ?_
   refine Eng.vr (v := .int .i64 0) rfl ?_
   exact Eng.run_load_el (.int .i64 0) rfl (show a.eval (.tmp 66) = Eng.elemPtr kv1 (0 * 1) from (H.d 27 66)) (Eng.Reads.below Fk1_35 H.below) (rfl) (by kernel_rfl)
  ·refine Eng.guardedT (j := 20) (d := 59) rfl rfl (by kernel_rfl) rfl (fun v w h => h) fun a w' H => ?_
   refine Eng.vr (v := .bool (0 == 0)) (by show _ = Value.bool true; rw [show (0 == 0) = true from beq_self_eq_true _]) ?_
   have e0 : a.eval (.tmp 67) = .int .i64 0 := (H.d 28 67)
   have e1 : a.eval (.const (.int .i64 0)) = .int .i64 0 := rfl
   simp only [execOp, resolve, e0, e1]
   go_simp
  ·exact Eng.pv fun a w' H => Eng.vr rfl (Eng.run_and rfl rfl (G := true) (H.d 20 59) (fun hb => (H.d 29 68)))
  ·exact Eng.pv fun a w' H => Eng.vr rfl (Eng.run_move rfl (H.d 30 69))
  ·refine Eng.guardedT (j := 31) (d := 70) rfl rfl (by kernel_rfl) rfl (fun v w h => h) fun a w' H => ?_
   exact Eng.val (w1 := w') (v := outv1) (Eng.run_move rfl (H.q 2 h2_40)) (Below.refl _ _) rfl
  ·refine Eng.guardedT (j := 31) (d := 70) rfl rfl (by kernel_rfl) rfl (fun v w h => h) fun a w' H => ?_
   refine Eng.vr (v := Eng.elemPtr outv1 (0 * 1)) rfl ?_
   exact Eng.run_index_sl rfl Tryd.underlying34 (by kernel_rfl) (show a.eval (.tmp 71) = outv1 from (H.d 32 71)) ((show a.eval (.const (.int .i64 0)) = .int .i64 0 from (rfl : a.eval (.const (.int .i64 0)) = .int .i64 0)).trans (congrArg (Value.int _) (show 0 = ((0 : Nat) : Int) from by first | rfl | decide))) (Eng.Reads.below Fo1_35 H.below) (by first | rfl | decide) rfl
  ·refine Eng.guardedT (j := 31) (d := 70) rfl rfl (by kernel_rfl) rfl (fun v w h => h) fun a w' H => ?_
   refine Eng.vr (v := gv1) rfl ?_
   exact Eng.run_load_el (gv1) rfl (show a.eval (.tmp 72) = Eng.elemPtr outv1 (0 * 1) from (H.d 33 72)) (Eng.Reads.below Fo1_35 H.below) (rfl) (by kernel_rfl)
  ·refine Eng.guardedT (j := 31) (d := 70) rfl rfl (by kernel_rfl) rfl (fun v w h => h) fun a w' H => ?_
   refine Eng.vr (v := Eng.elemPtr gv1 (0 * 4)) rfl ?_
   exact Eng.run_index_sl rfl Tryd.underlying48 (by kernel_rfl) (show a.eval (.tmp 73) = gv1 from (H.d 34 73)) ((show a.eval (.const (.int .i64 0)) = .int .i64 0 from (rfl : a.eval (.const (.int .i64 0)) = .int .i64 0)).trans (congrArg (Value.int _) (show 0 = ((0 : Nat) : Int) from by first | rfl | decide))) (Eng.Reads.below Fg1_35 H.below) (by first | rfl | decide) rfl
  ·refine Eng.guardedT (j := 31) (d := 70) rfl rfl (by kernel_rfl) rfl (fun v w h => h) fun a w' H => ?_
   refine Eng.vr (v := Eng.elemPtr gv1 (0 * 4 + 1)) rfl ?_
   exact Eng.run_field_el rfl Tryd.underlying57 1 (by kernel_rfl) (show a.eval (.tmp 74) = Eng.elemPtr gv1 (0 * 4) from (H.d 35 74)) (Eng.Reads.below Fg1_35 H.below) (by have h_ : 0 < 1 := (by first | rfl | decide); omega)
  ·refine Eng.guardedT (j := 31) (d := 70) rfl rfl (by kernel_rfl) rfl (fun v w h => h) fun a w' H => ?_
   refine Eng.vr (v := .string ⟨#[115, 101, 113]⟩) rfl ?_
   exact Eng.run_load_el (.string ⟨#[115, 101, 113]⟩) rfl (show a.eval (.tmp 75) = Eng.elemPtr gv1 (0 * 4 + 1) from (H.d 36 75)) (Eng.Reads.below Fg1_35 H.below) (rfl) (by kernel_rfl)
  ·refine Eng.guardedT (j := 31) (d := 70) rfl rfl (by kernel_rfl) rfl (fun v w h => h) fun a w' H => ?_
   refine Eng.vr (v := .bool ((⟨#[115, 101, 113]⟩ : ByteArray).toList == (⟨#[115, 101, 113]⟩ : ByteArray).toList)) (by show _ = Value.bool true; rw [show ((⟨#[115, 101, 113]⟩ : ByteArray).toList == (⟨#[115, 101, 113]⟩ : ByteArray).toList) = true from beq_self_eq_true _]) ?_
   have e0 : a.eval (.tmp 76) = .string ⟨#[115, 101, 113]⟩ := (H.d 37 76)
   have e1 : a.eval (.const (.string ⟨#[115, 101, 113]⟩)) = .string ⟨#[115, 101, 113]⟩ := rfl
   simp only [execOp, resolve, e0, e1]
   go_simp
  ·exact Eng.pv fun a w' H => Eng.vr rfl (Eng.run_and rfl rfl (G := true) (H.d 31 70) (fun hb => (H.d 38 77)))
  ·exact Eng.pv fun a w' H => Eng.vr rfl (Eng.run_move rfl (H.d 39 78))
  ·refine Eng.guardedT (j := 40) (d := 79) rfl rfl (by kernel_rfl) rfl (fun v w h => h) fun a w' H => ?_
   exact Eng.val (w1 := w') (v := .int .i64 0) (Eng.run_move rfl (H.q 3 h3_40)) (Below.refl _ _) rfl
  ·refine Eng.guardedT (j := 40) (d := 79) rfl rfl (by kernel_rfl) rfl (fun v w h => h) fun a w' H => ?_
   refine Eng.vr (v := .bool (0 == 0)) (by show _ = Value.bool true; rw [show (0 == 0) = true from beq_self_eq_true _]) ?_
   have e0 : a.eval (.tmp 80) = .int .i64 0 := (H.d 41 80)
   have e1 : a.eval (.const (.int .i64 0)) = .int .i64 0 := rfl
   simp only [execOp, resolve, e0, e1]
   go_simp
  ·exact Eng.pv fun a w' H => Eng.vr rfl (Eng.run_and rfl rfl (G := true) (H.d 40 79) (fun hb => (H.d 42 81)))
  ·exact Eng.pv fun a w' H => Eng.vr rfl (Eng.run_move rfl (H.d 43 82))
  ·refine Eng.guardedT (j := 44) (d := 83) rfl rfl (by kernel_rfl) rfl (fun v w h => h) fun a w' H => ?_
   exact Eng.val (w1 := w') (v := .int .i64 11) (Eng.run_move rfl (H.q 5 h5_40)) (Below.refl _ _) rfl
  ·refine Eng.guardedT (j := 44) (d := 83) rfl rfl (by kernel_rfl) rfl (fun v w h => h) fun a w' H => ?_
   refine Eng.vr (v := .bool (11 == 11)) (by show _ = Value.bool true; rw [show (11 == 11) = true from beq_self_eq_true _]) ?_
   have e0 : a.eval (.tmp 84) = .int .i64 11 := (H.d 45 84)
   have e1 : a.eval (.const (.int .i64 11)) = .int .i64 11 := rfl
   simp only [execOp, resolve, e0, e1]
   go_simp
  ·exact Eng.pv fun a w' H => Eng.vr rfl (Eng.run_and rfl rfl (G := true) (H.d 44 83) (fun hb => (H.d 46 85)))
  ·exact Eng.pv fun a w' H => Eng.vr rfl (Eng.run_move rfl (H.d 47 86))
  ·refine Eng.guardedT (j := 48) (d := 87) rfl rfl (by kernel_rfl) rfl (fun v w h => h) fun a w' H => ?_
   exact Eng.val (w1 := w') (v := .string ⟨#[105, 110, 116]⟩) (Eng.run_move rfl (H.q 6 h6_40)) (Below.refl _ _) rfl
  ·refine Eng.guardedT (j := 48) (d := 87) rfl rfl (by kernel_rfl) rfl (fun v w h => h) fun a w' H => ?_
   refine Eng.vr (v := .bool ((⟨#[105, 110, 116]⟩ : ByteArray).toList == (⟨#[105, 110, 116]⟩ : ByteArray).toList)) (by show _ = Value.bool true; rw [show ((⟨#[105, 110, 116]⟩ : ByteArray).toList == (⟨#[105, 110, 116]⟩ : ByteArray).toList) = true from beq_self_eq_true _]) ?_
   have e0 : a.eval (.tmp 88) = .string ⟨#[105, 110, 116]⟩ := (H.d 49 88)
   have e1 : a.eval (.const (.string ⟨#[105, 110, 116]⟩)) = .string ⟨#[105, 110, 116]⟩ := rfl
   simp only [execOp, resolve, e0, e1]
   go_simp
  ·exact Eng.pv fun a w' H => Eng.vr rfl (Eng.run_and rfl rfl (G := true) (H.d 48 87) (fun hb => (H.d 50 89)))
  ·exact Eng.pv fun a w' H => Eng.vr rfl (Eng.run_move rfl (H.d 51 90))
  ·refine Eng.guardedT (j := 52) (d := 91) rfl rfl (by kernel_rfl) rfl (fun v w h => h) fun a w' H => ?_
   exact Eng.val (w1 := w') (v := .int .i64 0) (Eng.run_move rfl (H.q 7 h7_40)) (Below.refl _ _) rfl
  ·refine Eng.guardedT (j := 52) (d := 91) rfl rfl (by kernel_rfl) rfl (fun v w h => h) fun a w' H => ?_
   refine Eng.vr (v := .bool (0 == 0)) (by show _ = Value.bool true; rw [show (0 == 0) = true from beq_self_eq_true _]) ?_
   have e0 : a.eval (.tmp 92) = .int .i64 0 := (H.d 53 92)
   have e1 : a.eval (.const (.int .i64 0)) = .int .i64 0 := rfl
   simp only [execOp, resolve, e0, e1]
   go_simp
  ·exact Eng.pv fun a w' H => Eng.vr rfl (Eng.run_and rfl rfl (G := true) (H.d 52 91) (fun hb => (H.d 54 93)))
  ·exact Eng.pv fun a w' H => Eng.vr rfl (Eng.run_move rfl (H.d 55 94))
  ·refine Eng.guardedT (j := 56) (d := 95) rfl rfl (by kernel_rfl) rfl (fun v w h => h) fun a w' H => ?_
   exact Eng.val (w1 := w') (v := .int .i64 14) (Eng.run_move rfl (H.q 9 h9_40)) (Below.refl _ _) rfl
  ·refine Eng.guardedT (j := 56) (d := 95) rfl rfl (by kernel_rfl) rfl (fun v w h => h) fun a w' H => ?_
   refine Eng.vr (v := .bool (14 == 14)) (by show _ = Value.bool true; rw [show (14 == 14) = true from beq_self_eq_true _]) ?_
   have e0 : a.eval (.tmp 96) = .int .i64 14 := (H.d 57 96)
   have e1 : a.eval (.const (.int .i64 14)) = .int .i64 14 := rfl
   simp only [execOp, resolve, e0, e1]
   go_simp
  ·exact Eng.pv fun a w' H => Eng.vr rfl (Eng.run_and rfl rfl (G := true) (H.d 56 95) (fun hb => (H.d 58 97)))
  ·exact Eng.pv fun a w' H => Eng.vr rfl (Eng.run_assign rfl (H.d 59 98))
 intro act41 w41 T
 have h0_41 : act41.eval (.tmp 0) = .bool true := T.done 60 0 rfl rfl
 have d41 := T.defers.trans d40
 have bl41 := bl35.trans (T.below.mono bl35.size)
 clear T
 refine Eng.tail_nil ?_
 refine wp_ret ?_
 repeat (first | refine Eng.in_ret ?_ | refine Eng.then_ret ?_)
 exact Eng.ret1 rfl d41 h0_41 ⟨rfl, bl41⟩
end Go.Proofs.YtgnmjaacnmkgnaaDoor.X
end
