/- Words and walks that the row of ComposeParts needs: printed by programs, and plain laws. -/
import Derived.Test.YtgnmjaacnmkgnaaDoorM7
import Derived.Test.YtgnmjaacnmkgnaaDoorM8
import Derived.Test.YtgnmjaacnmkgnaaDoorM14
namespace Go.Proofs.YtgnmjaacnmkgnaaDoorW.PrintWords
end Go.Proofs.YtgnmjaacnmkgnaaDoorW.PrintWords
namespace Go.Proofs.YtgnmjaacnmkgnaaDoorW.PrintLast
end Go.Proofs.YtgnmjaacnmkgnaaDoorW.PrintLast
namespace Go.Proofs.YtgnmjaacnmkgnaaDoorW.PrintMore
end Go.Proofs.YtgnmjaacnmkgnaaDoorW.PrintMore
section
namespace Go.Proofs.YtgnmjaacnmkgnaaDoor.X
open Go.RowKit Go.Shelf Go.Proofs Go.Proofs.YtgnmjaacnmkgnaaDoorW.PrintWords Go.Proofs.YtgnmjaacnmkgnaaDoorW.PrintLast Go.Proofs.YtgnmjaacnmkgnaaDoorW.PrintMore
set_option linter.unusedVariables false
set_option linter.unusedSimpArgs false
attribute [local go_sem] max2_int min2_int max_two min_two
set_option maxHeartbeats 4000000 in
set_option maxRecDepth 100000 in
theorem Dc.twice_small (B mb : Nat) (gv ov : Value) (h : List Dc.NV) (opn : List Int) (names : List (List UInt8 × Int)) (w : World) (hR : Dc.Rep B w h opn names gv ov mb) (hsm : Tm.Small (h.map (·.1))) : Calls Tryd.prog 41 #[gv] w fun e w' => e = .returned (.bool (Dc.twiceF (h.map (·.1)))) ∧ Below w.heap.size w w' := by
 obtain ⟨nd, hnd⟩ : ∃ l, l = h.map (·.1) := ⟨_, rfl⟩
 rw [← hnd] at hsm ⊢
 have hln : nd.length = h.length := by rw [hnd, List.length_map]
 have hm := Eng.Reads.len_le (Eng.Reads.of_own hR.gr)
 refine Eng.enter Tryd.func41 rfl fun act0 d0 s0 v0 => ?_
 have s0 : act0.tmps.size = 67 := s0
 have h0_0 : act0.eval (.tmp 0) = gv := v0 0 (by simp)
 clear v0
 have bl0 : Below w.heap.size w w := Below.refl _ _
 refine wp_seq ?_
 refine Eng.regionS (Eng.still [fun u_ => u_ = .bool false]) (fun _ => .plain) 1 0 67 s0 rfl (by kernel_rfl) (Eng.still_stable _) (Or.inr (Eng.still_any _)) ?_ ?_
 ·refine .cons (fun _ => ?_) (.nil)
  ·exact Eng.plain rfl rfl fun a w' H => Eng.vr rfl (Eng.run_assign rfl (rfl : a.eval (.const (.bool false)) = .bool false))
 intro act1 w1 T
 have h0_1 := (T.rest 0 (by kernel_rfl)).trans h0_0
 have Fgr_1 := Eng.Reads.below (Eng.Reads.of_own hR.gr) T.below
 have d1 := T.defers.trans d0
 have s1 := T.size.trans s0
 have bl1 := bl0.trans (T.below.mono bl0.size)
 clear T
 refine Eng.tail_nil ?_
 refine wp_seq ?_
 refine wp_seq ?_
 refine Eng.regionS (Eng.still [fun u_ => u_ = gv, fun u_ => u_ = .int .i64 ((h.length : Nat) : Int), fun u_ => u_ = .int .i64 0]) (fun _ => .plain) 3 0 67 s1 rfl (by kernel_rfl) (Eng.still_stable _) (Or.inr (Eng.still_any _)) ?_ ?_
 ·refine .cons (fun _ => ?_) (.cons (fun _ => ?_) (.cons (fun _ => ?_) (.nil)))
  ·exact Eng.plain rfl rfl fun a w' H => Eng.vr rfl (Eng.run_move rfl ((H.kept 0 (by kernel_rfl)).trans h0_1))
  ·exact Eng.plain rfl rfl fun a w' H => Eng.vr (v := .int .i64 ((h.length : Nat) : Int)) rfl (Eng.run_len_sl rfl Tryd.underlying48 (show a.eval (.tmp 10) = gv from (H.dep 0 10 (by kernel_rfl) rfl)) (Eng.Reads.below Fgr_1 H.below))
  ·exact Eng.plain rfl rfl fun a w' H => Eng.vr rfl (Eng.run_move rfl (rfl : a.eval (.const (.int .i64 0)) = .int .i64 0))
 intro act2 w2 T
 have h0_2 := (T.rest 0 (by kernel_rfl)).trans h0_1
 have h10_2 : act2.eval (.tmp 10) = gv := T.done 0 10 rfl rfl
 have h11_2 : act2.eval (.tmp 11) = .int .i64 ((h.length : Nat) : Int) := T.done 1 11 rfl rfl
 have h12_2 : act2.eval (.tmp 12) = .int .i64 0 := T.done 2 12 rfl rfl
 have d2 := T.defers.trans d1
 have s2 := T.size.trans s1
 have bl2 := bl1.trans (T.below.mono bl1.size)
 clear T
 refine Eng.tail_nil ?_
 refine wp_block ?_
 refine Eng.loopN (fun n a w' => ∃ (k : Nat), h.length - k = n ∧ (k ≤ h.length) ∧ (∀ j, j < k → Dc.dupNode nd (nd.getD j default) = false) ∧ a.defers = [] ∧ a.tmps.size = 67 ∧ Below w.heap.size w w' ∧ a.eval (.tmp 0) = gv ∧ a.eval (.tmp 10) = gv ∧ a.eval (.tmp 11) = .int .i64 ((h.length : Nat) : Int) ∧ a.eval (.tmp 12) = .int .i64 (k : Nat)) (n0 := h.length - 0) ?_ ?_
 ·exact ⟨0, rfl, by omega, fun j hj => absurd hj (Nat.not_lt_zero _), d2, s2, bl2, h0_2, h10_2, h11_2, (h12_2.trans (by first | rfl | (congr 1; rw [Eng.i64_id (by omega) (by omega)]; omega) | (simp; done)))⟩
 rintro n act3 w3 ⟨k, rfl, hc0_3, hc1_3, d3, s3, bl3, h0_3, h10_3, h11_3, h12_3⟩
 have Fgr_3 := Eng.Reads.below (Eng.Reads.of_own hR.gr) bl3
 have hk1 := hc0_3
 have hnone := hc1_3
 refine wp_seq ?_
 obtain ⟨q13, Bq13⟩ : ∃ b : Bool, b = (decide ((k : Nat) < ((h.length : Nat) : Int))) := ⟨_, rfl⟩
 refine Eng.regionS (Eng.still [fun u_ => u_ = .bool q13]) (fun _ => .plain) 1 0 67 s3 rfl (by kernel_rfl) (Eng.still_stable _) (Or.inr (Eng.still_any _)) ?_ ?_
 ·refine .cons (fun _ => ?_) (.nil)
  ·refine Eng.plain rfl rfl fun a w' H => ?_
   refine Eng.vr (v := .bool (decide ((k : Nat) < ((h.length : Nat) : Int)))) (by show _ = Value.bool q13; rw [Bq13]) ?_
   have e0 := ((H.kept 12 (by kernel_rfl)).trans h12_3)
   have e1 := ((H.kept 11 (by kernel_rfl)).trans h11_3)
   simp only [execOp, resolve, List.map_toArray, List.map_cons, List.map_nil, e0, e1]
   go_simp
 intro act4 w4 T
 have h0_4 := (T.rest 0 (by kernel_rfl)).trans h0_3
 have h10_4 := (T.rest 10 (by kernel_rfl)).trans h10_3
 have h11_4 := (T.rest 11 (by kernel_rfl)).trans h11_3
 have h12_4 := (T.rest 12 (by kernel_rfl)).trans h12_3
 have Fgr_4 := Eng.Reads.below Fgr_3 T.below
 have h13_4 : act4.eval (.tmp 13) = .bool q13 := T.done 0 13 rfl rfl
 have d4 := T.defers.trans d3
 have s4 := T.size.trans s3
 have bl4 := bl3.trans (T.below.mono bl3.size)
 clear T
 refine Eng.tail_nil ?_
 refine wp_seq ?_
 refine wp_cond_split h13_4 (fun hq => ?_) (fun hq => ?_)
 ·
  have c13 := Bq13.symm.trans hq
  clear hq
  have c13 := of_decide_eq_true c13
  have hk0 : k < h.length := by omega
  have Fk0 := Eng.Reads.of_own (hR.ks k hk0)
  have hcell := Dc.cells_at h k hk0
  obtain ⟨nk, Hnk⟩ : ∃ n, n = nd.getD k default := ⟨_, rfl⟩
  have hq1 : (h.getD k default).1 = nk := by rw [Hnk, hnd, Dc.map_getD]
  obtain ⟨kv, hkv⟩ : ∃ v, v = (h.getD k default).2 := ⟨_, rfl⟩
  rw [hq1, ← hkv] at hcell Fk0
  clear hkv hq1
  have hsk := Hnk ▸ hsm.at_ (hln.symm ▸ hk0)
  have Fkj6 := Eng.Reads.below Fk0 bl4
  refine wp_skip ?_
  refine wp_seq ?_
  refine wp_block ?_
  refine wp_seq ?_
  refine Eng.regionT (n := 4) rfl ?_
  refine Eng.tail_val (w1 := w4) (v := Eng.elemPtr gv (k * 4)) rfl rfl rfl ?_ s4 rfl ?_
  ·exact Eng.run_index_sl rfl Tryd.underlying48 (by kernel_rfl) (show act4.eval (.tmp 10) = gv from h10_4) ((show act4.eval (.tmp 12) = .int .i64 (k : Nat) from h12_4).trans (congrArg (Value.int _) (show (k : Nat) = ((k : Nat) : Int) from by omega))) Fgr_4 (by omega) rfl
  intro act7 d7 s7 hv hr
  have h0_7 := (hr 0 rfl).trans h0_4
  have h10_7 := (hr 10 rfl).trans h10_4
  have h11_7 := (hr 11 rfl).trans h11_4
  have h12_7 := (hr 12 rfl).trans h12_4
  have h13_7 := (hr 13 rfl).trans h13_4
  have h14_7 : act7.eval (.tmp 14) = Eng.elemPtr gv (k * 4) := hv
  have d7 := d7.trans d4
  clear hv hr
  refine Eng.tail_val (w1 := w4) (v := .agg #[.int .i64 nk.kind, .string nk.tag, .string nk.text, kv]) rfl rfl rfl ?_ s7 rfl ?_
  ·exact Eng.run_load_els [.int .i64 nk.kind, .string nk.tag, .string nk.text, kv] rfl (show act7.eval (.tmp 14) = Eng.elemPtr gv (k * 4) from h14_7) Fgr_4 (hcell) rfl Tryd.underlying57 rfl (by kernel_rfl)
  intro act8 d8 s8 hv hr
  have h0_8 := (hr 0 rfl).trans h0_7
  have h10_8 := (hr 10 rfl).trans h10_7
  have h11_8 := (hr 11 rfl).trans h11_7
  have h12_8 := (hr 12 rfl).trans h12_7
  have h13_8 := (hr 13 rfl).trans h13_7
  have h15_8 : act8.eval (.tmp 15) = .agg #[.int .i64 nk.kind, .string nk.tag, .string nk.text, kv] := hv
  have d8 := d8.trans d7
  clear hv hr
  refine Eng.tail_ex rfl rfl rfl (Eng.alloc_ex (cs := #[.int .i64 0, .string ⟨#[]⟩, .string ⟨#[]⟩, .slice none 0 0]) rfl (by kernel_rfl)) s8 rfl fun v_9 w9 act9 R d9 s9 hv hr => ?_
  obtain ⟨g4_9, ev_9, rg_9, lg4_9, kg4_9, b_9⟩ := R
  have h0_9 := (hr 0 rfl).trans h0_8
  have h10_9 := (hr 10 rfl).trans h10_8
  have h11_9 := (hr 11 rfl).trans h11_8
  have h12_9 := (hr 12 rfl).trans h12_8
  have h13_9 := (hr 13 rfl).trans h13_8
  have h15_9 := (hr 15 rfl).trans h15_8
  have h4_9 : act9.eval (.tmp 4) = v_9 := hv
  have d9 := d9.trans d8
  clear hv hr
  have og4_9 : w.heap.size ≤ g4_9 := Nat.le_trans bl4.size rg_9
  have Fkj_9 := Eng.Reads.below Fkj6 b_9
  have bl9 := bl4.trans (b_9.mono bl4.size)
  rw [ev_9] at h4_9
  refine Eng.tail_put [.int .i64 nk.kind, .string nk.tag, .string nk.text, kv] (n := 0) (new := #[.int .i64 nk.kind, .string nk.tag, .string nk.text, kv]) rfl rfl rfl kg4_9 rfl ?_ fun w10 S => ?_
  ·have e0 : act9.eval (.tmp 4) = .pointer (some ⟨g4_9, 0, none⟩) := h4_9
   have e1 : act9.eval (.tmp 15) = .agg #[.int .i64 nk.kind, .string nk.tag, .string nk.text, kv] := h15_9
   obtain ⟨A3_, c3_, ev3_⟩ := Eng.Reads.shape Fkj_9
   subst ev3_
   have z0 := (Eng.cells kg4_9 (0)).trans (rfl)
   have f0 := Eng.unfrozen kg4_9 (0)
   have z1 := (Eng.cells kg4_9 (1)).trans (rfl)
   have f1 := Eng.unfrozen kg4_9 (1)
   have z2 := (Eng.cells kg4_9 (2)).trans (rfl)
   have f2 := Eng.unfrozen kg4_9 (2)
   have z3 := (Eng.cells kg4_9 (3)).trans (rfl)
   have f3 := Eng.unfrozen kg4_9 (3)
   simp only [execOp]
   rw [e0, e1]
   go_simp
   try rfl
  have kg4_9_10 := S.new
  have lg4_9_10 := Nat.lt_of_lt_of_eq lg4_9 S.size.symm
  have bl10 := S.below bl9 og4_9
  have Fkj_10 := Eng.Reads.below Fk0 bl10
  clear S
  refine Eng.tail_nil ?_
  refine wp_seq ?_
  refine wp_seq ?_
  obtain ⟨q18, Bq18⟩ : ∃ b : Bool, b = (!(nk.kind == 2)) := ⟨_, rfl⟩
  refine Eng.regionS (Eng.still [fun u_ => u_ = .pointer (some ⟨g4_9, 0, none⟩), fun u_ => u_ = .int .i64 nk.kind, fun u_ => u_ = .bool q18]) (fun _ => .plain) 3 0 67 s9 rfl (by kernel_rfl) (Eng.still_stable _) (Or.inr (Eng.still_any _)) ?_ ?_
  ·refine .cons (fun _ => ?_) (.cons (fun _ => ?_) (.cons (fun _ => ?_) (.nil)))
   ·exact Eng.plain rfl rfl fun a w' H => Eng.vr rfl (Eng.run_fieldb rfl Tryd.underlying57 0 (by kernel_rfl) ((H.kept 4 (by kernel_rfl)).trans h4_9))
   ·exact Eng.plain rfl rfl fun a w' H => Eng.vr rfl (Eng.run_loadb rfl (H.dep 0 16 (by kernel_rfl) rfl) ((H.below.block _ lg4_9_10).trans kg4_9_10) rfl (by kernel_rfl))
   ·refine Eng.plain rfl rfl fun a w' H => ?_
    refine Eng.vr (v := .bool (!(nk.kind == 2))) (by show _ = Value.bool q18; rw [Bq18]) ?_
    have e0 : a.eval (.tmp 17) = .int .i64 nk.kind := (H.dep 1 17 (by kernel_rfl) rfl)
    have e1 : a.eval (.const (.int .i64 2)) = .int .i64 2 := (rfl : a.eval (.const (.int .i64 2)) = .int .i64 2)
    simp only [execOp, resolve, List.map_toArray, List.map_cons, List.map_nil, e0, e1]
    go_simp
    all_goals first | rfl | (simp; done) | (rw [Bool.eq_iff_iff]; simp; done) | omega | (split <;> first | (simp_all; done) | (split <;> simp_all; done)) | skip
  intro act11 w11 T
  have h0_11 := (T.rest 0 (by kernel_rfl)).trans h0_9
  have h4_11 := (T.rest 4 (by kernel_rfl)).trans h4_9
  have h10_11 := (T.rest 10 (by kernel_rfl)).trans h10_9
  have h11_11 := (T.rest 11 (by kernel_rfl)).trans h11_9
  have h12_11 := (T.rest 12 (by kernel_rfl)).trans h12_9
  have h13_11 := (T.rest 13 (by kernel_rfl)).trans h13_9
  have kg4_9_11 := (T.below.block _ lg4_9_10).trans kg4_9_10
  have lg4_9_11 := Nat.lt_of_lt_of_le lg4_9_10 T.below.size
  have Fkj_11 := Eng.Reads.below Fkj_10 T.below
  have h18_11 : act11.eval (.tmp 18) = .bool q18 := T.done 2 18 rfl rfl
  have d11 := T.defers.trans d9
  have s11 := T.size.trans s9
  have bl11 := bl10.trans (T.below.mono bl10.size)
  clear T
  refine Eng.tail_nil ?_
  refine wp_cond_split h18_11 (fun hq => ?_) (fun hq => ?_)
  ·
   have c18 := Bq18.symm.trans hq
   clear hq
   have hdup : Dc.dupNode nd (nd.getD k default) = false := Hnk ▸ Tm.dup_kind (by simpa using c18)
   refine wp_exit ?_
   refine Eng.regionS (Eng.still [fun u_ => u_ = .int .i64 (IntKind.i64.wrap ((k : Nat) + 1)), fun u_ => u_ = .int .i64 (IntKind.i64.wrap ((k : Nat) + 1))]) (fun _ => .plain) 2 0 67 s11 rfl (by kernel_rfl) (Eng.still_stable _) (Or.inr (Eng.still_any _)) ?_ ?_
   ·refine .cons (fun _ => ?_) (.cons (fun _ => ?_) (.nil))
    ·refine Eng.plain rfl rfl fun a w' H => ?_
     refine Eng.vr (v := .int .i64 (IntKind.i64.wrap ((k : Nat) + 1))) rfl ?_
     have e0 := ((H.kept 12 (by kernel_rfl)).trans h12_11)
     have e1 : a.eval (.const (.int .i64 1)) = .int .i64 1 := (rfl : a.eval (.const (.int .i64 1)) = .int .i64 1)
     simp only [execOp, resolve, List.map_toArray, List.map_cons, List.map_nil, e0, e1]
     go_simp
    ·exact Eng.plain rfl rfl fun a w' H => Eng.vr rfl (Eng.run_move rfl (H.dep 0 66 (by kernel_rfl) rfl))
   intro act13 w13 T
   have h0_13 := (T.rest 0 (by kernel_rfl)).trans h0_11
   have h10_13 := (T.rest 10 (by kernel_rfl)).trans h10_11
   have h11_13 := (T.rest 11 (by kernel_rfl)).trans h11_11
   have h12_13 : act13.eval (.tmp 12) = .int .i64 (IntKind.i64.wrap ((k : Nat) + 1)) := T.done 1 12 rfl rfl
   have d13 := T.defers.trans d11
   have s13 := T.size.trans s11
   have bl13 := bl11.trans (T.below.mono bl11.size)
   clear T
   refine Eng.tail_nil ?_
   exact ⟨_, by omega, k + 1, rfl, by omega, Tm.none_step hnone hdup, d13, s13, bl13, h0_13, h10_13, h11_13, (h12_13.trans (by first | rfl | (congr 1; rw [Eng.i64_id (by omega) (by omega)]; omega) | (simp; done)))⟩
  ·
   have c18 := Bq18.symm.trans hq
   clear hq
   have hk2 : nk.kind = 2 := by simpa using c18
   obtain ⟨ks, hks⟩ : ∃ l, l = Dc.keysL nk.kids := ⟨_, rfl⟩
   have hksl : ks.length ≤ 1000000 := by rw [hks]; exact Nat.le_trans (Tm.keys_len _) hsk.1
   refine wp_skip ?_
   refine wp_seq ?_
   refine Eng.regionT (n := 4) rfl ?_
   refine Eng.tail_ex rfl rfl rfl (Tm.made_run w.heap.size bl11.size 3 rfl Tryd.underlying102) s11 rfl fun v_15 w15 act15 R d15 s15 hv hr => ?_
   obtain ⟨mb1, ev_15, rg_15, XM_15, b_15⟩ := R
   have h0_15 := (hr 0 rfl).trans h0_11
   have h4_15 := (hr 4 rfl).trans h4_11
   have h10_15 := (hr 10 rfl).trans h10_11
   have h11_15 := (hr 11 rfl).trans h11_11
   have h12_15 := (hr 12 rfl).trans h12_11
   have h13_15 := (hr 13 rfl).trans h13_11
   have h18_15 := (hr 18 rfl).trans h18_11
   have h19_15 : act15.eval (.tmp 19) = v_15 := hv
   have d15 := d15.trans d11
   clear hv hr
   have kg4_9_15 := (b_15.block _ lg4_9_11).trans kg4_9_11
   have lg4_9_15 := Nat.lt_of_lt_of_le lg4_9_11 b_15.size
   have Fkj_15 := Eng.Reads.below Fkj_11 b_15
   have bl15 := bl11.trans (b_15.mono bl11.size)
   rw [ev_15] at h19_15
   refine Eng.tail_ex rfl rfl rfl (Tm.made_run w.heap.size bl15.size 105 rfl Tryd.underlying103) s15 rfl fun v_16 w16 act16 R d16 s16 hv hr => ?_
   obtain ⟨mb2, ev_16, rg_16, XM_16, b_16⟩ := R
   have h0_16 := (hr 0 rfl).trans h0_15
   have h4_16 := (hr 4 rfl).trans h4_15
   have h10_16 := (hr 10 rfl).trans h10_15
   have h11_16 := (hr 11 rfl).trans h11_15
   have h12_16 := (hr 12 rfl).trans h12_15
   have h13_16 := (hr 13 rfl).trans h13_15
   have h18_16 := (hr 18 rfl).trans h18_15
   have h19_16 := (hr 19 rfl).trans h19_15
   have h20_16 : act16.eval (.tmp 20) = v_16 := hv
   have d16 := d16.trans d15
   clear hv hr
   have hne : mb1 ≠ mb2 := Nat.ne_of_lt (Nat.lt_of_lt_of_le (Tm.Cn.lt XM_15) rg_16)
   have kg4_9_16 := (b_16.block _ lg4_9_15).trans kg4_9_15
   have lg4_9_16 := Nat.lt_of_lt_of_le lg4_9_15 b_16.size
   have Fkj_16 := Eng.Reads.below Fkj_15 b_16
   have XM1_16 := Tm.Cn.below XM_15 b_16
   have bl16 := bl15.trans (b_16.mono bl15.size)
   rw [ev_16] at h20_16
   refine Eng.tail_val rfl rfl rfl (Eng.run_assign rfl h19_16) s16 rfl fun act17 d17 s17 hv hr => ?_
   have h0_17 := (hr 0 rfl).trans h0_16
   have h4_17 := (hr 4 rfl).trans h4_16
   have h10_17 := (hr 10 rfl).trans h10_16
   have h11_17 := (hr 11 rfl).trans h11_16
   have h12_17 := (hr 12 rfl).trans h12_16
   have h13_17 := (hr 13 rfl).trans h13_16
   have h18_17 := (hr 18 rfl).trans h18_16
   have h20_17 := (hr 20 rfl).trans h20_16
   have h5_17 : act17.eval (.tmp 5) = .map (some mb1) := hv
   have d17 := d17.trans d16
   clear hv hr
   refine Eng.tail_val rfl rfl rfl (Eng.run_assign rfl h20_17) s17 rfl fun act18 d18 s18 hv hr => ?_
   have h0_18 := (hr 0 rfl).trans h0_17
   have h4_18 := (hr 4 rfl).trans h4_17
   have h5_18 := (hr 5 rfl).trans h5_17
   have h10_18 := (hr 10 rfl).trans h10_17
   have h11_18 := (hr 11 rfl).trans h11_17
   have h12_18 := (hr 12 rfl).trans h12_17
   have h13_18 := (hr 13 rfl).trans h13_17
   have h18_18 := (hr 18 rfl).trans h18_17
   have h6_18 : act18.eval (.tmp 6) = .map (some mb2) := hv
   have d18 := d18.trans d17
   clear hv hr
   refine Eng.tail_nil ?_
   refine wp_seq ?_
   refine (wpIn_wide (n := 1)).1 ?_
   refine EngI.regionT (n := 4) rfl ?_
   refine EngI.tail_val EngI.free_wide rfl rfl rfl rfl (Eng.run_load_all rfl h4_18 kg4_9_16 Tryd.underlying57 rfl (by kernel_rfl)) s18 rfl fun act19 d19 s19 hv hr => ?_
   have h0_19 := (hr 0 rfl).trans h0_18
   have h4_19 := (hr 4 rfl).trans h4_18
   have h5_19 := (hr 5 rfl).trans h5_18
   have h6_19 := (hr 6 rfl).trans h6_18
   have h10_19 := (hr 10 rfl).trans h10_18
   have h11_19 := (hr 11 rfl).trans h11_18
   have h12_19 := (hr 12 rfl).trans h12_18
   have h13_19 := (hr 13 rfl).trans h13_18
   have h18_19 := (hr 18 rfl).trans h18_18
   have h21_19 : act19.eval (.tmp 21) = .agg #[.int .i64 nk.kind, .string nk.tag, .string nk.text, kv] := hv
   have d19 := d19.trans d18
   clear hv hr
   refine EngI.tail_call EngI.free_wide Tryd.func76 (by kernel_rfl) (by kernel_rfl) rfl rfl rfl rfl #[.agg #[.int .i64 nk.kind, .string nk.tag, .string nk.text, kv]] (by have e0 : act19.eval (.tmp 21) = .agg #[.int .i64 nk.kind, .string nk.tag, .string nk.text, kv] := h21_19; simp only [List.map_toArray, List.map_cons, List.map_nil, e0]) s19 rfl (R := fun v w' => w'.ownsRow w16.heap.size 3 1 v (Dc.keysL nk.kids).length (Dc.ints (Dc.keysL nk.kids)) ∧ Below w16.heap.size w16 w') ((Dc.keys_calls kv nk _ Fkj_16 hsk.1).mono ?_) fun v_20 w20 act20 R d20 s20 hv hr => ?_
   ·rintro e w1 ⟨o, rfl, r⟩; exact ⟨_, rfl, r⟩
   have h0_20 := (hr 0 rfl).trans h0_19
   have h4_20 := (hr 4 rfl).trans h4_19
   have h5_20 := (hr 5 rfl).trans h5_19
   have h6_20 := (hr 6 rfl).trans h6_19
   have h10_20 := (hr 10 rfl).trans h10_19
   have h11_20 := (hr 11 rfl).trans h11_19
   have h12_20 := (hr 12 rfl).trans h12_19
   have h13_20 := (hr 13 rfl).trans h13_19
   have h18_20 := (hr 18 rfl).trans h18_19
   have h22_20 : act20.eval (.tmp 22) = v_20 := hv
   have d20 := d20.trans d19
   clear hv hr
   obtain ⟨Ok_20, b_20⟩ := R
   have kg4_9_20 := (b_20.block _ lg4_9_16).trans kg4_9_16
   have lg4_9_20 := Nat.lt_of_lt_of_le lg4_9_16 b_20.size
   have XM1_20 := Tm.Cn.below XM1_16 b_20
   have XM2_20 := Tm.Cn.below XM_16 b_20
   have bl20 := bl16.trans (b_20.mono bl16.size)
   rw [← hks] at Ok_20
   have Oks_20 := Eng.own_mono Ok_20 bl16.size
   have Fks_20 := Eng.Reads.of_own Oks_20
   refine EngI.tail_val (w1 := w20) (v := .int .i64 ((ks.length : Nat) : Int)) EngI.free_wide rfl rfl rfl rfl ?_ s20 rfl ?_
   ·exact Eng.run_len_sl rfl Tryd.underlying55 (show act20.eval (.tmp 22) = v_20 from h22_20) Fks_20
   intro act21 d21 s21 hv hr
   have h0_21 := (hr 0 rfl).trans h0_20
   have h4_21 := (hr 4 rfl).trans h4_20
   have h5_21 := (hr 5 rfl).trans h5_20
   have h6_21 := (hr 6 rfl).trans h6_20
   have h10_21 := (hr 10 rfl).trans h10_20
   have h11_21 := (hr 11 rfl).trans h11_20
   have h12_21 := (hr 12 rfl).trans h12_20
   have h13_21 := (hr 13 rfl).trans h13_20
   have h18_21 := (hr 18 rfl).trans h18_20
   have h22_21 := (hr 22 rfl).trans h22_20
   have h23_21 : act21.eval (.tmp 23) = .int .i64 ((ks.length : Nat) : Int) := hv
   have d21 := d21.trans d20
   clear hv hr
   refine EngI.tail_val EngI.free_wide rfl rfl rfl rfl (Eng.run_move rfl (rfl : act21.eval (.const (.int .i64 0)) = .int .i64 0)) s21 rfl fun act22 d22 s22 hv hr => ?_
   have h0_22 := (hr 0 rfl).trans h0_21
   have h4_22 := (hr 4 rfl).trans h4_21
   have h5_22 := (hr 5 rfl).trans h5_21
   have h6_22 := (hr 6 rfl).trans h6_21
   have h10_22 := (hr 10 rfl).trans h10_21
   have h11_22 := (hr 11 rfl).trans h11_21
   have h12_22 := (hr 12 rfl).trans h12_21
   have h13_22 := (hr 13 rfl).trans h13_21
   have h18_22 := (hr 18 rfl).trans h18_21
   have h22_22 := (hr 22 rfl).trans h22_21
   have h23_22 := (hr 23 rfl).trans h23_21
   have h24_22 : act22.eval (.tmp 24) = .int .i64 0 := hv
   have d22 := d22.trans d21
   clear hv hr
   refine EngI.tail_nil ?_
   refine wp_block ?_
   refine Eng.loopN (fun n a w' => ∃ (m : Nat), ks.length - m = n ∧ (m ≤ ks.length) ∧ (Tm.Ok nd ks m) ∧ (w'.ownsRow w.heap.size 3 1 v_20 ks.length (Dc.ints ks)) ∧ (Tm.Cn w' w.heap.size mb1 3 m (Tm.K1 nd ks m)) ∧ (Tm.Cn w' w.heap.size mb2 105 (2 * m) (Tm.K2 nd ks m)) ∧ a.defers = [] ∧ a.tmps.size = 67 ∧ Below w.heap.size w w' ∧ a.eval (.tmp 0) = gv ∧ a.eval (.tmp 4) = .pointer (some ⟨g4_9, 0, none⟩) ∧ a.eval (.tmp 5) = .map (some mb1) ∧ a.eval (.tmp 6) = .map (some mb2) ∧ a.eval (.tmp 10) = gv ∧ a.eval (.tmp 11) = .int .i64 ((h.length : Nat) : Int) ∧ a.eval (.tmp 12) = .int .i64 (k : Nat) ∧ a.eval (.tmp 13) = .bool q13 ∧ a.eval (.tmp 18) = .bool q18 ∧ a.eval (.tmp 22) = v_20 ∧ a.eval (.tmp 23) = .int .i64 ((ks.length : Nat) : Int) ∧ a.eval (.tmp 24) = .int .i64 (m : Nat) ∧ w'.heap[g4_9]? = some (.cells (#[.int .i64 nk.kind, .string nk.tag, .string nk.text, kv]) 57 (0, 0)) ∧ g4_9 < w'.heap.size) (n0 := ks.length - 0) ?_ ?_
   ·exact ⟨0, rfl, Nat.zero_le _, Tm.ok_zero, Oks_20, XM1_20, XM2_20, d22, s22, bl20, h0_22, h4_22, h5_22, h6_22, h10_22, h11_22, h12_22, h13_22, h18_22, h22_22, h23_22, (h24_22.trans (by first | rfl | (congr 1; rw [Eng.i64_id (by omega) (by omega)]; omega) | (simp; done))), kg4_9_20, lg4_9_20⟩
   rintro n act23 w23 ⟨m, rfl, hc0_23, hc1_23, hc2_23, hc3_23, hc4_23, d23, s23, bl23, h0_23, h4_23, h5_23, h6_23, h10_23, h11_23, h12_23, h13_23, h18_23, h22_23, h23_23, h24_23, kg4_9_23, lg4_9_23⟩
   have Fgr_23 := Eng.Reads.below (Eng.Reads.of_own hR.gr) bl23
   have hm1 := hc0_23
   have hok := hc1_23
   have Fks_23 := Eng.Reads.of_own hc2_23
   refine wp_seq ?_
   obtain ⟨q25, Bq25⟩ : ∃ b : Bool, b = (decide ((m : Nat) < ((ks.length : Nat) : Int))) := ⟨_, rfl⟩
   refine Eng.regionS (Eng.still [fun u_ => u_ = .bool q25]) (fun _ => .plain) 1 0 67 s23 rfl (by kernel_rfl) (Eng.still_stable _) (Or.inr (Eng.still_any _)) ?_ ?_
   ·refine .cons (fun _ => ?_) (.nil)
    ·refine Eng.plain rfl rfl fun a w' H => ?_
     refine Eng.vr (v := .bool (decide ((m : Nat) < ((ks.length : Nat) : Int)))) (by show _ = Value.bool q25; rw [Bq25]) ?_
     have e0 := ((H.kept 24 (by kernel_rfl)).trans h24_23)
     have e1 := ((H.kept 23 (by kernel_rfl)).trans h23_23)
     simp only [execOp, resolve, List.map_toArray, List.map_cons, List.map_nil, e0, e1]
     go_simp
   intro act24 w24 T
   have h0_24 := (T.rest 0 (by kernel_rfl)).trans h0_23
   have h4_24 := (T.rest 4 (by kernel_rfl)).trans h4_23
   have h5_24 := (T.rest 5 (by kernel_rfl)).trans h5_23
   have h6_24 := (T.rest 6 (by kernel_rfl)).trans h6_23
   have h10_24 := (T.rest 10 (by kernel_rfl)).trans h10_23
   have h11_24 := (T.rest 11 (by kernel_rfl)).trans h11_23
   have h12_24 := (T.rest 12 (by kernel_rfl)).trans h12_23
   have h13_24 := (T.rest 13 (by kernel_rfl)).trans h13_23
   have h18_24 := (T.rest 18 (by kernel_rfl)).trans h18_23
   have h22_24 := (T.rest 22 (by kernel_rfl)).trans h22_23
   have h23_24 := (T.rest 23 (by kernel_rfl)).trans h23_23
   have h24_24 := (T.rest 24 (by kernel_rfl)).trans h24_23
   have kg4_9_24 := (T.below.block _ lg4_9_23).trans kg4_9_23
   have lg4_9_24 := Nat.lt_of_lt_of_le lg4_9_23 T.below.size
   have Fgr_24 := Eng.Reads.below Fgr_23 T.below
   have Fks_24 := Eng.Reads.below Fks_23 T.below
   have Oks_24 := Eng.own_below hc2_23 T.below
   have h25_24 : act24.eval (.tmp 25) = .bool q25 := T.done 0 25 rfl rfl
   have d24 := T.defers.trans d23
   have s24 := T.size.trans s23
   have bl24 := bl23.trans (T.below.mono bl23.size)
   have XM1_24 := Tm.Cn.below hc3_23 T.below
   have XM2_24 := Tm.Cn.below hc4_23 T.below
   clear T
   refine Eng.tail_nil ?_
   refine wp_seq ?_
   refine wp_cond_split h25_24 (fun hq => ?_) (fun hq => ?_)
   ·
    have c25 := Bq25.symm.trans hq
    clear hq
    have c25 := of_decide_eq_true c25
    have hm0 : m < ks.length := by omega
    obtain ⟨key, hkey⟩ : ∃ i, i = ks.getD m 0 := ⟨_, rfl⟩
    refine wp_skip ?_
    refine wp_seq ?_
    refine wp_block ?_
    refine wp_seq ?_
    refine Eng.regionS (Eng.still [fun u_ => u_ = Eng.elemPtr v_20 (m * 1), fun u_ => u_ = .int .i64 key, fun u_ => u_ = .int .i64 key]) (fun _ => .plain) 3 0 67 s24 rfl (by kernel_rfl) (Eng.still_stable _) (Or.inr (Eng.still_any _)) ?_ ?_
    ·refine .cons (fun _ => ?_) (.cons (fun _ => ?_) (.cons (fun _ => ?_) (.nil)))
     ·exact Eng.plain rfl rfl fun a w' H => Eng.vr (v := Eng.elemPtr v_20 (m * 1)) rfl (Eng.run_index_sl rfl Tryd.underlying55 (by kernel_rfl) (show a.eval (.tmp 22) = v_20 from ((H.kept 22 (by kernel_rfl)).trans h22_24)) ((show a.eval (.tmp 24) = .int .i64 (m : Nat) from ((H.kept 24 (by kernel_rfl)).trans h24_24)).trans (congrArg (Value.int _) (show (m : Nat) = ((m : Nat) : Int) from by omega))) (Eng.Reads.below Fks_24 H.below) (by omega) rfl)
     ·exact Eng.plain rfl rfl fun a w' H => Eng.vr (v := .int .i64 key) rfl (Eng.run_load_el (.int .i64 key) rfl (show a.eval (.tmp 26) = Eng.elemPtr v_20 (m * 1) from (H.dep 0 26 (by kernel_rfl) rfl)) (Eng.Reads.below Fks_24 H.below) ((by rw [hkey]; exact Dc.ints_get1 ks m (by omega))) (by kernel_rfl))
     ·exact Eng.plain rfl rfl fun a w' H => Eng.vr rfl (Eng.run_assign rfl (H.dep 1 27 (by kernel_rfl) rfl))
    intro act26 w26 T
    have h0_26 := (T.rest 0 (by kernel_rfl)).trans h0_24
    have h4_26 := (T.rest 4 (by kernel_rfl)).trans h4_24
    have h5_26 := (T.rest 5 (by kernel_rfl)).trans h5_24
    have h6_26 := (T.rest 6 (by kernel_rfl)).trans h6_24
    have h10_26 := (T.rest 10 (by kernel_rfl)).trans h10_24
    have h11_26 := (T.rest 11 (by kernel_rfl)).trans h11_24
    have h12_26 := (T.rest 12 (by kernel_rfl)).trans h12_24
    have h13_26 := (T.rest 13 (by kernel_rfl)).trans h13_24
    have h18_26 := (T.rest 18 (by kernel_rfl)).trans h18_24
    have h22_26 := (T.rest 22 (by kernel_rfl)).trans h22_24
    have h23_26 := (T.rest 23 (by kernel_rfl)).trans h23_24
    have h24_26 := (T.rest 24 (by kernel_rfl)).trans h24_24
    have kg4_9_26 := (T.below.block _ lg4_9_24).trans kg4_9_24
    have lg4_9_26 := Nat.lt_of_lt_of_le lg4_9_24 T.below.size
    have Fgr_26 := Eng.Reads.below Fgr_24 T.below
    have Oks_26 := Eng.own_below Oks_24 T.below
    have h8_26 : act26.eval (.tmp 8) = .int .i64 key := T.done 2 8 rfl rfl
    have d26 := T.defers.trans d24
    have s26 := T.size.trans s24
    have bl26 := bl24.trans (T.below.mono bl24.size)
    have XM1_26 := Tm.Cn.below XM1_24 T.below
    have XM2_26 := Tm.Cn.below XM2_24 T.below
    clear T
    refine Eng.tail_nil ?_
    refine wp_seq ?_
    refine wp_seq ?_
    obtain ⟨q30, Bq30⟩ : ∃ b : Bool, b = (decide (key ≥ 0) && decide (key < (h.length : Int))) := ⟨_, rfl⟩
    obtain ⟨q31, Bq31⟩ : ∃ b : Bool, b = (!q30) := ⟨_, rfl⟩
    refine Eng.regionS (Eng.still [fun u_ => u_ = gv, fun u_ => u_ = .int .i64 key, fun u_ => u_ = .bool q30, fun u_ => u_ = .bool q31]) (fun _ => .plain) 4 0 67 s26 rfl (by kernel_rfl) (Eng.still_stable _) (Or.inr (Eng.still_any _)) ?_ ?_
    ·refine .cons (fun _ => ?_) (.cons (fun _ => ?_) (.cons (fun _ => ?_) (.cons (fun _ => ?_) (.nil))))
     ·exact Eng.plain rfl rfl fun a w' H => Eng.vr rfl (Eng.run_move rfl ((H.kept 0 (by kernel_rfl)).trans h0_26))
     ·exact Eng.plain rfl rfl fun a w' H => Eng.vr rfl (Eng.run_move rfl ((H.kept 8 (by kernel_rfl)).trans h8_26))
     ·refine Eng.plain rfl rfl fun a w' H => ?_
      refine Eng.call Tryd.func73 (by kernel_rfl) (by kernel_rfl) rfl #[gv, .int .i64 key] ?_ ?_
      ·have e0 : a.eval (.tmp 28) = gv := (H.dep 0 28 (by kernel_rfl) rfl); have e1 : a.eval (.tmp 29) = .int .i64 key := (H.dep 1 29 (by kernel_rfl) rfl); simp only [List.map_toArray, List.map_cons, List.map_nil, e0, e1]
      refine (Dc.has_calls gv h.length _ key _ (Eng.Reads.below Fgr_26 H.below)).mono ?_
      rintro e w'' ⟨rfl, hb⟩
      exact ⟨_, rfl, (by show _ = Value.bool q30; rw [Bq30]), hb⟩
     ·exact Eng.plain rfl rfl fun a w' H => Eng.vr (v := .bool (!q30)) (by show _ = Value.bool q31; rw [Bq31]) (Eng.run_not rfl (H.dep 2 30 (by kernel_rfl) rfl))
    intro act27 w27 T
    have h0_27 := (T.rest 0 (by kernel_rfl)).trans h0_26
    have h4_27 := (T.rest 4 (by kernel_rfl)).trans h4_26
    have h5_27 := (T.rest 5 (by kernel_rfl)).trans h5_26
    have h6_27 := (T.rest 6 (by kernel_rfl)).trans h6_26
    have h8_27 := (T.rest 8 (by kernel_rfl)).trans h8_26
    have h10_27 := (T.rest 10 (by kernel_rfl)).trans h10_26
    have h11_27 := (T.rest 11 (by kernel_rfl)).trans h11_26
    have h12_27 := (T.rest 12 (by kernel_rfl)).trans h12_26
    have h13_27 := (T.rest 13 (by kernel_rfl)).trans h13_26
    have h18_27 := (T.rest 18 (by kernel_rfl)).trans h18_26
    have h22_27 := (T.rest 22 (by kernel_rfl)).trans h22_26
    have h23_27 := (T.rest 23 (by kernel_rfl)).trans h23_26
    have h24_27 := (T.rest 24 (by kernel_rfl)).trans h24_26
    have kg4_9_27 := (T.below.block _ lg4_9_26).trans kg4_9_26
    have lg4_9_27 := Nat.lt_of_lt_of_le lg4_9_26 T.below.size
    have Oks_27 := Eng.own_below Oks_26 T.below
    have h31_27 : act27.eval (.tmp 31) = .bool q31 := T.done 3 31 rfl rfl
    have d27 := T.defers.trans d26
    have s27 := T.size.trans s26
    have bl27 := bl26.trans (T.below.mono bl26.size)
    have XM1_27 := Tm.Cn.below XM1_26 T.below
    have XM2_27 := Tm.Cn.below XM2_26 T.below
    clear T
    refine Eng.tail_nil ?_
    refine wp_cond_split h31_27 (fun hq => ?_) (fun hq => ?_)
    ·
     have c31 := Bq31.symm.trans hq
     clear hq
     have hh := c31
     simp only [Bq31, Bq30, Bq25, Bq18, Bq13] at hh
     have hhas : Dc.hasI nd key = false := by unfold Dc.hasI; rw [hln]; exact (Bool.not_eq_true' _).mp hh
     refine wp_exit ?_
     refine Eng.regionS (Eng.still [fun u_ => u_ = .int .i64 (IntKind.i64.wrap ((m : Nat) + 1)), fun u_ => u_ = .int .i64 (IntKind.i64.wrap ((m : Nat) + 1))]) (fun _ => .plain) 2 0 67 s27 rfl (by kernel_rfl) (Eng.still_stable _) (Or.inr (Eng.still_any _)) ?_ ?_
     ·refine .cons (fun _ => ?_) (.cons (fun _ => ?_) (.nil))
      ·refine Eng.plain rfl rfl fun a w' H => ?_
       refine Eng.vr (v := .int .i64 (IntKind.i64.wrap ((m : Nat) + 1))) rfl ?_
       have e0 := ((H.kept 24 (by kernel_rfl)).trans h24_27)
       have e1 : a.eval (.const (.int .i64 1)) = .int .i64 1 := (rfl : a.eval (.const (.int .i64 1)) = .int .i64 1)
       simp only [execOp, resolve, List.map_toArray, List.map_cons, List.map_nil, e0, e1]
       go_simp
      ·exact Eng.plain rfl rfl fun a w' H => Eng.vr rfl (Eng.run_move rfl (H.dep 0 65 (by kernel_rfl) rfl))
     intro act29 w29 T
     have h0_29 := (T.rest 0 (by kernel_rfl)).trans h0_27
     have h4_29 := (T.rest 4 (by kernel_rfl)).trans h4_27
     have h5_29 := (T.rest 5 (by kernel_rfl)).trans h5_27
     have h6_29 := (T.rest 6 (by kernel_rfl)).trans h6_27
     have h10_29 := (T.rest 10 (by kernel_rfl)).trans h10_27
     have h11_29 := (T.rest 11 (by kernel_rfl)).trans h11_27
     have h12_29 := (T.rest 12 (by kernel_rfl)).trans h12_27
     have h13_29 := (T.rest 13 (by kernel_rfl)).trans h13_27
     have h18_29 := (T.rest 18 (by kernel_rfl)).trans h18_27
     have h22_29 := (T.rest 22 (by kernel_rfl)).trans h22_27
     have h23_29 := (T.rest 23 (by kernel_rfl)).trans h23_27
     have kg4_9_29 := (T.below.block _ lg4_9_27).trans kg4_9_27
     have lg4_9_29 := Nat.lt_of_lt_of_le lg4_9_27 T.below.size
     have Oks_29 := Eng.own_below Oks_27 T.below
     have h24_29 : act29.eval (.tmp 24) = .int .i64 (IntKind.i64.wrap ((m : Nat) + 1)) := T.done 1 24 rfl rfl
     have d29 := T.defers.trans d27
     have s29 := T.size.trans s27
     have bl29 := bl27.trans (T.below.mono bl27.size)
     have XM1_29 := Tm.Cn.below XM1_27 T.below
     have XM2_29 := Tm.Cn.below XM2_27 T.below
     clear T
     refine Eng.tail_nil ?_
     exact ⟨_, by omega, m + 1, rfl, by omega, Tm.ok_not hm0 hkey hhas hok, Oks_29, (Tm.Cn.mono XM1_29 (by omega)).eqL (Tm.K1_not hm0 hkey hhas), (Tm.Cn.mono XM2_29 (by omega)).eqL (Tm.K2_not hm0 hkey hhas), d29, s29, bl29, h0_29, h4_29, h5_29, h6_29, h10_29, h11_29, h12_29, h13_29, h18_29, h22_29, h23_29, (h24_29.trans (by first | rfl | (congr 1; rw [Eng.i64_id (by omega) (by omega)]; omega) | (simp; done))), kg4_9_29, lg4_9_29⟩
    ·
     have c31 := Bq31.symm.trans hq
     clear hq
     have hh := c31
     simp only [Bq31, Bq30, Bq25, Bq18, Bq13] at hh
     have hhas : Dc.hasI nd key = true := by unfold Dc.hasI; rw [hln]; simpa using hh
     have hj2 : 0 ≤ key ∧ key < (h.length : Int) := by simpa using hh
     have hj0 := hj2.1
     have hj1 : key.toNat < h.length := by omega
     have hkl1 : keyOf Tryd.prog 3 (.int .i64 key) = some (.int .i64 key) := Maps.keyOf_int_mk Tryd.underlying3 (by have h_ := Dc.wf_nat (n := key.toNat) (by omega); rw [Int.toNat_of_nonneg hj0] at h_; exact h_)
     have hL1 := Tm.K1_len (nd := nd) (ks := ks) (m := m)
     have hL2 := Tm.K2_len (nd := nd) (ks := ks) (m := m)
     have Fj0 := Eng.Reads.of_own (hR.ks key.toNat hj1)
     have hcell2 := Dc.cells_at h key.toNat hj1
     obtain ⟨nj, Hnj⟩ : ∃ n, n = nd.getD key.toNat default := ⟨_, rfl⟩
     have hq1 : (h.getD key.toNat default).1 = nj := by rw [Hnj, hnd, Dc.map_getD]
     obtain ⟨jv, hjv⟩ : ∃ v, v = (h.getD key.toNat default).2 := ⟨_, rfl⟩
     rw [hq1, ← hjv] at hcell2 Fj0
     clear hjv hq1
     have hsj := Hnj ▸ hsm.at_ (hln.symm ▸ hj1)
     have Fjj31 := Eng.Reads.below Fj0 bl27
     refine wp_skip ?_
     refine wp_seq ?_
     refine wp_seq ?_
     refine Eng.regionT (n := 5) rfl ?_
     refine Eng.tail_val rfl rfl rfl (Eng.run_move rfl h5_27) s27 rfl fun act32 d32 s32 hv hr => ?_
     have h0_32 := (hr 0 rfl).trans h0_27
     have h4_32 := (hr 4 rfl).trans h4_27
     have h5_32 := (hr 5 rfl).trans h5_27
     have h6_32 := (hr 6 rfl).trans h6_27
     have h8_32 := (hr 8 rfl).trans h8_27
     have h10_32 := (hr 10 rfl).trans h10_27
     have h11_32 := (hr 11 rfl).trans h11_27
     have h12_32 := (hr 12 rfl).trans h12_27
     have h13_32 := (hr 13 rfl).trans h13_27
     have h18_32 := (hr 18 rfl).trans h18_27
     have h22_32 := (hr 22 rfl).trans h22_27
     have h23_32 := (hr 23 rfl).trans h23_27
     have h24_32 := (hr 24 rfl).trans h24_27
     have h32_32 : act32.eval (.tmp 32) = .map (some mb1) := hv
     have d32 := d32.trans d27
     clear hv hr
     refine Eng.tail_val rfl rfl rfl (Eng.run_move rfl h8_32) s32 rfl fun act33 d33 s33 hv hr => ?_
     have h0_33 := (hr 0 rfl).trans h0_32
     have h4_33 := (hr 4 rfl).trans h4_32
     have h5_33 := (hr 5 rfl).trans h5_32
     have h6_33 := (hr 6 rfl).trans h6_32
     have h8_33 := (hr 8 rfl).trans h8_32
     have h10_33 := (hr 10 rfl).trans h10_32
     have h11_33 := (hr 11 rfl).trans h11_32
     have h12_33 := (hr 12 rfl).trans h12_32
     have h13_33 := (hr 13 rfl).trans h13_32
     have h18_33 := (hr 18 rfl).trans h18_32
     have h22_33 := (hr 22 rfl).trans h22_32
     have h23_33 := (hr 23 rfl).trans h23_32
     have h24_33 := (hr 24 rfl).trans h24_32
     have h32_33 := (hr 32 rfl).trans h32_32
     have h33_33 : act33.eval (.tmp 33) = .int .i64 key := hv
     have d33 := d33.trans d32
     clear hv hr
     refine Eng.tail_val rfl rfl rfl (Eng.run_look0 rfl h32_33 h33_33 (Tm.Cn.look XM1_27 Tm.key_int Tryd.underlying102 hkl1)) s33 rfl fun act34 d34 s34 hv hr => ?_
     have h0_34 := (hr 0 rfl).trans h0_33
     have h4_34 := (hr 4 rfl).trans h4_33
     have h5_34 := (hr 5 rfl).trans h5_33
     have h6_34 := (hr 6 rfl).trans h6_33
     have h8_34 := (hr 8 rfl).trans h8_33
     have h10_34 := (hr 10 rfl).trans h10_33
     have h11_34 := (hr 11 rfl).trans h11_33
     have h12_34 := (hr 12 rfl).trans h12_33
     have h13_34 := (hr 13 rfl).trans h13_33
     have h18_34 := (hr 18 rfl).trans h18_33
     have h22_34 := (hr 22 rfl).trans h22_33
     have h23_34 := (hr 23 rfl).trans h23_33
     have h24_34 := (hr 24 rfl).trans h24_33
     have h32_34 := (hr 32 rfl).trans h32_33
     have h33_34 := (hr 33 rfl).trans h33_33
     have h34_34 : act34.eval (.tmp 34) = .int .i64 (Tm.cnt (Tm.K1 nd ks m) (.int .i64 key)) := hv
     have d34 := d34.trans d33
     clear hv hr
     refine Eng.tail_val rfl rfl rfl (Eng.run_inc rfl h34_34 Tryd.underlying3 (Tm.cnt_bd _ _).1 (by have := (Tm.cnt_bd (.int .i64 key) (Tm.K1 nd ks m)).2; omega)) s34 rfl fun act35 d35 s35 hv hr => ?_
     have h0_35 := (hr 0 rfl).trans h0_34
     have h4_35 := (hr 4 rfl).trans h4_34
     have h5_35 := (hr 5 rfl).trans h5_34
     have h6_35 := (hr 6 rfl).trans h6_34
     have h8_35 := (hr 8 rfl).trans h8_34
     have h10_35 := (hr 10 rfl).trans h10_34
     have h11_35 := (hr 11 rfl).trans h11_34
     have h12_35 := (hr 12 rfl).trans h12_34
     have h13_35 := (hr 13 rfl).trans h13_34
     have h18_35 := (hr 18 rfl).trans h18_34
     have h22_35 := (hr 22 rfl).trans h22_34
     have h23_35 := (hr 23 rfl).trans h23_34
     have h24_35 := (hr 24 rfl).trans h24_34
     have h32_35 := (hr 32 rfl).trans h32_34
     have h33_35 := (hr 33 rfl).trans h33_34
     have h35_35 : act35.eval (.tmp 35) = .int .i64 (Tm.cnt (Tm.K1 nd ks m) (.int .i64 key) + 1) := hv
     have d35 := d35.trans d34
     clear hv hr
     obtain ⟨w36, rn_36, XM_36, G_36⟩ := Tm.Cn.put XM1_27 Tm.key_int Tryd.underlying102 hkl1 (by unfold maxLen; omega) (by omega)
     refine Eng.tail_skip rfl rfl rfl (Eng.run_upd rfl h32_35 h33_35 h35_35 rn_36) ?_
     have kg4_9_36 := (G_36.block _ lg4_9_27 (fun e => Tm.Cn.ne XM1_27 kg4_9_27 (Option.some.inj e))).trans kg4_9_27
     have lg4_9_36 := Nat.lt_of_lt_of_le lg4_9_27 G_36.size
     have bl36 := bl27.grown G_36 bl27.size (fun j hj => by injection hj with hj; subst hj; exact Tm.Cn.lo XM1_27)
     have Y_36 := Tm.Cn.grown XM2_27 G_36 hne.symm
     have Fgr_36 := Eng.Reads.below (Eng.Reads.of_own hR.gr) bl36
     have Oks_36 := Tm.Cn.own_kept XM1_27 Oks_27 G_36
     have Fjj_36 := Eng.Reads.below Fj0 bl36
     refine Eng.tail_nil ?_
     refine wp_seq ?_
     refine Eng.regionT (n := 4) rfl ?_
     refine Eng.tail_val rfl rfl rfl (Eng.run_move rfl h5_35) s35 rfl fun act37 d37 s37 hv hr => ?_
     have h0_37 := (hr 0 rfl).trans h0_35
     have h4_37 := (hr 4 rfl).trans h4_35
     have h5_37 := (hr 5 rfl).trans h5_35
     have h6_37 := (hr 6 rfl).trans h6_35
     have h8_37 := (hr 8 rfl).trans h8_35
     have h10_37 := (hr 10 rfl).trans h10_35
     have h11_37 := (hr 11 rfl).trans h11_35
     have h12_37 := (hr 12 rfl).trans h12_35
     have h13_37 := (hr 13 rfl).trans h13_35
     have h18_37 := (hr 18 rfl).trans h18_35
     have h22_37 := (hr 22 rfl).trans h22_35
     have h23_37 := (hr 23 rfl).trans h23_35
     have h24_37 := (hr 24 rfl).trans h24_35
     have h36_37 : act37.eval (.tmp 36) = .map (some mb1) := hv
     have d37 := d37.trans d35
     clear hv hr
     refine Eng.tail_val rfl rfl rfl (Eng.run_move rfl h8_37) s37 rfl fun act38 d38 s38 hv hr => ?_
     have h0_38 := (hr 0 rfl).trans h0_37
     have h4_38 := (hr 4 rfl).trans h4_37
     have h5_38 := (hr 5 rfl).trans h5_37
     have h6_38 := (hr 6 rfl).trans h6_37
     have h8_38 := (hr 8 rfl).trans h8_37
     have h10_38 := (hr 10 rfl).trans h10_37
     have h11_38 := (hr 11 rfl).trans h11_37
     have h12_38 := (hr 12 rfl).trans h12_37
     have h13_38 := (hr 13 rfl).trans h13_37
     have h18_38 := (hr 18 rfl).trans h18_37
     have h22_38 := (hr 22 rfl).trans h22_37
     have h23_38 := (hr 23 rfl).trans h23_37
     have h24_38 := (hr 24 rfl).trans h24_37
     have h36_38 := (hr 36 rfl).trans h36_37
     have h37_38 : act38.eval (.tmp 37) = .int .i64 key := hv
     have d38 := d38.trans d37
     clear hv hr
     refine Eng.tail_val rfl rfl rfl (Eng.run_look0 rfl h36_38 h37_38 (Tm.Cn.look XM_36 Tm.key_int Tryd.underlying102 hkl1)) s38 rfl fun act39 d39 s39 hv hr => ?_
     have h0_39 := (hr 0 rfl).trans h0_38
     have h4_39 := (hr 4 rfl).trans h4_38
     have h5_39 := (hr 5 rfl).trans h5_38
     have h6_39 := (hr 6 rfl).trans h6_38
     have h8_39 := (hr 8 rfl).trans h8_38
     have h10_39 := (hr 10 rfl).trans h10_38
     have h11_39 := (hr 11 rfl).trans h11_38
     have h12_39 := (hr 12 rfl).trans h12_38
     have h13_39 := (hr 13 rfl).trans h13_38
     have h18_39 := (hr 18 rfl).trans h18_38
     have h22_39 := (hr 22 rfl).trans h22_38
     have h23_39 := (hr 23 rfl).trans h23_38
     have h24_39 := (hr 24 rfl).trans h24_38
     have h38_39 : act39.eval (.tmp 38) = .int .i64 (Tm.cnt (.int .i64 key :: (Tm.K1 nd ks m)) (.int .i64 key)) := hv
     have d39 := d39.trans d38
     clear hv hr
     obtain ⟨q39, Bq39⟩ : ∃ b : Bool, b = (decide ((Tm.cnt (.int .i64 key :: (Tm.K1 nd ks m)) (.int .i64 key)) > 1)) := ⟨_, rfl⟩
     refine Eng.tail_val (w1 := w36) (v := .bool (decide ((Tm.cnt (.int .i64 key :: (Tm.K1 nd ks m)) (.int .i64 key)) > 1))) rfl rfl rfl ?_ s39 rfl ?_
     ·have e0 : act39.eval (.tmp 38) = .int .i64 (Tm.cnt (.int .i64 key :: (Tm.K1 nd ks m)) (.int .i64 key)) := h38_39
      have e1 : act39.eval (.const (.int .i64 1)) = .int .i64 1 := (rfl : act39.eval (.const (.int .i64 1)) = .int .i64 1)
      simp only [execOp, resolve, List.map_toArray, List.map_cons, List.map_nil, e0, e1]
      go_simp
     intro act40 d40 s40 hv hr
     have h0_40 := (hr 0 rfl).trans h0_39
     have h4_40 := (hr 4 rfl).trans h4_39
     have h5_40 := (hr 5 rfl).trans h5_39
     have h6_40 := (hr 6 rfl).trans h6_39
     have h8_40 := (hr 8 rfl).trans h8_39
     have h10_40 := (hr 10 rfl).trans h10_39
     have h11_40 := (hr 11 rfl).trans h11_39
     have h12_40 := (hr 12 rfl).trans h12_39
     have h13_40 := (hr 13 rfl).trans h13_39
     have h18_40 := (hr 18 rfl).trans h18_39
     have h22_40 := (hr 22 rfl).trans h22_39
     have h23_40 := (hr 23 rfl).trans h23_39
     have h24_40 := (hr 24 rfl).trans h24_39
     have h39_40 : act40.eval (.tmp 39) = .bool q39 := hv.trans (congrArg Value.bool Bq39.symm)
     have d40 := d40.trans d39
     clear hv hr
     refine Eng.tail_nil ?_
     refine wp_cond_split h39_40 (fun hq => ?_) (fun hq => ?_)
     ·
      have c39 := Bq39.symm.trans hq
      clear hq
      have c39 := of_decide_eq_true c39
      have hlf := Tm.mem_of c39
      have htw : Dc.twiceF nd = true := Tm.twice_true (hln.symm ▸ hk0) (Hnk ▸ Tm.dup_one hk2 hks hm0 hkey hhas hlf)
      refine wp_seq ?_
      refine Eng.regionS (Eng.still [fun u_ => u_ = .bool true]) (fun _ => .plain) 1 0 67 s40 rfl (by kernel_rfl) (Eng.still_stable _) (Or.inr (Eng.still_any _)) ?_ ?_
      ·refine .cons (fun _ => ?_) (.nil)
       ·exact Eng.plain rfl rfl fun a w' H => Eng.vr rfl (Eng.run_assign rfl (rfl : a.eval (.const (.bool true)) = .bool true))
      intro act42 w42 T
      have h2_42 : act42.eval (.tmp 2) = .bool true := T.done 0 2 rfl rfl
      have d42 := T.defers.trans d40
      have bl42 := bl36.trans (T.below.mono bl36.size)
      clear T
      refine Eng.tail_nil ?_
      refine wp_ret ?_
      repeat (first | with_reducible refine Eng.in_ret ?_ | with_reducible refine Eng.then_ret ?_)
      exact Eng.ret1 rfl d42 h2_42 ⟨by rw [htw], bl42⟩
     ·
      have c39 := Bq39.symm.trans hq
      clear hq
      have c39 := of_decide_eq_false c39
      have hn1 := Tm.not_of c39
      refine wp_skip ?_
      refine wp_seq ?_
      refine Eng.regionT (n := 6) rfl ?_
      refine Eng.tail_val rfl rfl rfl (Eng.run_move rfl h0_40) s40 rfl fun act44 d44 s44 hv hr => ?_
      have h0_44 := (hr 0 rfl).trans h0_40
      have h4_44 := (hr 4 rfl).trans h4_40
      have h5_44 := (hr 5 rfl).trans h5_40
      have h6_44 := (hr 6 rfl).trans h6_40
      have h8_44 := (hr 8 rfl).trans h8_40
      have h10_44 := (hr 10 rfl).trans h10_40
      have h11_44 := (hr 11 rfl).trans h11_40
      have h12_44 := (hr 12 rfl).trans h12_40
      have h13_44 := (hr 13 rfl).trans h13_40
      have h18_44 := (hr 18 rfl).trans h18_40
      have h22_44 := (hr 22 rfl).trans h22_40
      have h23_44 := (hr 23 rfl).trans h23_40
      have h24_44 := (hr 24 rfl).trans h24_40
      have h40_44 : act44.eval (.tmp 40) = gv := hv
      have d44 := d44.trans d40
      clear hv hr
      refine Eng.tail_val rfl rfl rfl (Eng.run_move rfl h8_44) s44 rfl fun act45 d45 s45 hv hr => ?_
      have h0_45 := (hr 0 rfl).trans h0_44
      have h4_45 := (hr 4 rfl).trans h4_44
      have h5_45 := (hr 5 rfl).trans h5_44
      have h6_45 := (hr 6 rfl).trans h6_44
      have h10_45 := (hr 10 rfl).trans h10_44
      have h11_45 := (hr 11 rfl).trans h11_44
      have h12_45 := (hr 12 rfl).trans h12_44
      have h13_45 := (hr 13 rfl).trans h13_44
      have h18_45 := (hr 18 rfl).trans h18_44
      have h22_45 := (hr 22 rfl).trans h22_44
      have h23_45 := (hr 23 rfl).trans h23_44
      have h24_45 := (hr 24 rfl).trans h24_44
      have h40_45 := (hr 40 rfl).trans h40_44
      have h41_45 : act45.eval (.tmp 41) = .int .i64 key := hv
      have d45 := d45.trans d44
      clear hv hr
      refine Eng.tail_val (w1 := w36) (v := Eng.elemPtr gv (key.toNat * 4)) rfl rfl rfl ?_ s45 rfl ?_
      ·exact Eng.run_index_sl rfl Tryd.underlying48 (by kernel_rfl) (show act45.eval (.tmp 40) = gv from h40_45) ((show act45.eval (.tmp 41) = .int .i64 key from h41_45).trans (congrArg (Value.int _) (show key = ((key.toNat : Nat) : Int) from by omega))) Fgr_36 (by omega) rfl
      intro act46 d46 s46 hv hr
      have h0_46 := (hr 0 rfl).trans h0_45
      have h4_46 := (hr 4 rfl).trans h4_45
      have h5_46 := (hr 5 rfl).trans h5_45
      have h6_46 := (hr 6 rfl).trans h6_45
      have h10_46 := (hr 10 rfl).trans h10_45
      have h11_46 := (hr 11 rfl).trans h11_45
      have h12_46 := (hr 12 rfl).trans h12_45
      have h13_46 := (hr 13 rfl).trans h13_45
      have h18_46 := (hr 18 rfl).trans h18_45
      have h22_46 := (hr 22 rfl).trans h22_45
      have h23_46 := (hr 23 rfl).trans h23_45
      have h24_46 := (hr 24 rfl).trans h24_45
      have h42_46 : act46.eval (.tmp 42) = Eng.elemPtr gv (key.toNat * 4) := hv
      have d46 := d46.trans d45
      clear hv hr
      refine Eng.tail_val (w1 := w36) (v := .agg #[.int .i64 nj.kind, .string nj.tag, .string nj.text, jv]) rfl rfl rfl ?_ s46 rfl ?_
      ·exact Eng.run_load_els [.int .i64 nj.kind, .string nj.tag, .string nj.text, jv] rfl (show act46.eval (.tmp 42) = Eng.elemPtr gv (key.toNat * 4) from h42_46) Fgr_36 (hcell2) rfl Tryd.underlying57 rfl (by kernel_rfl)
      intro act47 d47 s47 hv hr
      have h0_47 := (hr 0 rfl).trans h0_46
      have h4_47 := (hr 4 rfl).trans h4_46
      have h5_47 := (hr 5 rfl).trans h5_46
      have h6_47 := (hr 6 rfl).trans h6_46
      have h10_47 := (hr 10 rfl).trans h10_46
      have h11_47 := (hr 11 rfl).trans h11_46
      have h12_47 := (hr 12 rfl).trans h12_46
      have h13_47 := (hr 13 rfl).trans h13_46
      have h18_47 := (hr 18 rfl).trans h18_46
      have h22_47 := (hr 22 rfl).trans h22_46
      have h23_47 := (hr 23 rfl).trans h23_46
      have h24_47 := (hr 24 rfl).trans h24_46
      have h43_47 : act47.eval (.tmp 43) = .agg #[.int .i64 nj.kind, .string nj.tag, .string nj.text, jv] := hv
      have d47 := d47.trans d46
      clear hv hr
      refine Eng.tail_ex rfl rfl rfl (Eng.alloc_ex (cs := #[.int .i64 0, .string ⟨#[]⟩, .string ⟨#[]⟩, .slice none 0 0]) rfl (by kernel_rfl)) s47 rfl fun v_48 w48 act48 R d48 s48 hv hr => ?_
      obtain ⟨g9_48, ev_48, rg_48, lg9_48, kg9_48, b_48⟩ := R
      have h0_48 := (hr 0 rfl).trans h0_47
      have h4_48 := (hr 4 rfl).trans h4_47
      have h5_48 := (hr 5 rfl).trans h5_47
      have h6_48 := (hr 6 rfl).trans h6_47
      have h10_48 := (hr 10 rfl).trans h10_47
      have h11_48 := (hr 11 rfl).trans h11_47
      have h12_48 := (hr 12 rfl).trans h12_47
      have h13_48 := (hr 13 rfl).trans h13_47
      have h18_48 := (hr 18 rfl).trans h18_47
      have h22_48 := (hr 22 rfl).trans h22_47
      have h23_48 := (hr 23 rfl).trans h23_47
      have h24_48 := (hr 24 rfl).trans h24_47
      have h43_48 := (hr 43 rfl).trans h43_47
      have h9_48 : act48.eval (.tmp 9) = v_48 := hv
      have d48 := d48.trans d47
      clear hv hr
      have ne_g9_48_g4_9 : g4_9 ≠ g9_48 := fun e => Nat.lt_irrefl _ (Nat.lt_of_lt_of_le (e ▸ lg4_9_36) rg_48)
      have og9_48 : w.heap.size ≤ g9_48 := Nat.le_trans bl36.size rg_48
      have kg4_9_48 := (b_48.block _ lg4_9_36).trans kg4_9_36
      have lg4_9_48 := Nat.lt_of_lt_of_le lg4_9_36 b_48.size
      have Oks_48 := Eng.own_below Oks_36 b_48
      have Fjj_48 := Eng.Reads.below Fjj_36 b_48
      have XM1_48 := Tm.Cn.below XM_36 b_48
      have XM2_48 := Tm.Cn.below Y_36 b_48
      have bl48 := bl36.trans (b_48.mono bl36.size)
      rw [ev_48] at h9_48
      refine Eng.tail_put [.int .i64 nj.kind, .string nj.tag, .string nj.text, jv] (n := 0) (new := #[.int .i64 nj.kind, .string nj.tag, .string nj.text, jv]) rfl rfl rfl kg9_48 rfl ?_ fun w49 S => ?_
      ·have e0 : act48.eval (.tmp 9) = .pointer (some ⟨g9_48, 0, none⟩) := h9_48
       have e1 : act48.eval (.tmp 43) = .agg #[.int .i64 nj.kind, .string nj.tag, .string nj.text, jv] := h43_48
       obtain ⟨A3_, c3_, ev3_⟩ := Eng.Reads.shape Fjj_48
       subst ev3_
       have z0 := (Eng.cells kg9_48 (0)).trans (rfl)
       have f0 := Eng.unfrozen kg9_48 (0)
       have z1 := (Eng.cells kg9_48 (1)).trans (rfl)
       have f1 := Eng.unfrozen kg9_48 (1)
       have z2 := (Eng.cells kg9_48 (2)).trans (rfl)
       have f2 := Eng.unfrozen kg9_48 (2)
       have z3 := (Eng.cells kg9_48 (3)).trans (rfl)
       have f3 := Eng.unfrozen kg9_48 (3)
       simp only [execOp]
       rw [e0, e1]
       go_simp
       try rfl
      have kg4_9_49 := (S.far _ ne_g9_48_g4_9).trans kg4_9_48
      have lg4_9_49 := Nat.lt_of_lt_of_eq lg4_9_48 S.size.symm
      have kg9_48_49 := S.new
      have lg9_48_49 := Nat.lt_of_lt_of_eq lg9_48 S.size.symm
      have bl49 := S.below bl48 og9_48
      have Oks_49 := Eng.own_sets Oks_48 S kg9_48 rfl
      have XM1_49 := Tm.Cn.sets XM1_48 S kg9_48
      have XM2_49 := Tm.Cn.sets XM2_48 S kg9_48
      clear S
      refine Eng.tail_nil ?_
      refine wp_seq ?_
      obtain ⟨q46, Bq46⟩ : ∃ b : Bool, b = (nj.kind == 0) := ⟨_, rfl⟩
      refine Eng.regionS (Eng.still [fun u_ => u_ = .pointer (some ⟨g9_48, 0, none⟩), fun u_ => u_ = .int .i64 nj.kind, fun u_ => u_ = .bool q46]) (fun _ => .plain) 3 0 67 s48 rfl (by kernel_rfl) (Eng.still_stable _) (Or.inr (Eng.still_any _)) ?_ ?_
      ·refine .cons (fun _ => ?_) (.cons (fun _ => ?_) (.cons (fun _ => ?_) (.nil)))
       ·exact Eng.plain rfl rfl fun a w' H => Eng.vr rfl (Eng.run_fieldb rfl Tryd.underlying57 0 (by kernel_rfl) ((H.kept 9 (by kernel_rfl)).trans h9_48))
       ·exact Eng.plain rfl rfl fun a w' H => Eng.vr rfl (Eng.run_loadb rfl (H.dep 0 44 (by kernel_rfl) rfl) ((H.below.block _ lg9_48_49).trans kg9_48_49) rfl (by kernel_rfl))
       ·refine Eng.plain rfl rfl fun a w' H => ?_
        refine Eng.vr (v := .bool (nj.kind == 0)) (by show _ = Value.bool q46; rw [Bq46]) ?_
        have e0 : a.eval (.tmp 45) = .int .i64 nj.kind := (H.dep 1 45 (by kernel_rfl) rfl)
        have e1 : a.eval (.const (.int .i64 0)) = .int .i64 0 := (rfl : a.eval (.const (.int .i64 0)) = .int .i64 0)
        simp only [execOp, resolve, List.map_toArray, List.map_cons, List.map_nil, e0, e1]
        go_simp
      intro act50 w50 T
      have h0_50 := (T.rest 0 (by kernel_rfl)).trans h0_48
      have h4_50 := (T.rest 4 (by kernel_rfl)).trans h4_48
      have h5_50 := (T.rest 5 (by kernel_rfl)).trans h5_48
      have h6_50 := (T.rest 6 (by kernel_rfl)).trans h6_48
      have h9_50 := (T.rest 9 (by kernel_rfl)).trans h9_48
      have h10_50 := (T.rest 10 (by kernel_rfl)).trans h10_48
      have h11_50 := (T.rest 11 (by kernel_rfl)).trans h11_48
      have h12_50 := (T.rest 12 (by kernel_rfl)).trans h12_48
      have h13_50 := (T.rest 13 (by kernel_rfl)).trans h13_48
      have h18_50 := (T.rest 18 (by kernel_rfl)).trans h18_48
      have h22_50 := (T.rest 22 (by kernel_rfl)).trans h22_48
      have h23_50 := (T.rest 23 (by kernel_rfl)).trans h23_48
      have h24_50 := (T.rest 24 (by kernel_rfl)).trans h24_48
      have kg4_9_50 := (T.below.block _ lg4_9_49).trans kg4_9_49
      have lg4_9_50 := Nat.lt_of_lt_of_le lg4_9_49 T.below.size
      have kg9_48_50 := (T.below.block _ lg9_48_49).trans kg9_48_49
      have lg9_48_50 := Nat.lt_of_lt_of_le lg9_48_49 T.below.size
      have Oks_50 := Eng.own_below Oks_49 T.below
      have h46_50 : act50.eval (.tmp 46) = .bool q46 := T.done 2 46 rfl rfl
      have d50 := T.defers.trans d48
      have s50 := T.size.trans s48
      have bl50 := bl49.trans (T.below.mono bl49.size)
      have XM1_50 := Tm.Cn.below XM1_49 T.below
      have XM2_50 := Tm.Cn.below XM2_49 T.below
      clear T
      refine Eng.tail_nil ?_
      refine wp_cond_split h46_50 (fun hq => ?_) (fun hq => ?_)
      ·
       have c46 := Bq46.symm.trans hq
       clear hq
       have hlf : Tm.leafB nd key = some (nj.tag, nj.text) := by unfold Tm.leafB; rw [← Hnj, if_pos (by simpa using c46)]
       obtain ⟨kl2, hkl2⟩ := Tm.keyOf_leaf (t := nj.tag) (x := nj.text) (by unfold maxLen; have := hsj.2.1; omega) (by unfold maxLen; have := hsj.2.2; omega)
       refine wp_seq ?_
       have XD_52 := Tm.Cn.drew (d := w50.drawn + 1) XM2_50
       obtain ⟨v0, stp, wa, wb, eE, gE, XE, eS, XS, gS⟩ := Tm.Cn.entry XD_52 Tm.law_leaf Tryd.underlying103 hkl2 (by unfold maxLen; omega) (by omega)
       have kk : ∀ u, (u = { w50 with drawn := w50.drawn + 1 } ∨ u = wa) → u.heap[g9_48]? = some (.cells (#[.int .i64 nj.kind, .string nj.tag, .string nj.text, jv]) 57 (0, 0)) := by
        rintro u (rfl | rfl)
        ·exact kg9_48_50
        ·exact (gE.block _ lg9_48_50 (fun e => Tm.Cn.ne XM2_50 kg9_48_50 (Option.some.inj e))).trans kg9_48_50
       have lk : ∀ u, (u = { w50 with drawn := w50.drawn + 1 } ∨ u = wa) → (Instr.lookup 103 (.map (some mb2)) (.agg #[.string nj.tag, .string nj.text]) false).run Tryd.prog u = .ok (.int .i64 (Tm.cnt (Tm.K2 nd ks m) (.agg #[.string nj.tag, .string nj.text]))) u := by
        rintro u (rfl | rfl)
        ·exact Tm.Cn.look XD_52 Tm.key_leaf Tryd.underlying103 hkl2
        ·exact Tm.Cn.look XE Tm.key_leaf Tryd.underlying103 hkl2
       refine Eng.regionX [fun u_ => u_ = .map (some mb2), fun u_ => u_ = .pointer (some ⟨g9_48, 1, none⟩), fun u_ => u_ = .string nj.tag, fun u_ => u_ = .pointer (some ⟨g9_48, 2, none⟩), fun u_ => u_ = .string nj.text, fun u_ => u_ = .agg #[.string nj.tag, .string nj.text], fun u_ => u_ = .int .i64 (Tm.cnt (Tm.K2 nd ks m) (.agg #[.string nj.tag, .string nj.text])), fun u_ => u_ = .int .i64 (Tm.cnt (Tm.K2 nd ks m) (.agg #[.string nj.tag, .string nj.text]) + 1), fun u_ => u_ = .tuple #[v0, goInt stp], fun u_ => u_ = goInt stp] 8 10 1 67 (by kernel_rfl) s50 rfl (by kernel_rfl) rfl wa ?_ ?_
       ·refine .cons (fun _ => ?_) (.cons (fun _ => ?_) (.cons (fun _ => ?_) (.cons (fun _ => ?_) (.cons (fun _ => ?_) (.cons (fun _ => ?_) (.cons (fun _ => ?_) (.cons (fun _ => ?_) (.cons (fun _ => ?_) (.cons (fun _ => ?_) (.cons (fun h => absurd h (by decide)) (.nil)))))))))))
        ·exact Eng.zval rfl rfl fun a u H => ⟨.map (some mb2), Eng.run_move rfl ((H.kept 6 (by kernel_rfl)).trans h6_50), rfl⟩
        ·exact Eng.zval rfl rfl fun a u H => ⟨.pointer (some ⟨g9_48, 1, none⟩), Eng.run_fieldb rfl Tryd.underlying57 1 (by kernel_rfl) ((H.kept 9 (by kernel_rfl)).trans h9_50), rfl⟩
        ·exact Eng.zval rfl rfl fun a u H => ⟨.string nj.tag, Eng.run_loadb rfl (H.dep 1 48 (by kernel_rfl) rfl) (kk u H.or) rfl (by kernel_rfl), rfl⟩
        ·exact Eng.zval rfl rfl fun a u H => ⟨.pointer (some ⟨g9_48, 2, none⟩), Eng.run_fieldb rfl Tryd.underlying57 2 (by kernel_rfl) ((H.kept 9 (by kernel_rfl)).trans h9_50), rfl⟩
        ·exact Eng.zval rfl rfl fun a u H => ⟨.string nj.text, Eng.run_loadb rfl (H.dep 3 50 (by kernel_rfl) rfl) (kk u H.or) rfl (by kernel_rfl), rfl⟩
        ·exact Eng.zval rfl rfl fun a u H => ⟨.agg #[.string nj.tag, .string nj.text], Tm.run_leaf rfl (H.dep 2 49 (by kernel_rfl) rfl) (H.dep 4 51 (by kernel_rfl) rfl), rfl⟩
        ·exact Eng.zval rfl rfl fun a u H => ⟨.int .i64 (Tm.cnt (Tm.K2 nd ks m) (.agg #[.string nj.tag, .string nj.text])), Eng.run_look0 rfl (H.dep 0 47 (by kernel_rfl) rfl) (H.dep 5 52 (by kernel_rfl) rfl) (lk u H.or), rfl⟩
        ·exact Eng.zval rfl rfl fun a u H => ⟨.int .i64 (Tm.cnt (Tm.K2 nd ks m) (.agg #[.string nj.tag, .string nj.text]) + 1), Eng.run_inc rfl (H.dep 6 53 (by kernel_rfl) rfl) Tryd.underlying3 (Tm.cnt_bd _ _).1 (by have := (Tm.cnt_bd (.agg #[.string nj.tag, .string nj.text]) (Tm.K2 nd ks m)).2; omega), rfl⟩
        ·exact Eng.zturn rfl fun a H => ⟨_, Eng.run_entry rfl (H.dep 0 47 (by kernel_rfl) rfl) (H.dep 5 52 (by kernel_rfl) rfl) eE, rfl⟩
        ·exact Eng.zval rfl rfl fun a u H => ⟨goInt stp, Eng.run_ext1 rfl (H.dep 8 55 (by kernel_rfl) rfl), rfl⟩
       intro act52 d52 s52 T hr
       have h0_52 := (hr 0 (by kernel_rfl)).trans h0_50
       have h4_52 := (hr 4 (by kernel_rfl)).trans h4_50
       have h5_52 := (hr 5 (by kernel_rfl)).trans h5_50
       have h6_52 := (hr 6 (by kernel_rfl)).trans h6_50
       have h9_52 := (hr 9 (by kernel_rfl)).trans h9_50
       have h10_52 := (hr 10 (by kernel_rfl)).trans h10_50
       have h11_52 := (hr 11 (by kernel_rfl)).trans h11_50
       have h12_52 := (hr 12 (by kernel_rfl)).trans h12_50
       have h13_52 := (hr 13 (by kernel_rfl)).trans h13_50
       have h18_52 := (hr 18 (by kernel_rfl)).trans h18_50
       have h22_52 := (hr 22 (by kernel_rfl)).trans h22_50
       have h23_52 := (hr 23 (by kernel_rfl)).trans h23_50
       have h24_52 := (hr 24 (by kernel_rfl)).trans h24_50
       have d52 := d52.trans d50
       have h47_52 : act52.eval (.tmp 47) = .map (some mb2) := T 0 47 rfl rfl
       have h56_52 : act52.eval (.tmp 56) = goInt stp := T 9 56 rfl rfl
       have h54_52 : act52.eval (.tmp 54) = .int .i64 (Tm.cnt (Tm.K2 nd ks m) (.agg #[.string nj.tag, .string nj.text]) + 1) := T 7 54 rfl rfl
       clear T hr
       refine Eng.tail_skip rfl rfl rfl (Eng.run_estore rfl h47_52 h56_52 h54_52 eS) ?_
       have blD := bl50.trans ((⟨rfl, rfl, rfl, Nat.le_refl _, fun _ _ => rfl⟩ : Below w50.heap.size w50 ({ w50 with drawn := w50.drawn + 1 } : World)).mono bl50.size)
       have YD_52 := Tm.Cn.drew (d := w50.drawn + 1) XM1_50
       have ODks_52 := Tm.own_drew (d := w50.drawn + 1) Oks_50
       have kg4_9_52 := (gE.block _ lg4_9_50 (fun e => Tm.Cn.ne XD_52 kg4_9_50 (Option.some.inj e))).trans kg4_9_50
       have lg4_9_52 := Nat.lt_of_lt_of_le lg4_9_50 gE.size
       have kg4_9_52' := (gS.block _ lg4_9_52 (fun e => Tm.Cn.ne XE kg4_9_52 (Option.some.inj e))).trans kg4_9_52
       have lg4_9_52' := Nat.lt_of_lt_of_le lg4_9_52 gS.size
       have kg9_48_52 := (gE.block _ lg9_48_50 (fun e => Tm.Cn.ne XD_52 kg9_48_50 (Option.some.inj e))).trans kg9_48_50
       have lg9_48_52 := Nat.lt_of_lt_of_le lg9_48_50 gE.size
       have kg9_48_52' := (gS.block _ lg9_48_52 (fun e => Tm.Cn.ne XE kg9_48_52 (Option.some.inj e))).trans kg9_48_52
       have lg9_48_52' := Nat.lt_of_lt_of_le lg9_48_52 gS.size
       have bl52 := blD.grown gE blD.size (fun j hj => by injection hj with hj; subst hj; exact Tm.Cn.lo XD_52)
       have bl52' := bl52.grown gS bl52.size (fun j hj => by injection hj with hj; subst hj; exact Tm.Cn.lo XE)
       have Y_52 := Tm.Cn.grown YD_52 gE hne
       have Y_52' := Tm.Cn.grown Y_52 gS hne
       have Oks_52 := Tm.Cn.own_kept XD_52 ODks_52 gE
       have Oks_52' := Tm.Cn.own_kept XE Oks_52 gS
       refine Eng.tail_nil ?_
       refine wp_seq ?_
       refine Eng.regionT (n := 8) rfl ?_
       refine Eng.tail_val rfl rfl rfl (Eng.run_move rfl h6_52) s52 rfl fun act53 d53 s53 hv hr => ?_
       have h0_53 := (hr 0 rfl).trans h0_52
       have h4_53 := (hr 4 rfl).trans h4_52
       have h5_53 := (hr 5 rfl).trans h5_52
       have h6_53 := (hr 6 rfl).trans h6_52
       have h9_53 := (hr 9 rfl).trans h9_52
       have h10_53 := (hr 10 rfl).trans h10_52
       have h11_53 := (hr 11 rfl).trans h11_52
       have h12_53 := (hr 12 rfl).trans h12_52
       have h13_53 := (hr 13 rfl).trans h13_52
       have h18_53 := (hr 18 rfl).trans h18_52
       have h22_53 := (hr 22 rfl).trans h22_52
       have h23_53 := (hr 23 rfl).trans h23_52
       have h24_53 := (hr 24 rfl).trans h24_52
       have h57_53 : act53.eval (.tmp 57) = .map (some mb2) := hv
       have d53 := d53.trans d52
       clear hv hr
       refine Eng.tail_val (w1 := wb) (v := .pointer (some ⟨g9_48, 1, none⟩)) rfl rfl rfl ?_ s53 rfl ?_
       ·exact Eng.run_fieldb rfl Tryd.underlying57 1 (by kernel_rfl) h9_53
       intro act54 d54 s54 hv hr
       have h0_54 := (hr 0 rfl).trans h0_53
       have h4_54 := (hr 4 rfl).trans h4_53
       have h5_54 := (hr 5 rfl).trans h5_53
       have h6_54 := (hr 6 rfl).trans h6_53
       have h9_54 := (hr 9 rfl).trans h9_53
       have h10_54 := (hr 10 rfl).trans h10_53
       have h11_54 := (hr 11 rfl).trans h11_53
       have h12_54 := (hr 12 rfl).trans h12_53
       have h13_54 := (hr 13 rfl).trans h13_53
       have h18_54 := (hr 18 rfl).trans h18_53
       have h22_54 := (hr 22 rfl).trans h22_53
       have h23_54 := (hr 23 rfl).trans h23_53
       have h24_54 := (hr 24 rfl).trans h24_53
       have h57_54 := (hr 57 rfl).trans h57_53
       have h58_54 : act54.eval (.tmp 58) = .pointer (some ⟨g9_48, 1, none⟩) := hv
       have d54 := d54.trans d53
       clear hv hr
       refine Eng.tail_val (w1 := wb) (v := .string nj.tag) rfl rfl rfl ?_ s54 rfl ?_
       ·exact Eng.run_loadb rfl h58_54 (((Below.refl _ _).block _ lg9_48_52').trans kg9_48_52') rfl (by kernel_rfl)
       intro act55 d55 s55 hv hr
       have h0_55 := (hr 0 rfl).trans h0_54
       have h4_55 := (hr 4 rfl).trans h4_54
       have h5_55 := (hr 5 rfl).trans h5_54
       have h6_55 := (hr 6 rfl).trans h6_54
       have h9_55 := (hr 9 rfl).trans h9_54
       have h10_55 := (hr 10 rfl).trans h10_54
       have h11_55 := (hr 11 rfl).trans h11_54
       have h12_55 := (hr 12 rfl).trans h12_54
       have h13_55 := (hr 13 rfl).trans h13_54
       have h18_55 := (hr 18 rfl).trans h18_54
       have h22_55 := (hr 22 rfl).trans h22_54
       have h23_55 := (hr 23 rfl).trans h23_54
       have h24_55 := (hr 24 rfl).trans h24_54
       have h57_55 := (hr 57 rfl).trans h57_54
       have h59_55 : act55.eval (.tmp 59) = .string nj.tag := hv
       have d55 := d55.trans d54
       clear hv hr
       refine Eng.tail_val (w1 := wb) (v := .pointer (some ⟨g9_48, 2, none⟩)) rfl rfl rfl ?_ s55 rfl ?_
       ·exact Eng.run_fieldb rfl Tryd.underlying57 2 (by kernel_rfl) h9_55
       intro act56 d56 s56 hv hr
       have h0_56 := (hr 0 rfl).trans h0_55
       have h4_56 := (hr 4 rfl).trans h4_55
       have h5_56 := (hr 5 rfl).trans h5_55
       have h6_56 := (hr 6 rfl).trans h6_55
       have h10_56 := (hr 10 rfl).trans h10_55
       have h11_56 := (hr 11 rfl).trans h11_55
       have h12_56 := (hr 12 rfl).trans h12_55
       have h13_56 := (hr 13 rfl).trans h13_55
       have h18_56 := (hr 18 rfl).trans h18_55
       have h22_56 := (hr 22 rfl).trans h22_55
       have h23_56 := (hr 23 rfl).trans h23_55
       have h24_56 := (hr 24 rfl).trans h24_55
       have h57_56 := (hr 57 rfl).trans h57_55
       have h59_56 := (hr 59 rfl).trans h59_55
       have h60_56 : act56.eval (.tmp 60) = .pointer (some ⟨g9_48, 2, none⟩) := hv
       have d56 := d56.trans d55
       clear hv hr
       refine Eng.tail_val (w1 := wb) (v := .string nj.text) rfl rfl rfl ?_ s56 rfl ?_
       ·exact Eng.run_loadb rfl h60_56 (((Below.refl _ _).block _ lg9_48_52').trans kg9_48_52') rfl (by kernel_rfl)
       intro act57 d57 s57 hv hr
       have h0_57 := (hr 0 rfl).trans h0_56
       have h4_57 := (hr 4 rfl).trans h4_56
       have h5_57 := (hr 5 rfl).trans h5_56
       have h6_57 := (hr 6 rfl).trans h6_56
       have h10_57 := (hr 10 rfl).trans h10_56
       have h11_57 := (hr 11 rfl).trans h11_56
       have h12_57 := (hr 12 rfl).trans h12_56
       have h13_57 := (hr 13 rfl).trans h13_56
       have h18_57 := (hr 18 rfl).trans h18_56
       have h22_57 := (hr 22 rfl).trans h22_56
       have h23_57 := (hr 23 rfl).trans h23_56
       have h24_57 := (hr 24 rfl).trans h24_56
       have h57_57 := (hr 57 rfl).trans h57_56
       have h59_57 := (hr 59 rfl).trans h59_56
       have h61_57 : act57.eval (.tmp 61) = .string nj.text := hv
       have d57 := d57.trans d56
       clear hv hr
       refine Eng.tail_val (w1 := wb) (v := .agg #[.string nj.tag, .string nj.text]) rfl rfl rfl ?_ s57 rfl ?_
       ·have e0 : act57.eval (.tmp 59) = .string nj.tag := h59_57
        have e1 : act57.eval (.tmp 61) = .string nj.text := h61_57
        simp only [execOp, resolve, List.map_toArray, List.map_cons, List.map_nil, e0, e1]
        go_simp
       intro act58 d58 s58 hv hr
       have h0_58 := (hr 0 rfl).trans h0_57
       have h4_58 := (hr 4 rfl).trans h4_57
       have h5_58 := (hr 5 rfl).trans h5_57
       have h6_58 := (hr 6 rfl).trans h6_57
       have h10_58 := (hr 10 rfl).trans h10_57
       have h11_58 := (hr 11 rfl).trans h11_57
       have h12_58 := (hr 12 rfl).trans h12_57
       have h13_58 := (hr 13 rfl).trans h13_57
       have h18_58 := (hr 18 rfl).trans h18_57
       have h22_58 := (hr 22 rfl).trans h22_57
       have h23_58 := (hr 23 rfl).trans h23_57
       have h24_58 := (hr 24 rfl).trans h24_57
       have h57_58 := (hr 57 rfl).trans h57_57
       have h62_58 : act58.eval (.tmp 62) = .agg #[.string nj.tag, .string nj.text] := hv
       have d58 := d58.trans d57
       clear hv hr
       refine Eng.tail_val rfl rfl rfl (Eng.run_look0 rfl h57_58 h62_58 (Tm.Cn.look XS Tm.key_leaf Tryd.underlying103 hkl2)) s58 rfl fun act59 d59 s59 hv hr => ?_
       have h0_59 := (hr 0 rfl).trans h0_58
       have h4_59 := (hr 4 rfl).trans h4_58
       have h5_59 := (hr 5 rfl).trans h5_58
       have h6_59 := (hr 6 rfl).trans h6_58
       have h10_59 := (hr 10 rfl).trans h10_58
       have h11_59 := (hr 11 rfl).trans h11_58
       have h12_59 := (hr 12 rfl).trans h12_58
       have h13_59 := (hr 13 rfl).trans h13_58
       have h18_59 := (hr 18 rfl).trans h18_58
       have h22_59 := (hr 22 rfl).trans h22_58
       have h23_59 := (hr 23 rfl).trans h23_58
       have h24_59 := (hr 24 rfl).trans h24_58
       have h63_59 : act59.eval (.tmp 63) = .int .i64 (Tm.cnt (.agg #[.string nj.tag, .string nj.text] :: (Tm.K2 nd ks m)) (.agg #[.string nj.tag, .string nj.text])) := hv
       have d59 := d59.trans d58
       clear hv hr
       obtain ⟨q64, Bq64⟩ : ∃ b : Bool, b = (decide ((Tm.cnt (.agg #[.string nj.tag, .string nj.text] :: (Tm.K2 nd ks m)) (.agg #[.string nj.tag, .string nj.text])) > 1)) := ⟨_, rfl⟩
       refine Eng.tail_val (w1 := wb) (v := .bool (decide ((Tm.cnt (.agg #[.string nj.tag, .string nj.text] :: (Tm.K2 nd ks m)) (.agg #[.string nj.tag, .string nj.text])) > 1))) rfl rfl rfl ?_ s59 rfl ?_
       ·have e0 : act59.eval (.tmp 63) = .int .i64 (Tm.cnt (.agg #[.string nj.tag, .string nj.text] :: (Tm.K2 nd ks m)) (.agg #[.string nj.tag, .string nj.text])) := h63_59
        have e1 : act59.eval (.const (.int .i64 1)) = .int .i64 1 := (rfl : act59.eval (.const (.int .i64 1)) = .int .i64 1)
        simp only [execOp, resolve, List.map_toArray, List.map_cons, List.map_nil, e0, e1]
        go_simp
       intro act60 d60 s60 hv hr
       have h0_60 := (hr 0 rfl).trans h0_59
       have h4_60 := (hr 4 rfl).trans h4_59
       have h5_60 := (hr 5 rfl).trans h5_59
       have h6_60 := (hr 6 rfl).trans h6_59
       have h10_60 := (hr 10 rfl).trans h10_59
       have h11_60 := (hr 11 rfl).trans h11_59
       have h12_60 := (hr 12 rfl).trans h12_59
       have h13_60 := (hr 13 rfl).trans h13_59
       have h18_60 := (hr 18 rfl).trans h18_59
       have h22_60 := (hr 22 rfl).trans h22_59
       have h23_60 := (hr 23 rfl).trans h23_59
       have h24_60 := (hr 24 rfl).trans h24_59
       have h64_60 : act60.eval (.tmp 64) = .bool q64 := hv.trans (congrArg Value.bool Bq64.symm)
       have d60 := d60.trans d59
       clear hv hr
       refine Eng.tail_nil ?_
       refine wp_cond_split h64_60 (fun hq => ?_) (fun hq => ?_)
       ·
        have c64 := Bq64.symm.trans hq
        clear hq
        have c64 := of_decide_eq_true c64
        have hin := Tm.mem_of c64
        have htw : Dc.twiceF nd = true := Tm.twice_true (hln.symm ▸ hk0) (Hnk ▸ Tm.dup_two hk2 hks hm0 hkey hhas hlf hin)
        refine wp_seq ?_
        refine Eng.regionS (Eng.still [fun u_ => u_ = .bool true]) (fun _ => .plain) 1 0 67 s60 rfl (by kernel_rfl) (Eng.still_stable _) (Or.inr (Eng.still_any _)) ?_ ?_
        ·refine .cons (fun _ => ?_) (.nil)
         ·exact Eng.plain rfl rfl fun a w' H => Eng.vr rfl (Eng.run_assign rfl (rfl : a.eval (.const (.bool true)) = .bool true))
        intro act62 w62 T
        have h2_62 : act62.eval (.tmp 2) = .bool true := T.done 0 2 rfl rfl
        have d62 := T.defers.trans d60
        have bl62 := bl52'.trans (T.below.mono bl52'.size)
        clear T
        refine Eng.tail_nil ?_
        refine wp_ret ?_
        repeat (first | with_reducible refine Eng.in_ret ?_ | with_reducible refine Eng.then_ret ?_)
        exact Eng.ret1 rfl d62 h2_62 ⟨by rw [htw], bl62⟩
       ·
        have c64 := Bq64.symm.trans hq
        clear hq
        have c64 := of_decide_eq_false c64
        have hn2 := Tm.not_of c64
        refine wp_skip ?_
        refine Eng.regionS (Eng.still [fun u_ => u_ = .int .i64 (IntKind.i64.wrap ((m : Nat) + 1)), fun u_ => u_ = .int .i64 (IntKind.i64.wrap ((m : Nat) + 1))]) (fun _ => .plain) 2 0 67 s60 rfl (by kernel_rfl) (Eng.still_stable _) (Or.inr (Eng.still_any _)) ?_ ?_
        ·refine .cons (fun _ => ?_) (.cons (fun _ => ?_) (.nil))
         ·refine Eng.plain rfl rfl fun a w' H => ?_
          refine Eng.vr (v := .int .i64 (IntKind.i64.wrap ((m : Nat) + 1))) rfl ?_
          have e0 := ((H.kept 24 (by kernel_rfl)).trans h24_60)
          have e1 : a.eval (.const (.int .i64 1)) = .int .i64 1 := (rfl : a.eval (.const (.int .i64 1)) = .int .i64 1)
          simp only [execOp, resolve, List.map_toArray, List.map_cons, List.map_nil, e0, e1]
          go_simp
         ·exact Eng.plain rfl rfl fun a w' H => Eng.vr rfl (Eng.run_move rfl (H.dep 0 65 (by kernel_rfl) rfl))
        intro act64 w64 T
        have h0_64 := (T.rest 0 (by kernel_rfl)).trans h0_60
        have h4_64 := (T.rest 4 (by kernel_rfl)).trans h4_60
        have h5_64 := (T.rest 5 (by kernel_rfl)).trans h5_60
        have h6_64 := (T.rest 6 (by kernel_rfl)).trans h6_60
        have h10_64 := (T.rest 10 (by kernel_rfl)).trans h10_60
        have h11_64 := (T.rest 11 (by kernel_rfl)).trans h11_60
        have h12_64 := (T.rest 12 (by kernel_rfl)).trans h12_60
        have h13_64 := (T.rest 13 (by kernel_rfl)).trans h13_60
        have h18_64 := (T.rest 18 (by kernel_rfl)).trans h18_60
        have h22_64 := (T.rest 22 (by kernel_rfl)).trans h22_60
        have h23_64 := (T.rest 23 (by kernel_rfl)).trans h23_60
        have kg4_9_64 := (T.below.block _ lg4_9_52').trans kg4_9_52'
        have lg4_9_64 := Nat.lt_of_lt_of_le lg4_9_52' T.below.size
        have Oks_64 := Eng.own_below Oks_52' T.below
        have h24_64 : act64.eval (.tmp 24) = .int .i64 (IntKind.i64.wrap ((m : Nat) + 1)) := T.done 1 24 rfl rfl
        have d64 := T.defers.trans d60
        have s64 := T.size.trans s60
        have bl64 := bl52'.trans (T.below.mono bl52'.size)
        have XM1_64 := Tm.Cn.below Y_52' T.below
        have XM2_64 := Tm.Cn.below XS T.below
        clear T
        refine Eng.tail_nil ?_
        exact ⟨_, by omega, m + 1, rfl, by omega, Tm.ok_some hm0 hkey hhas hlf hn1 hn2 hok, Oks_64, (Tm.Cn.mono XM1_64 (by omega)).eqL (Tm.K1_has hm0 hkey hhas), (Tm.Cn.mono XM2_64 (by omega)).eqL (Tm.K2_some hm0 hkey hhas hlf), d64, s64, bl64, h0_64, h4_64, h5_64, h6_64, h10_64, h11_64, h12_64, h13_64, h18_64, h22_64, h23_64, (h24_64.trans (by first | rfl | (congr 1; rw [Eng.i64_id (by omega) (by omega)]; omega) | (simp; done))), kg4_9_64, lg4_9_64⟩
      ·
       have c46 := Bq46.symm.trans hq
       clear hq
       have hlf : Tm.leafB nd key = none := by unfold Tm.leafB; rw [← Hnj, if_neg (by simpa using c46)]
       refine wp_skip ?_
       refine Eng.regionS (Eng.still [fun u_ => u_ = .int .i64 (IntKind.i64.wrap ((m : Nat) + 1)), fun u_ => u_ = .int .i64 (IntKind.i64.wrap ((m : Nat) + 1))]) (fun _ => .plain) 2 0 67 s50 rfl (by kernel_rfl) (Eng.still_stable _) (Or.inr (Eng.still_any _)) ?_ ?_
       ·refine .cons (fun _ => ?_) (.cons (fun _ => ?_) (.nil))
        ·refine Eng.plain rfl rfl fun a w' H => ?_
         refine Eng.vr (v := .int .i64 (IntKind.i64.wrap ((m : Nat) + 1))) rfl ?_
         have e0 := ((H.kept 24 (by kernel_rfl)).trans h24_50)
         have e1 : a.eval (.const (.int .i64 1)) = .int .i64 1 := (rfl : a.eval (.const (.int .i64 1)) = .int .i64 1)
         simp only [execOp, resolve, List.map_toArray, List.map_cons, List.map_nil, e0, e1]
         go_simp
        ·exact Eng.plain rfl rfl fun a w' H => Eng.vr rfl (Eng.run_move rfl (H.dep 0 65 (by kernel_rfl) rfl))
       intro act66 w66 T
       have h0_66 := (T.rest 0 (by kernel_rfl)).trans h0_50
       have h4_66 := (T.rest 4 (by kernel_rfl)).trans h4_50
       have h5_66 := (T.rest 5 (by kernel_rfl)).trans h5_50
       have h6_66 := (T.rest 6 (by kernel_rfl)).trans h6_50
       have h10_66 := (T.rest 10 (by kernel_rfl)).trans h10_50
       have h11_66 := (T.rest 11 (by kernel_rfl)).trans h11_50
       have h12_66 := (T.rest 12 (by kernel_rfl)).trans h12_50
       have h13_66 := (T.rest 13 (by kernel_rfl)).trans h13_50
       have h18_66 := (T.rest 18 (by kernel_rfl)).trans h18_50
       have h22_66 := (T.rest 22 (by kernel_rfl)).trans h22_50
       have h23_66 := (T.rest 23 (by kernel_rfl)).trans h23_50
       have kg4_9_66 := (T.below.block _ lg4_9_50).trans kg4_9_50
       have lg4_9_66 := Nat.lt_of_lt_of_le lg4_9_50 T.below.size
       have Oks_66 := Eng.own_below Oks_50 T.below
       have h24_66 : act66.eval (.tmp 24) = .int .i64 (IntKind.i64.wrap ((m : Nat) + 1)) := T.done 1 24 rfl rfl
       have d66 := T.defers.trans d50
       have s66 := T.size.trans s50
       have bl66 := bl50.trans (T.below.mono bl50.size)
       have XM1_66 := Tm.Cn.below XM1_50 T.below
       have XM2_66 := Tm.Cn.below XM2_50 T.below
       clear T
       refine Eng.tail_nil ?_
       exact ⟨_, by omega, m + 1, rfl, by omega, Tm.ok_none hm0 hkey hhas hlf hn1 hok, Oks_66, (Tm.Cn.mono XM1_66 (by omega)).eqL (Tm.K1_has hm0 hkey hhas), (Tm.Cn.mono XM2_66 (by omega)).eqL (Tm.K2_none hm0 hkey hhas hlf), d66, s66, bl66, h0_66, h4_66, h5_66, h6_66, h10_66, h11_66, h12_66, h13_66, h18_66, h22_66, h23_66, (h24_66.trans (by first | rfl | (congr 1; rw [Eng.i64_id (by omega) (by omega)]; omega) | (simp; done))), kg4_9_66, lg4_9_66⟩
   ·
    have c25 := Bq25.symm.trans hq
    clear hq
    have c25 := of_decide_eq_false c25
    have hme : m = ks.length := by omega
    rw [hme] at hok
    have hdup : Dc.dupNode nd (nd.getD k default) = false := Hnk ▸ (Tm.dup_iff hk2 hks).2 hok
    refine wp_exit ?_
    refine Eng.regionS (Eng.still [fun u_ => u_ = .int .i64 (IntKind.i64.wrap ((k : Nat) + 1)), fun u_ => u_ = .int .i64 (IntKind.i64.wrap ((k : Nat) + 1))]) (fun _ => .plain) 2 0 67 s24 rfl (by kernel_rfl) (Eng.still_stable _) (Or.inr (Eng.still_any _)) ?_ ?_
    ·refine .cons (fun _ => ?_) (.cons (fun _ => ?_) (.nil))
     ·refine Eng.plain rfl rfl fun a w' H => ?_
      refine Eng.vr (v := .int .i64 (IntKind.i64.wrap ((k : Nat) + 1))) rfl ?_
      have e0 := ((H.kept 12 (by kernel_rfl)).trans h12_24)
      have e1 : a.eval (.const (.int .i64 1)) = .int .i64 1 := (rfl : a.eval (.const (.int .i64 1)) = .int .i64 1)
      simp only [execOp, resolve, List.map_toArray, List.map_cons, List.map_nil, e0, e1]
      go_simp
     ·exact Eng.plain rfl rfl fun a w' H => Eng.vr rfl (Eng.run_move rfl (H.dep 0 66 (by kernel_rfl) rfl))
    intro act68 w68 T
    have h0_68 := (T.rest 0 (by kernel_rfl)).trans h0_24
    have h10_68 := (T.rest 10 (by kernel_rfl)).trans h10_24
    have h11_68 := (T.rest 11 (by kernel_rfl)).trans h11_24
    have h12_68 : act68.eval (.tmp 12) = .int .i64 (IntKind.i64.wrap ((k : Nat) + 1)) := T.done 1 12 rfl rfl
    have d68 := T.defers.trans d24
    have s68 := T.size.trans s24
    have bl68 := bl24.trans (T.below.mono bl24.size)
    clear T
    refine Eng.tail_nil ?_
    exact ⟨_, by omega, k + 1, rfl, by omega, Tm.none_step hnone hdup, d68, s68, bl68, h0_68, h10_68, h11_68, (h12_68.trans (by first | rfl | (congr 1; rw [Eng.i64_id (by omega) (by omega)]; omega) | (simp; done)))⟩
 ·
  have c13 := Bq13.symm.trans hq
  clear hq
  have c13 := of_decide_eq_false c13
  have hke : k = h.length := by omega
  have htw : Dc.twiceF nd = false := Tm.twice_false (fun j hj => hnone j (by omega))
  refine wp_exit ?_
  refine wp_seq ?_
  refine Eng.regionS (Eng.still [fun u_ => u_ = .bool false]) (fun _ => .plain) 1 0 67 s4 rfl (by kernel_rfl) (Eng.still_stable _) (Or.inr (Eng.still_any _)) ?_ ?_
  ·refine .cons (fun _ => ?_) (.nil)
   ·exact Eng.plain rfl rfl fun a w' H => Eng.vr rfl (Eng.run_assign rfl (rfl : a.eval (.const (.bool false)) = .bool false))
  intro act70 w70 T
  have h2_70 : act70.eval (.tmp 2) = .bool false := T.done 0 2 rfl rfl
  have d70 := T.defers.trans d4
  have bl70 := bl4.trans (T.below.mono bl4.size)
  clear T
  refine Eng.tail_nil ?_
  refine wp_ret ?_
  repeat (first | with_reducible refine Eng.in_ret ?_ | with_reducible refine Eng.then_ret ?_)
  exact Eng.ret1 rfl d70 h2_70 ⟨by rw [htw], bl70⟩
end Go.Proofs.YtgnmjaacnmkgnaaDoor.X
end
section
namespace Go.Proofs.YtgnmjaacnmkgnaaDoor.X
open Go.RowKit Go.Shelf Go.Proofs Go.Maps Impl
set_option linter.unusedVariables false
set_option linter.unusedSimpArgs false
namespace Tm
open Dc Evt
theorem r1_len (l : List UInt8) : (R1 l).length ≤ 5 := by
  unfold R1
  split
  · decide
  · split
    · decide
    · split
      · decide
      · split
        · decide
        · split
          · decide
          · split <;> decide
theorem tagL_len (k : Int) (t s : List UInt8) (p : Bool) : (tagL k t s p).1.length ≤ t.length + 5 := by
  have hn : ∀ q : List UInt8, q.length ≤ 5 → (namedL t q).1.length ≤ t.length + 5 := fun q hq => by
    unfold namedL
    split
    · simp only; omega
    · split
      · simp only; omega
      · simp
  unfold tagL
  split
  · exact hn _ (by decide)
  · split
    · exact hn _ (by decide)
    · split
      · split
        · split
          · have := r1_len s; simp only; omega
          · simp [bStr]
        · split
          · simp only; omega
          · simp
      · simp
theorem tagF_size (x : Ev) : (tagF x).1.size ≤ x.tag.size + 5 := tagL_len x.kind x.tag.data.toList x.text.data.toList x.plain
def Sz (nd : List Nd) : Prop := ∀ n ∈ nd, n.tag.size ≤ 10000 ∧ n.text.size ≤ 10000
theorem Sz.kid {d : Dc} {a : Nat} (h : Sz d.nodes) : Sz (kidF d a).1.nodes := by
  unfold kidF
  split
  · exact h
  · split
    · exact h
    · rename_i o _ _
      intro n hn
      rcases List.mem_or_eq_of_mem_set hn with hn | rfl
      · exact h n hn
      · simp only
        by_cases ho : o.toNat < d.nodes.length
        · have hm : d.nodes.getD o.toNat default ∈ d.nodes := by rw [List.getD_eq_getElem?_getD, List.getElem?_eq_getElem ho]; exact List.getElem_mem ho
          exact h _ hm
        · have e : d.nodes.getD o.toNat default = default := by rw [List.getD_eq_getElem?_getD, List.getElem?_eq_none (by omega)]; rfl
          rw [e]; exact ⟨by decide, by decide⟩
theorem Sz.step {d : Dc} {x : Ev} (h : Sz d.nodes) (h1 : x.tag.size ≤ 2000) (h2 : x.text.size ≤ 2000) : Sz (stepF d x).1.nodes := by
  unfold stepF
  split
  · intro n hn; cases hn
  · split
    · exact h
    · split
      · exact h
      · split
        · show Sz (aliasF d x).1.nodes
          unfold aliasF
          split
          · exact h
          · exact h.kid
        · show Sz (nodeF d x).1.nodes
          unfold nodeF
          split
          · exact h
          · split
            · have hk : Sz (kidF ⟨d.nodes ++ [⟨kindN x.kind, (tagF x).1, x.text, []⟩], d.opn, nameF d x⟩ d.nodes.length).1.nodes := by
                refine Sz.kid fun n hn => ?_
                rcases List.mem_append.1 hn with hn | hn
                · exact h n hn
                · rw [List.mem_singleton.1 hn]
                  have := tagF_size x
                  exact ⟨by simp only; omega, by simp only; omega⟩
              simp only
              split
              · exact hk
              · exact hk
            · exact h
theorem twall (l : List Ev) : ∀ (d : Dc) (k : Nat), Dc.Good d k → Sz d.nodes → k + l.length ≤ 100000 → (∀ x ∈ l, x.tag.size ≤ 2000 ∧ x.text.size ≤ 2000) → TwAll d l := by
  induction l with
  | nil => intro d k _ _ _ _; trivial
  | cons x t ih =>
    intro d k hG hS hl hx
    simp only [List.length_cons] at hl
    refine ⟨fun _ B w h opn names gv ov mb hnd hR => ?_, ih _ (k + 1) (stepF_good hG) (hS.step (hx x (List.mem_cons_self ..)).1 (hx x (List.mem_cons_self ..)).2) (by omega) fun y hy => hx y (List.mem_cons_of_mem _ hy)⟩
    rw [← hnd]
    refine twice_small B mb gv ov h opn names w hR ?_
    rw [hnd]
    intro n hn
    obtain ⟨j, hj, rfl⟩ := List.mem_iff_getElem.1 hn
    have h1 := hG.kd j hj
    rw [List.getD_eq_getElem?_getD, List.getElem?_eq_getElem hj] at h1
    have h2 := hS _ hn
    simp only [Option.getD_some] at h1
    exact ⟨by omega, by omega, by omega⟩
theorem twall0 {l : List Ev} (hl : l.length ≤ 100000) (hx : ∀ x ∈ l, x.tag.size ≤ 2000 ∧ x.text.size ≤ 2000) : TwAll ⟨[], [], []⟩ l := twall l _ 0 (Dc.Good.nil 0) (fun n hn => by cases hn) (by omega) hx
end Tm
end Go.Proofs.YtgnmjaacnmkgnaaDoor.X
end
