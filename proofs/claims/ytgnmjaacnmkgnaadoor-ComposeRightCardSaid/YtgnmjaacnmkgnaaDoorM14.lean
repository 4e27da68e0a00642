/- Words and walks that the row of ComposeRight needs: printed by programs, and plain laws. -/
import Derived.Test.YtgnmjaacnmkgnaaDoorM13
import Derived.Test.YtgnmjaacnmkgnaaDoorM3
import Derived.Test.YtgnmjaacnmkgnaaDoorM11
import Derived.Test.YtgnmjaacnmkgnaaDoorM10
import Derived.Test.YtgnmjaacnmkgnaaDoorM12
namespace Go.Proofs.YtgnmjaacnmkgnaaDoorW.PrintWords
end Go.Proofs.YtgnmjaacnmkgnaaDoorW.PrintWords
namespace Go.Proofs.YtgnmjaacnmkgnaaDoorW.PrintLast
end Go.Proofs.YtgnmjaacnmkgnaaDoorW.PrintLast
namespace Go.Proofs.YtgnmjaacnmkgnaaDoorW.PrintMore
end Go.Proofs.YtgnmjaacnmkgnaaDoorW.PrintMore
section
namespace Go.Proofs.YtgnmjaacnmkgnaaDoor.X
open Go.RowKit Go.Shelf Go.Proofs Go.Proofs.YtgnmjaacnmkgnaaDoorW.PrintWords Go.Proofs.YtgnmjaacnmkgnaaDoorW.PrintLast Go.Proofs.YtgnmjaacnmkgnaaDoorW.PrintMore Go.Proofs.Eng
set_option linter.unusedVariables false
set_option linter.unusedSimpArgs false
attribute [local go_sem] max2_int min2_int max_two min_two
set_option maxHeartbeats 4000000 in
set_option maxRecDepth 100000 in
theorem Dc.twice_small (B mb : Nat) (gv ov : Value) (h : List Dc.NV) (opn : List Int) (names : List (List UInt8 × Int)) (w : World) (hR : Dc.Rep B w h opn names gv ov mb) (hsm : Tm.Small (h.map (·.1))) : Calls Tryd.prog 41 #[gv] w fun e w' => e = .returned (.bool (Dc.twiceF (h.map (·.1)))) ∧ Below w.heap.size w w' := by
 obtain ⟨nd, hnd⟩ : ∃ l, l = h.map (·.1) := ⟨_, rfl⟩
 rw [← hnd] at hsm ⊢
 have hln : nd.length = h.length := by rw [hnd, List.length_map]
 have hm := Reads.len_le (Reads.of_own hR.gr)
 refine enter Tryd.func41 rfl fun A d0 s0 v0 => ?_
 have s0 : A.tmps.size = 67 := s0
 have y0 : A.eval (.tmp 0) = gv := v0 0 (by simp)
 clear v0
 have bl0 : Below w.heap.size w w := Below.refl _ _
 refine wp_seq (rS [.bool false] (fun _ => .plain) 1 0 s0 ?_ ?_)
 ·refine .cons (fun _ => ?_) (.nil)
  ·exact plain rfl rfl fun a w' H => vr rfl (ra (rfl : a.eval (.const (.bool false)) = .bool false))
 intro A w1 T
 have y0 := T.r1 y0
 have Fgr_ := Reads.below (Reads.of_own hR.gr) T.below
 have ⟨d1, s1, bl1⟩ := T.h d0 s0 bl0
 clear T
 refine tail_nil (wp_seq (wp_seq ?_))
 refine rS [gv, .int .i64 ((h.length : Nat) : Int), .int .i64 0] (fun _ => .plain) 3 0 s1 ?_ ?_
 ·refine .cons (fun _ => ?_) (.cons (fun _ => ?_) (.cons (fun _ => ?_) (.nil)))
  ·exact plain rfl rfl fun a w' H => vr rfl (rv ((H.kept 0 (by kernel_rfl)).trans y0))
  ·exact plain rfl rfl fun a w' H => vr (v := .int .i64 ((h.length : Nat) : Int)) rfl (run_len_sl rfl Tryd.underlying48 (H.dep 0 10 (by kernel_rfl) rfl) (Reads.below Fgr_ H.below))
  exact plain rfl rfl fun a w' H => vr rfl (rv (rfl : a.eval (.const (.int .i64 0)) = .int .i64 0))
 intro A w2 T
 have y0 := T.r1 y0
 have y10 := T.u 0 10
 have y11 := T.u 1 11
 have y12 := T.u 2 12
 have ⟨d2, s2, bl2⟩ := T.h d1 s1 bl1
 clear T
 refine tail_nil (wp_block ?_)
 refine loopN (fun n a w' => ∃ (k : Nat), h.length - k = n ∧ (k ≤ h.length) ∧ (∀ j, j < k → Dc.dupNode nd (nd.getD j default) = false) ∧ a.defers = [] ∧ a.tmps.size = 67 ∧ Below w.heap.size w w' ∧ a.eval (.tmp 0) = gv ∧ a.eval (.tmp 10) = gv ∧ a.eval (.tmp 11) = .int .i64 ((h.length : Nat) : Int) ∧ a.eval (.tmp 12) = .int .i64 (k : Nat)) (n0 := h.length - 0) ?_ ?_
 ·exact ⟨0, rfl, by omega, fun j hj => absurd hj (Nat.not_lt_zero _), d2, s2, bl2, y0, y10, y11, (y12.trans (by first | rfl | (congr 1; rw [i64_id (by omega) (by omega)]; omega) | (simp; done)))⟩
 rintro n A w3 ⟨k, rfl, hc0_3, hc1_3, d3, s3, bl3, y0, y10, y11, y12⟩
 have Fgr_ := Reads.below (Reads.of_own hR.gr) bl3
 have hk1 := hc0_3
 have hnone := hc1_3
 refine wp_seq ?_
 obtain ⟨q13, Bq13⟩ := nm (decide ((k : Nat) < ((h.length : Nat) : Int)))
 refine rS [.bool q13] (fun _ => .plain) 1 0 s3 ?_ ?_
 ·refine .cons (fun _ => ?_) (.nil)
  ·exact plain rfl rfl fun a w' H => vr (bb Bq13) (o2 ((H.kept 12 (by kernel_rfl)).trans y12) ((H.kept 11 (by kernel_rfl)).trans y11))
 intro A w4 T
 have ⟨y0, y10, y11, y12⟩ := T.r4 y0 y10 y11 y12
 have Fgr_ := T.f Fgr_
 have y13 := T.u 0 13
 have ⟨d4, s4, bl4⟩ := T.h d3 s3 bl3
 clear T
 refine tail_nil (wp_seq ?_)
 refine wp_cond_split y13 (fun hq => ?_) (fun hq => ?_)
 ·
  have c13 := Bq13.symm.trans hq
  clear hq
  have c13 := of_decide_eq_true c13
  have hk0 : k < h.length := by omega
  have Fk0 := Reads.of_own (hR.ks k hk0)
  have hcell := Dc.cells_at h k hk0
  obtain ⟨nk, Hnk⟩ : ∃ n, n = nd.getD k default := ⟨_, rfl⟩
  have hq1 : (h.getD k default).1 = nk := by rw [Hnk, hnd, Dc.map_getD]
  obtain ⟨kv, hkv⟩ : ∃ v, v = (h.getD k default).2 := ⟨_, rfl⟩
  rw [hq1, ← hkv] at hcell Fk0
  clear hkv hq1
  have hsk := Hnk ▸ hsm.at_ (hln.symm ▸ hk0)
  have Fkj6 := Reads.below Fk0 bl4
  refine wp_skip (wp_seq ?_)
  refine wp_block (wp_seq ?_)
  refine regionT (n := 4) rfl (tail_val (w1 := w4) (v := elemPtr gv (k * 4)) rfl rfl rfl ?_ s4 rfl ?_)
  ·exact run_index_sl rfl Tryd.underlying48 (by kernel_rfl) y10 (y12.trans (congrArg (Value.int _) (show (k : Nat) = ((k : Nat) : Int) from by omega))) Fgr_ (by omega) rfl
  intro A d7 s7 y14 hr
  have ⟨y0, y10, y11, y12, y13⟩ := k5 hr y0 y10 y11 y12 y13
  have d7 := d7.trans d4
  refine tail_val (w1 := w4) (v := .agg #[.int .i64 nk.kind, .string nk.tag, .string nk.text, kv]) rfl rfl rfl ?_ s7 rfl ?_
  ·exact run_load_els [.int .i64 nk.kind, .string nk.tag, .string nk.text, kv] rfl y14 Fgr_ (hcell) rfl Tryd.underlying57 rfl (by kernel_rfl)
  intro A d8 s8 y15 hr
  have ⟨y0, y10, y11, y12, y13⟩ := k5 hr y0 y10 y11 y12 y13
  have d8 := d8.trans d7
  refine tail_ex rfl rfl rfl (alloc_ex (cs := #[.int .i64 0, .string ⟨#[]⟩, .string ⟨#[]⟩, .slice none 0 0]) rfl (by kernel_rfl)) s8 rfl fun v_9 w9 A R d9 s9 y4 hr => ?_
  obtain ⟨g4_9, ev_9, rg_9, lg4_, kg4_, b_9⟩ := R
  have ⟨y0, y10, y11, y12, y13, y15⟩ := k6 hr y0 y10 y11 y12 y13 y15
  have d9 := d9.trans d8
  have og4_9 : w.heap.size ≤ g4_9 := Nat.le_trans bl4.size rg_9
  have Fkj_ := Reads.below Fkj6 b_9
  have bl9 := bl4.trans (b_9.mono bl4.size)
  rw [ev_9] at y4
  refine tail_put [.int .i64 nk.kind, .string nk.tag, .string nk.text, kv] (n := 0) (new := #[.int .i64 nk.kind, .string nk.tag, .string nk.text, kv]) rfl rfl rfl kg4_ rfl ?_ fun w10 S => ?_
  ·have e0 : A.eval (.tmp 4) = .pointer (some ⟨g4_9, 0, none⟩) := y4
   have e1 : A.eval (.tmp 15) = .agg #[.int .i64 nk.kind, .string nk.tag, .string nk.text, kv] := y15
   obtain ⟨A3_, c3_, ev3_⟩ := Reads.shape Fkj_
   subst ev3_
   have z0 := (Eng.cells kg4_ (0)).trans (rfl)
   have f0 := unfrozen kg4_ (0)
   have z1 := (Eng.cells kg4_ (1)).trans (rfl)
   have f1 := unfrozen kg4_ (1)
   have z2 := (Eng.cells kg4_ (2)).trans (rfl)
   have f2 := unfrozen kg4_ (2)
   have z3 := (Eng.cells kg4_ (3)).trans (rfl)
   have f3 := unfrozen kg4_ (3)
   simp only [execOp]
   rw [e0, e1]
   go_simp
   try rfl
  have kg4_9_ := S.new
  have lg4_9_ := Nat.lt_of_lt_of_eq lg4_ S.size.symm
  have bl10 := S.below bl9 og4_9
  have Fkj_ := Reads.below Fk0 bl10
  clear S
  refine tail_nil (wp_seq (wp_seq ?_))
  obtain ⟨q18, Bq18⟩ := nm (!(nk.kind == 2))
  refine rS [.pointer (some ⟨g4_9, 0, none⟩), .int .i64 nk.kind, .bool q18] (fun _ => .plain) 3 0 s9 ?_ ?_
  ·refine .cons (fun _ => ?_) (.cons (fun _ => ?_) (.cons (fun _ => ?_) (.nil)))
   ·exact plain rfl rfl fun a w' H => vr rfl (fb Tryd.underlying57 0 ((H.kept 4 (by kernel_rfl)).trans y4))
   ·exact plain rfl rfl fun a w' H => vr rfl (lb (H.dep 0 16 (by kernel_rfl) rfl) (H.x lg4_9_ kg4_9_))
   exact plain rfl rfl fun a w' H => vr (bb Bq18) (o2z (H.dep 1 17 (by kernel_rfl) rfl) (rfl : a.eval (.const (.int .i64 2)) = .int .i64 2))
  intro A w11 T
  have ⟨y0, y4, y10, y11, y12, y13⟩ := T.r6 y0 y4 y10 y11 y12 y13
  have ⟨kg4_9_, lg4_9_⟩ := T.y kg4_9_ lg4_9_
  have Fkj_ := T.f Fkj_
  have y18 := T.u 2 18
  have ⟨d11, s11, bl11⟩ := T.h d9 s9 bl10
  clear T
  refine tail_nil (wp_cond_split y18 (fun hq => ?_) (fun hq => ?_))
  ·
   have c18 := Bq18.symm.trans hq
   clear hq
   have hdup : Dc.dupNode nd (nd.getD k default) = false := Hnk ▸ Tm.dup_kind (by simpa using c18)
   refine wp_exit (rS [.int .i64 (IntKind.i64.wrap ((k : Nat) + 1)), .int .i64 (IntKind.i64.wrap ((k : Nat) + 1))] (fun _ => .plain) 2 0 s11 ?_ ?_)
   ·refine .cons (fun _ => ?_) (.cons (fun _ => ?_) (.nil))
    ·exact plain rfl rfl fun a w' H => vr (v := .int .i64 (IntKind.i64.wrap ((k : Nat) + 1))) rfl (o2 ((H.kept 12 (by kernel_rfl)).trans y12) (rfl : a.eval (.const (.int .i64 1)) = .int .i64 1))
    exact plain rfl rfl fun a w' H => vr rfl (rv (H.dep 0 66 (by kernel_rfl) rfl))
   intro A w13 T
   have ⟨y0, y10, y11⟩ := T.r3 y0 y10 y11
   have y12 := T.u 1 12
   have ⟨d13, s13, bl13⟩ := T.h d11 s11 bl11
   clear T
   exact tail_nil (⟨_, by omega, k + 1, rfl, by omega, Tm.none_step hnone hdup, d13, s13, bl13, y0, y10, y11, (y12.trans (by first | rfl | (congr 1; rw [i64_id (by omega) (by omega)]; omega) | (simp; done)))⟩)
  have c18 := Bq18.symm.trans hq
  clear hq
  have hk2 : nk.kind = 2 := by simpa using c18
  obtain ⟨ks, hks⟩ : ∃ l, l = Dc.keysL nk.kids := ⟨_, rfl⟩
  have hksl : ks.length ≤ 1000000 := by rw [hks]; exact Nat.le_trans (Tm.keys_len _) hsk.1
  refine wp_skip (wp_seq ?_)
  refine regionT (n := 4) rfl (tail_ex rfl rfl rfl (Tm.made_run w.heap.size bl11.size 3 rfl Tryd.underlying102) s11 rfl fun v_15 w15 A R d15 s15 y19 hr => ?_)
  obtain ⟨mb1, ev_15, rg_15, XM_15, b_15⟩ := R
  have ⟨y0, y4, y10, y11, y12, y13, y18⟩ := k7 hr y0 y4 y10 y11 y12 y13 y18
  have d15 := d15.trans d11
  have kg4_9_ := (b_15.block _ lg4_9_).trans kg4_9_
  have lg4_9_ := Nat.lt_of_lt_of_le lg4_9_ b_15.size
  have Fkj_ := Reads.below Fkj_ b_15
  have bl15 := bl11.trans (b_15.mono bl11.size)
  rw [ev_15] at y19
  refine tail_ex rfl rfl rfl (Tm.made_run w.heap.size bl15.size 105 rfl Tryd.underlying103) s15 rfl fun v_16 w16 A R d16 s16 y20 hr => ?_
  obtain ⟨mb2, ev_16, rg_16, XM_16, b_16⟩ := R
  have ⟨y0, y4, y10, y11, y12, y13, y18, y19⟩ := k8 hr y0 y4 y10 y11 y12 y13 y18 y19
  have d16 := d16.trans d15
  have hne : mb1 ≠ mb2 := Nat.ne_of_lt (Nat.lt_of_lt_of_le (Tm.Cn.lt XM_15) rg_16)
  have kg4_9_ := (b_16.block _ lg4_9_).trans kg4_9_
  have lg4_9_ := Nat.lt_of_lt_of_le lg4_9_ b_16.size
  have Fkj_ := Reads.below Fkj_ b_16
  have XM1_16 := Tm.Cn.below XM_15 b_16
  have bl16 := bl15.trans (b_16.mono bl15.size)
  rw [ev_16] at y20
  refine tail_val rfl rfl rfl (ra y19) s16 rfl fun A d17 s17 y5 hr => ?_
  have ⟨y0, y4, y10, y11, y12, y13, y18, y20⟩ := k8 hr y0 y4 y10 y11 y12 y13 y18 y20
  have d17 := d17.trans d16
  refine tail_val rfl rfl rfl (ra y20) s17 rfl fun A d18 s18 y6 hr => ?_
  have ⟨y0, y4, y5, y10, y11, y12, y13, y18⟩ := k8 hr y0 y4 y5 y10 y11 y12 y13 y18
  have d18 := d18.trans d17
  refine tail_nil (wp_seq ?_)
  refine (wpIn_wide (n := 1)).1 (EngI.regionT (n := 4) rfl ?_)
  refine EngI.tw rfl (run_load_all rfl y4 kg4_9_ Tryd.underlying57 rfl (by kernel_rfl)) s18 d18 fun A d19 s19 y21 hr => ?_
  have ⟨y0, y4, y5, y6, y10, y11, y12, y13, y18⟩ := k9 hr y0 y4 y5 y6 y10 y11 y12 y13 y18
  refine EngI.tail_call EngI.free_wide Tryd.func76 (by kernel_rfl) (by kernel_rfl) rfl rfl rfl rfl #[.agg #[.int .i64 nk.kind, .string nk.tag, .string nk.text, kv]] (m1 y21) s19 rfl (R := fun v w' => w'.ownsRow w16.heap.size 3 1 v (Dc.keysL nk.kids).length (Dc.ints (Dc.keysL nk.kids)) ∧ Below w16.heap.size w16 w') ((Dc.keys_calls kv nk _ Fkj_ hsk.1).mono ?_) fun v_20 w20 A R d20 s20 y22 hr => ?_
  ·rintro e w1 ⟨o, rfl, r⟩; exact ⟨_, rfl, r⟩
  have ⟨y0, y4, y5, y6, y10, y11, y12, y13, y18⟩ := k9 hr y0 y4 y5 y6 y10 y11 y12 y13 y18
  have d20 := d20.trans d19
  obtain ⟨Ok_20, b_20⟩ := R
  have kg4_9_ := (b_20.block _ lg4_9_).trans kg4_9_
  have lg4_9_ := Nat.lt_of_lt_of_le lg4_9_ b_20.size
  have XM1_20 := Tm.Cn.below XM1_16 b_20
  have XM2_20 := Tm.Cn.below XM_16 b_20
  have bl20 := bl16.trans (b_20.mono bl16.size)
  rw [← hks] at Ok_20
  have Oks_20 := own_mono Ok_20 bl16.size
  have Fks_ := Reads.of_own Oks_20
  refine EngI.tw (w1 := w20) (v := .int .i64 ((ks.length : Nat) : Int)) rfl ?_ s20 d20 ?_
  ·exact run_len_sl rfl Tryd.underlying55 y22 Fks_
  intro A d21 s21 y23 hr
  have ⟨y0, y4, y5, y6, y10, y11, y12, y13, y18, y22⟩ := k10 hr y0 y4 y5 y6 y10 y11 y12 y13 y18 y22
  refine EngI.tw rfl (rv (rfl : A.eval (.const (.int .i64 0)) = .int .i64 0)) s21 d21 fun A d22 s22 y24 hr => ?_
  have ⟨y0, y4, y5, y6, y10, y11, y12, y13, y18, y22⟩ := k10 hr y0 y4 y5 y6 y10 y11 y12 y13 y18 y22
  have y23 := k1 hr y23
  refine EngI.tail_nil (wp_block ?_)
  refine loopN (fun n a w' => ∃ (m : Nat), ks.length - m = n ∧ (m ≤ ks.length) ∧ (Tm.Ok nd ks m) ∧ (w'.ownsRow w.heap.size 3 1 v_20 ks.length (Dc.ints ks)) ∧ (Tm.Cn w' w.heap.size mb1 3 m (Tm.K1 nd ks m)) ∧ (Tm.Cn w' w.heap.size mb2 105 (2 * m) (Tm.K2 nd ks m)) ∧ a.defers = [] ∧ a.tmps.size = 67 ∧ Below w.heap.size w w' ∧ a.eval (.tmp 0) = gv ∧ a.eval (.tmp 4) = .pointer (some ⟨g4_9, 0, none⟩) ∧ a.eval (.tmp 5) = .map (some mb1) ∧ a.eval (.tmp 6) = .map (some mb2) ∧ a.eval (.tmp 10) = gv ∧ a.eval (.tmp 11) = .int .i64 ((h.length : Nat) : Int) ∧ a.eval (.tmp 12) = .int .i64 (k : Nat) ∧ a.eval (.tmp 13) = .bool q13 ∧ a.eval (.tmp 18) = .bool q18 ∧ a.eval (.tmp 22) = v_20 ∧ a.eval (.tmp 23) = .int .i64 ((ks.length : Nat) : Int) ∧ a.eval (.tmp 24) = .int .i64 (m : Nat) ∧ w'.heap[g4_9]? = some (.cells (#[.int .i64 nk.kind, .string nk.tag, .string nk.text, kv]) 57 (0, 0)) ∧ g4_9 < w'.heap.size) (n0 := ks.length - 0) ?_ ?_
  ·exact ⟨0, rfl, Nat.zero_le _, Tm.ok_zero, Oks_20, XM1_20, XM2_20, d22, s22, bl20, y0, y4, y5, y6, y10, y11, y12, y13, y18, y22, y23, (y24.trans (by first | rfl | (congr 1; rw [i64_id (by omega) (by omega)]; omega) | (simp; done))), kg4_9_, lg4_9_⟩
  rintro n A w23 ⟨m, rfl, hc0_23, hc1_23, hc2_23, hc3_23, hc4_23, d23, s23, bl23, y0, y4, y5, y6, y10, y11, y12, y13, y18, y22, y23, y24, kg4_9_, lg4_9_⟩
  have Fgr_ := Reads.below (Reads.of_own hR.gr) bl23
  have hm1 := hc0_23
  have hok := hc1_23
  have Fks_ := Reads.of_own hc2_23
  refine wp_seq ?_
  obtain ⟨q25, Bq25⟩ := nm (decide ((m : Nat) < ((ks.length : Nat) : Int)))
  refine rS [.bool q25] (fun _ => .plain) 1 0 s23 ?_ ?_
  ·refine .cons (fun _ => ?_) (.nil)
   ·exact plain rfl rfl fun a w' H => vr (bb Bq25) (o2 ((H.kept 24 (by kernel_rfl)).trans y24) ((H.kept 23 (by kernel_rfl)).trans y23))
  intro A w24 T
  have ⟨y0, y4, y5, y6, y10, y11, y12, y13, y18, y22⟩ := T.r10 y0 y4 y5 y6 y10 y11 y12 y13 y18 y22
  have ⟨y23, y24⟩ := T.r2 y23 y24
  have ⟨kg4_9_, lg4_9_⟩ := T.y kg4_9_ lg4_9_
  have Fgr_ := T.f Fgr_
  have Fks_ := T.f Fks_
  have Oks_24 := T.g hc2_23
  have y25 := T.u 0 25
  have ⟨d24, s24, bl24⟩ := T.h d23 s23 bl23
  have XM1_24 := Tm.Cn.below hc3_23 T.below
  have XM2_24 := Tm.Cn.below hc4_23 T.below
  clear T
  refine tail_nil (wp_seq ?_)
  refine wp_cond_split y25 (fun hq => ?_) (fun hq => ?_)
  ·
   have c25 := Bq25.symm.trans hq
   clear hq
   have c25 := of_decide_eq_true c25
   have hm0 : m < ks.length := by omega
   obtain ⟨key, hkey⟩ : ∃ i, i = ks.getD m 0 := ⟨_, rfl⟩
   refine wp_skip (wp_seq ?_)
   refine wp_block (wp_seq ?_)
   refine rS [elemPtr v_20 (m * 1), .int .i64 key, .int .i64 key] (fun _ => .plain) 3 0 s24 ?_ ?_
   ·refine .cons (fun _ => ?_) (.cons (fun _ => ?_) (.cons (fun _ => ?_) (.nil)))
    ·exact plain rfl rfl fun a w' H => vr (v := elemPtr v_20 (m * 1)) rfl (run_index_sl rfl Tryd.underlying55 (by kernel_rfl) ((H.kept 22 (by kernel_rfl)).trans y22) (((H.kept 24 (by kernel_rfl)).trans y24).trans (congrArg (Value.int _) (show (m : Nat) = ((m : Nat) : Int) from by omega))) (Reads.below Fks_ H.below) (by omega) rfl)
    ·exact plain rfl rfl fun a w' H => vr (v := .int .i64 key) rfl (run_load_el (.int .i64 key) rfl (H.dep 0 26 (by kernel_rfl) rfl) (Reads.below Fks_ H.below) ((by rw [hkey]; exact Dc.ints_get1 ks m (by omega))) (by kernel_rfl))
    exact plain rfl rfl fun a w' H => vr rfl (ra (H.dep 1 27 (by kernel_rfl) rfl))
   intro A w26 T
   have ⟨y0, y4, y5, y6, y10, y11, y12, y13, y18, y22⟩ := T.r10 y0 y4 y5 y6 y10 y11 y12 y13 y18 y22
   have ⟨y23, y24⟩ := T.r2 y23 y24
   have ⟨kg4_9_, lg4_9_⟩ := T.y kg4_9_ lg4_9_
   have Fgr_ := T.f Fgr_
   have Oks_26 := T.g Oks_24
   have y8 := T.u 2 8
   have ⟨d26, s26, bl26⟩ := T.h d24 s24 bl24
   have XM1_26 := Tm.Cn.below XM1_24 T.below
   have XM2_26 := Tm.Cn.below XM2_24 T.below
   clear T
   refine tail_nil (wp_seq (wp_seq ?_))
   obtain ⟨q30, Bq30⟩ := nm (decide (key ≥ 0) && decide (key < (h.length : Int)))
   obtain ⟨q31, Bq31⟩ := nm (!q30)
   refine rS [gv, .int .i64 key, .bool q30, .bool q31] (fun _ => .plain) 4 0 s26 ?_ ?_
   ·refine .cons (fun _ => ?_) (.cons (fun _ => ?_) (.cons (fun _ => ?_) (.cons (fun _ => ?_) (.nil))))
    ·exact plain rfl rfl fun a w' H => vr rfl (rv ((H.kept 0 (by kernel_rfl)).trans y0))
    ·exact plain rfl rfl fun a w' H => vr rfl (rv ((H.kept 8 (by kernel_rfl)).trans y8))
    ·refine plain rfl rfl fun a w' H => call Tryd.func73 (by kernel_rfl) (by kernel_rfl) rfl #[gv, .int .i64 key] ?_ ?_
     ·have e0 : a.eval (.tmp 28) = gv := (H.dep 0 28 (by kernel_rfl) rfl); have e1 : a.eval (.tmp 29) = .int .i64 key := (H.dep 1 29 (by kernel_rfl) rfl); simp only [List.map_toArray, List.map_cons, List.map_nil, e0, e1]
     refine (Dc.has_calls gv h.length _ key _ (Reads.below Fgr_ H.below)).mono ?_
     rintro e w'' ⟨rfl, hb⟩
     exact ⟨_, rfl, (by show _ = Value.bool q30; rw [Bq30]), hb⟩
    exact plain rfl rfl fun a w' H => vr (bb Bq31) (run_not rfl (H.dep 2 30 (by kernel_rfl) rfl))
   intro A w27 T
   have ⟨y0, y4, y5, y6, y8, y10, y11, y12, y13, y18⟩ := T.r10 y0 y4 y5 y6 y8 y10 y11 y12 y13 y18
   have ⟨y22, y23, y24⟩ := T.r3 y22 y23 y24
   have ⟨kg4_9_, lg4_9_⟩ := T.y kg4_9_ lg4_9_
   have Oks_27 := T.g Oks_26
   have y31 := T.u 3 31
   have ⟨d27, s27, bl27⟩ := T.h d26 s26 bl26
   have XM1_27 := Tm.Cn.below XM1_26 T.below
   have XM2_27 := Tm.Cn.below XM2_26 T.below
   clear T
   refine tail_nil (wp_cond_split y31 (fun hq => ?_) (fun hq => ?_))
   ·
    have c31 := Bq31.symm.trans hq
    clear hq
    have hh := c31
    simp only [Bq31, Bq30, Bq25, Bq18, Bq13] at hh
    have hhas : Dc.hasI nd key = false := by unfold Dc.hasI; rw [hln]; exact (Bool.not_eq_true' _).mp hh
    refine wp_exit (rS [.int .i64 (IntKind.i64.wrap ((m : Nat) + 1)), .int .i64 (IntKind.i64.wrap ((m : Nat) + 1))] (fun _ => .plain) 2 0 s27 ?_ ?_)
    ·refine .cons (fun _ => ?_) (.cons (fun _ => ?_) (.nil))
     ·exact plain rfl rfl fun a w' H => vr (v := .int .i64 (IntKind.i64.wrap ((m : Nat) + 1))) rfl (o2 ((H.kept 24 (by kernel_rfl)).trans y24) (rfl : a.eval (.const (.int .i64 1)) = .int .i64 1))
     exact plain rfl rfl fun a w' H => vr rfl (rv (H.dep 0 65 (by kernel_rfl) rfl))
    intro A w29 T
    have ⟨y0, y4, y5, y6, y10, y11, y12, y13, y18, y22⟩ := T.r10 y0 y4 y5 y6 y10 y11 y12 y13 y18 y22
    have y23 := T.r1 y23
    have ⟨kg4_9_, lg4_9_⟩ := T.y kg4_9_ lg4_9_
    have Oks_29 := T.g Oks_27
    have y24 := T.u 1 24
    have ⟨d29, s29, bl29⟩ := T.h d27 s27 bl27
    have XM1_29 := Tm.Cn.below XM1_27 T.below
    have XM2_29 := Tm.Cn.below XM2_27 T.below
    clear T
    exact tail_nil (⟨_, by omega, m + 1, rfl, by omega, Tm.ok_not hm0 hkey hhas hok, Oks_29, (Tm.Cn.mono XM1_29 (by omega)).eqL (Tm.K1_not hm0 hkey hhas), (Tm.Cn.mono XM2_29 (by omega)).eqL (Tm.K2_not hm0 hkey hhas), d29, s29, bl29, y0, y4, y5, y6, y10, y11, y12, y13, y18, y22, y23, (y24.trans (by first | rfl | (congr 1; rw [i64_id (by omega) (by omega)]; omega) | (simp; done))), kg4_9_, lg4_9_⟩)
   have c31 := Bq31.symm.trans hq
   clear hq
   have hh := c31
   simp only [Bq31, Bq30, Bq25, Bq18, Bq13] at hh
   have hhas : Dc.hasI nd key = true := by unfold Dc.hasI; rw [hln]; simpa using hh
   have hj2 : 0 ≤ key ∧ key < (h.length : Int) := by simpa using hh
   have hj0 := hj2.1
   have hj1 : key.toNat < h.length := by omega
   have hkl1 : keyOf Tryd.prog 3 (.int .i64 key) = some (.int .i64 key) := Maps.keyOf_int_mk Tryd.underlying3 (by have h_ := Dc.wf_nat (n := key.toNat) (by omega); rw [Int.toNat_of_nonneg hj0] at h_; exact h_)
   have hL1 := Tm.K1_len (nd := nd) (ks := ks) (m := m)
   have hL2 := Tm.K2_len (nd := nd) (ks := ks) (m := m)
   have Fj0 := Reads.of_own (hR.ks key.toNat hj1)
   have hcell2 := Dc.cells_at h key.toNat hj1
   obtain ⟨nj, Hnj⟩ : ∃ n, n = nd.getD key.toNat default := ⟨_, rfl⟩
   have hq1 : (h.getD key.toNat default).1 = nj := by rw [Hnj, hnd, Dc.map_getD]
   obtain ⟨jv, hjv⟩ : ∃ v, v = (h.getD key.toNat default).2 := ⟨_, rfl⟩
   rw [hq1, ← hjv] at hcell2 Fj0
   clear hjv hq1
   have hsj := Hnj ▸ hsm.at_ (hln.symm ▸ hj1)
   have Fjj31 := Reads.below Fj0 bl27
   refine wp_skip (wp_seq (wp_seq ?_))
   refine regionT (n := 5) rfl (tail_val rfl rfl rfl (rv y5) s27 rfl fun A d32 s32 y32 hr => ?_)
   have ⟨y0, y4, y5, y6, y8, y10, y11, y12, y13, y18⟩ := k10 hr y0 y4 y5 y6 y8 y10 y11 y12 y13 y18
   have ⟨y22, y23, y24⟩ := k3 hr y22 y23 y24
   have d32 := d32.trans d27
   refine tail_val rfl rfl rfl (rv y8) s32 rfl fun A d33 s33 y33 hr => ?_
   have ⟨y0, y4, y5, y6, y8, y10, y11, y12, y13, y18⟩ := k10 hr y0 y4 y5 y6 y8 y10 y11 y12 y13 y18
   have ⟨y22, y23, y24, y32⟩ := k4 hr y22 y23 y24 y32
   have d33 := d33.trans d32
   refine tail_val rfl rfl rfl (run_look0 rfl y32 y33 (Tm.Cn.look XM1_27 Tm.key_int Tryd.underlying102 hkl1)) s33 rfl fun A d34 s34 y34 hr => ?_
   have ⟨y0, y4, y5, y6, y8, y10, y11, y12, y13, y18⟩ := k10 hr y0 y4 y5 y6 y8 y10 y11 y12 y13 y18
   have ⟨y22, y23, y24, y32, y33⟩ := k5 hr y22 y23 y24 y32 y33
   have d34 := d34.trans d33
   refine tail_val rfl rfl rfl (run_inc rfl y34 Tryd.underlying3 (Tm.cnt_bd _ _).1 (by have := (Tm.cnt_bd (.int .i64 key) (Tm.K1 nd ks m)).2; omega)) s34 rfl fun A d35 s35 y35 hr => ?_
   have ⟨y0, y4, y5, y6, y8, y10, y11, y12, y13, y18⟩ := k10 hr y0 y4 y5 y6 y8 y10 y11 y12 y13 y18
   have ⟨y22, y23, y24, y32, y33⟩ := k5 hr y22 y23 y24 y32 y33
   have d35 := d35.trans d34
   obtain ⟨w36, rn_36, XM_36, G_36⟩ := Tm.Cn.put XM1_27 Tm.key_int Tryd.underlying102 hkl1 (by unfold maxLen; omega) (by omega)
   refine tail_skip rfl rfl rfl (run_upd rfl y32 y33 y35 rn_36) ?_
   have kg4_9_ := (G_36.block _ lg4_9_ (fun e => Tm.Cn.ne XM1_27 kg4_9_ (Option.some.inj e))).trans kg4_9_
   have lg4_9_ := Nat.lt_of_lt_of_le lg4_9_ G_36.size
   have bl36 := bl27.grown G_36 bl27.size (fun j hj => by injection hj with hj; subst hj; exact Tm.Cn.lo XM1_27)
   have Y_36 := Tm.Cn.grown XM2_27 G_36 hne.symm
   have Fgr_ := Reads.below (Reads.of_own hR.gr) bl36
   have Oks_36 := Tm.Cn.own_kept XM1_27 Oks_27 G_36
   have Fjj_ := Reads.below Fj0 bl36
   refine tail_nil (wp_seq ?_)
   refine regionT (n := 4) rfl (tail_val rfl rfl rfl (rv y5) s35 rfl fun A d37 s37 y36 hr => ?_)
   have ⟨y0, y4, y5, y6, y8, y10, y11, y12, y13, y18⟩ := k10 hr y0 y4 y5 y6 y8 y10 y11 y12 y13 y18
   have ⟨y22, y23, y24⟩ := k3 hr y22 y23 y24
   have d37 := d37.trans d35
   refine tail_val rfl rfl rfl (rv y8) s37 rfl fun A d38 s38 y37 hr => ?_
   have ⟨y0, y4, y5, y6, y8, y10, y11, y12, y13, y18⟩ := k10 hr y0 y4 y5 y6 y8 y10 y11 y12 y13 y18
   have ⟨y22, y23, y24, y36⟩ := k4 hr y22 y23 y24 y36
   have d38 := d38.trans d37
   refine tail_val rfl rfl rfl (run_look0 rfl y36 y37 (Tm.Cn.look XM_36 Tm.key_int Tryd.underlying102 hkl1)) s38 rfl fun A d39 s39 y38 hr => ?_
   have ⟨y0, y4, y5, y6, y8, y10, y11, y12, y13, y18⟩ := k10 hr y0 y4 y5 y6 y8 y10 y11 y12 y13 y18
   have ⟨y22, y23, y24⟩ := k3 hr y22 y23 y24
   have d39 := d39.trans d38
   obtain ⟨q39, Bq39⟩ := nm (decide ((Tm.cnt (.int .i64 key :: (Tm.K1 nd ks m)) (.int .i64 key)) > 1))
   refine tail_val (w1 := w36) (v := .bool (decide ((Tm.cnt (.int .i64 key :: (Tm.K1 nd ks m)) (.int .i64 key)) > 1))) rfl rfl rfl (o2 y38 (rfl : A.eval (.const (.int .i64 1)) = .int .i64 1)) s39 rfl ?_
   intro A d40 s40 hv hr
   have ⟨y0, y4, y5, y6, y8, y10, y11, y12, y13, y18⟩ := k10 hr y0 y4 y5 y6 y8 y10 y11 y12 y13 y18
   have ⟨y22, y23, y24⟩ := k3 hr y22 y23 y24
   have y39 : A.eval (.tmp 39) = .bool q39 := hv.trans (congrArg Value.bool Bq39.symm)
   have d40 := d40.trans d39
   clear hv hr
   refine tail_nil (wp_cond_split y39 (fun hq => ?_) (fun hq => ?_))
   ·
    have c39 := Bq39.symm.trans hq
    clear hq
    have c39 := of_decide_eq_true c39
    have hlf := Tm.mem_of c39
    have htw : Dc.twiceF nd = true := Tm.twice_true (hln.symm ▸ hk0) (Hnk ▸ Tm.dup_one hk2 hks hm0 hkey hhas hlf)
    refine wp_seq (rS [.bool true] (fun _ => .plain) 1 0 s40 ?_ ?_)
    ·refine .cons (fun _ => ?_) (.nil)
     ·exact plain rfl rfl fun a w' H => vr rfl (ra (rfl : a.eval (.const (.bool true)) = .bool true))
    intro A w42 T
    have y2 := T.u 0 2
    have d42 := T.e d40
    have bl42 := T.b bl36
    clear T
    refine tail_nil (wp_ret ?_)
    repeat (first | with_reducible refine in_ret ?_ | with_reducible refine then_ret ?_)
    exact ret1 rfl d42 y2 ⟨by rw [htw], bl42⟩
   have c39 := Bq39.symm.trans hq
   clear hq
   have c39 := of_decide_eq_false c39
   have hn1 := Tm.not_of c39
   refine wp_skip (wp_seq ?_)
   refine regionT (n := 6) rfl (tail_val rfl rfl rfl (rv y0) s40 rfl fun A d44 s44 y40 hr => ?_)
   have ⟨y0, y4, y5, y6, y8, y10, y11, y12, y13, y18⟩ := k10 hr y0 y4 y5 y6 y8 y10 y11 y12 y13 y18
   have ⟨y22, y23, y24⟩ := k3 hr y22 y23 y24
   have d44 := d44.trans d40
   refine tail_val rfl rfl rfl (rv y8) s44 rfl fun A d45 s45 y41 hr => ?_
   have ⟨y0, y4, y5, y6, y10, y11, y12, y13, y18, y22⟩ := k10 hr y0 y4 y5 y6 y10 y11 y12 y13 y18 y22
   have ⟨y23, y24, y40⟩ := k3 hr y23 y24 y40
   have d45 := d45.trans d44
   refine tail_val (w1 := w36) (v := elemPtr gv (key.toNat * 4)) rfl rfl rfl ?_ s45 rfl ?_
   ·exact run_index_sl rfl Tryd.underlying48 (by kernel_rfl) y40 (y41.trans (congrArg (Value.int _) (show key = ((key.toNat : Nat) : Int) from by omega))) Fgr_ (by omega) rfl
   intro A d46 s46 y42 hr
   have ⟨y0, y4, y5, y6, y10, y11, y12, y13, y18, y22⟩ := k10 hr y0 y4 y5 y6 y10 y11 y12 y13 y18 y22
   have ⟨y23, y24⟩ := k2 hr y23 y24
   have d46 := d46.trans d45
   refine tail_val (w1 := w36) (v := .agg #[.int .i64 nj.kind, .string nj.tag, .string nj.text, jv]) rfl rfl rfl ?_ s46 rfl ?_
   ·exact run_load_els [.int .i64 nj.kind, .string nj.tag, .string nj.text, jv] rfl y42 Fgr_ (hcell2) rfl Tryd.underlying57 rfl (by kernel_rfl)
   intro A d47 s47 y43 hr
   have ⟨y0, y4, y5, y6, y10, y11, y12, y13, y18, y22⟩ := k10 hr y0 y4 y5 y6 y10 y11 y12 y13 y18 y22
   have ⟨y23, y24⟩ := k2 hr y23 y24
   have d47 := d47.trans d46
   refine tail_ex rfl rfl rfl (alloc_ex (cs := #[.int .i64 0, .string ⟨#[]⟩, .string ⟨#[]⟩, .slice none 0 0]) rfl (by kernel_rfl)) s47 rfl fun v_48 w48 A R d48 s48 y9 hr => ?_
   obtain ⟨g9_48, ev_48, rg_48, lg9_, kg9_, b_48⟩ := R
   have ⟨y0, y4, y5, y6, y10, y11, y12, y13, y18, y22⟩ := k10 hr y0 y4 y5 y6 y10 y11 y12 y13 y18 y22
   have ⟨y23, y24, y43⟩ := k3 hr y23 y24 y43
   have d48 := d48.trans d47
   have ne_g9_48_g4_9 : g4_9 ≠ g9_48 := fun e => Nat.lt_irrefl _ (Nat.lt_of_lt_of_le (e ▸ lg4_9_) rg_48)
   have og9_48 : w.heap.size ≤ g9_48 := Nat.le_trans bl36.size rg_48
   have kg4_9_ := (b_48.block _ lg4_9_).trans kg4_9_
   have lg4_9_ := Nat.lt_of_lt_of_le lg4_9_ b_48.size
   have Oks_48 := own_below Oks_36 b_48
   have Fjj_ := Reads.below Fjj_ b_48
   have XM1_48 := Tm.Cn.below XM_36 b_48
   have XM2_48 := Tm.Cn.below Y_36 b_48
   have bl48 := bl36.trans (b_48.mono bl36.size)
   rw [ev_48] at y9
   refine tail_put [.int .i64 nj.kind, .string nj.tag, .string nj.text, jv] (n := 0) (new := #[.int .i64 nj.kind, .string nj.tag, .string nj.text, jv]) rfl rfl rfl kg9_ rfl ?_ fun w49 S => ?_
   ·have e0 : A.eval (.tmp 9) = .pointer (some ⟨g9_48, 0, none⟩) := y9
    have e1 : A.eval (.tmp 43) = .agg #[.int .i64 nj.kind, .string nj.tag, .string nj.text, jv] := y43
    obtain ⟨A3_, c3_, ev3_⟩ := Reads.shape Fjj_
    subst ev3_
    have z0 := (Eng.cells kg9_ (0)).trans (rfl)
    have f0 := unfrozen kg9_ (0)
    have z1 := (Eng.cells kg9_ (1)).trans (rfl)
    have f1 := unfrozen kg9_ (1)
    have z2 := (Eng.cells kg9_ (2)).trans (rfl)
    have f2 := unfrozen kg9_ (2)
    have z3 := (Eng.cells kg9_ (3)).trans (rfl)
    have f3 := unfrozen kg9_ (3)
    simp only [execOp]
    rw [e0, e1]
    go_simp
    try rfl
   have kg4_9_ := (S.far _ ne_g9_48_g4_9).trans kg4_9_
   have lg4_9_ := Nat.lt_of_lt_of_eq lg4_9_ S.size.symm
   have kg9_48_ := S.new
   have lg9_48_ := Nat.lt_of_lt_of_eq lg9_ S.size.symm
   have bl49 := S.below bl48 og9_48
   have Oks_49 := own_sets Oks_48 S kg9_ rfl
   have XM1_49 := Tm.Cn.sets XM1_48 S kg9_
   have XM2_49 := Tm.Cn.sets XM2_48 S kg9_
   clear S
   refine tail_nil (wp_seq ?_)
   obtain ⟨q46, Bq46⟩ := nm (nj.kind == 0)
   refine rS [.pointer (some ⟨g9_48, 0, none⟩), .int .i64 nj.kind, .bool q46] (fun _ => .plain) 3 0 s48 ?_ ?_
   ·refine .cons (fun _ => ?_) (.cons (fun _ => ?_) (.cons (fun _ => ?_) (.nil)))
    ·exact plain rfl rfl fun a w' H => vr rfl (fb Tryd.underlying57 0 ((H.kept 9 (by kernel_rfl)).trans y9))
    ·exact plain rfl rfl fun a w' H => vr rfl (lb (H.dep 0 44 (by kernel_rfl) rfl) (H.x lg9_48_ kg9_48_))
    exact plain rfl rfl fun a w' H => vr (bb Bq46) (o2 (H.dep 1 45 (by kernel_rfl) rfl) (rfl : a.eval (.const (.int .i64 0)) = .int .i64 0))
   intro A w50 T
   have ⟨y0, y4, y5, y6, y9, y10, y11, y12, y13, y18⟩ := T.r10 y0 y4 y5 y6 y9 y10 y11 y12 y13 y18
   have ⟨y22, y23, y24⟩ := T.r3 y22 y23 y24
   have ⟨kg4_9_, lg4_9_⟩ := T.y kg4_9_ lg4_9_
   have ⟨kg9_48_, lg9_48_⟩ := T.y kg9_48_ lg9_48_
   have Oks_50 := T.g Oks_49
   have y46 := T.u 2 46
   have ⟨d50, s50, bl50⟩ := T.h d48 s48 bl49
   have XM1_50 := Tm.Cn.below XM1_49 T.below
   have XM2_50 := Tm.Cn.below XM2_49 T.below
   clear T
   refine tail_nil (wp_cond_split y46 (fun hq => ?_) (fun hq => ?_))
   ·
    have c46 := Bq46.symm.trans hq
    clear hq
    have hlf : Tm.leafB nd key = some (nj.tag, nj.text) := by unfold Tm.leafB; rw [← Hnj, if_pos (by simpa using c46)]
    obtain ⟨kl2, hkl2⟩ := Tm.keyOf_leaf (t := nj.tag) (x := nj.text) (by unfold maxLen; have := hsj.2.1; omega) (by unfold maxLen; have := hsj.2.2; omega)
    refine wp_seq ?_
    have XD_52 := Tm.Cn.drew (d := w50.drawn + 1) XM2_50
    obtain ⟨v0, stp, wa, wb, eE, gE, XE, eS, XS, gS⟩ := Tm.Cn.entry XD_52 Tm.law_leaf Tryd.underlying103 hkl2 (by unfold maxLen; omega) (by omega)
    have kk : ∀ u, (u = { w50 with drawn := w50.drawn + 1 } ∨ u = wa) → u.heap[g9_48]? = some (.cells (#[.int .i64 nj.kind, .string nj.tag, .string nj.text, jv]) 57 (0, 0)) := by
     rintro u (rfl | rfl)
     ·exact kg9_48_
     ·exact (gE.block _ lg9_48_ (fun e => Tm.Cn.ne XM2_50 kg9_48_ (Option.some.inj e))).trans kg9_48_
    have lk : ∀ u, (u = { w50 with drawn := w50.drawn + 1 } ∨ u = wa) → (Instr.lookup 103 (.map (some mb2)) (.agg #[.string nj.tag, .string nj.text]) false).run Tryd.prog u = .ok (.int .i64 (Tm.cnt (Tm.K2 nd ks m) (.agg #[.string nj.tag, .string nj.text]))) u := by
     rintro u (rfl | rfl)
     ·exact Tm.Cn.look XD_52 Tm.key_leaf Tryd.underlying103 hkl2
     ·exact Tm.Cn.look XE Tm.key_leaf Tryd.underlying103 hkl2
    refine regionX [fun u_ => u_ = .map (some mb2), fun u_ => u_ = .pointer (some ⟨g9_48, 1, none⟩), fun u_ => u_ = .string nj.tag, fun u_ => u_ = .pointer (some ⟨g9_48, 2, none⟩), fun u_ => u_ = .string nj.text, fun u_ => u_ = .agg #[.string nj.tag, .string nj.text], fun u_ => u_ = .int .i64 (Tm.cnt (Tm.K2 nd ks m) (.agg #[.string nj.tag, .string nj.text])), fun u_ => u_ = .int .i64 (Tm.cnt (Tm.K2 nd ks m) (.agg #[.string nj.tag, .string nj.text]) + 1), fun u_ => u_ = .tuple #[v0, goInt stp], fun u_ => u_ = goInt stp] 8 10 1 67 (by kernel_rfl) s50 rfl (by kernel_rfl) rfl wa ?_ ?_
    ·refine .cons (fun _ => ?_) (.cons (fun _ => ?_) (.cons (fun _ => ?_) (.cons (fun _ => ?_) (.cons (fun _ => ?_) (.cons (fun _ => ?_) (.cons (fun _ => ?_) (.cons (fun _ => ?_) (.cons (fun _ => ?_) (.cons (fun _ => ?_) (.cons (fun h => absurd h (by decide)) (.nil)))))))))))
     ·exact zval rfl rfl fun a u H => ⟨.map (some mb2), rv ((H.kept 6 (by kernel_rfl)).trans y6), rfl⟩
     ·exact zval rfl rfl fun a u H => ⟨.pointer (some ⟨g9_48, 1, none⟩), run_fieldb rfl Tryd.underlying57 1 (by kernel_rfl) ((H.kept 9 (by kernel_rfl)).trans y9), rfl⟩
     ·exact zval rfl rfl fun a u H => ⟨.string nj.tag, run_loadb rfl (H.dep 1 48 (by kernel_rfl) rfl) (kk u H.or) rfl (by kernel_rfl), rfl⟩
     ·exact zval rfl rfl fun a u H => ⟨.pointer (some ⟨g9_48, 2, none⟩), run_fieldb rfl Tryd.underlying57 2 (by kernel_rfl) ((H.kept 9 (by kernel_rfl)).trans y9), rfl⟩
     ·exact zval rfl rfl fun a u H => ⟨.string nj.text, run_loadb rfl (H.dep 3 50 (by kernel_rfl) rfl) (kk u H.or) rfl (by kernel_rfl), rfl⟩
     ·exact zval rfl rfl fun a u H => ⟨.agg #[.string nj.tag, .string nj.text], Tm.run_leaf rfl (H.dep 2 49 (by kernel_rfl) rfl) (H.dep 4 51 (by kernel_rfl) rfl), rfl⟩
     ·exact zval rfl rfl fun a u H => ⟨.int .i64 (Tm.cnt (Tm.K2 nd ks m) (.agg #[.string nj.tag, .string nj.text])), run_look0 rfl (H.dep 0 47 (by kernel_rfl) rfl) (H.dep 5 52 (by kernel_rfl) rfl) (lk u H.or), rfl⟩
     ·exact zval rfl rfl fun a u H => ⟨.int .i64 (Tm.cnt (Tm.K2 nd ks m) (.agg #[.string nj.tag, .string nj.text]) + 1), run_inc rfl (H.dep 6 53 (by kernel_rfl) rfl) Tryd.underlying3 (Tm.cnt_bd _ _).1 (by have := (Tm.cnt_bd (.agg #[.string nj.tag, .string nj.text]) (Tm.K2 nd ks m)).2; omega), rfl⟩
     ·exact zturn rfl fun a H => ⟨_, run_entry rfl (H.dep 0 47 (by kernel_rfl) rfl) (H.dep 5 52 (by kernel_rfl) rfl) eE, rfl⟩
     exact zval rfl rfl fun a u H => ⟨goInt stp, run_ext1 rfl (H.dep 8 55 (by kernel_rfl) rfl), rfl⟩
    intro A d52 s52 T hr
    have y0 := (hr 0 (by kernel_rfl)).trans y0
    have y4 := (hr 4 (by kernel_rfl)).trans y4
    have y5 := (hr 5 (by kernel_rfl)).trans y5
    have y6 := (hr 6 (by kernel_rfl)).trans y6
    have y9 := (hr 9 (by kernel_rfl)).trans y9
    have y10 := (hr 10 (by kernel_rfl)).trans y10
    have y11 := (hr 11 (by kernel_rfl)).trans y11
    have y12 := (hr 12 (by kernel_rfl)).trans y12
    have y13 := (hr 13 (by kernel_rfl)).trans y13
    have y18 := (hr 18 (by kernel_rfl)).trans y18
    have y22 := (hr 22 (by kernel_rfl)).trans y22
    have y23 := (hr 23 (by kernel_rfl)).trans y23
    have y24 := (hr 24 (by kernel_rfl)).trans y24
    have d52 := d52.trans d50
    have y47 : A.eval (.tmp 47) = .map (some mb2) := T 0 47 rfl rfl
    have y56 : A.eval (.tmp 56) = goInt stp := T 9 56 rfl rfl
    have y54 : A.eval (.tmp 54) = .int .i64 (Tm.cnt (Tm.K2 nd ks m) (.agg #[.string nj.tag, .string nj.text]) + 1) := T 7 54 rfl rfl
    clear T hr
    refine tail_skip rfl rfl rfl (run_estore rfl y47 y56 y54 eS) ?_
    have blD := bl50.trans ((⟨rfl, rfl, rfl, Nat.le_refl _, fun _ _ => rfl⟩ : Below w50.heap.size w50 ({ w50 with drawn := w50.drawn + 1 } : World)).mono bl50.size)
    have YD_52 := Tm.Cn.drew (d := w50.drawn + 1) XM1_50
    have ODks_52 := Tm.own_drew (d := w50.drawn + 1) Oks_50
    have kg4_9_ := (gE.block _ lg4_9_ (fun e => Tm.Cn.ne XD_52 kg4_9_ (Option.some.inj e))).trans kg4_9_
    have lg4_9_ := Nat.lt_of_lt_of_le lg4_9_ gE.size
    have kg4_9_' := (gS.block _ lg4_9_ (fun e => Tm.Cn.ne XE kg4_9_ (Option.some.inj e))).trans kg4_9_
    have lg4_9_' := Nat.lt_of_lt_of_le lg4_9_ gS.size
    have kg9_48_ := (gE.block _ lg9_48_ (fun e => Tm.Cn.ne XD_52 kg9_48_ (Option.some.inj e))).trans kg9_48_
    have lg9_48_ := Nat.lt_of_lt_of_le lg9_48_ gE.size
    have kg9_48_' := (gS.block _ lg9_48_ (fun e => Tm.Cn.ne XE kg9_48_ (Option.some.inj e))).trans kg9_48_
    have lg9_48_' := Nat.lt_of_lt_of_le lg9_48_ gS.size
    have bl52 := blD.grown gE blD.size (fun j hj => by injection hj with hj; subst hj; exact Tm.Cn.lo XD_52)
    have bl52' := bl52.grown gS bl52.size (fun j hj => by injection hj with hj; subst hj; exact Tm.Cn.lo XE)
    have Y_52 := Tm.Cn.grown YD_52 gE hne
    have Y_52' := Tm.Cn.grown Y_52 gS hne
    have Oks_52 := Tm.Cn.own_kept XD_52 ODks_52 gE
    have Oks_52' := Tm.Cn.own_kept XE Oks_52 gS
    refine tail_nil (wp_seq ?_)
    refine regionT (n := 8) rfl (tail_val rfl rfl rfl (rv y6) s52 rfl fun A d53 s53 y57 hr => ?_)
    have ⟨y0, y4, y5, y6, y9, y10, y11, y12, y13, y18⟩ := k10 hr y0 y4 y5 y6 y9 y10 y11 y12 y13 y18
    have ⟨y22, y23, y24⟩ := k3 hr y22 y23 y24
    have d53 := d53.trans d52
    refine tail_val (w1 := wb) (v := .pointer (some ⟨g9_48, 1, none⟩)) rfl rfl rfl ?_ s53 rfl ?_
    ·exact fb Tryd.underlying57 1 y9
    intro A d54 s54 y58 hr
    have ⟨y0, y4, y5, y6, y9, y10, y11, y12, y13, y18⟩ := k10 hr y0 y4 y5 y6 y9 y10 y11 y12 y13 y18
    have ⟨y22, y23, y24, y57⟩ := k4 hr y22 y23 y24 y57
    have d54 := d54.trans d53
    refine tail_val (w1 := wb) (v := .string nj.tag) rfl rfl rfl ?_ s54 rfl ?_
    ·exact lb y58 (((Below.refl _ _).block _ lg9_48_').trans kg9_48_')
    intro A d55 s55 y59 hr
    have ⟨y0, y4, y5, y6, y9, y10, y11, y12, y13, y18⟩ := k10 hr y0 y4 y5 y6 y9 y10 y11 y12 y13 y18
    have ⟨y22, y23, y24, y57⟩ := k4 hr y22 y23 y24 y57
    have d55 := d55.trans d54
    refine tail_val (w1 := wb) (v := .pointer (some ⟨g9_48, 2, none⟩)) rfl rfl rfl ?_ s55 rfl ?_
    ·exact fb Tryd.underlying57 2 y9
    intro A d56 s56 y60 hr
    have ⟨y0, y4, y5, y6, y10, y11, y12, y13, y18, y22⟩ := k10 hr y0 y4 y5 y6 y10 y11 y12 y13 y18 y22
    have ⟨y23, y24, y57, y59⟩ := k4 hr y23 y24 y57 y59
    have d56 := d56.trans d55
    refine tail_val (w1 := wb) (v := .string nj.text) rfl rfl rfl ?_ s56 rfl ?_
    ·exact lb y60 (((Below.refl _ _).block _ lg9_48_').trans kg9_48_')
    intro A d57 s57 y61 hr
    have ⟨y0, y4, y5, y6, y10, y11, y12, y13, y18, y22⟩ := k10 hr y0 y4 y5 y6 y10 y11 y12 y13 y18 y22
    have ⟨y23, y24, y57, y59⟩ := k4 hr y23 y24 y57 y59
    have d57 := d57.trans d56
    refine tail_val (w1 := wb) (v := .agg #[.string nj.tag, .string nj.text]) rfl rfl rfl (o2 y59 y61) s57 rfl ?_
    intro A d58 s58 y62 hr
    have ⟨y0, y4, y5, y6, y10, y11, y12, y13, y18, y22⟩ := k10 hr y0 y4 y5 y6 y10 y11 y12 y13 y18 y22
    have ⟨y23, y24, y57⟩ := k3 hr y23 y24 y57
    have d58 := d58.trans d57
    refine tail_val rfl rfl rfl (run_look0 rfl y57 y62 (Tm.Cn.look XS Tm.key_leaf Tryd.underlying103 hkl2)) s58 rfl fun A d59 s59 y63 hr => ?_
    have ⟨y0, y4, y5, y6, y10, y11, y12, y13, y18, y22⟩ := k10 hr y0 y4 y5 y6 y10 y11 y12 y13 y18 y22
    have ⟨y23, y24⟩ := k2 hr y23 y24
    have d59 := d59.trans d58
    obtain ⟨q64, Bq64⟩ := nm (decide ((Tm.cnt (.agg #[.string nj.tag, .string nj.text] :: (Tm.K2 nd ks m)) (.agg #[.string nj.tag, .string nj.text])) > 1))
    refine tail_val (w1 := wb) (v := .bool (decide ((Tm.cnt (.agg #[.string nj.tag, .string nj.text] :: (Tm.K2 nd ks m)) (.agg #[.string nj.tag, .string nj.text])) > 1))) rfl rfl rfl (o2 y63 (rfl : A.eval (.const (.int .i64 1)) = .int .i64 1)) s59 rfl ?_
    intro A d60 s60 hv hr
    have ⟨y0, y4, y5, y6, y10, y11, y12, y13, y18, y22⟩ := k10 hr y0 y4 y5 y6 y10 y11 y12 y13 y18 y22
    have ⟨y23, y24⟩ := k2 hr y23 y24
    have y64 : A.eval (.tmp 64) = .bool q64 := hv.trans (congrArg Value.bool Bq64.symm)
    have d60 := d60.trans d59
    clear hv hr
    refine tail_nil (wp_cond_split y64 (fun hq => ?_) (fun hq => ?_))
    ·
     have c64 := Bq64.symm.trans hq
     clear hq
     have c64 := of_decide_eq_true c64
     have hin := Tm.mem_of c64
     have htw : Dc.twiceF nd = true := Tm.twice_true (hln.symm ▸ hk0) (Hnk ▸ Tm.dup_two hk2 hks hm0 hkey hhas hlf hin)
     refine wp_seq (rS [.bool true] (fun _ => .plain) 1 0 s60 ?_ ?_)
     ·refine .cons (fun _ => ?_) (.nil)
      ·exact plain rfl rfl fun a w' H => vr rfl (ra (rfl : a.eval (.const (.bool true)) = .bool true))
     intro A w62 T
     have y2 := T.u 0 2
     have d62 := T.e d60
     have bl62 := bl52'.trans (T.below.mono bl52'.size)
     clear T
     refine tail_nil (wp_ret ?_)
     repeat (first | with_reducible refine in_ret ?_ | with_reducible refine then_ret ?_)
     exact ret1 rfl d62 y2 ⟨by rw [htw], bl62⟩
    have c64 := Bq64.symm.trans hq
    clear hq
    have c64 := of_decide_eq_false c64
    have hn2 := Tm.not_of c64
    refine wp_skip (rS [.int .i64 (IntKind.i64.wrap ((m : Nat) + 1)), .int .i64 (IntKind.i64.wrap ((m : Nat) + 1))] (fun _ => .plain) 2 0 s60 ?_ ?_)
    ·refine .cons (fun _ => ?_) (.cons (fun _ => ?_) (.nil))
     ·exact plain rfl rfl fun a w' H => vr (v := .int .i64 (IntKind.i64.wrap ((m : Nat) + 1))) rfl (o2 ((H.kept 24 (by kernel_rfl)).trans y24) (rfl : a.eval (.const (.int .i64 1)) = .int .i64 1))
     exact plain rfl rfl fun a w' H => vr rfl (rv (H.dep 0 65 (by kernel_rfl) rfl))
    intro A w64 T
    have ⟨y0, y4, y5, y6, y10, y11, y12, y13, y18, y22⟩ := T.r10 y0 y4 y5 y6 y10 y11 y12 y13 y18 y22
    have y23 := T.r1 y23
    have kg4_9_ := (T.below.block _ lg4_9_').trans kg4_9_'
    have lg4_9_ := Nat.lt_of_lt_of_le lg4_9_' T.below.size
    have Oks_64 := own_below Oks_52' T.below
    have y24 := T.u 1 24
    have d64 := T.e d60
    have s64 := T.z s60
    have bl64 := bl52'.trans (T.below.mono bl52'.size)
    have XM1_64 := Tm.Cn.below Y_52' T.below
    have XM2_64 := Tm.Cn.below XS T.below
    clear T
    exact tail_nil (⟨_, by omega, m + 1, rfl, by omega, Tm.ok_some hm0 hkey hhas hlf hn1 hn2 hok, Oks_64, (Tm.Cn.mono XM1_64 (by omega)).eqL (Tm.K1_has hm0 hkey hhas), (Tm.Cn.mono XM2_64 (by omega)).eqL (Tm.K2_some hm0 hkey hhas hlf), d64, s64, bl64, y0, y4, y5, y6, y10, y11, y12, y13, y18, y22, y23, (y24.trans (by first | rfl | (congr 1; rw [i64_id (by omega) (by omega)]; omega) | (simp; done))), kg4_9_, lg4_9_⟩)
   have c46 := Bq46.symm.trans hq
   clear hq
   have hlf : Tm.leafB nd key = none := by unfold Tm.leafB; rw [← Hnj, if_neg (by simpa using c46)]
   refine wp_skip (rS [.int .i64 (IntKind.i64.wrap ((m : Nat) + 1)), .int .i64 (IntKind.i64.wrap ((m : Nat) + 1))] (fun _ => .plain) 2 0 s50 ?_ ?_)
   ·refine .cons (fun _ => ?_) (.cons (fun _ => ?_) (.nil))
    ·exact plain rfl rfl fun a w' H => vr (v := .int .i64 (IntKind.i64.wrap ((m : Nat) + 1))) rfl (o2 ((H.kept 24 (by kernel_rfl)).trans y24) (rfl : a.eval (.const (.int .i64 1)) = .int .i64 1))
    exact plain rfl rfl fun a w' H => vr rfl (rv (H.dep 0 65 (by kernel_rfl) rfl))
   intro A w66 T
   have ⟨y0, y4, y5, y6, y10, y11, y12, y13, y18, y22⟩ := T.r10 y0 y4 y5 y6 y10 y11 y12 y13 y18 y22
   have y23 := T.r1 y23
   have ⟨kg4_9_, lg4_9_⟩ := T.y kg4_9_ lg4_9_
   have Oks_66 := T.g Oks_50
   have y24 := T.u 1 24
   have ⟨d66, s66, bl66⟩ := T.h d50 s50 bl50
   have XM1_66 := Tm.Cn.below XM1_50 T.below
   have XM2_66 := Tm.Cn.below XM2_50 T.below
   clear T
   exact tail_nil (⟨_, by omega, m + 1, rfl, by omega, Tm.ok_none hm0 hkey hhas hlf hn1 hok, Oks_66, (Tm.Cn.mono XM1_66 (by omega)).eqL (Tm.K1_has hm0 hkey hhas), (Tm.Cn.mono XM2_66 (by omega)).eqL (Tm.K2_none hm0 hkey hhas hlf), d66, s66, bl66, y0, y4, y5, y6, y10, y11, y12, y13, y18, y22, y23, (y24.trans (by first | rfl | (congr 1; rw [i64_id (by omega) (by omega)]; omega) | (simp; done))), kg4_9_, lg4_9_⟩)
  have c25 := Bq25.symm.trans hq
  clear hq
  have c25 := of_decide_eq_false c25
  have hme : m = ks.length := by omega
  rw [hme] at hok
  have hdup : Dc.dupNode nd (nd.getD k default) = false := Hnk ▸ (Tm.dup_iff hk2 hks).2 hok
  refine wp_exit (rS [.int .i64 (IntKind.i64.wrap ((k : Nat) + 1)), .int .i64 (IntKind.i64.wrap ((k : Nat) + 1))] (fun _ => .plain) 2 0 s24 ?_ ?_)
  ·refine .cons (fun _ => ?_) (.cons (fun _ => ?_) (.nil))
   ·exact plain rfl rfl fun a w' H => vr (v := .int .i64 (IntKind.i64.wrap ((k : Nat) + 1))) rfl (o2 ((H.kept 12 (by kernel_rfl)).trans y12) (rfl : a.eval (.const (.int .i64 1)) = .int .i64 1))
   exact plain rfl rfl fun a w' H => vr rfl (rv (H.dep 0 66 (by kernel_rfl) rfl))
  intro A w68 T
  have ⟨y0, y10, y11⟩ := T.r3 y0 y10 y11
  have y12 := T.u 1 12
  have ⟨d68, s68, bl68⟩ := T.h d24 s24 bl24
  clear T
  exact tail_nil (⟨_, by omega, k + 1, rfl, by omega, Tm.none_step hnone hdup, d68, s68, bl68, y0, y10, y11, (y12.trans (by first | rfl | (congr 1; rw [i64_id (by omega) (by omega)]; omega) | (simp; done)))⟩)
 have c13 := Bq13.symm.trans hq
 clear hq
 have c13 := of_decide_eq_false c13
 have hke : k = h.length := by omega
 have htw : Dc.twiceF nd = false := Tm.twice_false (fun j hj => hnone j (by omega))
 refine wp_exit (wp_seq ?_)
 refine rS [.bool false] (fun _ => .plain) 1 0 s4 ?_ ?_
 ·refine .cons (fun _ => ?_) (.nil)
  ·exact plain rfl rfl fun a w' H => vr rfl (ra (rfl : a.eval (.const (.bool false)) = .bool false))
 intro A w70 T
 have y2 := T.u 0 2
 have d70 := T.e d4
 have bl70 := T.b bl4
 clear T
 refine tail_nil (wp_ret ?_)
 repeat (first | with_reducible refine in_ret ?_ | with_reducible refine then_ret ?_)
 exact ret1 rfl d70 y2 ⟨by rw [htw], bl70⟩
end Go.Proofs.YtgnmjaacnmkgnaaDoor.X
end
section
namespace Go.Proofs.YtgnmjaacnmkgnaaDoor.X
open Go.RowKit Go.Shelf Go.Proofs Go.Maps Impl
set_option linter.unusedVariables false
set_option linter.unusedSimpArgs false
namespace Tm
open Dc Evt
theorem r1_len (l : List UInt8) : (R1 l).length ≤ 5 := by
  unfold R1
  split
  · decide
  · split
    · decide
    · split
      · decide
      · split
        · decide
        · split
          · decide
          · split <;> decide
theorem tagL_len (k : Int) (t s : List UInt8) (p : Bool) : (tagL k t s p).1.length ≤ t.length + 5 := by
  have hn : ∀ q : List UInt8, q.length ≤ 5 → (namedL t q).1.length ≤ t.length + 5 := fun q hq => by
    unfold namedL
    split
    · simp only; omega
    · split
      · simp only; omega
      · simp
  unfold tagL
  split
  · exact hn _ (by decide)
  · split
    · exact hn _ (by decide)
    · split
      · split
        · split
          · have := r1_len s; simp only; omega
          · simp [bStr]
        · split
          · simp only; omega
          · simp
      · simp
theorem tagF_size (x : Ev) : (tagF x).1.size ≤ x.tag.size + 5 := tagL_len x.kind x.tag.data.toList x.text.data.toList x.plain
def Sz (nd : List Nd) : Prop := ∀ n ∈ nd, n.tag.size ≤ 10000 ∧ n.text.size ≤ 10000
theorem Sz.kid {d : Dc} {a : Nat} (h : Sz d.nodes) : Sz (kidF d a).1.nodes := by
  unfold kidF
  split
  · exact h
  · split
    · exact h
    · rename_i o _ _
      intro n hn
      rcases List.mem_or_eq_of_mem_set hn with hn | rfl
      · exact h n hn
      · simp only
        by_cases ho : o.toNat < d.nodes.length
        · have hm : d.nodes.getD o.toNat default ∈ d.nodes := by rw [List.getD_eq_getElem?_getD, List.getElem?_eq_getElem ho]; exact List.getElem_mem ho
          exact h _ hm
        · have e : d.nodes.getD o.toNat default = default := by rw [List.getD_eq_getElem?_getD, List.getElem?_eq_none (by omega)]; rfl
          rw [e]; exact ⟨by decide, by decide⟩
theorem Sz.step {d : Dc} {x : Ev} (h : Sz d.nodes) (h1 : x.tag.size ≤ 2000) (h2 : x.text.size ≤ 2000) : Sz (stepF d x).1.nodes := by
  unfold stepF
  split
  · intro n hn; cases hn
  · split
    · exact h
    · split
      · exact h
      · split
        · show Sz (aliasF d x).1.nodes
          unfold aliasF
          split
          · exact h
          · exact h.kid
        · show Sz (nodeF d x).1.nodes
          unfold nodeF
          split
          · exact h
          · split
            · have hk : Sz (kidF ⟨d.nodes ++ [⟨kindN x.kind, (tagF x).1, x.text, []⟩], d.opn, nameF d x⟩ d.nodes.length).1.nodes := by
                refine Sz.kid fun n hn => ?_
                rcases List.mem_append.1 hn with hn | hn
                · exact h n hn
                · rw [List.mem_singleton.1 hn]
                  have := tagF_size x
                  exact ⟨by simp only; omega, by simp only; omega⟩
              simp only
              split
              · exact hk
              · exact hk
            · exact h
theorem twall (l : List Ev) : ∀ (d : Dc) (k : Nat), Dc.Good d k → Sz d.nodes → k + l.length ≤ 100000 → (∀ x ∈ l, x.tag.size ≤ 2000 ∧ x.text.size ≤ 2000) → TwAll d l := by
  induction l with
  | nil => intro d k _ _ _ _; trivial
  | cons x t ih =>
    intro d k hG hS hl hx
    simp only [List.length_cons] at hl
    refine ⟨fun _ B w h opn names gv ov mb hnd hR => ?_, ih _ (k + 1) (stepF_good hG) (hS.step (hx x (List.mem_cons_self ..)).1 (hx x (List.mem_cons_self ..)).2) (by omega) fun y hy => hx y (List.mem_cons_of_mem _ hy)⟩
    rw [← hnd]
    refine twice_small B mb gv ov h opn names w hR ?_
    rw [hnd]
    intro n hn
    obtain ⟨j, hj, rfl⟩ := List.mem_iff_getElem.1 hn
    have h1 := hG.kd j hj
    rw [List.getD_eq_getElem?_getD, List.getElem?_eq_getElem hj] at h1
    have h2 := hS _ hn
    simp only [Option.getD_some] at h1
    exact ⟨by omega, by omega, by omega⟩
theorem twall0 {l : List Ev} (hl : l.length ≤ 100000) (hx : ∀ x ∈ l, x.tag.size ≤ 2000 ∧ x.text.size ≤ 2000) : TwAll ⟨[], [], []⟩ l := twall l _ 0 (Dc.Good.nil 0) (fun n hn => by cases hn) (by omega) hx
end Tm
end Go.Proofs.YtgnmjaacnmkgnaaDoor.X
end
section
namespace Go.Proofs.YtgnmjaacnmkgnaaDoor.X
open Go.RowKit Go.Shelf Go.Proofs Go.Proofs.YtgnmjaacnmkgnaaDoorW.PrintWords Go.Proofs.YtgnmjaacnmkgnaaDoorW.PrintLast Go.Proofs.YtgnmjaacnmkgnaaDoorW.PrintMore
set_option linter.unusedVariables false
set_option linter.unusedSimpArgs false
attribute [local go_sem] max2_int min2_int max_two min_two
set_option maxHeartbeats 4000000 in
set_option maxRecDepth 100000 in
theorem Evt.heavy_calls (v : Value) (l : List Evt.Ev) (w : World) (hl : Eng.Reads w v l.length 5 (Evt.cells l)) : Calls Tryd.prog 9 #[v] w fun e w' => e = .returned (.bool (Evt.heavyL l)) ∧ Below w.heap.size w w' := by
 have hm := Eng.Reads.len_le hl
 refine Eng.enter Tryd.func9 rfl fun A d0 s0 v0 => ?_
 have s0 : A.tmps.size = 31 := s0
 have y0 : A.eval (.tmp 0) = v := v0 0 (by simp)
 clear v0
 have bl0 : Below w.heap.size w w := Below.refl _ _
 refine wp_seq (Eng.rS [.bool false] (fun _ => .plain) 1 0 s0 ?_ ?_)
 ·refine .c ?_ (.nil)
  ·exact Eng.pq fun a w' H => Eng.ra (rfl : a.eval (.const (.bool false)) = .bool false)
 intro A w1 T
 have y0 := T.r1 y0
 have Fl_ := T.f hl
 have ⟨d1, s1, bl1⟩ := T.h d0 s0 bl0
 clear T
 refine Eng.tail_nil (wp_seq (wp_seq ?_))
 refine Eng.rP [v, .int .i64 ((l.length : Nat) : Int), .int .i64 0] 3 0 s1 (.c (Eng.qq 0 y0) (.c (Eng.pv fun a w' H => Eng.vr (v := .int .i64 ((l.length : Nat) : Int)) rfl (Eng.run_len_sl rfl Tryd.underlying26 (H.d 0 5) (Eng.Reads.below Fl_ H.below))) (.c (Eng.pq fun a w' H => Eng.rv (rfl : a.eval (.const (.int .i64 0)) = .int .i64 0)) .nil))) fun A w2 T => ?_
 have y0 := T.r1 y0
 have y5 := T.u 0 5
 have y6 := T.u 1 6
 have y7 := T.u 2 7
 have ⟨d2, s2, bl2⟩ := T.h d1 s1 bl1
 clear T
 refine Eng.tail_nil (wp_block ?_)
 refine Eng.loopN (fun n a w' => ∃ (k : Nat), l.length - k = n ∧ (k ≤ l.length) ∧ ((List.take k l).any Evt.heavyE = false) ∧ a.defers = [] ∧ a.tmps.size = 31 ∧ Below w.heap.size w w' ∧ a.eval (.tmp 0) = v ∧ a.eval (.tmp 5) = v ∧ a.eval (.tmp 6) = .int .i64 ((l.length : Nat) : Int) ∧ a.eval (.tmp 7) = .int .i64 (k : Nat)) (n0 := l.length - 0) ?_ ?_
 ·exact ⟨0, rfl, by omega, rfl, d2, s2, bl2, y0, y5, y6, (y7.trans (by first | rfl | (congr 1; rw [Eng.i64_id (by omega) (by omega)]; omega) | (simp; done)))⟩
 rintro n A w3 ⟨k, rfl, hc0_3, hc1_3, d3, s3, bl3, y0, y5, y6, y7⟩
 have Fl_ := Eng.Reads.below hl bl3
 have hk1 := hc0_3
 have hin := hc1_3
 refine wp_seq ?_
 obtain ⟨q8, Bq8⟩ := Eng.nm (decide ((k : Nat) < ((l.length : Nat) : Int)))
 refine Eng.rS [.bool q8] (fun _ => .plain) 1 0 s3 ?_ ?_
 ·refine .c ?_ (.nil)
  ·exact Eng.pv fun a w' H => Eng.vr (Eng.bb Bq8) (Eng.o2 (H.q 7 y7) (H.q 6 y6))
 intro A w4 T
 have ⟨y0, y5, y6, y7⟩ := T.r4 y0 y5 y6 y7
 have Fl_ := T.f Fl_
 have y8 := T.u 0 8
 have ⟨d4, s4, bl4⟩ := T.h d3 s3 bl3
 clear T
 refine Eng.tail_nil (wp_seq ?_)
 refine wp_cond_split y8 (fun hq => ?_) (fun hq => ?_)
 ·
  have c8 := Bq8.symm.trans hq
  clear hq
  have c8 := of_decide_eq_true c8
  have hk0 : k < l.length := by omega
  refine wp_skip (wp_seq ?_)
  refine wp_block (wp_seq ?_)
  refine Eng.regionS (Eng.still [fun u_ => u_ = Eng.elemPtr v (k * 5), fun u_ => u_ = .agg #[.int .i64 ((l.getD k default).kind), .string ((l.getD k default).anchor), .string ((l.getD k default).tag), .string ((l.getD k default).text), .bool ((l.getD k default).plain)], fun u_ => True, fun u_ => True]) (fun i => ([.plain, .plain, .alloc 23 #[.int .i64 0, .string ⟨#[]⟩, .string ⟨#[]⟩, .string ⟨#[]⟩, .bool false], .store 2 #[.int .i64 ((l.getD k default).kind), .string ((l.getD k default).anchor), .string ((l.getD k default).tag), .string ((l.getD k default).text), .bool ((l.getD k default).plain)]] : List Eng.Kind).getD i .plain) 4 0 31 s4 rfl (by kernel_rfl) (Eng.still_stable _) (Or.inr (Eng.still_any _)) ?_ ?_
  ·refine .c ?_ (.c ?_ (.c ?_ (.c ?_ (.nil))))
   ·exact Eng.pv fun a w' H => Eng.vr (v := Eng.elemPtr v (k * 5)) rfl (Eng.run_index_sl rfl Tryd.underlying26 (by kernel_rfl) (H.q 5 y5) ((H.q 7 y7).trans (congrArg (Value.int _) (show (k : Nat) = ((k : Nat) : Int) from by omega))) (Eng.Reads.below Fl_ H.below) (by omega) rfl)
   ·exact Eng.pv fun a w' H => Eng.vr (v := .agg #[.int .i64 ((l.getD k default).kind), .string ((l.getD k default).anchor), .string ((l.getD k default).tag), .string ((l.getD k default).text), .bool ((l.getD k default).plain)]) rfl (Eng.run_load_els [.int .i64 ((l.getD k default).kind), .string ((l.getD k default).anchor), .string ((l.getD k default).tag), .string ((l.getD k default).text), .bool ((l.getD k default).plain)] rfl (H.d 0 9) (Eng.Reads.below Fl_ H.below) (Evt.cells_at l k (by omega)) rfl Tryd.underlying23 rfl (by kernel_rfl))
   ·refine Eng.made rfl (by simp) rfl (fun a w' hd ho => ?_) (fun _ _ => trivial)
    simp only [execOp]
    go_simp
   refine Eng.stored [.int .i64 ((l.getD k default).kind), .string ((l.getD k default).anchor), .string ((l.getD k default).tag), .string ((l.getD k default).text), .bool ((l.getD k default).plain)] rfl rfl rfl (j := 2) (d := 4) (by kernel_rfl) rfl rfl (Eng.store_uniq (by kernel_rfl)) rfl rfl fun a w' g e hc hd ho => ?_
   have e0 : a.eval _ = .agg #[.int .i64 ((l.getD k default).kind), .string ((l.getD k default).anchor), .string ((l.getD k default).tag), .string ((l.getD k default).text), .bool ((l.getD k default).plain)] := (hd 1 10 (by kernel_rfl) rfl)
   have z0 := (Eng.cells hc 0).trans rfl
   have z1 := (Eng.cells hc 1).trans rfl
   have z2 := (Eng.cells hc 2).trans rfl
   have z3 := (Eng.cells hc 3).trans rfl
   have z4 := (Eng.cells hc 4).trans rfl
   have f0 := Eng.unfrozen hc 0
   have f1 := Eng.unfrozen hc 1
   have f2 := Eng.unfrozen hc 2
   have f3 := Eng.unfrozen hc 3
   have f4 := Eng.unfrozen hc 4
   simp only [execOp, e, e0]
   go_simp
   rfl
  intro A w6 T
  have ⟨y0, y5, y6, y7⟩ := T.r4 y0 y5 y6 y7
  obtain ⟨g4_6, y4, rg4_6, lg4_6_, kg4_6_⟩ := T.st 2 4 3 _ _ _ rfl rfl rfl rfl rfl
  have ⟨d6, s6, bl6⟩ := T.h d4 s4 bl4
  clear T
  refine Eng.tail_nil (wp_seq ?_)
  obtain ⟨q14, Bq14⟩ := Eng.nm (decide ((((l.getD k default).text).size : Int) > 2000))
  obtain ⟨q19, Bq19⟩ := Eng.nm (decide ((((l.getD k default).anchor).size : Int) > 2000))
  obtain ⟨q20, Bq20⟩ := Eng.nm (q14 || q19)
  obtain ⟨q25, Bq25⟩ := Eng.nm (decide ((((l.getD k default).tag).size : Int) > 2000))
  obtain ⟨q26, Bq26⟩ := Eng.nm (q20 || q25)
  refine Eng.rP [.pointer (some ⟨g4_6, 3, none⟩), .string ((l.getD k default).text), .int .i64 (((l.getD k default).text).size : Int), .bool q14, .bool q14, bif (q14 == false) then (.pointer (some ⟨g4_6, 1, none⟩)) else undef, bif (q14 == false) then (.string ((l.getD k default).anchor)) else undef, bif (q14 == false) then (.int .i64 (((l.getD k default).anchor).size : Int)) else undef, bif (q14 == false) then (.bool q19) else undef, .bool q20, .bool q20, bif (q20 == false) then (.pointer (some ⟨g4_6, 2, none⟩)) else undef, bif (q20 == false) then (.string ((l.getD k default).tag)) else undef, bif (q20 == false) then (.int .i64 (((l.getD k default).tag).size : Int)) else undef, bif (q20 == false) then (.bool q25) else undef, .bool q26] 16 0 s6 (.c (Eng.pq fun a w' H => Eng.fb Tryd.underlying23 3 (H.q 4 y4)) (.c (Eng.pq fun a w' H => Eng.lb (H.d 0 11) (H.x lg4_6_ kg4_6_)) (.c (Eng.pv fun a w' H => Eng.vr (v := .int .i64 (((l.getD k default).text).size : Int)) rfl (Eng.o1 (H.d 1 12))) (.c (Eng.pv fun a w' H => Eng.vr (Eng.bb Bq14) (Eng.ok (.int .i64 2000) (H.d 2 13))) (.c (Eng.qd 3 14) (.c (Eng.g1 4 15 q14 fun hG a w' H => Eng.vr (Eng.off' hG rfl) (Eng.fb Tryd.underlying23 1 (H.q 4 y4))) (.c (Eng.g1 4 15 q14 fun hG a w' H => Eng.vr (Eng.off' hG rfl) (Eng.lb (Eng.on (H.d 5 16) hG) (H.x lg4_6_ kg4_6_))) (.c (Eng.g1 4 15 q14 fun hG a w' H => Eng.vr (v := .int .i64 (((l.getD k default).anchor).size : Int)) (Eng.off' hG rfl) (Eng.o1 (Eng.on (H.d 6 17) hG))) (.c (Eng.g1 4 15 q14 fun hG a w' H => Eng.vr (v := .bool (decide ((((l.getD k default).anchor).size : Int) > 2000))) (Eng.off' hG (by rw [Bq19])) (Eng.ok (.int .i64 2000) (Eng.on (H.d 7 18) hG))) (.c (Eng.pv fun a w' H => Eng.vr (Eng.bb Bq20) (Eng.run_or rfl rfl (G := true) (H.d 4 15) (fun hb => (Eng.on (H.d 8 19) (Eng.mk1 hb))))) (.c (Eng.qd 9 20) (.c (Eng.g1 10 21 q20 fun hG a w' H => Eng.vr (Eng.off' hG rfl) (Eng.fb Tryd.underlying23 2 (H.q 4 y4))) (.c (Eng.g1 10 21 q20 fun hG a w' H => Eng.vr (Eng.off' hG rfl) (Eng.lb (Eng.on (H.d 11 22) hG) (H.x lg4_6_ kg4_6_))) (.c (Eng.g1 10 21 q20 fun hG a w' H => Eng.vr (v := .int .i64 (((l.getD k default).tag).size : Int)) (Eng.off' hG rfl) (Eng.o1 (Eng.on (H.d 12 23) hG))) (.c (Eng.g1 10 21 q20 fun hG a w' H => Eng.vr (v := .bool (decide ((((l.getD k default).tag).size : Int) > 2000))) (Eng.off' hG (by rw [Bq25])) (Eng.ok (.int .i64 2000) (Eng.on (H.d 13 24) hG))) (.c (Eng.pv fun a w' H => Eng.vr (Eng.bb Bq26) (Eng.run_or rfl rfl (G := true) (H.d 10 21) (fun hb => (Eng.on (H.d 14 25) (Eng.mk1 hb))))) .nil)))))))))))))))) fun A w7 T => ?_
  have ⟨y0, y5, y6, y7⟩ := T.r4 y0 y5 y6 y7
  have y26 := T.u 15 26
  have ⟨d7, s7, bl7⟩ := T.h d6 s6 bl6
  clear T
  refine Eng.tail_nil (wp_cond_split y26 (fun hq => ?_) (fun hq => ?_))
  ·
   have c26 := Bq26.symm.trans hq
   clear hq
   have hx : Evt.heavyE (l.getD k default) = true := by have h1 := c26; simp only [Bq26, Bq25, Bq20, Bq19, Bq14, Bq8] at h1; exact h1
   refine wp_seq (Eng.rS [.bool true] (fun _ => .plain) 1 0 s7 ?_ ?_)
   ·refine .c ?_ (.nil)
    ·exact Eng.pq fun a w' H => Eng.ra (rfl : a.eval (.const (.bool true)) = .bool true)
   intro A w9 T
   have y2 := T.u 0 2
   have d9 := T.e d7
   have bl9 := T.b bl7
   clear T
   refine Eng.tail_nil (wp_ret ?_)
   repeat (first | refine Eng.in_ret ?_ | refine Eng.then_ret ?_)
   exact Eng.ret1 rfl d9 y2 ⟨by rw [Evt.heavy_at hk0 hx], bl9⟩
  have c26 := Bq26.symm.trans hq
  clear hq
  have hx : Evt.heavyE (l.getD k default) = false := by have h1 := c26; simp only [Bq26, Bq25, Bq20, Bq19, Bq14, Bq8] at h1; exact h1
  refine wp_skip (Eng.rP [.int .i64 (IntKind.i64.wrap ((k : Nat) + 1)), .int .i64 (IntKind.i64.wrap ((k : Nat) + 1))] 2 0 s7 (.c (Eng.pv fun a w' H => Eng.vr (v := .int .i64 (IntKind.i64.wrap ((k : Nat) + 1))) rfl (Eng.ok (.int .i64 1) (H.q 7 y7))) (.c (Eng.qd 0 27) .nil)) fun A w11 T => ?_)
  have ⟨y0, y5, y6⟩ := T.r3 y0 y5 y6
  have y7 := T.u 1 7
  have ⟨d11, s11, bl11⟩ := T.h d7 s7 bl7
  clear T
  exact Eng.tail_nil (⟨_, by omega, k + 1, rfl, by omega, Evt.heavy_take hk0 hin hx, d11, s11, bl11, y0, y5, y6, (y7.trans (by first | rfl | (congr 1; rw [Eng.i64_id (by omega) (by omega)]; omega) | (simp; done)))⟩)
 have c8 := Bq8.symm.trans hq
 clear hq
 have c8 := of_decide_eq_false c8
 have hke : k = l.length := by omega
 refine wp_exit (wp_seq ?_)
 obtain ⟨q30, Bq30⟩ := Eng.nm (decide (((l.length : Nat) : Int) > 150))
 refine Eng.rP [v, .int .i64 ((l.length : Nat) : Int), .bool q30, .bool q30] 4 0 s4 (.c (Eng.qq 0 y0) (.c (Eng.pv fun a w' H => Eng.vr (v := .int .i64 ((l.length : Nat) : Int)) rfl (Eng.run_len_sl rfl Tryd.underlying26 (H.d 0 28) (Eng.Reads.below Fl_ H.below))) (.c (Eng.pv fun a w' H => Eng.vr (Eng.bb Bq30) (Eng.ok (.int .i64 150) (H.d 1 29))) (.c (Eng.qe 2 30) .nil)))) fun A w13 T => ?_
 have y2 := T.u 3 2
 have d13 := T.e d4
 have bl13 := T.b bl4
 clear T
 refine Eng.tail_nil (wp_ret ?_)
 repeat (first | refine Eng.in_ret ?_ | refine Eng.then_ret ?_)
 have fin : q30 = Evt.heavyL l := by
  simp only [Bq30, Bq8]
  rw [hke, List.take_length] at hin; unfold Evt.heavyL; rw [hin, Bool.false_or]
 exact Eng.ret1 rfl d13 (y2.trans (congrArg Value.bool fin)) ⟨rfl, bl13⟩
end Go.Proofs.YtgnmjaacnmkgnaaDoor.X
end
section
namespace Go.Proofs.YtgnmjaacnmkgnaaDoor.X
open Go.RowKit Go.Shelf Go.Proofs Go.Maps
set_option linter.unusedVariables false
set_option linter.unusedSimpArgs false
namespace Evt
def Lt (n : Nat) (l : List Ev) : Prop := l.length ≤ n ∧ ∀ x ∈ l, x.text.size ≤ 2000 ∧ x.anchor.size ≤ 2000 ∧ x.tag.size ≤ 2000
theorem light_all {l : List Ev} (h : heavyL l = false) : Lt 150 l := by
  unfold heavyL at h
  rw [Bool.or_eq_false_iff] at h
  have h1 := of_decide_eq_false h.2
  refine ⟨by omega, fun x hx => ?_⟩
  have h2 := List.any_eq_false.1 h.1 x hx
  unfold heavyE at h2
  simp only [Bool.or_eq_true, decide_eq_true_eq, not_or] at h2
  omega
theorem Lt.app {n m : Nat} {a b : List Ev} (h : Lt n a) (k : Lt m b) : Lt (n + m) (a ++ b) := by
  refine ⟨by rw [List.length_append]; exact Nat.add_le_add h.1 k.1, fun x hx => ?_⟩
  rcases List.mem_append.1 hx with hx | hx
  · exact h.2 x hx
  · exact k.2 x hx
theorem Lt.at_ {n : Nat} {l : List Ev} (h : Lt n l) {k : Nat} (hk : k < l.length) : (l.getD k default).text.size ≤ 2000 ∧ (l.getD k default).anchor.size ≤ 2000 ∧ (l.getD k default).tag.size ≤ 2000 := by
  refine h.2 _ ?_
  rw [List.getD_eq_getElem?_getD, List.getElem?_eq_getElem hk]; exact List.getElem_mem hk
theorem Lt.text {n : Nat} {l : List Ev} (h : Lt n l) : ∀ k, k < l.length → (l.getD k default).text.size ≤ 2000 := fun k hk => (h.at_ hk).1
theorem Lt.anchor {n : Nat} {l : List Ev} (h : Lt n l) : ∀ k, k < l.length → (l.getD k default).anchor.size ≤ maxLen := fun k hk => Nat.le_trans (h.at_ hk).2.1 (by unfold maxLen; omega)
theorem Lt.tw {n : Nat} {l : List Ev} (h : Lt n l) (hn : n ≤ 100000) : Dc.TwAll ⟨[], [], []⟩ l := Tm.twall0 (Nat.le_trans h.1 hn) fun x hx => ⟨(h.2 x hx).2.2, (h.2 x hx).1⟩
end Evt
namespace Dc
open Evt (takeF pop more Ev)
theorem GsO.one {B : Nat} {w : World} {fin : List GV} (h : GsO B w fin) : ∀ u ∈ fin.map (·.2), u.oneCell' = true := by
  intro u hu
  obtain ⟨f, hf, rfl⟩ := List.mem_map.1 hu
  obtain ⟨hs, _, O, _⟩ := h f hf
  obtain ⟨A, c, e⟩ := Eng.Reads.shape (Eng.Reads.of_own O)
  rw [e]; rfl
theorem stepF_num {d : Dc} {x : Ev} : (stepF d x).1.nodes.length ≤ d.nodes.length + 1 := by
  unfold stepF
  split
  · exact Nat.zero_le _
  · split
    · exact Nat.le_succ _
    · split
      · exact Nat.le_succ _
      · split
        · show (aliasF d x).1.nodes.length ≤ _
          unfold aliasF
          split
          · exact Nat.le_succ _
          · rw [kidF_nlen]; exact Nat.le_succ _
        · show (nodeF d x).1.nodes.length ≤ _
          unfold nodeF
          split
          · exact Nat.le_succ _
          · split
            · have hk : (kidF ⟨d.nodes ++ [⟨kindN x.kind, (Evt.tagF x).1, x.text, []⟩], d.opn, nameF d x⟩ d.nodes.length).1.nodes.length = d.nodes.length + 1 := by
                rw [kidF_nlen]; simp
              simp only
              split <;> first | exact Nat.le_of_eq hk | (simp only; omega)
            · exact Nat.le_succ _
theorem sml_good {d : Dc} {k K : Nat} (h : Good d k) (hn : d.nodes.length ≤ k) (hk : k ≤ K) : Sml K d.nodes := by
  refine ⟨Nat.le_trans hn hk, fun n hm => ?_⟩
  obtain ⟨i, hi, rfl⟩ := List.mem_iff_getElem.1 hm
  have := h.kd i hi
  rw [List.getD_eq_getElem?_getD, List.getElem?_eq_getElem hi] at this
  exact Nat.le_trans this hk
theorem runF_small (K : Nat) : ∀ (l : List Ev) (d : Dc) (out : List (List Nd)) (k : Nat), Good d k → d.nodes.length ≤ k → k + l.length ≤ K → (∀ nd ∈ out, Sml K nd) → (runF d out l).1.length ≤ out.length + l.length ∧ ∀ nd ∈ (runF d out l).1, Sml K nd := by
  intro l
  induction l with
  | nil => intro d out k _ _ _ ho; exact ⟨Nat.le_refl _, ho⟩
  | cons x t ih =>
    intro d out k hG hn hK ho
    simp only [List.length_cons] at hK ⊢
    rw [runF]
    split
    · have hG2 := stepF_good (x := x) hG
      have hn2 : (stepF d x).1.nodes.length ≤ k + 1 := Nat.le_trans stepF_num (by omega)
      have h3 : ∀ out' : List (List Nd), out'.length ≤ out.length + 1 → (∀ nd ∈ out', Sml K nd) → (runF (stepF d x).1 out' t).1.length ≤ out.length + (t.length + 1) ∧ ∀ nd ∈ (runF (stepF d x).1 out' t).1, Sml K nd := fun out' hl ho' => by
        have := ih (stepF d x).1 out' (k + 1) hG2 hn2 (by omega) ho'
        exact ⟨by omega, this.2⟩
      split
      · refine h3 _ (by simp) fun nd hnd => ?_
        rcases List.mem_append.1 hnd with hnd | hnd
        · exact ho nd hnd
        · rw [List.mem_singleton.1 hnd]; exact sml_good hG2 hn2 (by omega)
      · exact h3 _ (Nat.le_succ _) ho
    · exact ⟨Nat.zero_le _, fun nd h => absurd h List.not_mem_nil⟩
theorem graphsF_small {l : List Ev} (hl : l.length ≤ 1000000) : (graphsF l).1.length ≤ 1000000 ∧ ∀ nd ∈ (graphsF l).1, Sml 1000000 nd := by
  unfold graphsF
  split
  · have := runF_small 1000000 l ⟨[], [], []⟩ [] 0 (Good.nil 0) (Nat.le_refl _) (by omega) (fun nd h => absurd h List.not_mem_nil)
    exact ⟨by have := this.1; simp only [List.length_nil] at this; omega, this.2⟩
  · exact ⟨Nat.zero_le _, fun nd h => absurd h List.not_mem_nil⟩
end Dc
end Go.Proofs.YtgnmjaacnmkgnaaDoor.X
end
section
namespace Go.Proofs.YtgnmjaacnmkgnaaDoor.X
open Go.RowKit Go.Shelf Go.Proofs Go.Maps
set_option linter.unusedVariables false
set_option linter.unusedSimpArgs false
namespace Dc
open Evt (takeF pop more Ev)
def zz (s : List UInt8) : List UInt8 := [122, 45] ++ s
theorem zz_inj {s t : List UInt8} (h : zz s = zz t) : s = t := List.append_cancel_left h
theorem zz_ne (s : List UInt8) : zz s ≠ [] := fun h => by cases h
structure NR (A : List UInt8 → Prop) (d d' : Dc) : Prop where
  nd : d'.nodes = d.nodes
  op : d'.opn = d.opn
  nm : ∀ s, A s → find d'.names (zz s) = find d.names s
  e1 : find d.names [] = none
  e2 : find d'.names [] = none
structure EA (A : List UInt8 → Prop) (x : Ev) (u : ByteArray) : Prop where
  em : x.anchor.data.toList = [] → u.data.toList = []
  al : x.kind = 7 → x.anchor.data.toList ≠ [] → A x.anchor.data.toList ∧ u.data.toList = zz x.anchor.data.toList
  no : x.kind ≠ 7 → x.anchor.data.toList ≠ [] → u.data.toList = zz x.anchor.data.toList ∨ (u.data.toList = [] ∧ ¬ A x.anchor.data.toList)
theorem kidF_eq (n : List Nd) (o : List Int) (m m' : List (List UInt8 × Int)) (a : Nat) : (kidF ⟨n, o, m'⟩ a).1.nodes = (kidF ⟨n, o, m⟩ a).1.nodes ∧ (kidF ⟨n, o, m'⟩ a).2 = (kidF ⟨n, o, m⟩ a).2 := by
  unfold kidF
  simp only
  cases o.getLast? with
  | none => exact ⟨rfl, rfl⟩
  | some o => simp only; split <;> exact ⟨rfl, rfl⟩
theorem NR.kid {A : List UInt8 → Prop} {d d' : Dc} (h : NR A d d') (a : Nat) : NR A (kidF d a).1 (kidF d' a).1 ∧ (kidF d' a).2 = (kidF d a).2 := by
  obtain ⟨n, o, m⟩ := d
  obtain ⟨n', o', m'⟩ := d'
  obtain ⟨h1, h2, h3, h4, h5⟩ := h
  simp only at h1 h2 h3 h4 h5
  subst h1; subst h2
  have hk := kidF_eq n' o' m m' a
  have s1 := kidF_same ⟨n', o', m⟩ a
  have s2 := kidF_same ⟨n', o', m'⟩ a
  refine ⟨⟨hk.1, s2.1.trans s1.1.symm, fun s hs => ?_, ?_, ?_⟩, hk.2⟩
  · rw [s1.2, s2.2]; exact h3 s hs
  · rw [s1.2]; exact h4
  · rw [s2.2]; exact h5
theorem nameF_em {d : Dc} {x : Ev} (h : x.anchor.data.toList = []) : nameF d x = d.names := by
  unfold nameF; rw [if_pos (by rw [ByteArray.toList_eq, h]; rfl)]
theorem nameF_is {d : Dc} {x : Ev} (h : x.anchor.data.toList ≠ []) : nameF d x = (x.anchor.data.toList, (d.nodes.length : Int)) :: d.names := by
  unfold nameF; rw [if_neg (by rw [ByteArray.toList_eq]; simpa using h)]
theorem find_skip {names : List (List UInt8 × Int)} {s t : List UInt8} {c : Int} (h : s ≠ t) : find ((s, c) :: names) t = find names t := by rw [find_cons, if_neg h]
theorem find_hit {names : List (List UInt8 × Int)} {s t : List UInt8} {c : Int} (h : s = t) : find ((s, c) :: names) t = some c := by rw [find_cons, if_pos h]
theorem NR.snoc {A : List UInt8 → Prop} {d d' : Dc} (h : NR A d d') {x : Ev} {u : ByteArray} (he : EA A x u) (hk : x.kind ≠ 7) (n : Nd) : NR A ⟨d.nodes ++ [n], d.opn, nameF d x⟩ ⟨d'.nodes ++ [n], d'.opn, nameF d' { x with anchor := u }⟩ := by
  refine ⟨by simp only; rw [h.nd], h.op, fun s hs => ?_, ?_, ?_⟩
  · simp only
    by_cases h0 : x.anchor.data.toList = []
    · rw [nameF_em h0, nameF_em (x := { x with anchor := u }) (he.em h0)]; exact h.nm s hs
    · rw [nameF_is h0]
      rcases he.no hk h0 with hu | ⟨hu, hA⟩
      · have hz : ({ x with anchor := u } : Ev).anchor.data.toList = zz x.anchor.data.toList := hu
        rw [nameF_is (x := { x with anchor := u }) (by rw [hz]; exact zz_ne _), hz, h.nd]
        by_cases hst : x.anchor.data.toList = s
        · rw [find_hit hst, find_hit (by rw [hst])]
        · rw [find_skip hst, find_skip (fun e => hst (zz_inj e))]; exact h.nm s hs
      · rw [nameF_em (x := { x with anchor := u }) hu, find_skip (fun e => hA (by rw [e]; exact hs))]; exact h.nm s hs
  · simp only
    by_cases h0 : x.anchor.data.toList = []
    · rw [nameF_em h0]; exact h.e1
    · rw [nameF_is h0, find_skip h0]; exact h.e1
  · simp only
    by_cases h0 : ({ x with anchor := u } : Ev).anchor.data.toList = []
    · rw [nameF_em h0]; exact h.e2
    · rw [nameF_is h0, find_skip h0]; exact h.e2
theorem NR.opn {A : List UInt8 → Prop} {d d' : Dc} (h : NR A d d') (f : List Int → List Int) : NR A { d with opn := f d.opn } { d' with opn := f d'.opn } := ⟨h.nd, by simp only; rw [h.op], h.nm, h.e1, h.e2⟩
theorem NR.node {A : List UInt8 → Prop} {d d' : Dc} (h : NR A d d') {x : Ev} {u : ByteArray} (he : EA A x u) (hk : x.kind ≠ 7) : NR A (nodeF d x).1 (nodeF d' { x with anchor := u }).1 ∧ (nodeF d' { x with anchor := u }).2 = (nodeF d x).2 := by
  have ht : Evt.tagF { x with anchor := u } = Evt.tagF x := rfl
  unfold nodeF
  rw [ht, h.nd]
  split
  · exact ⟨h, rfl⟩
  · split
    · have hs := h.snoc he hk (⟨kindN x.kind, (Evt.tagF x).1, x.text, []⟩ : Nd)
      rw [h.nd] at hs
      have hK := hs.kid d.nodes.length
      refine ⟨?_, hK.2⟩
      simp only
      split
      · exact hK.1
      · exact hK.1.opn (· ++ [(d.nodes.length : Int)])
    · exact ⟨h, rfl⟩
theorem NR.alias {A : List UInt8 → Prop} {d d' : Dc} (h : NR A d d') {x : Ev} {u : ByteArray} (he : EA A x u) (hk : x.kind = 7) : NR A (aliasF d x).1 (aliasF d' { x with anchor := u }).1 ∧ (aliasF d' { x with anchor := u }).2 = (aliasF d x).2 := by
  have hf : find d'.names u.data.toList = find d.names x.anchor.data.toList := by
    by_cases h0 : x.anchor.data.toList = []
    · rw [he.em h0, h0, h.e1, h.e2]
    · obtain ⟨h1, h2⟩ := he.al hk h0
      rw [h2]; exact h.nm _ h1
  unfold aliasF
  simp only
  rw [hf]
  cases find d.names x.anchor.data.toList with
  | none => exact ⟨h, rfl⟩
  | some c => exact h.kid c.toNat
theorem NR.start (A : List UInt8 → Prop) : NR A ⟨[], [], []⟩ ⟨[], [], []⟩ := ⟨rfl, rfl, fun s _ => rfl, rfl, rfl⟩
theorem NR.step {A : List UInt8 → Prop} {d d' : Dc} (h : NR A d d') {x : Ev} {u : ByteArray} (he : EA A x u) : NR A (stepF d x).1 (stepF d' { x with anchor := u }).1 ∧ (stepF d' { x with anchor := u }).2 = (stepF d x).2 := by
  unfold stepF
  simp only
  split
  · exact ⟨NR.start A, rfl⟩
  · split
    · rw [h.nd]; exact ⟨h, rfl⟩
    · split
      · exact ⟨h.opn List.dropLast, rfl⟩
      · split
        · rename_i h7
          have := h.alias he h7
          exact ⟨this.1, by rw [this.2]⟩
        · rename_i h7
          have := h.node he h7
          exact ⟨this.1, by rw [this.2]⟩
end Dc
end Go.Proofs.YtgnmjaacnmkgnaaDoor.X
end
section
namespace Go.Proofs.Eng
open Go Go.RowKit
variable {P : Program}
theorem own_new {w : World} {B g : Nat} {e : TypeId} {v : Value} {n size : Nat} {xs : List Value} (O : w.ownsRow B e size v n xs) (hg : w.heap.size ≤ g) : ∀ b, some b = v.ownBlock → b ≠ g := fun b hb e => by
  have := (ownB O hb).2.1; omega
theorem own_sets_ap {w w1 : World} {B : Nat} {e : TypeId} {v : Value} {n size g : Nat} {xs : List Value} {o : Obj} (O : w.ownsRow B e size v n xs) (S : Sets w w1 g o) (h : ∀ b, some b = v.ownBlock → b ≠ g) : w1.ownsRow B e size v n xs := by
  refine ⟨O.1, ?_⟩
  rcases O.2 with h2 | ⟨b, cap, cur, rfl, hg, hh, r⟩
  · exact .inl h2
  · exact .inr ⟨b, cap, cur, rfl, hg, (S.far b (h b rfl)).trans hh, r⟩
end Go.Proofs.Eng
namespace Go.Proofs.YtgnmjaacnmkgnaaDoor.X
open Go.RowKit Go.Shelf Go.Proofs Go.Maps Go.WideMaps
set_option linter.unusedVariables false
set_option linter.unusedSimpArgs false
namespace Evt
structure Lz (n : Nat) (l : List Ev) : Prop where
  len : l.length ≤ n
  all : ∀ x ∈ l, x.text.size ≤ 2000 ∧ x.anchor.size ≤ 2002 ∧ x.tag.size ≤ 2000
theorem Lz.at_ {n : Nat} {l : List Ev} (h : Lz n l) {k : Nat} (hk : k < l.length) : (l.getD k default).text.size ≤ 2000 ∧ (l.getD k default).anchor.size ≤ 2002 ∧ (l.getD k default).tag.size ≤ 2000 := by
  refine h.all _ ?_
  rw [List.getD_eq_getElem?_getD, List.getElem?_eq_getElem hk]; exact List.getElem_mem hk
theorem Lz.text {n : Nat} {l : List Ev} (h : Lz n l) : ∀ k, k < l.length → (l.getD k default).text.size ≤ 2000 := fun k hk => (h.at_ hk).1
theorem Lz.anchor {n : Nat} {l : List Ev} (h : Lz n l) : ∀ k, k < l.length → (l.getD k default).anchor.size ≤ maxLen := fun k hk => Nat.le_trans (h.at_ hk).2.1 (by unfold maxLen; omega)
theorem Lz.tw {n : Nat} {l : List Ev} (h : Lz n l) (hn : n ≤ 100000) : Dc.TwAll ⟨[], [], []⟩ l := Tm.twall0 (Nat.le_trans h.len hn) fun x hx => ⟨(h.all x hx).2.2, (h.all x hx).1⟩
end Evt
namespace Dc
open Evt (Ev)
theorem apart_age {w w' : World} {B B' : Nat} {e e' : TypeId} {size n size' n' : Nat} {v v' : Value} {xs xs' : List Value} (O : w.ownsRow B e size v n xs) (O' : w'.ownsRow B' e' size' v' n' xs') (h : w.heap.size ≤ B') : Apart v v' := fun b hb he => by
  have h1 := (Eng.ownB O hb).2.1
  have h2 := (Eng.ownB O' he).1
  omega
theorem fin_small' {l : List Ev} {fin : List GV} {n : Nat} (h : l.length ≤ n) (hn : n ≤ 100000) (hm : fin.map (·.1) = (graphsF l).1) : fin.length ≤ 1000000 ∧ ∀ f ∈ fin, Sml 1000000 f.1 := by
  have hs := graphsF_small (l := l) (Nat.le_trans h (by omega))
  rw [← hm, List.length_map] at hs
  exact ⟨hs.1, fun f hf => hs.2 _ (List.mem_map.2 ⟨f, hf, rfl⟩)⟩
end Dc
end Go.Proofs.YtgnmjaacnmkgnaaDoor.X
end
section
namespace Go.Proofs.YtgnmjaacnmkgnaaDoor.X
open Go.RowKit Go.Shelf Go.Proofs Go.Maps
set_option linter.unusedVariables false
set_option linter.unusedSimpArgs false
namespace Dc
def idn (n : Nat) : List Int := (List.range n).map fun (i : Nat) => (i : Int)
theorem idn_len (n : Nat) : (idn n).length = n := by simp [idn]
theorem idn_at {n k : Nat} (h : k < n) : (idn n).getD k 0 = (k : Int) := by
  unfold idn; rw [List.getD_eq_getElem?_getD, List.getElem?_map, List.getElem?_range h]; rfl
theorem idn_succ (n : Nat) : idn (n + 1) = idn n ++ [(n : Int)] := by unfold idn; rw [List.range_succ, List.map_append]; rfl
def numL (n k : Nat) : List Int := idn k ++ List.replicate (n - k) 0
theorem numL_end (n : Nat) : numL n n = idn n := by unfold numL; rw [Nat.sub_self]; simp
theorem numL_step {n k : Nat} (h : k < n) : (numL n k).set k (k : Int) = numL n (k + 1) := by
  unfold numL
  obtain ⟨m, hm⟩ : ∃ m, n - k = m + 1 := ⟨n - k - 1, by omega⟩
  rw [hm, List.replicate_succ, List.set_append_right _ _ (by rw [idn_len]; exact Nat.le_refl _), idn_len, Nat.sub_self, List.set_cons_zero, idn_succ, List.append_assoc, show n - (k + 1) = m by omega]; rfl
theorem own_num {w : World} {B n k : Nat} {v : Value} (h : k < n) (O : w.ownsRow B 3 1 v n ((ints (numL n k)).set (k * 1) (.int .i64 (k : Int)))) : w.ownsRow B 3 1 v n (ints (numL n (k + 1))) := by
  rw [Nat.mul_one, ints_set, numL_step h] at O; exact O
theorem own_same {w : World} {B m : Nat} {v : Value} {l : List Int} (h : m < l.length) (O : w.ownsRow B 3 1 v l.length ((ints l).set (m * 1) (.int .i64 (l.getD m 0)))) : w.ownsRow B 3 1 v l.length (ints l) := by
  have e : l.set m (l.getD m 0) = l := by
    apply List.ext_getElem?
    intro i
    by_cases hi : m = i
    · subst hi; rw [List.getElem?_set_self h, List.getD_eq_getElem?_getD, List.getElem?_eq_getElem h]; rfl
    · rw [List.getElem?_set_ne hi]
  rw [Nat.mul_one, ints_set, e] at O; exact O
def ApA (hs : List NV) (v : Value) : Prop := ∀ x ∈ hs, Apart x.2 v
theorem KsO.ap {B : Nat} {w w' : World} {hs : List NV} {v : Value} (h : KsO B w hs) (G : w.grownBy w' v.ownBlock) (ha : ApA hs v) : KsO B w' hs := fun x hx => kept_ap (h x hx) G (ha x hx)
theorem KsO.apart {B B' : Nat} {w w' : World} {hs : List NV} {v : Value} {e : TypeId} {size n : Nat} {xs : List Value} (h : KsO B w hs) (O : w'.ownsRow B' e size v n xs) (hB : w.heap.size ≤ B') : ApA hs v := fun x hx => apart_age (h x hx) O hB
theorem own_snocM {w : World} {B : Nat} {v : Value} {hs : List NV} {n : Nd} {u : Value} (O : w.ownsRow B 57 4 v (hs.length + 1) (cells hs ++ [.int .i64 n.kind, .string n.tag, .string n.text, u])) : w.ownsRow B 57 4 v (hs ++ [(n, u)]).length (cells (hs ++ [(n, u)])) := by
  have e : cells (hs ++ [(n, u)]) = cells hs ++ [.int .i64 n.kind, .string n.tag, .string n.text, u] := by
    unfold cells; rw [List.flatMap_append]; rfl
  rw [e, List.length_append]; exact O
end Dc
end Go.Proofs.YtgnmjaacnmkgnaaDoor.X
end
