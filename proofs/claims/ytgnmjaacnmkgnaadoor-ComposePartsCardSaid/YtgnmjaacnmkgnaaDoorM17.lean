/- Words and walks that the row of ComposeParts needs: printed by programs, and plain laws. -/
import Derived.Test.YtgnmjaacnmkgnaaDoorM16
import Derived.Test.YtgnmjaacnmkgnaaDoorM3
namespace Go.Proofs.YtgnmjaacnmkgnaaDoorW.PrintWords
end Go.Proofs.YtgnmjaacnmkgnaaDoorW.PrintWords
namespace Go.Proofs.YtgnmjaacnmkgnaaDoorW.PrintLast
end Go.Proofs.YtgnmjaacnmkgnaaDoorW.PrintLast
namespace Go.Proofs.YtgnmjaacnmkgnaaDoorW.PrintMore
end Go.Proofs.YtgnmjaacnmkgnaaDoorW.PrintMore
section
namespace Go.Proofs.YtgnmjaacnmkgnaaDoor.X
open Go.RowKit Go.Shelf Go.Proofs Go.Proofs.YtgnmjaacnmkgnaaDoorW.PrintWords Go.Proofs.YtgnmjaacnmkgnaaDoorW.PrintLast Go.Proofs.YtgnmjaacnmkgnaaDoorW.PrintMore
set_option linter.unusedVariables false
set_option linter.unusedSimpArgs false
attribute [local go_sem] max2_int min2_int max_two min_two
set_option maxHeartbeats 4000000 in
set_option maxRecDepth 100000 in
theorem Dc.equal8_h (gv gv2 : Value) (h h2 : List Dc.NV) (w : World) (hF : Eng.Reads w gv h.length 4 (Dc.cells h)) (hK : Dc.KsR w h) (hF2 : Eng.Reads w gv2 h2.length 4 (Dc.cells h2)) (hK2 : Dc.KsR w h2) (he : h.map (·.1) = h2.map (·.1)) : Calls Tryd.prog 19 #[gv, gv2] w fun e w' => e = .returned (.bool true) ∧ Below w.heap.size w w' := by
 have hm := Eng.Reads.len_le hF
 have hlen := Dc.eq_len he
 refine Eng.enter Tryd.func19 rfl fun act0 d0 s0 v0 => ?_
 have s0 : act0.tmps.size = 97 := s0
 have h0_0 : act0.eval (.tmp 0) = gv := v0 0 (by simp)
 have h1_0 : act0.eval (.tmp 1) = gv2 := v0 1 (by simp)
 clear v0
 have bl0 : Below w.heap.size w w := Below.refl _ _
 refine wp_seq ?_
 refine Eng.regionS (Eng.still [fun u_ => u_ = .bool false]) (fun _ => .plain) 1 0 97 s0 rfl (by kernel_rfl) (Eng.still_stable _) (Or.inr (Eng.still_any _)) ?_ ?_
 ·refine .c ?_ (.nil)
  ·exact Eng.pv fun a w' H => Eng.vr rfl (Eng.run_assign rfl (rfl : a.eval (.const (.bool false)) = .bool false))
 intro act1 w1 T
 have h0_1 := T.r 0 h0_0
 have h1_1 := T.r 1 h1_0
 have Fgr_1 := Eng.Reads.below hF T.below
 have Fgr2_1 := Eng.Reads.below hF2 T.below
 have d1 := T.defers.trans d0
 have s1 := T.size.trans s0
 have bl1 := bl0.trans (T.below.mono bl0.size)
 clear T
 refine Eng.tail_nil ?_
 refine wp_seq ?_
 refine wp_seq ?_
 obtain ⟨q11, Bq11⟩ : ∃ b : Bool, b = (!(((h.length : Nat) : Int) == ((h2.length : Nat) : Int))) := ⟨_, rfl⟩
 refine Eng.regionS (Eng.still [fun u_ => u_ = gv, fun u_ => u_ = .int .i64 ((h.length : Nat) : Int), fun u_ => u_ = gv2, fun u_ => u_ = .int .i64 ((h2.length : Nat) : Int), fun u_ => u_ = .bool q11]) (fun _ => .plain) 5 0 97 s1 rfl (by kernel_rfl) (Eng.still_stable _) (Or.inr (Eng.still_any _)) ?_ ?_
 ·refine .c ?_ (.c ?_ (.c ?_ (.c ?_ (.c ?_ (.nil)))))
  ·exact Eng.pv fun a w' H => Eng.vr rfl (Eng.run_move rfl (H.q 0 h0_1))
  ·exact Eng.pv fun a w' H => Eng.vr (v := .int .i64 ((h.length : Nat) : Int)) rfl (Eng.run_len_sl rfl Tryd.underlying51 (show a.eval (.tmp 7) = gv from (H.d 0 7)) (Eng.Reads.below Fgr_1 H.below))
  ·exact Eng.pv fun a w' H => Eng.vr rfl (Eng.run_move rfl (H.q 1 h1_1))
  ·exact Eng.pv fun a w' H => Eng.vr (v := .int .i64 ((h2.length : Nat) : Int)) rfl (Eng.run_len_sl rfl Tryd.underlying51 (show a.eval (.tmp 9) = gv2 from (H.d 2 9)) (Eng.Reads.below Fgr2_1 H.below))
  ·refine Eng.pv fun a w' H => ?_
   refine Eng.vr (v := .bool (!(((h.length : Nat) : Int) == ((h2.length : Nat) : Int)))) (by show _ = Value.bool q11; rw [Bq11]) ?_
   have e0 : a.eval (.tmp 8) = .int .i64 ((h.length : Nat) : Int) := (H.d 1 8)
   have e1 : a.eval (.tmp 10) = .int .i64 ((h2.length : Nat) : Int) := (H.d 3 10)
   simp only [execOp, resolve, e0, e1]
   go_simp
 intro act2 w2 T
 have h0_2 := T.r 0 h0_1
 have h1_2 := T.r 1 h1_1
 have h11_2 : act2.eval (.tmp 11) = .bool q11 := T.done 4 11 rfl rfl
 have d2 := T.defers.trans d1
 have s2 := T.size.trans s1
 have bl2 := bl1.trans (T.below.mono bl1.size)
 clear T
 refine Eng.tail_nil ?_
 have n11 : q11 = false := by
  try simp only [Bq11]
  rw [hlen, beq_self_eq_true]; rfl
 refine wp_cond_false (h11_2.trans (by rw [n11])) ?_
 refine wp_skip ?_
 refine wp_seq ?_
 refine wp_seq ?_
 refine Eng.regionS (Eng.still [fun u_ => u_ = .int .i64 0]) (fun _ => .plain) 1 0 97 s2 rfl (by kernel_rfl) (Eng.still_stable _) (Or.inr (Eng.still_any _)) ?_ ?_
 ·refine .c ?_ (.nil)
  ·exact Eng.pv fun a w' H => Eng.vr rfl (Eng.run_assign rfl (rfl : a.eval (.const (.int .i64 0)) = .int .i64 0))
 intro act3 w3 T
 have h0_3 := T.r 0 h0_2
 have h1_3 := T.r 1 h1_2
 have h11_3 := T.r 11 h11_2
 have h5_3 : act3.eval (.tmp 5) = .int .i64 0 := T.done 0 5 rfl rfl
 have d3 := T.defers.trans d2
 have s3 := T.size.trans s2
 have bl3 := bl2.trans (T.below.mono bl2.size)
 clear T
 refine Eng.tail_nil ?_
 refine wp_block ?_
 refine Eng.loopN (fun n a w' => ∃ (k : Nat), h.length - k = n ∧ (k ≤ h.length) ∧ a.defers = [] ∧ a.tmps.size = 97 ∧ Below w.heap.size w w' ∧ a.eval (.tmp 0) = gv ∧ a.eval (.tmp 1) = gv2 ∧ a.eval (.tmp 5) = .int .i64 (k : Nat) ∧ a.eval (.tmp 11) = .bool q11) (n0 := h.length - 0) ?_ ?_
 ·exact ⟨0, rfl, by omega, d3, s3, bl3, h0_3, h1_3, (h5_3.trans (by first | rfl | (congr 1; rw [Eng.i64_id (by omega) (by omega)]; omega) | (simp; done))), h11_3⟩
 rintro n act4 w4 ⟨k, rfl, hc0_4, d4, s4, bl4, h0_4, h1_4, h5_4, h11_4⟩
 have Fgr_4 := Eng.Reads.below hF bl4
 have Fgr2_4 := Eng.Reads.below hF2 bl4
 have hk1 := hc0_4
 refine wp_seq ?_
 refine wp_seq ?_
 obtain ⟨q15, Bq15⟩ : ∃ b : Bool, b = (decide ((k : Nat) < ((h.length : Nat) : Int))) := ⟨_, rfl⟩
 refine Eng.regionS (Eng.still [fun u_ => u_ = .int .i64 (k : Nat), fun u_ => u_ = gv, fun u_ => u_ = .int .i64 ((h.length : Nat) : Int), fun u_ => u_ = .bool q15]) (fun _ => .plain) 4 0 97 s4 rfl (by kernel_rfl) (Eng.still_stable _) (Or.inr (Eng.still_any _)) ?_ ?_
 ·refine .c ?_ (.c ?_ (.c ?_ (.c ?_ (.nil))))
  ·exact Eng.pv fun a w' H => Eng.vr rfl (Eng.run_move rfl (H.q 5 h5_4))
  ·exact Eng.pv fun a w' H => Eng.vr rfl (Eng.run_move rfl (H.q 0 h0_4))
  ·exact Eng.pv fun a w' H => Eng.vr (v := .int .i64 ((h.length : Nat) : Int)) rfl (Eng.run_len_sl rfl Tryd.underlying51 (show a.eval (.tmp 13) = gv from (H.d 1 13)) (Eng.Reads.below Fgr_4 H.below))
  ·refine Eng.pv fun a w' H => ?_
   refine Eng.vr (v := .bool (decide ((k : Nat) < ((h.length : Nat) : Int)))) (by show _ = Value.bool q15; rw [Bq15]) ?_
   have e0 : a.eval (.tmp 12) = .int .i64 (k : Nat) := (H.d 0 12)
   have e1 : a.eval (.tmp 14) = .int .i64 ((h.length : Nat) : Int) := (H.d 2 14)
   simp only [execOp, resolve, e0, e1]
   go_simp
 intro act5 w5 T
 have h0_5 := T.r 0 h0_4
 have h1_5 := T.r 1 h1_4
 have h5_5 := T.r 5 h5_4
 have h11_5 := T.r 11 h11_4
 have Fgr_5 := Eng.Reads.below Fgr_4 T.below
 have Fgr2_5 := Eng.Reads.below Fgr2_4 T.below
 have h15_5 : act5.eval (.tmp 15) = .bool q15 := T.done 3 15 rfl rfl
 have d5 := T.defers.trans d4
 have s5 := T.size.trans s4
 have bl5 := bl4.trans (T.below.mono bl4.size)
 clear T
 refine Eng.tail_nil ?_
 refine wp_cond_split h15_5 (fun hq => ?_) (fun hq => ?_)
 ·
  have c15 := Bq15.symm.trans hq
  clear hq
  have c15 := of_decide_eq_true c15
  have hk0 : k < h.length := by omega
  have hk2 : k < h2.length := by omega
  obtain ⟨nk, Hnk⟩ : ∃ n, n = (h.getD k default).1 := ⟨_, rfl⟩
  have Hn2 : nk = (h2.getD k default).1 := Hnk.trans (Dc.eq_at he k)
  have ck1 := Dc.cell_kind h k hk0
  have ct1 := Dc.cell_tag h k hk0
  have cx1 := Dc.cell_text h k hk0
  have cq1 := Dc.cell_kids h k hk0
  have Fq1 := hK.at_ hk0
  obtain ⟨kv1, hkv1⟩ : ∃ v, v = (h.getD k default).2 := ⟨_, rfl⟩
  rw [← Hnk] at ck1 ct1 cx1
  rw [← hkv1] at cq1
  rw [← Hnk, ← hkv1] at Fq1
  clear hkv1
  have Fk1_7 := Eng.Reads.below Fq1 bl5
  have ck2 := Dc.cell_kind h2 k hk2
  have ct2 := Dc.cell_tag h2 k hk2
  have cx2 := Dc.cell_text h2 k hk2
  have cq2 := Dc.cell_kids h2 k hk2
  have Fq2 := hK2.at_ hk2
  obtain ⟨kv2, hkv2⟩ : ∃ v, v = (h2.getD k default).2 := ⟨_, rfl⟩
  rw [← Hn2] at ck2 ct2 cx2
  rw [← hkv2] at cq2
  rw [← Hn2, ← hkv2] at Fq2
  clear hkv2
  have Fk2_7 := Eng.Reads.below Fq2 bl5
  have hkl := Eng.Reads.len_le Fq1
  refine wp_skip ?_
  refine wp_seq ?_
  refine wp_block ?_
  refine wp_seq ?_
  refine wp_seq ?_
  refine Eng.regionD (Eng.still [fun u_ => u_ = gv, fun u_ => u_ = .int .i64 (k : Nat), fun u_ => u_ = Eng.elemPtr gv (k * 4), fun u_ => u_ = Eng.elemPtr gv (k * 4 + 0), fun u_ => u_ = .int .i64 nk.kind, fun u_ => u_ = gv2, fun u_ => u_ = .int .i64 (k : Nat), fun u_ => u_ = Eng.elemPtr gv2 (k * 4), fun u_ => u_ = Eng.elemPtr gv2 (k * 4 + 0), fun u_ => u_ = .int .i64 nk.kind, fun u_ => u_ = .bool false, fun u_ => u_ = .bool false, fun u_ => u_ = gv, fun u_ => u_ = .int .i64 (k : Nat), fun u_ => u_ = Eng.elemPtr gv (k * 4), fun u_ => u_ = Eng.elemPtr gv (k * 4 + 1), fun u_ => u_ = .string nk.tag, fun u_ => u_ = gv2, fun u_ => u_ = .int .i64 (k : Nat), fun u_ => u_ = Eng.elemPtr gv2 (k * 4), fun u_ => u_ = Eng.elemPtr gv2 (k * 4 + 1), fun u_ => u_ = .string nk.tag, fun u_ => u_ = .bool false, fun u_ => u_ = .bool false, fun u_ => u_ = .bool false, fun u_ => u_ = gv, fun u_ => u_ = .int .i64 (k : Nat), fun u_ => u_ = Eng.elemPtr gv (k * 4), fun u_ => u_ = Eng.elemPtr gv (k * 4 + 2), fun u_ => u_ = .string nk.text, fun u_ => u_ = gv2, fun u_ => u_ = .int .i64 (k : Nat), fun u_ => u_ = Eng.elemPtr gv2 (k * 4), fun u_ => u_ = Eng.elemPtr gv2 (k * 4 + 2), fun u_ => u_ = .string nk.text, fun u_ => u_ = .bool false, fun u_ => u_ = .bool false, fun u_ => u_ = .bool false, fun u_ => u_ = gv, fun u_ => u_ = .int .i64 (k : Nat), fun u_ => u_ = Eng.elemPtr gv (k * 4), fun u_ => u_ = Eng.elemPtr gv (k * 4 + 3), fun u_ => u_ = kv1, fun u_ => u_ = .int .i64 ((nk.kids.length : Nat) : Int), fun u_ => u_ = gv2, fun u_ => u_ = .int .i64 (k : Nat), fun u_ => u_ = Eng.elemPtr gv2 (k * 4), fun u_ => u_ = Eng.elemPtr gv2 (k * 4 + 3), fun u_ => u_ = kv2, fun u_ => u_ = .int .i64 ((nk.kids.length : Nat) : Int), fun u_ => u_ = .bool false, fun u_ => u_ = .bool false]) (fun _ => .plain) 52 0 97 (by kernel_rfl) s5 rfl (by kernel_rfl) (Eng.still_stable _) (Or.inr (Eng.still_any _)) ?_ ?_
  ·refine .c ?_ (.c ?_ (.c ?_ (.c ?_ (.c ?_ (.c ?_ (.c ?_ (.c ?_ (.c ?_ (.c ?_ (.c ?_ (.c ?_ (.c ?_ (.c ?_ (.c ?_ (.c ?_ (.c ?_ (.c ?_ (.c ?_ (.c ?_ (.c ?_ (.c ?_ (.c ?_ (.c ?_ (.c ?_ (.c ?_ (.c ?_ (.c ?_ (.c ?_ (.c ?_ (.c ?_ (.c ?_ (.c ?_ (.c ?_ (.c ?_ (.c ?_ (.c ?_ (.c ?_ (.c ?_ (.c ?_ (.c ?_ (.c ?_ (.c ?_ (.c ?_ (.c ?_ (.c ?_ (.c ?_ (.c ?_ (.c ?_ (.c ?_ (.c ?_ (.c ?_ (.nil))))))))))))))))))))))))))))))))))))))))))))))))))))
   ·exact Eng.pv fun a w' H => Eng.vr rfl (Eng.run_move rfl (H.q 0 h0_5))
   ·exact Eng.pv fun a w' H => Eng.vr rfl (Eng.run_move rfl (H.q 5 h5_5))
   ·exact Eng.pv fun a w' H => Eng.vr (v := Eng.elemPtr gv (k * 4)) rfl (Eng.run_index_sl rfl Tryd.underlying51 (by kernel_rfl) (show a.eval (.tmp 18) = gv from (H.d 0 18)) ((show a.eval (.tmp 19) = .int .i64 (k : Nat) from (H.d 1 19)).trans (congrArg (Value.int _) (show (k : Nat) = ((k : Nat) : Int) from by omega))) (Eng.Reads.below Fgr_5 H.below) (by omega) rfl)
   ·exact Eng.pv fun a w' H => Eng.vr (v := Eng.elemPtr gv (k * 4 + 0)) rfl (Eng.run_field_el rfl Tryd.underlying81 0 (by kernel_rfl) (show a.eval (.tmp 20) = Eng.elemPtr gv (k * 4) from (H.d 2 20)) (Eng.Reads.below Fgr_5 H.below) (by have h_ : k < h.length := (by omega); omega))
   ·exact Eng.pv fun a w' H => Eng.vr (v := .int .i64 nk.kind) rfl (Eng.run_load_el (.int .i64 nk.kind) rfl (show a.eval (.tmp 21) = Eng.elemPtr gv (k * 4 + 0) from (H.d 3 21)) (Eng.Reads.below Fgr_5 H.below) (ck1) (by kernel_rfl))
   ·exact Eng.pv fun a w' H => Eng.vr rfl (Eng.run_move rfl (H.q 1 h1_5))
   ·exact Eng.pv fun a w' H => Eng.vr rfl (Eng.run_move rfl (H.q 5 h5_5))
   ·exact Eng.pv fun a w' H => Eng.vr (v := Eng.elemPtr gv2 (k * 4)) rfl (Eng.run_index_sl rfl Tryd.underlying51 (by kernel_rfl) (show a.eval (.tmp 23) = gv2 from (H.d 5 23)) ((show a.eval (.tmp 24) = .int .i64 (k : Nat) from (H.d 6 24)).trans (congrArg (Value.int _) (show (k : Nat) = ((k : Nat) : Int) from by omega))) (Eng.Reads.below Fgr2_5 H.below) (by omega) rfl)
   ·exact Eng.pv fun a w' H => Eng.vr (v := Eng.elemPtr gv2 (k * 4 + 0)) rfl (Eng.run_field_el rfl Tryd.underlying81 0 (by kernel_rfl) (show a.eval (.tmp 25) = Eng.elemPtr gv2 (k * 4) from (H.d 7 25)) (Eng.Reads.below Fgr2_5 H.below) (by have h_ : k < h2.length := (by omega); omega))
   ·exact Eng.pv fun a w' H => Eng.vr (v := .int .i64 nk.kind) rfl (Eng.run_load_el (.int .i64 nk.kind) rfl (show a.eval (.tmp 26) = Eng.elemPtr gv2 (k * 4 + 0) from (H.d 8 26)) (Eng.Reads.below Fgr2_5 H.below) (ck2) (by kernel_rfl))
   ·refine Eng.pv fun a w' H => ?_
    refine Eng.vr (v := .bool (!(nk.kind == nk.kind))) (by show _ = Value.bool false; rw [show (!(nk.kind == nk.kind)) = false from (by rw [beq_self_eq_true]; rfl)]) ?_
    have e0 : a.eval (.tmp 22) = .int .i64 nk.kind := (H.d 4 22)
    have e1 : a.eval (.tmp 27) = .int .i64 nk.kind := (H.d 9 27)
    simp only [execOp, resolve, e0, e1]
    go_simp
   ·exact Eng.pv fun a w' H => Eng.vr rfl (Eng.run_move rfl (H.d 10 28))
   ·refine Eng.guardedT (j := 11) (d := 29) rfl rfl (by kernel_rfl) rfl (fun v w h => h) fun a w' H => ?_
    exact Eng.val (w1 := w') (v := gv) (Eng.run_move rfl (H.q 0 h0_5)) (Below.refl _ _) rfl
   ·refine Eng.guardedT (j := 11) (d := 29) rfl rfl (by kernel_rfl) rfl (fun v w h => h) fun a w' H => ?_
    exact Eng.val (w1 := w') (v := .int .i64 (k : Nat)) (Eng.run_move rfl (H.q 5 h5_5)) (Below.refl _ _) rfl
   ·refine Eng.guardedT (j := 11) (d := 29) rfl rfl (by kernel_rfl) rfl (fun v w h => h) fun a w' H => ?_
    refine Eng.vr (v := Eng.elemPtr gv (k * 4)) rfl ?_
    exact Eng.run_index_sl rfl Tryd.underlying51 (by kernel_rfl) (show a.eval (.tmp 30) = gv from (H.d 12 30)) ((show a.eval (.tmp 31) = .int .i64 (k : Nat) from (H.d 13 31)).trans (congrArg (Value.int _) (show (k : Nat) = ((k : Nat) : Int) from by omega))) (Eng.Reads.below Fgr_5 H.below) (by omega) rfl
   ·refine Eng.guardedT (j := 11) (d := 29) rfl rfl (by kernel_rfl) rfl (fun v w h => h) fun a w' H => ?_
    refine Eng.vr (v := Eng.elemPtr gv (k * 4 + 1)) rfl ?_
    exact Eng.run_field_el rfl Tryd.underlying81 1 (by kernel_rfl) (show a.eval (.tmp 32) = Eng.elemPtr gv (k * 4) from (H.d 14 32)) (Eng.Reads.below Fgr_5 H.below) (by have h_ : k < h.length := (by omega); omega)
   ·refine Eng.guardedT (j := 11) (d := 29) rfl rfl (by kernel_rfl) rfl (fun v w h => h) fun a w' H => ?_
    refine Eng.vr (v := .string nk.tag) rfl ?_
    exact Eng.run_load_el (.string nk.tag) rfl (show a.eval (.tmp 33) = Eng.elemPtr gv (k * 4 + 1) from (H.d 15 33)) (Eng.Reads.below Fgr_5 H.below) (ct1) (by kernel_rfl)
   ·refine Eng.guardedT (j := 11) (d := 29) rfl rfl (by kernel_rfl) rfl (fun v w h => h) fun a w' H => ?_
    exact Eng.val (w1 := w') (v := gv2) (Eng.run_move rfl (H.q 1 h1_5)) (Below.refl _ _) rfl
   ·refine Eng.guardedT (j := 11) (d := 29) rfl rfl (by kernel_rfl) rfl (fun v w h => h) fun a w' H => ?_
    exact Eng.val (w1 := w') (v := .int .i64 (k : Nat)) (Eng.run_move rfl (H.q 5 h5_5)) (Below.refl _ _) rfl
   ·refine Eng.guardedT (j := 11) (d := 29) rfl rfl (by kernel_rfl) rfl (fun v w h => h) fun a w' H => ?_
    refine Eng.vr (v := Eng.elemPtr gv2 (k * 4)) rfl ?_
    exact Eng.run_index_sl rfl Tryd.underlying51 (by kernel_rfl) (show a.eval (.tmp 35) = gv2 from (H.d 17 35)) ((show a.eval (.tmp 36) = .int .i64 (k : Nat) from (H.d 18 36)).trans (congrArg (Value.int _) (show (k : Nat) = ((k : Nat) : Int) from by omega))) (Eng.Reads.below Fgr2_5 H.below) (by omega) rfl
   ·refine Eng.guardedT (j := 11) (d := 29) rfl rfl (by kernel_rfl) rfl (fun v w h => h) fun a w' H => ?_
    refine Eng.vr (v := Eng.elemPtr gv2 (k * 4 + 1)) rfl ?_
    exact Eng.run_field_el rfl Tryd.underlying81 1 (by kernel_rfl) (show a.eval (.tmp 37) = Eng.elemPtr gv2 (k * 4) from (H.d 19 37)) (Eng.Reads.below Fgr2_5 H.below) (by have h_ : k < h2.length := (by omega); omega)
   ·refine Eng.guardedT (j := 11) (d := 29) rfl rfl (by kernel_rfl) rfl (fun v w h => h) fun a w' H => ?_
    refine Eng.vr (v := .string nk.tag) rfl ?_
    exact Eng.run_load_el (.string nk.tag) rfl (show a.eval (.tmp 38) = Eng.elemPtr gv2 (k * 4 + 1) from (H.d 20 38)) (Eng.Reads.below Fgr2_5 H.below) (ct2) (by kernel_rfl)
   ·refine Eng.guardedT (j := 11) (d := 29) rfl rfl (by kernel_rfl) rfl (fun v w h => h) fun a w' H => ?_
    refine Eng.vr (v := .bool (!(nk.tag.toList == nk.tag.toList))) (by show _ = Value.bool false; rw [show (!(nk.tag.toList == nk.tag.toList)) = false from (by rw [beq_self_eq_true]; rfl)]) ?_
    have e0 : a.eval (.tmp 34) = .string nk.tag := (H.d 16 34)
    have e1 : a.eval (.tmp 39) = .string nk.tag := (H.d 21 39)
    simp only [execOp, resolve, e0, e1]
    go_simp
   ·exact Eng.pv fun a w' H => Eng.vr rfl (Eng.run_or rfl rfl (G := true) (H.d 11 29) (fun hb => (H.d 22 40)))
   ·exact Eng.pv fun a w' H => Eng.vr rfl (Eng.run_move rfl (H.d 23 41))
   ·refine Eng.guardedT (j := 24) (d := 42) rfl rfl (by kernel_rfl) rfl (fun v w h => h) fun a w' H => ?_
    exact Eng.val (w1 := w') (v := gv) (Eng.run_move rfl (H.q 0 h0_5)) (Below.refl _ _) rfl
   ·refine Eng.guardedT (j := 24) (d := 42) rfl rfl (by kernel_rfl) rfl (fun v w h => h) fun a w' H => ?_
    exact Eng.val (w1 := w') (v := .int .i64 (k : Nat)) (Eng.run_move rfl (H.q 5 h5_5)) (Below.refl _ _) rfl
   ·refine Eng.guardedT (j := 24) (d := 42) rfl rfl (by kernel_rfl) rfl (fun v w h => h) fun a w' H => ?_
    refine Eng.vr (v := Eng.elemPtr gv (k * 4)) rfl ?_
    exact Eng.run_index_sl rfl Tryd.underlying51 (by kernel_rfl) (show a.eval (.tmp 43) = gv from (H.d 25 43)) ((show a.eval (.tmp 44) = .int .i64 (k : Nat) from (H.d 26 44)).trans (congrArg (Value.int _) (show (k : Nat) = ((k : Nat) : Int) from by omega))) (Eng.Reads.below Fgr_5 H.below) (by omega) rfl
   ·refine Eng.guardedT (j := 24) (d := 42) rfl rfl (by kernel_rfl) rfl (fun v w h => h) fun a w' H => ?_
    refine Eng.vr (v := Eng.elemPtr gv (k * 4 + 2)) rfl ?_
    exact Eng.run_field_el rfl Tryd.underlying81 2 (by kernel_rfl) (show a.eval (.tmp 45) = Eng.elemPtr gv (k * 4) from (H.d 27 45)) (Eng.Reads.below Fgr_5 H.below) (by have h_ : k < h.length := (by omega); omega)
   ·refine Eng.guardedT (j := 24) (d := 42) rfl rfl (by kernel_rfl) rfl (fun v w h => h) fun a w' H => ?_
    refine Eng.vr (v := .string nk.text) rfl ?_
    exact Eng.run_load_el (.string nk.text) rfl (show a.eval (.tmp 46) = Eng.elemPtr gv (k * 4 + 2) from (H.d 28 46)) (Eng.Reads.below Fgr_5 H.below) (cx1) (by kernel_rfl)
   ·refine Eng.guardedT (j := 24) (d := 42) rfl rfl (by kernel_rfl) rfl (fun v w h => h) fun a w' H => ?_
    exact Eng.val (w1 := w') (v := gv2) (Eng.run_move rfl (H.q 1 h1_5)) (Below.refl _ _) rfl
   ·refine Eng.guardedT (j := 24) (d := 42) rfl rfl (by kernel_rfl) rfl (fun v w h => h) fun a w' H => ?_
    exact Eng.val (w1 := w') (v := .int .i64 (k : Nat)) (Eng.run_move rfl (H.q 5 h5_5)) (Below.refl _ _) rfl
   ·refine Eng.guardedT (j := 24) (d := 42) rfl rfl (by kernel_rfl) rfl (fun v w h => h) fun a w' H => ?_
    refine Eng.vr (v := Eng.elemPtr gv2 (k * 4)) rfl ?_
    exact Eng.run_index_sl rfl Tryd.underlying51 (by kernel_rfl) (show a.eval (.tmp 48) = gv2 from (H.d 30 48)) ((show a.eval (.tmp 49) = .int .i64 (k : Nat) from (H.d 31 49)).trans (congrArg (Value.int _) (show (k : Nat) = ((k : Nat) : Int) from by omega))) (Eng.Reads.below Fgr2_5 H.below) (by omega) rfl
   ·refine Eng.guardedT (j := 24) (d := 42) rfl rfl (by kernel_rfl) rfl (fun v w h => h) fun a w' H => ?_
    refine Eng.vr (v := Eng.elemPtr gv2 (k * 4 + 2)) rfl ?_
    exact Eng.run_field_el rfl Tryd.underlying81 2 (by kernel_rfl) (show a.eval (.tmp 50) = Eng.elemPtr gv2 (k * 4) from (H.d 32 50)) (Eng.Reads.below Fgr2_5 H.below) (by have h_ : k < h2.length := (by omega); omega)
   ·refine Eng.guardedT (j := 24) (d := 42) rfl rfl (by kernel_rfl) rfl (fun v w h => h) fun a w' H => ?_
    refine Eng.vr (v := .string nk.text) rfl ?_
    exact Eng.run_load_el (.string nk.text) rfl (show a.eval (.tmp 51) = Eng.elemPtr gv2 (k * 4 + 2) from (H.d 33 51)) (Eng.Reads.below Fgr2_5 H.below) (cx2) (by kernel_rfl)
   ·refine Eng.guardedT (j := 24) (d := 42) rfl rfl (by kernel_rfl) rfl (fun v w h => h) fun a w' H => ?_
    refine Eng.vr (v := .bool (!(nk.text.toList == nk.text.toList))) (by show _ = Value.bool false; rw [show (!(nk.text.toList == nk.text.toList)) = false from (by rw [beq_self_eq_true]; rfl)]) ?_
    have e0 : a.eval (.tmp 47) = .string nk.text := (H.d 29 47)
    have e1 : a.eval (.tmp 52) = .string nk.text := (H.d 34 52)
    simp only [execOp, resolve, e0, e1]
    go_simp
   ·exact Eng.pv fun a w' H => Eng.vr rfl (Eng.run_or rfl rfl (G := true) (H.d 24 42) (fun hb => (H.d 35 53)))
   ·exact Eng.pv fun a w' H => Eng.vr rfl (Eng.run_move rfl (H.d 36 54))
   ·refine Eng.guardedT (j := 37) (d := 55) rfl rfl (by kernel_rfl) rfl (fun v w h => h) fun a w' H => ?_
    exact Eng.val (w1 := w') (v := gv) (Eng.run_move rfl (H.q 0 h0_5)) (Below.refl _ _) rfl
   ·refine Eng.guardedT (j := 37) (d := 55) rfl rfl (by kernel_rfl) rfl (fun v w h => h) fun a w' H => ?_
    exact Eng.val (w1 := w') (v := .int .i64 (k : Nat)) (Eng.run_move rfl (H.q 5 h5_5)) (Below.refl _ _) rfl
   ·refine Eng.guardedT (j := 37) (d := 55) rfl rfl (by kernel_rfl) rfl (fun v w h => h) fun a w' H => ?_
    refine Eng.vr (v := Eng.elemPtr gv (k * 4)) rfl ?_
    exact Eng.run_index_sl rfl Tryd.underlying51 (by kernel_rfl) (show a.eval (.tmp 56) = gv from (H.d 38 56)) ((show a.eval (.tmp 57) = .int .i64 (k : Nat) from (H.d 39 57)).trans (congrArg (Value.int _) (show (k : Nat) = ((k : Nat) : Int) from by omega))) (Eng.Reads.below Fgr_5 H.below) (by omega) rfl
   ·refine Eng.guardedT (j := 37) (d := 55) rfl rfl (by kernel_rfl) rfl (fun v w h => h) fun a w' H => ?_
    refine Eng.vr (v := Eng.elemPtr gv (k * 4 + 3)) rfl ?_
    exact Eng.run_field_el rfl Tryd.underlying81 3 (by kernel_rfl) (show a.eval (.tmp 58) = Eng.elemPtr gv (k * 4) from (H.d 40 58)) (Eng.Reads.below Fgr_5 H.below) (by have h_ : k < h.length := (by omega); omega)
   ·refine Eng.guardedT (j := 37) (d := 55) rfl rfl (by kernel_rfl) rfl (fun v w h => h) fun a w' H => ?_
    refine Eng.vr (v := kv1) rfl ?_
    exact Eng.run_load_el (kv1) rfl (show a.eval (.tmp 59) = Eng.elemPtr gv (k * 4 + 3) from (H.d 41 59)) (Eng.Reads.below Fgr_5 H.below) (cq1) (by kernel_rfl)
   ·refine Eng.guardedT (j := 37) (d := 55) rfl rfl (by kernel_rfl) rfl (fun v w h => h) fun a w' H => ?_
    refine Eng.vr (v := .int .i64 ((nk.kids.length : Nat) : Int)) rfl ?_
    exact Eng.run_len_sl rfl Tryd.underlying55 (show a.eval (.tmp 60) = kv1 from (H.d 42 60)) (Eng.Reads.below Fk1_7 H.below)
   ·refine Eng.guardedT (j := 37) (d := 55) rfl rfl (by kernel_rfl) rfl (fun v w h => h) fun a w' H => ?_
    exact Eng.val (w1 := w') (v := gv2) (Eng.run_move rfl (H.q 1 h1_5)) (Below.refl _ _) rfl
   ·refine Eng.guardedT (j := 37) (d := 55) rfl rfl (by kernel_rfl) rfl (fun v w h => h) fun a w' H => ?_
    exact Eng.val (w1 := w') (v := .int .i64 (k : Nat)) (Eng.run_move rfl (H.q 5 h5_5)) (Below.refl _ _) rfl
   ·refine Eng.guardedT (j := 37) (d := 55) rfl rfl (by kernel_rfl) rfl (fun v w h => h) fun a w' H => ?_
    refine Eng.vr (v := Eng.elemPtr gv2 (k * 4)) rfl ?_
    exact Eng.run_index_sl rfl Tryd.underlying51 (by kernel_rfl) (show a.eval (.tmp 62) = gv2 from (H.d 44 62)) ((show a.eval (.tmp 63) = .int .i64 (k : Nat) from (H.d 45 63)).trans (congrArg (Value.int _) (show (k : Nat) = ((k : Nat) : Int) from by omega))) (Eng.Reads.below Fgr2_5 H.below) (by omega) rfl
   ·refine Eng.guardedT (j := 37) (d := 55) rfl rfl (by kernel_rfl) rfl (fun v w h => h) fun a w' H => ?_
    refine Eng.vr (v := Eng.elemPtr gv2 (k * 4 + 3)) rfl ?_
    exact Eng.run_field_el rfl Tryd.underlying81 3 (by kernel_rfl) (show a.eval (.tmp 64) = Eng.elemPtr gv2 (k * 4) from (H.d 46 64)) (Eng.Reads.below Fgr2_5 H.below) (by have h_ : k < h2.length := (by omega); omega)
   ·refine Eng.guardedT (j := 37) (d := 55) rfl rfl (by kernel_rfl) rfl (fun v w h => h) fun a w' H => ?_
    refine Eng.vr (v := kv2) rfl ?_
    exact Eng.run_load_el (kv2) rfl (show a.eval (.tmp 65) = Eng.elemPtr gv2 (k * 4 + 3) from (H.d 47 65)) (Eng.Reads.below Fgr2_5 H.below) (cq2) (by kernel_rfl)
   ·refine Eng.guardedT (j := 37) (d := 55) rfl rfl (by kernel_rfl) rfl (fun v w h => h) fun a w' H => ?_
    refine Eng.vr (v := .int .i64 ((nk.kids.length : Nat) : Int)) rfl ?_
    exact Eng.run_len_sl rfl Tryd.underlying55 (show a.eval (.tmp 66) = kv2 from (H.d 48 66)) (Eng.Reads.below Fk2_7 H.below)
   ·refine Eng.guardedT (j := 37) (d := 55) rfl rfl (by kernel_rfl) rfl (fun v w h => h) fun a w' H => ?_
    refine Eng.vr (v := .bool (!(((nk.kids.length : Nat) : Int) == ((nk.kids.length : Nat) : Int)))) (by show _ = Value.bool false; rw [show (!(((nk.kids.length : Nat) : Int) == ((nk.kids.length : Nat) : Int))) = false from (by rw [beq_self_eq_true]; rfl)]) ?_
    have e0 : a.eval (.tmp 61) = .int .i64 ((nk.kids.length : Nat) : Int) := (H.d 43 61)
    have e1 : a.eval (.tmp 67) = .int .i64 ((nk.kids.length : Nat) : Int) := (H.d 49 67)
    simp only [execOp, resolve, e0, e1]
    go_simp
   ·exact Eng.pv fun a w' H => Eng.vr rfl (Eng.run_or rfl rfl (G := true) (H.d 37 55) (fun hb => (H.d 50 68)))
  intro act8 w8 T
  have h0_8 := T.r 0 h0_5
  have h1_8 := T.r 1 h1_5
  have h5_8 := T.r 5 h5_5
  have h11_8 := T.r 11 h11_5
  have h15_8 := T.r 15 h15_5
  have h69_8 : act8.eval (.tmp 69) = .bool false := T.done 51 69 rfl rfl
  have d8 := T.defers.trans d5
  have s8 := T.size.trans s5
  have bl8 := bl5.trans (T.below.mono bl5.size)
  clear T
  refine Eng.tail_nil ?_
  have n69 : false = false := by
   rfl
  refine wp_cond_false (h69_8.trans (by rw [n69])) ?_
  refine wp_skip ?_
  refine wp_seq ?_
  refine Eng.regionS (Eng.still [fun u_ => u_ = .int .i64 0]) (fun _ => .plain) 1 0 97 s8 rfl (by kernel_rfl) (Eng.still_stable _) (Or.inr (Eng.still_any _)) ?_ ?_
  ·refine .c ?_ (.nil)
   ·exact Eng.pv fun a w' H => Eng.vr rfl (Eng.run_assign rfl (rfl : a.eval (.const (.int .i64 0)) = .int .i64 0))
  intro act9 w9 T
  have h0_9 := T.r 0 h0_8
  have h1_9 := T.r 1 h1_8
  have h5_9 := T.r 5 h5_8
  have h11_9 := T.r 11 h11_8
  have h15_9 := T.r 15 h15_8
  have h69_9 := T.r 69 h69_8
  have h6_9 : act9.eval (.tmp 6) = .int .i64 0 := T.done 0 6 rfl rfl
  have d9 := T.defers.trans d8
  have s9 := T.size.trans s8
  have bl9 := bl8.trans (T.below.mono bl8.size)
  clear T
  refine Eng.tail_nil ?_
  refine wp_block ?_
  refine Eng.loopN (fun n a w' => ∃ (m : Nat), nk.kids.length - m = n ∧ (m ≤ nk.kids.length) ∧ a.defers = [] ∧ a.tmps.size = 97 ∧ Below w.heap.size w w' ∧ a.eval (.tmp 0) = gv ∧ a.eval (.tmp 1) = gv2 ∧ a.eval (.tmp 5) = .int .i64 (k : Nat) ∧ a.eval (.tmp 6) = .int .i64 (m : Nat) ∧ a.eval (.tmp 11) = .bool q11 ∧ a.eval (.tmp 15) = .bool q15 ∧ a.eval (.tmp 69) = .bool false) (n0 := nk.kids.length - 0) ?_ ?_
  ·exact ⟨0, rfl, Nat.zero_le _, d9, s9, bl9, h0_9, h1_9, h5_9, (h6_9.trans (by first | rfl | (congr 1; rw [Eng.i64_id (by omega) (by omega)]; omega) | (simp; done))), h11_9, h15_9, h69_9⟩
  rintro n act10 w10 ⟨m, rfl, hc0_10, d10, s10, bl10, h0_10, h1_10, h5_10, h6_10, h11_10, h15_10, h69_10⟩
  have Fgr_10 := Eng.Reads.below hF bl10
  have Fgr2_10 := Eng.Reads.below hF2 bl10
  have Fk1_10 := Eng.Reads.below Fq1 bl10
  have Fk2_10 := Eng.Reads.below Fq2 bl10
  have hm1 := hc0_10
  refine wp_seq ?_
  refine wp_seq ?_
  obtain ⟨q77, Bq77⟩ : ∃ b : Bool, b = (decide ((m : Nat) < ((nk.kids.length : Nat) : Int))) := ⟨_, rfl⟩
  refine Eng.regionS (Eng.still [fun u_ => u_ = .int .i64 (m : Nat), fun u_ => u_ = gv, fun u_ => u_ = .int .i64 (k : Nat), fun u_ => u_ = Eng.elemPtr gv (k * 4), fun u_ => u_ = Eng.elemPtr gv (k * 4 + 3), fun u_ => u_ = kv1, fun u_ => u_ = .int .i64 ((nk.kids.length : Nat) : Int), fun u_ => u_ = .bool q77]) (fun _ => .plain) 8 0 97 s10 rfl (by kernel_rfl) (Eng.still_stable _) (Or.inr (Eng.still_any _)) ?_ ?_
  ·refine .c ?_ (.c ?_ (.c ?_ (.c ?_ (.c ?_ (.c ?_ (.c ?_ (.c ?_ (.nil))))))))
   ·exact Eng.pv fun a w' H => Eng.vr rfl (Eng.run_move rfl (H.q 6 h6_10))
   ·exact Eng.pv fun a w' H => Eng.vr rfl (Eng.run_move rfl (H.q 0 h0_10))
   ·exact Eng.pv fun a w' H => Eng.vr rfl (Eng.run_move rfl (H.q 5 h5_10))
   ·exact Eng.pv fun a w' H => Eng.vr (v := Eng.elemPtr gv (k * 4)) rfl (Eng.run_index_sl rfl Tryd.underlying51 (by kernel_rfl) (show a.eval (.tmp 71) = gv from (H.d 1 71)) ((show a.eval (.tmp 72) = .int .i64 (k : Nat) from (H.d 2 72)).trans (congrArg (Value.int _) (show (k : Nat) = ((k : Nat) : Int) from by omega))) (Eng.Reads.below Fgr_10 H.below) (by omega) rfl)
   ·exact Eng.pv fun a w' H => Eng.vr (v := Eng.elemPtr gv (k * 4 + 3)) rfl (Eng.run_field_el rfl Tryd.underlying81 3 (by kernel_rfl) (show a.eval (.tmp 73) = Eng.elemPtr gv (k * 4) from (H.d 3 73)) (Eng.Reads.below Fgr_10 H.below) (by have h_ : k < h.length := (by omega); omega))
   ·exact Eng.pv fun a w' H => Eng.vr (v := kv1) rfl (Eng.run_load_el (kv1) rfl (show a.eval (.tmp 74) = Eng.elemPtr gv (k * 4 + 3) from (H.d 4 74)) (Eng.Reads.below Fgr_10 H.below) (cq1) (by kernel_rfl))
   ·exact Eng.pv fun a w' H => Eng.vr (v := .int .i64 ((nk.kids.length : Nat) : Int)) rfl (Eng.run_len_sl rfl Tryd.underlying55 (show a.eval (.tmp 75) = kv1 from (H.d 5 75)) (Eng.Reads.below Fk1_10 H.below))
   ·refine Eng.pv fun a w' H => ?_
    refine Eng.vr (v := .bool (decide ((m : Nat) < ((nk.kids.length : Nat) : Int)))) (by show _ = Value.bool q77; rw [Bq77]) ?_
    have e0 : a.eval (.tmp 70) = .int .i64 (m : Nat) := (H.d 0 70)
    have e1 : a.eval (.tmp 76) = .int .i64 ((nk.kids.length : Nat) : Int) := (H.d 6 76)
    simp only [execOp, resolve, e0, e1]
    go_simp
  intro act11 w11 T
  have h0_11 := T.r 0 h0_10
  have h1_11 := T.r 1 h1_10
  have h5_11 := T.r 5 h5_10
  have h6_11 := T.r 6 h6_10
  have h11_11 := T.r 11 h11_10
  have h15_11 := T.r 15 h15_10
  have h69_11 := T.r 69 h69_10
  have Fgr_11 := Eng.Reads.below Fgr_10 T.below
  have Fgr2_11 := Eng.Reads.below Fgr2_10 T.below
  have Fk1_11 := Eng.Reads.below Fk1_10 T.below
  have Fk2_11 := Eng.Reads.below Fk2_10 T.below
  have h77_11 : act11.eval (.tmp 77) = .bool q77 := T.done 7 77 rfl rfl
  have d11 := T.defers.trans d10
  have s11 := T.size.trans s10
  have bl11 := bl10.trans (T.below.mono bl10.size)
  clear T
  refine Eng.tail_nil ?_
  refine wp_cond_split h77_11 (fun hq => ?_) (fun hq => ?_)
  ·
   have c77 := Bq77.symm.trans hq
   clear hq
   have c77 := of_decide_eq_true c77
   have hm0 : m < nk.kids.length := by omega
   refine wp_skip ?_
   refine wp_seq ?_
   refine wp_block ?_
   refine wp_seq ?_
   refine Eng.regionD (Eng.still [fun u_ => u_ = gv, fun u_ => u_ = .int .i64 (k : Nat), fun u_ => u_ = Eng.elemPtr gv (k * 4), fun u_ => u_ = Eng.elemPtr gv (k * 4 + 3), fun u_ => u_ = kv1, fun u_ => u_ = .int .i64 (m : Nat), fun u_ => u_ = Eng.elemPtr kv1 (m * 1), fun u_ => u_ = .int .i64 (nk.kids.getD m 0), fun u_ => u_ = gv2, fun u_ => u_ = .int .i64 (k : Nat), fun u_ => u_ = Eng.elemPtr gv2 (k * 4), fun u_ => u_ = Eng.elemPtr gv2 (k * 4 + 3), fun u_ => u_ = kv2, fun u_ => u_ = .int .i64 (m : Nat), fun u_ => u_ = Eng.elemPtr kv2 (m * 1), fun u_ => u_ = .int .i64 (nk.kids.getD m 0), fun u_ => u_ = .bool false]) (fun _ => .plain) 17 0 97 (by kernel_rfl) s11 rfl (by kernel_rfl) (Eng.still_stable _) (Or.inr (Eng.still_any _)) ?_ ?_
   ·refine .c ?_ (.c ?_ (.c ?_ (.c ?_ (.c ?_ (.c ?_ (.c ?_ (.c ?_ (.c ?_ (.c ?_ (.c ?_ (.c ?_ (.c ?_ (.c ?_ (.c ?_ (.c ?_ (.c ?_ (.nil)))))))))))))))))
    ·exact Eng.pv fun a w' H => Eng.vr rfl (Eng.run_move rfl (H.q 0 h0_11))
    ·exact Eng.pv fun a w' H => Eng.vr rfl (Eng.run_move rfl (H.q 5 h5_11))
    ·exact Eng.pv fun a w' H => Eng.vr (v := Eng.elemPtr gv (k * 4)) rfl (Eng.run_index_sl rfl Tryd.underlying51 (by kernel_rfl) (show a.eval (.tmp 80) = gv from (H.d 0 80)) ((show a.eval (.tmp 81) = .int .i64 (k : Nat) from (H.d 1 81)).trans (congrArg (Value.int _) (show (k : Nat) = ((k : Nat) : Int) from by omega))) (Eng.Reads.below Fgr_11 H.below) (by omega) rfl)
    ·exact Eng.pv fun a w' H => Eng.vr (v := Eng.elemPtr gv (k * 4 + 3)) rfl (Eng.run_field_el rfl Tryd.underlying81 3 (by kernel_rfl) (show a.eval (.tmp 82) = Eng.elemPtr gv (k * 4) from (H.d 2 82)) (Eng.Reads.below Fgr_11 H.below) (by have h_ : k < h.length := (by omega); omega))
    ·exact Eng.pv fun a w' H => Eng.vr (v := kv1) rfl (Eng.run_load_el (kv1) rfl (show a.eval (.tmp 83) = Eng.elemPtr gv (k * 4 + 3) from (H.d 3 83)) (Eng.Reads.below Fgr_11 H.below) (cq1) (by kernel_rfl))
    ·exact Eng.pv fun a w' H => Eng.vr rfl (Eng.run_move rfl (H.q 6 h6_11))
    ·exact Eng.pv fun a w' H => Eng.vr (v := Eng.elemPtr kv1 (m * 1)) rfl (Eng.run_index_sl rfl Tryd.underlying55 (by kernel_rfl) (show a.eval (.tmp 84) = kv1 from (H.d 4 84)) ((show a.eval (.tmp 85) = .int .i64 (m : Nat) from (H.d 5 85)).trans (congrArg (Value.int _) (show (m : Nat) = ((m : Nat) : Int) from by omega))) (Eng.Reads.below Fk1_11 H.below) (by omega) rfl)
    ·exact Eng.pv fun a w' H => Eng.vr (v := .int .i64 (nk.kids.getD m 0)) rfl (Eng.run_load_el (.int .i64 (nk.kids.getD m 0)) rfl (show a.eval (.tmp 86) = Eng.elemPtr kv1 (m * 1) from (H.d 6 86)) (Eng.Reads.below Fk1_11 H.below) (Dc.ints_get1 nk.kids m (by omega)) (by kernel_rfl))
    ·exact Eng.pv fun a w' H => Eng.vr rfl (Eng.run_move rfl (H.q 1 h1_11))
    ·exact Eng.pv fun a w' H => Eng.vr rfl (Eng.run_move rfl (H.q 5 h5_11))
    ·exact Eng.pv fun a w' H => Eng.vr (v := Eng.elemPtr gv2 (k * 4)) rfl (Eng.run_index_sl rfl Tryd.underlying51 (by kernel_rfl) (show a.eval (.tmp 88) = gv2 from (H.d 8 88)) ((show a.eval (.tmp 89) = .int .i64 (k : Nat) from (H.d 9 89)).trans (congrArg (Value.int _) (show (k : Nat) = ((k : Nat) : Int) from by omega))) (Eng.Reads.below Fgr2_11 H.below) (by omega) rfl)
    ·exact Eng.pv fun a w' H => Eng.vr (v := Eng.elemPtr gv2 (k * 4 + 3)) rfl (Eng.run_field_el rfl Tryd.underlying81 3 (by kernel_rfl) (show a.eval (.tmp 90) = Eng.elemPtr gv2 (k * 4) from (H.d 10 90)) (Eng.Reads.below Fgr2_11 H.below) (by have h_ : k < h2.length := (by omega); omega))
    ·exact Eng.pv fun a w' H => Eng.vr (v := kv2) rfl (Eng.run_load_el (kv2) rfl (show a.eval (.tmp 91) = Eng.elemPtr gv2 (k * 4 + 3) from (H.d 11 91)) (Eng.Reads.below Fgr2_11 H.below) (cq2) (by kernel_rfl))
    ·exact Eng.pv fun a w' H => Eng.vr rfl (Eng.run_move rfl (H.q 6 h6_11))
    ·exact Eng.pv fun a w' H => Eng.vr (v := Eng.elemPtr kv2 (m * 1)) rfl (Eng.run_index_sl rfl Tryd.underlying55 (by kernel_rfl) (show a.eval (.tmp 92) = kv2 from (H.d 12 92)) ((show a.eval (.tmp 93) = .int .i64 (m : Nat) from (H.d 13 93)).trans (congrArg (Value.int _) (show (m : Nat) = ((m : Nat) : Int) from by omega))) (Eng.Reads.below Fk2_11 H.below) (by omega) rfl)
    ·exact Eng.pv fun a w' H => Eng.vr (v := .int .i64 (nk.kids.getD m 0)) rfl (Eng.run_load_el (.int .i64 (nk.kids.getD m 0)) rfl (show a.eval (.tmp 94) = Eng.elemPtr kv2 (m * 1) from (H.d 14 94)) (Eng.Reads.below Fk2_11 H.below) (Dc.ints_get1 nk.kids m (by omega)) (by kernel_rfl))
    ·refine Eng.pv fun a w' H => ?_
     refine Eng.vr (v := .bool (!((nk.kids.getD m 0) == (nk.kids.getD m 0)))) (by show _ = Value.bool false; rw [show (!((nk.kids.getD m 0) == (nk.kids.getD m 0))) = false from (by rw [beq_self_eq_true]; rfl)]) ?_
     have e0 : a.eval (.tmp 87) = .int .i64 (nk.kids.getD m 0) := (H.d 7 87)
     have e1 : a.eval (.tmp 95) = .int .i64 (nk.kids.getD m 0) := (H.d 15 95)
     simp only [execOp, resolve, e0, e1]
     go_simp
   intro act13 w13 T
   have h0_13 := T.r 0 h0_11
   have h1_13 := T.r 1 h1_11
   have h5_13 := T.r 5 h5_11
   have h6_13 := T.r 6 h6_11
   have h11_13 := T.r 11 h11_11
   have h15_13 := T.r 15 h15_11
   have h69_13 := T.r 69 h69_11
   have h96_13 : act13.eval (.tmp 96) = .bool false := T.done 16 96 rfl rfl
   have d13 := T.defers.trans d11
   have s13 := T.size.trans s11
   have bl13 := bl11.trans (T.below.mono bl11.size)
   clear T
   refine Eng.tail_nil ?_
   have n96 : false = false := by
    rfl
   refine wp_cond_false (h96_13.trans (by rw [n96])) ?_
   refine wp_skip ?_
   refine Eng.regionS (Eng.still [fun u_ => u_ = .int .i64 (m : Nat), fun u_ => u_ = .int .i64 (IntKind.i64.wrap ((m : Nat) + 1)), fun u_ => u_ = .int .i64 (IntKind.i64.wrap ((m : Nat) + 1))]) (fun _ => .plain) 3 0 97 s13 rfl (by kernel_rfl) (Eng.still_stable _) (Or.inr (Eng.still_any _)) ?_ ?_
   ·refine .c ?_ (.c ?_ (.c ?_ (.nil)))
    ·exact Eng.pv fun a w' H => Eng.vr rfl (Eng.run_move rfl (H.q 6 h6_13))
    ·refine Eng.pv fun a w' H => ?_
     refine Eng.vr (v := .int .i64 (IntKind.i64.wrap ((m : Nat) + 1))) rfl ?_
     have e0 : a.eval (.tmp 78) = .int .i64 (m : Nat) := (H.d 0 78)
     have e1 : a.eval (.const (.int .i64 1)) = .int .i64 1 := rfl
     simp only [execOp, resolve, e0, e1]
     go_simp
    ·exact Eng.pv fun a w' H => Eng.vr rfl (Eng.run_assign rfl (H.d 1 79))
   intro act14 w14 T
   have h0_14 := T.r 0 h0_13
   have h1_14 := T.r 1 h1_13
   have h5_14 := T.r 5 h5_13
   have h11_14 := T.r 11 h11_13
   have h15_14 := T.r 15 h15_13
   have h69_14 := T.r 69 h69_13
   have h6_14 : act14.eval (.tmp 6) = .int .i64 (IntKind.i64.wrap ((m : Nat) + 1)) := T.done 2 6 rfl rfl
   have d14 := T.defers.trans d13
   have s14 := T.size.trans s13
   have bl14 := bl13.trans (T.below.mono bl13.size)
   clear T
   refine Eng.tail_nil ?_
   exact ⟨_, by omega, m + 1, rfl, by omega, d14, s14, bl14, h0_14, h1_14, h5_14, (h6_14.trans (by first | rfl | (congr 1; rw [Eng.i64_id (by omega) (by omega)]; omega) | (simp; done))), h11_14, h15_14, h69_14⟩
  ·
   have c77 := Bq77.symm.trans hq
   clear hq
   have c77 := of_decide_eq_false c77
   refine wp_exit ?_
   refine Eng.regionS (Eng.still [fun u_ => u_ = .int .i64 (k : Nat), fun u_ => u_ = .int .i64 (IntKind.i64.wrap ((k : Nat) + 1)), fun u_ => u_ = .int .i64 (IntKind.i64.wrap ((k : Nat) + 1))]) (fun _ => .plain) 3 0 97 s11 rfl (by kernel_rfl) (Eng.still_stable _) (Or.inr (Eng.still_any _)) ?_ ?_
   ·refine .c ?_ (.c ?_ (.c ?_ (.nil)))
    ·exact Eng.pv fun a w' H => Eng.vr rfl (Eng.run_move rfl (H.q 5 h5_11))
    ·refine Eng.pv fun a w' H => ?_
     refine Eng.vr (v := .int .i64 (IntKind.i64.wrap ((k : Nat) + 1))) rfl ?_
     have e0 : a.eval (.tmp 16) = .int .i64 (k : Nat) := (H.d 0 16)
     have e1 : a.eval (.const (.int .i64 1)) = .int .i64 1 := rfl
     simp only [execOp, resolve, e0, e1]
     go_simp
    ·exact Eng.pv fun a w' H => Eng.vr rfl (Eng.run_assign rfl (H.d 1 17))
   intro act16 w16 T
   have h0_16 := T.r 0 h0_11
   have h1_16 := T.r 1 h1_11
   have h11_16 := T.r 11 h11_11
   have h5_16 : act16.eval (.tmp 5) = .int .i64 (IntKind.i64.wrap ((k : Nat) + 1)) := T.done 2 5 rfl rfl
   have d16 := T.defers.trans d11
   have s16 := T.size.trans s11
   have bl16 := bl11.trans (T.below.mono bl11.size)
   clear T
   refine Eng.tail_nil ?_
   exact ⟨_, by omega, k + 1, rfl, by omega, d16, s16, bl16, h0_16, h1_16, (h5_16.trans (by first | rfl | (congr 1; rw [Eng.i64_id (by omega) (by omega)]; omega) | (simp; done))), h11_16⟩
 ·
  have c15 := Bq15.symm.trans hq
  clear hq
  have c15 := of_decide_eq_false c15
  have hke : k = h.length := by omega
  refine wp_exit ?_
  refine wp_seq ?_
  refine Eng.regionS (Eng.still [fun u_ => u_ = .bool true]) (fun _ => .plain) 1 0 97 s5 rfl (by kernel_rfl) (Eng.still_stable _) (Or.inr (Eng.still_any _)) ?_ ?_
  ·refine .c ?_ (.nil)
   ·exact Eng.pv fun a w' H => Eng.vr rfl (Eng.run_assign rfl (rfl : a.eval (.const (.bool true)) = .bool true))
  intro act18 w18 T
  have h4_18 : act18.eval (.tmp 4) = .bool true := T.done 0 4 rfl rfl
  have d18 := T.defers.trans d5
  have bl18 := bl5.trans (T.below.mono bl5.size)
  clear T
  refine Eng.tail_nil ?_
  refine wp_ret ?_
  repeat (first | with_reducible refine Eng.in_ret ?_ | with_reducible refine Eng.then_ret ?_)
  exact Eng.ret1 rfl d18 h4_18 ⟨rfl, bl18⟩
end Go.Proofs.YtgnmjaacnmkgnaaDoor.X
end
section
namespace Go.Proofs.YtgnmjaacnmkgnaaDoor.X
open Go.RowKit Go.Shelf Go.Proofs Go.Maps
namespace Dc
theorem ours8_calls (gv : Value) (nd : List Nd) (w : World) (hG : GR w nd gv) (hsm : Sml 1000000 nd) : Calls Tryd.prog 20 #[gv] w fun e w' => ∃ o, e = .returned o ∧ GO w.heap.size w' nd o ∧ Below w.heap.size w w' := by
  obtain ⟨h, rfl, F, K⟩ := hG
  exact ours8_h gv h w F K hsm
theorem equal8_calls (gv gv2 : Value) (nd : List Nd) (w : World) (hG : GR w nd gv) (hG2 : GR w nd gv2) : Calls Tryd.prog 19 #[gv, gv2] w fun e w' => e = .returned (.bool true) ∧ Below w.heap.size w w' := by
  obtain ⟨h, e, F, K⟩ := hG
  obtain ⟨h2, e2, F2, K2⟩ := hG2
  exact equal8_h gv gv2 h h2 w F K F2 K2 (e.trans e2.symm)
end Dc
end Go.Proofs.YtgnmjaacnmkgnaaDoor.X
end
section
namespace Go.Proofs.YtgnmjaacnmkgnaaDoor.X
open Go.RowKit Go.Shelf Go.Proofs Go.Proofs.YtgnmjaacnmkgnaaDoorW.PrintWords Go.Proofs.YtgnmjaacnmkgnaaDoorW.PrintLast Go.Proofs.YtgnmjaacnmkgnaaDoorW.PrintMore
set_option linter.unusedVariables false
set_option linter.unusedSimpArgs false
attribute [local go_sem] max2_int min2_int max_two min_two
set_option maxHeartbeats 4000000 in
set_option maxRecDepth 100000 in
theorem Dc.equal9_calls (v1 v2 : Value) (f1 f2 : List Dc.GV) (w : World) (hG1 : Dc.GsR w f1 v1) (hG2 : Dc.GsR w f2 v2) (he : f1.map (·.1) = f2.map (·.1)) : Calls Tryd.prog 15 #[v1, v2] w fun e w' => e = .returned (.bool true) ∧ Below w.heap.size w w' := by
 have hm := Eng.Reads.len_le hG1.1
 have hlen := Dc.eqG_len he
 refine Eng.enter Tryd.func15 rfl fun act0 d0 s0 v0 => ?_
 have s0 : act0.tmps.size = 34 := s0
 have h0_0 : act0.eval (.tmp 0) = v1 := v0 0 (by simp)
 have h1_0 : act0.eval (.tmp 1) = v2 := v0 1 (by simp)
 clear v0
 have bl0 : Below w.heap.size w w := Below.refl _ _
 refine wp_seq ?_
 refine Eng.regionS (Eng.still [fun u_ => u_ = .bool false]) (fun _ => .plain) 1 0 34 s0 rfl (by kernel_rfl) (Eng.still_stable _) (Or.inr (Eng.still_any _)) ?_ ?_
 ·refine .c ?_ (.nil)
  ·exact Eng.pv fun a w' H => Eng.vr rfl (Eng.run_assign rfl (rfl : a.eval (.const (.bool false)) = .bool false))
 intro act1 w1 T
 have h0_1 := T.r 0 h0_0
 have h1_1 := T.r 1 h1_0
 have Fg1_1 := Eng.Reads.below hG1.1 T.below
 have d1 := T.defers.trans d0
 have s1 := T.size.trans s0
 have bl1 := bl0.trans (T.below.mono bl0.size)
 clear T
 refine Eng.tail_nil ?_
 refine wp_seq ?_
 refine wp_seq ?_
 refine Eng.regionS (Eng.still [fun u_ => u_ = v1, fun u_ => u_ = .int .i64 ((f1.length : Nat) : Int), fun u_ => u_ = .int .i64 0]) (fun _ => .plain) 3 0 34 s1 rfl (by kernel_rfl) (Eng.still_stable _) (Or.inr (Eng.still_any _)) ?_ ?_
 ·refine .c ?_ (.c ?_ (.c ?_ (.nil)))
  ·exact Eng.pv fun a w' H => Eng.vr rfl (Eng.run_move rfl (H.q 0 h0_1))
  ·exact Eng.pv fun a w' H => Eng.vr (v := .int .i64 ((f1.length : Nat) : Int)) rfl (Eng.run_len_sl rfl Tryd.underlying39 (show a.eval (.tmp 7) = v1 from (H.d 0 7)) (Eng.Reads.below Fg1_1 H.below))
  ·exact Eng.pv fun a w' H => Eng.vr rfl (Eng.run_move rfl (rfl : a.eval (.const (.int .i64 0)) = .int .i64 0))
 intro act2 w2 T
 have h0_2 := T.r 0 h0_1
 have h1_2 := T.r 1 h1_1
 have h7_2 : act2.eval (.tmp 7) = v1 := T.done 0 7 rfl rfl
 have h8_2 : act2.eval (.tmp 8) = .int .i64 ((f1.length : Nat) : Int) := T.done 1 8 rfl rfl
 have h9_2 : act2.eval (.tmp 9) = .int .i64 0 := T.done 2 9 rfl rfl
 have d2 := T.defers.trans d1
 have s2 := T.size.trans s1
 have bl2 := bl1.trans (T.below.mono bl1.size)
 clear T
 refine Eng.tail_nil ?_
 refine wp_block ?_
 refine Eng.loopN (fun n a w' => ∃ (k : Nat), f1.length - k = n ∧ (k ≤ f1.length) ∧ a.defers = [] ∧ a.tmps.size = 34 ∧ Below w.heap.size w w' ∧ a.eval (.tmp 0) = v1 ∧ a.eval (.tmp 1) = v2 ∧ a.eval (.tmp 7) = v1 ∧ a.eval (.tmp 8) = .int .i64 ((f1.length : Nat) : Int) ∧ a.eval (.tmp 9) = .int .i64 (k : Nat)) (n0 := f1.length - 0) ?_ ?_
 ·exact ⟨0, rfl, by omega, d2, s2, bl2, h0_2, h1_2, h7_2, h8_2, (h9_2.trans (by first | rfl | (congr 1; rw [Eng.i64_id (by omega) (by omega)]; omega) | (simp; done)))⟩
 rintro n act3 w3 ⟨k, rfl, hc0_3, d3, s3, bl3, h0_3, h1_3, h7_3, h8_3, h9_3⟩
 have Fg1_3 := Eng.Reads.below hG1.1 bl3
 have Fg2_3 := Eng.Reads.below hG2.1 bl3
 have hk1 := hc0_3
 refine wp_seq ?_
 obtain ⟨q10, Bq10⟩ : ∃ b : Bool, b = (decide ((k : Nat) < ((f1.length : Nat) : Int))) := ⟨_, rfl⟩
 refine Eng.regionS (Eng.still [fun u_ => u_ = .bool q10]) (fun _ => .plain) 1 0 34 s3 rfl (by kernel_rfl) (Eng.still_stable _) (Or.inr (Eng.still_any _)) ?_ ?_
 ·refine .c ?_ (.nil)
  ·refine Eng.pv fun a w' H => ?_
   refine Eng.vr (v := .bool (decide ((k : Nat) < ((f1.length : Nat) : Int)))) (by show _ = Value.bool q10; rw [Bq10]) ?_
   have e0 := (H.q 9 h9_3)
   have e1 := (H.q 8 h8_3)
   simp only [execOp, resolve, e0, e1]
   go_simp
 intro act4 w4 T
 have h0_4 := T.r 0 h0_3
 have h1_4 := T.r 1 h1_3
 have h7_4 := T.r 7 h7_3
 have h8_4 := T.r 8 h8_3
 have h9_4 := T.r 9 h9_3
 have Fg1_4 := Eng.Reads.below Fg1_3 T.below
 have Fg2_4 := Eng.Reads.below Fg2_3 T.below
 have h10_4 : act4.eval (.tmp 10) = .bool q10 := T.done 0 10 rfl rfl
 have d4 := T.defers.trans d3
 have s4 := T.size.trans s3
 have bl4 := bl3.trans (T.below.mono bl3.size)
 clear T
 refine Eng.tail_nil ?_
 refine wp_seq ?_
 refine wp_cond_split h10_4 (fun hq => ?_) (fun hq => ?_)
 ·
  have c10 := Bq10.symm.trans hq
  clear hq
  have c10 := of_decide_eq_true c10
  have hk0 : k < f1.length := by omega
  have hk2 : k < f2.length := by omega
  obtain ⟨nd, Hnd⟩ : ∃ n, n = (f1.getD k default).1 := ⟨_, rfl⟩
  have Hn2 : nd = (f2.getD k default).1 := Hnd.trans (Dc.eqG_at he k)
  have hcell1 := Dc.map2_at f1 k hk0
  have Gk1 := Dc.gsR_at hG1 hk0
  obtain ⟨gk1, hgk1⟩ : ∃ v, v = (f1.getD k default).2 := ⟨_, rfl⟩
  rw [← Hnd, ← hgk1] at Gk1
  rw [← hgk1] at hcell1
  clear hgk1
  have hcell2 := Dc.map2_at f2 k hk2
  have Gk2 := Dc.gsR_at hG2 hk2
  obtain ⟨gk2, hgk2⟩ : ∃ v, v = (f2.getD k default).2 := ⟨_, rfl⟩
  rw [← Hn2, ← hgk2] at Gk2
  rw [← hgk2] at hcell2
  clear hgk2
  refine wp_skip ?_
  refine wp_seq ?_
  refine wp_block ?_
  refine wp_seq ?_
  refine Eng.regionS (Eng.still [fun u_ => u_ = .int .i64 (k : Nat), fun u_ => u_ = Eng.elemPtr v1 (k * 1), fun u_ => u_ = gk1, fun u_ => u_ = .int .i64 (k : Nat), fun u_ => u_ = gk1]) (fun _ => .plain) 5 0 34 s4 rfl (by kernel_rfl) (Eng.still_stable _) (Or.inr (Eng.still_any _)) ?_ ?_
  ·refine .c ?_ (.c ?_ (.c ?_ (.c ?_ (.c ?_ (.nil)))))
   ·exact Eng.pv fun a w' H => Eng.vr rfl (Eng.run_move rfl (H.q 9 h9_4))
   ·exact Eng.pv fun a w' H => Eng.vr (v := Eng.elemPtr v1 (k * 1)) rfl (Eng.run_index_sl rfl Tryd.underlying39 (by kernel_rfl) (show a.eval (.tmp 7) = v1 from (H.q 7 h7_4)) ((show a.eval (.tmp 9) = .int .i64 (k : Nat) from (H.q 9 h9_4)).trans (congrArg (Value.int _) (show (k : Nat) = ((k : Nat) : Int) from by omega))) (Eng.Reads.below Fg1_4 H.below) (by omega) rfl)
   ·exact Eng.pv fun a w' H => Eng.vr (v := gk1) rfl (Eng.run_load_el (gk1) rfl (show a.eval (.tmp 12) = Eng.elemPtr v1 (k * 1) from (H.d 1 12)) (Eng.Reads.below Fg1_4 H.below) (hcell1) (by kernel_rfl))
   ·exact Eng.pv fun a w' H => Eng.vr rfl (Eng.run_assign rfl (H.d 0 11))
   ·exact Eng.pv fun a w' H => Eng.vr rfl (Eng.run_assign rfl (H.d 2 13))
  intro act6 w6 T
  have h0_6 := T.r 0 h0_4
  have h1_6 := T.r 1 h1_4
  have h7_6 := T.r 7 h7_4
  have h8_6 := T.r 8 h8_4
  have h9_6 := T.r 9 h9_4
  have Fg1_6 := Eng.Reads.below Fg1_4 T.below
  have Fg2_6 := Eng.Reads.below Fg2_4 T.below
  have h5_6 : act6.eval (.tmp 5) = .int .i64 (k : Nat) := T.done 3 5 rfl rfl
  have h6_6 : act6.eval (.tmp 6) = gk1 := T.done 4 6 rfl rfl
  have d6 := T.defers.trans d4
  have s6 := T.size.trans s4
  have bl6 := bl4.trans (T.below.mono bl4.size)
  clear T
  refine Eng.tail_nil ?_
  refine wp_seq ?_
  refine (wpIn_wide (n := 1)).1 ?_
  refine EngI.regionT (n := 14) rfl ?_
  refine EngI.tail_val EngI.free_wide rfl rfl rfl rfl (Eng.run_move rfl h0_6) s6 rfl fun act7 d7 s7 hv hr => ?_
  have h0_7 := (hr 0 rfl).trans h0_6
  have h1_7 := (hr 1 rfl).trans h1_6
  have h5_7 := (hr 5 rfl).trans h5_6
  have h6_7 := (hr 6 rfl).trans h6_6
  have h7_7 := (hr 7 rfl).trans h7_6
  have h8_7 := (hr 8 rfl).trans h8_6
  have h9_7 := (hr 9 rfl).trans h9_6
  have h14_7 : act7.eval (.tmp 14) = v1 := hv
  have d7 := d7.trans d6
  clear hv hr
  refine EngI.tail_val (w1 := w6) (v := .int .i64 ((f1.length : Nat) : Int)) EngI.free_wide rfl rfl rfl rfl ?_ s7 rfl ?_
  ·exact Eng.run_len_sl rfl Tryd.underlying39 (show act7.eval (.tmp 14) = v1 from h14_7) Fg1_6
  intro act8 d8 s8 hv hr
  have h0_8 := (hr 0 rfl).trans h0_7
  have h1_8 := (hr 1 rfl).trans h1_7
  have h5_8 := (hr 5 rfl).trans h5_7
  have h6_8 := (hr 6 rfl).trans h6_7
  have h7_8 := (hr 7 rfl).trans h7_7
  have h8_8 := (hr 8 rfl).trans h8_7
  have h9_8 := (hr 9 rfl).trans h9_7
  have h15_8 : act8.eval (.tmp 15) = .int .i64 ((f1.length : Nat) : Int) := hv
  have d8 := d8.trans d7
  clear hv hr
  refine EngI.tail_val EngI.free_wide rfl rfl rfl rfl (Eng.run_move rfl h1_8) s8 rfl fun act9 d9 s9 hv hr => ?_
  have h0_9 := (hr 0 rfl).trans h0_8
  have h1_9 := (hr 1 rfl).trans h1_8
  have h5_9 := (hr 5 rfl).trans h5_8
  have h6_9 := (hr 6 rfl).trans h6_8
  have h7_9 := (hr 7 rfl).trans h7_8
  have h8_9 := (hr 8 rfl).trans h8_8
  have h9_9 := (hr 9 rfl).trans h9_8
  have h15_9 := (hr 15 rfl).trans h15_8
  have h16_9 : act9.eval (.tmp 16) = v2 := hv
  have d9 := d9.trans d8
  clear hv hr
  refine EngI.tail_val (w1 := w6) (v := .int .i64 ((f2.length : Nat) : Int)) EngI.free_wide rfl rfl rfl rfl ?_ s9 rfl ?_
  ·exact Eng.run_len_sl rfl Tryd.underlying39 (show act9.eval (.tmp 16) = v2 from h16_9) Fg2_6
  intro act10 d10 s10 hv hr
  have h0_10 := (hr 0 rfl).trans h0_9
  have h1_10 := (hr 1 rfl).trans h1_9
  have h5_10 := (hr 5 rfl).trans h5_9
  have h6_10 := (hr 6 rfl).trans h6_9
  have h7_10 := (hr 7 rfl).trans h7_9
  have h8_10 := (hr 8 rfl).trans h8_9
  have h9_10 := (hr 9 rfl).trans h9_9
  have h15_10 := (hr 15 rfl).trans h15_9
  have h17_10 : act10.eval (.tmp 17) = .int .i64 ((f2.length : Nat) : Int) := hv
  have d10 := d10.trans d9
  clear hv hr
  refine EngI.tail_val (w1 := w6) (v := .bool (!(((f1.length : Nat) : Int) == ((f2.length : Nat) : Int)))) EngI.free_wide rfl rfl rfl rfl ?_ s10 rfl ?_
  ·have e0 : act10.eval (.tmp 15) = .int .i64 ((f1.length : Nat) : Int) := h15_10
   have e1 : act10.eval (.tmp 17) = .int .i64 ((f2.length : Nat) : Int) := h17_10
   simp only [execOp, resolve, e0, e1]
   go_simp
  intro act11 d11 s11 hv hr
  have h0_11 := (hr 0 rfl).trans h0_10
  have h1_11 := (hr 1 rfl).trans h1_10
  have h5_11 := (hr 5 rfl).trans h5_10
  have h6_11 := (hr 6 rfl).trans h6_10
  have h7_11 := (hr 7 rfl).trans h7_10
  have h8_11 := (hr 8 rfl).trans h8_10
  have h9_11 := (hr 9 rfl).trans h9_10
  have h18_11 : act11.eval (.tmp 18) = .bool false := hv.trans (congrArg Value.bool ((by rw [hlen, beq_self_eq_true]; rfl) : _ = false))
  have d11 := d11.trans d10
  clear hv hr
  refine EngI.tail_val EngI.free_wide rfl rfl rfl rfl (Eng.run_move rfl h18_11) s11 rfl fun act12 d12 s12 hv hr => ?_
  have h0_12 := (hr 0 rfl).trans h0_11
  have h1_12 := (hr 1 rfl).trans h1_11
  have h5_12 := (hr 5 rfl).trans h5_11
  have h6_12 := (hr 6 rfl).trans h6_11
  have h7_12 := (hr 7 rfl).trans h7_11
  have h8_12 := (hr 8 rfl).trans h8_11
  have h9_12 := (hr 9 rfl).trans h9_11
  have h19_12 : act12.eval (.tmp 19) = .bool false := hv
  have d12 := d12.trans d11
  clear hv hr
  refine EngG.tail_val EngI.free_wide rfl (EngG.wanted_on (want := false) rfl rfl rfl (by rw [s12]; decide) h19_12) rfl rfl (Eng.run_move rfl h6_12) s12 rfl fun act13 d13 s13 hv hr => ?_
  have h0_13 := (hr 0 rfl).trans h0_12
  have h1_13 := (hr 1 rfl).trans h1_12
  have h5_13 := (hr 5 rfl).trans h5_12
  have h7_13 := (hr 7 rfl).trans h7_12
  have h8_13 := (hr 8 rfl).trans h8_12
  have h9_13 := (hr 9 rfl).trans h9_12
  have h19_13 := (hr 19 rfl).trans h19_12
  have h20_13 : act13.eval (.tmp 20) = gk1 := hv
  have d13 := d13.trans d12
  clear hv hr
  refine EngG.tail_val EngI.free_wide rfl (EngG.wanted_on (want := false) rfl rfl rfl (by rw [s13]; decide) h19_13) rfl rfl (Eng.run_move rfl h1_13) s13 rfl fun act14 d14 s14 hv hr => ?_
  have h0_14 := (hr 0 rfl).trans h0_13
  have h1_14 := (hr 1 rfl).trans h1_13
  have h5_14 := (hr 5 rfl).trans h5_13
  have h7_14 := (hr 7 rfl).trans h7_13
  have h8_14 := (hr 8 rfl).trans h8_13
  have h9_14 := (hr 9 rfl).trans h9_13
  have h19_14 := (hr 19 rfl).trans h19_13
  have h20_14 := (hr 20 rfl).trans h20_13
  have h21_14 : act14.eval (.tmp 21) = v2 := hv
  have d14 := d14.trans d13
  clear hv hr
  refine EngG.tail_val EngI.free_wide rfl (EngG.wanted_on (want := false) rfl rfl rfl (by rw [s14]; decide) h19_14) rfl rfl (Eng.run_move rfl h5_14) s14 rfl fun act15 d15 s15 hv hr => ?_
  have h0_15 := (hr 0 rfl).trans h0_14
  have h1_15 := (hr 1 rfl).trans h1_14
  have h7_15 := (hr 7 rfl).trans h7_14
  have h8_15 := (hr 8 rfl).trans h8_14
  have h9_15 := (hr 9 rfl).trans h9_14
  have h19_15 := (hr 19 rfl).trans h19_14
  have h20_15 := (hr 20 rfl).trans h20_14
  have h21_15 := (hr 21 rfl).trans h21_14
  have h22_15 : act15.eval (.tmp 22) = .int .i64 (k : Nat) := hv
  have d15 := d15.trans d14
  clear hv hr
  refine EngG.tail_val (w1 := w6) (v := Eng.elemPtr v2 (k * 1)) EngI.free_wide rfl (EngG.wanted_on (want := false) rfl rfl rfl (by rw [s15]; decide) h19_15) rfl rfl ?_ s15 rfl ?_
  ·exact Eng.run_index_sl rfl Tryd.underlying39 (by kernel_rfl) (show act15.eval (.tmp 21) = v2 from h21_15) ((show act15.eval (.tmp 22) = .int .i64 (k : Nat) from h22_15).trans (congrArg (Value.int _) (show (k : Nat) = ((k : Nat) : Int) from by omega))) Fg2_6 (by omega) rfl
  intro act16 d16 s16 hv hr
  have h0_16 := (hr 0 rfl).trans h0_15
  have h1_16 := (hr 1 rfl).trans h1_15
  have h7_16 := (hr 7 rfl).trans h7_15
  have h8_16 := (hr 8 rfl).trans h8_15
  have h9_16 := (hr 9 rfl).trans h9_15
  have h19_16 := (hr 19 rfl).trans h19_15
  have h20_16 := (hr 20 rfl).trans h20_15
  have h23_16 : act16.eval (.tmp 23) = Eng.elemPtr v2 (k * 1) := hv
  have d16 := d16.trans d15
  clear hv hr
  refine EngG.tail_val (w1 := w6) (v := gk2) EngI.free_wide rfl (EngG.wanted_on (want := false) rfl rfl rfl (by rw [s16]; decide) h19_16) rfl rfl ?_ s16 rfl ?_
  ·exact Eng.run_load_el (gk2) rfl (show act16.eval (.tmp 23) = Eng.elemPtr v2 (k * 1) from h23_16) Fg2_6 (hcell2) (by kernel_rfl)
  intro act17 d17 s17 hv hr
  have h0_17 := (hr 0 rfl).trans h0_16
  have h1_17 := (hr 1 rfl).trans h1_16
  have h7_17 := (hr 7 rfl).trans h7_16
  have h8_17 := (hr 8 rfl).trans h8_16
  have h9_17 := (hr 9 rfl).trans h9_16
  have h19_17 := (hr 19 rfl).trans h19_16
  have h20_17 := (hr 20 rfl).trans h20_16
  have h24_17 : act17.eval (.tmp 24) = gk2 := hv
  have d17 := d17.trans d16
  clear hv hr
  refine EngG.tail_call EngI.free_wide Tryd.func19 (by kernel_rfl) (by kernel_rfl) rfl (EngG.wanted_on (want := false) rfl rfl rfl (by rw [s17]; decide) h19_17) rfl rfl #[gk1, gk2] (by have e0 : act17.eval (.tmp 20) = gk1 := h20_17; have e1 : act17.eval (.tmp 24) = gk2 := h24_17; simp only [List.map_toArray, List.map_cons, List.map_nil, e0, e1]) s17 rfl (R := fun v w_ => v = .bool true ∧ Below w6.heap.size w6 w_) ((Dc.equal8_calls gk1 gk2 nd _ (Gk1.below bl6) (Gk2.below bl6)).mono ?_) fun v_18 w18 act18 R d18 s18 hv hr => ?_
  ·rintro e w_ ⟨rfl, hb⟩; exact ⟨_, rfl, rfl, hb⟩
  obtain ⟨ev_18, b_18⟩ := R
  have h0_18 := (hr 0 rfl).trans h0_17
  have h1_18 := (hr 1 rfl).trans h1_17
  have h7_18 := (hr 7 rfl).trans h7_17
  have h8_18 := (hr 8 rfl).trans h8_17
  have h9_18 := (hr 9 rfl).trans h9_17
  have h19_18 := (hr 19 rfl).trans h19_17
  have h25_18 : act18.eval (.tmp 25) = .bool true := (hv.trans ev_18)
  have d18 := d18.trans d17
  clear hv hr
  have bl18 := bl6.trans (b_18.mono bl6.size)
  refine EngG.tail_val EngI.free_wide rfl (EngG.wanted_on (want := false) rfl rfl rfl (by rw [s18]; decide) h19_18) rfl rfl (Eng.run_not rfl h25_18) s18 rfl fun act19 d19 s19 hv hr => ?_
  have h0_19 := (hr 0 rfl).trans h0_18
  have h1_19 := (hr 1 rfl).trans h1_18
  have h7_19 := (hr 7 rfl).trans h7_18
  have h8_19 := (hr 8 rfl).trans h8_18
  have h9_19 := (hr 9 rfl).trans h9_18
  have h19_19 := (hr 19 rfl).trans h19_18
  have h26_19 : act19.eval (.tmp 26) = .bool (!true) := hv
  have d19 := d19.trans d18
  clear hv hr
  refine EngI.tail_val EngI.free_wide rfl rfl rfl rfl (Eng.run_pick rfl h19_19 (v := .bool (!true)) (by exact h26_19)) s19 rfl fun act20 d20 s20 hv hr => ?_
  have h0_20 := (hr 0 rfl).trans h0_19
  have h1_20 := (hr 1 rfl).trans h1_19
  have h7_20 := (hr 7 rfl).trans h7_19
  have h8_20 := (hr 8 rfl).trans h8_19
  have h9_20 := (hr 9 rfl).trans h9_19
  have h27_20 : act20.eval (.tmp 27) = .bool (!true) := hv
  have d20 := d20.trans d19
  clear hv hr
  refine EngI.tail_nil ?_
  have n27 : (!true) = false := by
   rfl
  refine wp_cond_false (h27_20.trans (by rw [n27])) ?_
  refine wp_skip ?_
  refine Eng.regionS (Eng.still [fun u_ => u_ = .int .i64 (IntKind.i64.wrap ((k : Nat) + 1)), fun u_ => u_ = .int .i64 (IntKind.i64.wrap ((k : Nat) + 1))]) (fun _ => .plain) 2 0 34 s20 rfl (by kernel_rfl) (Eng.still_stable _) (Or.inr (Eng.still_any _)) ?_ ?_
  ·refine .c ?_ (.c ?_ (.nil))
   ·refine Eng.pv fun a w' H => ?_
    refine Eng.vr (v := .int .i64 (IntKind.i64.wrap ((k : Nat) + 1))) rfl ?_
    have e0 := (H.q 9 h9_20)
    have e1 : a.eval (.const (.int .i64 1)) = .int .i64 1 := rfl
    simp only [execOp, resolve, e0, e1]
    go_simp
   ·exact Eng.pv fun a w' H => Eng.vr rfl (Eng.run_move rfl (H.d 0 28))
  intro act21 w21 T
  have h0_21 := T.r 0 h0_20
  have h1_21 := T.r 1 h1_20
  have h7_21 := T.r 7 h7_20
  have h8_21 := T.r 8 h8_20
  have h9_21 : act21.eval (.tmp 9) = .int .i64 (IntKind.i64.wrap ((k : Nat) + 1)) := T.done 1 9 rfl rfl
  have d21 := T.defers.trans d20
  have s21 := T.size.trans s20
  have bl21 := bl18.trans (T.below.mono bl18.size)
  clear T
  refine Eng.tail_nil ?_
  exact ⟨_, by omega, k + 1, rfl, by omega, d21, s21, bl21, h0_21, h1_21, h7_21, h8_21, (h9_21.trans (by first | rfl | (congr 1; rw [Eng.i64_id (by omega) (by omega)]; omega) | (simp; done)))⟩
 ·
  have c10 := Bq10.symm.trans hq
  clear hq
  have c10 := of_decide_eq_false c10
  have hke : k = f1.length := by omega
  refine wp_exit ?_
  refine wp_seq ?_
  refine Eng.regionS (Eng.still [fun u_ => u_ = v1, fun u_ => u_ = .int .i64 ((f1.length : Nat) : Int), fun u_ => u_ = v2, fun u_ => u_ = .int .i64 ((f2.length : Nat) : Int), fun u_ => u_ = .bool true, fun u_ => u_ = .bool true]) (fun _ => .plain) 6 0 34 s4 rfl (by kernel_rfl) (Eng.still_stable _) (Or.inr (Eng.still_any _)) ?_ ?_
  ·refine .c ?_ (.c ?_ (.c ?_ (.c ?_ (.c ?_ (.c ?_ (.nil))))))
   ·exact Eng.pv fun a w' H => Eng.vr rfl (Eng.run_move rfl (H.q 0 h0_4))
   ·exact Eng.pv fun a w' H => Eng.vr (v := .int .i64 ((f1.length : Nat) : Int)) rfl (Eng.run_len_sl rfl Tryd.underlying39 (show a.eval (.tmp 29) = v1 from (H.d 0 29)) (Eng.Reads.below Fg1_4 H.below))
   ·exact Eng.pv fun a w' H => Eng.vr rfl (Eng.run_move rfl (H.q 1 h1_4))
   ·exact Eng.pv fun a w' H => Eng.vr (v := .int .i64 ((f2.length : Nat) : Int)) rfl (Eng.run_len_sl rfl Tryd.underlying39 (show a.eval (.tmp 31) = v2 from (H.d 2 31)) (Eng.Reads.below Fg2_4 H.below))
   ·refine Eng.pv fun a w' H => ?_
    refine Eng.vr (v := .bool (((f1.length : Nat) : Int) == ((f2.length : Nat) : Int))) (by show _ = Value.bool true; rw [show (((f1.length : Nat) : Int) == ((f2.length : Nat) : Int)) = true from (by rw [hlen, beq_self_eq_true])]) ?_
    have e0 : a.eval (.tmp 30) = .int .i64 ((f1.length : Nat) : Int) := (H.d 1 30)
    have e1 : a.eval (.tmp 32) = .int .i64 ((f2.length : Nat) : Int) := (H.d 3 32)
    simp only [execOp, resolve, e0, e1]
    go_simp
   ·exact Eng.pv fun a w' H => Eng.vr rfl (Eng.run_assign rfl (H.d 4 33))
  intro act23 w23 T
  have h4_23 : act23.eval (.tmp 4) = .bool true := T.done 5 4 rfl rfl
  have d23 := T.defers.trans d4
  have bl23 := bl4.trans (T.below.mono bl4.size)
  clear T
  refine Eng.tail_nil ?_
  refine wp_ret ?_
  repeat (first | with_reducible refine Eng.in_ret ?_ | with_reducible refine Eng.then_ret ?_)
  exact Eng.ret1 rfl d23 h4_23 ⟨rfl, bl23⟩
end Go.Proofs.YtgnmjaacnmkgnaaDoor.X
end
section
namespace Go.Proofs.YtgnmjaacnmkgnaaDoor.X
open Go.RowKit Go.Shelf Go.Proofs Go.Proofs.YtgnmjaacnmkgnaaDoorW.PrintWords Go.Proofs.YtgnmjaacnmkgnaaDoorW.PrintLast Go.Proofs.YtgnmjaacnmkgnaaDoorW.PrintMore
set_option linter.unusedVariables false
set_option linter.unusedSimpArgs false
attribute [local go_sem] max2_int min2_int max_two min_two
set_option maxHeartbeats 4000000 in
set_option maxRecDepth 100000 in
theorem Dc.ours9_calls (v : Value) (fin : List Dc.GV) (w : World) (hG : Dc.GsR w fin v) (hfl : fin.length ≤ 1000000) (hsm : ∀ f ∈ fin, Dc.Sml 1000000 f.1) : Calls Tryd.prog 16 #[v] w fun e w' => ∃ o hs, e = .returned o ∧ List.map (·.1) hs = List.map (·.1) fin ∧ w'.ownsRow w.heap.size 51 1 o hs.length (List.map (·.2) hs) ∧ Dc.GsO w.heap.size w' hs ∧ Below w.heap.size w w' := by
 have hm := Eng.Reads.len_le hG.1
 refine Eng.enter Tryd.func16 rfl fun act0 d0 s0 v0 => ?_
 have s0 : act0.tmps.size = 19 := s0
 have h0_0 : act0.eval (.tmp 0) = v := v0 0 (by simp)
 clear v0
 have bl0 : Below w.heap.size w w := Below.refl _ _
 refine wp_seq ?_
 refine Eng.regionS (Eng.still [fun u_ => u_ = .slice none 0 0]) (fun _ => .plain) 1 0 19 s0 rfl (by kernel_rfl) (Eng.still_stable _) (Or.inr (Eng.still_any _)) ?_ ?_
 ·refine .c ?_ (.nil)
  ·exact Eng.pv fun a w' H => Eng.vr rfl (Eng.run_assign rfl (rfl : a.eval (.const (.slice none 0 0)) = .slice none 0 0))
 intro act1 w1 T
 have h0_1 := T.r 0 h0_0
 have Fg_1 := Eng.Reads.below hG.1 T.below
 have h2_1 : act1.eval (.tmp 2) = .slice none 0 0 := T.done 0 2 rfl rfl
 have d1 := T.defers.trans d0
 have s1 := T.size.trans s0
 have bl1 := bl0.trans (T.below.mono bl0.size)
 clear T
 refine Eng.tail_nil ?_
 refine wp_seq ?_
 refine Eng.regionS (Eng.still [fun u_ => u_ = .slice none 0 0]) (fun _ => .plain) 1 0 19 s1 rfl (by kernel_rfl) (Eng.still_stable _) (Or.inr (Eng.still_any _)) ?_ ?_
 ·refine .c ?_ (.nil)
  ·exact Eng.pv fun a w' H => Eng.vr rfl (Eng.run_assign rfl (rfl : a.eval (.const (.slice none 0 0)) = .slice none 0 0))
 intro act2 w2 T
 have h0_2 := T.r 0 h0_1
 have h2_2 := T.r 2 h2_1
 have Fg_2 := Eng.Reads.below Fg_1 T.below
 have h3_2 : act2.eval (.tmp 3) = .slice none 0 0 := T.done 0 3 rfl rfl
 have d2 := T.defers.trans d1
 have s2 := T.size.trans s1
 have bl2 := bl1.trans (T.below.mono bl1.size)
 clear T
 refine Eng.tail_nil ?_
 refine wp_seq ?_
 refine wp_seq ?_
 refine Eng.regionS (Eng.still [fun u_ => u_ = v, fun u_ => u_ = .int .i64 ((fin.length : Nat) : Int), fun u_ => u_ = .int .i64 0]) (fun _ => .plain) 3 0 19 s2 rfl (by kernel_rfl) (Eng.still_stable _) (Or.inr (Eng.still_any _)) ?_ ?_
 ·refine .c ?_ (.c ?_ (.c ?_ (.nil)))
  ·exact Eng.pv fun a w' H => Eng.vr rfl (Eng.run_move rfl (H.q 0 h0_2))
  ·exact Eng.pv fun a w' H => Eng.vr (v := .int .i64 ((fin.length : Nat) : Int)) rfl (Eng.run_len_sl rfl Tryd.underlying34 (show a.eval (.tmp 6) = v from (H.d 0 6)) (Eng.Reads.below Fg_2 H.below))
  ·exact Eng.pv fun a w' H => Eng.vr rfl (Eng.run_move rfl (rfl : a.eval (.const (.int .i64 0)) = .int .i64 0))
 intro act3 w3 T
 have h0_3 := T.r 0 h0_2
 have h2_3 := T.r 2 h2_2
 have h3_3 := T.r 3 h3_2
 have h6_3 : act3.eval (.tmp 6) = v := T.done 0 6 rfl rfl
 have h7_3 : act3.eval (.tmp 7) = .int .i64 ((fin.length : Nat) : Int) := T.done 1 7 rfl rfl
 have h8_3 : act3.eval (.tmp 8) = .int .i64 0 := T.done 2 8 rfl rfl
 have d3 := T.defers.trans d2
 have s3 := T.size.trans s2
 have bl3 := bl2.trans (T.below.mono bl2.size)
 clear T
 refine Eng.tail_nil ?_
 refine wp_block ?_
 refine Eng.loopN (fun n a w' => ∃ (k : Nat) (o : Value) (hs : List Dc.GV), fin.length - k = n ∧ (k ≤ fin.length) ∧ (List.map (·.1) hs = List.map (·.1) (List.take k fin)) ∧ (w'.ownsRow w.heap.size 51 1 o (List.length hs) (List.map (·.2) hs)) ∧ (Dc.GsO w.heap.size w' hs) ∧ a.defers = [] ∧ a.tmps.size = 19 ∧ Below w.heap.size w w' ∧ a.eval (.tmp 0) = v ∧ a.eval (.tmp 2) = .slice none 0 0 ∧ a.eval (.tmp 3) = o ∧ a.eval (.tmp 6) = v ∧ a.eval (.tmp 7) = .int .i64 ((fin.length : Nat) : Int) ∧ a.eval (.tmp 8) = .int .i64 (k : Nat)) (n0 := fin.length - 0) ?_ ?_
 ·exact ⟨0, .slice none 0 0, [], rfl, by omega, rfl, World.ownsRow_nil _ _ _ _, Dc.GsO.nil, d3, s3, bl3, h0_3, h2_3, (h3_3.trans (by first | rfl | (congr 1; rw [Eng.i64_id (by omega) (by omega)]; omega) | (simp; done))), h6_3, h7_3, (h8_3.trans (by first | rfl | (congr 1; rw [Eng.i64_id (by omega) (by omega)]; omega) | (simp; done)))⟩
 rintro n act4 w4 ⟨k, o, hs, rfl, hc0_4, hc1_4, hc2_4, hc3_4, d4, s4, bl4, h0_4, h2_4, h3_4, h6_4, h7_4, h8_4⟩
 have Fg_4 := Eng.Reads.below hG.1 bl4
 have hk1 := hc0_4
 have hmap := hc1_4
 have hsl := Dc.mapG_len hk1 hmap
 refine wp_seq ?_
 obtain ⟨q9, Bq9⟩ : ∃ b : Bool, b = (decide ((k : Nat) < ((fin.length : Nat) : Int))) := ⟨_, rfl⟩
 refine Eng.regionS (Eng.still [fun u_ => u_ = .bool q9]) (fun _ => .plain) 1 0 19 s4 rfl (by kernel_rfl) (Eng.still_stable _) (Or.inr (Eng.still_any _)) ?_ ?_
 ·refine .c ?_ (.nil)
  ·refine Eng.pv fun a w' H => ?_
   refine Eng.vr (v := .bool (decide ((k : Nat) < ((fin.length : Nat) : Int)))) (by show _ = Value.bool q9; rw [Bq9]) ?_
   have e0 := (H.q 8 h8_4)
   have e1 := (H.q 7 h7_4)
   simp only [execOp, resolve, e0, e1]
   go_simp
 intro act5 w5 T
 have h0_5 := T.r 0 h0_4
 have h2_5 := T.r 2 h2_4
 have h3_5 := T.r 3 h3_4
 have h6_5 := T.r 6 h6_4
 have h7_5 := T.r 7 h7_4
 have h8_5 := T.r 8 h8_4
 have Fg_5 := Eng.Reads.below Fg_4 T.below
 have Oout_5 := Eng.own_below hc2_4 T.below
 have h9_5 : act5.eval (.tmp 9) = .bool q9 := T.done 0 9 rfl rfl
 have d5 := T.defers.trans d4
 have s5 := T.size.trans s4
 have bl5 := bl4.trans (T.below.mono bl4.size)
 have XK_5 := Dc.GsO.below hc3_4 T.below
 clear T
 refine Eng.tail_nil ?_
 refine wp_seq ?_
 refine wp_cond_split h9_5 (fun hq => ?_) (fun hq => ?_)
 ·
  have c9 := Bq9.symm.trans hq
  clear hq
  have c9 := of_decide_eq_true c9
  have hk0 : k < fin.length := by omega
  have hcell := Dc.map2_at fin k hk0
  have Gk0 := Dc.gsR_at hG hk0
  have hsk := Dc.sml_at hsm hk0
  obtain ⟨nd, Hnd⟩ : ∃ n, n = (fin.getD k default).1 := ⟨_, rfl⟩
  obtain ⟨gk, hgk⟩ : ∃ v, v = (fin.getD k default).2 := ⟨_, rfl⟩
  rw [← Hnd, ← hgk] at Gk0
  rw [← hgk] at hcell
  rw [← Hnd] at hsk
  clear hgk
  refine wp_skip ?_
  refine wp_seq ?_
  refine wp_block ?_
  refine wp_seq ?_
  refine Eng.regionS (Eng.still [fun u_ => u_ = Eng.elemPtr v (k * 1), fun u_ => u_ = gk, fun u_ => u_ = gk]) (fun _ => .plain) 3 0 19 s5 rfl (by kernel_rfl) (Eng.still_stable _) (Or.inr (Eng.still_any _)) ?_ ?_
  ·refine .c ?_ (.c ?_ (.c ?_ (.nil)))
   ·exact Eng.pv fun a w' H => Eng.vr (v := Eng.elemPtr v (k * 1)) rfl (Eng.run_index_sl rfl Tryd.underlying34 (by kernel_rfl) (show a.eval (.tmp 6) = v from (H.q 6 h6_5)) ((show a.eval (.tmp 8) = .int .i64 (k : Nat) from (H.q 8 h8_5)).trans (congrArg (Value.int _) (show (k : Nat) = ((k : Nat) : Int) from by omega))) (Eng.Reads.below Fg_5 H.below) (by omega) rfl)
   ·exact Eng.pv fun a w' H => Eng.vr (v := gk) rfl (Eng.run_load_el (gk) rfl (show a.eval (.tmp 10) = Eng.elemPtr v (k * 1) from (H.d 0 10)) (Eng.Reads.below Fg_5 H.below) (hcell) (by kernel_rfl))
   ·exact Eng.pv fun a w' H => Eng.vr rfl (Eng.run_assign rfl (H.d 1 11))
  intro act7 w7 T
  have h0_7 := T.r 0 h0_5
  have h2_7 := T.r 2 h2_5
  have h3_7 := T.r 3 h3_5
  have h6_7 := T.r 6 h6_5
  have h7_7 := T.r 7 h7_5
  have h8_7 := T.r 8 h8_5
  have Fg_7 := Eng.Reads.below Fg_5 T.below
  have Oout_7 := Eng.own_below Oout_5 T.below
  have h5_7 : act7.eval (.tmp 5) = gk := T.done 2 5 rfl rfl
  have d7 := T.defers.trans d5
  have s7 := T.size.trans s5
  have bl7 := bl5.trans (T.below.mono bl5.size)
  have XK_7 := Dc.GsO.below XK_5 T.below
  clear T
  refine Eng.tail_nil ?_
  refine (wpIn_wide (n := 1)).1 ?_
  refine EngI.regionT (n := 6) rfl ?_
  refine EngI.tail_val EngI.free_wide rfl rfl rfl rfl (Eng.run_move rfl h3_7) s7 rfl fun act8 d8 s8 hv hr => ?_
  have h0_8 := (hr 0 rfl).trans h0_7
  have h2_8 := (hr 2 rfl).trans h2_7
  have h5_8 := (hr 5 rfl).trans h5_7
  have h6_8 := (hr 6 rfl).trans h6_7
  have h7_8 := (hr 7 rfl).trans h7_7
  have h8_8 := (hr 8 rfl).trans h8_7
  have h12_8 : act8.eval (.tmp 12) = o := hv
  have d8 := d8.trans d7
  clear hv hr
  refine EngI.tail_val EngI.free_wide rfl rfl rfl rfl (Eng.run_move rfl h5_8) s8 rfl fun act9 d9 s9 hv hr => ?_
  have h0_9 := (hr 0 rfl).trans h0_8
  have h2_9 := (hr 2 rfl).trans h2_8
  have h6_9 := (hr 6 rfl).trans h6_8
  have h7_9 := (hr 7 rfl).trans h7_8
  have h8_9 := (hr 8 rfl).trans h8_8
  have h12_9 := (hr 12 rfl).trans h12_8
  have h13_9 : act9.eval (.tmp 13) = gk := hv
  have d9 := d9.trans d8
  clear hv hr
  refine EngI.tail_call EngI.free_wide Tryd.func20 (by kernel_rfl) (by kernel_rfl) rfl rfl rfl rfl #[gk] (by have e0 : act9.eval (.tmp 13) = gk := h13_9; simp only [List.map_toArray, List.map_cons, List.map_nil, e0]) s9 rfl (R := fun v w' => Dc.GO w7.heap.size w' nd v ∧ Below w7.heap.size w7 w') ((Dc.ours8_calls gk nd _ (Gk0.below bl7) hsk).mono ?_) fun v_10 w10 act10 R d10 s10 hv hr => ?_
  ·rintro e w1 ⟨o, rfl, r⟩; exact ⟨_, rfl, r⟩
  have h0_10 := (hr 0 rfl).trans h0_9
  have h2_10 := (hr 2 rfl).trans h2_9
  have h6_10 := (hr 6 rfl).trans h6_9
  have h7_10 := (hr 7 rfl).trans h7_9
  have h8_10 := (hr 8 rfl).trans h8_9
  have h12_10 := (hr 12 rfl).trans h12_9
  have h14_10 : act10.eval (.tmp 14) = v_10 := hv
  have d10 := d10.trans d9
  clear hv hr
  obtain ⟨GO_10, b_10⟩ := R
  have Fg_10 := Eng.Reads.below Fg_7 b_10
  have Oout_10 := Eng.own_below Oout_7 b_10
  have XK_10 := Dc.GsO.below XK_7 b_10
  have bl10 := bl7.trans (b_10.mono bl7.size)
  have Q_10 := Dc.GO.mono GO_10 bl7.size
  have Qc_10 := Q_10
  obtain ⟨_, _, Og_10, _⟩ := Qc_10
  have Fg_10 := Eng.Reads.of_own Og_10
  refine EngI.tail_ex EngI.free_wide rfl rfl rfl rfl (Eng.run_buildN1 (z := .slice none 0 0) [v_10] rfl Tryd.underlying39 (by kernel_rfl) rfl rfl rfl rfl (by intro v hv; have h := List.mem_singleton.1 hv; rw [h]; exact (Eng.Reads.cells1 Fg_10)) (by have e0 : act10.eval (.tmp 14) = v_10 := h14_10; simp [e0])) s10 rfl fun v_11 w11 act11 R d11 s11 hv hr => ?_
  obtain ⟨F_11, b_11⟩ := R
  have h0_11 := (hr 0 rfl).trans h0_10
  have h2_11 := (hr 2 rfl).trans h2_10
  have h6_11 := (hr 6 rfl).trans h6_10
  have h7_11 := (hr 7 rfl).trans h7_10
  have h8_11 := (hr 8 rfl).trans h8_10
  have h12_11 := (hr 12 rfl).trans h12_10
  have h15_11 : act11.eval (.tmp 15) = v_11 := hv
  have d11 := d11.trans d10
  clear hv hr
  have Oout_11 := Eng.own_below Oout_10 b_11
  have Fgo_11 := Eng.Reads.below Fg_10 b_11
  have XK_11 := Dc.GsO.below XK_10 b_11
  have XQ_11 := Dc.GO.below Q_10 b_11
  have bl11 := bl10.trans (b_11.mono bl10.size)
  refine EngI.tail_ex EngI.free_wide rfl rfl rfl rfl (Eng.run_appendI (z := .slice none 0 0) rfl Tryd.underlying39 (by kernel_rfl) rfl rfl h12_11 Oout_11 h15_11 F_11 (by intro u hu; simp at hu; subst hu; obtain ⟨A_, c_, e_⟩ := Eng.Reads.shape Fgo_11; rw [e_]; rfl) (by omega) bl11.size) s11 rfl fun v_12 w12 act12 R d12 s12 hv hr => ?_
  obtain ⟨O_12, _, b_12, G_12, EO_12⟩ := R
  have h0_12 := (hr 0 rfl).trans h0_11
  have h2_12 := (hr 2 rfl).trans h2_11
  have h6_12 := (hr 6 rfl).trans h6_11
  have h7_12 := (hr 7 rfl).trans h7_11
  have h8_12 := (hr 8 rfl).trans h8_11
  have h16_12 : act12.eval (.tmp 16) = v_12 := hv
  have d12 := d12.trans d11
  clear hv hr
  have XK_12 := Dc.GsO.grown XK_11 G_12 Oout_11 rfl rfl
  have XQ_12 := Dc.GO.grown XQ_11 G_12 Oout_11 rfl rfl
  have bl12 := bl11.trans b_12
  have Oa12 : w12.ownsRow w.heap.size 51 1 v_12 (hs ++ [(nd, v_10)]).length (List.map (·.2) (hs ++ [(nd, v_10)])) := Dc.own_snocG O_12
  have Fa12 := Eng.Reads.of_own Oa12
  refine EngI.tail_val EngI.free_wide rfl rfl rfl rfl (Eng.run_assign rfl h16_12) s12 rfl fun act13 d13 s13 hv hr => ?_
  have h0_13 := (hr 0 rfl).trans h0_12
  have h2_13 := (hr 2 rfl).trans h2_12
  have h6_13 := (hr 6 rfl).trans h6_12
  have h7_13 := (hr 7 rfl).trans h7_12
  have h8_13 := (hr 8 rfl).trans h8_12
  have h3_13 : act13.eval (.tmp 3) = v_12 := hv
  have d13 := d13.trans d12
  clear hv hr
  refine EngI.tail_nil ?_
  refine Eng.regionS (Eng.still [fun u_ => u_ = .int .i64 (IntKind.i64.wrap ((k : Nat) + 1)), fun u_ => u_ = .int .i64 (IntKind.i64.wrap ((k : Nat) + 1))]) (fun _ => .plain) 2 0 19 s13 rfl (by kernel_rfl) (Eng.still_stable _) (Or.inr (Eng.still_any _)) ?_ ?_
  ·refine .c ?_ (.c ?_ (.nil))
   ·refine Eng.pv fun a w' H => ?_
    refine Eng.vr (v := .int .i64 (IntKind.i64.wrap ((k : Nat) + 1))) rfl ?_
    have e0 := (H.q 8 h8_13)
    have e1 : a.eval (.const (.int .i64 1)) = .int .i64 1 := rfl
    simp only [execOp, resolve, e0, e1]
    go_simp
   ·exact Eng.pv fun a w' H => Eng.vr rfl (Eng.run_move rfl (H.d 0 17))
  intro act14 w14 T
  have h0_14 := T.r 0 h0_13
  have h2_14 := T.r 2 h2_13
  have h3_14 := T.r 3 h3_13
  have h6_14 := T.r 6 h6_13
  have h7_14 := T.r 7 h7_13
  have Oa12_14 := Eng.own_below Oa12 T.below
  have h8_14 : act14.eval (.tmp 8) = .int .i64 (IntKind.i64.wrap ((k : Nat) + 1)) := T.done 1 8 rfl rfl
  have d14 := T.defers.trans d13
  have s14 := T.size.trans s13
  have bl14 := bl12.trans (T.below.mono bl12.size)
  have XK_14 := Dc.GsO.below XK_12 T.below
  have XQ_14 := Dc.GO.below XQ_12 T.below
  clear T
  refine Eng.tail_nil ?_
  exact ⟨_, by omega, k + 1, v_12, (hs ++ [(nd, v_10)]), rfl, by omega, Dc.mapG_snoc hk0 hmap Hnd, Oa12_14, Dc.GsO.snoc XK_14 XQ_14, d14, s14, bl14, h0_14, h2_14, (h3_14.trans (by first | rfl | (congr 1; rw [Eng.i64_id (by omega) (by omega)]; omega) | (simp; done))), h6_14, h7_14, (h8_14.trans (by first | rfl | (congr 1; rw [Eng.i64_id (by omega) (by omega)]; omega) | (simp; done)))⟩
 ·
  have c9 := Bq9.symm.trans hq
  clear hq
  have c9 := of_decide_eq_false c9
  have hke : k = fin.length := by omega
  refine wp_exit ?_
  refine wp_seq ?_
  refine Eng.regionS (Eng.still [fun u_ => u_ = o, fun u_ => u_ = o]) (fun _ => .plain) 2 0 19 s5 rfl (by kernel_rfl) (Eng.still_stable _) (Or.inr (Eng.still_any _)) ?_ ?_
  ·refine .c ?_ (.c ?_ (.nil))
   ·exact Eng.pv fun a w' H => Eng.vr rfl (Eng.run_move rfl (H.q 3 h3_5))
   ·exact Eng.pv fun a w' H => Eng.vr rfl (Eng.run_assign rfl (H.d 0 18))
  intro act16 w16 T
  have Oout_16 := Eng.own_below Oout_5 T.below
  have h2_16 : act16.eval (.tmp 2) = o := T.done 1 2 rfl rfl
  have d16 := T.defers.trans d5
  have bl16 := bl5.trans (T.below.mono bl5.size)
  have XK_16 := Dc.GsO.below XK_5 T.below
  clear T
  refine Eng.tail_nil ?_
  refine wp_ret ?_
  repeat (first | with_reducible refine Eng.in_ret ?_ | with_reducible refine Eng.then_ret ?_)
  rw [hke, List.take_length] at hmap
  exact Eng.ret1 rfl d16 h2_16 ⟨_, hs, rfl, hmap, Oout_16, XK_16, bl16⟩
end Go.Proofs.YtgnmjaacnmkgnaaDoor.X
end
section
namespace Go.Proofs.YtgnmjaacnmkgnaaDoor.X
open Go.RowKit Go.Shelf Go.Proofs
set_option linter.unusedVariables false
set_option linter.unusedSimpArgs false
namespace Evt
theorem own_take {w : World} {B k : Nat} {v : Value} {l : List Ev} (hk : k < l.length) (O : w.ownsRow B 30 5 v ((l.take k).length + 1) (cells (l.take k) ++ enc (l.getD k default))) : w.ownsRow B 30 5 v (l.take (k + 1)).length (cells (l.take (k + 1))) := by
  rw [Rwt.take_one hk, List.length_append]
  show w.ownsRow B 30 5 v _ (List.flatMap enc (l.take k ++ [l.getD k default]))
  rw [List.flatMap_append]
  simpa using O
end Evt
end Go.Proofs.YtgnmjaacnmkgnaaDoor.X
end
