/- Words and walks that the row of ComposeNames needs: printed by programs, and plain laws. -/
import Derived.Test.YtgnmjaacnmkgnaaDoorM14
import Derived.Test.YtgnmjaacnmkgnaaDoorM3
import Derived.Test.YtgnmjaacnmkgnaaDoorM4
namespace Go.Proofs.YtgnmjaacnmkgnaaDoorW.PrintWords
end Go.Proofs.YtgnmjaacnmkgnaaDoorW.PrintWords
namespace Go.Proofs.YtgnmjaacnmkgnaaDoorW.PrintLast
end Go.Proofs.YtgnmjaacnmkgnaaDoorW.PrintLast
namespace Go.Proofs.YtgnmjaacnmkgnaaDoorW.PrintMore
end Go.Proofs.YtgnmjaacnmkgnaaDoorW.PrintMore
section
namespace Go.Proofs.YtgnmjaacnmkgnaaDoor.X
open Go.RowKit Go.Shelf Go.Proofs Go.Proofs.YtgnmjaacnmkgnaaDoorW.PrintWords Go.Proofs.YtgnmjaacnmkgnaaDoorW.PrintLast Go.Proofs.YtgnmjaacnmkgnaaDoorW.PrintMore
set_option linter.unusedVariables false
set_option linter.unusedSimpArgs false
attribute [local go_sem] max2_int min2_int max_two min_two
set_option maxHeartbeats 4000000 in
set_option maxRecDepth 100000 in
theorem Dc.equal8_h (gv gv2 : Value) (h h2 : List Dc.NV) (w : World) (hF : Eng.Reads w gv h.length 4 (Dc.cells h)) (hK : Dc.KsR w h) (hF2 : Eng.Reads w gv2 h2.length 4 (Dc.cells h2)) (hK2 : Dc.KsR w h2) (he : h.map (·.1) = h2.map (·.1)) : Calls Tryd.prog 19 #[gv, gv2] w fun e w' => e = .returned (.bool true) ∧ Below w.heap.size w w' := by
 have hm := Eng.Reads.len_le hF
 have hlen := Dc.eq_len he
 refine Eng.enter Tryd.func19 rfl fun act0 d0 s0 v0 => ?_
 have s0 : act0.tmps.size = 97 := s0
 have h0_0 : act0.eval (.tmp 0) = gv := v0 0 (by simp)
 have h1_0 : act0.eval (.tmp 1) = gv2 := v0 1 (by simp)
 clear v0
 have bl0 : Below w.heap.size w w := Below.refl _ _
 refine wp_seq ?_
 refine Eng.rS [.bool false] (fun _ => .plain) 1 0 s0 ?_ ?_
 ·refine .c ?_ (.nil)
  ·exact Eng.pv fun a w' H => Eng.vr rfl (Eng.run_assign rfl (rfl : a.eval (.const (.bool false)) = .bool false))
 intro act1 w1 T
 have ⟨h0_1, h1_1⟩ := T.r2 h0_0 h1_0
 have Fgr_1 := T.f hF
 have Fgr2_1 := T.f hF2
 have d1 := T.e d0
 have s1 := T.z s0
 have bl1 := T.b bl0
 clear T
 refine Eng.tail_nil ?_
 refine wp_seq ?_
 refine wp_seq ?_
 obtain ⟨q11, Bq11⟩ : ∃ b : Bool, b = (!(((h.length : Nat) : Int) == ((h2.length : Nat) : Int))) := ⟨_, rfl⟩
 refine Eng.rS [gv, .int .i64 ((h.length : Nat) : Int), gv2, .int .i64 ((h2.length : Nat) : Int), .bool q11] (fun _ => .plain) 5 0 s1 ?_ ?_
 ·refine .c ?_ (.c ?_ (.c ?_ (.c ?_ (.c ?_ (.nil)))))
  ·exact Eng.pv fun a w' H => Eng.vr rfl (Eng.run_move rfl (H.q 0 h0_1))
  ·exact Eng.pv fun a w' H => Eng.vr (v := .int .i64 ((h.length : Nat) : Int)) rfl (Eng.run_len_sl rfl Tryd.underlying51 (show a.eval (.tmp 7) = gv from (H.d 0 7)) (Eng.Reads.below Fgr_1 H.below))
  ·exact Eng.pv fun a w' H => Eng.vr rfl (Eng.run_move rfl (H.q 1 h1_1))
  ·exact Eng.pv fun a w' H => Eng.vr (v := .int .i64 ((h2.length : Nat) : Int)) rfl (Eng.run_len_sl rfl Tryd.underlying51 (show a.eval (.tmp 9) = gv2 from (H.d 2 9)) (Eng.Reads.below Fgr2_1 H.below))
  refine Eng.pv fun a w' H => ?_
  refine Eng.vr (v := .bool (!(((h.length : Nat) : Int) == ((h2.length : Nat) : Int)))) (by show _ = Value.bool q11; rw [Bq11]) ?_
  have e0 : a.eval (.tmp 8) = .int .i64 ((h.length : Nat) : Int) := (H.d 1 8)
  have e1 : a.eval (.tmp 10) = .int .i64 ((h2.length : Nat) : Int) := (H.d 3 10)
  simp only [execOp, resolve, e0, e1]
  go_simp
 intro act2 w2 T
 have ⟨h0_2, h1_2⟩ := T.r2 h0_1 h1_1
 have h11_2 : act2.eval (.tmp 11) = .bool q11 := T.done 4 11 rfl rfl
 have d2 := T.e d1
 have s2 := T.z s1
 have bl2 := T.b bl1
 clear T
 refine Eng.tail_nil ?_
 have n11 : q11 = false := by
  try simp only [Bq11]
  rw [hlen, beq_self_eq_true]; rfl
 refine wp_cond_false (h11_2.trans (by rw [n11])) ?_
 refine wp_skip ?_
 refine wp_seq ?_
 refine wp_seq ?_
 refine Eng.rS [.int .i64 0] (fun _ => .plain) 1 0 s2 ?_ ?_
 ·refine .c ?_ (.nil)
  ·exact Eng.pv fun a w' H => Eng.vr rfl (Eng.run_assign rfl (rfl : a.eval (.const (.int .i64 0)) = .int .i64 0))
 intro act3 w3 T
 have ⟨h0_3, h1_3, h11_3⟩ := T.r3 h0_2 h1_2 h11_2
 have h5_3 : act3.eval (.tmp 5) = .int .i64 0 := T.done 0 5 rfl rfl
 have d3 := T.e d2
 have s3 := T.z s2
 have bl3 := T.b bl2
 clear T
 refine Eng.tail_nil ?_
 refine wp_block ?_
 refine Eng.loopN (fun n a w' => ∃ (k : Nat), h.length - k = n ∧ (k ≤ h.length) ∧ a.defers = [] ∧ a.tmps.size = 97 ∧ Below w.heap.size w w' ∧ a.eval (.tmp 0) = gv ∧ a.eval (.tmp 1) = gv2 ∧ a.eval (.tmp 5) = .int .i64 (k : Nat) ∧ a.eval (.tmp 11) = .bool q11) (n0 := h.length - 0) ?_ ?_
 ·exact ⟨0, rfl, by omega, d3, s3, bl3, h0_3, h1_3, (h5_3.trans (by first | rfl | (congr 1; rw [Eng.i64_id (by omega) (by omega)]; omega) | (simp; done))), h11_3⟩
 rintro n act4 w4 ⟨k, rfl, hc0_4, d4, s4, bl4, h0_4, h1_4, h5_4, h11_4⟩
 have Fgr_4 := Eng.Reads.below hF bl4
 have Fgr2_4 := Eng.Reads.below hF2 bl4
 have hk1 := hc0_4
 refine wp_seq ?_
 refine wp_seq ?_
 obtain ⟨q15, Bq15⟩ : ∃ b : Bool, b = (decide ((k : Nat) < ((h.length : Nat) : Int))) := ⟨_, rfl⟩
 refine Eng.rS [.int .i64 (k : Nat), gv, .int .i64 ((h.length : Nat) : Int), .bool q15] (fun _ => .plain) 4 0 s4 ?_ ?_
 ·refine .c ?_ (.c ?_ (.c ?_ (.c ?_ (.nil))))
  ·exact Eng.pv fun a w' H => Eng.vr rfl (Eng.run_move rfl (H.q 5 h5_4))
  ·exact Eng.pv fun a w' H => Eng.vr rfl (Eng.run_move rfl (H.q 0 h0_4))
  ·exact Eng.pv fun a w' H => Eng.vr (v := .int .i64 ((h.length : Nat) : Int)) rfl (Eng.run_len_sl rfl Tryd.underlying51 (show a.eval (.tmp 13) = gv from (H.d 1 13)) (Eng.Reads.below Fgr_4 H.below))
  refine Eng.pv fun a w' H => ?_
  refine Eng.vr (v := .bool (decide ((k : Nat) < ((h.length : Nat) : Int)))) (by show _ = Value.bool q15; rw [Bq15]) ?_
  have e0 : a.eval (.tmp 12) = .int .i64 (k : Nat) := (H.d 0 12)
  have e1 : a.eval (.tmp 14) = .int .i64 ((h.length : Nat) : Int) := (H.d 2 14)
  simp only [execOp, resolve, e0, e1]
  go_simp
 intro act5 w5 T
 have ⟨h0_5, h1_5, h5_5, h11_5⟩ := T.r4 h0_4 h1_4 h5_4 h11_4
 have Fgr_5 := T.f Fgr_4
 have Fgr2_5 := T.f Fgr2_4
 have h15_5 : act5.eval (.tmp 15) = .bool q15 := T.done 3 15 rfl rfl
 have d5 := T.e d4
 have s5 := T.z s4
 have bl5 := T.b bl4
 clear T
 refine Eng.tail_nil ?_
 refine wp_cond_split h15_5 (fun hq => ?_) (fun hq => ?_)
 ·
  have c15 := Bq15.symm.trans hq
  clear hq
  have c15 := of_decide_eq_true c15
  have hk0 : k < h.length := by omega
  have hk2 : k < h2.length := by omega
  obtain ⟨nk, Hnk⟩ : ∃ n, n = (h.getD k default).1 := ⟨_, rfl⟩
  have Hn2 : nk = (h2.getD k default).1 := Hnk.trans (Dc.eq_at he k)
  have ck1 := Dc.cell_kind h k hk0
  have ct1 := Dc.cell_tag h k hk0
  have cx1 := Dc.cell_text h k hk0
  have cq1 := Dc.cell_kids h k hk0
  have Fq1 := hK.at_ hk0
  obtain ⟨kv1, hkv1⟩ : ∃ v, v = (h.getD k default).2 := ⟨_, rfl⟩
  rw [← Hnk] at ck1 ct1 cx1
  rw [← hkv1] at cq1
  rw [← Hnk, ← hkv1] at Fq1
  clear hkv1
  have Fk1_7 := Eng.Reads.below Fq1 bl5
  have ck2 := Dc.cell_kind h2 k hk2
  have ct2 := Dc.cell_tag h2 k hk2
  have cx2 := Dc.cell_text h2 k hk2
  have cq2 := Dc.cell_kids h2 k hk2
  have Fq2 := hK2.at_ hk2
  obtain ⟨kv2, hkv2⟩ : ∃ v, v = (h2.getD k default).2 := ⟨_, rfl⟩
  rw [← Hn2] at ck2 ct2 cx2
  rw [← hkv2] at cq2
  rw [← Hn2, ← hkv2] at Fq2
  clear hkv2
  have Fk2_7 := Eng.Reads.below Fq2 bl5
  have hkl := Eng.Reads.len_le Fq1
  refine wp_skip ?_
  refine wp_seq ?_
  refine wp_block ?_
  refine wp_seq ?_
  refine wp_seq ?_
  refine Eng.rD [gv, .int .i64 (k : Nat), Eng.elemPtr gv (k * 4), Eng.elemPtr gv (k * 4 + 0), .int .i64 nk.kind, gv2, .int .i64 (k : Nat), Eng.elemPtr gv2 (k * 4), Eng.elemPtr gv2 (k * 4 + 0), .int .i64 nk.kind, .bool false, .bool false, gv, .int .i64 (k : Nat), Eng.elemPtr gv (k * 4), Eng.elemPtr gv (k * 4 + 1), .string nk.tag, gv2, .int .i64 (k : Nat), Eng.elemPtr gv2 (k * 4), Eng.elemPtr gv2 (k * 4 + 1), .string nk.tag, .bool false, .bool false, .bool false, gv, .int .i64 (k : Nat), Eng.elemPtr gv (k * 4), Eng.elemPtr gv (k * 4 + 2), .string nk.text, gv2, .int .i64 (k : Nat), Eng.elemPtr gv2 (k * 4), Eng.elemPtr gv2 (k * 4 + 2), .string nk.text, .bool false, .bool false, .bool false, gv, .int .i64 (k : Nat), Eng.elemPtr gv (k * 4), Eng.elemPtr gv (k * 4 + 3), kv1, .int .i64 ((nk.kids.length : Nat) : Int), gv2, .int .i64 (k : Nat), Eng.elemPtr gv2 (k * 4), Eng.elemPtr gv2 (k * 4 + 3), kv2, .int .i64 ((nk.kids.length : Nat) : Int), .bool false, .bool false] (fun _ => .plain) 52 0 s5 ?_ ?_
  ·refine .c ?_ (.c ?_ (.c ?_ (.c ?_ (.c ?_ (.c ?_ (.c ?_ (.c ?_ (.c ?_ (.c ?_ (.c ?_ (.c ?_ (.c ?_ (.c ?_ (.c ?_ (.c ?_ (.c ?_ (.c ?_ (.c ?_ (.c ?_ (.c ?_ (.c ?_ (.c ?_ (.c ?_ (.c ?_ (.c ?_ (.c ?_ (.c ?_ (.c ?_ (.c ?_ (.c ?_ (.c ?_ (.c ?_ (.c ?_ (.c ?_ (.c ?_ (.c ?_ (.c ?_ (.c ?_ (.c ?_ (.c ?_ (.c ?_ (.c ?_ (.c ?_ (.c ?_ (.c ?_ (.c ?_ (.c ?_ (.c ?_ (.c ?_ (.c ?_ (.c ?_ (.nil))))))))))))))))))))))))))))))))))))))))))))))))))))
   ·exact Eng.pv fun a w' H => Eng.vr rfl (Eng.run_move rfl (H.q 0 h0_5))
   ·exact Eng.pv fun a w' H => Eng.vr rfl (Eng.run_move rfl (H.q 5 h5_5))
   ·exact Eng.pv fun a w' H => Eng.vr (v := Eng.elemPtr gv (k * 4)) rfl (Eng.run_index_sl rfl Tryd.underlying51 (by kernel_rfl) (show a.eval (.tmp 18) = gv from (H.d 0 18)) ((show a.eval (.tmp 19) = .int .i64 (k : Nat) from (H.d 1 19)).trans (congrArg (Value.int _) (show (k : Nat) = ((k : Nat) : Int) from by omega))) (Eng.Reads.below Fgr_5 H.below) (by omega) rfl)
   ·exact Eng.pv fun a w' H => Eng.vr (v := Eng.elemPtr gv (k * 4 + 0)) rfl (Eng.run_field_el rfl Tryd.underlying81 0 (by kernel_rfl) (show a.eval (.tmp 20) = Eng.elemPtr gv (k * 4) from (H.d 2 20)) (Eng.Reads.below Fgr_5 H.below) (by have h_ : k < h.length := (by omega); omega))
   ·exact Eng.pv fun a w' H => Eng.vr (v := .int .i64 nk.kind) rfl (Eng.run_load_el (.int .i64 nk.kind) rfl (show a.eval (.tmp 21) = Eng.elemPtr gv (k * 4 + 0) from (H.d 3 21)) (Eng.Reads.below Fgr_5 H.below) (ck1) (by kernel_rfl))
   ·exact Eng.pv fun a w' H => Eng.vr rfl (Eng.run_move rfl (H.q 1 h1_5))
   ·exact Eng.pv fun a w' H => Eng.vr rfl (Eng.run_move rfl (H.q 5 h5_5))
   ·exact Eng.pv fun a w' H => Eng.vr (v := Eng.elemPtr gv2 (k * 4)) rfl (Eng.run_index_sl rfl Tryd.underlying51 (by kernel_rfl) (show a.eval (.tmp 23) = gv2 from (H.d 5 23)) ((show a.eval (.tmp 24) = .int .i64 (k : Nat) from (H.d 6 24)).trans (congrArg (Value.int _) (show (k : Nat) = ((k : Nat) : Int) from by omega))) (Eng.Reads.below Fgr2_5 H.below) (by omega) rfl)
   ·exact Eng.pv fun a w' H => Eng.vr (v := Eng.elemPtr gv2 (k * 4 + 0)) rfl (Eng.run_field_el rfl Tryd.underlying81 0 (by kernel_rfl) (show a.eval (.tmp 25) = Eng.elemPtr gv2 (k * 4) from (H.d 7 25)) (Eng.Reads.below Fgr2_5 H.below) (by have h_ : k < h2.length := (by omega); omega))
   ·exact Eng.pv fun a w' H => Eng.vr (v := .int .i64 nk.kind) rfl (Eng.run_load_el (.int .i64 nk.kind) rfl (show a.eval (.tmp 26) = Eng.elemPtr gv2 (k * 4 + 0) from (H.d 8 26)) (Eng.Reads.below Fgr2_5 H.below) (ck2) (by kernel_rfl))
   ·refine Eng.pv fun a w' H => ?_
    refine Eng.vr (v := .bool (!(nk.kind == nk.kind))) (by show _ = Value.bool false; rw [show (!(nk.kind == nk.kind)) = false from (by rw [beq_self_eq_true]; rfl)]) ?_
    have e0 : a.eval (.tmp 22) = .int .i64 nk.kind := (H.d 4 22)
    have e1 : a.eval (.tmp 27) = .int .i64 nk.kind := (H.d 9 27)
    simp only [execOp, resolve, e0, e1]
    go_simp
   ·exact Eng.pv fun a w' H => Eng.vr rfl (Eng.run_move rfl (H.d 10 28))
   ·refine Eng.guardedT (j := 11) (d := 29) rfl rfl (by kernel_rfl) rfl (fun v w h => h) fun a w' H => ?_
    exact Eng.val (w1 := w') (v := gv) (Eng.run_move rfl (H.q 0 h0_5)) (Below.refl _ _) rfl
   ·refine Eng.guardedT (j := 11) (d := 29) rfl rfl (by kernel_rfl) rfl (fun v w h => h) fun a w' H => ?_
    exact Eng.val (w1 := w') (v := .int .i64 (k : Nat)) (Eng.run_move rfl (H.q 5 h5_5)) (Below.refl _ _) rfl
   ·refine Eng.guardedT (j := 11) (d := 29) rfl rfl (by kernel_rfl) rfl (fun v w h => h) fun a w' H => ?_
    refine Eng.vr (v := Eng.elemPtr gv (k * 4)) rfl ?_
    exact Eng.run_index_sl rfl Tryd.underlying51 (by kernel_rfl) (show a.eval (.tmp 30) = gv from (H.d 12 30)) ((show a.eval (.tmp 31) = .int .i64 (k : Nat) from (H.d 13 31)).trans (congrArg (Value.int _) (show (k : Nat) = ((k : Nat) : Int) from by omega))) (Eng.Reads.below Fgr_5 H.below) (by omega) rfl
   ·refine Eng.guardedT (j := 11) (d := 29) rfl rfl (by kernel_rfl) rfl (fun v w h => h) fun a w' H => ?_
    refine Eng.vr (v := Eng.elemPtr gv (k * 4 + 1)) rfl ?_
    exact Eng.run_field_el rfl Tryd.underlying81 1 (by kernel_rfl) (show a.eval (.tmp 32) = Eng.elemPtr gv (k * 4) from (H.d 14 32)) (Eng.Reads.below Fgr_5 H.below) (by have h_ : k < h.length := (by omega); omega)
   ·refine Eng.guardedT (j := 11) (d := 29) rfl rfl (by kernel_rfl) rfl (fun v w h => h) fun a w' H => ?_
    refine Eng.vr (v := .string nk.tag) rfl ?_
    exact Eng.run_load_el (.string nk.tag) rfl (show a.eval (.tmp 33) = Eng.elemPtr gv (k * 4 + 1) from (H.d 15 33)) (Eng.Reads.below Fgr_5 H.below) (ct1) (by kernel_rfl)
   ·refine Eng.guardedT (j := 11) (d := 29) rfl rfl (by kernel_rfl) rfl (fun v w h => h) fun a w' H => ?_
    exact Eng.val (w1 := w') (v := gv2) (Eng.run_move rfl (H.q 1 h1_5)) (Below.refl _ _) rfl
   ·refine Eng.guardedT (j := 11) (d := 29) rfl rfl (by kernel_rfl) rfl (fun v w h => h) fun a w' H => ?_
    exact Eng.val (w1 := w') (v := .int .i64 (k : Nat)) (Eng.run_move rfl (H.q 5 h5_5)) (Below.refl _ _) rfl
   ·refine Eng.guardedT (j := 11) (d := 29) rfl rfl (by kernel_rfl) rfl (fun v w h => h) fun a w' H => ?_
    refine Eng.vr (v := Eng.elemPtr gv2 (k * 4)) rfl ?_
    exact Eng.run_index_sl rfl Tryd.underlying51 (by kernel_rfl) (show a.eval (.tmp 35) = gv2 from (H.d 17 35)) ((show a.eval (.tmp 36) = .int .i64 (k : Nat) from (H.d 18 36)).trans (congrArg (Value.int _) (show (k : Nat) = ((k : Nat) : Int) from by omega))) (Eng.Reads.below Fgr2_5 H.below) (by omega) rfl
   ·refine Eng.guardedT (j := 11) (d := 29) rfl rfl (by kernel_rfl) rfl (fun v w h => h) fun a w' H => ?_
    refine Eng.vr (v := Eng.elemPtr gv2 (k * 4 + 1)) rfl ?_
    exact Eng.run_field_el rfl Tryd.underlying81 1 (by kernel_rfl) (show a.eval (.tmp 37) = Eng.elemPtr gv2 (k * 4) from (H.d 19 37)) (Eng.Reads.below Fgr2_5 H.below) (by have h_ : k < h2.length := (by omega); omega)
   ·refine Eng.guardedT (j := 11) (d := 29) rfl rfl (by kernel_rfl) rfl (fun v w h => h) fun a w' H => ?_
    refine Eng.vr (v := .string nk.tag) rfl ?_
    exact Eng.run_load_el (.string nk.tag) rfl (show a.eval (.tmp 38) = Eng.elemPtr gv2 (k * 4 + 1) from (H.d 20 38)) (Eng.Reads.below Fgr2_5 H.below) (ct2) (by kernel_rfl)
   ·refine Eng.guardedT (j := 11) (d := 29) rfl rfl (by kernel_rfl) rfl (fun v w h => h) fun a w' H => ?_
    refine Eng.vr (v := .bool (!(nk.tag.toList == nk.tag.toList))) (by show _ = Value.bool false; rw [show (!(nk.tag.toList == nk.tag.toList)) = false from (by rw [beq_self_eq_true]; rfl)]) ?_
    have e0 : a.eval (.tmp 34) = .string nk.tag := (H.d 16 34)
    have e1 : a.eval (.tmp 39) = .string nk.tag := (H.d 21 39)
    simp only [execOp, resolve, e0, e1]
    go_simp
   ·exact Eng.pv fun a w' H => Eng.vr rfl (Eng.run_or rfl rfl (G := true) (H.d 11 29) (fun hb => (H.d 22 40)))
   ·exact Eng.pv fun a w' H => Eng.vr rfl (Eng.run_move rfl (H.d 23 41))
   ·refine Eng.guardedT (j := 24) (d := 42) rfl rfl (by kernel_rfl) rfl (fun v w h => h) fun a w' H => ?_
    exact Eng.val (w1 := w') (v := gv) (Eng.run_move rfl (H.q 0 h0_5)) (Below.refl _ _) rfl
   ·refine Eng.guardedT (j := 24) (d := 42) rfl rfl (by kernel_rfl) rfl (fun v w h => h) fun a w' H => ?_
    exact Eng.val (w1 := w') (v := .int .i64 (k : Nat)) (Eng.run_move rfl (H.q 5 h5_5)) (Below.refl _ _) rfl
   ·refine Eng.guardedT (j := 24) (d := 42) rfl rfl (by kernel_rfl) rfl (fun v w h => h) fun a w' H => ?_
    refine Eng.vr (v := Eng.elemPtr gv (k * 4)) rfl ?_
    exact Eng.run_index_sl rfl Tryd.underlying51 (by kernel_rfl) (show a.eval (.tmp 43) = gv from (H.d 25 43)) ((show a.eval (.tmp 44) = .int .i64 (k : Nat) from (H.d 26 44)).trans (congrArg (Value.int _) (show (k : Nat) = ((k : Nat) : Int) from by omega))) (Eng.Reads.below Fgr_5 H.below) (by omega) rfl
   ·refine Eng.guardedT (j := 24) (d := 42) rfl rfl (by kernel_rfl) rfl (fun v w h => h) fun a w' H => ?_
    refine Eng.vr (v := Eng.elemPtr gv (k * 4 + 2)) rfl ?_
    exact Eng.run_field_el rfl Tryd.underlying81 2 (by kernel_rfl) (show a.eval (.tmp 45) = Eng.elemPtr gv (k * 4) from (H.d 27 45)) (Eng.Reads.below Fgr_5 H.below) (by have h_ : k < h.length := (by omega); omega)
   ·refine Eng.guardedT (j := 24) (d := 42) rfl rfl (by kernel_rfl) rfl (fun v w h => h) fun a w' H => ?_
    refine Eng.vr (v := .string nk.text) rfl ?_
    exact Eng.run_load_el (.string nk.text) rfl (show a.eval (.tmp 46) = Eng.elemPtr gv (k * 4 + 2) from (H.d 28 46)) (Eng.Reads.below Fgr_5 H.below) (cx1) (by kernel_rfl)
   ·refine Eng.guardedT (j := 24) (d := 42) rfl rfl (by kernel_rfl) rfl (fun v w h => h) fun a w' H => ?_
    exact Eng.val (w1 := w') (v := gv2) (Eng.run_move rfl (H.q 1 h1_5)) (Below.refl _ _) rfl
   ·refine Eng.guardedT (j := 24) (d := 42) rfl rfl (by kernel_rfl) rfl (fun v w h => h) fun a w' H => ?_
    exact Eng.val (w1 := w') (v := .int .i64 (k : Nat)) (Eng.run_move rfl (H.q 5 h5_5)) (Below.refl _ _) rfl
   ·refine Eng.guardedT (j := 24) (d := 42) rfl rfl (by kernel_rfl) rfl (fun v w h => h) fun a w' H => ?_
    refine Eng.vr (v := Eng.elemPtr gv2 (k * 4)) rfl ?_
    exact Eng.run_index_sl rfl Tryd.underlying51 (by kernel_rfl) (show a.eval (.tmp 48) = gv2 from (H.d 30 48)) ((show a.eval (.tmp 49) = .int .i64 (k : Nat) from (H.d 31 49)).trans (congrArg (Value.int _) (show (k : Nat) = ((k : Nat) : Int) from by omega))) (Eng.Reads.below Fgr2_5 H.below) (by omega) rfl
   ·refine Eng.guardedT (j := 24) (d := 42) rfl rfl (by kernel_rfl) rfl (fun v w h => h) fun a w' H => ?_
    refine Eng.vr (v := Eng.elemPtr gv2 (k * 4 + 2)) rfl ?_
    exact Eng.run_field_el rfl Tryd.underlying81 2 (by kernel_rfl) (show a.eval (.tmp 50) = Eng.elemPtr gv2 (k * 4) from (H.d 32 50)) (Eng.Reads.below Fgr2_5 H.below) (by have h_ : k < h2.length := (by omega); omega)
   ·refine Eng.guardedT (j := 24) (d := 42) rfl rfl (by kernel_rfl) rfl (fun v w h => h) fun a w' H => ?_
    refine Eng.vr (v := .string nk.text) rfl ?_
    exact Eng.run_load_el (.string nk.text) rfl (show a.eval (.tmp 51) = Eng.elemPtr gv2 (k * 4 + 2) from (H.d 33 51)) (Eng.Reads.below Fgr2_5 H.below) (cx2) (by kernel_rfl)
   ·refine Eng.guardedT (j := 24) (d := 42) rfl rfl (by kernel_rfl) rfl (fun v w h => h) fun a w' H => ?_
    refine Eng.vr (v := .bool (!(nk.text.toList == nk.text.toList))) (by show _ = Value.bool false; rw [show (!(nk.text.toList == nk.text.toList)) = false from (by rw [beq_self_eq_true]; rfl)]) ?_
    have e0 : a.eval (.tmp 47) = .string nk.text := (H.d 29 47)
    have e1 : a.eval (.tmp 52) = .string nk.text := (H.d 34 52)
    simp only [execOp, resolve, e0, e1]
    go_simp
   ·exact Eng.pv fun a w' H => Eng.vr rfl (Eng.run_or rfl rfl (G := true) (H.d 24 42) (fun hb => (H.d 35 53)))
   ·exact Eng.pv fun a w' H => Eng.vr rfl (Eng.run_move rfl (H.d 36 54))
   ·refine Eng.guardedT (j := 37) (d := 55) rfl rfl (by kernel_rfl) rfl (fun v w h => h) fun a w' H => ?_
    exact Eng.val (w1 := w') (v := gv) (Eng.run_move rfl (H.q 0 h0_5)) (Below.refl _ _) rfl
   ·refine Eng.guardedT (j := 37) (d := 55) rfl rfl (by kernel_rfl) rfl (fun v w h => h) fun a w' H => ?_
    exact Eng.val (w1 := w') (v := .int .i64 (k : Nat)) (Eng.run_move rfl (H.q 5 h5_5)) (Below.refl _ _) rfl
   ·refine Eng.guardedT (j := 37) (d := 55) rfl rfl (by kernel_rfl) rfl (fun v w h => h) fun a w' H => ?_
    refine Eng.vr (v := Eng.elemPtr gv (k * 4)) rfl ?_
    exact Eng.run_index_sl rfl Tryd.underlying51 (by kernel_rfl) (show a.eval (.tmp 56) = gv from (H.d 38 56)) ((show a.eval (.tmp 57) = .int .i64 (k : Nat) from (H.d 39 57)).trans (congrArg (Value.int _) (show (k : Nat) = ((k : Nat) : Int) from by omega))) (Eng.Reads.below Fgr_5 H.below) (by omega) rfl
   ·refine Eng.guardedT (j := 37) (d := 55) rfl rfl (by kernel_rfl) rfl (fun v w h => h) fun a w' H => ?_
    refine Eng.vr (v := Eng.elemPtr gv (k * 4 + 3)) rfl ?_
    exact Eng.run_field_el rfl Tryd.underlying81 3 (by kernel_rfl) (show a.eval (.tmp 58) = Eng.elemPtr gv (k * 4) from (H.d 40 58)) (Eng.Reads.below Fgr_5 H.below) (by have h_ : k < h.length := (by omega); omega)
   ·refine Eng.guardedT (j := 37) (d := 55) rfl rfl (by kernel_rfl) rfl (fun v w h => h) fun a w' H => ?_
    refine Eng.vr (v := kv1) rfl ?_
    exact Eng.run_load_el (kv1) rfl (show a.eval (.tmp 59) = Eng.elemPtr gv (k * 4 + 3) from (H.d 41 59)) (Eng.Reads.below Fgr_5 H.below) (cq1) (by kernel_rfl)
   ·refine Eng.guardedT (j := 37) (d := 55) rfl rfl (by kernel_rfl) rfl (fun v w h => h) fun a w' H => ?_
    refine Eng.vr (v := .int .i64 ((nk.kids.length : Nat) : Int)) rfl ?_
    exact Eng.run_len_sl rfl Tryd.underlying55 (show a.eval (.tmp 60) = kv1 from (H.d 42 60)) (Eng.Reads.below Fk1_7 H.below)
   ·refine Eng.guardedT (j := 37) (d := 55) rfl rfl (by kernel_rfl) rfl (fun v w h => h) fun a w' H => ?_
    exact Eng.val (w1 := w') (v := gv2) (Eng.run_move rfl (H.q 1 h1_5)) (Below.refl _ _) rfl
   ·refine Eng.guardedT (j := 37) (d := 55) rfl rfl (by kernel_rfl) rfl (fun v w h => h) fun a w' H => ?_
    exact Eng.val (w1 := w') (v := .int .i64 (k : Nat)) (Eng.run_move rfl (H.q 5 h5_5)) (Below.refl _ _) rfl
   ·refine Eng.guardedT (j := 37) (d := 55) rfl rfl (by kernel_rfl) rfl (fun v w h => h) fun a w' H => ?_
    refine Eng.vr (v := Eng.elemPtr gv2 (k * 4)) rfl ?_
    exact Eng.run_index_sl rfl Tryd.underlying51 (by kernel_rfl) (show a.eval (.tmp 62) = gv2 from (H.d 44 62)) ((show a.eval (.tmp 63) = .int .i64 (k : Nat) from (H.d 45 63)).trans (congrArg (Value.int _) (show (k : Nat) = ((k : Nat) : Int) from by omega))) (Eng.Reads.below Fgr2_5 H.below) (by omega) rfl
   ·refine Eng.guardedT (j := 37) (d := 55) rfl rfl (by kernel_rfl) rfl (fun v w h => h) fun a w' H => ?_
    refine Eng.vr (v := Eng.elemPtr gv2 (k * 4 + 3)) rfl ?_
    exact Eng.run_field_el rfl Tryd.underlying81 3 (by kernel_rfl) (show a.eval (.tmp 64) = Eng.elemPtr gv2 (k * 4) from (H.d 46 64)) (Eng.Reads.below Fgr2_5 H.below) (by have h_ : k < h2.length := (by omega); omega)
   ·refine Eng.guardedT (j := 37) (d := 55) rfl rfl (by kernel_rfl) rfl (fun v w h => h) fun a w' H => ?_
    refine Eng.vr (v := kv2) rfl ?_
    exact Eng.run_load_el (kv2) rfl (show a.eval (.tmp 65) = Eng.elemPtr gv2 (k * 4 + 3) from (H.d 47 65)) (Eng.Reads.below Fgr2_5 H.below) (cq2) (by kernel_rfl)
   ·refine Eng.guardedT (j := 37) (d := 55) rfl rfl (by kernel_rfl) rfl (fun v w h => h) fun a w' H => ?_
    refine Eng.vr (v := .int .i64 ((nk.kids.length : Nat) : Int)) rfl ?_
    exact Eng.run_len_sl rfl Tryd.underlying55 (show a.eval (.tmp 66) = kv2 from (H.d 48 66)) (Eng.Reads.below Fk2_7 H.below)
   ·refine Eng.guardedT (j := 37) (d := 55) rfl rfl (by kernel_rfl) rfl (fun v w h => h) fun a w' H => ?_
    refine Eng.vr (v := .bool (!(((nk.kids.length : Nat) : Int) == ((nk.kids.length : Nat) : Int)))) (by show _ = Value.bool false; rw [show (!(((nk.kids.length : Nat) : Int) == ((nk.kids.length : Nat) : Int))) = false from (by rw [beq_self_eq_true]; rfl)]) ?_
    have e0 : a.eval (.tmp 61) = .int .i64 ((nk.kids.length : Nat) : Int) := (H.d 43 61)
    have e1 : a.eval (.tmp 67) = .int .i64 ((nk.kids.length : Nat) : Int) := (H.d 49 67)
    simp only [execOp, resolve, e0, e1]
    go_simp
   exact Eng.pv fun a w' H => Eng.vr rfl (Eng.run_or rfl rfl (G := true) (H.d 37 55) (fun hb => (H.d 50 68)))
  intro act8 w8 T
  have ⟨h0_8, h1_8, h5_8, h11_8, h15_8⟩ := T.r5 h0_5 h1_5 h5_5 h11_5 h15_5
  have h69_8 : act8.eval (.tmp 69) = .bool false := T.done 51 69 rfl rfl
  have d8 := T.e d5
  have s8 := T.z s5
  have bl8 := T.b bl5
  clear T
  refine Eng.tail_nil ?_
  have n69 : false = false := by
   rfl
  refine wp_cond_false (h69_8.trans (by rw [n69])) ?_
  refine wp_skip ?_
  refine wp_seq ?_
  refine Eng.rS [.int .i64 0] (fun _ => .plain) 1 0 s8 ?_ ?_
  ·refine .c ?_ (.nil)
   ·exact Eng.pv fun a w' H => Eng.vr rfl (Eng.run_assign rfl (rfl : a.eval (.const (.int .i64 0)) = .int .i64 0))
  intro act9 w9 T
  have ⟨h0_9, h1_9, h5_9, h11_9, h15_9, h69_9⟩ := T.r6 h0_8 h1_8 h5_8 h11_8 h15_8 h69_8
  have h6_9 : act9.eval (.tmp 6) = .int .i64 0 := T.done 0 6 rfl rfl
  have d9 := T.e d8
  have s9 := T.z s8
  have bl9 := T.b bl8
  clear T
  refine Eng.tail_nil ?_
  refine wp_block ?_
  refine Eng.loopN (fun n a w' => ∃ (m : Nat), nk.kids.length - m = n ∧ (m ≤ nk.kids.length) ∧ a.defers = [] ∧ a.tmps.size = 97 ∧ Below w.heap.size w w' ∧ a.eval (.tmp 0) = gv ∧ a.eval (.tmp 1) = gv2 ∧ a.eval (.tmp 5) = .int .i64 (k : Nat) ∧ a.eval (.tmp 6) = .int .i64 (m : Nat) ∧ a.eval (.tmp 11) = .bool q11 ∧ a.eval (.tmp 15) = .bool q15 ∧ a.eval (.tmp 69) = .bool false) (n0 := nk.kids.length - 0) ?_ ?_
  ·exact ⟨0, rfl, Nat.zero_le _, d9, s9, bl9, h0_9, h1_9, h5_9, (h6_9.trans (by first | rfl | (congr 1; rw [Eng.i64_id (by omega) (by omega)]; omega) | (simp; done))), h11_9, h15_9, h69_9⟩
  rintro n act10 w10 ⟨m, rfl, hc0_10, d10, s10, bl10, h0_10, h1_10, h5_10, h6_10, h11_10, h15_10, h69_10⟩
  have Fgr_10 := Eng.Reads.below hF bl10
  have Fgr2_10 := Eng.Reads.below hF2 bl10
  have Fk1_10 := Eng.Reads.below Fq1 bl10
  have Fk2_10 := Eng.Reads.below Fq2 bl10
  have hm1 := hc0_10
  refine wp_seq ?_
  refine wp_seq ?_
  obtain ⟨q77, Bq77⟩ : ∃ b : Bool, b = (decide ((m : Nat) < ((nk.kids.length : Nat) : Int))) := ⟨_, rfl⟩
  refine Eng.rS [.int .i64 (m : Nat), gv, .int .i64 (k : Nat), Eng.elemPtr gv (k * 4), Eng.elemPtr gv (k * 4 + 3), kv1, .int .i64 ((nk.kids.length : Nat) : Int), .bool q77] (fun _ => .plain) 8 0 s10 ?_ ?_
  ·refine .c ?_ (.c ?_ (.c ?_ (.c ?_ (.c ?_ (.c ?_ (.c ?_ (.c ?_ (.nil))))))))
   ·exact Eng.pv fun a w' H => Eng.vr rfl (Eng.run_move rfl (H.q 6 h6_10))
   ·exact Eng.pv fun a w' H => Eng.vr rfl (Eng.run_move rfl (H.q 0 h0_10))
   ·exact Eng.pv fun a w' H => Eng.vr rfl (Eng.run_move rfl (H.q 5 h5_10))
   ·exact Eng.pv fun a w' H => Eng.vr (v := Eng.elemPtr gv (k * 4)) rfl (Eng.run_index_sl rfl Tryd.underlying51 (by kernel_rfl) (show a.eval (.tmp 71) = gv from (H.d 1 71)) ((show a.eval (.tmp 72) = .int .i64 (k : Nat) from (H.d 2 72)).trans (congrArg (Value.int _) (show (k : Nat) = ((k : Nat) : Int) from by omega))) (Eng.Reads.below Fgr_10 H.below) (by omega) rfl)
   ·exact Eng.pv fun a w' H => Eng.vr (v := Eng.elemPtr gv (k * 4 + 3)) rfl (Eng.run_field_el rfl Tryd.underlying81 3 (by kernel_rfl) (show a.eval (.tmp 73) = Eng.elemPtr gv (k * 4) from (H.d 3 73)) (Eng.Reads.below Fgr_10 H.below) (by have h_ : k < h.length := (by omega); omega))
   ·exact Eng.pv fun a w' H => Eng.vr (v := kv1) rfl (Eng.run_load_el (kv1) rfl (show a.eval (.tmp 74) = Eng.elemPtr gv (k * 4 + 3) from (H.d 4 74)) (Eng.Reads.below Fgr_10 H.below) (cq1) (by kernel_rfl))
   ·exact Eng.pv fun a w' H => Eng.vr (v := .int .i64 ((nk.kids.length : Nat) : Int)) rfl (Eng.run_len_sl rfl Tryd.underlying55 (show a.eval (.tmp 75) = kv1 from (H.d 5 75)) (Eng.Reads.below Fk1_10 H.below))
   refine Eng.pv fun a w' H => ?_
   refine Eng.vr (v := .bool (decide ((m : Nat) < ((nk.kids.length : Nat) : Int)))) (by show _ = Value.bool q77; rw [Bq77]) ?_
   have e0 : a.eval (.tmp 70) = .int .i64 (m : Nat) := (H.d 0 70)
   have e1 : a.eval (.tmp 76) = .int .i64 ((nk.kids.length : Nat) : Int) := (H.d 6 76)
   simp only [execOp, resolve, e0, e1]
   go_simp
  intro act11 w11 T
  have ⟨h0_11, h1_11, h5_11, h6_11, h11_11, h15_11, h69_11⟩ := T.r7 h0_10 h1_10 h5_10 h6_10 h11_10 h15_10 h69_10
  have Fgr_11 := T.f Fgr_10
  have Fgr2_11 := T.f Fgr2_10
  have Fk1_11 := T.f Fk1_10
  have Fk2_11 := T.f Fk2_10
  have h77_11 : act11.eval (.tmp 77) = .bool q77 := T.done 7 77 rfl rfl
  have d11 := T.e d10
  have s11 := T.z s10
  have bl11 := T.b bl10
  clear T
  refine Eng.tail_nil ?_
  refine wp_cond_split h77_11 (fun hq => ?_) (fun hq => ?_)
  ·
   have c77 := Bq77.symm.trans hq
   clear hq
   have c77 := of_decide_eq_true c77
   have hm0 : m < nk.kids.length := by omega
   refine wp_skip ?_
   refine wp_seq ?_
   refine wp_block ?_
   refine wp_seq ?_
   refine Eng.rD [gv, .int .i64 (k : Nat), Eng.elemPtr gv (k * 4), Eng.elemPtr gv (k * 4 + 3), kv1, .int .i64 (m : Nat), Eng.elemPtr kv1 (m * 1), .int .i64 (nk.kids.getD m 0), gv2, .int .i64 (k : Nat), Eng.elemPtr gv2 (k * 4), Eng.elemPtr gv2 (k * 4 + 3), kv2, .int .i64 (m : Nat), Eng.elemPtr kv2 (m * 1), .int .i64 (nk.kids.getD m 0), .bool false] (fun _ => .plain) 17 0 s11 ?_ ?_
   ·refine .c ?_ (.c ?_ (.c ?_ (.c ?_ (.c ?_ (.c ?_ (.c ?_ (.c ?_ (.c ?_ (.c ?_ (.c ?_ (.c ?_ (.c ?_ (.c ?_ (.c ?_ (.c ?_ (.c ?_ (.nil)))))))))))))))))
    ·exact Eng.pv fun a w' H => Eng.vr rfl (Eng.run_move rfl (H.q 0 h0_11))
    ·exact Eng.pv fun a w' H => Eng.vr rfl (Eng.run_move rfl (H.q 5 h5_11))
    ·exact Eng.pv fun a w' H => Eng.vr (v := Eng.elemPtr gv (k * 4)) rfl (Eng.run_index_sl rfl Tryd.underlying51 (by kernel_rfl) (show a.eval (.tmp 80) = gv from (H.d 0 80)) ((show a.eval (.tmp 81) = .int .i64 (k : Nat) from (H.d 1 81)).trans (congrArg (Value.int _) (show (k : Nat) = ((k : Nat) : Int) from by omega))) (Eng.Reads.below Fgr_11 H.below) (by omega) rfl)
    ·exact Eng.pv fun a w' H => Eng.vr (v := Eng.elemPtr gv (k * 4 + 3)) rfl (Eng.run_field_el rfl Tryd.underlying81 3 (by kernel_rfl) (show a.eval (.tmp 82) = Eng.elemPtr gv (k * 4) from (H.d 2 82)) (Eng.Reads.below Fgr_11 H.below) (by have h_ : k < h.length := (by omega); omega))
    ·exact Eng.pv fun a w' H => Eng.vr (v := kv1) rfl (Eng.run_load_el (kv1) rfl (show a.eval (.tmp 83) = Eng.elemPtr gv (k * 4 + 3) from (H.d 3 83)) (Eng.Reads.below Fgr_11 H.below) (cq1) (by kernel_rfl))
    ·exact Eng.pv fun a w' H => Eng.vr rfl (Eng.run_move rfl (H.q 6 h6_11))
    ·exact Eng.pv fun a w' H => Eng.vr (v := Eng.elemPtr kv1 (m * 1)) rfl (Eng.run_index_sl rfl Tryd.underlying55 (by kernel_rfl) (show a.eval (.tmp 84) = kv1 from (H.d 4 84)) ((show a.eval (.tmp 85) = .int .i64 (m : Nat) from (H.d 5 85)).trans (congrArg (Value.int _) (show (m : Nat) = ((m : Nat) : Int) from by omega))) (Eng.Reads.below Fk1_11 H.below) (by omega) rfl)
    ·exact Eng.pv fun a w' H => Eng.vr (v := .int .i64 (nk.kids.getD m 0)) rfl (Eng.run_load_el (.int .i64 (nk.kids.getD m 0)) rfl (show a.eval (.tmp 86) = Eng.elemPtr kv1 (m * 1) from (H.d 6 86)) (Eng.Reads.below Fk1_11 H.below) (Dc.ints_get1 nk.kids m (by omega)) (by kernel_rfl))
    ·exact Eng.pv fun a w' H => Eng.vr rfl (Eng.run_move rfl (H.q 1 h1_11))
    ·exact Eng.pv fun a w' H => Eng.vr rfl (Eng.run_move rfl (H.q 5 h5_11))
    ·exact Eng.pv fun a w' H => Eng.vr (v := Eng.elemPtr gv2 (k * 4)) rfl (Eng.run_index_sl rfl Tryd.underlying51 (by kernel_rfl) (show a.eval (.tmp 88) = gv2 from (H.d 8 88)) ((show a.eval (.tmp 89) = .int .i64 (k : Nat) from (H.d 9 89)).trans (congrArg (Value.int _) (show (k : Nat) = ((k : Nat) : Int) from by omega))) (Eng.Reads.below Fgr2_11 H.below) (by omega) rfl)
    ·exact Eng.pv fun a w' H => Eng.vr (v := Eng.elemPtr gv2 (k * 4 + 3)) rfl (Eng.run_field_el rfl Tryd.underlying81 3 (by kernel_rfl) (show a.eval (.tmp 90) = Eng.elemPtr gv2 (k * 4) from (H.d 10 90)) (Eng.Reads.below Fgr2_11 H.below) (by have h_ : k < h2.length := (by omega); omega))
    ·exact Eng.pv fun a w' H => Eng.vr (v := kv2) rfl (Eng.run_load_el (kv2) rfl (show a.eval (.tmp 91) = Eng.elemPtr gv2 (k * 4 + 3) from (H.d 11 91)) (Eng.Reads.below Fgr2_11 H.below) (cq2) (by kernel_rfl))
    ·exact Eng.pv fun a w' H => Eng.vr rfl (Eng.run_move rfl (H.q 6 h6_11))
    ·exact Eng.pv fun a w' H => Eng.vr (v := Eng.elemPtr kv2 (m * 1)) rfl (Eng.run_index_sl rfl Tryd.underlying55 (by kernel_rfl) (show a.eval (.tmp 92) = kv2 from (H.d 12 92)) ((show a.eval (.tmp 93) = .int .i64 (m : Nat) from (H.d 13 93)).trans (congrArg (Value.int _) (show (m : Nat) = ((m : Nat) : Int) from by omega))) (Eng.Reads.below Fk2_11 H.below) (by omega) rfl)
    ·exact Eng.pv fun a w' H => Eng.vr (v := .int .i64 (nk.kids.getD m 0)) rfl (Eng.run_load_el (.int .i64 (nk.kids.getD m 0)) rfl (show a.eval (.tmp 94) = Eng.elemPtr kv2 (m * 1) from (H.d 14 94)) (Eng.Reads.below Fk2_11 H.below) (Dc.ints_get1 nk.kids m (by omega)) (by kernel_rfl))
    refine Eng.pv fun a w' H => ?_
    refine Eng.vr (v := .bool (!((nk.kids.getD m 0) == (nk.kids.getD m 0)))) (by show _ = Value.bool false; rw [show (!((nk.kids.getD m 0) == (nk.kids.getD m 0))) = false from (by rw [beq_self_eq_true]; rfl)]) ?_
    have e0 : a.eval (.tmp 87) = .int .i64 (nk.kids.getD m 0) := (H.d 7 87)
    have e1 : a.eval (.tmp 95) = .int .i64 (nk.kids.getD m 0) := (H.d 15 95)
    simp only [execOp, resolve, e0, e1]
    go_simp
   intro act13 w13 T
   have ⟨h0_13, h1_13, h5_13, h6_13, h11_13, h15_13, h69_13⟩ := T.r7 h0_11 h1_11 h5_11 h6_11 h11_11 h15_11 h69_11
   have h96_13 : act13.eval (.tmp 96) = .bool false := T.done 16 96 rfl rfl
   have d13 := T.e d11
   have s13 := T.z s11
   have bl13 := T.b bl11
   clear T
   refine Eng.tail_nil ?_
   have n96 : false = false := by
    rfl
   refine wp_cond_false (h96_13.trans (by rw [n96])) ?_
   refine wp_skip ?_
   refine Eng.rS [.int .i64 (m : Nat), .int .i64 (IntKind.i64.wrap ((m : Nat) + 1)), .int .i64 (IntKind.i64.wrap ((m : Nat) + 1))] (fun _ => .plain) 3 0 s13 ?_ ?_
   ·refine .c ?_ (.c ?_ (.c ?_ (.nil)))
    ·exact Eng.pv fun a w' H => Eng.vr rfl (Eng.run_move rfl (H.q 6 h6_13))
    ·refine Eng.pv fun a w' H => ?_
     refine Eng.vr (v := .int .i64 (IntKind.i64.wrap ((m : Nat) + 1))) rfl ?_
     have e0 : a.eval (.tmp 78) = .int .i64 (m : Nat) := (H.d 0 78)
     have e1 : a.eval (.const (.int .i64 1)) = .int .i64 1 := rfl
     simp only [execOp, resolve, e0, e1]
     go_simp
    exact Eng.pv fun a w' H => Eng.vr rfl (Eng.run_assign rfl (H.d 1 79))
   intro act14 w14 T
   have ⟨h0_14, h1_14, h5_14, h11_14, h15_14, h69_14⟩ := T.r6 h0_13 h1_13 h5_13 h11_13 h15_13 h69_13
   have h6_14 : act14.eval (.tmp 6) = .int .i64 (IntKind.i64.wrap ((m : Nat) + 1)) := T.done 2 6 rfl rfl
   have d14 := T.e d13
   have s14 := T.z s13
   have bl14 := T.b bl13
   clear T
   refine Eng.tail_nil ?_
   exact ⟨_, by omega, m + 1, rfl, by omega, d14, s14, bl14, h0_14, h1_14, h5_14, (h6_14.trans (by first | rfl | (congr 1; rw [Eng.i64_id (by omega) (by omega)]; omega) | (simp; done))), h11_14, h15_14, h69_14⟩
  have c77 := Bq77.symm.trans hq
  clear hq
  have c77 := of_decide_eq_false c77
  refine wp_exit ?_
  refine Eng.rS [.int .i64 (k : Nat), .int .i64 (IntKind.i64.wrap ((k : Nat) + 1)), .int .i64 (IntKind.i64.wrap ((k : Nat) + 1))] (fun _ => .plain) 3 0 s11 ?_ ?_
  ·refine .c ?_ (.c ?_ (.c ?_ (.nil)))
   ·exact Eng.pv fun a w' H => Eng.vr rfl (Eng.run_move rfl (H.q 5 h5_11))
   ·refine Eng.pv fun a w' H => ?_
    refine Eng.vr (v := .int .i64 (IntKind.i64.wrap ((k : Nat) + 1))) rfl ?_
    have e0 : a.eval (.tmp 16) = .int .i64 (k : Nat) := (H.d 0 16)
    have e1 : a.eval (.const (.int .i64 1)) = .int .i64 1 := rfl
    simp only [execOp, resolve, e0, e1]
    go_simp
   exact Eng.pv fun a w' H => Eng.vr rfl (Eng.run_assign rfl (H.d 1 17))
  intro act16 w16 T
  have ⟨h0_16, h1_16, h11_16⟩ := T.r3 h0_11 h1_11 h11_11
  have h5_16 : act16.eval (.tmp 5) = .int .i64 (IntKind.i64.wrap ((k : Nat) + 1)) := T.done 2 5 rfl rfl
  have d16 := T.e d11
  have s16 := T.z s11
  have bl16 := T.b bl11
  clear T
  refine Eng.tail_nil ?_
  exact ⟨_, by omega, k + 1, rfl, by omega, d16, s16, bl16, h0_16, h1_16, (h5_16.trans (by first | rfl | (congr 1; rw [Eng.i64_id (by omega) (by omega)]; omega) | (simp; done))), h11_16⟩
 have c15 := Bq15.symm.trans hq
 clear hq
 have c15 := of_decide_eq_false c15
 have hke : k = h.length := by omega
 refine wp_exit ?_
 refine wp_seq ?_
 refine Eng.rS [.bool true] (fun _ => .plain) 1 0 s5 ?_ ?_
 ·refine .c ?_ (.nil)
  ·exact Eng.pv fun a w' H => Eng.vr rfl (Eng.run_assign rfl (rfl : a.eval (.const (.bool true)) = .bool true))
 intro act18 w18 T
 have h4_18 : act18.eval (.tmp 4) = .bool true := T.done 0 4 rfl rfl
 have d18 := T.e d5
 have bl18 := T.b bl5
 clear T
 refine Eng.tail_nil ?_
 refine wp_ret ?_
 repeat (first | with_reducible refine Eng.in_ret ?_ | with_reducible refine Eng.then_ret ?_)
 exact Eng.ret1 rfl d18 h4_18 ⟨rfl, bl18⟩
end Go.Proofs.YtgnmjaacnmkgnaaDoor.X
end
section
namespace Go.Proofs.YtgnmjaacnmkgnaaDoor.X
open Go.RowKit Go.Shelf Go.Proofs Go.Maps
namespace Dc
theorem ours8_calls (gv : Value) (nd : List Nd) (w : World) (hG : GR w nd gv) (hsm : Sml 1000000 nd) : Calls Tryd.prog 20 #[gv] w fun e w' => ∃ o, e = .returned o ∧ GO w.heap.size w' nd o ∧ Below w.heap.size w w' := by
  obtain ⟨h, rfl, F, K⟩ := hG
  exact ours8_h gv h w F K hsm
theorem equal8_calls (gv gv2 : Value) (nd : List Nd) (w : World) (hG : GR w nd gv) (hG2 : GR w nd gv2) : Calls Tryd.prog 19 #[gv, gv2] w fun e w' => e = .returned (.bool true) ∧ Below w.heap.size w w' := by
  obtain ⟨h, e, F, K⟩ := hG
  obtain ⟨h2, e2, F2, K2⟩ := hG2
  exact equal8_h gv gv2 h h2 w F K F2 K2 (e.trans e2.symm)
end Dc
end Go.Proofs.YtgnmjaacnmkgnaaDoor.X
end
section
namespace Go.Proofs.YtgnmjaacnmkgnaaDoor.X
open Go.RowKit Go.Shelf Go.Proofs Go.Proofs.YtgnmjaacnmkgnaaDoorW.PrintWords Go.Proofs.YtgnmjaacnmkgnaaDoorW.PrintLast Go.Proofs.YtgnmjaacnmkgnaaDoorW.PrintMore
set_option linter.unusedVariables false
set_option linter.unusedSimpArgs false
attribute [local go_sem] max2_int min2_int max_two min_two
set_option maxHeartbeats 4000000 in
set_option maxRecDepth 100000 in
theorem Dc.equal9_calls (v1 v2 : Value) (f1 f2 : List Dc.GV) (w : World) (hG1 : Dc.GsR w f1 v1) (hG2 : Dc.GsR w f2 v2) (he : f1.map (·.1) = f2.map (·.1)) : Calls Tryd.prog 15 #[v1, v2] w fun e w' => e = .returned (.bool true) ∧ Below w.heap.size w w' := by
 have hm := Eng.Reads.len_le hG1.1
 have hlen := Dc.eqG_len he
 refine Eng.enter Tryd.func15 rfl fun act0 d0 s0 v0 => ?_
 have s0 : act0.tmps.size = 34 := s0
 have h0_0 : act0.eval (.tmp 0) = v1 := v0 0 (by simp)
 have h1_0 : act0.eval (.tmp 1) = v2 := v0 1 (by simp)
 clear v0
 have bl0 : Below w.heap.size w w := Below.refl _ _
 refine wp_seq ?_
 refine Eng.rS [.bool false] (fun _ => .plain) 1 0 s0 ?_ ?_
 ·refine .c ?_ (.nil)
  ·exact Eng.pv fun a w' H => Eng.vr rfl (Eng.run_assign rfl (rfl : a.eval (.const (.bool false)) = .bool false))
 intro act1 w1 T
 have ⟨h0_1, h1_1⟩ := T.r2 h0_0 h1_0
 have Fg1_1 := Eng.Reads.below hG1.1 T.below
 have d1 := T.e d0
 have s1 := T.z s0
 have bl1 := T.b bl0
 clear T
 refine Eng.tail_nil ?_
 refine wp_seq ?_
 refine wp_seq ?_
 refine Eng.rS [v1, .int .i64 ((f1.length : Nat) : Int), .int .i64 0] (fun _ => .plain) 3 0 s1 ?_ ?_
 ·refine .c ?_ (.c ?_ (.c ?_ (.nil)))
  ·exact Eng.pv fun a w' H => Eng.vr rfl (Eng.run_move rfl (H.q 0 h0_1))
  ·exact Eng.pv fun a w' H => Eng.vr (v := .int .i64 ((f1.length : Nat) : Int)) rfl (Eng.run_len_sl rfl Tryd.underlying39 (show a.eval (.tmp 7) = v1 from (H.d 0 7)) (Eng.Reads.below Fg1_1 H.below))
  exact Eng.pv fun a w' H => Eng.vr rfl (Eng.run_move rfl (rfl : a.eval (.const (.int .i64 0)) = .int .i64 0))
 intro act2 w2 T
 have ⟨h0_2, h1_2⟩ := T.r2 h0_1 h1_1
 have h7_2 : act2.eval (.tmp 7) = v1 := T.done 0 7 rfl rfl
 have h8_2 : act2.eval (.tmp 8) = .int .i64 ((f1.length : Nat) : Int) := T.done 1 8 rfl rfl
 have h9_2 : act2.eval (.tmp 9) = .int .i64 0 := T.done 2 9 rfl rfl
 have d2 := T.e d1
 have s2 := T.z s1
 have bl2 := T.b bl1
 clear T
 refine Eng.tail_nil ?_
 refine wp_block ?_
 refine Eng.loopN (fun n a w' => ∃ (k : Nat), f1.length - k = n ∧ (k ≤ f1.length) ∧ a.defers = [] ∧ a.tmps.size = 34 ∧ Below w.heap.size w w' ∧ a.eval (.tmp 0) = v1 ∧ a.eval (.tmp 1) = v2 ∧ a.eval (.tmp 7) = v1 ∧ a.eval (.tmp 8) = .int .i64 ((f1.length : Nat) : Int) ∧ a.eval (.tmp 9) = .int .i64 (k : Nat)) (n0 := f1.length - 0) ?_ ?_
 ·exact ⟨0, rfl, by omega, d2, s2, bl2, h0_2, h1_2, h7_2, h8_2, (h9_2.trans (by first | rfl | (congr 1; rw [Eng.i64_id (by omega) (by omega)]; omega) | (simp; done)))⟩
 rintro n act3 w3 ⟨k, rfl, hc0_3, d3, s3, bl3, h0_3, h1_3, h7_3, h8_3, h9_3⟩
 have Fg1_3 := Eng.Reads.below hG1.1 bl3
 have Fg2_3 := Eng.Reads.below hG2.1 bl3
 have hk1 := hc0_3
 refine wp_seq ?_
 obtain ⟨q10, Bq10⟩ : ∃ b : Bool, b = (decide ((k : Nat) < ((f1.length : Nat) : Int))) := ⟨_, rfl⟩
 refine Eng.rS [.bool q10] (fun _ => .plain) 1 0 s3 ?_ ?_
 ·refine .c ?_ (.nil)
  ·refine Eng.pv fun a w' H => ?_
   refine Eng.vr (v := .bool (decide ((k : Nat) < ((f1.length : Nat) : Int)))) (by show _ = Value.bool q10; rw [Bq10]) ?_
   have e0 := (H.q 9 h9_3)
   have e1 := (H.q 8 h8_3)
   simp only [execOp, resolve, e0, e1]
   go_simp
 intro act4 w4 T
 have ⟨h0_4, h1_4, h7_4, h8_4, h9_4⟩ := T.r5 h0_3 h1_3 h7_3 h8_3 h9_3
 have Fg1_4 := T.f Fg1_3
 have Fg2_4 := T.f Fg2_3
 have h10_4 : act4.eval (.tmp 10) = .bool q10 := T.done 0 10 rfl rfl
 have d4 := T.e d3
 have s4 := T.z s3
 have bl4 := T.b bl3
 clear T
 refine Eng.tail_nil ?_
 refine wp_seq ?_
 refine wp_cond_split h10_4 (fun hq => ?_) (fun hq => ?_)
 ·
  have c10 := Bq10.symm.trans hq
  clear hq
  have c10 := of_decide_eq_true c10
  have hk0 : k < f1.length := by omega
  have hk2 : k < f2.length := by omega
  obtain ⟨nd, Hnd⟩ : ∃ n, n = (f1.getD k default).1 := ⟨_, rfl⟩
  have Hn2 : nd = (f2.getD k default).1 := Hnd.trans (Dc.eqG_at he k)
  have hcell1 := Dc.map2_at f1 k hk0
  have Gk1 := Dc.gsR_at hG1 hk0
  obtain ⟨gk1, hgk1⟩ : ∃ v, v = (f1.getD k default).2 := ⟨_, rfl⟩
  rw [← Hnd, ← hgk1] at Gk1
  rw [← hgk1] at hcell1
  clear hgk1
  have hcell2 := Dc.map2_at f2 k hk2
  have Gk2 := Dc.gsR_at hG2 hk2
  obtain ⟨gk2, hgk2⟩ : ∃ v, v = (f2.getD k default).2 := ⟨_, rfl⟩
  rw [← Hn2, ← hgk2] at Gk2
  rw [← hgk2] at hcell2
  clear hgk2
  refine wp_skip ?_
  refine wp_seq ?_
  refine wp_block ?_
  refine wp_seq ?_
  refine Eng.rS [.int .i64 (k : Nat), Eng.elemPtr v1 (k * 1), gk1, .int .i64 (k : Nat), gk1] (fun _ => .plain) 5 0 s4 ?_ ?_
  ·refine .c ?_ (.c ?_ (.c ?_ (.c ?_ (.c ?_ (.nil)))))
   ·exact Eng.pv fun a w' H => Eng.vr rfl (Eng.run_move rfl (H.q 9 h9_4))
   ·exact Eng.pv fun a w' H => Eng.vr (v := Eng.elemPtr v1 (k * 1)) rfl (Eng.run_index_sl rfl Tryd.underlying39 (by kernel_rfl) (show a.eval (.tmp 7) = v1 from (H.q 7 h7_4)) ((show a.eval (.tmp 9) = .int .i64 (k : Nat) from (H.q 9 h9_4)).trans (congrArg (Value.int _) (show (k : Nat) = ((k : Nat) : Int) from by omega))) (Eng.Reads.below Fg1_4 H.below) (by omega) rfl)
   ·exact Eng.pv fun a w' H => Eng.vr (v := gk1) rfl (Eng.run_load_el (gk1) rfl (show a.eval (.tmp 12) = Eng.elemPtr v1 (k * 1) from (H.d 1 12)) (Eng.Reads.below Fg1_4 H.below) (hcell1) (by kernel_rfl))
   ·exact Eng.pv fun a w' H => Eng.vr rfl (Eng.run_assign rfl (H.d 0 11))
   exact Eng.pv fun a w' H => Eng.vr rfl (Eng.run_assign rfl (H.d 2 13))
  intro act6 w6 T
  have ⟨h0_6, h1_6, h7_6, h8_6, h9_6⟩ := T.r5 h0_4 h1_4 h7_4 h8_4 h9_4
  have Fg1_6 := T.f Fg1_4
  have Fg2_6 := T.f Fg2_4
  have h5_6 : act6.eval (.tmp 5) = .int .i64 (k : Nat) := T.done 3 5 rfl rfl
  have h6_6 : act6.eval (.tmp 6) = gk1 := T.done 4 6 rfl rfl
  have d6 := T.e d4
  have s6 := T.z s4
  have bl6 := T.b bl4
  clear T
  refine Eng.tail_nil ?_
  refine wp_seq ?_
  refine (wpIn_wide (n := 1)).1 ?_
  refine EngI.regionT (n := 14) rfl ?_
  refine EngI.tv rfl (Eng.run_move rfl h0_6) s6 fun act7 d7 s7 h14_7 hr => ?_
  have ⟨h0_7, h1_7, h5_7, h6_7, h7_7, h8_7, h9_7⟩ := Eng.k7 hr h0_6 h1_6 h5_6 h6_6 h7_6 h8_6 h9_6
  have d7 := d7.trans d6
  clear hr
  refine EngI.tv (w1 := w6) (v := .int .i64 ((f1.length : Nat) : Int)) rfl ?_ s7 ?_
  ·exact Eng.run_len_sl rfl Tryd.underlying39 (show act7.eval (.tmp 14) = v1 from h14_7) Fg1_6
  intro act8 d8 s8 h15_8 hr
  have ⟨h0_8, h1_8, h5_8, h6_8, h7_8, h8_8, h9_8⟩ := Eng.k7 hr h0_7 h1_7 h5_7 h6_7 h7_7 h8_7 h9_7
  have d8 := d8.trans d7
  clear hr
  refine EngI.tv rfl (Eng.run_move rfl h1_8) s8 fun act9 d9 s9 h16_9 hr => ?_
  have ⟨h0_9, h1_9, h5_9, h6_9, h7_9, h8_9, h9_9, h15_9⟩ := Eng.k8 hr h0_8 h1_8 h5_8 h6_8 h7_8 h8_8 h9_8 h15_8
  have d9 := d9.trans d8
  clear hr
  refine EngI.tv (w1 := w6) (v := .int .i64 ((f2.length : Nat) : Int)) rfl ?_ s9 ?_
  ·exact Eng.run_len_sl rfl Tryd.underlying39 (show act9.eval (.tmp 16) = v2 from h16_9) Fg2_6
  intro act10 d10 s10 h17_10 hr
  have ⟨h0_10, h1_10, h5_10, h6_10, h7_10, h8_10, h9_10, h15_10⟩ := Eng.k8 hr h0_9 h1_9 h5_9 h6_9 h7_9 h8_9 h9_9 h15_9
  have d10 := d10.trans d9
  clear hr
  refine EngI.tv (w1 := w6) (v := .bool (!(((f1.length : Nat) : Int) == ((f2.length : Nat) : Int)))) rfl ?_ s10 ?_
  ·have e0 : act10.eval (.tmp 15) = .int .i64 ((f1.length : Nat) : Int) := h15_10
   have e1 : act10.eval (.tmp 17) = .int .i64 ((f2.length : Nat) : Int) := h17_10
   simp only [execOp, resolve, e0, e1]
   go_simp
  intro act11 d11 s11 hv hr
  have ⟨h0_11, h1_11, h5_11, h6_11, h7_11, h8_11, h9_11⟩ := Eng.k7 hr h0_10 h1_10 h5_10 h6_10 h7_10 h8_10 h9_10
  have h18_11 : act11.eval (.tmp 18) = .bool false := hv.trans (congrArg Value.bool ((by rw [hlen, beq_self_eq_true]; rfl) : _ = false))
  have d11 := d11.trans d10
  clear hv hr
  refine EngI.tv rfl (Eng.run_move rfl h18_11) s11 fun act12 d12 s12 h19_12 hr => ?_
  have ⟨h0_12, h1_12, h5_12, h6_12, h7_12, h8_12, h9_12⟩ := Eng.k7 hr h0_11 h1_11 h5_11 h6_11 h7_11 h8_11 h9_11
  have d12 := d12.trans d11
  clear hr
  refine EngG.tail_val EngI.free_wide rfl (EngG.wanted_on (want := false) rfl rfl rfl (by rw [s12]; decide) h19_12) rfl rfl (Eng.run_move rfl h6_12) s12 rfl fun act13 d13 s13 h20_13 hr => ?_
  have ⟨h0_13, h1_13, h5_13, h7_13, h8_13, h9_13, h19_13⟩ := Eng.k7 hr h0_12 h1_12 h5_12 h7_12 h8_12 h9_12 h19_12
  have d13 := d13.trans d12
  clear hr
  refine EngG.tail_val EngI.free_wide rfl (EngG.wanted_on (want := false) rfl rfl rfl (by rw [s13]; decide) h19_13) rfl rfl (Eng.run_move rfl h1_13) s13 rfl fun act14 d14 s14 h21_14 hr => ?_
  have ⟨h0_14, h1_14, h5_14, h7_14, h8_14, h9_14, h19_14, h20_14⟩ := Eng.k8 hr h0_13 h1_13 h5_13 h7_13 h8_13 h9_13 h19_13 h20_13
  have d14 := d14.trans d13
  clear hr
  refine EngG.tail_val EngI.free_wide rfl (EngG.wanted_on (want := false) rfl rfl rfl (by rw [s14]; decide) h19_14) rfl rfl (Eng.run_move rfl h5_14) s14 rfl fun act15 d15 s15 h22_15 hr => ?_
  have ⟨h0_15, h1_15, h7_15, h8_15, h9_15, h19_15, h20_15, h21_15⟩ := Eng.k8 hr h0_14 h1_14 h7_14 h8_14 h9_14 h19_14 h20_14 h21_14
  have d15 := d15.trans d14
  clear hr
  refine EngG.tail_val (w1 := w6) (v := Eng.elemPtr v2 (k * 1)) EngI.free_wide rfl (EngG.wanted_on (want := false) rfl rfl rfl (by rw [s15]; decide) h19_15) rfl rfl ?_ s15 rfl ?_
  ·exact Eng.run_index_sl rfl Tryd.underlying39 (by kernel_rfl) (show act15.eval (.tmp 21) = v2 from h21_15) ((show act15.eval (.tmp 22) = .int .i64 (k : Nat) from h22_15).trans (congrArg (Value.int _) (show (k : Nat) = ((k : Nat) : Int) from by omega))) Fg2_6 (by omega) rfl
  intro act16 d16 s16 h23_16 hr
  have ⟨h0_16, h1_16, h7_16, h8_16, h9_16, h19_16, h20_16⟩ := Eng.k7 hr h0_15 h1_15 h7_15 h8_15 h9_15 h19_15 h20_15
  have d16 := d16.trans d15
  clear hr
  refine EngG.tail_val (w1 := w6) (v := gk2) EngI.free_wide rfl (EngG.wanted_on (want := false) rfl rfl rfl (by rw [s16]; decide) h19_16) rfl rfl ?_ s16 rfl ?_
  ·exact Eng.run_load_el (gk2) rfl (show act16.eval (.tmp 23) = Eng.elemPtr v2 (k * 1) from h23_16) Fg2_6 (hcell2) (by kernel_rfl)
  intro act17 d17 s17 h24_17 hr
  have ⟨h0_17, h1_17, h7_17, h8_17, h9_17, h19_17, h20_17⟩ := Eng.k7 hr h0_16 h1_16 h7_16 h8_16 h9_16 h19_16 h20_16
  have d17 := d17.trans d16
  clear hr
  refine EngG.tail_call EngI.free_wide Tryd.func19 (by kernel_rfl) (by kernel_rfl) rfl (EngG.wanted_on (want := false) rfl rfl rfl (by rw [s17]; decide) h19_17) rfl rfl #[gk1, gk2] (by have e0 : act17.eval (.tmp 20) = gk1 := h20_17; have e1 : act17.eval (.tmp 24) = gk2 := h24_17; simp only [List.map_toArray, List.map_cons, List.map_nil, e0, e1]) s17 rfl (R := fun v w_ => v = .bool true ∧ Below w6.heap.size w6 w_) ((Dc.equal8_calls gk1 gk2 nd _ (Gk1.below bl6) (Gk2.below bl6)).mono ?_) fun v_18 w18 act18 R d18 s18 hv hr => ?_
  ·rintro e w_ ⟨rfl, hb⟩; exact ⟨_, rfl, rfl, hb⟩
  obtain ⟨ev_18, b_18⟩ := R
  have ⟨h0_18, h1_18, h7_18, h8_18, h9_18, h19_18⟩ := Eng.k6 hr h0_17 h1_17 h7_17 h8_17 h9_17 h19_17
  have h25_18 : act18.eval (.tmp 25) = .bool true := (hv.trans ev_18)
  have d18 := d18.trans d17
  clear hv hr
  have bl18 := bl6.trans (b_18.mono bl6.size)
  refine EngG.tail_val EngI.free_wide rfl (EngG.wanted_on (want := false) rfl rfl rfl (by rw [s18]; decide) h19_18) rfl rfl (Eng.run_not rfl h25_18) s18 rfl fun act19 d19 s19 h26_19 hr => ?_
  have ⟨h0_19, h1_19, h7_19, h8_19, h9_19, h19_19⟩ := Eng.k6 hr h0_18 h1_18 h7_18 h8_18 h9_18 h19_18
  have d19 := d19.trans d18
  clear hr
  refine EngI.tv rfl (Eng.run_pick rfl h19_19 (v := .bool (!true)) (by exact h26_19)) s19 fun act20 d20 s20 h27_20 hr => ?_
  have ⟨h0_20, h1_20, h7_20, h8_20, h9_20⟩ := Eng.k5 hr h0_19 h1_19 h7_19 h8_19 h9_19
  have d20 := d20.trans d19
  clear hr
  refine EngI.tail_nil ?_
  have n27 : (!true) = false := by
   rfl
  refine wp_cond_false (h27_20.trans (by rw [n27])) ?_
  refine wp_skip ?_
  refine Eng.rS [.int .i64 (IntKind.i64.wrap ((k : Nat) + 1)), .int .i64 (IntKind.i64.wrap ((k : Nat) + 1))] (fun _ => .plain) 2 0 s20 ?_ ?_
  ·refine .c ?_ (.c ?_ (.nil))
   ·refine Eng.pv fun a w' H => ?_
    refine Eng.vr (v := .int .i64 (IntKind.i64.wrap ((k : Nat) + 1))) rfl ?_
    have e0 := (H.q 9 h9_20)
    have e1 : a.eval (.const (.int .i64 1)) = .int .i64 1 := rfl
    simp only [execOp, resolve, e0, e1]
    go_simp
   exact Eng.pv fun a w' H => Eng.vr rfl (Eng.run_move rfl (H.d 0 28))
  intro act21 w21 T
  have ⟨h0_21, h1_21, h7_21, h8_21⟩ := T.r4 h0_20 h1_20 h7_20 h8_20
  have h9_21 : act21.eval (.tmp 9) = .int .i64 (IntKind.i64.wrap ((k : Nat) + 1)) := T.done 1 9 rfl rfl
  have d21 := T.e d20
  have s21 := T.z s20
  have bl21 := T.b bl18
  clear T
  refine Eng.tail_nil ?_
  exact ⟨_, by omega, k + 1, rfl, by omega, d21, s21, bl21, h0_21, h1_21, h7_21, h8_21, (h9_21.trans (by first | rfl | (congr 1; rw [Eng.i64_id (by omega) (by omega)]; omega) | (simp; done)))⟩
 have c10 := Bq10.symm.trans hq
 clear hq
 have c10 := of_decide_eq_false c10
 have hke : k = f1.length := by omega
 refine wp_exit ?_
 refine wp_seq ?_
 refine Eng.rS [v1, .int .i64 ((f1.length : Nat) : Int), v2, .int .i64 ((f2.length : Nat) : Int), .bool true, .bool true] (fun _ => .plain) 6 0 s4 ?_ ?_
 ·refine .c ?_ (.c ?_ (.c ?_ (.c ?_ (.c ?_ (.c ?_ (.nil))))))
  ·exact Eng.pv fun a w' H => Eng.vr rfl (Eng.run_move rfl (H.q 0 h0_4))
  ·exact Eng.pv fun a w' H => Eng.vr (v := .int .i64 ((f1.length : Nat) : Int)) rfl (Eng.run_len_sl rfl Tryd.underlying39 (show a.eval (.tmp 29) = v1 from (H.d 0 29)) (Eng.Reads.below Fg1_4 H.below))
  ·exact Eng.pv fun a w' H => Eng.vr rfl (Eng.run_move rfl (H.q 1 h1_4))
  ·exact Eng.pv fun a w' H => Eng.vr (v := .int .i64 ((f2.length : Nat) : Int)) rfl (Eng.run_len_sl rfl Tryd.underlying39 (show a.eval (.tmp 31) = v2 from (H.d 2 31)) (Eng.Reads.below Fg2_4 H.below))
  ·refine Eng.pv fun a w' H => ?_
   refine Eng.vr (v := .bool (((f1.length : Nat) : Int) == ((f2.length : Nat) : Int))) (by show _ = Value.bool true; rw [show (((f1.length : Nat) : Int) == ((f2.length : Nat) : Int)) = true from (by rw [hlen, beq_self_eq_true])]) ?_
   have e0 : a.eval (.tmp 30) = .int .i64 ((f1.length : Nat) : Int) := (H.d 1 30)
   have e1 : a.eval (.tmp 32) = .int .i64 ((f2.length : Nat) : Int) := (H.d 3 32)
   simp only [execOp, resolve, e0, e1]
   go_simp
  exact Eng.pv fun a w' H => Eng.vr rfl (Eng.run_assign rfl (H.d 4 33))
 intro act23 w23 T
 have h4_23 : act23.eval (.tmp 4) = .bool true := T.done 5 4 rfl rfl
 have d23 := T.e d4
 have bl23 := T.b bl4
 clear T
 refine Eng.tail_nil ?_
 refine wp_ret ?_
 repeat (first | with_reducible refine Eng.in_ret ?_ | with_reducible refine Eng.then_ret ?_)
 exact Eng.ret1 rfl d23 h4_23 ⟨rfl, bl23⟩
end Go.Proofs.YtgnmjaacnmkgnaaDoor.X
end
section
namespace Go.Proofs.YtgnmjaacnmkgnaaDoor.X
open Go.RowKit Go.Shelf Go.Proofs Go.Proofs.YtgnmjaacnmkgnaaDoorW.PrintWords Go.Proofs.YtgnmjaacnmkgnaaDoorW.PrintLast Go.Proofs.YtgnmjaacnmkgnaaDoorW.PrintMore
set_option linter.unusedVariables false
set_option linter.unusedSimpArgs false
attribute [local go_sem] max2_int min2_int max_two min_two
set_option maxHeartbeats 4000000 in
set_option maxRecDepth 100000 in
theorem Dc.ours9_calls (v : Value) (fin : List Dc.GV) (w : World) (hG : Dc.GsR w fin v) (hfl : fin.length ≤ 1000000) (hsm : ∀ f ∈ fin, Dc.Sml 1000000 f.1) : Calls Tryd.prog 16 #[v] w fun e w' => ∃ o hs, e = .returned o ∧ List.map (·.1) hs = List.map (·.1) fin ∧ w'.ownsRow w.heap.size 51 1 o hs.length (List.map (·.2) hs) ∧ Dc.GsO w.heap.size w' hs ∧ Below w.heap.size w w' := by
 have hm := Eng.Reads.len_le hG.1
 refine Eng.enter Tryd.func16 rfl fun act0 d0 s0 v0 => ?_
 have s0 : act0.tmps.size = 19 := s0
 have h0_0 : act0.eval (.tmp 0) = v := v0 0 (by simp)
 clear v0
 have bl0 : Below w.heap.size w w := Below.refl _ _
 refine wp_seq ?_
 refine Eng.rS [.slice none 0 0] (fun _ => .plain) 1 0 s0 ?_ ?_
 ·refine .c ?_ (.nil)
  ·exact Eng.pv fun a w' H => Eng.vr rfl (Eng.run_assign rfl (rfl : a.eval (.const (.slice none 0 0)) = .slice none 0 0))
 intro act1 w1 T
 have h0_1 := T.r1 h0_0
 have Fg_1 := Eng.Reads.below hG.1 T.below
 have h2_1 : act1.eval (.tmp 2) = .slice none 0 0 := T.done 0 2 rfl rfl
 have d1 := T.e d0
 have s1 := T.z s0
 have bl1 := T.b bl0
 clear T
 refine Eng.tail_nil ?_
 refine wp_seq ?_
 refine Eng.rS [.slice none 0 0] (fun _ => .plain) 1 0 s1 ?_ ?_
 ·refine .c ?_ (.nil)
  ·exact Eng.pv fun a w' H => Eng.vr rfl (Eng.run_assign rfl (rfl : a.eval (.const (.slice none 0 0)) = .slice none 0 0))
 intro act2 w2 T
 have ⟨h0_2, h2_2⟩ := T.r2 h0_1 h2_1
 have Fg_2 := T.f Fg_1
 have h3_2 : act2.eval (.tmp 3) = .slice none 0 0 := T.done 0 3 rfl rfl
 have d2 := T.e d1
 have s2 := T.z s1
 have bl2 := T.b bl1
 clear T
 refine Eng.tail_nil ?_
 refine wp_seq ?_
 refine wp_seq ?_
 refine Eng.rS [v, .int .i64 ((fin.length : Nat) : Int), .int .i64 0] (fun _ => .plain) 3 0 s2 ?_ ?_
 ·refine .c ?_ (.c ?_ (.c ?_ (.nil)))
  ·exact Eng.pv fun a w' H => Eng.vr rfl (Eng.run_move rfl (H.q 0 h0_2))
  ·exact Eng.pv fun a w' H => Eng.vr (v := .int .i64 ((fin.length : Nat) : Int)) rfl (Eng.run_len_sl rfl Tryd.underlying34 (show a.eval (.tmp 6) = v from (H.d 0 6)) (Eng.Reads.below Fg_2 H.below))
  exact Eng.pv fun a w' H => Eng.vr rfl (Eng.run_move rfl (rfl : a.eval (.const (.int .i64 0)) = .int .i64 0))
 intro act3 w3 T
 have ⟨h0_3, h2_3, h3_3⟩ := T.r3 h0_2 h2_2 h3_2
 have h6_3 : act3.eval (.tmp 6) = v := T.done 0 6 rfl rfl
 have h7_3 : act3.eval (.tmp 7) = .int .i64 ((fin.length : Nat) : Int) := T.done 1 7 rfl rfl
 have h8_3 : act3.eval (.tmp 8) = .int .i64 0 := T.done 2 8 rfl rfl
 have d3 := T.e d2
 have s3 := T.z s2
 have bl3 := T.b bl2
 clear T
 refine Eng.tail_nil ?_
 refine wp_block ?_
 refine Eng.loopN (fun n a w' => ∃ (k : Nat) (o : Value) (hs : List Dc.GV), fin.length - k = n ∧ (k ≤ fin.length) ∧ (List.map (·.1) hs = List.map (·.1) (List.take k fin)) ∧ (w'.ownsRow w.heap.size 51 1 o (List.length hs) (List.map (·.2) hs)) ∧ (Dc.GsO w.heap.size w' hs) ∧ a.defers = [] ∧ a.tmps.size = 19 ∧ Below w.heap.size w w' ∧ a.eval (.tmp 0) = v ∧ a.eval (.tmp 2) = .slice none 0 0 ∧ a.eval (.tmp 3) = o ∧ a.eval (.tmp 6) = v ∧ a.eval (.tmp 7) = .int .i64 ((fin.length : Nat) : Int) ∧ a.eval (.tmp 8) = .int .i64 (k : Nat)) (n0 := fin.length - 0) ?_ ?_
 ·exact ⟨0, .slice none 0 0, [], rfl, by omega, rfl, World.ownsRow_nil _ _ _ _, Dc.GsO.nil, d3, s3, bl3, h0_3, h2_3, (h3_3.trans (by first | rfl | (congr 1; rw [Eng.i64_id (by omega) (by omega)]; omega) | (simp; done))), h6_3, h7_3, (h8_3.trans (by first | rfl | (congr 1; rw [Eng.i64_id (by omega) (by omega)]; omega) | (simp; done)))⟩
 rintro n act4 w4 ⟨k, o, hs, rfl, hc0_4, hc1_4, hc2_4, hc3_4, d4, s4, bl4, h0_4, h2_4, h3_4, h6_4, h7_4, h8_4⟩
 have Fg_4 := Eng.Reads.below hG.1 bl4
 have hk1 := hc0_4
 have hmap := hc1_4
 have hsl := Dc.mapG_len hk1 hmap
 refine wp_seq ?_
 obtain ⟨q9, Bq9⟩ : ∃ b : Bool, b = (decide ((k : Nat) < ((fin.length : Nat) : Int))) := ⟨_, rfl⟩
 refine Eng.rS [.bool q9] (fun _ => .plain) 1 0 s4 ?_ ?_
 ·refine .c ?_ (.nil)
  ·refine Eng.pv fun a w' H => ?_
   refine Eng.vr (v := .bool (decide ((k : Nat) < ((fin.length : Nat) : Int)))) (by show _ = Value.bool q9; rw [Bq9]) ?_
   have e0 := (H.q 8 h8_4)
   have e1 := (H.q 7 h7_4)
   simp only [execOp, resolve, e0, e1]
   go_simp
 intro act5 w5 T
 have ⟨h0_5, h2_5, h3_5, h6_5, h7_5, h8_5⟩ := T.r6 h0_4 h2_4 h3_4 h6_4 h7_4 h8_4
 have Fg_5 := T.f Fg_4
 have Oout_5 := T.g hc2_4
 have h9_5 : act5.eval (.tmp 9) = .bool q9 := T.done 0 9 rfl rfl
 have d5 := T.e d4
 have s5 := T.z s4
 have bl5 := T.b bl4
 have XK_5 := Dc.GsO.below hc3_4 T.below
 clear T
 refine Eng.tail_nil ?_
 refine wp_seq ?_
 refine wp_cond_split h9_5 (fun hq => ?_) (fun hq => ?_)
 ·
  have c9 := Bq9.symm.trans hq
  clear hq
  have c9 := of_decide_eq_true c9
  have hk0 : k < fin.length := by omega
  have hcell := Dc.map2_at fin k hk0
  have Gk0 := Dc.gsR_at hG hk0
  have hsk := Dc.sml_at hsm hk0
  obtain ⟨nd, Hnd⟩ : ∃ n, n = (fin.getD k default).1 := ⟨_, rfl⟩
  obtain ⟨gk, hgk⟩ : ∃ v, v = (fin.getD k default).2 := ⟨_, rfl⟩
  rw [← Hnd, ← hgk] at Gk0
  rw [← hgk] at hcell
  rw [← Hnd] at hsk
  clear hgk
  refine wp_skip ?_
  refine wp_seq ?_
  refine wp_block ?_
  refine wp_seq ?_
  refine Eng.rS [Eng.elemPtr v (k * 1), gk, gk] (fun _ => .plain) 3 0 s5 ?_ ?_
  ·refine .c ?_ (.c ?_ (.c ?_ (.nil)))
   ·exact Eng.pv fun a w' H => Eng.vr (v := Eng.elemPtr v (k * 1)) rfl (Eng.run_index_sl rfl Tryd.underlying34 (by kernel_rfl) (show a.eval (.tmp 6) = v from (H.q 6 h6_5)) ((show a.eval (.tmp 8) = .int .i64 (k : Nat) from (H.q 8 h8_5)).trans (congrArg (Value.int _) (show (k : Nat) = ((k : Nat) : Int) from by omega))) (Eng.Reads.below Fg_5 H.below) (by omega) rfl)
   ·exact Eng.pv fun a w' H => Eng.vr (v := gk) rfl (Eng.run_load_el (gk) rfl (show a.eval (.tmp 10) = Eng.elemPtr v (k * 1) from (H.d 0 10)) (Eng.Reads.below Fg_5 H.below) (hcell) (by kernel_rfl))
   exact Eng.pv fun a w' H => Eng.vr rfl (Eng.run_assign rfl (H.d 1 11))
  intro act7 w7 T
  have ⟨h0_7, h2_7, h3_7, h6_7, h7_7, h8_7⟩ := T.r6 h0_5 h2_5 h3_5 h6_5 h7_5 h8_5
  have Fg_7 := T.f Fg_5
  have Oout_7 := T.g Oout_5
  have h5_7 : act7.eval (.tmp 5) = gk := T.done 2 5 rfl rfl
  have d7 := T.e d5
  have s7 := T.z s5
  have bl7 := T.b bl5
  have XK_7 := Dc.GsO.below XK_5 T.below
  clear T
  refine Eng.tail_nil ?_
  refine (wpIn_wide (n := 1)).1 ?_
  refine EngI.regionT (n := 6) rfl ?_
  refine EngI.tv rfl (Eng.run_move rfl h3_7) s7 fun act8 d8 s8 h12_8 hr => ?_
  have ⟨h0_8, h2_8, h5_8, h6_8, h7_8, h8_8⟩ := Eng.k6 hr h0_7 h2_7 h5_7 h6_7 h7_7 h8_7
  have d8 := d8.trans d7
  clear hr
  refine EngI.tv rfl (Eng.run_move rfl h5_8) s8 fun act9 d9 s9 h13_9 hr => ?_
  have ⟨h0_9, h2_9, h6_9, h7_9, h8_9, h12_9⟩ := Eng.k6 hr h0_8 h2_8 h6_8 h7_8 h8_8 h12_8
  have d9 := d9.trans d8
  clear hr
  refine EngI.tail_call EngI.free_wide Tryd.func20 (by kernel_rfl) (by kernel_rfl) rfl rfl rfl rfl #[gk] (by have e0 : act9.eval (.tmp 13) = gk := h13_9; simp only [List.map_toArray, List.map_cons, List.map_nil, e0]) s9 rfl (R := fun v w' => Dc.GO w7.heap.size w' nd v ∧ Below w7.heap.size w7 w') ((Dc.ours8_calls gk nd _ (Gk0.below bl7) hsk).mono ?_) fun v_10 w10 act10 R d10 s10 h14_10 hr => ?_
  ·rintro e w1 ⟨o, rfl, r⟩; exact ⟨_, rfl, r⟩
  have ⟨h0_10, h2_10, h6_10, h7_10, h8_10, h12_10⟩ := Eng.k6 hr h0_9 h2_9 h6_9 h7_9 h8_9 h12_9
  have d10 := d10.trans d9
  clear hr
  obtain ⟨GO_10, b_10⟩ := R
  have Fg_10 := Eng.Reads.below Fg_7 b_10
  have Oout_10 := Eng.own_below Oout_7 b_10
  have XK_10 := Dc.GsO.below XK_7 b_10
  have bl10 := bl7.trans (b_10.mono bl7.size)
  have Q_10 := Dc.GO.mono GO_10 bl7.size
  have Qc_10 := Q_10
  obtain ⟨_, _, Og_10, _⟩ := Qc_10
  have Fg_10 := Eng.Reads.of_own Og_10
  refine EngI.tail_ex EngI.free_wide rfl rfl rfl rfl (Eng.run_buildN1 (z := .slice none 0 0) [v_10] rfl Tryd.underlying39 (by kernel_rfl) rfl rfl rfl rfl (by intro v hv; have h := List.mem_singleton.1 hv; rw [h]; exact (Eng.Reads.cells1 Fg_10)) (by have e0 : act10.eval (.tmp 14) = v_10 := h14_10; simp [e0])) s10 rfl fun v_11 w11 act11 R d11 s11 h15_11 hr => ?_
  obtain ⟨F_11, b_11⟩ := R
  have ⟨h0_11, h2_11, h6_11, h7_11, h8_11, h12_11⟩ := Eng.k6 hr h0_10 h2_10 h6_10 h7_10 h8_10 h12_10
  have d11 := d11.trans d10
  clear hr
  have Oout_11 := Eng.own_below Oout_10 b_11
  have Fgo_11 := Eng.Reads.below Fg_10 b_11
  have XK_11 := Dc.GsO.below XK_10 b_11
  have XQ_11 := Dc.GO.below Q_10 b_11
  have bl11 := bl10.trans (b_11.mono bl10.size)
  refine EngI.tail_ex EngI.free_wide rfl rfl rfl rfl (Eng.run_appendI (z := .slice none 0 0) rfl Tryd.underlying39 (by kernel_rfl) rfl rfl h12_11 Oout_11 h15_11 F_11 (by intro u hu; simp at hu; subst hu; obtain ⟨A_, c_, e_⟩ := Eng.Reads.shape Fgo_11; rw [e_]; rfl) (by omega) bl11.size) s11 rfl fun v_12 w12 act12 R d12 s12 h16_12 hr => ?_
  obtain ⟨O_12, _, b_12, G_12, EO_12⟩ := R
  have ⟨h0_12, h2_12, h6_12, h7_12, h8_12⟩ := Eng.k5 hr h0_11 h2_11 h6_11 h7_11 h8_11
  have d12 := d12.trans d11
  clear hr
  have XK_12 := Dc.GsO.grown XK_11 G_12 Oout_11 rfl rfl
  have XQ_12 := Dc.GO.grown XQ_11 G_12 Oout_11 rfl rfl
  have bl12 := bl11.trans b_12
  have Oa12 : w12.ownsRow w.heap.size 51 1 v_12 (hs ++ [(nd, v_10)]).length (List.map (·.2) (hs ++ [(nd, v_10)])) := Dc.own_snocG O_12
  have Fa12 := Eng.Reads.of_own Oa12
  refine EngI.tv rfl (Eng.run_assign rfl h16_12) s12 fun act13 d13 s13 h3_13 hr => ?_
  have ⟨h0_13, h2_13, h6_13, h7_13, h8_13⟩ := Eng.k5 hr h0_12 h2_12 h6_12 h7_12 h8_12
  have d13 := d13.trans d12
  clear hr
  refine EngI.tail_nil ?_
  refine Eng.rS [.int .i64 (IntKind.i64.wrap ((k : Nat) + 1)), .int .i64 (IntKind.i64.wrap ((k : Nat) + 1))] (fun _ => .plain) 2 0 s13 ?_ ?_
  ·refine .c ?_ (.c ?_ (.nil))
   ·refine Eng.pv fun a w' H => ?_
    refine Eng.vr (v := .int .i64 (IntKind.i64.wrap ((k : Nat) + 1))) rfl ?_
    have e0 := (H.q 8 h8_13)
    have e1 : a.eval (.const (.int .i64 1)) = .int .i64 1 := rfl
    simp only [execOp, resolve, e0, e1]
    go_simp
   exact Eng.pv fun a w' H => Eng.vr rfl (Eng.run_move rfl (H.d 0 17))
  intro act14 w14 T
  have ⟨h0_14, h2_14, h3_14, h6_14, h7_14⟩ := T.r5 h0_13 h2_13 h3_13 h6_13 h7_13
  have Oa12_14 := T.g Oa12
  have h8_14 : act14.eval (.tmp 8) = .int .i64 (IntKind.i64.wrap ((k : Nat) + 1)) := T.done 1 8 rfl rfl
  have d14 := T.e d13
  have s14 := T.z s13
  have bl14 := T.b bl12
  have XK_14 := Dc.GsO.below XK_12 T.below
  have XQ_14 := Dc.GO.below XQ_12 T.below
  clear T
  refine Eng.tail_nil ?_
  exact ⟨_, by omega, k + 1, v_12, (hs ++ [(nd, v_10)]), rfl, by omega, Dc.mapG_snoc hk0 hmap Hnd, Oa12_14, Dc.GsO.snoc XK_14 XQ_14, d14, s14, bl14, h0_14, h2_14, (h3_14.trans (by first | rfl | (congr 1; rw [Eng.i64_id (by omega) (by omega)]; omega) | (simp; done))), h6_14, h7_14, (h8_14.trans (by first | rfl | (congr 1; rw [Eng.i64_id (by omega) (by omega)]; omega) | (simp; done)))⟩
 have c9 := Bq9.symm.trans hq
 clear hq
 have c9 := of_decide_eq_false c9
 have hke : k = fin.length := by omega
 refine wp_exit ?_
 refine wp_seq ?_
 refine Eng.rS [o, o] (fun _ => .plain) 2 0 s5 ?_ ?_
 ·refine .c ?_ (.c ?_ (.nil))
  ·exact Eng.pv fun a w' H => Eng.vr rfl (Eng.run_move rfl (H.q 3 h3_5))
  exact Eng.pv fun a w' H => Eng.vr rfl (Eng.run_assign rfl (H.d 0 18))
 intro act16 w16 T
 have Oout_16 := T.g Oout_5
 have h2_16 : act16.eval (.tmp 2) = o := T.done 1 2 rfl rfl
 have d16 := T.e d5
 have bl16 := T.b bl5
 have XK_16 := Dc.GsO.below XK_5 T.below
 clear T
 refine Eng.tail_nil ?_
 refine wp_ret ?_
 repeat (first | with_reducible refine Eng.in_ret ?_ | with_reducible refine Eng.then_ret ?_)
 rw [hke, List.take_length] at hmap
 exact Eng.ret1 rfl d16 h2_16 ⟨_, hs, rfl, hmap, Oout_16, XK_16, bl16⟩
end Go.Proofs.YtgnmjaacnmkgnaaDoor.X
end
section
namespace Go.Proofs.YtgnmjaacnmkgnaaDoor.X
open Go.RowKit Go.Shelf Go.Proofs
set_option linter.unusedVariables false
set_option linter.unusedSimpArgs false
namespace Evt
theorem own_take {w : World} {B k : Nat} {v : Value} {l : List Ev} (hk : k < l.length) (O : w.ownsRow B 30 5 v ((l.take k).length + 1) (cells (l.take k) ++ enc (l.getD k default))) : w.ownsRow B 30 5 v (l.take (k + 1)).length (cells (l.take (k + 1))) := by
  rw [Rwt.take_one hk, List.length_append]
  show w.ownsRow B 30 5 v _ (List.flatMap enc (l.take k ++ [l.getD k default]))
  rw [List.flatMap_append]
  simpa using O
end Evt
end Go.Proofs.YtgnmjaacnmkgnaaDoor.X
end
section
namespace Go.Proofs.YtgnmjaacnmkgnaaDoor.X
open Go.RowKit Go.Shelf Go.Proofs Go.Proofs.YtgnmjaacnmkgnaaDoorW.PrintWords Go.Proofs.YtgnmjaacnmkgnaaDoorW.PrintLast Go.Proofs.YtgnmjaacnmkgnaaDoorW.PrintMore
set_option linter.unusedVariables false
set_option linter.unusedSimpArgs false
attribute [local go_sem] max2_int min2_int max_two min_two
set_option maxHeartbeats 4000000 in
set_option maxRecDepth 100000 in
theorem Evt.theirs_calls (v : Value) (l : List Evt.Ev) (w : World) (hl : Eng.Reads w v l.length 5 (Evt.cells l)) (hlen : l.length ≤ 2199023255488) : Calls Tryd.prog 13 #[v] w fun e w' => ∃ o, e = .returned o ∧ w'.ownsRow w.heap.size 30 5 o l.length (Evt.cells l) ∧ Below w.heap.size w w' := by
 have hm := Eng.Reads.len_le hl
 refine Eng.enter Tryd.func13 rfl fun act0 d0 s0 v0 => ?_
 have s0 : act0.tmps.size = 18 := s0
 have h0_0 : act0.eval (.tmp 0) = v := v0 0 (by simp)
 clear v0
 have bl0 : Below w.heap.size w w := Below.refl _ _
 refine wp_seq ?_
 refine Eng.rS [.slice none 0 0] (fun _ => .plain) 1 0 s0 ?_ ?_
 ·refine .c ?_ (.nil)
  ·exact Eng.pv fun a w' H => Eng.vr rfl (Eng.run_assign rfl (rfl : a.eval (.const (.slice none 0 0)) = .slice none 0 0))
 intro act1 w1 T
 have h0_1 := T.r1 h0_0
 have Fl_1 := T.f hl
 have h2_1 : act1.eval (.tmp 2) = .slice none 0 0 := T.done 0 2 rfl rfl
 have d1 := T.e d0
 have s1 := T.z s0
 have bl1 := T.b bl0
 clear T
 refine Eng.tail_nil ?_
 refine wp_seq ?_
 refine Eng.rS [.slice none 0 0] (fun _ => .plain) 1 0 s1 ?_ ?_
 ·refine .c ?_ (.nil)
  ·exact Eng.pv fun a w' H => Eng.vr rfl (Eng.run_assign rfl (rfl : a.eval (.const (.slice none 0 0)) = .slice none 0 0))
 intro act2 w2 T
 have ⟨h0_2, h2_2⟩ := T.r2 h0_1 h2_1
 have Fl_2 := T.f Fl_1
 have h3_2 : act2.eval (.tmp 3) = .slice none 0 0 := T.done 0 3 rfl rfl
 have d2 := T.e d1
 have s2 := T.z s1
 have bl2 := T.b bl1
 clear T
 refine Eng.tail_nil ?_
 refine wp_seq ?_
 refine wp_seq ?_
 refine Eng.rS [v, .int .i64 ((l.length : Nat) : Int), .int .i64 0] (fun _ => .plain) 3 0 s2 ?_ ?_
 ·refine .c ?_ (.c ?_ (.c ?_ (.nil)))
  ·exact Eng.pv fun a w' H => Eng.vr rfl (Eng.run_move rfl (H.q 0 h0_2))
  ·exact Eng.pv fun a w' H => Eng.vr (v := .int .i64 ((l.length : Nat) : Int)) rfl (Eng.run_len_sl rfl Tryd.underlying26 (show a.eval (.tmp 6) = v from (H.d 0 6)) (Eng.Reads.below Fl_2 H.below))
  exact Eng.pv fun a w' H => Eng.vr rfl (Eng.run_move rfl (rfl : a.eval (.const (.int .i64 0)) = .int .i64 0))
 intro act3 w3 T
 have ⟨h0_3, h2_3, h3_3⟩ := T.r3 h0_2 h2_2 h3_2
 have h6_3 : act3.eval (.tmp 6) = v := T.done 0 6 rfl rfl
 have h7_3 : act3.eval (.tmp 7) = .int .i64 ((l.length : Nat) : Int) := T.done 1 7 rfl rfl
 have h8_3 : act3.eval (.tmp 8) = .int .i64 0 := T.done 2 8 rfl rfl
 have d3 := T.e d2
 have s3 := T.z s2
 have bl3 := T.b bl2
 clear T
 refine Eng.tail_nil ?_
 refine wp_block ?_
 refine Eng.loopN (fun n a w' => ∃ (k : Nat) (o : Value), l.length - k = n ∧ (k ≤ l.length) ∧ (w'.ownsRow w.heap.size 30 5 o (List.take k l).length (Evt.cells (List.take k l))) ∧ a.defers = [] ∧ a.tmps.size = 18 ∧ Below w.heap.size w w' ∧ a.eval (.tmp 0) = v ∧ a.eval (.tmp 2) = .slice none 0 0 ∧ a.eval (.tmp 3) = o ∧ a.eval (.tmp 6) = v ∧ a.eval (.tmp 7) = .int .i64 ((l.length : Nat) : Int) ∧ a.eval (.tmp 8) = .int .i64 (k : Nat)) (n0 := l.length - 0) ?_ ?_
 ·exact ⟨0, .slice none 0 0, rfl, by omega, World.ownsRow_nil _ _ _ _, d3, s3, bl3, h0_3, h2_3, (h3_3.trans (by first | rfl | (congr 1; rw [Eng.i64_id (by omega) (by omega)]; omega) | (simp; done))), h6_3, h7_3, (h8_3.trans (by first | rfl | (congr 1; rw [Eng.i64_id (by omega) (by omega)]; omega) | (simp; done)))⟩
 rintro n act4 w4 ⟨k, o, rfl, hc0_4, hc1_4, d4, s4, bl4, h0_4, h2_4, h3_4, h6_4, h7_4, h8_4⟩
 have Fl_4 := Eng.Reads.below hl bl4
 have hk1 := hc0_4
 refine wp_seq ?_
 obtain ⟨q9, Bq9⟩ : ∃ b : Bool, b = (decide ((k : Nat) < ((l.length : Nat) : Int))) := ⟨_, rfl⟩
 refine Eng.rS [.bool q9] (fun _ => .plain) 1 0 s4 ?_ ?_
 ·refine .c ?_ (.nil)
  ·refine Eng.pv fun a w' H => ?_
   refine Eng.vr (v := .bool (decide ((k : Nat) < ((l.length : Nat) : Int)))) (by show _ = Value.bool q9; rw [Bq9]) ?_
   have e0 := (H.q 8 h8_4)
   have e1 := (H.q 7 h7_4)
   simp only [execOp, resolve, e0, e1]
   go_simp
 intro act5 w5 T
 have ⟨h0_5, h2_5, h3_5, h6_5, h7_5, h8_5⟩ := T.r6 h0_4 h2_4 h3_4 h6_4 h7_4 h8_4
 have Fl_5 := T.f Fl_4
 have Oout_5 := T.g hc1_4
 have h9_5 : act5.eval (.tmp 9) = .bool q9 := T.done 0 9 rfl rfl
 have d5 := T.e d4
 have s5 := T.z s4
 have bl5 := T.b bl4
 clear T
 refine Eng.tail_nil ?_
 refine wp_seq ?_
 refine wp_cond_split h9_5 (fun hq => ?_) (fun hq => ?_)
 ·
  have c9 := Bq9.symm.trans hq
  clear hq
  have c9 := of_decide_eq_true c9
  have hk0 : k < l.length := by omega
  refine wp_skip ?_
  refine wp_seq ?_
  refine wp_block ?_
  refine wp_seq ?_
  refine Eng.regionS (Eng.still [fun u_ => u_ = Eng.elemPtr v (k * 5), fun u_ => u_ = .agg #[.int .i64 ((l.getD k default).kind), .string ((l.getD k default).anchor), .string ((l.getD k default).tag), .string ((l.getD k default).text), .bool ((l.getD k default).plain)], fun u_ => True, fun u_ => True]) (fun i => ([.plain, .plain, .alloc 23 #[.int .i64 0, .string ⟨#[]⟩, .string ⟨#[]⟩, .string ⟨#[]⟩, .bool false], .store 2 #[.int .i64 ((l.getD k default).kind), .string ((l.getD k default).anchor), .string ((l.getD k default).tag), .string ((l.getD k default).text), .bool ((l.getD k default).plain)]] : List Eng.Kind).getD i .plain) 4 0 18 s5 rfl (by kernel_rfl) (Eng.still_stable _) (Or.inr (Eng.still_any _)) ?_ ?_
  ·refine .c ?_ (.c ?_ (.c ?_ (.c ?_ (.nil))))
   ·exact Eng.pv fun a w' H => Eng.vr (v := Eng.elemPtr v (k * 5)) rfl (Eng.run_index_sl rfl Tryd.underlying26 (by kernel_rfl) (show a.eval (.tmp 6) = v from (H.q 6 h6_5)) ((show a.eval (.tmp 8) = .int .i64 (k : Nat) from (H.q 8 h8_5)).trans (congrArg (Value.int _) (show (k : Nat) = ((k : Nat) : Int) from by omega))) (Eng.Reads.below Fl_5 H.below) (by omega) rfl)
   ·exact Eng.pv fun a w' H => Eng.vr (v := .agg #[.int .i64 ((l.getD k default).kind), .string ((l.getD k default).anchor), .string ((l.getD k default).tag), .string ((l.getD k default).text), .bool ((l.getD k default).plain)]) rfl (Eng.run_load_els [.int .i64 ((l.getD k default).kind), .string ((l.getD k default).anchor), .string ((l.getD k default).tag), .string ((l.getD k default).text), .bool ((l.getD k default).plain)] rfl (show a.eval (.tmp 10) = Eng.elemPtr v (k * 5) from (H.d 0 10)) (Eng.Reads.below Fl_5 H.below) (Evt.cells_at l k (by omega)) rfl Tryd.underlying23 rfl (by kernel_rfl))
   ·refine Eng.made rfl (by simp) rfl (fun a w' hd ho => ?_) (fun _ _ => trivial)
    simp only [execOp]
    go_simp
   refine Eng.stored [.int .i64 ((l.getD k default).kind), .string ((l.getD k default).anchor), .string ((l.getD k default).tag), .string ((l.getD k default).text), .bool ((l.getD k default).plain)] rfl rfl rfl (j := 2) (d := 5) (by kernel_rfl) rfl rfl (Eng.store_uniq (by kernel_rfl)) rfl rfl fun a w' g e hc hd ho => ?_
   have e0 : a.eval _ = .agg #[.int .i64 ((l.getD k default).kind), .string ((l.getD k default).anchor), .string ((l.getD k default).tag), .string ((l.getD k default).text), .bool ((l.getD k default).plain)] := (hd 1 11 (by kernel_rfl) rfl)
   have z0 := (Eng.cells hc 0).trans rfl
   have z1 := (Eng.cells hc 1).trans rfl
   have z2 := (Eng.cells hc 2).trans rfl
   have z3 := (Eng.cells hc 3).trans rfl
   have z4 := (Eng.cells hc 4).trans rfl
   have f0 := Eng.unfrozen hc 0
   have f1 := Eng.unfrozen hc 1
   have f2 := Eng.unfrozen hc 2
   have f3 := Eng.unfrozen hc 3
   have f4 := Eng.unfrozen hc 4
   simp only [execOp, e, e0]
   go_simp
   rfl
  intro act7 w7 T
  have ⟨h0_7, h2_7, h3_7, h6_7, h7_7, h8_7⟩ := T.r6 h0_5 h2_5 h3_5 h6_5 h7_5 h8_5
  have Oout_7 := T.g Oout_5
  obtain ⟨g5_7, h5_7, rg5_7, lg5_7_7, kg5_7_7⟩ := T.st 2 5 3 _ _ _ rfl rfl rfl rfl rfl
  have d7 := T.e d5
  have s7 := T.z s5
  have bl7 := T.b bl5
  clear T
  refine Eng.tail_nil ?_
  refine Eng.regionT (n := 5) rfl ?_
  refine Eng.tail_val rfl rfl rfl (Eng.run_move rfl h3_7) s7 rfl fun act8 d8 s8 h12_8 hr => ?_
  have ⟨h0_8, h2_8, h5_8, h6_8, h7_8, h8_8⟩ := Eng.k6 hr h0_7 h2_7 h5_7 h6_7 h7_7 h8_7
  have d8 := d8.trans d7
  clear hr
  refine Eng.tail_val rfl rfl rfl (Eng.run_load_all rfl h5_8 kg5_7_7 Tryd.underlying23 rfl (by kernel_rfl)) s8 rfl fun act9 d9 s9 h13_9 hr => ?_
  have ⟨h0_9, h2_9, h6_9, h7_9, h8_9, h12_9⟩ := Eng.k6 hr h0_8 h2_8 h6_8 h7_8 h8_8 h12_8
  have d9 := d9.trans d8
  clear hr
  refine Eng.tail_ex rfl rfl rfl (Eng.run_build1I (size := 5) (z := .agg #[.int .i64 0, .string ⟨#[]⟩, .string ⟨#[]⟩, .string ⟨#[]⟩, .bool false]) [.int .i64 ((l.getD k default).kind), .string ((l.getD k default).anchor), .string ((l.getD k default).tag), .string ((l.getD k default).text), .bool ((l.getD k default).plain)] rfl Tryd.underlying37 (by kernel_rfl) rfl rfl rfl (by kernel_rfl) (show act9.eval (.tmp 13) = .agg #[.int .i64 ((l.getD k default).kind), .string ((l.getD k default).anchor), .string ((l.getD k default).tag), .string ((l.getD k default).text), .bool ((l.getD k default).plain)] from h13_9)) s9 rfl fun v_10 w10 act10 R d10 s10 h14_10 hr => ?_
  obtain ⟨F_10, b_10⟩ := R
  have ⟨h0_10, h2_10, h6_10, h7_10, h8_10, h12_10⟩ := Eng.k6 hr h0_9 h2_9 h6_9 h7_9 h8_9 h12_9
  have d10 := d10.trans d9
  clear hr
  have Oout_10 := Eng.own_below Oout_7 b_10
  have bl10 := bl7.trans (b_10.mono bl7.size)
  refine Eng.tail_ex rfl rfl rfl (Eng.run_appendM (z := .agg #[.int .i64 0, .string ⟨#[]⟩, .string ⟨#[]⟩, .string ⟨#[]⟩, .bool false]) rfl Tryd.underlying37 (by kernel_rfl) rfl rfl h12_10 Oout_10 h14_10 F_10 (by intro u hu; simp only [List.mem_cons, List.not_mem_nil, or_false] at hu; rcases hu with rfl | rfl | rfl | rfl | rfl <;> rfl) (by rw [List.length_take]; omega) bl10.size) s10 rfl fun v_11 w11 act11 R d11 s11 h15_11 hr => ?_
  obtain ⟨O_11, _, b_11, G_11, EO_11⟩ := R
  have ⟨h0_11, h2_11, h6_11, h7_11, h8_11⟩ := Eng.k5 hr h0_10 h2_10 h6_10 h7_10 h8_10
  have d11 := d11.trans d10
  clear hr
  have bl11 := bl10.trans b_11
  have Oa11 : w11.ownsRow w.heap.size 30 5 v_11 (List.take (k + 1) l).length (Evt.cells (List.take (k + 1) l)) := Evt.own_take hk0 O_11
  have Fa11 := Eng.Reads.of_own Oa11
  refine Eng.tail_val rfl rfl rfl (Eng.run_assign rfl h15_11) s11 rfl fun act12 d12 s12 h3_12 hr => ?_
  have ⟨h0_12, h2_12, h6_12, h7_12, h8_12⟩ := Eng.k5 hr h0_11 h2_11 h6_11 h7_11 h8_11
  have d12 := d12.trans d11
  clear hr
  refine Eng.tail_nil ?_
  refine Eng.rS [.int .i64 (IntKind.i64.wrap ((k : Nat) + 1)), .int .i64 (IntKind.i64.wrap ((k : Nat) + 1))] (fun _ => .plain) 2 0 s12 ?_ ?_
  ·refine .c ?_ (.c ?_ (.nil))
   ·refine Eng.pv fun a w' H => ?_
    refine Eng.vr (v := .int .i64 (IntKind.i64.wrap ((k : Nat) + 1))) rfl ?_
    have e0 := (H.q 8 h8_12)
    have e1 : a.eval (.const (.int .i64 1)) = .int .i64 1 := rfl
    simp only [execOp, resolve, e0, e1]
    go_simp
   exact Eng.pv fun a w' H => Eng.vr rfl (Eng.run_move rfl (H.d 0 16))
  intro act13 w13 T
  have ⟨h0_13, h2_13, h3_13, h6_13, h7_13⟩ := T.r5 h0_12 h2_12 h3_12 h6_12 h7_12
  have Oa11_13 := T.g Oa11
  have h8_13 : act13.eval (.tmp 8) = .int .i64 (IntKind.i64.wrap ((k : Nat) + 1)) := T.done 1 8 rfl rfl
  have d13 := T.e d12
  have s13 := T.z s12
  have bl13 := T.b bl11
  clear T
  refine Eng.tail_nil ?_
  exact ⟨_, by omega, k + 1, v_11, rfl, by omega, Oa11_13, d13, s13, bl13, h0_13, h2_13, (h3_13.trans (by first | rfl | (congr 1; rw [Eng.i64_id (by omega) (by omega)]; omega) | (simp; done))), h6_13, h7_13, (h8_13.trans (by first | rfl | (congr 1; rw [Eng.i64_id (by omega) (by omega)]; omega) | (simp; done)))⟩
 have c9 := Bq9.symm.trans hq
 clear hq
 have c9 := of_decide_eq_false c9
 have hke : k = l.length := by omega
 refine wp_exit ?_
 refine wp_seq ?_
 refine Eng.rS [o, o] (fun _ => .plain) 2 0 s5 ?_ ?_
 ·refine .c ?_ (.c ?_ (.nil))
  ·exact Eng.pv fun a w' H => Eng.vr rfl (Eng.run_move rfl (H.q 3 h3_5))
  exact Eng.pv fun a w' H => Eng.vr rfl (Eng.run_assign rfl (H.d 0 17))
 intro act15 w15 T
 have Oout_15 := T.g Oout_5
 have h2_15 : act15.eval (.tmp 2) = o := T.done 1 2 rfl rfl
 have d15 := T.e d5
 have bl15 := T.b bl5
 clear T
 refine Eng.tail_nil ?_
 refine wp_ret ?_
 repeat (first | with_reducible refine Eng.in_ret ?_ | with_reducible refine Eng.then_ret ?_)
 have fin := Oout_15
 rw [hke, List.take_length] at fin
 exact Eng.ret1 rfl d15 h2_15 ⟨_, rfl, fin, bl15⟩
end Go.Proofs.YtgnmjaacnmkgnaaDoor.X
end
