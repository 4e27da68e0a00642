/- Words and walks that the row of ComposeNames needs: printed by programs, and plain laws. -/
import Derived.Test.YtgnmjaacnmkgnaaDoorM4
import Derived.Test.YtgnmjaacnmkgnaaDoorM3
namespace Go.Proofs.YtgnmjaacnmkgnaaDoorW.PrintWords
end Go.Proofs.YtgnmjaacnmkgnaaDoorW.PrintWords
namespace Go.Proofs.YtgnmjaacnmkgnaaDoorW.PrintLast
end Go.Proofs.YtgnmjaacnmkgnaaDoorW.PrintLast
namespace Go.Proofs.YtgnmjaacnmkgnaaDoorW.PrintMore
end Go.Proofs.YtgnmjaacnmkgnaaDoorW.PrintMore
section
namespace Go.Proofs.YtgnmjaacnmkgnaaDoor.X
open Go.RowKit Go.Shelf Go.Proofs Go.Proofs.YtgnmjaacnmkgnaaDoorW.PrintWords Go.Proofs.YtgnmjaacnmkgnaaDoorW.PrintLast Go.Proofs.YtgnmjaacnmkgnaaDoorW.PrintMore
set_option linter.unusedVariables false
set_option linter.unusedSimpArgs false
attribute [local go_sem] max2_int min2_int max_two min_two
set_option maxHeartbeats 4000000 in
set_option maxRecDepth 100000 in
theorem Evt.last_nil (g : Nat) (o : Value) (B : Nat) (w : World) (hk : w.heap[g]? = some (.cells #[o] 77 (0, 0))) (hO : w.ownsRow B 93 2 o 0 (Evt.opens [])) : Calls Tryd.prog 66 #[.pointer (some ⟨g, 0, none⟩)] w fun e w' => ∃ h, e = .returned (.pointer (some ⟨h, 0, none⟩)) ∧ w.heap.size ≤ h ∧ h < w'.heap.size ∧ w'.heap[h]? = some (.cells #[.int .i64 (-1), .int .i64 0] 93 (0, 0)) ∧ Below w.heap.size w w' := by
 refine Eng.enter Tryd.func66 rfl fun act0 d0 s0 v0 => ?_
 have s0 : act0.tmps.size = 22 := s0
 have h0_0 : act0.eval (.tmp 0) = .pointer (some ⟨g, 0, none⟩) := v0 0 (by simp)
 clear v0
 have bl0 : Below w.heap.size w w := Below.refl _ _
 refine wp_seq ?_
 refine Eng.rS [.pointer none] (fun _ => .plain) 1 0 s0 ?_ ?_
 ·refine .c ?_ (.nil)
  ·exact Eng.pv fun a w' H => Eng.vr rfl (Eng.run_assign rfl (rfl : a.eval (.const (.pointer none)) = .pointer none))
 intro act1 w1 T
 have h0_1 := T.r1 h0_0
 have kg_1 := (T.below.block _ (Array.getElem?_eq_some_iff.1 hk).1).trans hk
 have lg_1 := Nat.lt_of_lt_of_le (Array.getElem?_eq_some_iff.1 hk).1 T.below.size
 have Fo_1 := Eng.Reads.below (Eng.Reads.of_own hO) T.below
 have d1 := T.e d0
 have s1 := T.z s0
 have bl1 := T.b bl0
 clear T
 refine Eng.tail_nil ?_
 refine wp_seq ?_
 refine wp_seq ?_
 obtain ⟨q8, Bq8⟩ : ∃ b : Bool, b = ((0 : Int) == 0) := ⟨_, rfl⟩
 refine Eng.rS [.pointer (some ⟨g, 0, none⟩), .pointer (some ⟨g, 0, none⟩), .pointer (some ⟨g, 0, none⟩), o, .int .i64 (0 : Int), .bool q8] (fun _ => .plain) 6 0 s1 ?_ ?_
 ·refine .c ?_ (.c ?_ (.c ?_ (.c ?_ (.c ?_ (.c ?_ (.nil))))))
  ·exact Eng.pv fun a w' H => Eng.vr rfl (Eng.run_move rfl (H.q 0 h0_1))
  ·exact Eng.pv fun a w' H => Eng.vr rfl (Eng.run_nilb rfl (H.d 0 3))
  ·exact Eng.pv fun a w' H => Eng.vr rfl (Eng.run_fieldb rfl Tryd.underlying77 0 (by kernel_rfl) (H.d 1 4))
  ·exact Eng.pv fun a w' H => Eng.vr rfl (Eng.run_loadb rfl (H.d 2 5) ((H.below.block _ lg_1).trans kg_1) rfl (by kernel_rfl))
  ·exact Eng.pv fun a w' H => Eng.vr (v := .int .i64 (0 : Int)) rfl (Eng.run_len_sl rfl Tryd.underlying75 (show a.eval (.tmp 6) = o from (H.d 3 6)) (Eng.Reads.below Fo_1 H.below))
  refine Eng.pv fun a w' H => ?_
  refine Eng.vr (v := .bool ((0 : Int) == 0)) (by show _ = Value.bool q8; rw [Bq8]) ?_
  have e0 : a.eval (.tmp 7) = .int .i64 (0 : Int) := (H.d 4 7)
  have e1 : a.eval (.const (.int .i64 0)) = .int .i64 0 := rfl
  simp only [execOp, resolve, e0, e1]
  go_simp
 intro act2 w2 T
 have h8_2 : act2.eval (.tmp 8) = .bool q8 := T.done 5 8 rfl rfl
 have d2 := T.e d1
 have s2 := T.z s1
 have bl2 := T.b bl1
 clear T
 refine Eng.tail_nil ?_
 have n8 : q8 = true := by
  try simp only [Bq8]
  rfl
 refine wp_cond_true (h8_2.trans (by rw [n8])) ?_
 refine wp_seq ?_
 refine Eng.regionT (n := 3) rfl ?_
 refine Eng.tail_val (w1 := w2) (v := .agg #[.int .i64 (-1), .int .i64 0]) rfl rfl rfl ?_ s2 rfl ?_
 ·have e0 : act2.eval (.const (.int .i64 (-1))) = .int .i64 (-1) := rfl
  simp only [execOp, resolve, e0]
  go_simp
 intro act3 d3 s3 h9_3 hr
 have d3 := d3.trans d2
 clear hr
 refine Eng.tail_ex rfl rfl rfl (Eng.box_ex (cs := #[.int .i64 (-1), .int .i64 0]) rfl h9_3 (by rfl)) s3 rfl fun v_4 w4 act4 R d4 s4 h10_4 hr => ?_
 obtain ⟨g10_4, ev_4, rg_4, lg10_4, kg10_4, b_4⟩ := R
 have d4 := d4.trans d3
 clear hr
 have og10_4 : w.heap.size ≤ g10_4 := Nat.le_trans bl2.size rg_4
 have bl4 := bl2.trans (b_4.mono bl2.size)
 rw [ev_4] at h10_4
 refine Eng.tail_val rfl rfl rfl (Eng.run_assign rfl h10_4) s4 rfl fun act5 d5 s5 h2_5 hr => ?_
 have d5 := d5.trans d4
 clear hr
 refine Eng.tail_nil ?_
 refine wp_ret ?_
 repeat (first | refine Eng.in_ret ?_ | refine Eng.then_ret ?_)
 exact Eng.ret1 rfl d5 h2_5 ⟨_, rfl, og10_4, lg10_4, kg10_4, bl4⟩
set_option maxHeartbeats 4000000 in
set_option maxRecDepth 100000 in
theorem Evt.last_top (g : Nat) (o : Value) (B : Nat) (pre : List (Int × Int)) (t : Int × Int) (w : World) (hk : w.heap[g]? = some (.cells #[o] 77 (0, 0))) (hO : w.ownsRow B 93 2 o (pre ++ [t]).length (Evt.opens (pre ++ [t]))) : Calls Tryd.prog 66 #[.pointer (some ⟨g, 0, none⟩)] w fun e w' => e = .returned (Eng.elemPtr o (pre.length * 2)) ∧ Below w.heap.size w w' := by
 have hm := Eng.Reads.len_le (Eng.Reads.of_own hO)
 rw [List.length_append] at hm
 have hm1 : pre.length + 1 ≤ 9223372036854775807 := hm
 refine Eng.enter Tryd.func66 rfl fun act0 d0 s0 v0 => ?_
 have s0 : act0.tmps.size = 22 := s0
 have h0_0 : act0.eval (.tmp 0) = .pointer (some ⟨g, 0, none⟩) := v0 0 (by simp)
 clear v0
 have bl0 : Below w.heap.size w w := Below.refl _ _
 refine wp_seq ?_
 refine Eng.rS [.pointer none] (fun _ => .plain) 1 0 s0 ?_ ?_
 ·refine .c ?_ (.nil)
  ·exact Eng.pv fun a w' H => Eng.vr rfl (Eng.run_assign rfl (rfl : a.eval (.const (.pointer none)) = .pointer none))
 intro act1 w1 T
 have h0_1 := T.r1 h0_0
 have kg_1 := (T.below.block _ (Array.getElem?_eq_some_iff.1 hk).1).trans hk
 have lg_1 := Nat.lt_of_lt_of_le (Array.getElem?_eq_some_iff.1 hk).1 T.below.size
 have Fo_1 := Eng.Reads.below (Eng.Reads.of_own hO) T.below
 have d1 := T.e d0
 have s1 := T.z s0
 have bl1 := T.b bl0
 clear T
 refine Eng.tail_nil ?_
 refine wp_seq ?_
 refine wp_seq ?_
 obtain ⟨q8, Bq8⟩ : ∃ b : Bool, b = ((((pre ++ [t]).length : Nat) : Int) == 0) := ⟨_, rfl⟩
 refine Eng.rS [.pointer (some ⟨g, 0, none⟩), .pointer (some ⟨g, 0, none⟩), .pointer (some ⟨g, 0, none⟩), o, .int .i64 (((pre ++ [t]).length : Nat) : Int), .bool q8] (fun _ => .plain) 6 0 s1 ?_ ?_
 ·refine .c ?_ (.c ?_ (.c ?_ (.c ?_ (.c ?_ (.c ?_ (.nil))))))
  ·exact Eng.pv fun a w' H => Eng.vr rfl (Eng.run_move rfl (H.q 0 h0_1))
  ·exact Eng.pv fun a w' H => Eng.vr rfl (Eng.run_nilb rfl (H.d 0 3))
  ·exact Eng.pv fun a w' H => Eng.vr rfl (Eng.run_fieldb rfl Tryd.underlying77 0 (by kernel_rfl) (H.d 1 4))
  ·exact Eng.pv fun a w' H => Eng.vr rfl (Eng.run_loadb rfl (H.d 2 5) ((H.below.block _ lg_1).trans kg_1) rfl (by kernel_rfl))
  ·exact Eng.pv fun a w' H => Eng.vr (v := .int .i64 (((pre ++ [t]).length : Nat) : Int)) rfl (Eng.run_len_sl rfl Tryd.underlying75 (show a.eval (.tmp 6) = o from (H.d 3 6)) (Eng.Reads.below Fo_1 H.below))
  refine Eng.pv fun a w' H => ?_
  refine Eng.vr (v := .bool ((((pre ++ [t]).length : Nat) : Int) == 0)) (by show _ = Value.bool q8; rw [Bq8]) ?_
  have e0 : a.eval (.tmp 7) = .int .i64 (((pre ++ [t]).length : Nat) : Int) := (H.d 4 7)
  have e1 : a.eval (.const (.int .i64 0)) = .int .i64 0 := rfl
  simp only [execOp, resolve, e0, e1]
  go_simp
 intro act2 w2 T
 have h0_2 := T.r1 h0_1
 have kg_2 := T.x lg_1 kg_1
 have lg_2 := T.l lg_1
 have Fo_2 := T.f Fo_1
 have h8_2 : act2.eval (.tmp 8) = .bool q8 := T.done 5 8 rfl rfl
 have d2 := T.e d1
 have s2 := T.z s1
 have bl2 := T.b bl1
 clear T
 refine Eng.tail_nil ?_
 have n8 : q8 = false := by
  try simp only [Bq8]
  rw [beq_eq_false_iff_ne]; simp; omega
 refine wp_cond_false (h8_2.trans (by rw [n8])) ?_
 refine wp_skip ?_
 refine wp_seq ?_
 refine Eng.rD [.pointer (some ⟨g, 0, none⟩), .pointer (some ⟨g, 0, none⟩), .pointer (some ⟨g, 0, none⟩), o, .pointer (some ⟨g, 0, none⟩), .pointer (some ⟨g, 0, none⟩), .pointer (some ⟨g, 0, none⟩), o, .int .i64 (((pre ++ [t]).length : Nat) : Int), .int .i64 (IntKind.i64.wrap ((((pre ++ [t]).length : Nat) : Int) - 1)), Eng.elemPtr o (pre.length * 2), Eng.elemPtr o (pre.length * 2)] (fun _ => .plain) 12 0 s2 ?_ ?_
 ·refine .c ?_ (.c ?_ (.c ?_ (.c ?_ (.c ?_ (.c ?_ (.c ?_ (.c ?_ (.c ?_ (.c ?_ (.c ?_ (.c ?_ (.nil))))))))))))
  ·exact Eng.pv fun a w' H => Eng.vr rfl (Eng.run_move rfl (H.q 0 h0_2))
  ·exact Eng.pv fun a w' H => Eng.vr rfl (Eng.run_nilb rfl (H.d 0 11))
  ·exact Eng.pv fun a w' H => Eng.vr rfl (Eng.run_fieldb rfl Tryd.underlying77 0 (by kernel_rfl) (H.d 1 12))
  ·exact Eng.pv fun a w' H => Eng.vr rfl (Eng.run_loadb rfl (H.d 2 13) ((H.below.block _ lg_2).trans kg_2) rfl (by kernel_rfl))
  ·exact Eng.pv fun a w' H => Eng.vr rfl (Eng.run_move rfl (H.q 0 h0_2))
  ·exact Eng.pv fun a w' H => Eng.vr rfl (Eng.run_nilb rfl (H.d 4 15))
  ·exact Eng.pv fun a w' H => Eng.vr rfl (Eng.run_fieldb rfl Tryd.underlying77 0 (by kernel_rfl) (H.d 5 16))
  ·exact Eng.pv fun a w' H => Eng.vr rfl (Eng.run_loadb rfl (H.d 6 17) ((H.below.block _ lg_2).trans kg_2) rfl (by kernel_rfl))
  ·exact Eng.pv fun a w' H => Eng.vr (v := .int .i64 (((pre ++ [t]).length : Nat) : Int)) rfl (Eng.run_len_sl rfl Tryd.underlying75 (show a.eval (.tmp 18) = o from (H.d 7 18)) (Eng.Reads.below Fo_2 H.below))
  ·refine Eng.pv fun a w' H => ?_
   refine Eng.vr (v := .int .i64 (IntKind.i64.wrap ((((pre ++ [t]).length : Nat) : Int) - 1))) rfl ?_
   have e0 : a.eval (.tmp 19) = .int .i64 (((pre ++ [t]).length : Nat) : Int) := (H.d 8 19)
   have e1 : a.eval (.const (.int .i64 1)) = .int .i64 1 := rfl
   simp only [execOp, resolve, e0, e1]
   go_simp
  ·exact Eng.pv fun a w' H => Eng.vr (v := Eng.elemPtr o (pre.length * 2)) rfl (Eng.run_index_sl rfl Tryd.underlying75 (by kernel_rfl) (show a.eval (.tmp 14) = o from (H.d 3 14)) ((show a.eval (.tmp 20) = .int .i64 (IntKind.i64.wrap ((((pre ++ [t]).length : Nat) : Int) - 1)) from (H.d 9 20)).trans (congrArg (Value.int _) (show IntKind.i64.wrap ((((pre ++ [t]).length : Nat) : Int) - 1) = ((pre.length : Nat) : Int) from by first | exact Evt.last_ix pre t hm1 | (simp; done)))) (Eng.Reads.below Fo_2 H.below) (by first | exact Evt.last_ix pre t hm1 | (simp; done)) rfl)
  exact Eng.pv fun a w' H => Eng.vr rfl (Eng.run_assign rfl (H.d 10 21))
 intro act3 w3 T
 have h2_3 : act3.eval (.tmp 2) = Eng.elemPtr o (pre.length * 2) := T.done 11 2 rfl rfl
 have d3 := T.e d2
 have bl3 := T.b bl2
 clear T
 refine Eng.tail_nil ?_
 refine wp_ret ?_
 repeat (first | refine Eng.in_ret ?_ | refine Eng.then_ret ?_)
 exact Eng.ret1 rfl d3 h2_3 ⟨rfl, bl3⟩
end Go.Proofs.YtgnmjaacnmkgnaaDoor.X
end
section
namespace Go.Proofs.YtgnmjaacnmkgnaaDoor.X
open Go.RowKit Go.Shelf Go.Proofs Go.Proofs.YtgnmjaacnmkgnaaDoorW.PrintWords Go.Proofs.YtgnmjaacnmkgnaaDoorW.PrintLast Go.Proofs.YtgnmjaacnmkgnaaDoorW.PrintMore
set_option linter.unusedVariables false
set_option linter.unusedSimpArgs false
attribute [local go_sem] max2_int min2_int max_two min_two
set_option maxHeartbeats 4000000 in
set_option maxRecDepth 100000 in
theorem Evt.may69_calls (m : Int) (w : World) : Calls Tryd.prog 69 #[.int .i64 m] w fun e w' => e = .returned (.bool (m == 1)) ∧ Below w.heap.size w w' := by
 refine Eng.enter Tryd.func69 rfl fun act0 d0 s0 v0 => ?_
 have s0 : act0.tmps.size = 5 := s0
 have h0_0 : act0.eval (.tmp 0) = .int .i64 m := v0 0 (by simp)
 clear v0
 have bl0 : Below w.heap.size w w := Below.refl _ _
 refine wp_seq ?_
 refine Eng.rS [.bool false] (fun _ => .plain) 1 0 s0 ?_ ?_
 ·refine .c ?_ (.nil)
  ·exact Eng.pv fun a w' H => Eng.vr rfl (Eng.run_assign rfl (rfl : a.eval (.const (.bool false)) = .bool false))
 intro act1 w1 T
 have h0_1 := T.r1 h0_0
 have d1 := T.e d0
 have s1 := T.z s0
 have bl1 := T.b bl0
 clear T
 refine Eng.tail_nil ?_
 refine wp_seq ?_
 obtain ⟨q4, Bq4⟩ : ∃ b : Bool, b = (m == 1) := ⟨_, rfl⟩
 refine Eng.rS [.int .i64 m, .bool q4, .bool q4] (fun _ => .plain) 3 0 s1 ?_ ?_
 ·refine .c ?_ (.c ?_ (.c ?_ (.nil)))
  ·exact Eng.pv fun a w' H => Eng.vr rfl (Eng.run_move rfl (H.q 0 h0_1))
  ·refine Eng.pv fun a w' H => ?_
   refine Eng.vr (v := .bool (m == 1)) (by show _ = Value.bool q4; rw [Bq4]) ?_
   have e0 : a.eval (.tmp 3) = .int .i64 m := (H.d 0 3)
   have e1 : a.eval (.const (.int .i64 1)) = .int .i64 1 := rfl
   simp only [execOp, resolve, e0, e1]
   go_simp
  exact Eng.pv fun a w' H => Eng.vr rfl (Eng.run_assign rfl (H.d 1 4))
 intro act2 w2 T
 have h2_2 : act2.eval (.tmp 2) = .bool q4 := T.done 2 2 rfl rfl
 have d2 := T.e d1
 have bl2 := T.b bl1
 clear T
 refine Eng.tail_nil ?_
 refine wp_ret ?_
 repeat (first | refine Eng.in_ret ?_ | refine Eng.then_ret ?_)
 exact Eng.ret1 rfl d2 (h2_2.trans (by first | rfl | (rw [Bq4]; done) | (rw [Bq4]; rfl))) ⟨rfl, bl2⟩
set_option maxHeartbeats 4000000 in
set_option maxRecDepth 100000 in
theorem Evt.may70_calls (m : Int) (w : World) : Calls Tryd.prog 70 #[.int .i64 m] w fun e w' => e = .returned (.bool (true)) ∧ Below w.heap.size w w' := by
 refine Eng.enter Tryd.func70 rfl fun act0 d0 s0 v0 => ?_
 have s0 : act0.tmps.size = 3 := s0
 clear v0
 have bl0 : Below w.heap.size w w := Below.refl _ _
 refine wp_seq ?_
 refine Eng.rS [.bool false] (fun _ => .plain) 1 0 s0 ?_ ?_
 ·refine .c ?_ (.nil)
  ·exact Eng.pv fun a w' H => Eng.vr rfl (Eng.run_assign rfl (rfl : a.eval (.const (.bool false)) = .bool false))
 intro act1 w1 T
 have d1 := T.e d0
 have s1 := T.z s0
 have bl1 := T.b bl0
 clear T
 refine Eng.tail_nil ?_
 refine wp_seq ?_
 refine Eng.rS [.bool true] (fun _ => .plain) 1 0 s1 ?_ ?_
 ·refine .c ?_ (.nil)
  ·exact Eng.pv fun a w' H => Eng.vr rfl (Eng.run_assign rfl (rfl : a.eval (.const (.bool true)) = .bool true))
 intro act2 w2 T
 have h2_2 : act2.eval (.tmp 2) = .bool true := T.done 0 2 rfl rfl
 have d2 := T.e d1
 have bl2 := T.b bl1
 clear T
 refine Eng.tail_nil ?_
 refine wp_ret ?_
 repeat (first | refine Eng.in_ret ?_ | refine Eng.then_ret ?_)
 exact Eng.ret1 rfl d2 (h2_2.trans (by first | rfl | (rw [id]; done) | (rw [id]; rfl))) ⟨rfl, bl2⟩
set_option maxHeartbeats 4000000 in
set_option maxRecDepth 100000 in
theorem Evt.may71_calls (m : Int) (w : World) : Calls Tryd.prog 71 #[.int .i64 m] w fun e w' => e = .returned (.bool (Evt.even m)) ∧ Below w.heap.size w w' := by
 refine Eng.enter Tryd.func71 rfl fun act0 d0 s0 v0 => ?_
 have s0 : act0.tmps.size = 6 := s0
 have h0_0 : act0.eval (.tmp 0) = .int .i64 m := v0 0 (by simp)
 clear v0
 have bl0 : Below w.heap.size w w := Below.refl _ _
 refine wp_seq ?_
 refine Eng.rS [.bool false] (fun _ => .plain) 1 0 s0 ?_ ?_
 ·refine .c ?_ (.nil)
  ·exact Eng.pv fun a w' H => Eng.vr rfl (Eng.run_assign rfl (rfl : a.eval (.const (.bool false)) = .bool false))
 intro act1 w1 T
 have h0_1 := T.r1 h0_0
 have d1 := T.e d0
 have s1 := T.z s0
 have bl1 := T.b bl0
 clear T
 refine Eng.tail_nil ?_
 refine wp_seq ?_
 obtain ⟨q5, Bq5⟩ : ∃ b : Bool, b = ((Int.tmod m 2) == 0) := ⟨_, rfl⟩
 refine Eng.rS [.int .i64 m, .int .i64 (Int.tmod m 2), .bool q5, .bool q5] (fun _ => .plain) 4 0 s1 ?_ ?_
 ·refine .c ?_ (.c ?_ (.c ?_ (.c ?_ (.nil))))
  ·exact Eng.pv fun a w' H => Eng.vr rfl (Eng.run_move rfl (H.q 0 h0_1))
  ·refine Eng.pv fun a w' H => ?_
   refine Eng.vr (v := .int .i64 (Int.tmod m 2)) rfl ?_
   have e0 : a.eval (.tmp 3) = .int .i64 m := (H.d 0 3)
   have e1 : a.eval (.const (.int .i64 2)) = .int .i64 2 := rfl
   simp only [execOp, resolve, e0, e1]
   go_simp
   try rfl
  ·refine Eng.pv fun a w' H => ?_
   refine Eng.vr (v := .bool ((Int.tmod m 2) == 0)) (by show _ = Value.bool q5; rw [Bq5]) ?_
   have e0 : a.eval (.tmp 4) = .int .i64 (Int.tmod m 2) := (H.d 1 4)
   have e1 : a.eval (.const (.int .i64 0)) = .int .i64 0 := rfl
   simp only [execOp, resolve, e0, e1]
   go_simp
  exact Eng.pv fun a w' H => Eng.vr rfl (Eng.run_assign rfl (H.d 2 5))
 intro act2 w2 T
 have h2_2 : act2.eval (.tmp 2) = .bool q5 := T.done 3 2 rfl rfl
 have d2 := T.e d1
 have bl2 := T.b bl1
 clear T
 refine Eng.tail_nil ?_
 refine wp_ret ?_
 repeat (first | refine Eng.in_ret ?_ | refine Eng.then_ret ?_)
 exact Eng.ret1 rfl d2 (h2_2.trans (by first | rfl | (rw [Bq5]; done) | (rw [Bq5]; rfl))) ⟨rfl, bl2⟩
end Go.Proofs.YtgnmjaacnmkgnaaDoor.X
end
section
namespace Go.Proofs.YtgnmjaacnmkgnaaDoor.X
open Go.RowKit Go.Shelf Go.Proofs Go.Proofs.YtgnmjaacnmkgnaaDoorW.PrintWords Go.Proofs.YtgnmjaacnmkgnaaDoorW.PrintLast Go.Proofs.YtgnmjaacnmkgnaaDoorW.PrintMore
set_option linter.unusedVariables false
set_option linter.unusedSimpArgs false
attribute [local go_sem] max2_int min2_int max_two min_two
set_option maxHeartbeats 4000000 in
set_option maxRecDepth 100000 in
theorem Evt.pop_nilW (g : Nat) (o : Value) (k : Int) (ff : Nat) (fn : Func) (may : Int → Bool) (hff : Tryd.prog.funcs[ff]? = some fn) (hfn : (fn.name == "runtime.NumGoroutine") = false) (hfb : fn.body.isNone = false) (hmay : ∀ (m : Int) (w : World), Calls Tryd.prog ff #[.int .i64 m] w fun e w' => e = .returned (.bool (may m)) ∧ Below w.heap.size w w') (w W0 : World) (hB : Below w.heap.size w W0) (hlo : w.heap.size ≤ g) (hk : W0.heap[g]? = some (.cells #[o] 77 (0, 0))) (hO : W0.ownsRow w.heap.size 93 2 o 0 (Evt.opens [])) (hk0 : 0 ≤ k) : Calls Tryd.prog 68 #[.pointer (some ⟨g, 0, none⟩), .int .i64 k, .func (.func ff) #[] #[]] W0 fun e w' => e = .returned (.bool (Evt.pop [] k may).isSome) ∧ Below w.heap.size w w' ∧ ∀ st', Evt.pop [] k may = some st' → ∃ o', Evt.Is w.heap.size W0 g o st' w' o' := by
 refine Eng.enter Tryd.func68 rfl fun act0 d0 s0 v0 => ?_
 have s0 : act0.tmps.size = 39 := s0
 have h0_0 : act0.eval (.tmp 0) = .pointer (some ⟨g, 0, none⟩) := v0 0 (by simp)
 have h1_0 : act0.eval (.tmp 1) = .int .i64 k := v0 1 (by simp)
 have h2_0 : act0.eval (.tmp 2) = .func (.func ff) #[] #[] := v0 2 (by simp)
 clear v0
 refine wp_seq ?_
 refine Eng.rS [.bool false] (fun _ => .plain) 1 0 s0 ?_ ?_
 ·refine .c ?_ (.nil)
  ·exact Eng.pv fun a w' H => Eng.vr rfl (Eng.run_assign rfl (rfl : a.eval (.const (.bool false)) = .bool false))
 intro act1 w1 T
 have ⟨h0_1, h1_1, h2_1⟩ := T.r3 h0_0 h1_0 h2_0
 have kg_1 := (T.below.block _ (Array.getElem?_eq_some_iff.1 hk).1).trans hk
 have lg_1 := Nat.lt_of_lt_of_le (Array.getElem?_eq_some_iff.1 hk).1 T.below.size
 have Oo_1 := T.g hO
 have d1 := T.e d0
 have s1 := T.z s0
 have bl1 := hB.trans (T.below.mono hB.size)
 have XA_1 := Eng.Aft.step (Eng.Aft.refl (Eng.Nst g o) W0) T.below
 clear T
 refine Eng.tail_nil ?_
 refine wp_seq ?_
 refine wp_seq ?_
 refine (wpIn_wide (n := 1)).1 ?_
 refine EngI.regionS EngI.free_wide (Eng.still [fun u_ => u_ = .pointer (some ⟨g, 0, none⟩)]) (fun _ => .plain) 1 2 39 s1 rfl (by kernel_rfl) (Eng.still_stable _) (Or.inr (Eng.still_any _)) (by kernel_rfl) ?_ ?_
 ·refine .c ?_ (.cons (fun h => absurd h (by decide)) (.cons (fun h => absurd h (by decide)) (.nil)))
  ·exact Eng.pv fun a w' H => Eng.vr rfl (Eng.run_move rfl (H.q 0 h0_1))
 intro act2 w2 T
 have ⟨h1_2, h2_2⟩ := T.r2 h1_1 h2_1
 have kg_2 := T.x lg_1 kg_1
 have Oo_2 := T.g Oo_1
 have h8_2 : act2.eval (.tmp 8) = .pointer (some ⟨g, 0, none⟩) := T.done 0 8 rfl rfl
 have d2 := T.e d1
 have s2 := T.z s1
 have bl2 := T.b bl1
 have XA_2 := Eng.Aft.step XA_1 T.below
 clear T
 refine EngI.tail_call EngI.free_wide Tryd.func66 (by kernel_rfl) (by kernel_rfl) rfl rfl rfl rfl #[.pointer (some ⟨g, 0, none⟩)] (by have e0 : act2.eval (.tmp 8) = .pointer (some ⟨g, 0, none⟩) := h8_2; simp only [List.map_toArray, List.map_cons, List.map_nil, e0]) s2 rfl (R := fun v w' => ∃ h, v = .pointer (some ⟨h, 0, none⟩) ∧ w2.heap.size ≤ h ∧ h < w'.heap.size ∧ w'.heap[h]? = some (.cells #[.int .i64 (-1), .int .i64 0] 93 (0, 0)) ∧ Below w2.heap.size w2 w') ((Evt.last_nil g o w.heap.size _ kg_2 Oo_2).mono ?_) fun v_3 w3 act3 R d3 s3 h9_3 hr => ?_
 ·rintro e w1 ⟨h, rfl, h1⟩; exact ⟨_, rfl, h, rfl, h1⟩
 have ⟨h1_3, h2_3⟩ := Eng.k2 hr h1_2 h2_2
 have d3 := d3.trans d2
 clear hr
 obtain ⟨h3, ev_3, rg_3, lgh3, kgh3, b_3⟩ := R
 have nw3 : W0.heap.size ≤ h3 := Nat.le_trans XA_2.size rg_3
 have bl3 := bl2.trans (b_3.mono bl2.size)
 rw [ev_3] at h9_3
 refine EngI.tv rfl (Eng.run_assign rfl h9_3) s3 fun act4 d4 s4 h7_4 hr => ?_
 have ⟨h1_4, h2_4⟩ := Eng.k2 hr h1_3 h2_3
 have d4 := d4.trans d3
 clear hr
 refine EngI.tail_nil ?_
 refine wp_seq ?_
 obtain ⟨q15, Bq15⟩ : ∃ b : Bool, b = (!((-1) == k)) := ⟨_, rfl⟩
 obtain ⟨q22, Bq22⟩ : ∃ b : Bool, b = (may 0) := ⟨_, rfl⟩
 obtain ⟨q23, Bq23⟩ : ∃ b : Bool, b = (!q22) := ⟨_, rfl⟩
 obtain ⟨q24, Bq24⟩ : ∃ b : Bool, b = (q15 || q23) := ⟨_, rfl⟩
 refine Eng.rS [.pointer (some ⟨h3, 0, none⟩), .pointer (some ⟨h3, 0, none⟩), .pointer (some ⟨h3, 0, none⟩), .int .i64 (-1), .int .i64 k, .bool q15, .bool q15, bif (q15 == false) then (.func (.func ff) #[] #[]) else undef, bif (q15 == false) then (.pointer (some ⟨h3, 0, none⟩)) else undef, bif (q15 == false) then (.pointer (some ⟨h3, 0, none⟩)) else undef, bif (q15 == false) then (.pointer (some ⟨h3, 1, none⟩)) else undef, bif (q15 == false) then (.int .i64 0) else undef, bif (q15 == false) then (.bool q22) else undef, bif (q15 == false) then (.bool q23) else undef, .bool q24] (fun _ => .plain) 15 0 s4 ?_ ?_
 ·refine .c ?_ (.c ?_ (.c ?_ (.c ?_ (.c ?_ (.c ?_ (.c ?_ (.c ?_ (.c ?_ (.c ?_ (.c ?_ (.c ?_ (.c ?_ (.c ?_ (.c ?_ (.nil)))))))))))))))
  ·exact Eng.pv fun a w' H => Eng.vr rfl (Eng.run_move rfl (H.q 7 h7_4))
  ·exact Eng.pv fun a w' H => Eng.vr rfl (Eng.run_nilb rfl (H.d 0 10))
  ·exact Eng.pv fun a w' H => Eng.vr rfl (Eng.run_fieldb rfl Tryd.underlying93 0 (by kernel_rfl) (H.d 1 11))
  ·exact Eng.pv fun a w' H => Eng.vr rfl (Eng.run_loadb rfl (H.d 2 12) ((H.below.block _ lgh3).trans kgh3) rfl (by kernel_rfl))
  ·exact Eng.pv fun a w' H => Eng.vr rfl (Eng.run_move rfl (H.q 1 h1_4))
  ·refine Eng.pv fun a w' H => ?_
   refine Eng.vr (v := .bool (!((-1) == k))) (by show _ = Value.bool q15; rw [Bq15]) ?_
   have e0 : a.eval (.tmp 13) = .int .i64 (-1) := (H.d 3 13)
   have e1 : a.eval (.tmp 14) = .int .i64 k := (H.d 4 14)
   simp only [execOp, resolve, e0, e1]
   go_simp
   all_goals first | rfl | (simp; done) | (rw [Bool.eq_iff_iff]; simp; done) | omega | (split <;> first | (simp_all; done) | (split <;> simp_all; done)) | skip
  ·exact Eng.pv fun a w' H => Eng.vr rfl (Eng.run_move rfl (H.d 5 15))
  ·refine Eng.guarded1 (j := 6) (d := 16) (b := q15) rfl rfl (by kernel_rfl) rfl (fun v w h => h) (fun hG w => Eng.off hG) fun hG a w' H => ?_
   exact Eng.val (w1 := w') (v := .func (.func ff) #[] #[]) (Eng.run_move rfl (H.q 2 h2_4)) (Below.refl _ _) (Eng.off' hG rfl)
  ·refine Eng.guarded1 (j := 6) (d := 16) (b := q15) rfl rfl (by kernel_rfl) rfl (fun v w h => h) (fun hG w => Eng.off hG) fun hG a w' H => ?_
   exact Eng.val (w1 := w') (v := .pointer (some ⟨h3, 0, none⟩)) (Eng.run_move rfl (H.q 7 h7_4)) (Below.refl _ _) (Eng.off' hG rfl)
  ·refine Eng.guarded1 (j := 6) (d := 16) (b := q15) rfl rfl (by kernel_rfl) rfl (fun v w h => h) (fun hG w => Eng.off hG) fun hG a w' H => ?_
   exact Eng.val (w1 := w') (v := .pointer (some ⟨h3, 0, none⟩)) (Eng.run_nilb rfl (Eng.on (H.d 8 18) hG)) (Below.refl _ _) (Eng.off' hG rfl)
  ·refine Eng.guarded1 (j := 6) (d := 16) (b := q15) rfl rfl (by kernel_rfl) rfl (fun v w h => h) (fun hG w => Eng.off hG) fun hG a w' H => ?_
   exact Eng.val (w1 := w') (v := .pointer (some ⟨h3, 1, none⟩)) (Eng.run_fieldb rfl Tryd.underlying93 1 (by kernel_rfl) (Eng.on (H.d 9 19) hG)) (Below.refl _ _) (Eng.off' hG rfl)
  ·refine Eng.guarded1 (j := 6) (d := 16) (b := q15) rfl rfl (by kernel_rfl) rfl (fun v w h => h) (fun hG w => Eng.off hG) fun hG a w' H => ?_
   exact Eng.val (w1 := w') (v := .int .i64 0) (Eng.run_loadb rfl (Eng.on (H.d 10 20) hG) ((H.below.block _ lgh3).trans kgh3) rfl (by kernel_rfl)) (Below.refl _ _) (Eng.off' hG rfl)
  ·refine Eng.guarded1 (j := 6) (d := 16) (b := q15) rfl rfl (by kernel_rfl) rfl (fun v w h => h) (fun hG w => Eng.off hG) fun hG a w' H => ?_
   refine Eng.callv hff hfn hfb rfl (Eng.on (H.d 7 17) hG) #[.int .i64 0] ?_ ?_
   ·have e0 : a.eval (.tmp 21) = .int .i64 0 := (Eng.on (H.d 11 21) hG); simp only [List.map_toArray, List.map_cons, List.map_nil, e0]
   refine (hmay 0 _).mono ?_
   rintro e w'' ⟨rfl, hb⟩
   exact ⟨_, rfl, (Eng.off' hG (by rw [Bq22])), hb⟩
  ·refine Eng.guarded1 (j := 6) (d := 16) (b := q15) rfl rfl (by kernel_rfl) rfl (fun v w h => h) (fun hG w => Eng.off hG) fun hG a w' H => ?_
   exact Eng.val (w1 := w') (v := .bool (!q22)) (Eng.run_not rfl (Eng.on (H.d 12 22) hG)) (Below.refl _ _) (Eng.off' hG (by rw [Bq23]))
  exact Eng.pv fun a w' H => Eng.vr (v := .bool (q15 || q23)) (by show _ = Value.bool q24; rw [Bq24]) (Eng.run_or rfl rfl (G := true) (H.d 6 16) (fun hb => (Eng.on (H.d 13 23) (Eng.mk1 hb))))
 intro act5 w5 T
 have h24_5 : act5.eval (.tmp 24) = .bool q24 := T.done 14 24 rfl rfl
 have d5 := T.e d4
 have s5 := T.z s4
 have bl5 := T.b bl3
 clear T
 refine Eng.tail_nil ?_
 have n24 : q24 = true := by
  try simp only [Bq24, Bq23, Bq22, Bq15]
  rw [Bool.or_eq_true]; left; simp; omega
 refine wp_cond_true (h24_5.trans (by rw [n24])) ?_
 refine wp_seq ?_
 refine Eng.rS [.bool false] (fun _ => .plain) 1 0 s5 ?_ ?_
 ·refine .c ?_ (.nil)
  ·exact Eng.pv fun a w' H => Eng.vr rfl (Eng.run_assign rfl (rfl : a.eval (.const (.bool false)) = .bool false))
 intro act6 w6 T
 have h6_6 : act6.eval (.tmp 6) = .bool false := T.done 0 6 rfl rfl
 have d6 := T.e d5
 have bl6 := T.b bl5
 clear T
 refine Eng.tail_nil ?_
 refine wp_ret ?_
 repeat (first | refine Eng.in_ret ?_ | refine Eng.then_ret ?_)
 exact Eng.ret1 rfl d6 h6_6 ⟨rfl, bl6, fun st' h => nomatch h⟩
set_option maxHeartbeats 4000000 in
set_option maxRecDepth 100000 in
theorem Evt.pop_topW (g : Nat) (o : Value) (k : Int) (pre : List (Int × Int)) (t : Int × Int) (ff : Nat) (fn : Func) (may : Int → Bool) (hff : Tryd.prog.funcs[ff]? = some fn) (hfn : (fn.name == "runtime.NumGoroutine") = false) (hfb : fn.body.isNone = false) (hmay : ∀ (m : Int) (w : World), Calls Tryd.prog ff #[.int .i64 m] w fun e w' => e = .returned (.bool (may m)) ∧ Below w.heap.size w w') (w W0 : World) (hB : Below w.heap.size w W0) (hlo : w.heap.size ≤ g) (hk : W0.heap[g]? = some (.cells #[o] 77 (0, 0))) (hO : W0.ownsRow w.heap.size 93 2 o (pre ++ [t]).length (Evt.opens (pre ++ [t]))) : Calls Tryd.prog 68 #[.pointer (some ⟨g, 0, none⟩), .int .i64 k, .func (.func ff) #[] #[]] W0 fun e w' => e = .returned (.bool (Evt.pop (pre ++ [t]) k may).isSome) ∧ Below w.heap.size w w' ∧ ∀ st', Evt.pop (pre ++ [t]) k may = some st' → ∃ o', Evt.Is w.heap.size W0 g o st' w' o' := by
 have hm := Eng.Reads.len_le (Eng.Reads.of_own hO)
 rw [List.length_append] at hm
 have hm1 : pre.length + 1 ≤ 9223372036854775807 := hm
 refine Eng.enter Tryd.func68 rfl fun act0 d0 s0 v0 => ?_
 have s0 : act0.tmps.size = 39 := s0
 have h0_0 : act0.eval (.tmp 0) = .pointer (some ⟨g, 0, none⟩) := v0 0 (by simp)
 have h1_0 : act0.eval (.tmp 1) = .int .i64 k := v0 1 (by simp)
 have h2_0 : act0.eval (.tmp 2) = .func (.func ff) #[] #[] := v0 2 (by simp)
 clear v0
 refine wp_seq ?_
 refine Eng.rS [.bool false] (fun _ => .plain) 1 0 s0 ?_ ?_
 ·refine .c ?_ (.nil)
  ·exact Eng.pv fun a w' H => Eng.vr rfl (Eng.run_assign rfl (rfl : a.eval (.const (.bool false)) = .bool false))
 intro act1 w1 T
 have ⟨h0_1, h1_1, h2_1⟩ := T.r3 h0_0 h1_0 h2_0
 have kg_1 := (T.below.block _ (Array.getElem?_eq_some_iff.1 hk).1).trans hk
 have lg_1 := Nat.lt_of_lt_of_le (Array.getElem?_eq_some_iff.1 hk).1 T.below.size
 have Fo_1 := Eng.Reads.below (Eng.Reads.of_own hO) T.below
 have Oo_1 := T.g hO
 have d1 := T.e d0
 have s1 := T.z s0
 have bl1 := hB.trans (T.below.mono hB.size)
 have XA_1 := Eng.Aft.step (Eng.Aft.refl (Eng.Nst g o) W0) T.below
 clear T
 refine Eng.tail_nil ?_
 refine wp_seq ?_
 refine wp_seq ?_
 refine (wpIn_wide (n := 1)).1 ?_
 refine EngI.regionS EngI.free_wide (Eng.still [fun u_ => u_ = .pointer (some ⟨g, 0, none⟩)]) (fun _ => .plain) 1 2 39 s1 rfl (by kernel_rfl) (Eng.still_stable _) (Or.inr (Eng.still_any _)) (by kernel_rfl) ?_ ?_
 ·refine .c ?_ (.cons (fun h => absurd h (by decide)) (.cons (fun h => absurd h (by decide)) (.nil)))
  ·exact Eng.pv fun a w' H => Eng.vr rfl (Eng.run_move rfl (H.q 0 h0_1))
 intro act2 w2 T
 have ⟨h0_2, h1_2, h2_2⟩ := T.r3 h0_1 h1_1 h2_1
 have kg_2 := T.x lg_1 kg_1
 have lg_2 := T.l lg_1
 have Fo_2 := T.f Fo_1
 have Oo_2 := T.g Oo_1
 have h8_2 : act2.eval (.tmp 8) = .pointer (some ⟨g, 0, none⟩) := T.done 0 8 rfl rfl
 have d2 := T.e d1
 have s2 := T.z s1
 have bl2 := T.b bl1
 have XA_2 := Eng.Aft.step XA_1 T.below
 clear T
 refine EngI.tail_call EngI.free_wide Tryd.func66 (by kernel_rfl) (by kernel_rfl) rfl rfl rfl rfl #[.pointer (some ⟨g, 0, none⟩)] (by have e0 : act2.eval (.tmp 8) = .pointer (some ⟨g, 0, none⟩) := h8_2; simp only [List.map_toArray, List.map_cons, List.map_nil, e0]) s2 rfl (R := fun v w' => v = Eng.elemPtr o (pre.length * 2) ∧ Below w2.heap.size w2 w') ((Evt.last_top g o w.heap.size pre t _ kg_2 Oo_2).mono ?_) fun v_3 w3 act3 R d3 s3 h9_3 hr => ?_
 ·rintro e w1 ⟨rfl, h1⟩; exact ⟨_, rfl, rfl, h1⟩
 have ⟨h0_3, h1_3, h2_3⟩ := Eng.k3 hr h0_2 h1_2 h2_2
 have d3 := d3.trans d2
 clear hr
 obtain ⟨ev_3, b_3⟩ := R
 have kg_3 := (b_3.block _ lg_2).trans kg_2
 have lg_3 := Nat.lt_of_lt_of_le lg_2 b_3.size
 have Fo_3 := Eng.Reads.below Fo_2 b_3
 have Oo_3 := Eng.own_below Oo_2 b_3
 have XA_3 := Eng.Aft.step XA_2 b_3
 have bl3 := bl2.trans (b_3.mono bl2.size)
 rw [ev_3] at h9_3
 refine EngI.tv rfl (Eng.run_assign rfl h9_3) s3 fun act4 d4 s4 h7_4 hr => ?_
 have ⟨h0_4, h1_4, h2_4⟩ := Eng.k3 hr h0_3 h1_3 h2_3
 have d4 := d4.trans d3
 clear hr
 refine EngI.tail_nil ?_
 refine wp_seq ?_
 obtain ⟨q15, Bq15⟩ : ∃ b : Bool, b = (!(t.1 == k)) := ⟨_, rfl⟩
 obtain ⟨q22, Bq22⟩ : ∃ b : Bool, b = (may t.2) := ⟨_, rfl⟩
 obtain ⟨q23, Bq23⟩ : ∃ b : Bool, b = (!q22) := ⟨_, rfl⟩
 obtain ⟨q24, Bq24⟩ : ∃ b : Bool, b = (q15 || q23) := ⟨_, rfl⟩
 refine Eng.rS [Eng.elemPtr o (pre.length * 2), Eng.elemPtr o (pre.length * 2), Eng.elemPtr o (pre.length * 2 + 0), .int .i64 t.1, .int .i64 k, .bool q15, .bool q15, bif (q15 == false) then (.func (.func ff) #[] #[]) else undef, bif (q15 == false) then (Eng.elemPtr o (pre.length * 2)) else undef, bif (q15 == false) then (Eng.elemPtr o (pre.length * 2)) else undef, bif (q15 == false) then (Eng.elemPtr o (pre.length * 2 + 1)) else undef, bif (q15 == false) then (.int .i64 t.2) else undef, bif (q15 == false) then (.bool q22) else undef, bif (q15 == false) then (.bool q23) else undef, .bool q24] (fun _ => .plain) 15 0 s4 ?_ ?_
 ·refine .c ?_ (.c ?_ (.c ?_ (.c ?_ (.c ?_ (.c ?_ (.c ?_ (.c ?_ (.c ?_ (.c ?_ (.c ?_ (.c ?_ (.c ?_ (.c ?_ (.c ?_ (.nil)))))))))))))))
  ·exact Eng.pv fun a w' H => Eng.vr rfl (Eng.run_move rfl (H.q 7 h7_4))
  ·exact Eng.pv fun a w' H => Eng.vr (v := Eng.elemPtr o (pre.length * 2)) rfl (Eng.run_nil_el rfl (show a.eval (.tmp 10) = Eng.elemPtr o (pre.length * 2) from (H.d 0 10)) (Eng.Reads.below Fo_3 H.below) (by have h_ : pre.length < (pre ++ [t]).length := (by simp); omega))
  ·exact Eng.pv fun a w' H => Eng.vr (v := Eng.elemPtr o (pre.length * 2 + 0)) rfl (Eng.run_field_el rfl Tryd.underlying93 0 (by kernel_rfl) (show a.eval (.tmp 11) = Eng.elemPtr o (pre.length * 2) from (H.d 1 11)) (Eng.Reads.below Fo_3 H.below) (by have h_ : pre.length < (pre ++ [t]).length := (by simp); omega))
  ·exact Eng.pv fun a w' H => Eng.vr (v := .int .i64 t.1) rfl (Eng.run_load_el (.int .i64 t.1) rfl (show a.eval (.tmp 12) = Eng.elemPtr o (pre.length * 2 + 0) from (H.d 2 12)) (Eng.Reads.below Fo_3 H.below) (Evt.top_0 pre t) (by kernel_rfl))
  ·exact Eng.pv fun a w' H => Eng.vr rfl (Eng.run_move rfl (H.q 1 h1_4))
  ·refine Eng.pv fun a w' H => ?_
   refine Eng.vr (v := .bool (!(t.1 == k))) (by show _ = Value.bool q15; rw [Bq15]) ?_
   have e0 : a.eval (.tmp 13) = .int .i64 t.1 := (H.d 3 13)
   have e1 : a.eval (.tmp 14) = .int .i64 k := (H.d 4 14)
   simp only [execOp, resolve, e0, e1]
   go_simp
   all_goals first | rfl | (simp; done) | (rw [Bool.eq_iff_iff]; simp; done) | omega | (split <;> first | (simp_all; done) | (split <;> simp_all; done)) | skip
  ·exact Eng.pv fun a w' H => Eng.vr rfl (Eng.run_move rfl (H.d 5 15))
  ·refine Eng.guarded1 (j := 6) (d := 16) (b := q15) rfl rfl (by kernel_rfl) rfl (fun v w h => h) (fun hG w => Eng.off hG) fun hG a w' H => ?_
   exact Eng.val (w1 := w') (v := .func (.func ff) #[] #[]) (Eng.run_move rfl (H.q 2 h2_4)) (Below.refl _ _) (Eng.off' hG rfl)
  ·refine Eng.guarded1 (j := 6) (d := 16) (b := q15) rfl rfl (by kernel_rfl) rfl (fun v w h => h) (fun hG w => Eng.off hG) fun hG a w' H => ?_
   exact Eng.val (w1 := w') (v := Eng.elemPtr o (pre.length * 2)) (Eng.run_move rfl (H.q 7 h7_4)) (Below.refl _ _) (Eng.off' hG rfl)
  ·refine Eng.guarded1 (j := 6) (d := 16) (b := q15) rfl rfl (by kernel_rfl) rfl (fun v w h => h) (fun hG w => Eng.off hG) fun hG a w' H => ?_
   refine Eng.vr (v := Eng.elemPtr o (pre.length * 2)) (Eng.off' hG rfl) ?_
   exact Eng.run_nil_el rfl (show a.eval (.tmp 18) = Eng.elemPtr o (pre.length * 2) from (Eng.on (H.d 8 18) hG)) (Eng.Reads.below Fo_3 H.below) (by have h_ : pre.length < (pre ++ [t]).length := (by simp); omega)
  ·refine Eng.guarded1 (j := 6) (d := 16) (b := q15) rfl rfl (by kernel_rfl) rfl (fun v w h => h) (fun hG w => Eng.off hG) fun hG a w' H => ?_
   refine Eng.vr (v := Eng.elemPtr o (pre.length * 2 + 1)) (Eng.off' hG rfl) ?_
   exact Eng.run_field_el rfl Tryd.underlying93 1 (by kernel_rfl) (show a.eval (.tmp 19) = Eng.elemPtr o (pre.length * 2) from (Eng.on (H.d 9 19) hG)) (Eng.Reads.below Fo_3 H.below) (by have h_ : pre.length < (pre ++ [t]).length := (by simp); omega)
  ·refine Eng.guarded1 (j := 6) (d := 16) (b := q15) rfl rfl (by kernel_rfl) rfl (fun v w h => h) (fun hG w => Eng.off hG) fun hG a w' H => ?_
   refine Eng.vr (v := .int .i64 t.2) (Eng.off' hG rfl) ?_
   exact Eng.run_load_el (.int .i64 t.2) rfl (show a.eval (.tmp 20) = Eng.elemPtr o (pre.length * 2 + 1) from (Eng.on (H.d 10 20) hG)) (Eng.Reads.below Fo_3 H.below) (Evt.top_1 pre t) (by kernel_rfl)
  ·refine Eng.guarded1 (j := 6) (d := 16) (b := q15) rfl rfl (by kernel_rfl) rfl (fun v w h => h) (fun hG w => Eng.off hG) fun hG a w' H => ?_
   refine Eng.callv hff hfn hfb rfl (Eng.on (H.d 7 17) hG) #[.int .i64 t.2] ?_ ?_
   ·have e0 : a.eval (.tmp 21) = .int .i64 t.2 := (Eng.on (H.d 11 21) hG); simp only [List.map_toArray, List.map_cons, List.map_nil, e0]
   refine (hmay t.2 _).mono ?_
   rintro e w'' ⟨rfl, hb⟩
   exact ⟨_, rfl, (Eng.off' hG (by rw [Bq22])), hb⟩
  ·refine Eng.guarded1 (j := 6) (d := 16) (b := q15) rfl rfl (by kernel_rfl) rfl (fun v w h => h) (fun hG w => Eng.off hG) fun hG a w' H => ?_
   exact Eng.val (w1 := w') (v := .bool (!q22)) (Eng.run_not rfl (Eng.on (H.d 12 22) hG)) (Below.refl _ _) (Eng.off' hG (by rw [Bq23]))
  exact Eng.pv fun a w' H => Eng.vr (v := .bool (q15 || q23)) (by show _ = Value.bool q24; rw [Bq24]) (Eng.run_or rfl rfl (G := true) (H.d 6 16) (fun hb => (Eng.on (H.d 13 23) (Eng.mk1 hb))))
 intro act5 w5 T
 have h0_5 := T.r1 h0_4
 have kg_5 := T.x lg_3 kg_3
 have lg_5 := T.l lg_3
 have Fo_5 := T.f Fo_3
 have Oo_5 := T.g Oo_3
 have h24_5 : act5.eval (.tmp 24) = .bool q24 := T.done 14 24 rfl rfl
 have d5 := T.e d4
 have s5 := T.z s4
 have bl5 := T.b bl3
 have XA_5 := Eng.Aft.step XA_3 T.below
 clear T
 refine Eng.tail_nil ?_
 refine wp_cond_split h24_5 (fun hq => ?_) (fun hq => ?_)
 ·
  have c24 := Bq24.symm.trans hq
  clear hq
  have hc := c24
  refine wp_seq ?_
  refine Eng.rS [.bool false] (fun _ => .plain) 1 0 s5 ?_ ?_
  ·refine .c ?_ (.nil)
   ·exact Eng.pv fun a w' H => Eng.vr rfl (Eng.run_assign rfl (rfl : a.eval (.const (.bool false)) = .bool false))
  intro act7 w7 T
  have h6_7 : act7.eval (.tmp 6) = .bool false := T.done 0 6 rfl rfl
  have d7 := T.e d5
  have bl7 := T.b bl5
  clear T
  refine Eng.tail_nil ?_
  refine wp_ret ?_
  repeat (first | refine Eng.in_ret ?_ | refine Eng.then_ret ?_)
  have hn : Evt.pop (pre ++ [t]) k may = none := by rw [Evt.pop_snoc, if_neg]; intro h; obtain ⟨h1, h2⟩ := h; revert hc; simp only [Bq24, Bq23, Bq22, Bq15]; simp [h1, h2]
  exact Eng.ret1 rfl d7 h6_7 ⟨by rw [hn]; rfl, bl7, fun st' h => by rw [hn] at h; cases h⟩
 have c24 := Bq24.symm.trans hq
 clear hq
 have hc := c24
 refine wp_skip ?_
 refine wp_seq ?_
 refine Eng.rD [.pointer (some ⟨g, 0, none⟩), .pointer (some ⟨g, 0, none⟩), .pointer (some ⟨g, 0, none⟩), .pointer (some ⟨g, 0, none⟩), o, .pointer (some ⟨g, 0, none⟩), .pointer (some ⟨g, 0, none⟩), .pointer (some ⟨g, 0, none⟩), o, .int .i64 (((pre ++ [t]).length : Nat) : Int), .int .i64 (IntKind.i64.wrap ((((pre ++ [t]).length : Nat) : Int) - 1)), (Eng.cutVal o 0 pre.length 2), .pointer (some ⟨g, 0, none⟩), .pointer (some ⟨g, 0, none⟩)] (fun _ => .plain) 14 1 s5 ?_ ?_
 ·refine .c ?_ (.c ?_ (.c ?_ (.c ?_ (.c ?_ (.c ?_ (.c ?_ (.c ?_ (.c ?_ (.c ?_ (.c ?_ (.c ?_ (.c ?_ (.c ?_ (.cons (fun h => absurd h (by decide)) (.nil)))))))))))))))
  ·exact Eng.pv fun a w' H => Eng.vr rfl (Eng.run_move rfl (H.q 0 h0_5))
  ·exact Eng.pv fun a w' H => Eng.vr rfl (Eng.run_move rfl (H.q 0 h0_5))
  ·exact Eng.pv fun a w' H => Eng.vr rfl (Eng.run_nilb rfl (H.d 1 26))
  ·exact Eng.pv fun a w' H => Eng.vr rfl (Eng.run_fieldb rfl Tryd.underlying77 0 (by kernel_rfl) (H.d 2 27))
  ·exact Eng.pv fun a w' H => Eng.vr rfl (Eng.run_loadb rfl (H.d 3 28) ((H.below.block _ lg_5).trans kg_5) rfl (by kernel_rfl))
  ·exact Eng.pv fun a w' H => Eng.vr rfl (Eng.run_move rfl (H.q 0 h0_5))
  ·exact Eng.pv fun a w' H => Eng.vr rfl (Eng.run_nilb rfl (H.d 5 30))
  ·exact Eng.pv fun a w' H => Eng.vr rfl (Eng.run_fieldb rfl Tryd.underlying77 0 (by kernel_rfl) (H.d 6 31))
  ·exact Eng.pv fun a w' H => Eng.vr rfl (Eng.run_loadb rfl (H.d 7 32) ((H.below.block _ lg_5).trans kg_5) rfl (by kernel_rfl))
  ·exact Eng.pv fun a w' H => Eng.vr (v := .int .i64 (((pre ++ [t]).length : Nat) : Int)) rfl (Eng.run_len_sl rfl Tryd.underlying75 (show a.eval (.tmp 33) = o from (H.d 8 33)) (Eng.Reads.below Fo_5 H.below))
  ·refine Eng.pv fun a w' H => ?_
   refine Eng.vr (v := .int .i64 (IntKind.i64.wrap ((((pre ++ [t]).length : Nat) : Int) - 1))) rfl ?_
   have e0 : a.eval (.tmp 34) = .int .i64 (((pre ++ [t]).length : Nat) : Int) := (H.d 9 34)
   have e1 : a.eval (.const (.int .i64 1)) = .int .i64 1 := rfl
   simp only [execOp, resolve, e0, e1]
   go_simp
  ·exact Eng.pv fun a w' H => Eng.vr (v := (Eng.cutVal o 0 pre.length 2)) rfl (Eng.run_cutv (l := 0) (h := pre.length) (size := 2) rfl Tryd.underlying75 (by kernel_rfl) (show a.eval (.tmp 29) = o from (H.d 4 29)) (Eng.Reads.below Fo_5 H.below) rfl (congrArg some ((show a.eval (.tmp 35) = .int .i64 (IntKind.i64.wrap ((((pre ++ [t]).length : Nat) : Int) - 1)) from (H.d 10 35)).trans (congrArg (Value.int _) (show IntKind.i64.wrap ((((pre ++ [t]).length : Nat) : Int) - 1) = ((pre.length : Nat) : Int) from by exact Evt.last_ix pre t hm1)))) (Or.inl ⟨rfl, rfl⟩) (Or.inr ⟨_, rfl⟩) (by omega) (by first | omega | (simp; done) | (simp; omega)))
  ·exact Eng.pv fun a w' H => Eng.vr rfl (Eng.run_nilb rfl (H.d 0 25))
  exact Eng.pv fun a w' H => Eng.vr rfl (Eng.run_fieldb rfl Tryd.underlying77 0 (by kernel_rfl) (H.d 12 37))
 intro act9 w9 T
 have kg_9 := T.x lg_5 kg_5
 have lg_9 := T.l lg_5
 have Oo_9 := T.g Oo_5
 have h36_9 : act9.eval (.tmp 36) = (Eng.cutVal o 0 pre.length 2) := T.done 11 36 rfl rfl
 have h38_9 : act9.eval (.tmp 38) = .pointer (some ⟨g, 0, none⟩) := T.done 13 38 rfl rfl
 have d9 := T.e d5
 have s9 := T.z s5
 have bl9 := T.b bl5
 have XA_9 := Eng.Aft.step XA_5 T.below
 obtain ⟨cv9, hcv9⟩ : ∃ v, v = Eng.cutVal o 0 pre.length 2 := ⟨_, rfl⟩
 have Oc9 := Evt.own_popped Oo_9
 rw [← hcv9] at Oc9
 have hx9 := h36_9.trans hcv9.symm
 have Fc9 := Eng.Reads.of_own Oc9
 clear hcv9
 clear T
 refine Eng.tail_set (n := 0) (v := cv9) (new := #[cv9]) rfl rfl rfl kg_9 rfl ?_ fun w10 S => ?_
 ·have e0 : act9.eval (.tmp 38) = .pointer (some ⟨g, 0, none⟩) := h38_9
  have e1 : act9.eval (.tmp 36) = cv9 := hx9
  obtain ⟨A0_, c0_, ev0_⟩ := Eng.Reads.shape Fc9
  subst ev0_
  have z0 := (Eng.cells kg_9 (0)).trans (rfl)
  have f0 := Eng.unfrozen kg_9 (0)
  simp only [execOp]
  rw [e0, e1]
  go_simp
 have kg_10 := S.new
 have lg_10 := Nat.lt_of_lt_of_eq lg_9 S.size.symm
 have bl10 := S.below bl9 hlo
 have Opc_10 := Eng.own_sets Oc9 S kg_9 rfl
 have XA_10 := Eng.Aft.sets XA_9 S (fun _ => Or.inl rfl)
 clear S
 refine Eng.tail_nil ?_
 refine wp_seq ?_
 refine Eng.rS [.bool true] (fun _ => .plain) 1 0 s9 ?_ ?_
 ·refine .c ?_ (.nil)
  ·exact Eng.pv fun a w' H => Eng.vr rfl (Eng.run_assign rfl (rfl : a.eval (.const (.bool true)) = .bool true))
 intro act11 w11 T
 have kg_11 := T.x lg_10 kg_10
 have Opc_11 := T.g Opc_10
 have h6_11 : act11.eval (.tmp 6) = .bool true := T.done 0 6 rfl rfl
 have d11 := T.e d9
 have bl11 := T.b bl10
 have XA_11 := Eng.Aft.step XA_10 T.below
 clear T
 refine Eng.tail_nil ?_
 refine wp_ret ?_
 repeat (first | refine Eng.in_ret ?_ | refine Eng.then_ret ?_)
 have hn : Evt.pop (pre ++ [t]) k may = some pre := by rw [Evt.pop_snoc, if_pos]; revert hc; simp only [Bq24, Bq23, Bq22, Bq15]; simp
 exact Eng.ret1 rfl d11 h6_11 ⟨by rw [hn]; rfl, bl11, fun st' h => by rw [hn] at h; cases h; exact ⟨_, kg_11, Opc_11, XA_11⟩⟩
theorem Evt.pop69_nil (g : Nat) (o : Value) (k : Int) (w W0 : World) (hB : Below w.heap.size w W0) (hlo : w.heap.size ≤ g) (hk : W0.heap[g]? = some (.cells #[o] 77 (0, 0))) (hO : W0.ownsRow w.heap.size 93 2 o 0 (Evt.opens [])) (hk0 : 0 ≤ k) : Calls Tryd.prog 68 #[.pointer (some ⟨g, 0, none⟩), .int .i64 k, .func (.func 69) #[] #[]] W0 fun e w' => e = .returned (.bool (Evt.pop [] k (fun m => m == 1)).isSome) ∧ Below w.heap.size w w' ∧ ∀ st', Evt.pop [] k (fun m => m == 1) = some st' → ∃ o', Evt.Is w.heap.size W0 g o st' w' o' := Evt.pop_nilW g o k 69 Tryd.f69 (fun m => m == 1) Tryd.func69 (by kernel_rfl) (by kernel_rfl) (fun m w => Evt.may69_calls m w) w W0 hB hlo hk hO hk0
theorem Evt.pop69_top (g : Nat) (o : Value) (k : Int) (pre : List (Int × Int)) (t : Int × Int) (w W0 : World) (hB : Below w.heap.size w W0) (hlo : w.heap.size ≤ g) (hk : W0.heap[g]? = some (.cells #[o] 77 (0, 0))) (hO : W0.ownsRow w.heap.size 93 2 o (pre ++ [t]).length (Evt.opens (pre ++ [t]))) : Calls Tryd.prog 68 #[.pointer (some ⟨g, 0, none⟩), .int .i64 k, .func (.func 69) #[] #[]] W0 fun e w' => e = .returned (.bool (Evt.pop (pre ++ [t]) k (fun m => m == 1)).isSome) ∧ Below w.heap.size w w' ∧ ∀ st', Evt.pop (pre ++ [t]) k (fun m => m == 1) = some st' → ∃ o', Evt.Is w.heap.size W0 g o st' w' o' := Evt.pop_topW g o k pre t 69 Tryd.f69 (fun m => m == 1) Tryd.func69 (by kernel_rfl) (by kernel_rfl) (fun m w => Evt.may69_calls m w) w W0 hB hlo hk hO
theorem Evt.pop70_nil (g : Nat) (o : Value) (k : Int) (w W0 : World) (hB : Below w.heap.size w W0) (hlo : w.heap.size ≤ g) (hk : W0.heap[g]? = some (.cells #[o] 77 (0, 0))) (hO : W0.ownsRow w.heap.size 93 2 o 0 (Evt.opens [])) (hk0 : 0 ≤ k) : Calls Tryd.prog 68 #[.pointer (some ⟨g, 0, none⟩), .int .i64 k, .func (.func 70) #[] #[]] W0 fun e w' => e = .returned (.bool (Evt.pop [] k (fun _ => true)).isSome) ∧ Below w.heap.size w w' ∧ ∀ st', Evt.pop [] k (fun _ => true) = some st' → ∃ o', Evt.Is w.heap.size W0 g o st' w' o' := Evt.pop_nilW g o k 70 Tryd.f70 (fun _ => true) Tryd.func70 (by kernel_rfl) (by kernel_rfl) (fun m w => Evt.may70_calls m w) w W0 hB hlo hk hO hk0
theorem Evt.pop70_top (g : Nat) (o : Value) (k : Int) (pre : List (Int × Int)) (t : Int × Int) (w W0 : World) (hB : Below w.heap.size w W0) (hlo : w.heap.size ≤ g) (hk : W0.heap[g]? = some (.cells #[o] 77 (0, 0))) (hO : W0.ownsRow w.heap.size 93 2 o (pre ++ [t]).length (Evt.opens (pre ++ [t]))) : Calls Tryd.prog 68 #[.pointer (some ⟨g, 0, none⟩), .int .i64 k, .func (.func 70) #[] #[]] W0 fun e w' => e = .returned (.bool (Evt.pop (pre ++ [t]) k (fun _ => true)).isSome) ∧ Below w.heap.size w w' ∧ ∀ st', Evt.pop (pre ++ [t]) k (fun _ => true) = some st' → ∃ o', Evt.Is w.heap.size W0 g o st' w' o' := Evt.pop_topW g o k pre t 70 Tryd.f70 (fun _ => true) Tryd.func70 (by kernel_rfl) (by kernel_rfl) (fun m w => Evt.may70_calls m w) w W0 hB hlo hk hO
theorem Evt.pop71_nil (g : Nat) (o : Value) (k : Int) (w W0 : World) (hB : Below w.heap.size w W0) (hlo : w.heap.size ≤ g) (hk : W0.heap[g]? = some (.cells #[o] 77 (0, 0))) (hO : W0.ownsRow w.heap.size 93 2 o 0 (Evt.opens [])) (hk0 : 0 ≤ k) : Calls Tryd.prog 68 #[.pointer (some ⟨g, 0, none⟩), .int .i64 k, .func (.func 71) #[] #[]] W0 fun e w' => e = .returned (.bool (Evt.pop [] k Evt.even).isSome) ∧ Below w.heap.size w w' ∧ ∀ st', Evt.pop [] k Evt.even = some st' → ∃ o', Evt.Is w.heap.size W0 g o st' w' o' := Evt.pop_nilW g o k 71 Tryd.f71 Evt.even Tryd.func71 (by kernel_rfl) (by kernel_rfl) (fun m w => Evt.may71_calls m w) w W0 hB hlo hk hO hk0
theorem Evt.pop71_top (g : Nat) (o : Value) (k : Int) (pre : List (Int × Int)) (t : Int × Int) (w W0 : World) (hB : Below w.heap.size w W0) (hlo : w.heap.size ≤ g) (hk : W0.heap[g]? = some (.cells #[o] 77 (0, 0))) (hO : W0.ownsRow w.heap.size 93 2 o (pre ++ [t]).length (Evt.opens (pre ++ [t]))) : Calls Tryd.prog 68 #[.pointer (some ⟨g, 0, none⟩), .int .i64 k, .func (.func 71) #[] #[]] W0 fun e w' => e = .returned (.bool (Evt.pop (pre ++ [t]) k Evt.even).isSome) ∧ Below w.heap.size w w' ∧ ∀ st', Evt.pop (pre ++ [t]) k Evt.even = some st' → ∃ o', Evt.Is w.heap.size W0 g o st' w' o' := Evt.pop_topW g o k pre t 71 Tryd.f71 Evt.even Tryd.func71 (by kernel_rfl) (by kernel_rfl) (fun m w => Evt.may71_calls m w) w W0 hB hlo hk hO
end Go.Proofs.YtgnmjaacnmkgnaaDoor.X
end
section
namespace Go.Proofs.YtgnmjaacnmkgnaaDoor.X
open Go.RowKit Go.Shelf Go.Proofs Go.Proofs.YtgnmjaacnmkgnaaDoorW.PrintWords Go.Proofs.YtgnmjaacnmkgnaaDoorW.PrintLast Go.Proofs.YtgnmjaacnmkgnaaDoorW.PrintMore
set_option linter.unusedVariables false
set_option linter.unusedSimpArgs false
attribute [local go_sem] max2_int min2_int max_two min_two
set_option maxHeartbeats 4000000 in
set_option maxRecDepth 100000 in
theorem Evt.push_calls (g : Nat) (o : Value) (st : List (Int × Int)) (k : Int) (w W0 : World) (hB : Below w.heap.size w W0) (hlo : w.heap.size ≤ g) (hk : W0.heap[g]? = some (.cells #[o] 77 (0, 0))) (hO : W0.ownsRow w.heap.size 93 2 o st.length (Evt.opens st)) (hst : st.length ≤ 100000) : Calls Tryd.prog 67 #[.pointer (some ⟨g, 0, none⟩), .int .i64 k] W0 fun e w' => ∃ v o', e = .returned v ∧ Evt.Is w.heap.size W0 g o (st ++ [(k, 0)]) w' o' := by
 refine Eng.enter Tryd.func67 rfl fun act0 d0 s0 v0 => ?_
 have s0 : act0.tmps.size = 15 := s0
 have h0_0 : act0.eval (.tmp 0) = .pointer (some ⟨g, 0, none⟩) := v0 0 (by simp)
 have h1_0 : act0.eval (.tmp 1) = .int .i64 k := v0 1 (by simp)
 clear v0
 refine Eng.regionT (n := 12) rfl ?_
 refine Eng.tail_val rfl rfl rfl (Eng.run_move rfl h0_0) s0 rfl fun act1 d1 s1 h4_1 hr => ?_
 have ⟨h0_1, h1_1⟩ := Eng.k2 hr h0_0 h1_0
 have d1 := d1.trans d0
 clear hr
 refine Eng.tail_val rfl rfl rfl (Eng.run_move rfl h0_1) s1 rfl fun act2 d2 s2 h5_2 hr => ?_
 have ⟨h1_2, h4_2⟩ := Eng.k2 hr h1_1 h4_1
 have d2 := d2.trans d1
 clear hr
 refine Eng.tail_val (w1 := W0) (v := .pointer (some ⟨g, 0, none⟩)) rfl rfl rfl ?_ s2 rfl ?_
 ·exact Eng.run_nilb rfl h5_2
 intro act3 d3 s3 h6_3 hr
 have ⟨h1_3, h4_3⟩ := Eng.k2 hr h1_2 h4_2
 have d3 := d3.trans d2
 clear hr
 refine Eng.tail_val (w1 := W0) (v := .pointer (some ⟨g, 0, none⟩)) rfl rfl rfl ?_ s3 rfl ?_
 ·exact Eng.run_fieldb rfl Tryd.underlying77 0 (by kernel_rfl) h6_3
 intro act4 d4 s4 h7_4 hr
 have ⟨h1_4, h4_4⟩ := Eng.k2 hr h1_3 h4_3
 have d4 := d4.trans d3
 clear hr
 refine Eng.tail_val (w1 := W0) (v := o) rfl rfl rfl ?_ s4 rfl ?_
 ·exact Eng.run_loadb rfl h7_4 (((Below.refl _ _).block _ (Array.getElem?_eq_some_iff.1 hk).1).trans hk) rfl (by kernel_rfl)
 intro act5 d5 s5 h8_5 hr
 have ⟨h1_5, h4_5⟩ := Eng.k2 hr h1_4 h4_4
 have d5 := d5.trans d4
 clear hr
 refine Eng.tail_val rfl rfl rfl (Eng.run_move rfl h1_5) s5 rfl fun act6 d6 s6 h9_6 hr => ?_
 have ⟨h4_6, h8_6⟩ := Eng.k2 hr h4_5 h8_5
 have d6 := d6.trans d5
 clear hr
 refine Eng.tail_val (w1 := W0) (v := .agg #[.int .i64 k, .int .i64 0]) rfl rfl rfl ?_ s6 rfl ?_
 ·have e0 : act6.eval (.tmp 9) = .int .i64 k := h9_6
  simp only [execOp, resolve, List.map_toArray, List.map_cons, List.map_nil, e0]
  go_simp
 intro act7 d7 s7 h10_7 hr
 have ⟨h4_7, h8_7⟩ := Eng.k2 hr h4_6 h8_6
 have d7 := d7.trans d6
 clear hr
 refine Eng.tail_ex rfl rfl rfl (Eng.run_build1I (size := 2) (z := .agg #[.int .i64 0, .int .i64 0]) [.int .i64 k, .int .i64 0] rfl Tryd.underlying75 (by kernel_rfl) rfl rfl rfl (by kernel_rfl) (show act7.eval (.tmp 10) = .agg #[.int .i64 k, .int .i64 0] from h10_7)) s7 rfl fun v_8 w8 act8 R d8 s8 h11_8 hr => ?_
 obtain ⟨F_8, b_8⟩ := R
 have ⟨h4_8, h8_8⟩ := Eng.k2 hr h4_7 h8_7
 have d8 := d8.trans d7
 clear hr
 have kg_8 := (b_8.block _ (Array.getElem?_eq_some_iff.1 hk).1).trans hk
 have lg_8 := Nat.lt_of_lt_of_le (Array.getElem?_eq_some_iff.1 hk).1 b_8.size
 have Oo_8 := Eng.own_below hO b_8
 have XA_8 := Eng.Aft.step (Eng.Aft.refl (Eng.Nst g o) W0) b_8
 have bl8 := hB.trans (b_8.mono hB.size)
 refine Eng.tail_ex rfl rfl rfl (Eng.run_appendI (z := .agg #[.int .i64 0, .int .i64 0]) rfl Tryd.underlying75 (by kernel_rfl) rfl rfl h8_8 Oo_8 h11_8 F_8 (by intro u hu; simp only [List.mem_cons, List.not_mem_nil, or_false] at hu; rcases hu with rfl | rfl <;> rfl) (by omega) bl8.size) s8 rfl fun v_9 w9 act9 R d9 s9 h12_9 hr => ?_
 obtain ⟨O_9, _, b_9, G_9, EO_9⟩ := R
 have h4_9 := Eng.k1 hr h4_8
 have d9 := d9.trans d8
 clear hr
 have kg_9 := (G_9.block _ lg_8 (Eng.own_ne Oo_8 kg_8 rfl)).trans kg_8
 have XA_9 := Eng.Aft.grown XA_8 G_9 (fun b e _ => Or.inr e)
 have Oa9 : w9.ownsRow w.heap.size 93 2 v_9 (st ++ [(k, 0)]).length (Evt.opens (st ++ [(k, 0)])) := Evt.own_snoc O_9
 have Fa9 := Eng.Reads.of_own Oa9
 refine Eng.tail_val (w1 := w9) (v := .pointer (some ⟨g, 0, none⟩)) rfl rfl rfl ?_ s9 rfl ?_
 ·exact Eng.run_nilb rfl h4_9
 intro act10 d10 s10 h13_10 hr
 have h12_10 := Eng.k1 hr h12_9
 have d10 := d10.trans d9
 clear hr
 refine Eng.tail_val (w1 := w9) (v := .pointer (some ⟨g, 0, none⟩)) rfl rfl rfl ?_ s10 rfl ?_
 ·exact Eng.run_fieldb rfl Tryd.underlying77 0 (by kernel_rfl) h13_10
 intro act11 d11 s11 h14_11 hr
 have h12_11 := Eng.k1 hr h12_10
 have d11 := d11.trans d10
 clear hr
 refine Eng.tail_set (n := 0) (v := v_9) (new := #[v_9]) rfl rfl rfl kg_9 rfl ?_ fun w12 S => ?_
 ·have e0 : act11.eval (.tmp 14) = .pointer (some ⟨g, 0, none⟩) := h14_11
  have e1 : act11.eval (.tmp 12) = v_9 := h12_11
  obtain ⟨A0_, c0_, ev0_⟩ := Eng.Reads.shape Fa9
  subst ev0_
  have z0 := (Eng.cells kg_9 (0)).trans (rfl)
  have f0 := Eng.unfrozen kg_9 (0)
  simp only [execOp]
  rw [e0, e1]
  go_simp
 have kg_12 := S.new
 have Oa9_12 := Eng.own_sets Oa9 S kg_9 rfl
 have XA_12 := Eng.Aft.sets XA_9 S (fun _ => Or.inl rfl)
 clear S
 refine Eng.tail_nil ?_
 exact Eng.ret0 rfl d11 (fun v => ⟨v, v_9, rfl, kg_12, Oa9_12, XA_12⟩)
end Go.Proofs.YtgnmjaacnmkgnaaDoor.X
end
