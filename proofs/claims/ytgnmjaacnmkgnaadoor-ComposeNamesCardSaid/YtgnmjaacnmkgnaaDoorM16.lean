/- Words and walks that the row of ComposeNames needs: printed by programs, and plain laws. -/
import Derived.Test.YtgnmjaacnmkgnaaDoorM13
import Derived.Test.YtgnmjaacnmkgnaaDoorM14
import Derived.Test.YtgnmjaacnmkgnaaDoorM3
namespace Go.Proofs.YtgnmjaacnmkgnaaDoorW.PrintWords
end Go.Proofs.YtgnmjaacnmkgnaaDoorW.PrintWords
namespace Go.Proofs.YtgnmjaacnmkgnaaDoorW.PrintLast
end Go.Proofs.YtgnmjaacnmkgnaaDoorW.PrintLast
namespace Go.Proofs.YtgnmjaacnmkgnaaDoorW.PrintMore
end Go.Proofs.YtgnmjaacnmkgnaaDoorW.PrintMore
section
namespace Go.Proofs.YtgnmjaacnmkgnaaDoor.X
open Go.RowKit Go.Shelf Go.Proofs Go.Proofs.YtgnmjaacnmkgnaaDoorW.PrintWords Go.Proofs.YtgnmjaacnmkgnaaDoorW.PrintLast Go.Proofs.YtgnmjaacnmkgnaaDoorW.PrintMore
set_option linter.unusedVariables false
set_option linter.unusedSimpArgs false
attribute [local go_sem] max2_int min2_int max_two min_two
set_option maxHeartbeats 4000000 in
set_option maxRecDepth 100000 in
theorem Dc.twice_plain (B mb : Nat) (gv ov : Value) (h : List Dc.NV) (opn : List Int) (names : List (List UInt8 × Int)) (w : World) (hR : Dc.Rep B w h opn names gv ov mb) (hp : ∀ n ∈ h.map (·.1), n.kind ≠ 2) : Calls Tryd.prog 41 #[gv] w fun e w' => e = .returned (.bool false) ∧ Below w.heap.size w w' := by
 have hm := Eng.Reads.len_le (Eng.Reads.of_own hR.gr)
 refine Eng.enter Tryd.func41 rfl fun act0 d0 s0 v0 => ?_
 have s0 : act0.tmps.size = 67 := s0
 have h0_0 : act0.eval (.tmp 0) = gv := v0 0 (by simp)
 clear v0
 have bl0 : Below w.heap.size w w := Below.refl _ _
 refine wp_seq ?_
 refine Eng.regionS (Eng.still [fun u_ => u_ = .bool false]) (fun _ => .plain) 1 0 67 s0 rfl (by kernel_rfl) (Eng.still_stable _) (Or.inr (Eng.still_any _)) ?_ ?_
 ·refine .cons (fun _ => ?_) (.nil)
  ·exact Eng.plain rfl rfl fun a w' H => Eng.vr rfl (Eng.run_assign rfl (rfl : a.eval (.const (.bool false)) = .bool false))
 intro act1 w1 T
 have h0_1 := (T.rest 0 (by kernel_rfl)).trans h0_0
 have Fgr_1 := Eng.Reads.below (Eng.Reads.of_own hR.gr) T.below
 have d1 := T.defers.trans d0
 have s1 := T.size.trans s0
 have bl1 := bl0.trans (T.below.mono bl0.size)
 clear T
 refine Eng.tail_nil ?_
 refine wp_seq ?_
 refine wp_seq ?_
 refine Eng.regionS (Eng.still [fun u_ => u_ = gv, fun u_ => u_ = .int .i64 ((h.length : Nat) : Int), fun u_ => u_ = .int .i64 0]) (fun _ => .plain) 3 0 67 s1 rfl (by kernel_rfl) (Eng.still_stable _) (Or.inr (Eng.still_any _)) ?_ ?_
 ·refine .cons (fun _ => ?_) (.cons (fun _ => ?_) (.cons (fun _ => ?_) (.nil)))
  ·exact Eng.plain rfl rfl fun a w' H => Eng.vr rfl (Eng.run_move rfl ((H.kept 0 (by kernel_rfl)).trans h0_1))
  ·exact Eng.plain rfl rfl fun a w' H => Eng.vr (v := .int .i64 ((h.length : Nat) : Int)) rfl (Eng.run_len_sl rfl Tryd.underlying48 (show a.eval (.tmp 10) = gv from (H.dep 0 10 (by kernel_rfl) rfl)) (Eng.Reads.below Fgr_1 H.below))
  ·exact Eng.plain rfl rfl fun a w' H => Eng.vr rfl (Eng.run_move rfl (rfl : a.eval (.const (.int .i64 0)) = .int .i64 0))
 intro act2 w2 T
 have h0_2 := (T.rest 0 (by kernel_rfl)).trans h0_1
 have h10_2 : act2.eval (.tmp 10) = gv := T.done 0 10 rfl rfl
 have h11_2 : act2.eval (.tmp 11) = .int .i64 ((h.length : Nat) : Int) := T.done 1 11 rfl rfl
 have h12_2 : act2.eval (.tmp 12) = .int .i64 0 := T.done 2 12 rfl rfl
 have d2 := T.defers.trans d1
 have s2 := T.size.trans s1
 have bl2 := bl1.trans (T.below.mono bl1.size)
 clear T
 refine Eng.tail_nil ?_
 refine wp_block ?_
 refine Eng.loopN (fun n a w' => ∃ (k : Nat), h.length - k = n ∧ (k ≤ h.length) ∧ a.defers = [] ∧ a.tmps.size = 67 ∧ Below w.heap.size w w' ∧ a.eval (.tmp 0) = gv ∧ a.eval (.tmp 10) = gv ∧ a.eval (.tmp 11) = .int .i64 ((h.length : Nat) : Int) ∧ a.eval (.tmp 12) = .int .i64 (k : Nat)) (n0 := h.length - 0) ?_ ?_
 ·exact ⟨0, rfl, by omega, d2, s2, bl2, h0_2, h10_2, h11_2, (h12_2.trans (by first | rfl | (congr 1; rw [Eng.i64_id (by omega) (by omega)]; omega) | (simp; done)))⟩
 rintro n act3 w3 ⟨k, rfl, hc0_3, d3, s3, bl3, h0_3, h10_3, h11_3, h12_3⟩
 have Fgr_3 := Eng.Reads.below (Eng.Reads.of_own hR.gr) bl3
 have hk1 := hc0_3
 refine wp_seq ?_
 obtain ⟨q13, Bq13⟩ : ∃ b : Bool, b = (decide ((k : Nat) < ((h.length : Nat) : Int))) := ⟨_, rfl⟩
 refine Eng.regionS (Eng.still [fun u_ => u_ = .bool q13]) (fun _ => .plain) 1 0 67 s3 rfl (by kernel_rfl) (Eng.still_stable _) (Or.inr (Eng.still_any _)) ?_ ?_
 ·refine .cons (fun _ => ?_) (.nil)
  ·refine Eng.plain rfl rfl fun a w' H => ?_
   refine Eng.vr (v := .bool (decide ((k : Nat) < ((h.length : Nat) : Int)))) (by show _ = Value.bool q13; rw [Bq13]) ?_
   have e0 : a.eval (.tmp 12) = .int .i64 (k : Nat) := ((H.kept 12 (by kernel_rfl)).trans h12_3)
   have e1 : a.eval (.tmp 11) = .int .i64 ((h.length : Nat) : Int) := ((H.kept 11 (by kernel_rfl)).trans h11_3)
   simp only [execOp, resolve, List.map_toArray, List.map_cons, List.map_nil, e0, e1]
   go_simp
   all_goals first | rfl | (simp; done) | (rw [Bool.eq_iff_iff]; simp; done) | omega | (split <;> first | (simp_all; done) | (split <;> simp_all; done)) | skip
 intro act4 w4 T
 have h0_4 := (T.rest 0 (by kernel_rfl)).trans h0_3
 have h10_4 := (T.rest 10 (by kernel_rfl)).trans h10_3
 have h11_4 := (T.rest 11 (by kernel_rfl)).trans h11_3
 have h12_4 := (T.rest 12 (by kernel_rfl)).trans h12_3
 have Fgr_4 := Eng.Reads.below Fgr_3 T.below
 have h13_4 : act4.eval (.tmp 13) = .bool q13 := T.done 0 13 rfl rfl
 have d4 := T.defers.trans d3
 have s4 := T.size.trans s3
 have bl4 := bl3.trans (T.below.mono bl3.size)
 clear T
 refine Eng.tail_nil ?_
 refine wp_seq ?_
 refine wp_cond_split h13_4 (fun hq => ?_) (fun hq => ?_)
 ·
  have c13 := Bq13.symm.trans hq
  clear hq
  have c13 := of_decide_eq_true c13
  have hk0 : k < h.length := by omega
  have Fk0 := Eng.Reads.of_own (hR.ks k hk0)
  have hcell := Dc.cells_at h k hk0
  obtain ⟨kv, hkv⟩ : ∃ v, v = (h.getD k default).2 := ⟨_, rfl⟩
  rw [← hkv] at hcell Fk0
  clear hkv
  have Fkj6 := Eng.Reads.below Fk0 bl4
  refine wp_skip ?_
  refine wp_seq ?_
  refine wp_block ?_
  refine wp_seq ?_
  refine Eng.regionT (n := 4) rfl ?_
  refine Eng.tail_val (w1 := w4) (v := Eng.elemPtr gv (k * 4)) rfl rfl rfl ?_ s4 rfl ?_
  ·exact Eng.run_index_sl rfl Tryd.underlying48 (by kernel_rfl) (show act4.eval (.tmp 10) = gv from h10_4) ((show act4.eval (.tmp 12) = .int .i64 (k : Nat) from h12_4).trans (congrArg (Value.int _) (show (k : Nat) = ((k : Nat) : Int) from by omega))) Fgr_4 (by omega) rfl
  intro act7 d7 s7 hv hr
  have h0_7 := (hr 0 rfl).trans h0_4
  have h10_7 := (hr 10 rfl).trans h10_4
  have h11_7 := (hr 11 rfl).trans h11_4
  have h12_7 := (hr 12 rfl).trans h12_4
  have h14_7 : act7.eval (.tmp 14) = Eng.elemPtr gv (k * 4) := hv
  have d7 := d7.trans d4
  clear hv hr
  refine Eng.tail_val (w1 := w4) (v := .agg #[.int .i64 ((h.getD k default).1.kind), .string ((h.getD k default).1.tag), .string ((h.getD k default).1.text), kv]) rfl rfl rfl ?_ s7 rfl ?_
  ·exact Eng.run_load_els [.int .i64 ((h.getD k default).1.kind), .string ((h.getD k default).1.tag), .string ((h.getD k default).1.text), kv] rfl (show act7.eval (.tmp 14) = Eng.elemPtr gv (k * 4) from h14_7) Fgr_4 (hcell) rfl Tryd.underlying57 rfl (by kernel_rfl)
  intro act8 d8 s8 hv hr
  have h0_8 := (hr 0 rfl).trans h0_7
  have h10_8 := (hr 10 rfl).trans h10_7
  have h11_8 := (hr 11 rfl).trans h11_7
  have h12_8 := (hr 12 rfl).trans h12_7
  have h15_8 : act8.eval (.tmp 15) = .agg #[.int .i64 ((h.getD k default).1.kind), .string ((h.getD k default).1.tag), .string ((h.getD k default).1.text), kv] := hv
  have d8 := d8.trans d7
  clear hv hr
  refine Eng.tail_ex rfl rfl rfl (Eng.alloc_ex (cs := #[.int .i64 0, .string ⟨#[]⟩, .string ⟨#[]⟩, .slice none 0 0]) rfl (by kernel_rfl)) s8 rfl fun v_9 w9 act9 R d9 s9 hv hr => ?_
  obtain ⟨g4_9, ev_9, rg_9, lg4_9, kg4_9, b_9⟩ := R
  have h0_9 := (hr 0 rfl).trans h0_8
  have h10_9 := (hr 10 rfl).trans h10_8
  have h11_9 := (hr 11 rfl).trans h11_8
  have h12_9 := (hr 12 rfl).trans h12_8
  have h15_9 := (hr 15 rfl).trans h15_8
  have h4_9 : act9.eval (.tmp 4) = v_9 := hv
  have d9 := d9.trans d8
  clear hv hr
  have og4_9 : w.heap.size ≤ g4_9 := Nat.le_trans bl4.size rg_9
  have Fkj_9 := Eng.Reads.below Fkj6 b_9
  have bl9 := bl4.trans (b_9.mono bl4.size)
  rw [ev_9] at h4_9
  refine Eng.tail_put [.int .i64 ((h.getD k default).1.kind), .string ((h.getD k default).1.tag), .string ((h.getD k default).1.text), kv] (n := 0) (new := #[.int .i64 ((h.getD k default).1.kind), .string ((h.getD k default).1.tag), .string ((h.getD k default).1.text), kv]) rfl rfl rfl kg4_9 rfl ?_ fun w10 S => ?_
  ·have e0 : act9.eval (.tmp 4) = .pointer (some ⟨g4_9, 0, none⟩) := h4_9
   have e1 : act9.eval (.tmp 15) = .agg #[.int .i64 ((h.getD k default).1.kind), .string ((h.getD k default).1.tag), .string ((h.getD k default).1.text), kv] := h15_9
   obtain ⟨A3_, c3_, ev3_⟩ := Eng.Reads.shape Fkj_9
   subst ev3_
   have z0 := (Eng.cells kg4_9 (0)).trans (rfl)
   have f0 := Eng.unfrozen kg4_9 (0)
   have z1 := (Eng.cells kg4_9 (1)).trans (rfl)
   have f1 := Eng.unfrozen kg4_9 (1)
   have z2 := (Eng.cells kg4_9 (2)).trans (rfl)
   have f2 := Eng.unfrozen kg4_9 (2)
   have z3 := (Eng.cells kg4_9 (3)).trans (rfl)
   have f3 := Eng.unfrozen kg4_9 (3)
   simp only [execOp]
   rw [e0, e1]
   go_simp
   try rfl
  have kg4_9_10 := S.new
  have lg4_9_10 := Nat.lt_of_lt_of_eq lg4_9 S.size.symm
  have bl10 := S.below bl9 og4_9
  clear S
  refine Eng.tail_nil ?_
  refine wp_seq ?_
  refine wp_seq ?_
  obtain ⟨q18, Bq18⟩ : ∃ b : Bool, b = (!(((h.getD k default).1.kind) == 2)) := ⟨_, rfl⟩
  refine Eng.regionS (Eng.still [fun u_ => u_ = .pointer (some ⟨g4_9, 0, none⟩), fun u_ => u_ = .int .i64 ((h.getD k default).1.kind), fun u_ => u_ = .bool q18]) (fun _ => .plain) 3 0 67 s9 rfl (by kernel_rfl) (Eng.still_stable _) (Or.inr (Eng.still_any _)) ?_ ?_
  ·refine .cons (fun _ => ?_) (.cons (fun _ => ?_) (.cons (fun _ => ?_) (.nil)))
   ·exact Eng.plain rfl rfl fun a w' H => Eng.vr rfl (Eng.run_fieldb rfl Tryd.underlying57 0 (by kernel_rfl) ((H.kept 4 (by kernel_rfl)).trans h4_9))
   ·exact Eng.plain rfl rfl fun a w' H => Eng.vr rfl (Eng.run_loadb rfl (H.dep 0 16 (by kernel_rfl) rfl) ((H.below.block _ lg4_9_10).trans kg4_9_10) rfl (by kernel_rfl))
   ·refine Eng.plain rfl rfl fun a w' H => ?_
    refine Eng.vr (v := .bool (!(((h.getD k default).1.kind) == 2))) (by show _ = Value.bool q18; rw [Bq18]) ?_
    have e0 : a.eval (.tmp 17) = .int .i64 ((h.getD k default).1.kind) := (H.dep 1 17 (by kernel_rfl) rfl)
    have e1 : a.eval (.const (.int .i64 2)) = .int .i64 2 := (rfl : a.eval (.const (.int .i64 2)) = .int .i64 2)
    simp only [execOp, resolve, List.map_toArray, List.map_cons, List.map_nil, e0, e1]
    go_simp
    all_goals first | rfl | (simp; done) | (rw [Bool.eq_iff_iff]; simp; done) | omega | (split <;> first | (simp_all; done) | (split <;> simp_all; done)) | skip
  intro act11 w11 T
  have h0_11 := (T.rest 0 (by kernel_rfl)).trans h0_9
  have h10_11 := (T.rest 10 (by kernel_rfl)).trans h10_9
  have h11_11 := (T.rest 11 (by kernel_rfl)).trans h11_9
  have h12_11 := (T.rest 12 (by kernel_rfl)).trans h12_9
  have h18_11 : act11.eval (.tmp 18) = .bool q18 := T.done 2 18 rfl rfl
  have d11 := T.defers.trans d9
  have s11 := T.size.trans s9
  have bl11 := bl10.trans (T.below.mono bl10.size)
  clear T
  refine Eng.tail_nil ?_
  have n18 : q18 = true := by
   try simp only [Bq18, Bq13]
   have hne := Dc.plain_at hp hk0
   simpa using hne
  refine wp_cond_true (h18_11.trans (by rw [n18])) ?_
  refine wp_exit ?_
  refine Eng.regionS (Eng.still [fun u_ => u_ = .int .i64 (IntKind.i64.wrap ((k : Nat) + 1)), fun u_ => u_ = .int .i64 (IntKind.i64.wrap ((k : Nat) + 1))]) (fun _ => .plain) 2 0 67 s11 rfl (by kernel_rfl) (Eng.still_stable _) (Or.inr (Eng.still_any _)) ?_ ?_
  ·refine .cons (fun _ => ?_) (.cons (fun _ => ?_) (.nil))
   ·refine Eng.plain rfl rfl fun a w' H => ?_
    refine Eng.vr (v := .int .i64 (IntKind.i64.wrap ((k : Nat) + 1))) rfl ?_
    have e0 : a.eval (.tmp 12) = .int .i64 (k : Nat) := ((H.kept 12 (by kernel_rfl)).trans h12_11)
    have e1 : a.eval (.const (.int .i64 1)) = .int .i64 1 := (rfl : a.eval (.const (.int .i64 1)) = .int .i64 1)
    simp only [execOp, resolve, List.map_toArray, List.map_cons, List.map_nil, e0, e1]
    go_simp
    all_goals first | rfl | (simp; done) | (rw [Bool.eq_iff_iff]; simp; done) | omega | (split <;> first | (simp_all; done) | (split <;> simp_all; done)) | skip
   ·exact Eng.plain rfl rfl fun a w' H => Eng.vr rfl (Eng.run_move rfl (H.dep 0 66 (by kernel_rfl) rfl))
  intro act12 w12 T
  have h0_12 := (T.rest 0 (by kernel_rfl)).trans h0_11
  have h10_12 := (T.rest 10 (by kernel_rfl)).trans h10_11
  have h11_12 := (T.rest 11 (by kernel_rfl)).trans h11_11
  have h12_12 : act12.eval (.tmp 12) = .int .i64 (IntKind.i64.wrap ((k : Nat) + 1)) := T.done 1 12 rfl rfl
  have d12 := T.defers.trans d11
  have s12 := T.size.trans s11
  have bl12 := bl11.trans (T.below.mono bl11.size)
  clear T
  refine Eng.tail_nil ?_
  exact ⟨_, by omega, k + 1, rfl, by omega, d12, s12, bl12, h0_12, h10_12, h11_12, (h12_12.trans (by first | rfl | (congr 1; rw [Eng.i64_id (by omega) (by omega)]; omega) | (simp; done)))⟩
 ·
  have c13 := Bq13.symm.trans hq
  clear hq
  have c13 := of_decide_eq_false c13
  refine wp_exit ?_
  refine wp_seq ?_
  refine Eng.regionS (Eng.still [fun u_ => u_ = .bool false]) (fun _ => .plain) 1 0 67 s4 rfl (by kernel_rfl) (Eng.still_stable _) (Or.inr (Eng.still_any _)) ?_ ?_
  ·refine .cons (fun _ => ?_) (.nil)
   ·exact Eng.plain rfl rfl fun a w' H => Eng.vr rfl (Eng.run_assign rfl (rfl : a.eval (.const (.bool false)) = .bool false))
  intro act14 w14 T
  have h2_14 : act14.eval (.tmp 2) = .bool false := T.done 0 2 rfl rfl
  have d14 := T.defers.trans d4
  have bl14 := bl4.trans (T.below.mono bl4.size)
  clear T
  refine Eng.tail_nil ?_
  refine wp_ret ?_
  repeat (first | refine Eng.in_ret ?_ | refine Eng.then_ret ?_)
  exact Eng.ret1 rfl d14 h2_14 ⟨rfl, bl14⟩
end Go.Proofs.YtgnmjaacnmkgnaaDoor.X
end
section
namespace Go.Proofs.YtgnmjaacnmkgnaaDoor.X
open Go.RowKit Go.Shelf Go.Proofs Go.Maps Go.WideMaps
set_option linter.unusedVariables false
set_option linter.unusedSimpArgs false
namespace Dal
open Evt (Ev)
abbrev nb : ByteArray := ⟨#[]⟩
def l1 : List Ev := [⟨0, nb, nb, nb, false⟩, ⟨2, ⟨#[97]⟩, nb, nb, false⟩, ⟨7, ⟨#[97]⟩, nb, nb, false⟩, ⟨3, nb, nb, nb, false⟩, ⟨1, nb, nb, nb, false⟩]
def l2 : List Ev := [⟨0, nb, nb, nb, false⟩, ⟨2, ⟨#[97]⟩, nb, nb, false⟩, ⟨7, ⟨#[98]⟩, nb, nb, false⟩, ⟨3, nb, nb, nb, false⟩, ⟨1, nb, nb, nb, false⟩]
def nd : Dc.Nd := ⟨1, ⟨#[115, 101, 113]⟩, nb, [0]⟩
def x1 : Ev := ⟨6, nb, nb, ⟨#[53]⟩, true⟩
def x2 : Ev := ⟨6, nb, ⟨#[105, 110, 116]⟩, ⟨#[120]⟩, false⟩
set_option maxRecDepth 100000 in
theorem t1 : Evt.tagF x1 = (⟨#[105, 110, 116]⟩, 0) := by kernel_rfl
set_option maxRecDepth 100000 in
theorem t2 : Evt.tagF x2 = (⟨#[]⟩, 14) := by kernel_rfl
set_option maxRecDepth 100000 in
theorem g1 : Dc.graphsF l1 = ([[nd]], 0) := by kernel_rfl
set_option maxRecDepth 100000 in
theorem g2 : Dc.graphsF l2 = ([], 11) := by kernel_rfl
end Dal
end Go.Proofs.YtgnmjaacnmkgnaaDoor.X
end
section
namespace Go.Proofs.Eng
open Go Go.RowKit
variable {P : Program} {a : Act} {w : World} {o : Oper}
theorem build_own {B : Nat} {T e : TypeId} {n size : Nat} {parts : Array (Nat × Operand)} {z : Value} {us : List Value} (vs : List (Nat × Value)) (hop : o.op = .buildSlice T n parts) (hu : P.underlying T = some (.slice e)) (hI : (P.info? e).map (fun i => (i.size, decide (i.bytes ≤ 128), i.zero)) = some (size, true, some z))
    (hp : (parts.map fun (i, x) => (i, a.eval x)).toList = vs) (hl : us.length = n * size) (hf : Instr.fill (fun i => some (i * size, size)) ((Array.range (n * size)).map (z.cells[· % z.cells.size]!)) vs = some us.toArray) (h1 : (decide (0 < n * size)) = true) (h2 : (decide (n * size < 10000)) = true) (h3 : (decide (n < 10000)) = true) (hB : B ≤ w.heap.size) :
    ∃ v w', (execOp a.eval o).run P w = .ok (.value v) w' ∧ w'.ownsRow B e size v n us ∧ Below w.heap.size w w' := by
  obtain ⟨i, hi, hs, hb, hz⟩ := info_of hI
  have h1 := of_decide_eq_true h1
  have h2 := of_decide_eq_true h2
  have h3 := of_decide_eq_true h3
  subst hs
  have hr := run_buildSlice (P := P) w T e n (parts.map fun (i, x) => (i, a.eval x)) us.toArray i z hu hi hz (by omega) (by omega) (by rw [hp]; exact hf)
  refine ⟨_, _, ?_, ⟨hl, .inr ⟨w.heap.size, n, us.toArray, rfl, hB, ?_, Nat.le_refl _, by unfold maxLen; omega, by simpa using hl, by rw [← hl]; simp⟩⟩, (Below.refl _ _).alloc (Nat.le_refl _) (.cells us.toArray e)⟩
  · unfold execOp
    rw [hop]
    simp only [Sem.run_bind, hr, Result.andThen_ok]
    rfl
  · show (w.heap.push _)[w.heap.size]? = _; simp
end Go.Proofs.Eng
namespace Go.Proofs.YtgnmjaacnmkgnaaDoor.X
open Go.RowKit Go.Shelf Go.Proofs Go.Maps Go.WideMaps
set_option linter.unusedVariables false
set_option linter.unusedSimpArgs false
namespace Dal
open Evt (Ev)
theorem kept30 {w w' : World} {B B' : Nat} {e : TypeId} {size n n' : Nat} {v v' : Value} {xs xs' : List Value} (O : w.ownsRow B e size v n xs) (O' : w.ownsRow B' 30 5 v' n' xs') (hne : (e != 30) = true) (G : w.grownBy w' v'.ownBlock) : w'.ownsRow B e size v n xs :=
  Dc.kept_own (e' := 30) (size' := 5) (B' := B') (n' := n') (xs' := xs') O G (Dc.apart_ty O O' hne)
theorem twok_plain {nodes : List Dc.Nd} (h : ∀ n ∈ nodes, n.kind ≠ 2) : Dc.TwOK nodes := fun B w hh opn names gv ov mb hm R => by
  subst hm; rw [Dc.twiceF_plain h]; exact Dc.twice_plain B mb gv ov hh opn names w R h
theorem plain_of {nodes : List Dc.Nd} (h : (nodes.all fun n => !(n.kind == 2)) = true) : ∀ n ∈ nodes, n.kind ≠ 2 := fun n hn => by
  have := List.all_eq_true.1 h n hn; simpa using this
set_option maxRecDepth 100000 in
theorem tw1 : Dc.TwAll ⟨[], [], []⟩ l1 := by
  refine ⟨fun h => absurd h (by decide), fun h => absurd h (by decide), fun h => absurd h (by decide), fun h => absurd h (by decide), fun _ => twok_plain (plain_of ?_), trivial⟩
  kernel_rfl
set_option maxRecDepth 100000 in
theorem tw2 : Dc.TwAll ⟨[], [], []⟩ l2 := by
  refine ⟨fun h => absurd h (by decide), fun h => absurd h (by decide), fun h => absurd h (by decide), fun h => absurd h (by decide), fun _ => twok_plain (plain_of ?_), trivial⟩
  kernel_rfl
theorem sz1 : ∀ k, k < l1.length → (l1.getD k default).text.size ≤ 2000 := by decide
theorem sz2 : ∀ k, k < l2.length → (l2.getD k default).text.size ≤ 2000 := by decide
theorem az1 : ∀ k, k < l1.length → (l1.getD k default).anchor.size ≤ maxLen := by
  have : ∀ k, k < l1.length → (l1.getD k default).anchor.size ≤ 2000 := by decide
  intro k hk; have := this k hk; unfold maxLen; omega
theorem az2 : ∀ k, k < l2.length → (l2.getD k default).anchor.size ≤ maxLen := by
  have : ∀ k, k < l2.length → (l2.getD k default).anchor.size ≤ 2000 := by decide
  intro k hk; have := this k hk; unfold maxLen; omega
theorem tagc1 (w : World) : Calls Tryd.prog 10 #[.agg #[.int .i64 6, .string ⟨#[]⟩, .string ⟨#[]⟩, .string ⟨#[53]⟩, .bool true]] w fun e w' => e = .returned (.tuple #[.string ⟨#[105, 110, 116]⟩, .int .i64 0]) ∧ Below w.heap.size w w' := by
  have h := Evt.tag_calls x1 w (by decide); rw [t1] at h; exact h
theorem tagc2 (w : World) : Calls Tryd.prog 10 #[.agg #[.int .i64 6, .string ⟨#[]⟩, .string ⟨#[105, 110, 116]⟩, .string ⟨#[120]⟩, .bool false]] w fun e w' => e = .returned (.tuple #[.string ⟨#[]⟩, .int .i64 14]) ∧ Below w.heap.size w w' := by
  have h := Evt.tag_calls x2 w (by decide); rw [t2] at h; exact h
theorem fin_one {fin : List (List Dc.Nd × Value)} (h : List.map (·.1) fin = [[nd]]) : ∃ gv, fin = [([nd], gv)] := by
  cases fin with
  | nil => cases h
  | cons f t =>
    cases t with
    | nil => obtain ⟨a, gv⟩ := f; simp only [List.map_cons, List.map_nil, List.cons.injEq, and_true] at h; exact ⟨gv, by rw [h]⟩
    | cons g u => simp at h
theorem h_one {h : List Dc.NV} (hm : h.map (·.1) = [nd]) : ∃ kv, h = [(nd, kv)] := by
  cases h with
  | nil => cases hm
  | cons f t =>
    cases t with
    | nil => obtain ⟨a, kv⟩ := f; simp only [List.map_cons, List.map_nil, List.cons.injEq, and_true] at hm; exact ⟨kv, by rw [hm]⟩
    | cons g u => simp at hm
end Dal
end Go.Proofs.YtgnmjaacnmkgnaaDoor.X
end
section
namespace Go.Proofs.YtgnmjaacnmkgnaaDoor.X
open Go.RowKit Go.Shelf Go.Proofs Go.Proofs.YtgnmjaacnmkgnaaDoorW.PrintWords Go.Proofs.YtgnmjaacnmkgnaaDoorW.PrintLast Go.Proofs.YtgnmjaacnmkgnaaDoorW.PrintMore
set_option linter.unusedVariables false
set_option linter.unusedSimpArgs false
attribute [local go_sem] max2_int min2_int max_two min_two
set_option maxHeartbeats 4000000 in
set_option maxRecDepth 100000 in
theorem Dal.alive_calls  (w : World) (hT : Tabs.Holds w) : Calls Tryd.prog 8 #[] w fun e w' => e = .returned (.bool true) ∧ Below w.heap.size w w' := by
 refine Eng.enter Tryd.func8 rfl fun act0 d0 s0 v0 => ?_
 have s0 : act0.tmps.size = 99 := s0
 clear v0
 have bl0 : Below w.heap.size w w := Below.refl _ _
 refine wp_seq ?_
 refine Eng.rS [.bool false] (fun _ => .plain) 1 0 s0 ?_ ?_
 ·refine .c ?_ (.nil)
  ·exact Eng.pv fun a w' H => Eng.vr rfl (Eng.run_assign rfl (rfl : a.eval (.const (.bool false)) = .bool false))
 intro act1 w1 T
 have d1 := T.e d0
 have s1 := T.z s0
 have bl1 := T.b bl0
 clear T
 refine Eng.tail_nil ?_
 refine wp_seq ?_
 refine (wpIn_wide (n := 1)).1 ?_
 refine EngI.regionT (n := 7) rfl ?_
 refine EngI.tv (w1 := w1) (v := .agg #[.int .i64 0, .string ⟨#[]⟩, .string ⟨#[]⟩, .string ⟨#[]⟩, .bool false]) rfl ?_ s1 ?_
 ·have e0 : act1.eval (.const (.int .i64 0)) = .int .i64 0 := rfl
  simp only [execOp, resolve, e0]
  go_simp
 intro act2 d2 s2 h10_2 hr
 have d2 := d2.trans d1
 clear hr
 refine EngI.tv (w1 := w1) (v := .agg #[.int .i64 2, .string ⟨#[97]⟩, .string ⟨#[]⟩, .string ⟨#[]⟩, .bool false]) rfl ?_ s2 ?_
 ·have e0 : act2.eval (.const (.int .i64 2)) = .int .i64 2 := rfl
  have e1 : act2.eval (.const (.string ⟨#[97]⟩)) = .string ⟨#[97]⟩ := rfl
  simp only [execOp, resolve, e0, e1]
  go_simp
 intro act3 d3 s3 h11_3 hr
 have h10_3 := Eng.k1 hr h10_2
 have d3 := d3.trans d2
 clear hr
 refine EngI.tv (w1 := w1) (v := .agg #[.int .i64 7, .string ⟨#[97]⟩, .string ⟨#[]⟩, .string ⟨#[]⟩, .bool false]) rfl ?_ s3 ?_
 ·have e0 : act3.eval (.const (.int .i64 7)) = .int .i64 7 := rfl
  have e1 : act3.eval (.const (.string ⟨#[97]⟩)) = .string ⟨#[97]⟩ := rfl
  simp only [execOp, resolve, e0, e1]
  go_simp
 intro act4 d4 s4 h12_4 hr
 have ⟨h10_4, h11_4⟩ := Eng.k2 hr h10_3 h11_3
 have d4 := d4.trans d3
 clear hr
 refine EngI.tv (w1 := w1) (v := .agg #[.int .i64 3, .string ⟨#[]⟩, .string ⟨#[]⟩, .string ⟨#[]⟩, .bool false]) rfl ?_ s4 ?_
 ·have e0 : act4.eval (.const (.int .i64 3)) = .int .i64 3 := rfl
  simp only [execOp, resolve, e0]
  go_simp
 intro act5 d5 s5 h13_5 hr
 have ⟨h10_5, h11_5, h12_5⟩ := Eng.k3 hr h10_4 h11_4 h12_4
 have d5 := d5.trans d4
 clear hr
 refine EngI.tv (w1 := w1) (v := .agg #[.int .i64 1, .string ⟨#[]⟩, .string ⟨#[]⟩, .string ⟨#[]⟩, .bool false]) rfl ?_ s5 ?_
 ·have e0 : act5.eval (.const (.int .i64 1)) = .int .i64 1 := rfl
  simp only [execOp, resolve, e0]
  go_simp
 intro act6 d6 s6 h14_6 hr
 have ⟨h10_6, h11_6, h12_6, h13_6⟩ := Eng.k4 hr h10_5 h11_5 h12_5 h13_5
 have d6 := d6.trans d5
 clear hr
 refine EngI.tail_ex EngI.free_wide rfl rfl rfl rfl (Eng.build_own (B := w.heap.size) (size := 5) (z := .agg #[.int .i64 0, .string ⟨#[]⟩, .string ⟨#[]⟩, .string ⟨#[]⟩, .bool false]) (us := Evt.cells Dal.l1) [(0, .agg #[.int .i64 0, .string ⟨#[]⟩, .string ⟨#[]⟩, .string ⟨#[]⟩, .bool false]), (1, .agg #[.int .i64 2, .string ⟨#[97]⟩, .string ⟨#[]⟩, .string ⟨#[]⟩, .bool false]), (2, .agg #[.int .i64 7, .string ⟨#[97]⟩, .string ⟨#[]⟩, .string ⟨#[]⟩, .bool false]), (3, .agg #[.int .i64 3, .string ⟨#[]⟩, .string ⟨#[]⟩, .string ⟨#[]⟩, .bool false]), (4, .agg #[.int .i64 1, .string ⟨#[]⟩, .string ⟨#[]⟩, .string ⟨#[]⟩, .bool false])] rfl Tryd.underlying37 (by kernel_rfl) (by have e0 : act6.eval (.tmp 10) = .agg #[.int .i64 0, .string ⟨#[]⟩, .string ⟨#[]⟩, .string ⟨#[]⟩, .bool false] := h10_6; have e1 : act6.eval (.tmp 11) = .agg #[.int .i64 2, .string ⟨#[97]⟩, .string ⟨#[]⟩, .string ⟨#[]⟩, .bool false] := h11_6; have e2 : act6.eval (.tmp 12) = .agg #[.int .i64 7, .string ⟨#[97]⟩, .string ⟨#[]⟩, .string ⟨#[]⟩, .bool false] := h12_6; have e3 : act6.eval (.tmp 13) = .agg #[.int .i64 3, .string ⟨#[]⟩, .string ⟨#[]⟩, .string ⟨#[]⟩, .bool false] := h13_6; have e4 : act6.eval (.tmp 14) = .agg #[.int .i64 1, .string ⟨#[]⟩, .string ⟨#[]⟩, .string ⟨#[]⟩, .bool false] := h14_6; simp only [List.map_toArray, List.map_cons, List.map_nil, e0, e1, e2, e3, e4]) rfl (by kernel_rfl) rfl rfl rfl bl1.size) s6 rfl fun v_7 w7 act7 R d7 s7 h15_7 hr => ?_
 obtain ⟨O_7, b_7⟩ := R
 have d7 := d7.trans d6
 clear hr
 have bl7 := bl1.trans (b_7.mono bl1.size)
 have F_7 := Eng.Reads.of_own O_7
 refine EngI.tv rfl (Eng.run_assign rfl h15_7) s7 fun act8 d8 s8 h1_8 hr => ?_
 have d8 := d8.trans d7
 clear hr
 refine EngI.tail_nil ?_
 refine wp_seq ?_
 refine (wpIn_wide (n := 1)).1 ?_
 refine EngI.regionT (n := 7) rfl ?_
 refine EngI.tv rfl (Eng.run_move rfl h1_8) s8 fun act9 d9 s9 h17_9 hr => ?_
 have h1_9 := Eng.k1 hr h1_8
 have d9 := d9.trans d8
 clear hr
 refine EngI.tail_call EngI.free_wide Tryd.func12 (by kernel_rfl) (by kernel_rfl) rfl rfl rfl rfl #[v_7] (by have e0 : act9.eval (.tmp 17) = v_7 := h17_9; simp only [List.map_toArray, List.map_cons, List.map_nil, e0]) s9 rfl (R := fun v w' => ∃ outv fin, v = .tuple #[outv, .int .i64 (Dc.graphsF Dal.l1).2] ∧ List.map (·.1) fin = (Dc.graphsF Dal.l1).1 ∧ w'.ownsRow w7.heap.size 48 1 outv fin.length (List.map (·.2) fin) ∧ (∀ f ∈ fin, Dc.Fin w7 w' f (fun _ => False)) ∧ Below w7.heap.size w7 w') ((Dc.Graphs_calls v_7 Dal.l1 _ (Tabs.below hT bl7) F_7 (by decide) Dal.sz1 Dal.az1 Dal.tw1).mono ?_) fun v_10 w10 act10 R d10 s10 h18_10 hr => ?_
 ·rintro e w1 ⟨o1, f1, rfl, r1⟩; exact ⟨_, rfl, o1, f1, rfl, r1⟩
 have h1_10 := Eng.k1 hr h1_9
 have d10 := d10.trans d9
 clear hr
 obtain ⟨outv1, fin1, ev_10, hm10, Oo10, hF10, b_10⟩ := R
 rw [ev_10, Dal.g1] at h18_10
 rw [Dal.g1] at hm10
 obtain ⟨gv1, rfl⟩ := Dal.fin_one hm10
 obtain ⟨hh1, op1, nm1, ov1, mb1, hm1, R1, _⟩ := hF10 _ (List.mem_singleton.2 rfl)
 obtain ⟨kv1, rfl⟩ := Dal.h_one hm1
 have Oo1 : w10.ownsRow w7.heap.size 48 1 outv1 1 [gv1] := Oo10
 have Og1 : w10.ownsRow w7.heap.size 57 4 gv1 1 (Dc.cells [(Dal.nd, kv1)]) := R1.gr
 have Ok1 : w10.ownsRow w7.heap.size 3 1 kv1 1 (Dc.ints [0]) := R1.ks 0 (Nat.lt_succ_self 0)
 have Fl_10 := Eng.Reads.below F_7 b_10
 have Ol_10 := Eng.own_below O_7 b_10
 have bl10 := bl7.trans (b_10.mono bl7.size)
 refine EngI.tv rfl (Eng.run_move rfl h18_10) s10 fun act11 d11 s11 h16_11 hr => ?_
 have h1_11 := Eng.k1 hr h1_10
 have d11 := d11.trans d10
 clear hr
 refine EngI.tv (w1 := w10) (v := outv1) rfl ?_ s11 ?_
 ·have e0 : act11.eval (.tmp 16) = .tuple #[outv1, .int .i64 0] := h16_11
  simp only [execOp, resolve, e0]
  go_simp
 intro act12 d12 s12 h19_12 hr
 have ⟨h1_12, h16_12⟩ := Eng.k2 hr h1_11 h16_11
 have d12 := d12.trans d11
 clear hr
 refine EngI.tv (w1 := w10) (v := .int .i64 0) rfl ?_ s12 ?_
 ·have e0 : act12.eval (.tmp 16) = .tuple #[outv1, .int .i64 0] := h16_12
  simp only [execOp, resolve, e0]
  go_simp
 intro act13 d13 s13 h20_13 hr
 have ⟨h1_13, h19_13⟩ := Eng.k2 hr h1_12 h19_12
 have d13 := d13.trans d12
 clear hr
 refine EngI.tv rfl (Eng.run_assign rfl h19_13) s13 fun act14 d14 s14 h2_14 hr => ?_
 have ⟨h1_14, h20_14⟩ := Eng.k2 hr h1_13 h20_13
 have d14 := d14.trans d13
 clear hr
 refine EngI.tv rfl (Eng.run_assign rfl h20_14) s14 fun act15 d15 s15 h3_15 hr => ?_
 have ⟨h1_15, h2_15⟩ := Eng.k2 hr h1_14 h2_14
 have d15 := d15.trans d14
 clear hr
 refine EngI.tail_nil ?_
 refine wp_seq ?_
 refine (wpIn_wide (n := 1)).1 ?_
 refine EngI.regionT (n := 4) rfl ?_
 refine EngI.tv rfl (Eng.run_move rfl h1_15) s15 fun act16 d16 s16 h21_16 hr => ?_
 have ⟨h1_16, h2_16, h3_16⟩ := Eng.k3 hr h1_15 h2_15 h3_15
 have d16 := d16.trans d15
 clear hr
 refine EngI.tv (w1 := w10) (v := Eng.elemPtr v_7 (2 * 5)) rfl ?_ s16 ?_
 ·exact Eng.run_index_sl rfl Tryd.underlying37 (by kernel_rfl) (show act16.eval (.tmp 21) = v_7 from h21_16) ((show act16.eval (.const (.int .i64 2)) = .int .i64 2 from (rfl : act16.eval (.const (.int .i64 2)) = .int .i64 2)).trans (congrArg (Value.int _) (show 2 = ((2 : Nat) : Int) from by first | rfl | decide))) Fl_10 (by first | rfl | decide) rfl
 intro act17 d17 s17 h22_17 hr
 have ⟨h1_17, h2_17, h3_17⟩ := Eng.k3 hr h1_16 h2_16 h3_16
 have d17 := d17.trans d16
 clear hr
 refine EngI.tv (w1 := w10) (v := Eng.elemPtr v_7 (2 * 5 + 1)) rfl ?_ s17 ?_
 ·exact Eng.run_field_el rfl Tryd.underlying30 1 (by kernel_rfl) (show act17.eval (.tmp 22) = Eng.elemPtr v_7 (2 * 5) from h22_17) Fl_10 (by have h_ : 2 < 5 := (by first | rfl | decide); omega)
 intro act18 d18 s18 h23_18 hr
 have ⟨h1_18, h2_18, h3_18⟩ := Eng.k3 hr h1_17 h2_17 h3_17
 have d18 := d18.trans d17
 clear hr
 refine EngG.tail_exs EngI.free_wide rfl rfl rfl rfl (Eng.run_store_own (j := 2 * 5 + 1) (u := .string ⟨#[98]⟩) rfl (show act18.eval (.tmp 23) = Eng.elemPtr v_7 (2 * 5 + 1) from h23_18) (rfl : act18.eval (.const (.string ⟨#[98]⟩)) = .string ⟨#[98]⟩) Ol_10 (by have h_ : 2 < 5 := (by first | rfl | decide); omega) (by kernel_rfl) (by rfl)) fun w19 R => ?_
 obtain ⟨O_19, G_19⟩ := R
 have bl19 := bl10.grown G_19 bl10.size (fun j hj => (Eng.ownB Ol_10 hj.symm).1)
 have Oo1_19 := Dal.kept30 Oo1 Ol_10 rfl G_19
 have Fo1_19 := Eng.Reads.of_own Oo1_19
 have Og1_19 := Dal.kept30 Og1 Ol_10 rfl G_19
 have Fg1_19 := Eng.Reads.of_own Og1_19
 have Ok1_19 := Dal.kept30 Ok1 Ol_10 rfl G_19
 have Fk1_19 := Eng.Reads.of_own Ok1_19
 have Ol_19 : w19.ownsRow _ 30 5 v_7 5 (Evt.cells Dal.l2) := O_19
 have Fl_19 := Eng.Reads.of_own Ol_19
 refine EngI.tail_nil ?_
 refine wp_seq ?_
 refine (wpIn_wide (n := 1)).1 ?_
 refine EngI.regionT (n := 7) rfl ?_
 refine EngI.tv rfl (Eng.run_move rfl h1_18) s18 fun act20 d20 s20 h25_20 hr => ?_
 have ⟨h2_20, h3_20⟩ := Eng.k2 hr h2_18 h3_18
 have d20 := d20.trans d18
 clear hr
 refine EngI.tail_call EngI.free_wide Tryd.func12 (by kernel_rfl) (by kernel_rfl) rfl rfl rfl rfl #[v_7] (by have e0 : act20.eval (.tmp 25) = v_7 := h25_20; simp only [List.map_toArray, List.map_cons, List.map_nil, e0]) s20 rfl (R := fun v w' => ∃ outv fin, v = .tuple #[outv, .int .i64 (Dc.graphsF Dal.l2).2] ∧ List.map (·.1) fin = (Dc.graphsF Dal.l2).1 ∧ w'.ownsRow w19.heap.size 48 1 outv fin.length (List.map (·.2) fin) ∧ (∀ f ∈ fin, Dc.Fin w19 w' f (fun _ => False)) ∧ Below w19.heap.size w19 w') ((Dc.Graphs_calls v_7 Dal.l2 _ (Tabs.below hT bl19) Fl_19 (by decide) Dal.sz2 Dal.az2 Dal.tw2).mono ?_) fun v_21 w21 act21 R d21 s21 h26_21 hr => ?_
 ·rintro e w1 ⟨o1, f1, rfl, r1⟩; exact ⟨_, rfl, o1, f1, rfl, r1⟩
 have ⟨h2_21, h3_21⟩ := Eng.k2 hr h2_20 h3_20
 have d21 := d21.trans d20
 clear hr
 obtain ⟨outv2, fin2, ev_21, hm21, Oo21, hF21, b_21⟩ := R
 rw [ev_21, Dal.g2] at h26_21
 have Fo1_21 := Eng.Reads.below Fo1_19 b_21
 have Fg1_21 := Eng.Reads.below Fg1_19 b_21
 have Fk1_21 := Eng.Reads.below Fk1_19 b_21
 have bl21 := bl19.trans (b_21.mono bl19.size)
 refine EngI.tv rfl (Eng.run_move rfl h26_21) s21 fun act22 d22 s22 h24_22 hr => ?_
 have ⟨h2_22, h3_22⟩ := Eng.k2 hr h2_21 h3_21
 have d22 := d22.trans d21
 clear hr
 refine EngI.tv (w1 := w21) (v := outv2) rfl ?_ s22 ?_
 ·have e0 : act22.eval (.tmp 24) = .tuple #[outv2, .int .i64 11] := h24_22
  simp only [execOp, resolve, e0]
  go_simp
 intro act23 d23 s23 h27_23 hr
 have ⟨h2_23, h3_23, h24_23⟩ := Eng.k3 hr h2_22 h3_22 h24_22
 have d23 := d23.trans d22
 clear hr
 refine EngI.tv (w1 := w21) (v := .int .i64 11) rfl ?_ s23 ?_
 ·have e0 : act23.eval (.tmp 24) = .tuple #[outv2, .int .i64 11] := h24_23
  simp only [execOp, resolve, e0]
  go_simp
 intro act24 d24 s24 h28_24 hr
 have ⟨h2_24, h3_24, h27_24⟩ := Eng.k3 hr h2_23 h3_23 h27_23
 have d24 := d24.trans d23
 clear hr
 refine EngI.tv rfl (Eng.run_assign rfl h27_24) s24 fun act25 d25 s25 hv hr => ?_
 have ⟨h2_25, h3_25, h28_25⟩ := Eng.k3 hr h2_24 h3_24 h28_24
 have d25 := d25.trans d24
 clear hv hr
 refine EngI.tv rfl (Eng.run_assign rfl h28_25) s25 fun act26 d26 s26 h5_26 hr => ?_
 have ⟨h2_26, h3_26⟩ := Eng.k2 hr h2_25 h3_25
 have d26 := d26.trans d25
 clear hr
 refine EngI.tail_nil ?_
 refine wp_seq ?_
 refine (wpIn_wide (n := 1)).1 ?_
 refine EngI.regionT (n := 7) rfl ?_
 refine EngI.tv (w1 := w21) (v := .agg #[.int .i64 6, .string ⟨#[]⟩, .string ⟨#[]⟩, .string ⟨#[53]⟩, .bool true]) rfl ?_ s26 ?_
 ·have e0 : act26.eval (.const (.int .i64 6)) = .int .i64 6 := rfl
  have e1 : act26.eval (.const (.string ⟨#[53]⟩)) = .string ⟨#[53]⟩ := rfl
  have e2 : act26.eval (.const (.bool true)) = .bool true := rfl
  simp only [execOp, resolve, e0, e1, e2]
  go_simp
 intro act27 d27 s27 h30_27 hr
 have ⟨h2_27, h3_27, h5_27⟩ := Eng.k3 hr h2_26 h3_26 h5_26
 have d27 := d27.trans d26
 clear hr
 refine EngI.tail_call EngI.free_wide Tryd.func10 (by kernel_rfl) (by kernel_rfl) rfl rfl rfl rfl #[.agg #[.int .i64 6, .string ⟨#[]⟩, .string ⟨#[]⟩, .string ⟨#[53]⟩, .bool true]] (by have e0 : act27.eval (.tmp 30) = .agg #[.int .i64 6, .string ⟨#[]⟩, .string ⟨#[]⟩, .string ⟨#[53]⟩, .bool true] := h30_27; simp only [List.map_toArray, List.map_cons, List.map_nil, e0]) s27 rfl (R := fun v w_ => v = .tuple #[.string ⟨#[105, 110, 116]⟩, .int .i64 0] ∧ Below w21.heap.size w21 w_) ((Dal.tagc1 _).mono ?_) fun v_28 w28 act28 R d28 s28 hv hr => ?_
 ·rintro e w_ ⟨rfl, hb⟩; exact ⟨_, rfl, rfl, hb⟩
 obtain ⟨ev_28, b_28⟩ := R
 have ⟨h2_28, h3_28, h5_28⟩ := Eng.k3 hr h2_27 h3_27 h5_27
 have h31_28 : act28.eval (.tmp 31) = .tuple #[.string ⟨#[105, 110, 116]⟩, .int .i64 0] := (hv.trans ev_28)
 have d28 := d28.trans d27
 clear hv hr
 have Fo1_28 := Eng.Reads.below Fo1_21 b_28
 have Fg1_28 := Eng.Reads.below Fg1_21 b_28
 have Fk1_28 := Eng.Reads.below Fk1_21 b_28
 have bl28 := bl21.trans (b_28.mono bl21.size)
 refine EngI.tv rfl (Eng.run_move rfl h31_28) s28 fun act29 d29 s29 h29_29 hr => ?_
 have ⟨h2_29, h3_29, h5_29⟩ := Eng.k3 hr h2_28 h3_28 h5_28
 have d29 := d29.trans d28
 clear hr
 refine EngI.tv (w1 := w28) (v := .string ⟨#[105, 110, 116]⟩) rfl ?_ s29 ?_
 ·have e0 : act29.eval (.tmp 29) = .tuple #[.string ⟨#[105, 110, 116]⟩, .int .i64 0] := h29_29
  simp only [execOp, resolve, e0]
  go_simp
 intro act30 d30 s30 h32_30 hr
 have ⟨h2_30, h3_30, h5_30, h29_30⟩ := Eng.k4 hr h2_29 h3_29 h5_29 h29_29
 have d30 := d30.trans d29
 clear hr
 refine EngI.tv (w1 := w28) (v := .int .i64 0) rfl ?_ s30 ?_
 ·have e0 : act30.eval (.tmp 29) = .tuple #[.string ⟨#[105, 110, 116]⟩, .int .i64 0] := h29_30
  simp only [execOp, resolve, e0]
  go_simp
 intro act31 d31 s31 h33_31 hr
 have ⟨h2_31, h3_31, h5_31, h32_31⟩ := Eng.k4 hr h2_30 h3_30 h5_30 h32_30
 have d31 := d31.trans d30
 clear hr
 refine EngI.tv rfl (Eng.run_assign rfl h32_31) s31 fun act32 d32 s32 h6_32 hr => ?_
 have ⟨h2_32, h3_32, h5_32, h33_32⟩ := Eng.k4 hr h2_31 h3_31 h5_31 h33_31
 have d32 := d32.trans d31
 clear hr
 refine EngI.tv rfl (Eng.run_assign rfl h33_32) s32 fun act33 d33 s33 h7_33 hr => ?_
 have ⟨h2_33, h3_33, h5_33, h6_33⟩ := Eng.k4 hr h2_32 h3_32 h5_32 h6_32
 have d33 := d33.trans d32
 clear hr
 refine EngI.tail_nil ?_
 refine wp_seq ?_
 refine (wpIn_wide (n := 1)).1 ?_
 refine EngI.regionT (n := 7) rfl ?_
 refine EngI.tv (w1 := w28) (v := .agg #[.int .i64 6, .string ⟨#[]⟩, .string ⟨#[105, 110, 116]⟩, .string ⟨#[120]⟩, .bool false]) rfl ?_ s33 ?_
 ·have e0 : act33.eval (.const (.int .i64 6)) = .int .i64 6 := rfl
  have e1 : act33.eval (.const (.string ⟨#[105, 110, 116]⟩)) = .string ⟨#[105, 110, 116]⟩ := rfl
  have e2 : act33.eval (.const (.string ⟨#[120]⟩)) = .string ⟨#[120]⟩ := rfl
  simp only [execOp, resolve, e0, e1, e2]
  go_simp
 intro act34 d34 s34 h35_34 hr
 have ⟨h2_34, h3_34, h5_34, h6_34, h7_34⟩ := Eng.k5 hr h2_33 h3_33 h5_33 h6_33 h7_33
 have d34 := d34.trans d33
 clear hr
 refine EngI.tail_call EngI.free_wide Tryd.func10 (by kernel_rfl) (by kernel_rfl) rfl rfl rfl rfl #[.agg #[.int .i64 6, .string ⟨#[]⟩, .string ⟨#[105, 110, 116]⟩, .string ⟨#[120]⟩, .bool false]] (by have e0 : act34.eval (.tmp 35) = .agg #[.int .i64 6, .string ⟨#[]⟩, .string ⟨#[105, 110, 116]⟩, .string ⟨#[120]⟩, .bool false] := h35_34; simp only [List.map_toArray, List.map_cons, List.map_nil, e0]) s34 rfl (R := fun v w_ => v = .tuple #[.string ⟨#[]⟩, .int .i64 14] ∧ Below w28.heap.size w28 w_) ((Dal.tagc2 _).mono ?_) fun v_35 w35 act35 R d35 s35 hv hr => ?_
 ·rintro e w_ ⟨rfl, hb⟩; exact ⟨_, rfl, rfl, hb⟩
 obtain ⟨ev_35, b_35⟩ := R
 have ⟨h2_35, h3_35, h5_35, h6_35, h7_35⟩ := Eng.k5 hr h2_34 h3_34 h5_34 h6_34 h7_34
 have h36_35 : act35.eval (.tmp 36) = .tuple #[.string ⟨#[]⟩, .int .i64 14] := (hv.trans ev_35)
 have d35 := d35.trans d34
 clear hv hr
 have Fo1_35 := Eng.Reads.below Fo1_28 b_35
 have Fg1_35 := Eng.Reads.below Fg1_28 b_35
 have Fk1_35 := Eng.Reads.below Fk1_28 b_35
 have bl35 := bl28.trans (b_35.mono bl28.size)
 refine EngI.tv rfl (Eng.run_move rfl h36_35) s35 fun act36 d36 s36 h34_36 hr => ?_
 have ⟨h2_36, h3_36, h5_36, h6_36, h7_36⟩ := Eng.k5 hr h2_35 h3_35 h5_35 h6_35 h7_35
 have d36 := d36.trans d35
 clear hr
 refine EngI.tv (w1 := w35) (v := .string ⟨#[]⟩) rfl ?_ s36 ?_
 ·have e0 : act36.eval (.tmp 34) = .tuple #[.string ⟨#[]⟩, .int .i64 14] := h34_36
  simp only [execOp, resolve, e0]
  go_simp
 intro act37 d37 s37 h37_37 hr
 have ⟨h2_37, h3_37, h5_37, h6_37, h7_37, h34_37⟩ := Eng.k6 hr h2_36 h3_36 h5_36 h6_36 h7_36 h34_36
 have d37 := d37.trans d36
 clear hr
 refine EngI.tv (w1 := w35) (v := .int .i64 14) rfl ?_ s37 ?_
 ·have e0 : act37.eval (.tmp 34) = .tuple #[.string ⟨#[]⟩, .int .i64 14] := h34_37
  simp only [execOp, resolve, e0]
  go_simp
 intro act38 d38 s38 h38_38 hr
 have ⟨h2_38, h3_38, h5_38, h6_38, h7_38, h37_38⟩ := Eng.k6 hr h2_37 h3_37 h5_37 h6_37 h7_37 h37_37
 have d38 := d38.trans d37
 clear hr
 refine EngI.tv rfl (Eng.run_assign rfl h37_38) s38 fun act39 d39 s39 hv hr => ?_
 have ⟨h2_39, h3_39, h5_39, h6_39, h7_39, h38_39⟩ := Eng.k6 hr h2_38 h3_38 h5_38 h6_38 h7_38 h38_38
 have d39 := d39.trans d38
 clear hv hr
 refine EngI.tv rfl (Eng.run_assign rfl h38_39) s39 fun act40 d40 s40 h9_40 hr => ?_
 have ⟨h2_40, h3_40, h5_40, h6_40, h7_40⟩ := Eng.k5 hr h2_39 h3_39 h5_39 h6_39 h7_39
 have d40 := d40.trans d39
 clear hr
 refine EngI.tail_nil ?_
 refine wp_seq ?_
 refine Eng.rS [outv1, .int .i64 (1 : Int), .bool true, .bool true, outv1, Eng.elemPtr outv1 (0 * 1), gv1, .int .i64 (1 : Int), .bool true, .bool true, .bool true, outv1, Eng.elemPtr outv1 (0 * 1), gv1, Eng.elemPtr gv1 (0 * 4), Eng.elemPtr gv1 (0 * 4 + 3), kv1, .int .i64 (1 : Int), .bool true, .bool true, .bool true, outv1, Eng.elemPtr outv1 (0 * 1), gv1, Eng.elemPtr gv1 (0 * 4), Eng.elemPtr gv1 (0 * 4 + 3), kv1, Eng.elemPtr kv1 (0 * 1), .int .i64 0, .bool true, .bool true, .bool true, outv1, Eng.elemPtr outv1 (0 * 1), gv1, Eng.elemPtr gv1 (0 * 4), Eng.elemPtr gv1 (0 * 4 + 1), .string ⟨#[115, 101, 113]⟩, .bool true, .bool true, .bool true, .int .i64 0, .bool true, .bool true, .bool true, .int .i64 11, .bool true, .bool true, .bool true, .string ⟨#[105, 110, 116]⟩, .bool true, .bool true, .bool true, .int .i64 0, .bool true, .bool true, .bool true, .int .i64 14, .bool true, .bool true, .bool true] (fun _ => .plain) 61 0 s40 ?_ ?_
 ·refine .c ?_ (.c ?_ (.c ?_ (.c ?_ (.c ?_ (.c ?_ (.c ?_ (.c ?_ (.c ?_ (.c ?_ (.c ?_ (.c ?_ (.c ?_ (.c ?_ (.c ?_ (.c ?_ (.c ?_ (.c ?_ (.c ?_ (.c ?_ (.c ?_ (.c ?_ (.c ?_ (.c ?_ (.c ?_ (.c ?_ (.c ?_ (.c ?_ (.c ?_ (.c ?_ (.c ?_ (.c ?_ (.c ?_ (.c ?_ (.c ?_ (.c ?_ (.c ?_ (.c ?_ (.c ?_ (.c ?_ (.c ?_ (.c ?_ (.c ?_ (.c ?_ (.c ?_ (.c ?_ (.c ?_ (.c ?_ (.c ?_ (.c ?_ (.c ?_ (.c ?_ (.c ?_ (.c ?_ (.c ?_ (.c ?_ (.c ?_ (.c ?_ (.c ?_ (.c ?_ (.c ?_ (.nil)))))))))))))))))))))))))))))))))))))))))))))))))))))))))))))
  ·exact Eng.pv fun a w' H => Eng.vr rfl (Eng.run_move rfl (H.q 2 h2_40))
  ·exact Eng.pv fun a w' H => Eng.vr (v := .int .i64 (1 : Int)) rfl (Eng.run_len_sl rfl Tryd.underlying34 (show a.eval (.tmp 39) = outv1 from (H.d 0 39)) (Eng.Reads.below Fo1_35 H.below))
  ·refine Eng.pv fun a w' H => ?_
   refine Eng.vr (v := .bool ((1 : Int) == 1)) (by show _ = Value.bool true; rw [show ((1 : Int) == 1) = true from beq_self_eq_true _]) ?_
   have e0 : a.eval (.tmp 40) = .int .i64 (1 : Int) := (H.d 1 40)
   have e1 : a.eval (.const (.int .i64 1)) = .int .i64 1 := rfl
   simp only [execOp, resolve, e0, e1]
   go_simp
  ·exact Eng.pv fun a w' H => Eng.vr rfl (Eng.run_move rfl (H.d 2 41))
  ·refine Eng.guardedT (j := 3) (d := 42) rfl rfl (by kernel_rfl) rfl (fun v w h => h) fun a w' H => ?_
   exact Eng.val (w1 := w') (v := outv1) (Eng.run_move rfl (H.q 2 h2_40)) (Below.refl _ _) rfl
  ·refine Eng.guardedT (j := 3) (d := 42) rfl rfl (by kernel_rfl) rfl (fun v w h => h) fun a w' H => ?_
   refine Eng.vr (v := Eng.elemPtr outv1 (0 * 1)) rfl ?_
   exact Eng.run_index_sl rfl Tryd.underlying34 (by kernel_rfl) (show a.eval (.tmp 43) = outv1 from (H.d 4 43)) ((show a.eval (.const (.int .i64 0)) = .int .i64 0 from (rfl : a.eval (.const (.int .i64 0)) = .int .i64 0)).trans (congrArg (Value.int _) (show 0 = ((0 : Nat) : Int) from by first | rfl | decide))) (Eng.Reads.below Fo1_35 H.below) (by first | rfl | decide) rfl
  ·refine Eng.guardedT (j := 3) (d := 42) rfl rfl (by kernel_rfl) rfl (fun v w h => h) fun a w' H => ?_
   refine Eng.vr (v := gv1) rfl ?_
   exact Eng.run_load_el (gv1) rfl (show a.eval (.tmp 44) = Eng.elemPtr outv1 (0 * 1) from (H.d 5 44)) (Eng.Reads.below Fo1_35 H.below) (rfl) (by kernel_rfl)
  ·refine Eng.guardedT (j := 3) (d := 42) rfl rfl (by kernel_rfl) rfl (fun v w h => h) fun a w' H => ?_
   refine Eng.vr (v := .int .i64 (1 : Int)) rfl ?_
   exact Eng.run_len_sl rfl Tryd.underlying48 (show a.eval (.tmp 45) = gv1 from (H.d 6 45)) (Eng.Reads.below Fg1_35 H.below)
  ·refine Eng.guardedT (j := 3) (d := 42) rfl rfl (by kernel_rfl) rfl (fun v w h => h) fun a w' H => ?_
   refine Eng.vr (v := .bool ((1 : Int) == 1)) (by show _ = Value.bool true; rw [show ((1 : Int) == 1) = true from beq_self_eq_true _]) ?_
   have e0 : a.eval (.tmp 46) = .int .i64 (1 : Int) := (H.d 7 46)
   have e1 : a.eval (.const (.int .i64 1)) = .int .i64 1 := rfl
   simp only [execOp, resolve, e0, e1]
   go_simp
  ·exact Eng.pv fun a w' H => Eng.vr rfl (Eng.run_and rfl rfl (G := true) (H.d 3 42) (fun hb => (H.d 8 47)))
  ·exact Eng.pv fun a w' H => Eng.vr rfl (Eng.run_move rfl (H.d 9 48))
  ·refine Eng.guardedT (j := 10) (d := 49) rfl rfl (by kernel_rfl) rfl (fun v w h => h) fun a w' H => ?_
   exact Eng.val (w1 := w') (v := outv1) (Eng.run_move rfl (H.q 2 h2_40)) (Below.refl _ _) rfl
  ·refine Eng.guardedT (j := 10) (d := 49) rfl rfl (by kernel_rfl) rfl (fun v w h => h) fun a w' H => ?_
   refine Eng.vr (v := Eng.elemPtr outv1 (0 * 1)) rfl ?_
   exact Eng.run_index_sl rfl Tryd.underlying34 (by kernel_rfl) (show a.eval (.tmp 50) = outv1 from (H.d 11 50)) ((show a.eval (.const (.int .i64 0)) = .int .i64 0 from (rfl : a.eval (.const (.int .i64 0)) = .int .i64 0)).trans (congrArg (Value.int _) (show 0 = ((0 : Nat) : Int) from by first | rfl | decide))) (Eng.Reads.below Fo1_35 H.below) (by first | rfl | decide) rfl
  ·refine Eng.guardedT (j := 10) (d := 49) rfl rfl (by kernel_rfl) rfl (fun v w h => h) fun a w' H => ?_
   refine Eng.vr (v := gv1) rfl ?_
   exact Eng.run_load_el (gv1) rfl (show a.eval (.tmp 51) = Eng.elemPtr outv1 (0 * 1) from (H.d 12 51)) (Eng.Reads.below Fo1_35 H.below) (rfl) (by kernel_rfl)
  ·refine Eng.guardedT (j := 10) (d := 49) rfl rfl (by kernel_rfl) rfl (fun v w h => h) fun a w' H => ?_
   refine Eng.vr (v := Eng.elemPtr gv1 (0 * 4)) rfl ?_
   exact Eng.run_index_sl rfl Tryd.underlying48 (by kernel_rfl) (show a.eval (.tmp 52) = gv1 from (H.d 13 52)) ((show a.eval (.const (.int .i64 0)) = .int .i64 0 from (rfl : a.eval (.const (.int .i64 0)) = .int .i64 0)).trans (congrArg (Value.int _) (show 0 = ((0 : Nat) : Int) from by first | rfl | decide))) (Eng.Reads.below Fg1_35 H.below) (by first | rfl | decide) rfl
  ·refine Eng.guardedT (j := 10) (d := 49) rfl rfl (by kernel_rfl) rfl (fun v w h => h) fun a w' H => ?_
   refine Eng.vr (v := Eng.elemPtr gv1 (0 * 4 + 3)) rfl ?_
   exact Eng.run_field_el rfl Tryd.underlying57 3 (by kernel_rfl) (show a.eval (.tmp 53) = Eng.elemPtr gv1 (0 * 4) from (H.d 14 53)) (Eng.Reads.below Fg1_35 H.below) (by have h_ : 0 < 1 := (by first | rfl | decide); omega)
  ·refine Eng.guardedT (j := 10) (d := 49) rfl rfl (by kernel_rfl) rfl (fun v w h => h) fun a w' H => ?_
   refine Eng.vr (v := kv1) rfl ?_
   exact Eng.run_load_el (kv1) rfl (show a.eval (.tmp 54) = Eng.elemPtr gv1 (0 * 4 + 3) from (H.d 15 54)) (Eng.Reads.below Fg1_35 H.below) (rfl) (by kernel_rfl)
  ·refine Eng.guardedT (j := 10) (d := 49) rfl rfl (by kernel_rfl) rfl (fun v w h => h) fun a w' H => ?_
   refine Eng.vr (v := .int .i64 (1 : Int)) rfl ?_
   exact Eng.run_len_sl rfl Tryd.underlying55 (show a.eval (.tmp 55) = kv1 from (H.d 16 55)) (Eng.Reads.below Fk1_35 H.below)
  ·refine Eng.guardedT (j := 10) (d := 49) rfl rfl (by kernel_rfl) rfl (fun v w h => h) fun a w' H => ?_
   refine Eng.vr (v := .bool ((1 : Int) == 1)) (by show _ = Value.bool true; rw [show ((1 : Int) == 1) = true from beq_self_eq_true _]) ?_
   have e0 : a.eval (.tmp 56) = .int .i64 (1 : Int) := (H.d 17 56)
   have e1 : a.eval (.const (.int .i64 1)) = .int .i64 1 := rfl
   simp only [execOp, resolve, e0, e1]
   go_simp
  ·exact Eng.pv fun a w' H => Eng.vr rfl (Eng.run_and rfl rfl (G := true) (H.d 10 49) (fun hb => (H.d 18 57)))
  ·exact Eng.pv fun a w' H => Eng.vr rfl (Eng.run_move rfl (H.d 19 58))
  ·refine Eng.guardedT (j := 20) (d := 59) rfl rfl (by kernel_rfl) rfl (fun v w h => h) fun a w' H => ?_
   exact Eng.val (w1 := w') (v := outv1) (Eng.run_move rfl (H.q 2 h2_40)) (Below.refl _ _) rfl
  ·refine Eng.guardedT (j := 20) (d := 59) rfl rfl (by kernel_rfl) rfl (fun v w h => h) fun a w' H => ?_
   refine Eng.vr (v := Eng.elemPtr outv1 (0 * 1)) rfl ?_
   exact Eng.run_index_sl rfl Tryd.underlying34 (by kernel_rfl) (show a.eval (.tmp 60) = outv1 from (H.d 21 60)) ((show a.eval (.const (.int .i64 0)) = .int .i64 0 from (rfl : a.eval (.const (.int .i64 0)) = .int .i64 0)).trans (congrArg (Value.int _) (show 0 = ((0 : Nat) : Int) from by first | rfl | decide))) (Eng.Reads.below Fo1_35 H.below) (by first | rfl | decide) rfl
  ·refine Eng.guardedT (j := 20) (d := 59) rfl rfl (by kernel_rfl) rfl (fun v w h => h) fun a w' H => ?_
   refine Eng.vr (v := gv1) rfl ?_
   exact Eng.run_load_el (gv1) rfl (show a.eval (.tmp 61) = Eng.elemPtr outv1 (0 * 1) from (H.d 22 61)) (Eng.Reads.below Fo1_35 H.below) (rfl) (by kernel_rfl)
  ·refine Eng.guardedT (j := 20) (d := 59) rfl rfl (by kernel_rfl) rfl (fun v w h => h) fun a w' H => ?_
   refine Eng.vr (v := Eng.elemPtr gv1 (0 * 4)) rfl ?_
   exact Eng.run_index_sl rfl Tryd.underlying48 (by kernel_rfl) (show a.eval (.tmp 62) = gv1 from (H.d 23 62)) ((show a.eval (.const (.int .i64 0)) = .int .i64 0 from (rfl : a.eval (.const (.int .i64 0)) = .int .i64 0)).trans (congrArg (Value.int _) (show 0 = ((0 : Nat) : Int) from by first | rfl | decide))) (Eng.Reads.below Fg1_35 H.below) (by first | rfl | decide) rfl
  ·refine Eng.guardedT (j := 20) (d := 59) rfl rfl (by kernel_rfl) rfl (fun v w h => h) fun a w' H => ?_
   refine Eng.vr (v := Eng.elemPtr gv1 (0 * 4 + 3)) rfl ?_
   exact Eng.run_field_el rfl Tryd.underlying57 3 (by kernel_rfl) (show a.eval (.tmp 63) = Eng.elemPtr gv1 (0 * 4) from (H.d 24 63)) (Eng.Reads.below Fg1_35 H.below) (by have h_ : 0 < 1 := (by first | rfl | decide); omega)
  ·refine Eng.guardedT (j := 20) (d := 59) rfl rfl (by kernel_rfl) rfl (fun v w h => h) fun a w' H => ?_
   refine Eng.vr (v := kv1) rfl ?_
   exact Eng.run_load_el (kv1) rfl (show a.eval (.tmp 64) = Eng.elemPtr gv1 (0 * 4 + 3) from (H.d 25 64)) (Eng.Reads.below Fg1_35 H.below) (rfl) (by kernel_rfl)
  ·refine Eng.guardedT (j := 20) (d := 59) rfl rfl (by kernel_rfl) rfl (fun v w h => h) fun a w' H => ?_
   refine Eng.vr (v := Eng.elemPtr kv1 (0 * 1)) rfl ?_
   exact Eng.run_index_sl rfl Tryd.underlying55 (by kernel_rfl) (show a.eval (.tmp 65) = kv1 from (H.d 26 65)) ((show a.eval (.const (.int .i64 0)) = .int .i64 0 from (rfl : a.eval (.const (.int .i64 0)) = .int .i64 0)).trans (congrArg (Value.int _) (show 0 = ((0 : Nat) : Int) from by first | rfl | decide))) (Eng.Reads.below Fk1_35 H.below) (by first | rfl | decide) rfl
  ·refine Eng.guardedT (j := 20) (d := 59) rfl rfl (by kernel_rfl) rfl (fun v w h => h) fun a w' H => ?_
   refine Eng.vr (v := .int .i64 0) rfl ?_
   exact Eng.run_load_el (.int .i64 0) rfl (show a.eval (.tmp 66) = Eng.elemPtr kv1 (0 * 1) from (H.d 27 66)) (Eng.Reads.below Fk1_35 H.below) (rfl) (by kernel_rfl)
  ·refine Eng.guardedT (j := 20) (d := 59) rfl rfl (by kernel_rfl) rfl (fun v w h => h) fun a w' H => ?_
   refine Eng.vr (v := .bool (0 == 0)) (by show _ = Value.bool true; rw [show (0 == 0) = true from beq_self_eq_true _]) ?_
   have e0 : a.eval (.tmp 67) = .int .i64 0 := (H.d 28 67)
   have e1 : a.eval (.const (.int .i64 0)) = .int .i64 0 := rfl
   simp only [execOp, resolve, e0, e1]
   go_simp
  ·exact Eng.pv fun a w' H => Eng.vr rfl (Eng.run_and rfl rfl (G := true) (H.d 20 59) (fun hb => (H.d 29 68)))
  ·exact Eng.pv fun a w' H => Eng.vr rfl (Eng.run_move rfl (H.d 30 69))
  ·refine Eng.guardedT (j := 31) (d := 70) rfl rfl (by kernel_rfl) rfl (fun v w h => h) fun a w' H => ?_
   exact Eng.val (w1 := w') (v := outv1) (Eng.run_move rfl (H.q 2 h2_40)) (Below.refl _ _) rfl
  ·refine Eng.guardedT (j := 31) (d := 70) rfl rfl (by kernel_rfl) rfl (fun v w h => h) fun a w' H => ?_
   refine Eng.vr (v := Eng.elemPtr outv1 (0 * 1)) rfl ?_
   exact Eng.run_index_sl rfl Tryd.underlying34 (by kernel_rfl) (show a.eval (.tmp 71) = outv1 from (H.d 32 71)) ((show a.eval (.const (.int .i64 0)) = .int .i64 0 from (rfl : a.eval (.const (.int .i64 0)) = .int .i64 0)).trans (congrArg (Value.int _) (show 0 = ((0 : Nat) : Int) from by first | rfl | decide))) (Eng.Reads.below Fo1_35 H.below) (by first | rfl | decide) rfl
  ·refine Eng.guardedT (j := 31) (d := 70) rfl rfl (by kernel_rfl) rfl (fun v w h => h) fun a w' H => ?_
   refine Eng.vr (v := gv1) rfl ?_
   exact Eng.run_load_el (gv1) rfl (show a.eval (.tmp 72) = Eng.elemPtr outv1 (0 * 1) from (H.d 33 72)) (Eng.Reads.below Fo1_35 H.below) (rfl) (by kernel_rfl)
  ·refine Eng.guardedT (j := 31) (d := 70) rfl rfl (by kernel_rfl) rfl (fun v w h => h) fun a w' H => ?_
   refine Eng.vr (v := Eng.elemPtr gv1 (0 * 4)) rfl ?_
   exact Eng.run_index_sl rfl Tryd.underlying48 (by kernel_rfl) (show a.eval (.tmp 73) = gv1 from (H.d 34 73)) ((show a.eval (.const (.int .i64 0)) = .int .i64 0 from (rfl : a.eval (.const (.int .i64 0)) = .int .i64 0)).trans (congrArg (Value.int _) (show 0 = ((0 : Nat) : Int) from by first | rfl | decide))) (Eng.Reads.below Fg1_35 H.below) (by first | rfl | decide) rfl
  ·refine Eng.guardedT (j := 31) (d := 70) rfl rfl (by kernel_rfl) rfl (fun v w h => h) fun a w' H => ?_
   refine Eng.vr (v := Eng.elemPtr gv1 (0 * 4 + 1)) rfl ?_
   exact Eng.run_field_el rfl Tryd.underlying57 1 (by kernel_rfl) (show a.eval (.tmp 74) = Eng.elemPtr gv1 (0 * 4) from (H.d 35 74)) (Eng.Reads.below Fg1_35 H.below) (by have h_ : 0 < 1 := (by first | rfl | decide); omega)
  ·refine Eng.guardedT (j := 31) (d := 70) rfl rfl (by kernel_rfl) rfl (fun v w h => h) fun a w' H => ?_
   refine Eng.vr (v := .string ⟨#[115, 101, 113]⟩) rfl ?_
   exact Eng.run_load_el (.string ⟨#[115, 101, 113]⟩) rfl (show a.eval (.tmp 75) = Eng.elemPtr gv1 (0 * 4 + 1) from (H.d 36 75)) (Eng.Reads.below Fg1_35 H.below) (rfl) (by kernel_rfl)
  ·refine Eng.guardedT (j := 31) (d := 70) rfl rfl (by kernel_rfl) rfl (fun v w h => h) fun a w' H => ?_
   refine Eng.vr (v := .bool ((⟨#[115, 101, 113]⟩ : ByteArray).toList == (⟨#[115, 101, 113]⟩ : ByteArray).toList)) (by show _ = Value.bool true; rw [show ((⟨#[115, 101, 113]⟩ : ByteArray).toList == (⟨#[115, 101, 113]⟩ : ByteArray).toList) = true from beq_self_eq_true _]) ?_
   have e0 : a.eval (.tmp 76) = .string ⟨#[115, 101, 113]⟩ := (H.d 37 76)
   have e1 : a.eval (.const (.string ⟨#[115, 101, 113]⟩)) = .string ⟨#[115, 101, 113]⟩ := rfl
   simp only [execOp, resolve, e0, e1]
   go_simp
  ·exact Eng.pv fun a w' H => Eng.vr rfl (Eng.run_and rfl rfl (G := true) (H.d 31 70) (fun hb => (H.d 38 77)))
  ·exact Eng.pv fun a w' H => Eng.vr rfl (Eng.run_move rfl (H.d 39 78))
  ·refine Eng.guardedT (j := 40) (d := 79) rfl rfl (by kernel_rfl) rfl (fun v w h => h) fun a w' H => ?_
   exact Eng.val (w1 := w') (v := .int .i64 0) (Eng.run_move rfl (H.q 3 h3_40)) (Below.refl _ _) rfl
  ·refine Eng.guardedT (j := 40) (d := 79) rfl rfl (by kernel_rfl) rfl (fun v w h => h) fun a w' H => ?_
   refine Eng.vr (v := .bool (0 == 0)) (by show _ = Value.bool true; rw [show (0 == 0) = true from beq_self_eq_true _]) ?_
   have e0 : a.eval (.tmp 80) = .int .i64 0 := (H.d 41 80)
   have e1 : a.eval (.const (.int .i64 0)) = .int .i64 0 := rfl
   simp only [execOp, resolve, e0, e1]
   go_simp
  ·exact Eng.pv fun a w' H => Eng.vr rfl (Eng.run_and rfl rfl (G := true) (H.d 40 79) (fun hb => (H.d 42 81)))
  ·exact Eng.pv fun a w' H => Eng.vr rfl (Eng.run_move rfl (H.d 43 82))
  ·refine Eng.guardedT (j := 44) (d := 83) rfl rfl (by kernel_rfl) rfl (fun v w h => h) fun a w' H => ?_
   exact Eng.val (w1 := w') (v := .int .i64 11) (Eng.run_move rfl (H.q 5 h5_40)) (Below.refl _ _) rfl
  ·refine Eng.guardedT (j := 44) (d := 83) rfl rfl (by kernel_rfl) rfl (fun v w h => h) fun a w' H => ?_
   refine Eng.vr (v := .bool (11 == 11)) (by show _ = Value.bool true; rw [show (11 == 11) = true from beq_self_eq_true _]) ?_
   have e0 : a.eval (.tmp 84) = .int .i64 11 := (H.d 45 84)
   have e1 : a.eval (.const (.int .i64 11)) = .int .i64 11 := rfl
   simp only [execOp, resolve, e0, e1]
   go_simp
  ·exact Eng.pv fun a w' H => Eng.vr rfl (Eng.run_and rfl rfl (G := true) (H.d 44 83) (fun hb => (H.d 46 85)))
  ·exact Eng.pv fun a w' H => Eng.vr rfl (Eng.run_move rfl (H.d 47 86))
  ·refine Eng.guardedT (j := 48) (d := 87) rfl rfl (by kernel_rfl) rfl (fun v w h => h) fun a w' H => ?_
   exact Eng.val (w1 := w') (v := .string ⟨#[105, 110, 116]⟩) (Eng.run_move rfl (H.q 6 h6_40)) (Below.refl _ _) rfl
  ·refine Eng.guardedT (j := 48) (d := 87) rfl rfl (by kernel_rfl) rfl (fun v w h => h) fun a w' H => ?_
   refine Eng.vr (v := .bool ((⟨#[105, 110, 116]⟩ : ByteArray).toList == (⟨#[105, 110, 116]⟩ : ByteArray).toList)) (by show _ = Value.bool true; rw [show ((⟨#[105, 110, 116]⟩ : ByteArray).toList == (⟨#[105, 110, 116]⟩ : ByteArray).toList) = true from beq_self_eq_true _]) ?_
   have e0 : a.eval (.tmp 88) = .string ⟨#[105, 110, 116]⟩ := (H.d 49 88)
   have e1 : a.eval (.const (.string ⟨#[105, 110, 116]⟩)) = .string ⟨#[105, 110, 116]⟩ := rfl
   simp only [execOp, resolve, e0, e1]
   go_simp
  ·exact Eng.pv fun a w' H => Eng.vr rfl (Eng.run_and rfl rfl (G := true) (H.d 48 87) (fun hb => (H.d 50 89)))
  ·exact Eng.pv fun a w' H => Eng.vr rfl (Eng.run_move rfl (H.d 51 90))
  ·refine Eng.guardedT (j := 52) (d := 91) rfl rfl (by kernel_rfl) rfl (fun v w h => h) fun a w' H => ?_
   exact Eng.val (w1 := w') (v := .int .i64 0) (Eng.run_move rfl (H.q 7 h7_40)) (Below.refl _ _) rfl
  ·refine Eng.guardedT (j := 52) (d := 91) rfl rfl (by kernel_rfl) rfl (fun v w h => h) fun a w' H => ?_
   refine Eng.vr (v := .bool (0 == 0)) (by show _ = Value.bool true; rw [show (0 == 0) = true from beq_self_eq_true _]) ?_
   have e0 : a.eval (.tmp 92) = .int .i64 0 := (H.d 53 92)
   have e1 : a.eval (.const (.int .i64 0)) = .int .i64 0 := rfl
   simp only [execOp, resolve, e0, e1]
   go_simp
  ·exact Eng.pv fun a w' H => Eng.vr rfl (Eng.run_and rfl rfl (G := true) (H.d 52 91) (fun hb => (H.d 54 93)))
  ·exact Eng.pv fun a w' H => Eng.vr rfl (Eng.run_move rfl (H.d 55 94))
  ·refine Eng.guardedT (j := 56) (d := 95) rfl rfl (by kernel_rfl) rfl (fun v w h => h) fun a w' H => ?_
   exact Eng.val (w1 := w') (v := .int .i64 14) (Eng.run_move rfl (H.q 9 h9_40)) (Below.refl _ _) rfl
  ·refine Eng.guardedT (j := 56) (d := 95) rfl rfl (by kernel_rfl) rfl (fun v w h => h) fun a w' H => ?_
   refine Eng.vr (v := .bool (14 == 14)) (by show _ = Value.bool true; rw [show (14 == 14) = true from beq_self_eq_true _]) ?_
   have e0 : a.eval (.tmp 96) = .int .i64 14 := (H.d 57 96)
   have e1 : a.eval (.const (.int .i64 14)) = .int .i64 14 := rfl
   simp only [execOp, resolve, e0, e1]
   go_simp
  ·exact Eng.pv fun a w' H => Eng.vr rfl (Eng.run_and rfl rfl (G := true) (H.d 56 95) (fun hb => (H.d 58 97)))
  exact Eng.pv fun a w' H => Eng.vr rfl (Eng.run_assign rfl (H.d 59 98))
 intro act41 w41 T
 have h0_41 : act41.eval (.tmp 0) = .bool true := T.done 60 0 rfl rfl
 have d41 := T.e d40
 have bl41 := T.b bl35
 clear T
 refine Eng.tail_nil ?_
 refine wp_ret ?_
 repeat (first | refine Eng.in_ret ?_ | refine Eng.then_ret ?_)
 exact Eng.ret1 rfl d41 h0_41 ⟨rfl, bl41⟩
end Go.Proofs.YtgnmjaacnmkgnaaDoor.X
end
