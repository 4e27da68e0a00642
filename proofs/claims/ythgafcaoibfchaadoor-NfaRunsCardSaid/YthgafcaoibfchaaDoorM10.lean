/- Words and walks that the row of NfaRuns needs: printed by programs, and plain laws. -/
import Derived.Test.YthgafcaoibfchaaDoorM2
import Derived.Test.YthgafcaoibfchaaDoorM3
import Derived.Test.YthgafcaoibfchaaDoorM0
import Derived.Shelf.Strings.Builder1
import Derived.Shelf.Strings.Builder2
import Derived.Shelf.Strings.OnBuilder
import Derived.Shelf.Strings.Trim
import Derived.Shelf.Small.Utf8
import Derived.Shelf.Small.Strs
import Derived.Shelf.Strings.BuilderF
import Derived.Shelf.Strings.BuilderK
import Derived.Shelf.Strings.Builder2Cap
import Derived.Shelf.Strconv.Itoa0
import Derived.Shelf.Strings.Search1
import Derived.Shelf.Strings.Search2
import Derived.Shelf.Strings.Search3
import Derived.Shelf.Strings.Cut
import Derived.Shelf.LaysM
import Derived.Shelf.Strings.Shaped
import Derived.Shelf.GgClosure.StringsIndexFunc
import Derived.Ground.GgwProg
import Derived.Shelf.GgClosure.StringsIndexFuncTop
import Derived.Shelf.Unicode.Decode
import Derived.Shelf.Strings.Runes
import Derived.Shelf.Strings.AsciiSet
import Derived.Shelf.Unicode.DecodeSlow
import Derived.Shelf.Unicode.DecodeAny
import Derived.Shelf.Unicode.DecodeLast
import Derived.Shelf.Strings.BuilderCap
import Derived.Shelf.Slices.Turned
import Derived.Shelf.Slices.Equal
import Derived.Ground.Names2Prog
import Derived.Shelf.Slices.Clone
import Derived.Ground.SlgnProg
import Derived.Shelf.SlicesE.Clone
import Derived.Test.YthgafcaoibfchaaDoorProg
import Derived.WalkKit
import Derived.Lib.DecodeN
import Derived.Lib.Strings
import Derived.Below
import Derived.Deep.Draws
import Derived.Deep.AppendLies
import Derived.Maps.AppendAt
import Derived.OwnWalk
import Derived.Laws.BytesArg
import Derived.Laws.MakeOwn
import Derived.Laws.OwnMore
import Derived.Deep.OwnRows
import Derived.Tactics
import Derived.Lib.ConvBytes
import Derived.Laws.Slices
import Derived.KernelRfl
import Derived.RowKit3
import Derived.Deep.LoopGhost
import Derived.Deep.QuietTactic
import Derived.BigQuiet
import Derived.WideLaws
import Derived.Deep.DeepCutAuto
import Derived.Deep.CutBlock
import Derived.Deep.RegionHeld3
import Derived.Laws.Rows
import Derived.Lib.AppendStr
import Derived.ArgAppend
import Derived.Laws.IdiomCopy
import Derived.OrdersHeld
import Derived.Laws.BitsLemmas
import Derived.RowKit
import Derived.Laws.StructEq
import Derived.Maps.OwnOps
import Derived.Maps.Views
import Derived.Shelf.Strings.SlTrimAscii
namespace Go.Proofs.YthgafcaoibfchaaDoorW.PrintWords
end Go.Proofs.YthgafcaoibfchaaDoorW.PrintWords
namespace Go.Proofs.YthgafcaoibfchaaDoorW.PrintLast
end Go.Proofs.YthgafcaoibfchaaDoorW.PrintLast
namespace Go.Proofs.YthgafcaoibfchaaDoorW.PrintMore
end Go.Proofs.YthgafcaoibfchaaDoorW.PrintMore
section
namespace Go.Proofs.YthgafcaoibfchaaDoor.X
open Go.RowKit Go.Shelf Go.Proofs Go.Proofs.YthgafcaoibfchaaDoorW.PrintWords Go.Proofs.YthgafcaoibfchaaDoorW.PrintLast Go.Proofs.YthgafcaoibfchaaDoorW.PrintMore
set_option linter.unusedVariables false
set_option linter.unusedSimpArgs false
set_option maxHeartbeats 4000000 in
set_option maxRecDepth 100000 in
theorem Pth.theirs_calls (v : Value) (l : List Pth.Part) (w : World) (hx : Eng.Reads w v l.length 2 (Pth.cellsP l)) (hl : l.length ≤ 5864062014634) : Calls Tryd.prog 79 #[v] w fun e w' => ∃ v', e = .returned v' ∧ w'.ownsRow w.heap.size 115 2 v' l.length (Pth.cellsP l) ∧ Below w.heap.size w w' := by
 have hu157 := Tryd.underlying157
 refine Eng.enter Tryd.func79 rfl fun act0 d0 s0 v0 => ?_
 have s0 : act0.tmps.size = 18 := s0
 have h0_0 : act0.eval (.tmp 0) = v := v0 0 (by simp)
 clear v0
 have bl0 : Below w.heap.size w w := Below.refl _ _
 refine wp_seq ?_
 refine Eng.regionS (Eng.still [fun u_ => u_ = .slice none 0 0]) (fun _ => .plain) 1 0 18 s0 rfl (by kernel_rfl) (Eng.still_stable _) (Or.inr (Eng.still_any _)) ?_ ?_
 ·refine Eng.Steps.cons (fun _ => ?_) (Eng.Steps.nil)
  ·refine Eng.plain rfl rfl fun a w' H => ?_
   exact Eng.val (w1 := w') (v := .slice none 0 0) (Eng.run_assign rfl (rfl : a.eval (.const (.slice none 0 0)) = .slice none 0 0)) (Below.refl _ _) rfl
 intro act1 w1 T
 have h0_1 := (T.rest 0 (by kernel_rfl)).trans h0_0
 have Fin_1 := Eng.Reads.below hx T.below
 have h2_1 : act1.eval (.tmp 2) = .slice none 0 0 := T.done 0 2 rfl rfl
 have d1 := T.defers.trans d0
 have s1 := T.size.trans s0
 have bl1 := bl0.trans (T.below.mono bl0.size)
 clear T
 refine Eng.tail_nil ?_
 refine wp_seq ?_
 refine Eng.regionS (Eng.still [fun u_ => u_ = .slice none 0 0]) (fun _ => .plain) 1 0 18 s1 rfl (by kernel_rfl) (Eng.still_stable _) (Or.inr (Eng.still_any _)) ?_ ?_
 ·refine Eng.Steps.cons (fun _ => ?_) (Eng.Steps.nil)
  ·refine Eng.plain rfl rfl fun a w' H => ?_
   exact Eng.val (w1 := w') (v := .slice none 0 0) (Eng.run_assign rfl (rfl : a.eval (.const (.slice none 0 0)) = .slice none 0 0)) (Below.refl _ _) rfl
 intro act2 w2 T
 have h0_2 := (T.rest 0 (by kernel_rfl)).trans h0_1
 have h2_2 := (T.rest 2 (by kernel_rfl)).trans h2_1
 have Fin_2 := Eng.Reads.below Fin_1 T.below
 have h3_2 : act2.eval (.tmp 3) = .slice none 0 0 := T.done 0 3 rfl rfl
 have d2 := T.defers.trans d1
 have s2 := T.size.trans s1
 have bl2 := bl1.trans (T.below.mono bl1.size)
 clear T
 refine Eng.tail_nil ?_
 refine wp_seq ?_
 refine wp_seq ?_
 refine Eng.regionS (Eng.still [fun u_ => u_ = v, fun u_ => u_ = .int .i64 ((l.length : Nat) : Int), fun u_ => u_ = .int .i64 0]) (fun _ => .plain) 3 0 18 s2 rfl (by kernel_rfl) (Eng.still_stable _) (Or.inr (Eng.still_any _)) ?_ ?_
 ·refine Eng.Steps.cons (fun _ => ?_) (Eng.Steps.cons (fun _ => ?_) (Eng.Steps.cons (fun _ => ?_) (Eng.Steps.nil)))
  ·refine Eng.plain rfl rfl fun a w' H => ?_
   exact Eng.val (w1 := w') (v := v) (Eng.run_move rfl ((H.kept 0 (by kernel_rfl)).trans h0_2)) (Below.refl _ _) rfl
  ·refine Eng.plain rfl rfl fun a w' H => ?_
   refine Eng.val (w1 := w') (v := .int .i64 ((l.length : Nat) : Int)) ?_ (Below.refl _ _) rfl
   exact Eng.run_len_sl rfl Tryd.underlying118 (show a.eval (.tmp 6) = v from (H.dep 0 6 (by kernel_rfl) rfl)) (Eng.Reads.below Fin_2 H.below)
  ·refine Eng.plain rfl rfl fun a w' H => ?_
   exact Eng.val (w1 := w') (v := .int .i64 0) (Eng.run_move rfl (rfl : a.eval (.const (.int .i64 0)) = .int .i64 0)) (Below.refl _ _) rfl
 intro act3 w3 T
 have h0_3 := (T.rest 0 (by kernel_rfl)).trans h0_2
 have h2_3 := (T.rest 2 (by kernel_rfl)).trans h2_2
 have h3_3 := (T.rest 3 (by kernel_rfl)).trans h3_2
 have h6_3 : act3.eval (.tmp 6) = v := T.done 0 6 rfl rfl
 have h7_3 : act3.eval (.tmp 7) = .int .i64 ((l.length : Nat) : Int) := T.done 1 7 rfl rfl
 have h8_3 : act3.eval (.tmp 8) = .int .i64 0 := T.done 2 8 rfl rfl
 have d3 := T.defers.trans d2
 have s3 := T.size.trans s2
 have bl3 := bl2.trans (T.below.mono bl2.size)
 clear T
 refine Eng.tail_nil ?_
 refine wp_block ?_
 refine Eng.loopN (fun n a w' => ∃ (k : Nat) (v3 : Value), l.length - k = n ∧ (k ≤ l.length) ∧ (w'.ownsRow w.heap.size 115 2 v3 (List.take k l).length (Pth.cellsP (List.take k l))) ∧ a.defers = [] ∧ a.tmps.size = 18 ∧ Below w.heap.size w w' ∧ a.eval (.tmp 0) = v ∧ a.eval (.tmp 2) = .slice none 0 0 ∧ a.eval (.tmp 3) = v3 ∧ a.eval (.tmp 6) = v ∧ a.eval (.tmp 7) = .int .i64 ((l.length : Nat) : Int) ∧ a.eval (.tmp 8) = .int .i64 (k : Nat)) (n0 := l.length - 0) ?_ ?_
 ·exact ⟨0, .slice none 0 0, rfl, by omega, World.ownsRow_nil _ _ _ _, d3, s3, bl3, h0_3, h2_3, (h3_3.trans (by first | rfl | (congr 1; rw [Eng.i64_id (by omega) (by omega)]; omega) | (simp; done))), h6_3, h7_3, (h8_3.trans (by first | rfl | (congr 1; rw [Eng.i64_id (by omega) (by omega)]; omega) | (simp; done)))⟩
 rintro n act4 w4 ⟨k, v3, rfl, hc0_4, hc1_4, d4, s4, bl4, h0_4, h2_4, h3_4, h6_4, h7_4, h8_4⟩
 have Fin_4 := Eng.Reads.below hx bl4
 have hk1 := hc0_4
 refine wp_seq ?_
 obtain ⟨q9, Bq9⟩ : ∃ b : Bool, b = (decide ((k : Nat) < ((l.length : Nat) : Int))) := ⟨_, rfl⟩
 refine Eng.regionS (Eng.still [fun u_ => u_ = .bool q9]) (fun _ => .plain) 1 0 18 s4 rfl (by kernel_rfl) (Eng.still_stable _) (Or.inr (Eng.still_any _)) ?_ ?_
 ·refine Eng.Steps.cons (fun _ => ?_) (Eng.Steps.nil)
  ·refine Eng.plain rfl rfl fun a w' H => ?_
   refine Eng.val (w1 := w') (v := .bool (decide ((k : Nat) < ((l.length : Nat) : Int)))) ?_ (Below.refl _ _) (by show _ = Value.bool q9; rw [Bq9])
   have e0 := ((H.kept 8 (by kernel_rfl)).trans h8_4)
   have e1 := ((H.kept 7 (by kernel_rfl)).trans h7_4)
   simp only [execOp, resolve, e0, e1]
   go_simp
 intro act5 w5 T
 have h0_5 := (T.rest 0 (by kernel_rfl)).trans h0_4
 have h2_5 := (T.rest 2 (by kernel_rfl)).trans h2_4
 have h3_5 := (T.rest 3 (by kernel_rfl)).trans h3_4
 have h6_5 := (T.rest 6 (by kernel_rfl)).trans h6_4
 have h7_5 := (T.rest 7 (by kernel_rfl)).trans h7_4
 have h8_5 := (T.rest 8 (by kernel_rfl)).trans h8_4
 have Fin_5 := Eng.Reads.below Fin_4 T.below
 have Ot_5 := Eng.own_below hc1_4 T.below
 have h9_5 : act5.eval (.tmp 9) = .bool q9 := T.done 0 9 rfl rfl
 have d5 := T.defers.trans d4
 have s5 := T.size.trans s4
 have bl5 := bl4.trans (T.below.mono bl4.size)
 clear T
 refine Eng.tail_nil ?_
 refine wp_seq ?_
 refine wp_cond_split h9_5 (fun hq => ?_) (fun hq => ?_)
 ·
  have c9 := Bq9.symm.trans hq
  clear hq
  have c9 := of_decide_eq_true c9
  have hk0 : k < l.length := by omega
  refine wp_skip ?_
  refine wp_seq ?_
  refine wp_block ?_
  refine wp_seq ?_
  refine Eng.regionS (Eng.still [fun u_ => u_ = Eng.elemPtr v (k * 2), fun u_ => u_ = .agg #[.int .i64 ((l.getD k default).1), .string ((l.getD k default).2)], fun u_ => True, fun u_ => True]) (fun i => ([.plain, .plain, .alloc 157 #[.int .i64 0, .string ⟨#[]⟩], .store 2 #[.int .i64 ((l.getD k default).1), .string ((l.getD k default).2)]] : List Eng.Kind).getD i .plain) 4 0 18 s5 rfl (by kernel_rfl) (Eng.still_stable _) (Or.inr (Eng.still_any _)) ?_ ?_
  ·refine Eng.Steps.cons (fun _ => ?_) (Eng.Steps.cons (fun _ => ?_) (Eng.Steps.cons (fun _ => ?_) (Eng.Steps.cons (fun _ => ?_) (Eng.Steps.nil))))
   ·refine Eng.plain rfl rfl fun a w' H => ?_
    refine Eng.val (w1 := w') (v := Eng.elemPtr v (k * 2)) ?_ (Below.refl _ _) rfl
    exact Eng.run_index_sl rfl Tryd.underlying118 (by kernel_rfl) (show a.eval (.tmp 6) = v from ((H.kept 6 (by kernel_rfl)).trans h6_5)) ((show a.eval (.tmp 8) = .int .i64 (k : Nat) from ((H.kept 8 (by kernel_rfl)).trans h8_5)).trans (congrArg (Value.int _) (show (k : Nat) = ((k : Nat) : Int) from by omega))) (Eng.Reads.below Fin_5 H.below) (by omega) rfl
   ·refine Eng.plain rfl rfl fun a w' H => ?_
    refine Eng.val (w1 := w') (v := .agg #[.int .i64 ((l.getD k default).1), .string ((l.getD k default).2)]) ?_ (Below.refl _ _) rfl
    exact Eng.run_load_els [.int .i64 ((l.getD k default).1), .string ((l.getD k default).2)] rfl (show a.eval (.tmp 10) = Eng.elemPtr v (k * 2) from (H.dep 0 10 (by kernel_rfl) rfl)) (Eng.Reads.below Fin_5 H.below) (Pth.cells_at l k (by omega)) rfl Tryd.underlying157 rfl (by kernel_rfl)
   ·refine Eng.made rfl (by simp) rfl (fun a w' hd ho => ?_) (fun _ _ => trivial)
    simp only [execOp]
    go_simp
   ·refine Eng.stored [.int .i64 ((l.getD k default).1), .string ((l.getD k default).2)] rfl rfl rfl (j := 2) (d := 5) (by kernel_rfl) rfl rfl (Eng.store_uniq (by kernel_rfl)) rfl rfl fun a w' g e hc hd ho => ?_
    have e0 : a.eval _ = .agg #[.int .i64 ((l.getD k default).1), .string ((l.getD k default).2)] := (hd 1 11 (by kernel_rfl) rfl)
    have z0 := (Eng.cells hc 0).trans rfl
    have z1 := (Eng.cells hc 1).trans rfl
    have f0 := Eng.unfrozen hc 0
    have f1 := Eng.unfrozen hc 1
    simp only [execOp, e, e0]
    go_simp
    rfl
  intro act7 w7 T
  have h0_7 := (T.rest 0 (by kernel_rfl)).trans h0_5
  have h2_7 := (T.rest 2 (by kernel_rfl)).trans h2_5
  have h3_7 := (T.rest 3 (by kernel_rfl)).trans h3_5
  have h6_7 := (T.rest 6 (by kernel_rfl)).trans h6_5
  have h7_7 := (T.rest 7 (by kernel_rfl)).trans h7_5
  have h8_7 := (T.rest 8 (by kernel_rfl)).trans h8_5
  have Ot_7 := Eng.own_below Ot_5 T.below
  obtain ⟨g5_7, h5_7, rg5_7, lg5_7_7, kg5_7_7⟩ := T.st 2 5 3 _ _ _ rfl rfl rfl rfl rfl
  have d7 := T.defers.trans d5
  have s7 := T.size.trans s5
  have bl7 := bl5.trans (T.below.mono bl5.size)
  clear T
  refine Eng.tail_nil ?_
  refine Eng.regionT (n := 5) rfl ?_
  refine Eng.tail_val rfl rfl rfl (Eng.run_move rfl h3_7) s7 rfl fun act8 d8 s8 hv hr => ?_
  have h0_8 := (hr 0 rfl).trans h0_7
  have h2_8 := (hr 2 rfl).trans h2_7
  have h5_8 := (hr 5 rfl).trans h5_7
  have h6_8 := (hr 6 rfl).trans h6_7
  have h7_8 := (hr 7 rfl).trans h7_7
  have h8_8 := (hr 8 rfl).trans h8_7
  have h12_8 : act8.eval (.tmp 12) = v3 := hv
  have d8 := d8.trans d7
  clear hv hr
  refine Eng.tail_val rfl rfl rfl (Eng.run_load_all rfl h5_8 kg5_7_7 Tryd.underlying157 rfl (by kernel_rfl)) s8 rfl fun act9 d9 s9 hv hr => ?_
  have h0_9 := (hr 0 rfl).trans h0_8
  have h2_9 := (hr 2 rfl).trans h2_8
  have h6_9 := (hr 6 rfl).trans h6_8
  have h7_9 := (hr 7 rfl).trans h7_8
  have h8_9 := (hr 8 rfl).trans h8_8
  have h12_9 := (hr 12 rfl).trans h12_8
  have h13_9 : act9.eval (.tmp 13) = .agg #[.int .i64 ((l.getD k default).1), .string ((l.getD k default).2)] := hv
  have d9 := d9.trans d8
  clear hv hr
  refine Eng.tail_ex rfl rfl rfl (Eng.run_build1I (size := 2) (z := .agg #[.int .i64 0, .string ⟨#[]⟩]) [.int .i64 ((l.getD k default).1), .string ((l.getD k default).2)] rfl Tryd.underlying82 (by kernel_rfl) rfl rfl rfl (by kernel_rfl) h13_9) s9 rfl fun v_10 w10 act10 R d10 s10 hv hr => ?_
  obtain ⟨F_10, b_10⟩ := R
  have h0_10 := (hr 0 rfl).trans h0_9
  have h2_10 := (hr 2 rfl).trans h2_9
  have h6_10 := (hr 6 rfl).trans h6_9
  have h7_10 := (hr 7 rfl).trans h7_9
  have h8_10 := (hr 8 rfl).trans h8_9
  have h12_10 := (hr 12 rfl).trans h12_9
  have h14_10 : act10.eval (.tmp 14) = v_10 := hv
  have d10 := d10.trans d9
  clear hv hr
  have Ot_10 := Eng.own_below Ot_7 b_10
  have bl10 := bl7.trans (b_10.mono bl7.size)
  refine Eng.tail_ex rfl rfl rfl (Eng.run_appendT (z := .agg #[.int .i64 0, .string ⟨#[]⟩]) rfl Tryd.underlying82 (by kernel_rfl) rfl rfl h12_10 Ot_10 h14_10 F_10 (by intro u hu; simp at hu; rcases hu with rfl | rfl <;> rfl) (by simp only [List.length_take]; omega) bl10.size) s10 rfl fun v_11 w11 act11 R d11 s11 hv hr => ?_
  obtain ⟨O_11, _, b_11, G_11, _⟩ := R
  have h0_11 := (hr 0 rfl).trans h0_10
  have h2_11 := (hr 2 rfl).trans h2_10
  have h6_11 := (hr 6 rfl).trans h6_10
  have h7_11 := (hr 7 rfl).trans h7_10
  have h8_11 := (hr 8 rfl).trans h8_10
  have h15_11 : act11.eval (.tmp 15) = v_11 := hv
  have d11 := d11.trans d10
  clear hv hr
  have bl11 := bl10.trans b_11
  have Oa11 : w11.ownsRow w.heap.size 115 2 v_11 ((List.take k l) ++ [((l.getD k default).1, (l.getD k default).2)]).length (Pth.cellsP ((List.take k l) ++ [((l.getD k default).1, (l.getD k default).2)])) := Pth.own_cat (r := [_]) O_11
  have Fa11 := Eng.Reads.of_own Oa11
  refine Eng.tail_val rfl rfl rfl (Eng.run_assign rfl h15_11) s11 rfl fun act12 d12 s12 hv hr => ?_
  have h0_12 := (hr 0 rfl).trans h0_11
  have h2_12 := (hr 2 rfl).trans h2_11
  have h6_12 := (hr 6 rfl).trans h6_11
  have h7_12 := (hr 7 rfl).trans h7_11
  have h8_12 := (hr 8 rfl).trans h8_11
  have h3_12 : act12.eval (.tmp 3) = v_11 := hv
  have d12 := d12.trans d11
  clear hv hr
  refine Eng.tail_nil ?_
  refine Eng.regionS (Eng.still [fun u_ => u_ = .int .i64 (IntKind.i64.wrap ((k : Nat) + 1)), fun u_ => u_ = .int .i64 (IntKind.i64.wrap ((k : Nat) + 1))]) (fun _ => .plain) 2 0 18 s12 rfl (by kernel_rfl) (Eng.still_stable _) (Or.inr (Eng.still_any _)) ?_ ?_
  ·refine Eng.Steps.cons (fun _ => ?_) (Eng.Steps.cons (fun _ => ?_) (Eng.Steps.nil))
   ·refine Eng.plain rfl rfl fun a w' H => ?_
    refine Eng.val (w1 := w') (v := .int .i64 (IntKind.i64.wrap ((k : Nat) + 1))) ?_ (Below.refl _ _) rfl
    have e0 := ((H.kept 8 (by kernel_rfl)).trans h8_12)
    have e1 : a.eval (.const (.int .i64 1)) = .int .i64 1 := (rfl : a.eval (.const (.int .i64 1)) = .int .i64 1)
    simp only [execOp, resolve, e0, e1]
    go_simp
   ·refine Eng.plain rfl rfl fun a w' H => ?_
    exact Eng.val (w1 := w') (v := .int .i64 (IntKind.i64.wrap ((k : Nat) + 1))) (Eng.run_move rfl (H.dep 0 16 (by kernel_rfl) rfl)) (Below.refl _ _) rfl
  intro act13 w13 T
  have h0_13 := (T.rest 0 (by kernel_rfl)).trans h0_12
  have h2_13 := (T.rest 2 (by kernel_rfl)).trans h2_12
  have h3_13 := (T.rest 3 (by kernel_rfl)).trans h3_12
  have h6_13 := (T.rest 6 (by kernel_rfl)).trans h6_12
  have h7_13 := (T.rest 7 (by kernel_rfl)).trans h7_12
  have Oa11_13 := Eng.own_below Oa11 T.below
  have h8_13 : act13.eval (.tmp 8) = .int .i64 (IntKind.i64.wrap ((k : Nat) + 1)) := T.done 1 8 rfl rfl
  have d13 := T.defers.trans d12
  have s13 := T.size.trans s12
  have bl13 := bl11.trans (T.below.mono bl11.size)
  clear T
  refine Eng.tail_nil ?_
  exact ⟨_, by omega, k + 1, v_11, rfl, by omega, by rw [Pth.take_one hk0]; exact Oa11_13, d13, s13, bl13, h0_13, h2_13, (h3_13.trans (by first | rfl | (congr 1; rw [Eng.i64_id (by omega) (by omega)]; omega) | (simp; done))), h6_13, h7_13, (h8_13.trans (by first | rfl | (congr 1; rw [Eng.i64_id (by omega) (by omega)]; omega) | (simp; done)))⟩
 ·
  have c9 := Bq9.symm.trans hq
  clear hq
  have c9 := of_decide_eq_false c9
  refine wp_exit ?_
  refine wp_seq ?_
  refine Eng.regionS (Eng.still [fun u_ => u_ = v3, fun u_ => u_ = v3]) (fun _ => .plain) 2 0 18 s5 rfl (by kernel_rfl) (Eng.still_stable _) (Or.inr (Eng.still_any _)) ?_ ?_
  ·refine Eng.Steps.cons (fun _ => ?_) (Eng.Steps.cons (fun _ => ?_) (Eng.Steps.nil))
   ·refine Eng.plain rfl rfl fun a w' H => ?_
    exact Eng.val (w1 := w') (v := v3) (Eng.run_move rfl ((H.kept 3 (by kernel_rfl)).trans h3_5)) (Below.refl _ _) rfl
   ·refine Eng.plain rfl rfl fun a w' H => ?_
    exact Eng.val (w1 := w') (v := v3) (Eng.run_assign rfl (H.dep 0 17 (by kernel_rfl) rfl)) (Below.refl _ _) rfl
  intro act15 w15 T
  have Ot_15 := Eng.own_below Ot_5 T.below
  have h2_15 : act15.eval (.tmp 2) = v3 := T.done 1 2 rfl rfl
  have d15 := T.defers.trans d5
  have bl15 := bl5.trans (T.below.mono bl5.size)
  clear T
  refine Eng.tail_nil ?_
  refine wp_ret ?_
  repeat (first | refine Eng.in_ret ?_ | refine Eng.then_ret ?_)
  obtain rfl : k = l.length := by omega
  have Ol := Ot_15
  rw [List.take_length] at Ol
  exact Eng.ret1 rfl d15 h2_15 ⟨_, rfl, Ol, bl15⟩
end Go.Proofs.YthgafcaoibfchaaDoor.X
end
section
namespace Go.Proofs.YthgafcaoibfchaaDoor.X
open Go.RowKit Go.Shelf Go.Proofs Go.Proofs.YthgafcaoibfchaaDoorW.PrintWords Go.Proofs.YthgafcaoibfchaaDoorW.PrintLast Go.Proofs.YthgafcaoibfchaaDoorW.PrintMore
set_option linter.unusedVariables false
set_option linter.unusedSimpArgs false
set_option maxHeartbeats 4000000 in
set_option maxRecDepth 100000 in
theorem Pth.theirses_calls (pv : Value) (ps : List (List Pth.Part)) (vs : List Value) (w : World) (hvl : vs.length = ps.length) (hp : Eng.Reads w pv ps.length 1 vs) (hin : ∀ k, k < ps.length → Eng.Reads w (vs.getD k undef) (ps.getD k []).length 2 (Pth.cellsP (ps.getD k []))) (hsz : ∀ k, k < ps.length → (ps.getD k []).length ≤ 5864062014634) (hpl : ps.length ≤ 5864062014634) : Calls Tryd.prog 37 #[pv] w fun e w' => ∃ v' vl, e = .returned v' ∧ vl.length = ps.length ∧ w'.ownsRow w.heap.size 82 1 v' ps.length vl ∧ Pth.Each w.heap.size ps vl w' ∧ Below w.heap.size w w' := by
 have hm := Eng.Reads.len_le hp
 refine Eng.enter Tryd.func37 rfl fun act0 d0 s0 v0 => ?_
 have s0 : act0.tmps.size = 19 := s0
 have h0_0 : act0.eval (.tmp 0) = pv := v0 0 (by simp)
 clear v0
 have bl0 : Below w.heap.size w w := Below.refl _ _
 refine wp_seq ?_
 refine Eng.regionS (Eng.still [fun u_ => u_ = .slice none 0 0]) (fun _ => .plain) 1 0 19 s0 rfl (by kernel_rfl) (Eng.still_stable _) (Or.inr (Eng.still_any _)) ?_ ?_
 ·refine Eng.Steps.cons (fun _ => ?_) (Eng.Steps.nil)
  ·refine Eng.plain rfl rfl fun a w' H => ?_
   exact Eng.val (w1 := w') (v := .slice none 0 0) (Eng.run_assign rfl (rfl : a.eval (.const (.slice none 0 0)) = .slice none 0 0)) (Below.refl _ _) rfl
 intro act1 w1 T
 have h0_1 := (T.rest 0 (by kernel_rfl)).trans h0_0
 have Fpp_1 := Eng.Reads.below hp T.below
 have h2_1 : act1.eval (.tmp 2) = .slice none 0 0 := T.done 0 2 rfl rfl
 have d1 := T.defers.trans d0
 have s1 := T.size.trans s0
 have bl1 := bl0.trans (T.below.mono bl0.size)
 clear T
 refine Eng.tail_nil ?_
 refine wp_seq ?_
 refine Eng.regionS (Eng.still [fun u_ => u_ = .slice none 0 0]) (fun _ => .plain) 1 0 19 s1 rfl (by kernel_rfl) (Eng.still_stable _) (Or.inr (Eng.still_any _)) ?_ ?_
 ·refine Eng.Steps.cons (fun _ => ?_) (Eng.Steps.nil)
  ·refine Eng.plain rfl rfl fun a w' H => ?_
   exact Eng.val (w1 := w') (v := .slice none 0 0) (Eng.run_assign rfl (rfl : a.eval (.const (.slice none 0 0)) = .slice none 0 0)) (Below.refl _ _) rfl
 intro act2 w2 T
 have h0_2 := (T.rest 0 (by kernel_rfl)).trans h0_1
 have h2_2 := (T.rest 2 (by kernel_rfl)).trans h2_1
 have Fpp_2 := Eng.Reads.below Fpp_1 T.below
 have h3_2 : act2.eval (.tmp 3) = .slice none 0 0 := T.done 0 3 rfl rfl
 have d2 := T.defers.trans d1
 have s2 := T.size.trans s1
 have bl2 := bl1.trans (T.below.mono bl1.size)
 clear T
 refine Eng.tail_nil ?_
 refine wp_seq ?_
 refine wp_seq ?_
 refine Eng.regionS (Eng.still [fun u_ => u_ = pv, fun u_ => u_ = .int .i64 ((ps.length : Nat) : Int), fun u_ => u_ = .int .i64 0]) (fun _ => .plain) 3 0 19 s2 rfl (by kernel_rfl) (Eng.still_stable _) (Or.inr (Eng.still_any _)) ?_ ?_
 ·refine Eng.Steps.cons (fun _ => ?_) (Eng.Steps.cons (fun _ => ?_) (Eng.Steps.cons (fun _ => ?_) (Eng.Steps.nil)))
  ·refine Eng.plain rfl rfl fun a w' H => ?_
   exact Eng.val (w1 := w') (v := pv) (Eng.run_move rfl ((H.kept 0 (by kernel_rfl)).trans h0_2)) (Below.refl _ _) rfl
  ·refine Eng.plain rfl rfl fun a w' H => ?_
   refine Eng.val (w1 := w') (v := .int .i64 ((ps.length : Nat) : Int)) ?_ (Below.refl _ _) rfl
   exact Eng.run_len_sl rfl Tryd.underlying59 (show a.eval (.tmp 6) = pv from (H.dep 0 6 (by kernel_rfl) rfl)) (Eng.Reads.below Fpp_2 H.below)
  ·refine Eng.plain rfl rfl fun a w' H => ?_
   exact Eng.val (w1 := w') (v := .int .i64 0) (Eng.run_move rfl (rfl : a.eval (.const (.int .i64 0)) = .int .i64 0)) (Below.refl _ _) rfl
 intro act3 w3 T
 have h0_3 := (T.rest 0 (by kernel_rfl)).trans h0_2
 have h2_3 := (T.rest 2 (by kernel_rfl)).trans h2_2
 have h3_3 := (T.rest 3 (by kernel_rfl)).trans h3_2
 have h6_3 : act3.eval (.tmp 6) = pv := T.done 0 6 rfl rfl
 have h7_3 : act3.eval (.tmp 7) = .int .i64 ((ps.length : Nat) : Int) := T.done 1 7 rfl rfl
 have h8_3 : act3.eval (.tmp 8) = .int .i64 0 := T.done 2 8 rfl rfl
 have d3 := T.defers.trans d2
 have s3 := T.size.trans s2
 have bl3 := bl2.trans (T.below.mono bl2.size)
 clear T
 refine Eng.tail_nil ?_
 refine wp_block ?_
 refine Eng.loopN (fun n a w' => ∃ (k : Nat) (v3 : Value) (vl : List Value), ps.length - k = n ∧ (k ≤ ps.length) ∧ (w'.ownsRow w.heap.size 82 1 v3 vl.length vl) ∧ (vl.length = k) ∧ (Pth.Each w.heap.size ps vl w') ∧ a.defers = [] ∧ a.tmps.size = 19 ∧ Below w.heap.size w w' ∧ a.eval (.tmp 0) = pv ∧ a.eval (.tmp 2) = .slice none 0 0 ∧ a.eval (.tmp 3) = v3 ∧ a.eval (.tmp 6) = pv ∧ a.eval (.tmp 7) = .int .i64 ((ps.length : Nat) : Int) ∧ a.eval (.tmp 8) = .int .i64 (k : Nat)) (n0 := ps.length - 0) ?_ ?_
 ·exact ⟨0, .slice none 0 0, [], rfl, by omega, World.ownsRow_nil _ _ _ _, rfl, Pth.Each.nil _ _ _, d3, s3, bl3, h0_3, h2_3, (h3_3.trans (by first | rfl | (congr 1; rw [Eng.i64_id (by omega) (by omega)]; omega) | (simp; done))), h6_3, h7_3, (h8_3.trans (by first | rfl | (congr 1; rw [Eng.i64_id (by omega) (by omega)]; omega) | (simp; done)))⟩
 rintro n act4 w4 ⟨k, v3, vl, rfl, hc0_4, hc1_4, hc2_4, hc3_4, d4, s4, bl4, h0_4, h2_4, h3_4, h6_4, h7_4, h8_4⟩
 have Fpp_4 := Eng.Reads.below hp bl4
 have hk1 := hc0_4
 have hvlk := hc2_4
 refine wp_seq ?_
 obtain ⟨q9, Bq9⟩ : ∃ b : Bool, b = (decide ((k : Nat) < ((ps.length : Nat) : Int))) := ⟨_, rfl⟩
 refine Eng.regionS (Eng.still [fun u_ => u_ = .bool q9]) (fun _ => .plain) 1 0 19 s4 rfl (by kernel_rfl) (Eng.still_stable _) (Or.inr (Eng.still_any _)) ?_ ?_
 ·refine Eng.Steps.cons (fun _ => ?_) (Eng.Steps.nil)
  ·refine Eng.plain rfl rfl fun a w' H => ?_
   refine Eng.val (w1 := w') (v := .bool (decide ((k : Nat) < ((ps.length : Nat) : Int)))) ?_ (Below.refl _ _) (by show _ = Value.bool q9; rw [Bq9])
   have e0 := ((H.kept 8 (by kernel_rfl)).trans h8_4)
   have e1 := ((H.kept 7 (by kernel_rfl)).trans h7_4)
   simp only [execOp, resolve, e0, e1]
   go_simp
 intro act5 w5 T
 have h0_5 := (T.rest 0 (by kernel_rfl)).trans h0_4
 have h2_5 := (T.rest 2 (by kernel_rfl)).trans h2_4
 have h3_5 := (T.rest 3 (by kernel_rfl)).trans h3_4
 have h6_5 := (T.rest 6 (by kernel_rfl)).trans h6_4
 have h7_5 := (T.rest 7 (by kernel_rfl)).trans h7_4
 have h8_5 := (T.rest 8 (by kernel_rfl)).trans h8_4
 have Fpp_5 := Eng.Reads.below Fpp_4 T.below
 have Ot_5 := Eng.own_below hc1_4 T.below
 have h9_5 : act5.eval (.tmp 9) = .bool q9 := T.done 0 9 rfl rfl
 have d5 := T.defers.trans d4
 have s5 := T.size.trans s4
 have bl5 := bl4.trans (T.below.mono bl4.size)
 have XE_5 := Pth.Each.below hc3_4 T.below
 clear T
 refine Eng.tail_nil ?_
 refine wp_seq ?_
 refine wp_cond_split h9_5 (fun hq => ?_) (fun hq => ?_)
 ·
  have c9 := Bq9.symm.trans hq
  clear hq
  have c9 := of_decide_eq_true c9
  have hk0 : k < ps.length := by omega
  have Fin0 := hin k hk0
  have hmi := Eng.Reads.len_le Fin0
  have Finn7 := Eng.Reads.below Fin0 bl5
  refine wp_skip ?_
  refine wp_seq ?_
  refine wp_block ?_
  refine wp_seq ?_
  refine Eng.regionS (Eng.still [fun u_ => u_ = Eng.elemPtr pv (k * 1), fun u_ => u_ = (vs.getD k undef), fun u_ => u_ = (vs.getD k undef)]) (fun _ => .plain) 3 0 19 s5 rfl (by kernel_rfl) (Eng.still_stable _) (Or.inr (Eng.still_any _)) ?_ ?_
  ·refine Eng.Steps.cons (fun _ => ?_) (Eng.Steps.cons (fun _ => ?_) (Eng.Steps.cons (fun _ => ?_) (Eng.Steps.nil)))
   ·refine Eng.plain rfl rfl fun a w' H => ?_
    refine Eng.val (w1 := w') (v := Eng.elemPtr pv (k * 1)) ?_ (Below.refl _ _) rfl
    exact Eng.run_index_sl rfl Tryd.underlying59 (by kernel_rfl) (show a.eval (.tmp 6) = pv from ((H.kept 6 (by kernel_rfl)).trans h6_5)) ((show a.eval (.tmp 8) = .int .i64 (k : Nat) from ((H.kept 8 (by kernel_rfl)).trans h8_5)).trans (congrArg (Value.int _) (show (k : Nat) = ((k : Nat) : Int) from by omega))) (Eng.Reads.below Fpp_5 H.below) (by omega) rfl
   ·refine Eng.plain rfl rfl fun a w' H => ?_
    refine Eng.val (w1 := w') (v := (vs.getD k undef)) ?_ (Below.refl _ _) rfl
    exact Eng.run_load_el ((vs.getD k undef)) rfl (show a.eval (.tmp 10) = Eng.elemPtr pv (k * 1) from (H.dep 0 10 (by kernel_rfl) rfl)) (Eng.Reads.below Fpp_5 H.below) (Nfa.at_one vs hvl (by omega)) (by kernel_rfl)
   ·refine Eng.plain rfl rfl fun a w' H => ?_
    exact Eng.val (w1 := w') (v := (vs.getD k undef)) (Eng.run_assign rfl (H.dep 1 11 (by kernel_rfl) rfl)) (Below.refl _ _) rfl
  intro act8 w8 T
  have h0_8 := (T.rest 0 (by kernel_rfl)).trans h0_5
  have h2_8 := (T.rest 2 (by kernel_rfl)).trans h2_5
  have h3_8 := (T.rest 3 (by kernel_rfl)).trans h3_5
  have h6_8 := (T.rest 6 (by kernel_rfl)).trans h6_5
  have h7_8 := (T.rest 7 (by kernel_rfl)).trans h7_5
  have h8_8 := (T.rest 8 (by kernel_rfl)).trans h8_5
  have Ot_8 := Eng.own_below Ot_5 T.below
  have Finn_8 := Eng.Reads.below Finn7 T.below
  have h5_8 : act8.eval (.tmp 5) = (vs.getD k undef) := T.done 2 5 rfl rfl
  have d8 := T.defers.trans d5
  have s8 := T.size.trans s5
  have bl8 := bl5.trans (T.below.mono bl5.size)
  have XE_8 := Pth.Each.below XE_5 T.below
  clear T
  refine Eng.tail_nil ?_
  refine (wpIn_wide (n := 1)).1 ?_
  refine EngI.regionT (n := 6) rfl ?_
  refine EngI.tail_val EngI.free_wide rfl rfl rfl rfl (Eng.run_move rfl h3_8) s8 rfl fun act9 d9 s9 hv hr => ?_
  have h0_9 := (hr 0 rfl).trans h0_8
  have h2_9 := (hr 2 rfl).trans h2_8
  have h5_9 := (hr 5 rfl).trans h5_8
  have h6_9 := (hr 6 rfl).trans h6_8
  have h7_9 := (hr 7 rfl).trans h7_8
  have h8_9 := (hr 8 rfl).trans h8_8
  have h12_9 : act9.eval (.tmp 12) = v3 := hv
  have d9 := d9.trans d8
  clear hv hr
  refine EngI.tail_val EngI.free_wide rfl rfl rfl rfl (Eng.run_move rfl h5_9) s9 rfl fun act10 d10 s10 hv hr => ?_
  have h0_10 := (hr 0 rfl).trans h0_9
  have h2_10 := (hr 2 rfl).trans h2_9
  have h6_10 := (hr 6 rfl).trans h6_9
  have h7_10 := (hr 7 rfl).trans h7_9
  have h8_10 := (hr 8 rfl).trans h8_9
  have h12_10 := (hr 12 rfl).trans h12_9
  have h13_10 : act10.eval (.tmp 13) = (vs.getD k undef) := hv
  have d10 := d10.trans d9
  clear hv hr
  refine EngI.tail_call EngI.free_wide Tryd.func79 (by kernel_rfl) (by kernel_rfl) rfl rfl rfl rfl #[(vs.getD k undef)] (by have e0 : act10.eval (.tmp 13) = (vs.getD k undef) := h13_10; simp only [List.map_toArray, List.map_cons, List.map_nil, e0]) s10 rfl (R := fun v w' => w'.ownsRow w8.heap.size 115 2 v (ps.getD k []).length (Pth.cellsP (ps.getD k [])) ∧ Below w8.heap.size w8 w') ((Pth.theirs_calls (vs.getD k undef) (ps.getD k []) _ Finn_8 (hsz k hk0)).mono ?_) fun v_11 w11 act11 R d11 s11 hv hr => ?_
  ·rintro e w1 ⟨v, rfl, h1, h2⟩; exact ⟨v, rfl, h1, h2⟩
  have h0_11 := (hr 0 rfl).trans h0_10
  have h2_11 := (hr 2 rfl).trans h2_10
  have h6_11 := (hr 6 rfl).trans h6_10
  have h7_11 := (hr 7 rfl).trans h7_10
  have h8_11 := (hr 8 rfl).trans h8_10
  have h12_11 := (hr 12 rfl).trans h12_10
  have h14_11 : act11.eval (.tmp 14) = v_11 := hv
  have d11 := d11.trans d10
  clear hv hr
  obtain ⟨Or11, hb11⟩ := R
  have XE_11 := Pth.Each.snoc (Pth.Each.below XE_8 hb11) (by omega) (by rw [hvlk]; exact Eng.own_mono Or11 bl8.size)
  have Ot_11 := Eng.own_below Ot_8 hb11
  have bl11 := bl8.trans (hb11.mono bl8.size)
  refine EngI.tail_ex EngI.free_wide rfl rfl rfl rfl (Eng.run_build1I (size := 1) (z := .slice none 0 0) [v_11] rfl Tryd.underlying62 (by kernel_rfl) rfl rfl rfl (by exact Pth.fill_one Or11) h14_11) s11 rfl fun v_12 w12 act12 R d12 s12 hv hr => ?_
  obtain ⟨F_12, b_12⟩ := R
  have h0_12 := (hr 0 rfl).trans h0_11
  have h2_12 := (hr 2 rfl).trans h2_11
  have h6_12 := (hr 6 rfl).trans h6_11
  have h7_12 := (hr 7 rfl).trans h7_11
  have h8_12 := (hr 8 rfl).trans h8_11
  have h12_12 := (hr 12 rfl).trans h12_11
  have h15_12 : act12.eval (.tmp 15) = v_12 := hv
  have d12 := d12.trans d11
  clear hv hr
  have Ot_12 := Eng.own_below Ot_11 b_12
  have XE_12 := Pth.Each.below XE_11 b_12
  have bl12 := bl11.trans (b_12.mono bl11.size)
  refine EngI.tail_ex EngI.free_wide rfl rfl rfl rfl (Eng.run_appendT (z := .slice none 0 0) rfl Tryd.underlying62 (by kernel_rfl) rfl rfl h12_12 Ot_12 h15_12 F_12 (Pth.own_one Or11) (by omega) bl12.size) s12 rfl fun v_13 w13 act13 R d13 s13 hv hr => ?_
  obtain ⟨O_13, _, b_13, G_13, _⟩ := R
  have h0_13 := (hr 0 rfl).trans h0_12
  have h2_13 := (hr 2 rfl).trans h2_12
  have h6_13 := (hr 6 rfl).trans h6_12
  have h7_13 := (hr 7 rfl).trans h7_12
  have h8_13 := (hr 8 rfl).trans h8_12
  have h16_13 : act13.eval (.tmp 16) = v_13 := hv
  have d13 := d13.trans d12
  clear hv hr
  have XE_13 := Pth.Each.grown XE_12 G_13 Ot_12
  have bl13 := bl12.trans b_13
  have Oa13 : w13.ownsRow w.heap.size 82 1 v_13 (vl ++ [v_11]).length (vl ++ [v_11]) := Pth.vals_cat (r := [_]) O_13
  have Fa13 := Eng.Reads.of_own Oa13
  refine EngI.tail_val EngI.free_wide rfl rfl rfl rfl (Eng.run_assign rfl h16_13) s13 rfl fun act14 d14 s14 hv hr => ?_
  have h0_14 := (hr 0 rfl).trans h0_13
  have h2_14 := (hr 2 rfl).trans h2_13
  have h6_14 := (hr 6 rfl).trans h6_13
  have h7_14 := (hr 7 rfl).trans h7_13
  have h8_14 := (hr 8 rfl).trans h8_13
  have h3_14 : act14.eval (.tmp 3) = v_13 := hv
  have d14 := d14.trans d13
  clear hv hr
  refine EngI.tail_nil ?_
  refine Eng.regionS (Eng.still [fun u_ => u_ = .int .i64 (IntKind.i64.wrap ((k : Nat) + 1)), fun u_ => u_ = .int .i64 (IntKind.i64.wrap ((k : Nat) + 1))]) (fun _ => .plain) 2 0 19 s14 rfl (by kernel_rfl) (Eng.still_stable _) (Or.inr (Eng.still_any _)) ?_ ?_
  ·refine Eng.Steps.cons (fun _ => ?_) (Eng.Steps.cons (fun _ => ?_) (Eng.Steps.nil))
   ·refine Eng.plain rfl rfl fun a w' H => ?_
    refine Eng.val (w1 := w') (v := .int .i64 (IntKind.i64.wrap ((k : Nat) + 1))) ?_ (Below.refl _ _) rfl
    have e0 := ((H.kept 8 (by kernel_rfl)).trans h8_14)
    have e1 : a.eval (.const (.int .i64 1)) = .int .i64 1 := (rfl : a.eval (.const (.int .i64 1)) = .int .i64 1)
    simp only [execOp, resolve, e0, e1]
    go_simp
   ·refine Eng.plain rfl rfl fun a w' H => ?_
    exact Eng.val (w1 := w') (v := .int .i64 (IntKind.i64.wrap ((k : Nat) + 1))) (Eng.run_move rfl (H.dep 0 17 (by kernel_rfl) rfl)) (Below.refl _ _) rfl
  intro act15 w15 T
  have h0_15 := (T.rest 0 (by kernel_rfl)).trans h0_14
  have h2_15 := (T.rest 2 (by kernel_rfl)).trans h2_14
  have h3_15 := (T.rest 3 (by kernel_rfl)).trans h3_14
  have h6_15 := (T.rest 6 (by kernel_rfl)).trans h6_14
  have h7_15 := (T.rest 7 (by kernel_rfl)).trans h7_14
  have Oa13_15 := Eng.own_below Oa13 T.below
  have h8_15 : act15.eval (.tmp 8) = .int .i64 (IntKind.i64.wrap ((k : Nat) + 1)) := T.done 1 8 rfl rfl
  have d15 := T.defers.trans d14
  have s15 := T.size.trans s14
  have bl15 := bl13.trans (T.below.mono bl13.size)
  have XE_15 := Pth.Each.below XE_13 T.below
  clear T
  refine Eng.tail_nil ?_
  exact ⟨_, by omega, k + 1, v_13, (vl ++ [v_11]), rfl, by omega, Oa13_15, by simp; omega, XE_15, d15, s15, bl15, h0_15, h2_15, (h3_15.trans (by first | rfl | (congr 1; rw [Eng.i64_id (by omega) (by omega)]; omega) | (simp; done))), h6_15, h7_15, (h8_15.trans (by first | rfl | (congr 1; rw [Eng.i64_id (by omega) (by omega)]; omega) | (simp; done)))⟩
 ·
  have c9 := Bq9.symm.trans hq
  clear hq
  have c9 := of_decide_eq_false c9
  refine wp_exit ?_
  refine wp_seq ?_
  refine Eng.regionS (Eng.still [fun u_ => u_ = v3, fun u_ => u_ = v3]) (fun _ => .plain) 2 0 19 s5 rfl (by kernel_rfl) (Eng.still_stable _) (Or.inr (Eng.still_any _)) ?_ ?_
  ·refine Eng.Steps.cons (fun _ => ?_) (Eng.Steps.cons (fun _ => ?_) (Eng.Steps.nil))
   ·refine Eng.plain rfl rfl fun a w' H => ?_
    exact Eng.val (w1 := w') (v := v3) (Eng.run_move rfl ((H.kept 3 (by kernel_rfl)).trans h3_5)) (Below.refl _ _) rfl
   ·refine Eng.plain rfl rfl fun a w' H => ?_
    exact Eng.val (w1 := w') (v := v3) (Eng.run_assign rfl (H.dep 0 18 (by kernel_rfl) rfl)) (Below.refl _ _) rfl
  intro act17 w17 T
  have Ot_17 := Eng.own_below Ot_5 T.below
  have h2_17 : act17.eval (.tmp 2) = v3 := T.done 1 2 rfl rfl
  have d17 := T.defers.trans d5
  have bl17 := bl5.trans (T.below.mono bl5.size)
  have XE_17 := Pth.Each.below XE_5 T.below
  clear T
  refine Eng.tail_nil ?_
  refine wp_ret ?_
  repeat (first | refine Eng.in_ret ?_ | refine Eng.then_ret ?_)
  obtain rfl : k = ps.length := by omega
  exact Eng.ret1 rfl d17 h2_17 ⟨_, vl, rfl, hvlk, by rw [← hvlk]; exact Ot_17, XE_17, bl17⟩
end Go.Proofs.YthgafcaoibfchaaDoor.X
end
section
namespace Go.Proofs.YthgafcaoibfchaaDoor.X
open Go Go.RowKit Go.Shelf Go.Proofs
set_option linter.unusedVariables false
theorem Pth.Each.mono {B B' : Nat} {ps : List (List Pth.Part)} {vs : List Value} {w : World} (h : Pth.Each B ps vs w) (hB : B' ≤ B) : Pth.Each B' ps vs w := ⟨h.len, fun i hi => Eng.own_mono (h.row i hi) hB⟩
end Go.Proofs.YthgafcaoibfchaaDoor.X
end
section
namespace Go.Proofs.YthgafcaoibfchaaDoorW.PrintWords
open Go.RowKit
section
variable {w w' u : World} {m B g : Nat} {o : Obj} {row : Option Nat} {S : Nat → Prop} {a : Addr} {v : Value}
theorem cell_at (hq : w.drewN m = w') (h : w.cell? a = some v) : w'.cell? a = some v := by subst hq; exact h
end
end Go.Proofs.YthgafcaoibfchaaDoorW.PrintWords
end
section
namespace Go.Proofs.YthgafcaoibfchaaDoorW.PrintWords
theorem Reps.one {α : Type} {R : α → List Value → Prop} {ps : List α} {cs : List Value} {p : α} {v : Value} (hp : R p [v]) (h : Reps R 1 ps cs) : Reps R 1 (p :: ps) (v :: cs) := by
  refine ⟨by simp [h.1], fun j q hq => ?_⟩
  cases j with
  | zero =>
    simp only [List.getElem?_cons_zero, Option.some.injEq] at hq
    subst hq
    simpa using hp
  | succ j =>
    simp only [List.getElem?_cons_succ] at hq
    have h1 := h.2 j q hq
    simpa [Nat.mul_one] using h1
end Go.Proofs.YthgafcaoibfchaaDoorW.PrintWords
end
section
namespace Go.Proofs.YthgafcaoibfchaaDoorW.PrintWords
open Go.RowKit
section
variable {P : Program} {ops : Array Oper} {rest : List Oper} {o : Oper} {a : Act} {Q : Exit → Act → World → Prop} {W : World}
theorem gate_guard (hw : Region.wanted o (yielded ops a.tmps) = true) (h : wpList P ops Q ({ o with guard := none } :: rest) a W) : wpList P ops Q (o :: rest) a W := by
  have h1 : Region.wanted { o with guard := none } (yielded ops a.tmps) = true := rfl
  unfold wpList at h ⊢
  rw [if_pos h1] at h
  rw [if_pos hw]
  exact h
end
end Go.Proofs.YthgafcaoibfchaaDoorW.PrintWords
end
section
namespace Go.Proofs.YthgafcaoibfchaaDoor.Nam
open Go.RowKit Go.Lib
def namedN (r : Nat) : Bool := (97 ≤ r && r ≤ 122) || (65 ≤ r && r ≤ 90) || (48 ≤ r && r ≤ 57) || r == 45 || r == 95
def nameByte (c : UInt8) : Bool := namedN c.toNat
end Go.Proofs.YthgafcaoibfchaaDoor.Nam
end
section
namespace Go.Proofs.YthgafcaoibfchaaDoor.X
open Go.RowKit Go.Proofs.YthgafcaoibfchaaDoorW.PrintWords Go.Proofs.YthgafcaoibfchaaDoorW.PrintLast Go.Proofs.YthgafcaoibfchaaDoorW.PrintMore
def lexname.g (t : ByteArray) : Bool := !(t.toList == ([] : List UInt8)) && decide (t.size ≤ 40) && t.data.toList.all Nam.nameByte
end Go.Proofs.YthgafcaoibfchaaDoor.X
end
section
namespace Go.Proofs.YthgafcaoibfchaaDoor.X
open Go.RowKit Go.WideMaps Go.Maps Go.Proofs.YthgafcaoibfchaaDoorW.PrintWords Go.Proofs.YthgafcaoibfchaaDoorW.PrintLast Go.Proofs.YthgafcaoibfchaaDoorW.PrintMore
set_option linter.unusedVariables false
set_option linter.unusedSimpArgs false
def rightB (pre : List (List UInt8)) : List ByteArray → Bool
  | [] => true
  | s :: t => lexname.g s && !decide (s.data.toList ∈ pre) && rightB (pre ++ [s.data.toList]) t
end Go.Proofs.YthgafcaoibfchaaDoor.X
end
section
namespace Go.Proofs.YthgafcaoibfchaaDoor.Z
open Go.RowKit Go.Proofs.YthgafcaoibfchaaDoorW.PrintWords Go.Proofs.YthgafcaoibfchaaDoorW.PrintLast Go.Proofs.YthgafcaoibfchaaDoorW.PrintMore
set_option linter.unusedVariables false
set_option linter.unusedSimpArgs false
def errW : Option Int → Value
  | none => .nilIface
  | some c => .iface 0 (.int .i64 c)
theorem errW_none : errW none = .nilIface := rfl
theorem errW_some (c : Int) : errW (some c) = .iface 0 (.int .i64 c) := rfl
theorem xbne_nil (l : List UInt8) : (l != []) = !l.isEmpty := by cases l <;> rfl
theorem xbeq_nil (l : List UInt8) : (l == []) = l.isEmpty := by cases l <;> rfl
theorem info3 : (Tryd.prog.info? 3).map (fun i => (i.zero, i.size, i.bytes)) = some (some (.int .i64 0), 1, 8) := by kernel_rfl
theorem info5 : (Tryd.prog.info? 5).map (fun i => (i.zero, i.size, i.bytes)) = some (some (.int .u8 0), 1, 1) := by kernel_rfl
end Go.Proofs.YthgafcaoibfchaaDoor.Z
end
section
namespace Go.Proofs.YthgafcaoibfchaaDoor.Z
open Go.RowKit Go.Proofs.YthgafcaoibfchaaDoorW.PrintWords Go.Proofs.YthgafcaoibfchaaDoorW.PrintLast Go.Proofs.YthgafcaoibfchaaDoorW.PrintMore
set_option linter.unusedVariables false
set_option linter.unusedSimpArgs false
def grilleref01_fits.l0 : Nat → List Int → List Int → Int → Option (Bool)
  | 0, _, _, _ => none
  | k + 1, x0, x1, x5 => if x5 < (x1.length : Int) then (if 0 ≤ x5 then (if (rd x1 x5) = 256 then (if x5 < (x0.length : Int) then (if (rd x0 x5) = 0 then (some false) else (if (rd x1 x5) < 256 then (if (wrap64 (rd x0 x5)) = (rd x1 x5) then (grilleref01_fits.l0 k x0 x1 (wrap64 (x5 + 1))) else (some false)) else (grilleref01_fits.l0 k x0 x1 (wrap64 (x5 + 1))))) else (none)) else (if (rd x1 x5) < 256 then (if x5 < (x0.length : Int) then (if (wrap64 (rd x0 x5)) = (rd x1 x5) then (grilleref01_fits.l0 k x0 x1 (wrap64 (x5 + 1))) else (some false)) else (none)) else (grilleref01_fits.l0 k x0 x1 (wrap64 (x5 + 1))))) else (none)) else (some true)
def grilleref01_fits.f (k : Nat) (l0 : List Int) (l1 : List Int) : Option (Bool) := if (l0.length : Int) < (l1.length : Int) then (some false) else (grilleref01_fits.l0 k l0 l1 0)
set_option maxHeartbeats 8000000 in
set_option maxRecDepth 100000 in
theorem grilleref01_fits.calls (k : Nat) (A0 : Option Addr) (c0 : Nat) (l0 : List Int) (A1 : Option Addr) (c1 : Nat) (l1 : List Int) (r : Bool) (w : World) (hr0 : Kd.C (Kd.int .u8) w A0 l0.length l0) (hc0 : l0.length ≤ c0) (hr1 : Kd.C (Kd.int .i64) w A1 l1.length l1) (hc1 : l1.length ≤ c1) (h : grilleref01_fits.f k l0 l1 = some r) :
    Calls Tryd.prog 153 #[.slice A0 l0.length c0, .slice A1 l1.length c1] w fun e w' => e = .returned (.bool r) ∧ Drawn0 w w' := by
  have HR0 := Aside0.mk hr0
  have HC0 := Aside0.mk hc0
  clear hr0 hc0
  have HR1 := Aside0.mk hr1
  have HC1 := Aside0.mk hc1
  clear hr1 hc1
  have H : (if (l0.length : Int) < (l1.length : Int) then (some false) else (grilleref01_fits.l0 k l0 l1 0)) = some r := h
  clear h
  by_cases c3 : (l0.length : Int) < (l1.length : Int)
  · rw [if_pos c3] at H
    have c3b0 : decide ((l0.length : Int) < (l1.length : Int)) = true := decide_eq_true c3
    have c3b1 : decide (l0.length < l1.length) = true := decide_eq_true (Int.ofNat_lt.mp c3)
    clear c3
    obtain rfl := Option.some.inj H
    go_enter Tryd.func153, Tryd.ntmps153
    go_wp2
    repeat (go_quiet (fail); try go_wp2)
    go_ret
    exact ⟨by first | rfl | (simp; done) | (simp [*]; done) | (simp [xbne_nil, xbeq_nil]; done), by repeat (first | exact Drawn0.refl _ | apply Drawn0.step)⟩
  · rw [if_neg c3] at H
    have c3b0 : decide ((l0.length : Int) < (l1.length : Int)) = false := decide_eq_false c3
    have c3b1 : decide (l0.length < l1.length) = false := decide_eq_false (fun h => c3 (Int.ofNat_lt.mpr h))
    clear c3
    have H' := Aside0.mk H
    clear H
    go_enter Tryd.func153, Tryd.ntmps153
    go_wp2
    repeat (go_quiet (fail); try go_wp2)
    go_loopg [5] k (fun kq v5 w' => ∃ (x5_1 : Int), v5 = .int .i64 x5_1 ∧ Aside0 (grilleref01_fits.l0 kq l0 l1 x5_1 = some r) ∧ Aside0 (kq ≤ k) ∧ Drawn0 w w')
    case atStart => exact ⟨(0), (by first | rfl | (simp; done) | (simp [*]; done) | (simp [xbne_nil, xbeq_nil]; done)), H', ⟨Nat.le_refl _⟩, by repeat (first | exact Drawn0.refl _ | apply Drawn0.step)⟩
    case round =>
      clear H'
      try clear c1
      try clear p2
      try clear c3
      try clear c3b0
      try clear c3b1
      obtain ⟨x5_1, rfl, HA, HK1, ⟨m1, rfl⟩⟩ := hrel
      cases gk with
      | zero => exact absurd HA.out (by simp [grilleref01_fits.l0])
      | succ k1 =>
        have H := HA.out
        clear HA
        simp only [grilleref01_fits.l0] at H
        by_cases c4 : x5_1 < (l1.length : Int)
        · rw [if_pos c4] at H
          have c4b0 : decide (x5_1 < (l1.length : Int)) = true := decide_eq_true c4
          clear c4
          by_cases c5 : 0 ≤ x5_1
          · rw [if_pos c5] at H
            have c5b0 : decide (0 ≤ x5_1) = true := decide_eq_true c5
            clear c5
            by_cases c6 : (rd l1 x5_1) = 256
            · rw [if_pos c6] at H
              have c6b0 : ((rd l1 x5_1) == 256) = true := beq_iff_eq.mpr c6
              have c6b1 : ((rd l1 x5_1) != 256) = false := bne_eq_false_iff_eq.mpr c6
              clear c6
              by_cases c7 : x5_1 < (l0.length : Int)
              · rw [if_pos c7] at H
                have c7b0 : decide (x5_1 < (l0.length : Int)) = true := decide_eq_true c7
                clear c7
                by_cases c8 : (rd l0 x5_1) = 0
                · rw [if_pos c8] at H
                  have c8b0 : ((rd l0 x5_1) == 0) = true := beq_iff_eq.mpr c8
                  have c8b1 : ((rd l0 x5_1) != 0) = false := bne_eq_false_iff_eq.mpr c8
                  clear c8
                  obtain rfl := Option.some.inj H
                  have p101 : 0 ≤ (x5_1 : Int) := of_decide_eq_true (by first | (with_reducible assumption) | assumption)
                  have q101 : x5_1 < (l1.length : Int) := of_decide_eq_true (by first | (with_reducible assumption) | assumption)
                  obtain ⟨ad101, e101, hx101_0⟩ := Kd.at_int HR1.out x5_1 p101 q101
                  cases e101
                  replace p101 := eq_true p101
                  replace q101 := eq_true q101
                  have p102 : 0 ≤ (x5_1 : Int) := of_decide_eq_true (by first | (with_reducible assumption) | assumption)
                  have q102 : x5_1 < (l0.length : Int) := of_decide_eq_true (by first | (with_reducible assumption) | assumption)
                  obtain ⟨ad102, e102, hx102_0⟩ := Kd.at_int HR0.out x5_1 p102 q102
                  cases e102
                  replace p102 := eq_true p102
                  replace q102 := eq_true q102
                  go_wp2
                  repeat (go_quiet (fail); try go_wp2)
                  go_ret
                  exact ⟨by first | rfl | (simp; done) | (simp [*]; done) | (simp [xbne_nil, xbeq_nil]; done), by repeat (first | exact Drawn0.refl _ | apply Drawn0.step)⟩
                · rw [if_neg c8] at H
                  have c8b0 : ((rd l0 x5_1) == 0) = false := beq_eq_false_iff_ne.mpr c8
                  have c8b1 : ((rd l0 x5_1) != 0) = true := bne_iff_ne.mpr c8
                  by_cases c9 : (rd l1 x5_1) < 256
                  · rw [if_pos c9] at H
                    have c9b0 : decide ((rd l1 x5_1) < 256) = true := decide_eq_true c9
                    clear c9
                    by_cases c10 : (wrap64 (rd l0 x5_1)) = (rd l1 x5_1)
                    · rw [if_pos c10] at H
                      have c10b0 : ((wrap64 (rd l0 x5_1)) == (rd l1 x5_1)) = true := beq_iff_eq.mpr c10
                      have c10b1 : ((wrap64 (rd l0 x5_1)) != (rd l1 x5_1)) = false := bne_eq_false_iff_eq.mpr c10
                      clear c10
                      have H' := Aside0.mk H
                      clear H
                      have p101 : 0 ≤ (x5_1 : Int) := of_decide_eq_true (by first | (with_reducible assumption) | assumption)
                      have q101 : x5_1 < (l1.length : Int) := of_decide_eq_true (by first | (with_reducible assumption) | assumption)
                      obtain ⟨ad101, e101, hx101_0⟩ := Kd.at_int HR1.out x5_1 p101 q101
                      cases e101
                      replace p101 := eq_true p101
                      replace q101 := eq_true q101
                      have p102 : 0 ≤ (x5_1 : Int) := of_decide_eq_true (by first | (with_reducible assumption) | assumption)
                      have q102 : x5_1 < (l0.length : Int) := of_decide_eq_true (by first | (with_reducible assumption) | assumption)
                      obtain ⟨ad102, e102, hx102_0⟩ := Kd.at_int HR0.out x5_1 p102 q102
                      cases e102
                      replace p102 := eq_true p102
                      replace q102 := eq_true q102
                      have p103 : 0 ≤ (x5_1 : Int) := of_decide_eq_true (by first | (with_reducible assumption) | assumption)
                      have q103 : x5_1 < (l1.length : Int) := of_decide_eq_true (by first | (with_reducible assumption) | assumption)
                      obtain ⟨ad103, e103, hx103_0⟩ := Kd.at_int HR1.out x5_1 p103 q103
                      obtain rfl : ad101 = ad103 := (by injection e103)
                      replace p103 := eq_true p103
                      replace q103 := eq_true q103
                      have p104 : 0 ≤ (x5_1 : Int) := of_decide_eq_true (by first | (with_reducible assumption) | assumption)
                      have q104 : x5_1 < (l0.length : Int) := of_decide_eq_true (by first | (with_reducible assumption) | assumption)
                      obtain ⟨ad104, e104, hx104_0⟩ := Kd.at_int HR0.out x5_1 p104 q104
                      obtain rfl : ad102 = ad104 := (by injection e104)
                      replace p104 := eq_true p104
                      replace q104 := eq_true q104
                      have p105 : 0 ≤ (x5_1 : Int) := of_decide_eq_true (by first | (with_reducible assumption) | assumption)
                      have q105 : x5_1 < (l1.length : Int) := of_decide_eq_true (by first | (with_reducible assumption) | assumption)
                      obtain ⟨ad105, e105, hx105_0⟩ := Kd.at_int HR1.out x5_1 p105 q105
                      obtain rfl : ad101 = ad105 := (by injection e105)
                      replace p105 := eq_true p105
                      replace q105 := eq_true q105
                      go_wp2
                      repeat (go_quiet (fail); try go_wp2)
                      go_roundg k1
                      case measure => have := HK1.out; omega
                      case rel => exact ⟨(wrap64 (x5_1 + 1)), (by first | rfl | (simp; done) | (simp [*]; done) | (simp [xbne_nil, xbeq_nil]; done)), H', ⟨by have := HK1.out; omega⟩, by repeat (first | exact Drawn0.refl _ | apply Drawn0.step)⟩
                    · rw [if_neg c10] at H
                      have c10b0 : ((wrap64 (rd l0 x5_1)) == (rd l1 x5_1)) = false := beq_eq_false_iff_ne.mpr c10
                      have c10b1 : ((wrap64 (rd l0 x5_1)) != (rd l1 x5_1)) = true := bne_iff_ne.mpr c10
                      obtain rfl := Option.some.inj H
                      have p101 : 0 ≤ (x5_1 : Int) := of_decide_eq_true (by first | (with_reducible assumption) | assumption)
                      have q101 : x5_1 < (l1.length : Int) := of_decide_eq_true (by first | (with_reducible assumption) | assumption)
                      obtain ⟨ad101, e101, hx101_0⟩ := Kd.at_int HR1.out x5_1 p101 q101
                      cases e101
                      replace p101 := eq_true p101
                      replace q101 := eq_true q101
                      have p102 : 0 ≤ (x5_1 : Int) := of_decide_eq_true (by first | (with_reducible assumption) | assumption)
                      have q102 : x5_1 < (l0.length : Int) := of_decide_eq_true (by first | (with_reducible assumption) | assumption)
                      obtain ⟨ad102, e102, hx102_0⟩ := Kd.at_int HR0.out x5_1 p102 q102
                      cases e102
                      replace p102 := eq_true p102
                      replace q102 := eq_true q102
                      have p103 : 0 ≤ (x5_1 : Int) := of_decide_eq_true (by first | (with_reducible assumption) | assumption)
                      have q103 : x5_1 < (l1.length : Int) := of_decide_eq_true (by first | (with_reducible assumption) | assumption)
                      obtain ⟨ad103, e103, hx103_0⟩ := Kd.at_int HR1.out x5_1 p103 q103
                      obtain rfl : ad101 = ad103 := (by injection e103)
                      replace p103 := eq_true p103
                      replace q103 := eq_true q103
                      have p104 : 0 ≤ (x5_1 : Int) := of_decide_eq_true (by first | (with_reducible assumption) | assumption)
                      have q104 : x5_1 < (l0.length : Int) := of_decide_eq_true (by first | (with_reducible assumption) | assumption)
                      obtain ⟨ad104, e104, hx104_0⟩ := Kd.at_int HR0.out x5_1 p104 q104
                      obtain rfl : ad102 = ad104 := (by injection e104)
                      replace p104 := eq_true p104
                      replace q104 := eq_true q104
                      have p105 : 0 ≤ (x5_1 : Int) := of_decide_eq_true (by first | (with_reducible assumption) | assumption)
                      have q105 : x5_1 < (l1.length : Int) := of_decide_eq_true (by first | (with_reducible assumption) | assumption)
                      obtain ⟨ad105, e105, hx105_0⟩ := Kd.at_int HR1.out x5_1 p105 q105
                      obtain rfl : ad101 = ad105 := (by injection e105)
                      replace p105 := eq_true p105
                      replace q105 := eq_true q105
                      go_wp2
                      repeat (go_quiet (fail); try go_wp2)
                      go_ret
                      exact ⟨by first | rfl | (simp; done) | (simp [*]; done) | (simp [xbne_nil, xbeq_nil]; done), by repeat (first | exact Drawn0.refl _ | apply Drawn0.step)⟩
                  · rw [if_neg c9] at H
                    have c9b0 : decide ((rd l1 x5_1) < 256) = false := decide_eq_false c9
                    clear c9
                    have H' := Aside0.mk H
                    clear H
                    have p101 : 0 ≤ (x5_1 : Int) := of_decide_eq_true (by first | (with_reducible assumption) | assumption)
                    have q101 : x5_1 < (l1.length : Int) := of_decide_eq_true (by first | (with_reducible assumption) | assumption)
                    obtain ⟨ad101, e101, hx101_0⟩ := Kd.at_int HR1.out x5_1 p101 q101
                    cases e101
                    replace p101 := eq_true p101
                    replace q101 := eq_true q101
                    have p102 : 0 ≤ (x5_1 : Int) := of_decide_eq_true (by first | (with_reducible assumption) | assumption)
                    have q102 : x5_1 < (l0.length : Int) := of_decide_eq_true (by first | (with_reducible assumption) | assumption)
                    obtain ⟨ad102, e102, hx102_0⟩ := Kd.at_int HR0.out x5_1 p102 q102
                    cases e102
                    replace p102 := eq_true p102
                    replace q102 := eq_true q102
                    have p103 : 0 ≤ (x5_1 : Int) := of_decide_eq_true (by first | (with_reducible assumption) | assumption)
                    have q103 : x5_1 < (l1.length : Int) := of_decide_eq_true (by first | (with_reducible assumption) | assumption)
                    obtain ⟨ad103, e103, hx103_0⟩ := Kd.at_int HR1.out x5_1 p103 q103
                    obtain rfl : ad101 = ad103 := (by injection e103)
                    replace p103 := eq_true p103
                    replace q103 := eq_true q103
                    go_wp2
                    repeat (go_quiet (fail); try go_wp2)
                    go_roundg k1
                    case measure => have := HK1.out; omega
                    case rel => exact ⟨(wrap64 (x5_1 + 1)), (by first | rfl | (simp; done) | (simp [*]; done) | (simp [xbne_nil, xbeq_nil]; done)), H', ⟨by have := HK1.out; omega⟩, by repeat (first | exact Drawn0.refl _ | apply Drawn0.step)⟩
              · rw [if_neg c7] at H
                exact absurd H (by simp)
            · rw [if_neg c6] at H
              have c6b0 : ((rd l1 x5_1) == 256) = false := beq_eq_false_iff_ne.mpr c6
              have c6b1 : ((rd l1 x5_1) != 256) = true := bne_iff_ne.mpr c6
              by_cases c11 : (rd l1 x5_1) < 256
              · rw [if_pos c11] at H
                have c11b0 : decide ((rd l1 x5_1) < 256) = true := decide_eq_true c11
                clear c11
                by_cases c12 : x5_1 < (l0.length : Int)
                · rw [if_pos c12] at H
                  have c12b0 : decide (x5_1 < (l0.length : Int)) = true := decide_eq_true c12
                  clear c12
                  by_cases c13 : (wrap64 (rd l0 x5_1)) = (rd l1 x5_1)
                  · rw [if_pos c13] at H
                    have c13b0 : ((wrap64 (rd l0 x5_1)) == (rd l1 x5_1)) = true := beq_iff_eq.mpr c13
                    have c13b1 : ((wrap64 (rd l0 x5_1)) != (rd l1 x5_1)) = false := bne_eq_false_iff_eq.mpr c13
                    clear c13
                    have H' := Aside0.mk H
                    clear H
                    have p101 : 0 ≤ (x5_1 : Int) := of_decide_eq_true (by first | (with_reducible assumption) | assumption)
                    have q101 : x5_1 < (l1.length : Int) := of_decide_eq_true (by first | (with_reducible assumption) | assumption)
                    obtain ⟨ad101, e101, hx101_0⟩ := Kd.at_int HR1.out x5_1 p101 q101
                    cases e101
                    replace p101 := eq_true p101
                    replace q101 := eq_true q101
                    have p106 : 0 ≤ (x5_1 : Int) := of_decide_eq_true (by first | (with_reducible assumption) | assumption)
                    have q106 : x5_1 < (l1.length : Int) := of_decide_eq_true (by first | (with_reducible assumption) | assumption)
                    obtain ⟨ad106, e106, hx106_0⟩ := Kd.at_int HR1.out x5_1 p106 q106
                    obtain rfl : ad101 = ad106 := (by injection e106)
                    replace p106 := eq_true p106
                    replace q106 := eq_true q106
                    have p107 : 0 ≤ (x5_1 : Int) := of_decide_eq_true (by first | (with_reducible assumption) | assumption)
                    have q107 : x5_1 < (l0.length : Int) := of_decide_eq_true (by first | (with_reducible assumption) | assumption)
                    obtain ⟨ad107, e107, hx107_0⟩ := Kd.at_int HR0.out x5_1 p107 q107
                    cases e107
                    replace p107 := eq_true p107
                    replace q107 := eq_true q107
                    have p108 : 0 ≤ (x5_1 : Int) := of_decide_eq_true (by first | (with_reducible assumption) | assumption)
                    have q108 : x5_1 < (l1.length : Int) := of_decide_eq_true (by first | (with_reducible assumption) | assumption)
                    obtain ⟨ad108, e108, hx108_0⟩ := Kd.at_int HR1.out x5_1 p108 q108
                    obtain rfl : ad101 = ad108 := (by injection e108)
                    replace p108 := eq_true p108
                    replace q108 := eq_true q108
                    go_wp2
                    repeat (go_quiet (fail); try go_wp2)
                    go_roundg k1
                    case measure => have := HK1.out; omega
                    case rel => exact ⟨(wrap64 (x5_1 + 1)), (by first | rfl | (simp; done) | (simp [*]; done) | (simp [xbne_nil, xbeq_nil]; done)), H', ⟨by have := HK1.out; omega⟩, by repeat (first | exact Drawn0.refl _ | apply Drawn0.step)⟩
                  · rw [if_neg c13] at H
                    have c13b0 : ((wrap64 (rd l0 x5_1)) == (rd l1 x5_1)) = false := beq_eq_false_iff_ne.mpr c13
                    have c13b1 : ((wrap64 (rd l0 x5_1)) != (rd l1 x5_1)) = true := bne_iff_ne.mpr c13
                    obtain rfl := Option.some.inj H
                    have p101 : 0 ≤ (x5_1 : Int) := of_decide_eq_true (by first | (with_reducible assumption) | assumption)
                    have q101 : x5_1 < (l1.length : Int) := of_decide_eq_true (by first | (with_reducible assumption) | assumption)
                    obtain ⟨ad101, e101, hx101_0⟩ := Kd.at_int HR1.out x5_1 p101 q101
                    cases e101
                    replace p101 := eq_true p101
                    replace q101 := eq_true q101
                    have p106 : 0 ≤ (x5_1 : Int) := of_decide_eq_true (by first | (with_reducible assumption) | assumption)
                    have q106 : x5_1 < (l1.length : Int) := of_decide_eq_true (by first | (with_reducible assumption) | assumption)
                    obtain ⟨ad106, e106, hx106_0⟩ := Kd.at_int HR1.out x5_1 p106 q106
                    obtain rfl : ad101 = ad106 := (by injection e106)
                    replace p106 := eq_true p106
                    replace q106 := eq_true q106
                    have p107 : 0 ≤ (x5_1 : Int) := of_decide_eq_true (by first | (with_reducible assumption) | assumption)
                    have q107 : x5_1 < (l0.length : Int) := of_decide_eq_true (by first | (with_reducible assumption) | assumption)
                    obtain ⟨ad107, e107, hx107_0⟩ := Kd.at_int HR0.out x5_1 p107 q107
                    cases e107
                    replace p107 := eq_true p107
                    replace q107 := eq_true q107
                    have p108 : 0 ≤ (x5_1 : Int) := of_decide_eq_true (by first | (with_reducible assumption) | assumption)
                    have q108 : x5_1 < (l1.length : Int) := of_decide_eq_true (by first | (with_reducible assumption) | assumption)
                    obtain ⟨ad108, e108, hx108_0⟩ := Kd.at_int HR1.out x5_1 p108 q108
                    obtain rfl : ad101 = ad108 := (by injection e108)
                    replace p108 := eq_true p108
                    replace q108 := eq_true q108
                    go_wp2
                    repeat (go_quiet (fail); try go_wp2)
                    go_ret
                    exact ⟨by first | rfl | (simp; done) | (simp [*]; done) | (simp [xbne_nil, xbeq_nil]; done), by repeat (first | exact Drawn0.refl _ | apply Drawn0.step)⟩
                · rw [if_neg c12] at H
                  exact absurd H (by simp)
              · rw [if_neg c11] at H
                have c11b0 : decide ((rd l1 x5_1) < 256) = false := decide_eq_false c11
                clear c11
                have H' := Aside0.mk H
                clear H
                have p101 : 0 ≤ (x5_1 : Int) := of_decide_eq_true (by first | (with_reducible assumption) | assumption)
                have q101 : x5_1 < (l1.length : Int) := of_decide_eq_true (by first | (with_reducible assumption) | assumption)
                obtain ⟨ad101, e101, hx101_0⟩ := Kd.at_int HR1.out x5_1 p101 q101
                cases e101
                replace p101 := eq_true p101
                replace q101 := eq_true q101
                have p106 : 0 ≤ (x5_1 : Int) := of_decide_eq_true (by first | (with_reducible assumption) | assumption)
                have q106 : x5_1 < (l1.length : Int) := of_decide_eq_true (by first | (with_reducible assumption) | assumption)
                obtain ⟨ad106, e106, hx106_0⟩ := Kd.at_int HR1.out x5_1 p106 q106
                obtain rfl : ad101 = ad106 := (by injection e106)
                replace p106 := eq_true p106
                replace q106 := eq_true q106
                go_wp2
                repeat (go_quiet (fail); try go_wp2)
                go_roundg k1
                case measure => have := HK1.out; omega
                case rel => exact ⟨(wrap64 (x5_1 + 1)), (by first | rfl | (simp; done) | (simp [*]; done) | (simp [xbne_nil, xbeq_nil]; done)), H', ⟨by have := HK1.out; omega⟩, by repeat (first | exact Drawn0.refl _ | apply Drawn0.step)⟩
          · rw [if_neg c5] at H
            exact absurd H (by simp)
        · rw [if_neg c4] at H
          have c4b0 : decide (x5_1 < (l1.length : Int)) = false := decide_eq_false c4
          clear c4
          obtain rfl := Option.some.inj H
          go_wp2
          repeat (go_quiet (fail); try go_wp2)
          go_ret
          exact ⟨by first | rfl | (simp; done) | (simp [*]; done) | (simp [xbne_nil, xbeq_nil]; done), by repeat (first | exact Drawn0.refl _ | apply Drawn0.step)⟩
end Go.Proofs.YthgafcaoibfchaaDoor.Z
end
section
namespace Go.Proofs.YthgafcaoibfchaaDoor.Z
open Go.RowKit Go.Proofs.YthgafcaoibfchaaDoorW.PrintWords Go.Proofs.YthgafcaoibfchaaDoorW.PrintLast Go.Proofs.YthgafcaoibfchaaDoorW.PrintMore
set_option linter.unusedVariables false
set_option linter.unusedSimpArgs false
def grilleref01_Detect.f (k : Nat) (l0 : List Int) : Option (Int × Int) := (grilleref01_fits.f k l0 (([0, 0, 254, 255] : List Int))).bind fun t112 => (if t112 = true then (some (4, 4)) else ((grilleref01_fits.f k l0 (([0, 0, 0, 256] : List Int))).bind fun t116 => (if t116 = true then (some (4, 0)) else ((grilleref01_fits.f k l0 (([255, 254, 0, 0] : List Int))).bind fun t120 => (if t120 = true then (some (3, 4)) else ((grilleref01_fits.f k l0 (([256, 0, 0, 0] : List Int))).bind fun t124 => (if t124 = true then (some (3, 0)) else ((grilleref01_fits.f k l0 (([254, 255] : List Int))).bind fun t128 => (if t128 = true then (some (2, 2)) else ((grilleref01_fits.f k l0 (([0, 256] : List Int))).bind fun t132 => (if t132 = true then (some (2, 0)) else ((grilleref01_fits.f k l0 (([255, 254] : List Int))).bind fun t136 => (if t136 = true then (some (1, 2)) else ((grilleref01_fits.f k l0 (([256, 0] : List Int))).bind fun t140 => (if t140 = true then (some (1, 0)) else ((grilleref01_fits.f k l0 (([239, 187, 191] : List Int))).bind fun t144 => (if t144 = true then (some (0, 3)) else (some (0, 0)))))))))))))))))))
def grilleref01_Character.f (a0 : Int) : Option (Bool) := if a0 ≥ 0 then (if a0 ≤ 1114111 then (if a0 < 55296 then (some true) else (some (decide (a0 > 57343)))) else (some false)) else (some false)
set_option maxHeartbeats 8000000 in
set_option maxRecDepth 100000 in
theorem grilleref01_Character.calls (a0 : Int) (r : Bool) (w : World) (h : grilleref01_Character.f a0 = some r) :
    Calls Tryd.prog 149 #[.int .i64 a0] w fun e w' => e = .returned (.bool r) ∧ Drawn0 w w' := by
  have H : (if a0 ≥ 0 then (if a0 ≤ 1114111 then (if a0 < 55296 then (some true) else (some (decide (a0 > 57343)))) else (some false)) else (some false)) = some r := h
  clear h
  by_cases c2 : a0 ≥ 0
  · rw [if_pos c2] at H
    have c2b0 : decide (0 ≤ a0) = true := decide_eq_true c2
    clear c2
    by_cases c3 : a0 ≤ 1114111
    · rw [if_pos c3] at H
      have c3b0 : decide (a0 ≤ 1114111) = true := decide_eq_true c3
      clear c3
      by_cases c4 : a0 < 55296
      · rw [if_pos c4] at H
        have c4b0 : decide (a0 < 55296) = true := decide_eq_true c4
        clear c4
        obtain rfl := Option.some.inj H
        go_enter Tryd.func149, Tryd.ntmps149
        go_wp2
        go_ret
        exact ⟨by first | rfl | (simp; done) | (simp [*]; done) | (simp [xbne_nil, xbeq_nil]; done), by repeat (first | exact Drawn0.refl _ | apply Drawn0.step)⟩
      · rw [if_neg c4] at H
        have c4b0 : decide (a0 < 55296) = false := decide_eq_false c4
        clear c4
        obtain rfl := Option.some.inj H
        go_enter Tryd.func149, Tryd.ntmps149
        go_wp2
        go_ret
        exact ⟨by first | rfl | (simp; done) | (simp [*]; done) | (simp [xbne_nil, xbeq_nil]; done), by repeat (first | exact Drawn0.refl _ | apply Drawn0.step)⟩
    · rw [if_neg c3] at H
      have c3b0 : decide (a0 ≤ 1114111) = false := decide_eq_false c3
      clear c3
      obtain rfl := Option.some.inj H
      go_enter Tryd.func149, Tryd.ntmps149
      go_wp2
      go_ret
      exact ⟨by first | rfl | (simp; done) | (simp [*]; done) | (simp [xbne_nil, xbeq_nil]; done), by repeat (first | exact Drawn0.refl _ | apply Drawn0.step)⟩
  · rw [if_neg c2] at H
    have c2b0 : decide (0 ≤ a0) = false := decide_eq_false c2
    clear c2
    obtain rfl := Option.some.inj H
    go_enter Tryd.func149, Tryd.ntmps149
    go_wp2
    go_ret
    exact ⟨by first | rfl | (simp; done) | (simp [*]; done) | (simp [xbne_nil, xbeq_nil]; done), by repeat (first | exact Drawn0.refl _ | apply Drawn0.step)⟩
end Go.Proofs.YthgafcaoibfchaaDoor.Z
end
section
namespace Go.Proofs.YthgafcaoibfchaaDoor.Z
open Go.RowKit Go.Proofs.YthgafcaoibfchaaDoorW.PrintWords Go.Proofs.YthgafcaoibfchaaDoorW.PrintLast Go.Proofs.YthgafcaoibfchaaDoorW.PrintMore
set_option linter.unusedVariables false
set_option linter.unusedSimpArgs false
mutual
def grilleref01_lead.j0 : Nat → Int → Bool → Option (Int × Int)
  | 0, _, _ => none
  | k + 1, x0, x8 => if x8 = true then (some (2, wrap64 (x0 - 192))) else (if x0 ≥ 224 then (grilleref01_lead.j1 k x0 (decide (x0 < 240))) else (grilleref01_lead.j1 k x0 false))
def grilleref01_lead.j1 : Nat → Int → Bool → Option (Int × Int)
  | 0, _, _ => none
  | k + 1, x0, x17 => if x17 = true then (some (3, wrap64 (x0 - 224))) else (if x0 ≥ 240 then (if x0 < 248 then (some (4, wrap64 (x0 - 240))) else (some (0, 0))) else (some (0, 0)))
end
def grilleref01_lead.f (k : Nat) (a0 : Int) : Option (Int × Int) := if a0 < 128 then (some (1, a0)) else (if a0 ≥ 192 then (grilleref01_lead.j0 k a0 (decide (a0 < 224))) else (grilleref01_lead.j0 k a0 false))
set_option maxHeartbeats 8000000 in
set_option maxRecDepth 100000 in
theorem grilleref01_lead.calls (k : Nat) (a0 : Int) (r1 : Int) (r2 : Int) (w : World) (h : grilleref01_lead.f k a0 = some (r1, r2)) :
    Calls Tryd.prog 154 #[.int .i64 a0] w fun e w' => e = .returned (.tuple #[.int .i64 r1, .int .i64 r2]) ∧ Drawn0 w w' := by
  have H : (if a0 < 128 then (some (1, a0)) else (if a0 ≥ 192 then (grilleref01_lead.j0 k a0 (decide (a0 < 224))) else (grilleref01_lead.j0 k a0 false))) = some (r1, r2) := h
  clear h
  by_cases c2 : a0 < 128
  · rw [if_pos c2] at H
    have c2b0 : decide (a0 < 128) = true := decide_eq_true c2
    clear c2
    simp only [Option.some.injEq, Prod.mk.injEq] at H
    obtain ⟨rfl, rfl⟩ := H
    go_enter Tryd.func154, Tryd.ntmps154
    go_wp2
    go_ret2
    exact ⟨by first | rfl | (simp; done) | (simp [*]; done) | (simp [xbne_nil, xbeq_nil]; done), by repeat (first | exact Drawn0.refl _ | apply Drawn0.step)⟩
  · rw [if_neg c2] at H
    have c2b0 : decide (a0 < 128) = false := decide_eq_false c2
    clear c2
    have HC3 := Aside0.mk H
    clear H
    go_enter Tryd.func154, Tryd.ntmps154
    go_upto_region 3 with (fail)
    go_cut [8] (fun v8 wc => ∃ (kq : Nat) (x8_2 : Bool), v8 = .bool x8_2 ∧ Aside0 (grilleref01_lead.j0 kq a0 x8_2 = some (r1, r2)) ∧ Aside0 (kq ≤ k) ∧ Drawn0 w wc)
    case first =>
      have H := HC3.out
      clear HC3
      by_cases c4 : a0 ≥ 192
      · rw [if_pos c4] at H
        have c4b0 : decide (192 ≤ a0) = true := decide_eq_true c4
        clear c4
        (first | rw [c4b0] | (simp only [i64_w, i32_w]; rw [c4b0]) | skip)
        have H' := Aside0.mk H
        clear H
        go_wp2
        go_meet
        case rel => exact ⟨_, (decide (a0 < 224)), (by first | rfl | (simp; done) | (simp [*]; done) | (simp [xbne_nil, xbeq_nil]; done)), H', ⟨by first | omega | exact Nat.le_refl _⟩, by repeat (first | exact Drawn0.refl _ | apply Drawn0.step)⟩
      · rw [if_neg c4] at H
        have c4b0 : decide (192 ≤ a0) = false := decide_eq_false c4
        clear c4
        (first | rw [c4b0] | (simp only [i64_w, i32_w]; rw [c4b0]) | skip)
        have H' := Aside0.mk H
        clear H
        go_wp2
        go_meet
        case rel => exact ⟨_, (false), (by first | rfl | (simp; done) | (simp [*]; done) | (simp [xbne_nil, xbeq_nil]; done)), H', ⟨by first | omega | exact Nat.le_refl _⟩, by repeat (first | exact Drawn0.refl _ | apply Drawn0.step)⟩
    case rest =>
      clear HC3
      try clear c1
      try clear c2
      try clear c2b0
      try clear p2
      try clear c4
      try clear c4b0
      obtain ⟨kq, x8_2, rfl, HA, HJ2, ⟨mc2, rfl⟩⟩ := hcut
      cases kq with
      | zero => exact absurd HA.out (by simp [grilleref01_lead.j0])
      | succ kj2 =>
        have H := HA.out
        clear HA
        simp only [grilleref01_lead.j0] at H
        by_cases c5 : x8_2 = true
        · subst c5
          have H1 : (some (2, wrap64 (a0 - 192))) = some (r1, r2) := by rw [if_pos rfl] at H; exact H
          clear H
          have H := H1
          clear H1
          simp only [Option.some.injEq, Prod.mk.injEq] at H
          obtain ⟨rfl, rfl⟩ := H
          go_wp2
          go_ret2
          exact ⟨by first | rfl | (simp; done) | (simp [*]; done) | (simp [xbne_nil, xbeq_nil]; done), by repeat (first | exact Drawn0.refl _ | apply Drawn0.step)⟩
        · replace c5 := Bool.eq_false_iff.mpr c5
          subst c5
          have H1 : (if a0 ≥ 224 then (grilleref01_lead.j1 kj2 a0 (decide (a0 < 240))) else (grilleref01_lead.j1 kj2 a0 false)) = some (r1, r2) := by rw [if_neg (show ¬ (false = true) by decide)] at H; exact H
          clear H
          have H := H1
          clear H1
          have HC6 := Aside0.mk H
          clear H
          go_upto_region 5 with (fail)
          go_cut [17] (fun v17 wc => ∃ (kq : Nat) (x17_5 : Bool), v17 = .bool x17_5 ∧ Aside0 (grilleref01_lead.j1 kq a0 x17_5 = some (r1, r2)) ∧ Aside0 (kq ≤ kj2) ∧ Drawn0 w wc)
          case first =>
            have H := HC6.out
            clear HC6
            by_cases c7 : a0 ≥ 224
            · rw [if_pos c7] at H
              have c7b0 : decide (224 ≤ a0) = true := decide_eq_true c7
              clear c7
              (first | rw [c7b0] | (simp only [i64_w, i32_w]; rw [c7b0]) | skip)
              have H' := Aside0.mk H
              clear H
              go_wp2
              go_meet
              case rel => exact ⟨_, (decide (a0 < 240)), (by first | rfl | (simp; done) | (simp [*]; done) | (simp [xbne_nil, xbeq_nil]; done)), H', ⟨by have := HJ2.out; first | omega | exact Nat.le_refl _⟩, by repeat (first | exact Drawn0.refl _ | apply Drawn0.step)⟩
            · rw [if_neg c7] at H
              have c7b0 : decide (224 ≤ a0) = false := decide_eq_false c7
              clear c7
              (first | rw [c7b0] | (simp only [i64_w, i32_w]; rw [c7b0]) | skip)
              have H' := Aside0.mk H
              clear H
              go_wp2
              go_meet
              case rel => exact ⟨_, (false), (by first | rfl | (simp; done) | (simp [*]; done) | (simp [xbne_nil, xbeq_nil]; done)), H', ⟨by have := HJ2.out; first | omega | exact Nat.le_refl _⟩, by repeat (first | exact Drawn0.refl _ | apply Drawn0.step)⟩
          case rest =>
            clear HC6
            try clear c1
            try clear c2
            try clear c2b0
            try clear p2
            try clear c4
            try clear c4b0
            try clear c5
            try clear p6
            try clear c7
            try clear c7b0
            try clear p2
            obtain ⟨kq, x17_5, rfl, HA, HJ5, ⟨mc5, rfl⟩⟩ := hcut
            cases kq with
            | zero => exact absurd HA.out (by simp [grilleref01_lead.j1])
            | succ kj5 =>
              have H := HA.out
              clear HA
              simp only [grilleref01_lead.j1] at H
              by_cases c8 : x17_5 = true
              · subst c8
                have H1 : (some (3, wrap64 (a0 - 224))) = some (r1, r2) := by rw [if_pos rfl] at H; exact H
                clear H
                have H := H1
                clear H1
                simp only [Option.some.injEq, Prod.mk.injEq] at H
                obtain ⟨rfl, rfl⟩ := H
                go_wp2
                go_ret2
                exact ⟨by first | rfl | (simp; done) | (simp [*]; done) | (simp [xbne_nil, xbeq_nil]; done), by repeat (first | exact Drawn0.refl _ | apply Drawn0.step)⟩
              · replace c8 := Bool.eq_false_iff.mpr c8
                subst c8
                have H1 : (if a0 ≥ 240 then (if a0 < 248 then (some (4, wrap64 (a0 - 240))) else (some (0, 0))) else (some (0, 0))) = some (r1, r2) := by rw [if_neg (show ¬ (false = true) by decide)] at H; exact H
                clear H
                have H := H1
                clear H1
                by_cases c9 : a0 ≥ 240
                · rw [if_pos c9] at H
                  have c9b0 : decide (240 ≤ a0) = true := decide_eq_true c9
                  clear c9
                  by_cases c10 : a0 < 248
                  · rw [if_pos c10] at H
                    have c10b0 : decide (a0 < 248) = true := decide_eq_true c10
                    clear c10
                    simp only [Option.some.injEq, Prod.mk.injEq] at H
                    obtain ⟨rfl, rfl⟩ := H
                    go_wp2
                    go_ret2
                    exact ⟨by first | rfl | (simp; done) | (simp [*]; done) | (simp [xbne_nil, xbeq_nil]; done), by repeat (first | exact Drawn0.refl _ | apply Drawn0.step)⟩
                  · rw [if_neg c10] at H
                    have c10b0 : decide (a0 < 248) = false := decide_eq_false c10
                    clear c10
                    simp only [Option.some.injEq, Prod.mk.injEq] at H
                    obtain ⟨rfl, rfl⟩ := H
                    go_wp2
                    go_ret2
                    exact ⟨by first | rfl | (simp; done) | (simp [*]; done) | (simp [xbne_nil, xbeq_nil]; done), by repeat (first | exact Drawn0.refl _ | apply Drawn0.step)⟩
                · rw [if_neg c9] at H
                  have c9b0 : decide (240 ≤ a0) = false := decide_eq_false c9
                  clear c9
                  simp only [Option.some.injEq, Prod.mk.injEq] at H
                  obtain ⟨rfl, rfl⟩ := H
                  go_wp2
                  go_ret2
                  exact ⟨by first | rfl | (simp; done) | (simp [*]; done) | (simp [xbne_nil, xbeq_nil]; done), by repeat (first | exact Drawn0.refl _ | apply Drawn0.step)⟩
def grilleref01_Bytes.f (a0 : Int) : Option (List Int) := if a0 < 128 then (some (([(a0) % 256] : List Int))) else (if a0 < 2048 then (some (([(wrap64 (192 + (wrap64 (Int.tdiv a0 64)))) % 256, (wrap64 (128 + (Int.tmod a0 64))) % 256] : List Int))) else (if a0 < 65536 then (some (([(wrap64 (224 + (wrap64 (Int.tdiv a0 4096)))) % 256, (wrap64 (128 + (Int.tmod (wrap64 (Int.tdiv a0 64)) 64))) % 256, (wrap64 (128 + (Int.tmod a0 64))) % 256] : List Int))) else (some (([(wrap64 (240 + (wrap64 (Int.tdiv a0 262144)))) % 256, (wrap64 (128 + (Int.tmod (wrap64 (Int.tdiv a0 4096)) 64))) % 256, (wrap64 (128 + (Int.tmod (wrap64 (Int.tdiv a0 64)) 64))) % 256, (wrap64 (128 + (Int.tmod a0 64))) % 256] : List Int)))))
set_option maxHeartbeats 8000000 in
set_option maxRecDepth 100000 in
theorem grilleref01_Bytes.calls (a0 : Int) (r : List Int) (w : World) (h : grilleref01_Bytes.f a0 = some r) :
    Calls Tryd.prog 155 #[.int .i64 a0] w fun e w' => ∃ v0_ : Value, e = .returned (v0_) ∧ Kd.R (Kd.int .u8) 5 w' w.heap.size (fun _ => True) v0_ r ∧ Below w.heap.size w w' := by
  have HB := Aside0.mk (Below.refl w.heap.size w)
  have H : (if a0 < 128 then (some (([(a0) % 256] : List Int))) else (if a0 < 2048 then (some (([(wrap64 (192 + (wrap64 (Int.tdiv a0 64)))) % 256, (wrap64 (128 + (Int.tmod a0 64))) % 256] : List Int))) else (if a0 < 65536 then (some (([(wrap64 (224 + (wrap64 (Int.tdiv a0 4096)))) % 256, (wrap64 (128 + (Int.tmod (wrap64 (Int.tdiv a0 64)) 64))) % 256, (wrap64 (128 + (Int.tmod a0 64))) % 256] : List Int))) else (some (([(wrap64 (240 + (wrap64 (Int.tdiv a0 262144)))) % 256, (wrap64 (128 + (Int.tmod (wrap64 (Int.tdiv a0 4096)) 64))) % 256, (wrap64 (128 + (Int.tmod (wrap64 (Int.tdiv a0 64)) 64))) % 256, (wrap64 (128 + (Int.tmod a0 64))) % 256] : List Int)))))) = some r := h
  clear h
  by_cases c2 : a0 < 128
  · rw [if_pos c2] at H
    have c2b0 : decide (a0 < 128) = true := decide_eq_true c2
    clear c2
    obtain ⟨y145, hy145⟩ : ∃ y_ : List Int, y_ = (([(a0) % 256] : List Int)) := ⟨_, rfl⟩
    replace H : (some y145) = some r := by first | (rw [hy145]; with_reducible exact H) | (have H2_ := (Option.bind_some _ _).symm.trans H; rw [hy145]; with_reducible exact H2_) | (have H2_ := (Option.bind_some _ _).symm.trans H; with_reducible exact H2_) | with_reducible exact H | (rw [hy145]; exact H) | exact H
    have Ny145 := Aside0.mk hy145
    clear hy145
    obtain rfl := Option.some.inj H
    go_enter Tryd.func155, Tryd.ntmps155
    go_wp2_with (first | ((with_reducible refine gate_dst (N := 8) rfl ?_); refine Kd.R_lit (Kd.int .u8) _ 5 ?hg (N := 8) ?hd (xs := ([(a0) % 256] : List Int)) (inner := [.int .u8 ((a0) % 256)]) (ok := fun _ => True) (okp := fun _ => True) ?hr ?hp (fun _ hk => hk) trivial (Below.refl _ _) (Nat.le_refl _) (by simp) ?_; (case hd => rfl); (case hg => rfl); (case hr => first | (go_simp; done) | (go_simp; rfl)); (case hp => exact (Reps.one (show Kd.M (Kd.int .u8) _ _ _ ((a0) % 256) [.int .u8 ((a0) % 256)] from rfl) (Reps.none _ _))); intro v146 w3 ho4 hb hg_ hnew_; clear hg_ hnew_; (first | rw [← Ny145.out] at ho4 | (simp only [Int.reduceToNat] at ho4; rw [← Ny145.out] at ho4)); have n0_ := Aside0.mk (Kd.R_lower ho4 (below_size (by repeat (first | (with_reducible first | exact HB.out | apply below_alloc | apply pw_below_drewN | apply below_drew1) | exact HB.out)))); have n1_ := Aside0.mk (below_step (by repeat (first | (with_reducible first | exact HB.out | apply below_alloc | apply pw_below_drewN | apply below_drew1) | exact HB.out)) hb); clear HB; have HO147 := n0_; have HB := n1_; clear n0_ n1_; clear hb ho4))
    go_ret
    exact ⟨_, by first | rfl | (simp [errW_none, errW_some] <;> rfl) | (simp [*, errW_none, errW_some] <;> rfl), by (with_reducible repeat (first | apply Kd.R_alloc | apply Kd.R_drewN | apply Kd.R_drew)); exact HO147.out, by repeat (first | (with_reducible first | exact HB.out | apply below_alloc | apply pw_below_drewN | apply below_drew1) | exact HB.out)⟩
  · rw [if_neg c2] at H
    have c2b0 : decide (a0 < 128) = false := decide_eq_false c2
    clear c2
    by_cases c5 : a0 < 2048
    · rw [if_pos c5] at H
      have c5b0 : decide (a0 < 2048) = true := decide_eq_true c5
      clear c5
      obtain ⟨y148, hy148⟩ : ∃ y_ : List Int, y_ = (([(wrap64 (192 + (wrap64 (Int.tdiv a0 64)))) % 256, (wrap64 (128 + (Int.tmod a0 64))) % 256] : List Int)) := ⟨_, rfl⟩
      replace H : (some y148) = some r := by first | (rw [hy148]; with_reducible exact H) | (have H2_ := (Option.bind_some _ _).symm.trans H; rw [hy148]; with_reducible exact H2_) | (have H2_ := (Option.bind_some _ _).symm.trans H; with_reducible exact H2_) | with_reducible exact H | (rw [hy148]; exact H) | exact H
      have Ny148 := Aside0.mk hy148
      clear hy148
      obtain rfl := Option.some.inj H
      go_enter Tryd.func155, Tryd.ntmps155
      go_wp2_with (first | ((with_reducible refine gate_dst (N := 20) rfl ?_); refine Kd.R_lit (Kd.int .u8) _ 5 ?hg (N := 20) ?hd (xs := ([(wrap64 (192 + (wrap64 (Int.tdiv a0 64)))) % 256, (wrap64 (128 + (Int.tmod a0 64))) % 256] : List Int)) (inner := [.int .u8 ((wrap64 (192 + (wrap64 (Int.tdiv a0 64)))) % 256), .int .u8 ((wrap64 (128 + (Int.tmod a0 64))) % 256)]) (ok := fun _ => True) (okp := fun _ => True) ?hr ?hp (fun _ hk => hk) trivial (Below.refl _ _) (Nat.le_refl _) (by simp) ?_; (case hd => rfl); (case hg => rfl); (case hr => first | (go_simp; done) | (go_simp; rfl)); (case hp => exact (Reps.one (show Kd.M (Kd.int .u8) _ _ _ ((wrap64 (192 + (wrap64 (Int.tdiv a0 64)))) % 256) [.int .u8 ((wrap64 (192 + (wrap64 (Int.tdiv a0 64)))) % 256)] from rfl) (Reps.one (show Kd.M (Kd.int .u8) _ _ _ ((wrap64 (128 + (Int.tmod a0 64))) % 256) [.int .u8 ((wrap64 (128 + (Int.tmod a0 64))) % 256)] from rfl) (Reps.none _ _)))); intro v149 w6 ho7 hb hg_ hnew_; clear hg_ hnew_; (first | rw [← Ny148.out] at ho7 | (simp only [Int.reduceToNat] at ho7; rw [← Ny148.out] at ho7)); have n0_ := Aside0.mk (Kd.R_lower ho7 (below_size (by repeat (first | (with_reducible first | exact HB.out | apply below_alloc | apply pw_below_drewN | apply below_drew1) | exact HB.out)))); have n1_ := Aside0.mk (below_step (by repeat (first | (with_reducible first | exact HB.out | apply below_alloc | apply pw_below_drewN | apply below_drew1) | exact HB.out)) hb); clear HB; have HO150 := n0_; have HB := n1_; clear n0_ n1_; clear hb ho7))
      go_ret
      exact ⟨_, by first | rfl | (simp [errW_none, errW_some] <;> rfl) | (simp [*, errW_none, errW_some] <;> rfl), by (with_reducible repeat (first | apply Kd.R_alloc | apply Kd.R_drewN | apply Kd.R_drew)); exact HO150.out, by repeat (first | (with_reducible first | exact HB.out | apply below_alloc | apply pw_below_drewN | apply below_drew1) | exact HB.out)⟩
    · rw [if_neg c5] at H
      have c5b0 : decide (a0 < 2048) = false := decide_eq_false c5
      clear c5
      by_cases c8 : a0 < 65536
      · rw [if_pos c8] at H
        have c8b0 : decide (a0 < 65536) = true := decide_eq_true c8
        clear c8
        obtain ⟨y151, hy151⟩ : ∃ y_ : List Int, y_ = (([(wrap64 (224 + (wrap64 (Int.tdiv a0 4096)))) % 256, (wrap64 (128 + (Int.tmod (wrap64 (Int.tdiv a0 64)) 64))) % 256, (wrap64 (128 + (Int.tmod a0 64))) % 256] : List Int)) := ⟨_, rfl⟩
        replace H : (some y151) = some r := by first | (rw [hy151]; with_reducible exact H) | (have H2_ := (Option.bind_some _ _).symm.trans H; rw [hy151]; with_reducible exact H2_) | (have H2_ := (Option.bind_some _ _).symm.trans H; with_reducible exact H2_) | with_reducible exact H | (rw [hy151]; exact H) | exact H
        have Ny151 := Aside0.mk hy151
        clear hy151
        obtain rfl := Option.some.inj H
        go_enter Tryd.func155, Tryd.ntmps155
        go_wp2_with (first | ((with_reducible refine gate_dst (N := 37) rfl ?_); refine Kd.R_lit (Kd.int .u8) _ 5 ?hg (N := 37) ?hd (xs := ([(wrap64 (224 + (wrap64 (Int.tdiv a0 4096)))) % 256, (wrap64 (128 + (Int.tmod (wrap64 (Int.tdiv a0 64)) 64))) % 256, (wrap64 (128 + (Int.tmod a0 64))) % 256] : List Int)) (inner := [.int .u8 ((wrap64 (224 + (wrap64 (Int.tdiv a0 4096)))) % 256), .int .u8 ((wrap64 (128 + (Int.tmod (wrap64 (Int.tdiv a0 64)) 64))) % 256), .int .u8 ((wrap64 (128 + (Int.tmod a0 64))) % 256)]) (ok := fun _ => True) (okp := fun _ => True) ?hr ?hp (fun _ hk => hk) trivial (Below.refl _ _) (Nat.le_refl _) (by simp) ?_; (case hd => rfl); (case hg => rfl); (case hr => first | (go_simp; done) | (go_simp; rfl)); (case hp => exact (Reps.one (show Kd.M (Kd.int .u8) _ _ _ ((wrap64 (224 + (wrap64 (Int.tdiv a0 4096)))) % 256) [.int .u8 ((wrap64 (224 + (wrap64 (Int.tdiv a0 4096)))) % 256)] from rfl) (Reps.one (show Kd.M (Kd.int .u8) _ _ _ ((wrap64 (128 + (Int.tmod (wrap64 (Int.tdiv a0 64)) 64))) % 256) [.int .u8 ((wrap64 (128 + (Int.tmod (wrap64 (Int.tdiv a0 64)) 64))) % 256)] from rfl) (Reps.one (show Kd.M (Kd.int .u8) _ _ _ ((wrap64 (128 + (Int.tmod a0 64))) % 256) [.int .u8 ((wrap64 (128 + (Int.tmod a0 64))) % 256)] from rfl) (Reps.none _ _))))); intro v152 w9 ho10 hb hg_ hnew_; clear hg_ hnew_; (first | rw [← Ny151.out] at ho10 | (simp only [Int.reduceToNat] at ho10; rw [← Ny151.out] at ho10)); have n0_ := Aside0.mk (Kd.R_lower ho10 (below_size (by repeat (first | (with_reducible first | exact HB.out | apply below_alloc | apply pw_below_drewN | apply below_drew1) | exact HB.out)))); have n1_ := Aside0.mk (below_step (by repeat (first | (with_reducible first | exact HB.out | apply below_alloc | apply pw_below_drewN | apply below_drew1) | exact HB.out)) hb); clear HB; have HO153 := n0_; have HB := n1_; clear n0_ n1_; clear hb ho10))
        go_ret
        exact ⟨_, by first | rfl | (simp [errW_none, errW_some] <;> rfl) | (simp [*, errW_none, errW_some] <;> rfl), by (with_reducible repeat (first | apply Kd.R_alloc | apply Kd.R_drewN | apply Kd.R_drew)); exact HO153.out, by repeat (first | (with_reducible first | exact HB.out | apply below_alloc | apply pw_below_drewN | apply below_drew1) | exact HB.out)⟩
      · rw [if_neg c8] at H
        have c8b0 : decide (a0 < 65536) = false := decide_eq_false c8
        clear c8
        obtain ⟨y154, hy154⟩ : ∃ y_ : List Int, y_ = (([(wrap64 (240 + (wrap64 (Int.tdiv a0 262144)))) % 256, (wrap64 (128 + (Int.tmod (wrap64 (Int.tdiv a0 4096)) 64))) % 256, (wrap64 (128 + (Int.tmod (wrap64 (Int.tdiv a0 64)) 64))) % 256, (wrap64 (128 + (Int.tmod a0 64))) % 256] : List Int)) := ⟨_, rfl⟩
        replace H : (some y154) = some r := by first | (rw [hy154]; with_reducible exact H) | (have H2_ := (Option.bind_some _ _).symm.trans H; rw [hy154]; with_reducible exact H2_) | (have H2_ := (Option.bind_some _ _).symm.trans H; with_reducible exact H2_) | with_reducible exact H | (rw [hy154]; exact H) | exact H
        have Ny154 := Aside0.mk hy154
        clear hy154
        obtain rfl := Option.some.inj H
        go_enter Tryd.func155, Tryd.ntmps155
        go_wp2_with (first | ((with_reducible refine gate_dst (N := 56) rfl ?_); refine Kd.R_lit (Kd.int .u8) _ 5 ?hg (N := 56) ?hd (xs := ([(wrap64 (240 + (wrap64 (Int.tdiv a0 262144)))) % 256, (wrap64 (128 + (Int.tmod (wrap64 (Int.tdiv a0 4096)) 64))) % 256, (wrap64 (128 + (Int.tmod (wrap64 (Int.tdiv a0 64)) 64))) % 256, (wrap64 (128 + (Int.tmod a0 64))) % 256] : List Int)) (inner := [.int .u8 ((wrap64 (240 + (wrap64 (Int.tdiv a0 262144)))) % 256), .int .u8 ((wrap64 (128 + (Int.tmod (wrap64 (Int.tdiv a0 4096)) 64))) % 256), .int .u8 ((wrap64 (128 + (Int.tmod (wrap64 (Int.tdiv a0 64)) 64))) % 256), .int .u8 ((wrap64 (128 + (Int.tmod a0 64))) % 256)]) (ok := fun _ => True) (okp := fun _ => True) ?hr ?hp (fun _ hk => hk) trivial (Below.refl _ _) (Nat.le_refl _) (by simp) ?_; (case hd => rfl); (case hg => rfl); (case hr => first | (go_simp; done) | (go_simp; rfl)); (case hp => exact (Reps.one (show Kd.M (Kd.int .u8) _ _ _ ((wrap64 (240 + (wrap64 (Int.tdiv a0 262144)))) % 256) [.int .u8 ((wrap64 (240 + (wrap64 (Int.tdiv a0 262144)))) % 256)] from rfl) (Reps.one (show Kd.M (Kd.int .u8) _ _ _ ((wrap64 (128 + (Int.tmod (wrap64 (Int.tdiv a0 4096)) 64))) % 256) [.int .u8 ((wrap64 (128 + (Int.tmod (wrap64 (Int.tdiv a0 4096)) 64))) % 256)] from rfl) (Reps.one (show Kd.M (Kd.int .u8) _ _ _ ((wrap64 (128 + (Int.tmod (wrap64 (Int.tdiv a0 64)) 64))) % 256) [.int .u8 ((wrap64 (128 + (Int.tmod (wrap64 (Int.tdiv a0 64)) 64))) % 256)] from rfl) (Reps.one (show Kd.M (Kd.int .u8) _ _ _ ((wrap64 (128 + (Int.tmod a0 64))) % 256) [.int .u8 ((wrap64 (128 + (Int.tmod a0 64))) % 256)] from rfl) (Reps.none _ _)))))); intro v155 w11 ho12 hb hg_ hnew_; clear hg_ hnew_; (first | rw [← Ny154.out] at ho12 | (simp only [Int.reduceToNat] at ho12; rw [← Ny154.out] at ho12)); have n0_ := Aside0.mk (Kd.R_lower ho12 (below_size (by repeat (first | (with_reducible first | exact HB.out | apply below_alloc | apply pw_below_drewN | apply below_drew1) | exact HB.out)))); have n1_ := Aside0.mk (below_step (by repeat (first | (with_reducible first | exact HB.out | apply below_alloc | apply pw_below_drewN | apply below_drew1) | exact HB.out)) hb); clear HB; have HO156 := n0_; have HB := n1_; clear n0_ n1_; clear hb ho12))
        go_ret
        exact ⟨_, by first | rfl | (simp [errW_none, errW_some] <;> rfl) | (simp [*, errW_none, errW_some] <;> rfl), by (with_reducible repeat (first | apply Kd.R_alloc | apply Kd.R_drewN | apply Kd.R_drew)); exact HO156.out, by repeat (first | (with_reducible first | exact HB.out | apply below_alloc | apply pw_below_drewN | apply below_drew1) | exact HB.out)⟩
end Go.Proofs.YthgafcaoibfchaaDoor.Z
end
