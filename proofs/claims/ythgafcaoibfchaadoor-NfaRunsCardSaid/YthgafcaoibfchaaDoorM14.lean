/- Words and walks that the row of NfaRuns needs: printed by programs, and plain laws. -/
import Derived.Test.YthgafcaoibfchaaDoorM13
import Derived.Test.YthgafcaoibfchaaDoorM5
import Derived.Test.YthgafcaoibfchaaDoorProg
import Derived.Below
import Derived.Deep.Draws
import Derived.Deep.AppendLies
import Derived.Maps.AppendAt
import Derived.OwnWalk
import Derived.Laws.BytesArg
import Derived.Laws.MakeOwn
import Derived.Laws.OwnMore
import Derived.Deep.OwnRows
import Derived.Tactics
import Derived.Lib.ConvBytes
import Derived.Laws.Slices
import Derived.WalkKit
import Derived.KernelRfl
import Derived.RowKit3
import Derived.Deep.LoopGhost
import Derived.Deep.QuietTactic
import Derived.BigQuiet
import Derived.WideLaws
import Derived.Deep.DeepCutAuto
import Derived.Deep.CutBlock
import Derived.Deep.RegionHeld3
import Derived.Laws.Rows
import Derived.Lib.AppendStr
import Derived.ArgAppend
import Derived.Laws.IdiomCopy
import Derived.OrdersHeld
import Derived.Laws.BitsLemmas
import Derived.RowKit
import Derived.Shelf.Strings.Builder1
import Derived.Shelf.Strings.Builder2
import Derived.Shelf.Strings.OnBuilder
import Derived.Shelf.Strings.Trim
import Derived.Shelf.Small.Utf8
import Derived.Shelf.Small.Strs
import Derived.Shelf.Strings.BuilderF
import Derived.Shelf.Strings.BuilderK
import Derived.Shelf.Strings.Builder2Cap
import Derived.Shelf.Strconv.Itoa0
import Derived.Shelf.Strings.Search1
import Derived.Shelf.Strings.Search2
import Derived.Shelf.Strings.Search3
import Derived.Shelf.Strings.Cut
import Derived.Shelf.LaysM
import Derived.Shelf.Strings.Shaped
import Derived.Shelf.GgClosure.StringsIndexFunc
import Derived.Ground.GgwProg
import Derived.Shelf.GgClosure.StringsIndexFuncTop
import Derived.Shelf.Unicode.Decode
import Derived.Shelf.Strings.Runes
import Derived.Shelf.Strings.AsciiSet
import Derived.Shelf.Unicode.DecodeSlow
import Derived.Shelf.Unicode.DecodeAny
import Derived.Shelf.Unicode.DecodeLast
import Derived.Shelf.Strings.BuilderCap
import Derived.Shelf.Slices.Turned
import Derived.Shelf.Slices.Equal
import Derived.Ground.Names2Prog
import Derived.Shelf.Slices.Clone
import Derived.Ground.SlgnProg
import Derived.Shelf.SlicesE.Clone
import Derived.Lib.DecodeN
import Derived.Lib.Strings
import Derived.Shelf.Strings.SlTrimAscii
import Derived.Test.YthgafcaoibfchaaDoorM10
import Derived.Test.YthgafcaoibfchaaDoorM0
import Derived.Laws.StructEq
import Derived.RangeFuncNested
import Derived.RangeFuncBound
import Derived.RangeFuncCalls
import Derived.RangeFuncLeaves
import Derived.Shelf.Abstract
import Derived.Shelf.RegionOpen
import Derived.OwnWalkIn
import Derived.TacticsInMore
import Derived.LoopNIn
import Derived.LoopIn
import Derived.Laws.ResultCell
namespace Go.Proofs.YthgafcaoibfchaaDoorW.PrintWords
end Go.Proofs.YthgafcaoibfchaaDoorW.PrintWords
namespace Go.Proofs.YthgafcaoibfchaaDoorW.PrintLast
end Go.Proofs.YthgafcaoibfchaaDoorW.PrintLast
namespace Go.Proofs.YthgafcaoibfchaaDoorW.PrintMore
end Go.Proofs.YthgafcaoibfchaaDoorW.PrintMore
namespace Go.Proofs.YthgafcaoibfchaaDoor.Spl
end Go.Proofs.YthgafcaoibfchaaDoor.Spl
section
namespace Go.Proofs.YthgafcaoibfchaaDoor.X
open Go.RowKit Go.Shelf Go.Proofs Go.Proofs.YthgafcaoibfchaaDoorW.PrintWords Go.Proofs.YthgafcaoibfchaaDoorW.PrintLast Go.Proofs.YthgafcaoibfchaaDoorW.PrintMore
set_option linter.unusedVariables false
set_option linter.unusedSimpArgs false
set_option maxHeartbeats 4000000 in
set_option maxRecDepth 100000 in
theorem Nfa.rmake_calls (pa : Value) (ps : List (List Pth.Part)) (us : List Value) (w : World) (hul : us.length = ps.length) (hp : Eng.Reads w pa ps.length 1 us) (hin : ∀ k, k < ps.length → Eng.Reads w (us.getD k undef) (ps.getD k []).length 2 (Pth.cellsP (ps.getD k []))) (hpl : ps.length ≤ 1000000) (hok : Nfa.Ok ps) (hr : ∀ k, k < ps.length → Pth.rightB (ps.getD k []) = true) : Calls Tryd.prog 39 #[pa] w fun e w' => ∃ pv bv, e = .returned (.tuple #[.agg #[pv, bv, .int .i64 (Nfa.many ps ps.length)], .int .i64 0]) ∧ w'.ownsRow w.heap.size 118 1 pv us.length us ∧ w'.ownsRow w.heap.size 3 1 bv (Nfa.begs ps ps.length).length (Nfa.ints (Nfa.begs ps ps.length)) ∧ Below w.heap.size w w' := by
 have hm := Eng.Reads.len_le hp
 refine Eng.enter Tryd.func39 rfl fun act0 d0 s0 v0 => ?_
 have s0 : act0.tmps.size = 58 := s0
 have h0_0 : act0.eval (.tmp 0) = pa := v0 0 (by simp)
 clear v0
 have bl0 : Below w.heap.size w w := Below.refl _ _
 refine wp_seq ?_
 refine Eng.regionS (Eng.still [fun u_ => True, fun u_ => u_ = .int .i64 0]) (fun i => ([.alloc 71 #[.slice none 0 0, .slice none 0 0, .int .i64 0], .plain] : List Eng.Kind).getD i .plain) 2 0 58 s0 rfl (by kernel_rfl) (Eng.still_stable _) (Or.inr (Eng.still_any _)) ?_ ?_
 ·refine Eng.Steps.cons (fun _ => ?_) (Eng.Steps.cons (fun _ => ?_) (Eng.Steps.nil))
  ·refine Eng.made rfl (by simp) rfl (fun a w' hd ho => ?_) (fun _ _ => trivial)
   simp only [execOp]
   go_simp
  ·refine Eng.plain rfl rfl fun a w' H => ?_
   exact Eng.val (w1 := w') (v := .int .i64 0) (Eng.run_assign rfl (rfl : a.eval (.const (.int .i64 0)) = .int .i64 0)) (Below.refl _ _) rfl
 intro act1 w1 T
 have h0_1 := (T.rest 0 (by kernel_rfl)).trans h0_0
 obtain ⟨g2_1, h2_1, rg2_1, lg2_1_1, kg2_1_1⟩ := T.al 0 2 _ _ rfl rfl rfl (by kernel_rfl)
 have og2_1 : w.heap.size ≤ g2_1 := Nat.le_trans bl0.size rg2_1
 have d1 := T.defers.trans d0
 have s1 := T.size.trans s0
 have bl1 := bl0.trans (T.below.mono bl0.size)
 clear T
 refine Eng.tail_nil ?_
 refine wp_seq ?_
 refine Eng.regionS (Eng.still [fun u_ => u_ = .agg #[.slice none 0 0, .slice none 0 0, .int .i64 0], fun u_ => True, fun u_ => True]) (fun i => ([.plain, .alloc 71 #[.slice none 0 0, .slice none 0 0, .int .i64 0], .store 1 #[.slice none 0 0, .slice none 0 0, .int .i64 0]] : List Eng.Kind).getD i .plain) 3 0 58 s1 rfl (by kernel_rfl) (Eng.still_stable _) (Or.inr (Eng.still_any _)) ?_ ?_
 ·refine Eng.Steps.cons (fun _ => ?_) (Eng.Steps.cons (fun _ => ?_) (Eng.Steps.cons (fun _ => ?_) (Eng.Steps.nil)))
  ·refine Eng.plain rfl rfl fun a w' H => ?_
   refine Eng.val (w1 := w') (v := .agg #[.slice none 0 0, .slice none 0 0, .int .i64 0]) ?_ (Below.refl _ _) rfl
   simp only [execOp, resolve]
   go_simp
  ·refine Eng.made rfl (by simp) rfl (fun a w' hd ho => ?_) (fun _ _ => trivial)
   simp only [execOp]
   go_simp
  ·refine Eng.stored [.slice none 0 0, .slice none 0 0, .int .i64 0] rfl rfl rfl (j := 1) (d := 4) (by kernel_rfl) rfl rfl (Eng.store_uniq (by kernel_rfl)) rfl rfl fun a w' g e hc hd ho => ?_
   have e0 : a.eval _ = .agg #[.slice none 0 0, .slice none 0 0, .int .i64 0] := (hd 0 7 (by kernel_rfl) rfl)
   have z0 := (Eng.cells hc 0).trans rfl
   have z1 := (Eng.cells hc 1).trans rfl
   have z2 := (Eng.cells hc 2).trans rfl
   have f0 := Eng.unfrozen hc 0
   have f1 := Eng.unfrozen hc 1
   have f2 := Eng.unfrozen hc 2
   simp only [execOp, e, e0]
   go_simp
   rfl
 intro act2 w2 T
 have h0_2 := (T.rest 0 (by kernel_rfl)).trans h0_1
 have h2_2 := (T.rest 2 (by kernel_rfl)).trans h2_1
 have kg2_1_2 := (T.below.block _ lg2_1_1).trans kg2_1_1
 have lg2_1_2 := Nat.lt_of_lt_of_le lg2_1_1 T.below.size
 obtain ⟨g4_2, h4_2, rg4_2, lg4_2_2, kg4_2_2⟩ := T.st 1 4 2 _ _ _ rfl rfl rfl rfl rfl
 have og4_2 : w.heap.size ≤ g4_2 := Nat.le_trans bl1.size rg4_2
 have ne_g4_2_g2_1 : g2_1 ≠ g4_2 := fun e => Nat.lt_irrefl _ (Nat.lt_of_lt_of_le (e ▸ lg2_1_1) rg4_2)
 have d2 := T.defers.trans d1
 have s2 := T.size.trans s1
 have bl2 := bl1.trans (T.below.mono bl1.size)
 clear T
 refine Eng.tail_nil ?_
 refine wp_seq ?_
 refine wp_seq ?_
 refine Eng.regionS (Eng.still [fun u_ => u_ = .int .i64 0]) (fun _ => .plain) 1 0 58 s2 rfl (by kernel_rfl) (Eng.still_stable _) (Or.inr (Eng.still_any _)) ?_ ?_
 ·refine Eng.Steps.cons (fun _ => ?_) (Eng.Steps.nil)
  ·refine Eng.plain rfl rfl fun a w' H => ?_
   exact Eng.val (w1 := w') (v := .int .i64 0) (Eng.run_assign rfl (rfl : a.eval (.const (.int .i64 0)) = .int .i64 0)) (Below.refl _ _) rfl
 intro act3 w3 T
 have h0_3 := (T.rest 0 (by kernel_rfl)).trans h0_2
 have h2_3 := (T.rest 2 (by kernel_rfl)).trans h2_2
 have h4_3 := (T.rest 4 (by kernel_rfl)).trans h4_2
 have kg2_1_3 := (T.below.block _ lg2_1_2).trans kg2_1_2
 have lg2_1_3 := Nat.lt_of_lt_of_le lg2_1_2 T.below.size
 have kg4_2_3 := (T.below.block _ lg4_2_2).trans kg4_2_2
 have lg4_2_3 := Nat.lt_of_lt_of_le lg4_2_2 T.below.size
 have h5_3 : act3.eval (.tmp 5) = .int .i64 0 := T.done 0 5 rfl rfl
 have d3 := T.defers.trans d2
 have s3 := T.size.trans s2
 have bl3 := bl2.trans (T.below.mono bl2.size)
 clear T
 refine Eng.tail_nil ?_
 refine wp_block ?_
 refine Eng.loopN (fun n a w' => ∃ (k : Nat), ps.length - k = n ∧ (k ≤ ps.length) ∧ a.defers = [] ∧ a.tmps.size = 58 ∧ Below w.heap.size w w' ∧ a.eval (.tmp 0) = pa ∧ a.eval (.tmp 2) = .pointer (some ⟨g2_1, 0, none⟩) ∧ a.eval (.tmp 4) = .pointer (some ⟨g4_2, 0, none⟩) ∧ a.eval (.tmp 5) = .int .i64 (k : Nat) ∧ w'.heap[g2_1]? = some (.cells (#[.slice none 0 0, .slice none 0 0, .int .i64 0]) 71 (0, 0)) ∧ g2_1 < w'.heap.size ∧ w'.heap[g4_2]? = some (.cells (#[.slice none 0 0, .slice none 0 0, .int .i64 0]) 71 (0, 0)) ∧ g4_2 < w'.heap.size) (n0 := ps.length - 0) ?_ ?_
 ·exact ⟨0, rfl, by omega, d3, s3, bl3, h0_3, h2_3, h4_3, (h5_3.trans (by first | rfl | (congr 1; rw [Eng.i64_id (by omega) (by omega)]; omega) | (simp; done))), kg2_1_3, lg2_1_3, kg4_2_3, lg4_2_3⟩
 rintro n act4 w4 ⟨k, rfl, hc0_4, d4, s4, bl4, h0_4, h2_4, h4_4, h5_4, kg2_1_4, lg2_1_4, kg4_2_4, lg4_2_4⟩
 have Fpp_4 := Eng.Reads.below hp bl4
 have hk1 := hc0_4
 refine wp_seq ?_
 refine wp_seq ?_
 obtain ⟨q11, Bq11⟩ : ∃ b : Bool, b = (decide ((k : Nat) < ((ps.length : Nat) : Int))) := ⟨_, rfl⟩
 refine Eng.regionS (Eng.still [fun u_ => u_ = .int .i64 (k : Nat), fun u_ => u_ = pa, fun u_ => u_ = .int .i64 ((ps.length : Nat) : Int), fun u_ => u_ = .bool q11]) (fun _ => .plain) 4 0 58 s4 rfl (by kernel_rfl) (Eng.still_stable _) (Or.inr (Eng.still_any _)) ?_ ?_
 ·refine Eng.Steps.cons (fun _ => ?_) (Eng.Steps.cons (fun _ => ?_) (Eng.Steps.cons (fun _ => ?_) (Eng.Steps.cons (fun _ => ?_) (Eng.Steps.nil))))
  ·refine Eng.plain rfl rfl fun a w' H => ?_
   exact Eng.val (w1 := w') (v := .int .i64 (k : Nat)) (Eng.run_move rfl ((H.kept 5 (by kernel_rfl)).trans h5_4)) (Below.refl _ _) rfl
  ·refine Eng.plain rfl rfl fun a w' H => ?_
   exact Eng.val (w1 := w') (v := pa) (Eng.run_move rfl ((H.kept 0 (by kernel_rfl)).trans h0_4)) (Below.refl _ _) rfl
  ·refine Eng.plain rfl rfl fun a w' H => ?_
   refine Eng.val (w1 := w') (v := .int .i64 ((ps.length : Nat) : Int)) ?_ (Below.refl _ _) rfl
   exact Eng.run_len_sl rfl Tryd.underlying59 (show a.eval (.tmp 9) = pa from (H.dep 1 9 (by kernel_rfl) rfl)) (Eng.Reads.below Fpp_4 H.below)
  ·refine Eng.plain rfl rfl fun a w' H => ?_
   refine Eng.val (w1 := w') (v := .bool (decide ((k : Nat) < ((ps.length : Nat) : Int)))) ?_ (Below.refl _ _) (by show _ = Value.bool q11; rw [Bq11])
   have e0 : a.eval (.tmp 8) = .int .i64 (k : Nat) := (H.dep 0 8 (by kernel_rfl) rfl)
   have e1 : a.eval (.tmp 10) = .int .i64 ((ps.length : Nat) : Int) := (H.dep 2 10 (by kernel_rfl) rfl)
   simp only [execOp, resolve, e0, e1]
   go_simp
 intro act5 w5 T
 have h0_5 := (T.rest 0 (by kernel_rfl)).trans h0_4
 have h2_5 := (T.rest 2 (by kernel_rfl)).trans h2_4
 have h4_5 := (T.rest 4 (by kernel_rfl)).trans h4_4
 have h5_5 := (T.rest 5 (by kernel_rfl)).trans h5_4
 have kg2_1_5 := (T.below.block _ lg2_1_4).trans kg2_1_4
 have lg2_1_5 := Nat.lt_of_lt_of_le lg2_1_4 T.below.size
 have kg4_2_5 := (T.below.block _ lg4_2_4).trans kg4_2_4
 have lg4_2_5 := Nat.lt_of_lt_of_le lg4_2_4 T.below.size
 have Fpp_5 := Eng.Reads.below Fpp_4 T.below
 have h11_5 : act5.eval (.tmp 11) = .bool q11 := T.done 3 11 rfl rfl
 have d5 := T.defers.trans d4
 have s5 := T.size.trans s4
 have bl5 := bl4.trans (T.below.mono bl4.size)
 clear T
 refine Eng.tail_nil ?_
 refine wp_cond_split h11_5 (fun hq => ?_) (fun hq => ?_)
 ·
  have c11 := Bq11.symm.trans hq
  clear hq
  have c11 := of_decide_eq_true c11
  have hk0 : k < ps.length := by omega
  have Fin0 := hin k hk0
  have hmi := Eng.Reads.len_le Fin0
  have Finn7 := Eng.Reads.below Fin0 bl5
  refine wp_skip ?_
  refine wp_seq ?_
  refine wp_block ?_
  refine wp_seq ?_
  obtain ⟨q18, Bq18⟩ : ∃ b : Bool, b = (true) := ⟨_, rfl⟩
  obtain ⟨q19, Bq19⟩ : ∃ b : Bool, b = (!q18) := ⟨_, rfl⟩
  refine Eng.regionS (Eng.still [fun u_ => u_ = pa, fun u_ => u_ = .int .i64 (k : Nat), fun u_ => u_ = Eng.elemPtr pa (k * 1), fun u_ => u_ = (us.getD k undef), fun u_ => u_ = .bool q18, fun u_ => u_ = .bool q19]) (fun _ => .plain) 6 0 58 s5 rfl (by kernel_rfl) (Eng.still_stable _) (Or.inr (Eng.still_any _)) ?_ ?_
  ·refine Eng.Steps.cons (fun _ => ?_) (Eng.Steps.cons (fun _ => ?_) (Eng.Steps.cons (fun _ => ?_) (Eng.Steps.cons (fun _ => ?_) (Eng.Steps.cons (fun _ => ?_) (Eng.Steps.cons (fun _ => ?_) (Eng.Steps.nil))))))
   ·refine Eng.plain rfl rfl fun a w' H => ?_
    exact Eng.val (w1 := w') (v := pa) (Eng.run_move rfl ((H.kept 0 (by kernel_rfl)).trans h0_5)) (Below.refl _ _) rfl
   ·refine Eng.plain rfl rfl fun a w' H => ?_
    exact Eng.val (w1 := w') (v := .int .i64 (k : Nat)) (Eng.run_move rfl ((H.kept 5 (by kernel_rfl)).trans h5_5)) (Below.refl _ _) rfl
   ·refine Eng.plain rfl rfl fun a w' H => ?_
    refine Eng.val (w1 := w') (v := Eng.elemPtr pa (k * 1)) ?_ (Below.refl _ _) rfl
    exact Eng.run_index_sl rfl Tryd.underlying59 (by kernel_rfl) (show a.eval (.tmp 14) = pa from (H.dep 0 14 (by kernel_rfl) rfl)) ((show a.eval (.tmp 15) = .int .i64 (k : Nat) from (H.dep 1 15 (by kernel_rfl) rfl)).trans (congrArg (Value.int _) (show (k : Nat) = ((k : Nat) : Int) from by omega))) (Eng.Reads.below Fpp_5 H.below) (by omega) rfl
   ·refine Eng.plain rfl rfl fun a w' H => ?_
    refine Eng.val (w1 := w') (v := (us.getD k undef)) ?_ (Below.refl _ _) rfl
    exact Eng.run_load_el ((us.getD k undef)) rfl (show a.eval (.tmp 16) = Eng.elemPtr pa (k * 1) from (H.dep 2 16 (by kernel_rfl) rfl)) (Eng.Reads.below Fpp_5 H.below) (Nfa.at_one us hul (by omega)) (by kernel_rfl)
   ·refine Eng.plain rfl rfl fun a w' H => ?_
    refine Eng.call Tryd.func81 (by kernel_rfl) (by kernel_rfl) rfl #[(us.getD k undef)] ?_ ?_
    ·have e0 : a.eval (.tmp 17) = (us.getD k undef) := (H.dep 3 17 (by kernel_rfl) rfl); simp only [List.map_toArray, List.map_cons, List.map_nil, e0]
    refine (Nfa.rright_calls (us.getD k undef) (ps.getD k []) _ (Eng.Reads.below Finn7 H.below) (hr k hk0)).mono ?_
    rintro e w'' ⟨rfl, hb⟩
    exact ⟨_, rfl, (by show _ = Value.bool q18; rw [Bq18]), hb⟩
   ·refine Eng.plain rfl rfl fun a w' H => ?_
    exact Eng.val (w1 := w') (v := .bool (!q18)) (Eng.run_not rfl (H.dep 4 18 (by kernel_rfl) rfl)) (Below.refl _ _) (by show _ = Value.bool q19; rw [Bq19])
  intro act8 w8 T
  have h0_8 := (T.rest 0 (by kernel_rfl)).trans h0_5
  have h2_8 := (T.rest 2 (by kernel_rfl)).trans h2_5
  have h4_8 := (T.rest 4 (by kernel_rfl)).trans h4_5
  have h5_8 := (T.rest 5 (by kernel_rfl)).trans h5_5
  have kg2_1_8 := (T.below.block _ lg2_1_5).trans kg2_1_5
  have lg2_1_8 := Nat.lt_of_lt_of_le lg2_1_5 T.below.size
  have kg4_2_8 := (T.below.block _ lg4_2_5).trans kg4_2_5
  have lg4_2_8 := Nat.lt_of_lt_of_le lg4_2_5 T.below.size
  have h19_8 : act8.eval (.tmp 19) = .bool q19 := T.done 5 19 rfl rfl
  have d8 := T.defers.trans d5
  have s8 := T.size.trans s5
  have bl8 := bl5.trans (T.below.mono bl5.size)
  clear T
  refine Eng.tail_nil ?_
  have n19 : q19 = false := by
   try simp only [Bq19, Bq18, Bq11]
   first | done | rfl
  refine wp_cond_false (h19_8.trans (by rw [n19])) ?_
  refine wp_skip ?_
  refine Eng.regionS (Eng.still [fun u_ => u_ = .int .i64 (k : Nat), fun u_ => u_ = .int .i64 (IntKind.i64.wrap ((k : Nat) + 1)), fun u_ => u_ = .int .i64 (IntKind.i64.wrap ((k : Nat) + 1))]) (fun _ => .plain) 3 0 58 s8 rfl (by kernel_rfl) (Eng.still_stable _) (Or.inr (Eng.still_any _)) ?_ ?_
  ·refine Eng.Steps.cons (fun _ => ?_) (Eng.Steps.cons (fun _ => ?_) (Eng.Steps.cons (fun _ => ?_) (Eng.Steps.nil)))
   ·refine Eng.plain rfl rfl fun a w' H => ?_
    exact Eng.val (w1 := w') (v := .int .i64 (k : Nat)) (Eng.run_move rfl ((H.kept 5 (by kernel_rfl)).trans h5_8)) (Below.refl _ _) rfl
   ·refine Eng.plain rfl rfl fun a w' H => ?_
    refine Eng.val (w1 := w') (v := .int .i64 (IntKind.i64.wrap ((k : Nat) + 1))) ?_ (Below.refl _ _) rfl
    have e0 : a.eval (.tmp 12) = .int .i64 (k : Nat) := (H.dep 0 12 (by kernel_rfl) rfl)
    have e1 : a.eval (.const (.int .i64 1)) = .int .i64 1 := (rfl : a.eval (.const (.int .i64 1)) = .int .i64 1)
    simp only [execOp, resolve, e0, e1]
    go_simp
   ·refine Eng.plain rfl rfl fun a w' H => ?_
    exact Eng.val (w1 := w') (v := .int .i64 (IntKind.i64.wrap ((k : Nat) + 1))) (Eng.run_assign rfl (H.dep 1 13 (by kernel_rfl) rfl)) (Below.refl _ _) rfl
  intro act9 w9 T
  have h0_9 := (T.rest 0 (by kernel_rfl)).trans h0_8
  have h2_9 := (T.rest 2 (by kernel_rfl)).trans h2_8
  have h4_9 := (T.rest 4 (by kernel_rfl)).trans h4_8
  have kg2_1_9 := (T.below.block _ lg2_1_8).trans kg2_1_8
  have lg2_1_9 := Nat.lt_of_lt_of_le lg2_1_8 T.below.size
  have kg4_2_9 := (T.below.block _ lg4_2_8).trans kg4_2_8
  have lg4_2_9 := Nat.lt_of_lt_of_le lg4_2_8 T.below.size
  have h5_9 : act9.eval (.tmp 5) = .int .i64 (IntKind.i64.wrap ((k : Nat) + 1)) := T.done 2 5 rfl rfl
  have d9 := T.defers.trans d8
  have s9 := T.size.trans s8
  have bl9 := bl8.trans (T.below.mono bl8.size)
  clear T
  refine Eng.tail_nil ?_
  exact ⟨_, by omega, k + 1, rfl, by omega, d9, s9, bl9, h0_9, h2_9, h4_9, (h5_9.trans (by first | rfl | (congr 1; rw [Eng.i64_id (by omega) (by omega)]; omega) | (simp; done))), kg2_1_9, lg2_1_9, kg4_2_9, lg4_2_9⟩
 ·
  have c11 := Bq11.symm.trans hq
  clear hq
  have c11 := of_decide_eq_false c11
  refine wp_exit ?_
  refine wp_seq ?_
  refine wp_seq ?_
  refine Eng.regionS (Eng.still [fun u_ => u_ = .int .i64 0]) (fun _ => .plain) 1 0 58 s5 rfl (by kernel_rfl) (Eng.still_stable _) (Or.inr (Eng.still_any _)) ?_ ?_
  ·refine Eng.Steps.cons (fun _ => ?_) (Eng.Steps.nil)
   ·refine Eng.plain rfl rfl fun a w' H => ?_
    exact Eng.val (w1 := w') (v := .int .i64 0) (Eng.run_assign rfl (rfl : a.eval (.const (.int .i64 0)) = .int .i64 0)) (Below.refl _ _) rfl
  intro act11 w11 T
  have h0_11 := (T.rest 0 (by kernel_rfl)).trans h0_5
  have h2_11 := (T.rest 2 (by kernel_rfl)).trans h2_5
  have h4_11 := (T.rest 4 (by kernel_rfl)).trans h4_5
  have h5_11 := (T.rest 5 (by kernel_rfl)).trans h5_5
  have h11_11 := (T.rest 11 (by kernel_rfl)).trans h11_5
  have kg2_1_11 := (T.below.block _ lg2_1_5).trans kg2_1_5
  have lg2_1_11 := Nat.lt_of_lt_of_le lg2_1_5 T.below.size
  have kg4_2_11 := (T.below.block _ lg4_2_5).trans kg4_2_5
  have lg4_2_11 := Nat.lt_of_lt_of_le lg4_2_5 T.below.size
  have h6_11 : act11.eval (.tmp 6) = .int .i64 0 := T.done 0 6 rfl rfl
  have d11 := T.defers.trans d5
  have s11 := T.size.trans s5
  have bl11 := bl5.trans (T.below.mono bl5.size)
  clear T
  refine Eng.tail_nil ?_
  refine wp_block ?_
  refine Eng.loopN (fun n a w' => ∃ (k2 : Nat) (pv : Value) (bv : Value), ps.length - k2 = n ∧ (k2 ≤ ps.length) ∧ (w'.ownsRow w.heap.size 118 1 pv (List.take k2 us).length (List.take k2 us)) ∧ (w'.ownsRow w.heap.size 3 1 bv (Nfa.begs ps k2).length (Nfa.ints (Nfa.begs ps k2))) ∧ a.defers = [] ∧ a.tmps.size = 58 ∧ Below w.heap.size w w' ∧ a.eval (.tmp 0) = pa ∧ a.eval (.tmp 2) = .pointer (some ⟨g2_1, 0, none⟩) ∧ a.eval (.tmp 4) = .pointer (some ⟨g4_2, 0, none⟩) ∧ a.eval (.tmp 5) = .int .i64 (k : Nat) ∧ a.eval (.tmp 6) = .int .i64 (k2 : Nat) ∧ a.eval (.tmp 11) = .bool q11 ∧ w'.heap[g2_1]? = some (.cells (#[.slice none 0 0, .slice none 0 0, .int .i64 0]) 71 (0, 0)) ∧ g2_1 < w'.heap.size ∧ w'.heap[g4_2]? = some (.cells (#[pv, bv, .int .i64 (Nfa.many ps k2)]) 71 (0, 0)) ∧ g4_2 < w'.heap.size) (n0 := ps.length - 0) ?_ ?_
  ·exact ⟨0, .slice none 0 0, .slice none 0 0, rfl, by omega, World.ownsRow_nil _ _ _ _, World.ownsRow_nil _ _ _ _, d11, s11, bl11, h0_11, h2_11, h4_11, h5_11, (h6_11.trans (by first | rfl | (congr 1; rw [Eng.i64_id (by omega) (by omega)]; omega) | (simp; done))), h11_11, kg2_1_11, lg2_1_11, (kg4_2_11.trans (by first | rfl | (rw [Nfa.many_r hok hk0]; done))), lg4_2_11⟩
  rintro n act12 w12 ⟨k2, pv, bv, rfl, hc0_12, hc1_12, hc2_12, d12, s12, bl12, h0_12, h2_12, h4_12, h5_12, h6_12, h11_12, kg2_1_12, lg2_1_12, kg4_2_12, lg4_2_12⟩
  have Fpp_12 := Eng.Reads.below hp bl12
  have hk2 := hc0_12
  have Ftp_12 := Eng.Reads.of_own hc1_12
  have Ftb_12 := Eng.Reads.of_own hc2_12
  refine wp_seq ?_
  refine wp_seq ?_
  obtain ⟨q24, Bq24⟩ : ∃ b : Bool, b = (decide ((k2 : Nat) < ((ps.length : Nat) : Int))) := ⟨_, rfl⟩
  refine Eng.regionS (Eng.still [fun u_ => u_ = .int .i64 (k2 : Nat), fun u_ => u_ = pa, fun u_ => u_ = .int .i64 ((ps.length : Nat) : Int), fun u_ => u_ = .bool q24]) (fun _ => .plain) 4 0 58 s12 rfl (by kernel_rfl) (Eng.still_stable _) (Or.inr (Eng.still_any _)) ?_ ?_
  ·refine Eng.Steps.cons (fun _ => ?_) (Eng.Steps.cons (fun _ => ?_) (Eng.Steps.cons (fun _ => ?_) (Eng.Steps.cons (fun _ => ?_) (Eng.Steps.nil))))
   ·refine Eng.plain rfl rfl fun a w' H => ?_
    exact Eng.val (w1 := w') (v := .int .i64 (k2 : Nat)) (Eng.run_move rfl ((H.kept 6 (by kernel_rfl)).trans h6_12)) (Below.refl _ _) rfl
   ·refine Eng.plain rfl rfl fun a w' H => ?_
    exact Eng.val (w1 := w') (v := pa) (Eng.run_move rfl ((H.kept 0 (by kernel_rfl)).trans h0_12)) (Below.refl _ _) rfl
   ·refine Eng.plain rfl rfl fun a w' H => ?_
    refine Eng.val (w1 := w') (v := .int .i64 ((ps.length : Nat) : Int)) ?_ (Below.refl _ _) rfl
    exact Eng.run_len_sl rfl Tryd.underlying59 (show a.eval (.tmp 22) = pa from (H.dep 1 22 (by kernel_rfl) rfl)) (Eng.Reads.below Fpp_12 H.below)
   ·refine Eng.plain rfl rfl fun a w' H => ?_
    refine Eng.val (w1 := w') (v := .bool (decide ((k2 : Nat) < ((ps.length : Nat) : Int)))) ?_ (Below.refl _ _) (by show _ = Value.bool q24; rw [Bq24])
    have e0 : a.eval (.tmp 21) = .int .i64 (k2 : Nat) := (H.dep 0 21 (by kernel_rfl) rfl)
    have e1 : a.eval (.tmp 23) = .int .i64 ((ps.length : Nat) : Int) := (H.dep 2 23 (by kernel_rfl) rfl)
    simp only [execOp, resolve, e0, e1]
    go_simp
  intro act13 w13 T
  have h0_13 := (T.rest 0 (by kernel_rfl)).trans h0_12
  have h2_13 := (T.rest 2 (by kernel_rfl)).trans h2_12
  have h4_13 := (T.rest 4 (by kernel_rfl)).trans h4_12
  have h5_13 := (T.rest 5 (by kernel_rfl)).trans h5_12
  have h6_13 := (T.rest 6 (by kernel_rfl)).trans h6_12
  have h11_13 := (T.rest 11 (by kernel_rfl)).trans h11_12
  have kg2_1_13 := (T.below.block _ lg2_1_12).trans kg2_1_12
  have lg2_1_13 := Nat.lt_of_lt_of_le lg2_1_12 T.below.size
  have kg4_2_13 := (T.below.block _ lg4_2_12).trans kg4_2_12
  have lg4_2_13 := Nat.lt_of_lt_of_le lg4_2_12 T.below.size
  have Fpp_13 := Eng.Reads.below Fpp_12 T.below
  have Ftp_13 := Eng.Reads.below Ftp_12 T.below
  have Otp_13 := Eng.own_below hc1_12 T.below
  have Ftb_13 := Eng.Reads.below Ftb_12 T.below
  have Otb_13 := Eng.own_below hc2_12 T.below
  have h24_13 : act13.eval (.tmp 24) = .bool q24 := T.done 3 24 rfl rfl
  have d13 := T.defers.trans d12
  have s13 := T.size.trans s12
  have bl13 := bl12.trans (T.below.mono bl12.size)
  clear T
  refine Eng.tail_nil ?_
  refine wp_cond_split h24_13 (fun hq => ?_) (fun hq => ?_)
  ·
   have c24 := Bq24.symm.trans hq
   clear hq
   have c24 := of_decide_eq_true c24
   have hk0 : k2 < ps.length := by omega
   have Fin0 := hin k2 hk0
   have hmi := Eng.Reads.len_le Fin0
   have Finn15 := Eng.Reads.below Fin0 bl13
   refine wp_skip ?_
   refine wp_seq ?_
   refine wp_block ?_
   refine wp_seq ?_
   refine Eng.regionD (Eng.tell [.still fun u_ => u_ = .pointer (some ⟨g4_2, 0, none⟩), .still fun u_ => u_ = pv, .still fun u_ => u_ = pa, .still fun u_ => u_ = .int .i64 (k2 : Nat), .still fun u_ => u_ = Eng.elemPtr pa (k2 * 1), .still fun u_ => u_ = (us.getD k2 undef), Eng.Tl.reads 1 1 [(us.getD k2 undef)]]) (fun i => ([.plain, .plain, .plain, .plain, .plain, .plain, .plain] : List Eng.Kind).getD i .plain) 7 3 58 (by kernel_rfl) s13 rfl (by kernel_rfl) (Eng.tell_stable _) (Or.inl (Eng.no_stores (by kernel_rfl))) ?_ ?_
   ·refine Eng.Steps.cons (fun _ => ?_) (Eng.Steps.cons (fun _ => ?_) (Eng.Steps.cons (fun _ => ?_) (Eng.Steps.cons (fun _ => ?_) (Eng.Steps.cons (fun _ => ?_) (Eng.Steps.cons (fun _ => ?_) (Eng.Steps.cons (fun _ => ?_) (Eng.Steps.cons (fun hlt => ?_) (Eng.Steps.cons (fun hlt => ?_) (Eng.Steps.cons (fun hlt => ?_) (Eng.Steps.nil))))))))))
    ·refine Eng.plain rfl rfl fun a w' H => ?_
     refine Eng.val (w1 := w') (v := .pointer (some ⟨g4_2, 0, none⟩)) ?_ (Below.refl _ _) rfl
     have e0 := ((H.kept 4 (by kernel_rfl)).trans h4_13)
     simp only [execOp, resolve, e0]
     go_simp
    ·refine Eng.plain rfl rfl fun a w' H => ?_
     have kb := (H.below.block _ lg4_2_13).trans kg4_2_13
     have z0 : w'.cell? ⟨g4_2, 0, none⟩ = some (pv) := (Eng.cells kb 0).trans rfl
     refine Eng.val (w1 := w') (v := pv) ?_ (Below.refl _ _) rfl
     have e0 : a.eval (.tmp 27) = .pointer (some ⟨g4_2, 0, none⟩) := (H.dep 0 27 (by kernel_rfl) rfl)
     simp only [execOp, resolve, e0]
     go_simp
    ·refine Eng.plain rfl rfl fun a w' H => ?_
     exact Eng.val (w1 := w') (v := pa) (Eng.run_move rfl ((H.kept 0 (by kernel_rfl)).trans h0_13)) (Below.refl _ _) rfl
    ·refine Eng.plain rfl rfl fun a w' H => ?_
     exact Eng.val (w1 := w') (v := .int .i64 (k2 : Nat)) (Eng.run_move rfl ((H.kept 6 (by kernel_rfl)).trans h6_13)) (Below.refl _ _) rfl
    ·refine Eng.plain rfl rfl fun a w' H => ?_
     refine Eng.val (w1 := w') (v := Eng.elemPtr pa (k2 * 1)) ?_ (Below.refl _ _) rfl
     exact Eng.run_index_sl rfl Tryd.underlying59 (by kernel_rfl) (show a.eval (.tmp 29) = pa from (H.dep 2 29 (by kernel_rfl) rfl)) ((show a.eval (.tmp 30) = .int .i64 (k2 : Nat) from (H.dep 3 30 (by kernel_rfl) rfl)).trans (congrArg (Value.int _) (show (k2 : Nat) = ((k2 : Nat) : Int) from by omega))) (Eng.Reads.below Fpp_13 H.below) (by omega) rfl
    ·refine Eng.plain rfl rfl fun a w' H => ?_
     refine Eng.val (w1 := w') (v := (us.getD k2 undef)) ?_ (Below.refl _ _) rfl
     exact Eng.run_load_el ((us.getD k2 undef)) rfl (show a.eval (.tmp 31) = Eng.elemPtr pa (k2 * 1) from (H.dep 4 31 (by kernel_rfl) rfl)) (Eng.Reads.below Fpp_13 H.below) (Nfa.at_one us hul (by omega)) (by kernel_rfl)
    ·refine Eng.plain rfl rfl fun a w' H => ?_
     refine Eng.val_ex (Eng.run_buildN1 (z := .slice none 0 0) [(us.getD k2 undef)] rfl Tryd.underlying59 (by kernel_rfl) rfl rfl rfl rfl (by intro v hv; have h := List.mem_singleton.1 hv; rw [h]; exact (Eng.Reads.cells1 (Eng.Reads.below Finn15 H.below))) (by have e0 : a.eval (.tmp 32) = (us.getD k2 undef) := (H.dep 5 32 (by kernel_rfl) rfl); simp [e0])) fun v1 w'' R => ?_
     obtain ⟨F, hb⟩ := R
     exact ⟨hb, F⟩
    ·exact absurd hlt (by decide)
    ·exact absurd hlt (by decide)
    ·exact absurd hlt (by decide)
   intro act16 w16 T
   have h0_16 := (T.rest 0 (by kernel_rfl)).trans h0_13
   have h2_16 := (T.rest 2 (by kernel_rfl)).trans h2_13
   have h4_16 := (T.rest 4 (by kernel_rfl)).trans h4_13
   have h5_16 := (T.rest 5 (by kernel_rfl)).trans h5_13
   have h6_16 := (T.rest 6 (by kernel_rfl)).trans h6_13
   have h11_16 := (T.rest 11 (by kernel_rfl)).trans h11_13
   have kg2_1_16 := (T.below.block _ lg2_1_13).trans kg2_1_13
   have lg2_1_16 := Nat.lt_of_lt_of_le lg2_1_13 T.below.size
   have kg4_2_16 := (T.below.block _ lg4_2_13).trans kg4_2_13
   have lg4_2_16 := Nat.lt_of_lt_of_le lg4_2_13 T.below.size
   have Otp_16 := Eng.own_below Otp_13 T.below
   have Otb_16 := Eng.own_below Otb_13 T.below
   have Finn_16 := Eng.Reads.below Finn15 T.below
   have h28_16 : act16.eval (.tmp 28) = pv := T.done 1 28 rfl rfl
   have OO33_16 := T.done 6 33 rfl rfl
   obtain ⟨v33_16, h33_16⟩ : ∃ v, act16.eval (.tmp 33) = v := ⟨_, rfl⟩
   have d16 := T.defers.trans d13
   have s16 := T.size.trans s13
   have bl16 := bl13.trans (T.below.mono bl13.size)
   have OP33_16 : Eng.Reads w16 v33_16 1 1 [(us.getD k2 undef)] := by rw [← h33_16]; exact OO33_16
   clear OO33_16
   clear T
   refine Eng.tail_ex rfl rfl rfl (Eng.run_appendT (z := .slice none 0 0) rfl Tryd.underlying59 (by kernel_rfl) rfl rfl h28_16 Otp_16 h33_16 OP33_16 (by intro u hu; have h := List.mem_singleton.1 hu; obtain ⟨A_, c_, ev_⟩ := Eng.Reads.shape Finn_16; rw [h, ev_]; rfl) (by simp; omega) bl16.size) s16 rfl fun v_17 w17 act17 R d17 s17 hv hr => ?_
   obtain ⟨O_17, _, b_17, G_17, EO_17⟩ := R
   have h0_17 := (hr 0 rfl).trans h0_16
   have h2_17 := (hr 2 rfl).trans h2_16
   have h4_17 := (hr 4 rfl).trans h4_16
   have h5_17 := (hr 5 rfl).trans h5_16
   have h6_17 := (hr 6 rfl).trans h6_16
   have h11_17 := (hr 11 rfl).trans h11_16
   have h34_17 : act17.eval (.tmp 34) = v_17 := hv
   have d17 := d17.trans d16
   clear hv hr
   have kg2_1_17 := (G_17.block _ lg2_1_16 (Eng.own_ne Otp_16 kg2_1_16 rfl)).trans kg2_1_16
   have lg2_1_17 := Nat.lt_of_lt_of_le lg2_1_16 G_17.size
   have kg4_2_17 := (G_17.block _ lg4_2_16 (Eng.own_ne Otp_16 kg4_2_16 rfl)).trans kg4_2_16
   have lg4_2_17 := Nat.lt_of_lt_of_le lg4_2_16 G_17.size
   have bl17 := bl16.trans b_17
   have Otb_17 := Pth.own_grown Otb_16 G_17 Otp_16 rfl
   have Oa17 : w17.ownsRow w.heap.size 118 1 v_17 (List.take (k2 + 1) us).length (List.take (k2 + 1) us) := (by rw [Nfa.take_snoc us (show k2 < us.length by omega)]; exact Pth.vals_cat (r := [_]) O_17)
   have Fa17 := Eng.Reads.of_own Oa17
   refine Eng.tail_val (w1 := w17) (v := .pointer (some ⟨g4_2, 0, none⟩)) rfl rfl rfl ?_ s17 rfl ?_
   ·have e0 : act17.eval (.tmp 4) = .pointer (some ⟨g4_2, 0, none⟩) := h4_17
    simp only [execOp, resolve, e0]
    go_simp
   intro act18 d18 s18 hv hr
   have h0_18 := (hr 0 rfl).trans h0_17
   have h2_18 := (hr 2 rfl).trans h2_17
   have h4_18 := (hr 4 rfl).trans h4_17
   have h5_18 := (hr 5 rfl).trans h5_17
   have h6_18 := (hr 6 rfl).trans h6_17
   have h11_18 := (hr 11 rfl).trans h11_17
   have h34_18 := (hr 34 rfl).trans h34_17
   have h35_18 : act18.eval (.tmp 35) = .pointer (some ⟨g4_2, 0, none⟩) := hv
   have d18 := d18.trans d17
   clear hv hr
   refine Eng.tail_set (n := 0) (v := v_17) (new := #[v_17, bv, .int .i64 (Nfa.many ps k2)]) rfl rfl rfl kg4_2_17 rfl ?_ fun w19 S => ?_
   ·have e0 : act18.eval (.tmp 35) = .pointer (some ⟨g4_2, 0, none⟩) := h35_18
    have e1 : act18.eval (.tmp 34) = v_17 := h34_18
    obtain ⟨A0_, c0_, ev0_⟩ := Eng.Reads.shape Fa17
    subst ev0_
    have z0 := (Eng.cells kg4_2_17 (0)).trans (rfl)
    have f0 := Eng.unfrozen kg4_2_17 (0)
    simp only [execOp]
    rw [e0, e1]
    go_simp
   have kg2_1_19 := (S.far _ ne_g4_2_g2_1).trans kg2_1_17
   have lg2_1_19 := Nat.lt_of_lt_of_eq lg2_1_17 S.size.symm
   have kg4_2_19 := S.new
   have lg4_2_19 := Nat.lt_of_lt_of_eq lg4_2_17 S.size.symm
   have bl19 := S.below bl17 og4_2
   have Otb_19 := Eng.own_sets Otb_17 S kg4_2_17 rfl
   have Oa17_19 := Eng.own_sets Oa17 S kg4_2_17 rfl
   clear S
   refine Eng.tail_nil ?_
   refine wp_seq ?_
   refine Eng.regionT (n := 8) rfl ?_
   refine Eng.tail_val (w1 := w19) (v := .pointer (some ⟨g4_2, 1, none⟩)) rfl rfl rfl ?_ s18 rfl ?_
   ·have e0 : act18.eval (.tmp 4) = .pointer (some ⟨g4_2, 0, none⟩) := h4_18
    simp only [execOp, resolve, e0]
    go_simp
   intro act20 d20 s20 hv hr
   have h0_20 := (hr 0 rfl).trans h0_18
   have h2_20 := (hr 2 rfl).trans h2_18
   have h4_20 := (hr 4 rfl).trans h4_18
   have h5_20 := (hr 5 rfl).trans h5_18
   have h6_20 := (hr 6 rfl).trans h6_18
   have h11_20 := (hr 11 rfl).trans h11_18
   have h36_20 : act20.eval (.tmp 36) = .pointer (some ⟨g4_2, 1, none⟩) := hv
   have d20 := d20.trans d18
   clear hv hr
   refine Eng.tail_val (w1 := w19) (v := bv) rfl rfl rfl ?_ s20 rfl ?_
   ·have kb := ((Below.refl _ _).block _ lg4_2_19).trans kg4_2_19
    have z0 : w19.cell? ⟨g4_2, 1, none⟩ = some (bv) := (Eng.cells kb 1).trans rfl
    have e0 : act20.eval (.tmp 36) = .pointer (some ⟨g4_2, 1, none⟩) := h36_20
    simp only [execOp, resolve, e0]
    go_simp
   intro act21 d21 s21 hv hr
   have h0_21 := (hr 0 rfl).trans h0_20
   have h2_21 := (hr 2 rfl).trans h2_20
   have h4_21 := (hr 4 rfl).trans h4_20
   have h5_21 := (hr 5 rfl).trans h5_20
   have h6_21 := (hr 6 rfl).trans h6_20
   have h11_21 := (hr 11 rfl).trans h11_20
   have h37_21 : act21.eval (.tmp 37) = bv := hv
   have d21 := d21.trans d20
   clear hv hr
   refine Eng.tail_val (w1 := w19) (v := .pointer (some ⟨g4_2, 2, none⟩)) rfl rfl rfl ?_ s21 rfl ?_
   ·have e0 : act21.eval (.tmp 4) = .pointer (some ⟨g4_2, 0, none⟩) := h4_21
    simp only [execOp, resolve, e0]
    go_simp
   intro act22 d22 s22 hv hr
   have h0_22 := (hr 0 rfl).trans h0_21
   have h2_22 := (hr 2 rfl).trans h2_21
   have h4_22 := (hr 4 rfl).trans h4_21
   have h5_22 := (hr 5 rfl).trans h5_21
   have h6_22 := (hr 6 rfl).trans h6_21
   have h11_22 := (hr 11 rfl).trans h11_21
   have h37_22 := (hr 37 rfl).trans h37_21
   have h38_22 : act22.eval (.tmp 38) = .pointer (some ⟨g4_2, 2, none⟩) := hv
   have d22 := d22.trans d21
   clear hv hr
   refine Eng.tail_val (w1 := w19) (v := .int .i64 (Nfa.many ps k2)) rfl rfl rfl ?_ s22 rfl ?_
   ·have kb := ((Below.refl _ _).block _ lg4_2_19).trans kg4_2_19
    have z0 : w19.cell? ⟨g4_2, 2, none⟩ = some (.int .i64 (Nfa.many ps k2)) := (Eng.cells kb 2).trans rfl
    have e0 : act22.eval (.tmp 38) = .pointer (some ⟨g4_2, 2, none⟩) := h38_22
    simp only [execOp, resolve, e0]
    go_simp
   intro act23 d23 s23 hv hr
   have h0_23 := (hr 0 rfl).trans h0_22
   have h2_23 := (hr 2 rfl).trans h2_22
   have h4_23 := (hr 4 rfl).trans h4_22
   have h5_23 := (hr 5 rfl).trans h5_22
   have h6_23 := (hr 6 rfl).trans h6_22
   have h11_23 := (hr 11 rfl).trans h11_22
   have h37_23 := (hr 37 rfl).trans h37_22
   have h39_23 : act23.eval (.tmp 39) = .int .i64 (Nfa.many ps k2) := hv
   have d23 := d23.trans d22
   clear hv hr
   refine Eng.tail_ex rfl rfl rfl (Eng.run_buildN1 (z := .int .i64 0) [.int .i64 (Nfa.many ps k2)] rfl Tryd.underlying63 (by kernel_rfl) rfl rfl rfl rfl (by intro v hv; have h := List.mem_singleton.1 hv; rw [h]; exact rfl) (by have e0 : act23.eval (.tmp 39) = .int .i64 (Nfa.many ps k2) := h39_23; simp [e0])) s23 rfl fun v_24 w24 act24 R d24 s24 hv hr => ?_
   obtain ⟨F_24, b_24⟩ := R
   have h0_24 := (hr 0 rfl).trans h0_23
   have h2_24 := (hr 2 rfl).trans h2_23
   have h4_24 := (hr 4 rfl).trans h4_23
   have h5_24 := (hr 5 rfl).trans h5_23
   have h6_24 := (hr 6 rfl).trans h6_23
   have h11_24 := (hr 11 rfl).trans h11_23
   have h37_24 := (hr 37 rfl).trans h37_23
   have h40_24 : act24.eval (.tmp 40) = v_24 := hv
   have d24 := d24.trans d23
   clear hv hr
   have kg2_1_24 := (b_24.block _ lg2_1_19).trans kg2_1_19
   have lg2_1_24 := Nat.lt_of_lt_of_le lg2_1_19 b_24.size
   have kg4_2_24 := (b_24.block _ lg4_2_19).trans kg4_2_19
   have lg4_2_24 := Nat.lt_of_lt_of_le lg4_2_19 b_24.size
   have Otb_24 := Eng.own_below Otb_19 b_24
   have Oa17_24 := Eng.own_below Oa17_19 b_24
   have bl24 := bl19.trans (b_24.mono bl19.size)
   refine Eng.tail_ex rfl rfl rfl (Eng.run_appendT (z := .int .i64 0) rfl Tryd.underlying63 (by kernel_rfl) rfl rfl h37_24 Otb_24 h40_24 F_24 (by intro u hu; simp at hu; subst hu; rfl) (by rw [Nfa.begs_len]; omega) bl24.size) s24 rfl fun v_25 w25 act25 R d25 s25 hv hr => ?_
   obtain ⟨O_25, _, b_25, G_25, EO_25⟩ := R
   have h0_25 := (hr 0 rfl).trans h0_24
   have h2_25 := (hr 2 rfl).trans h2_24
   have h4_25 := (hr 4 rfl).trans h4_24
   have h5_25 := (hr 5 rfl).trans h5_24
   have h6_25 := (hr 6 rfl).trans h6_24
   have h11_25 := (hr 11 rfl).trans h11_24
   have h41_25 : act25.eval (.tmp 41) = v_25 := hv
   have d25 := d25.trans d24
   clear hv hr
   have kg2_1_25 := (G_25.block _ lg2_1_24 (Eng.own_ne Otb_24 kg2_1_24 rfl)).trans kg2_1_24
   have lg2_1_25 := Nat.lt_of_lt_of_le lg2_1_24 G_25.size
   have kg4_2_25 := (G_25.block _ lg4_2_24 (Eng.own_ne Otb_24 kg4_2_24 rfl)).trans kg4_2_24
   have lg4_2_25 := Nat.lt_of_lt_of_le lg4_2_24 G_25.size
   have bl25 := bl24.trans b_25
   have Oa17_25 := Pth.own_grown Oa17_24 G_25 Otb_24 rfl
   have Oa25 : w25.ownsRow w.heap.size 3 1 v_25 (Nfa.begs ps (k2 + 1)).length (Nfa.ints (Nfa.begs ps (k2 + 1))) := (by rw [Nfa.begs_succ]; exact Nfa.ints_cat (r := [_]) O_25)
   have Fa25 := Eng.Reads.of_own Oa25
   refine Eng.tail_val (w1 := w25) (v := .pointer (some ⟨g4_2, 1, none⟩)) rfl rfl rfl ?_ s25 rfl ?_
   ·have e0 : act25.eval (.tmp 4) = .pointer (some ⟨g4_2, 0, none⟩) := h4_25
    simp only [execOp, resolve, e0]
    go_simp
   intro act26 d26 s26 hv hr
   have h0_26 := (hr 0 rfl).trans h0_25
   have h2_26 := (hr 2 rfl).trans h2_25
   have h4_26 := (hr 4 rfl).trans h4_25
   have h5_26 := (hr 5 rfl).trans h5_25
   have h6_26 := (hr 6 rfl).trans h6_25
   have h11_26 := (hr 11 rfl).trans h11_25
   have h41_26 := (hr 41 rfl).trans h41_25
   have h42_26 : act26.eval (.tmp 42) = .pointer (some ⟨g4_2, 1, none⟩) := hv
   have d26 := d26.trans d25
   clear hv hr
   refine Eng.tail_set (n := 1) (v := v_25) (new := #[v_17, v_25, .int .i64 (Nfa.many ps k2)]) rfl rfl rfl kg4_2_25 rfl ?_ fun w27 S => ?_
   ·have e0 : act26.eval (.tmp 42) = .pointer (some ⟨g4_2, 1, none⟩) := h42_26
    have e1 : act26.eval (.tmp 41) = v_25 := h41_26
    obtain ⟨A0_, c0_, ev0_⟩ := Eng.Reads.shape Fa25
    subst ev0_
    have z0 := (Eng.cells kg4_2_25 (1)).trans (rfl)
    have f0 := Eng.unfrozen kg4_2_25 (1)
    simp only [execOp]
    rw [e0, e1]
    go_simp
   have kg2_1_27 := (S.far _ ne_g4_2_g2_1).trans kg2_1_25
   have lg2_1_27 := Nat.lt_of_lt_of_eq lg2_1_25 S.size.symm
   have kg4_2_27 := S.new
   have lg4_2_27 := Nat.lt_of_lt_of_eq lg4_2_25 S.size.symm
   have bl27 := S.below bl25 og4_2
   have Fpp_27 := Eng.Reads.below hp bl27
   have Finn_27 := Eng.Reads.below Fin0 bl27
   have Oa17_27 := Eng.own_sets Oa17_25 S kg4_2_25 rfl
   have Oa25_27 := Eng.own_sets Oa25 S kg4_2_25 rfl
   clear S
   refine Eng.tail_nil ?_
   refine Eng.regionD (Eng.still [fun u_ => u_ = .pointer (some ⟨g4_2, 2, none⟩), fun u_ => u_ = .int .i64 (Nfa.many ps k2), fun u_ => u_ = pa, fun u_ => u_ = .int .i64 (k2 : Nat), fun u_ => u_ = Eng.elemPtr pa (k2 * 1), fun u_ => u_ = (us.getD k2 undef), fun u_ => u_ = .int .i64 (((ps.getD k2 []).length : Nat) : Int), fun u_ => u_ = .int .i64 (IntKind.i64.wrap ((Nfa.many ps k2) + (((ps.getD k2 []).length : Nat) : Int))), fun u_ => u_ = .int .i64 (IntKind.i64.wrap ((IntKind.i64.wrap ((Nfa.many ps k2) + (((ps.getD k2 []).length : Nat) : Int))) + 1)), fun u_ => u_ = .pointer (some ⟨g4_2, 2, none⟩)]) (fun _ => .plain) 10 1 58 (by kernel_rfl) s26 rfl (by kernel_rfl) (Eng.still_stable _) (Or.inr (Eng.still_any _)) ?_ ?_
   ·refine Eng.Steps.cons (fun _ => ?_) (Eng.Steps.cons (fun _ => ?_) (Eng.Steps.cons (fun _ => ?_) (Eng.Steps.cons (fun _ => ?_) (Eng.Steps.cons (fun _ => ?_) (Eng.Steps.cons (fun _ => ?_) (Eng.Steps.cons (fun _ => ?_) (Eng.Steps.cons (fun _ => ?_) (Eng.Steps.cons (fun _ => ?_) (Eng.Steps.cons (fun _ => ?_) (Eng.Steps.cons (fun hlt => ?_) (Eng.Steps.nil)))))))))))
    ·refine Eng.plain rfl rfl fun a w' H => ?_
     refine Eng.val (w1 := w') (v := .pointer (some ⟨g4_2, 2, none⟩)) ?_ (Below.refl _ _) rfl
     have e0 := ((H.kept 4 (by kernel_rfl)).trans h4_26)
     simp only [execOp, resolve, e0]
     go_simp
    ·refine Eng.plain rfl rfl fun a w' H => ?_
     have kb := (H.below.block _ lg4_2_27).trans kg4_2_27
     have z0 : w'.cell? ⟨g4_2, 2, none⟩ = some (.int .i64 (Nfa.many ps k2)) := (Eng.cells kb 2).trans rfl
     refine Eng.val (w1 := w') (v := .int .i64 (Nfa.many ps k2)) ?_ (Below.refl _ _) rfl
     have e0 : a.eval (.tmp 43) = .pointer (some ⟨g4_2, 2, none⟩) := (H.dep 0 43 (by kernel_rfl) rfl)
     simp only [execOp, resolve, e0]
     go_simp
    ·refine Eng.plain rfl rfl fun a w' H => ?_
     exact Eng.val (w1 := w') (v := pa) (Eng.run_move rfl ((H.kept 0 (by kernel_rfl)).trans h0_26)) (Below.refl _ _) rfl
    ·refine Eng.plain rfl rfl fun a w' H => ?_
     exact Eng.val (w1 := w') (v := .int .i64 (k2 : Nat)) (Eng.run_move rfl ((H.kept 6 (by kernel_rfl)).trans h6_26)) (Below.refl _ _) rfl
    ·refine Eng.plain rfl rfl fun a w' H => ?_
     refine Eng.val (w1 := w') (v := Eng.elemPtr pa (k2 * 1)) ?_ (Below.refl _ _) rfl
     exact Eng.run_index_sl rfl Tryd.underlying59 (by kernel_rfl) (show a.eval (.tmp 45) = pa from (H.dep 2 45 (by kernel_rfl) rfl)) ((show a.eval (.tmp 46) = .int .i64 (k2 : Nat) from (H.dep 3 46 (by kernel_rfl) rfl)).trans (congrArg (Value.int _) (show (k2 : Nat) = ((k2 : Nat) : Int) from by omega))) (Eng.Reads.below Fpp_27 H.below) (by omega) rfl
    ·refine Eng.plain rfl rfl fun a w' H => ?_
     refine Eng.val (w1 := w') (v := (us.getD k2 undef)) ?_ (Below.refl _ _) rfl
     exact Eng.run_load_el ((us.getD k2 undef)) rfl (show a.eval (.tmp 47) = Eng.elemPtr pa (k2 * 1) from (H.dep 4 47 (by kernel_rfl) rfl)) (Eng.Reads.below Fpp_27 H.below) (Nfa.at_one us hul (by omega)) (by kernel_rfl)
    ·refine Eng.plain rfl rfl fun a w' H => ?_
     refine Eng.val (w1 := w') (v := .int .i64 (((ps.getD k2 []).length : Nat) : Int)) ?_ (Below.refl _ _) rfl
     exact Eng.run_len_sl rfl Tryd.underlying118 (show a.eval (.tmp 48) = (us.getD k2 undef) from (H.dep 5 48 (by kernel_rfl) rfl)) (Eng.Reads.below Finn_27 H.below)
    ·refine Eng.plain rfl rfl fun a w' H => ?_
     refine Eng.val (w1 := w') (v := .int .i64 (IntKind.i64.wrap ((Nfa.many ps k2) + (((ps.getD k2 []).length : Nat) : Int)))) ?_ (Below.refl _ _) rfl
     have e0 : a.eval (.tmp 44) = .int .i64 (Nfa.many ps k2) := (H.dep 1 44 (by kernel_rfl) rfl)
     have e1 : a.eval (.tmp 49) = .int .i64 (((ps.getD k2 []).length : Nat) : Int) := (H.dep 6 49 (by kernel_rfl) rfl)
     simp only [execOp, resolve, e0, e1]
     go_simp
    ·refine Eng.plain rfl rfl fun a w' H => ?_
     refine Eng.val (w1 := w') (v := .int .i64 (IntKind.i64.wrap ((IntKind.i64.wrap ((Nfa.many ps k2) + (((ps.getD k2 []).length : Nat) : Int))) + 1))) ?_ (Below.refl _ _) rfl
     have e0 : a.eval (.tmp 50) = .int .i64 (IntKind.i64.wrap ((Nfa.many ps k2) + (((ps.getD k2 []).length : Nat) : Int))) := (H.dep 7 50 (by kernel_rfl) rfl)
     have e1 : a.eval (.const (.int .i64 1)) = .int .i64 1 := (rfl : a.eval (.const (.int .i64 1)) = .int .i64 1)
     simp only [execOp, resolve, e0, e1]
     go_simp
    ·refine Eng.plain rfl rfl fun a w' H => ?_
     refine Eng.val (w1 := w') (v := .pointer (some ⟨g4_2, 2, none⟩)) ?_ (Below.refl _ _) rfl
     have e0 := ((H.kept 4 (by kernel_rfl)).trans h4_26)
     simp only [execOp, resolve, e0]
     go_simp
    ·exact absurd hlt (by decide)
   intro act28 w28 T
   have h0_28 := (T.rest 0 (by kernel_rfl)).trans h0_26
   have h2_28 := (T.rest 2 (by kernel_rfl)).trans h2_26
   have h4_28 := (T.rest 4 (by kernel_rfl)).trans h4_26
   have h5_28 := (T.rest 5 (by kernel_rfl)).trans h5_26
   have h6_28 := (T.rest 6 (by kernel_rfl)).trans h6_26
   have h11_28 := (T.rest 11 (by kernel_rfl)).trans h11_26
   have kg2_1_28 := (T.below.block _ lg2_1_27).trans kg2_1_27
   have lg2_1_28 := Nat.lt_of_lt_of_le lg2_1_27 T.below.size
   have kg4_2_28 := (T.below.block _ lg4_2_27).trans kg4_2_27
   have lg4_2_28 := Nat.lt_of_lt_of_le lg4_2_27 T.below.size
   have Oa17_28 := Eng.own_below Oa17_27 T.below
   have Oa25_28 := Eng.own_below Oa25_27 T.below
   have h51_28 : act28.eval (.tmp 51) = .int .i64 (IntKind.i64.wrap ((IntKind.i64.wrap ((Nfa.many ps k2) + (((ps.getD k2 []).length : Nat) : Int))) + 1)) := T.done 8 51 rfl rfl
   have h52_28 : act28.eval (.tmp 52) = .pointer (some ⟨g4_2, 2, none⟩) := T.done 9 52 rfl rfl
   have d28 := T.defers.trans d26
   have s28 := T.size.trans s26
   have bl28 := bl27.trans (T.below.mono bl27.size)
   clear T
   refine Eng.tail_set (n := 2) (v := .int .i64 (IntKind.i64.wrap ((IntKind.i64.wrap ((Nfa.many ps k2) + (((ps.getD k2 []).length : Nat) : Int))) + 1))) (new := #[v_17, v_25, .int .i64 (IntKind.i64.wrap ((IntKind.i64.wrap ((Nfa.many ps k2) + (((ps.getD k2 []).length : Nat) : Int))) + 1))]) rfl rfl rfl kg4_2_28 rfl ?_ fun w29 S => ?_
   ·have e0 : act28.eval (.tmp 52) = .pointer (some ⟨g4_2, 2, none⟩) := h52_28
    have e1 : act28.eval (.tmp 51) = .int .i64 (IntKind.i64.wrap ((IntKind.i64.wrap ((Nfa.many ps k2) + (((ps.getD k2 []).length : Nat) : Int))) + 1)) := h51_28
    have z0 := (Eng.cells kg4_2_28 (2)).trans (rfl)
    have f0 := Eng.unfrozen kg4_2_28 (2)
    simp only [execOp]
    rw [e0, e1]
    go_simp
   have kg2_1_29 := (S.far _ ne_g4_2_g2_1).trans kg2_1_28
   have lg2_1_29 := Nat.lt_of_lt_of_eq lg2_1_28 S.size.symm
   have kg4_2_29 := S.new
   have lg4_2_29 := Nat.lt_of_lt_of_eq lg4_2_28 S.size.symm
   have bl29 := S.below bl28 og4_2
   have Oa17_29 := Eng.own_sets Oa17_28 S kg4_2_28 rfl
   have Oa25_29 := Eng.own_sets Oa25_28 S kg4_2_28 rfl
   clear S
   refine Eng.tail_nil ?_
   refine Eng.regionS (Eng.still [fun u_ => u_ = .int .i64 (k2 : Nat), fun u_ => u_ = .int .i64 (IntKind.i64.wrap ((k2 : Nat) + 1)), fun u_ => u_ = .int .i64 (IntKind.i64.wrap ((k2 : Nat) + 1))]) (fun _ => .plain) 3 0 58 s28 rfl (by kernel_rfl) (Eng.still_stable _) (Or.inr (Eng.still_any _)) ?_ ?_
   ·refine Eng.Steps.cons (fun _ => ?_) (Eng.Steps.cons (fun _ => ?_) (Eng.Steps.cons (fun _ => ?_) (Eng.Steps.nil)))
    ·refine Eng.plain rfl rfl fun a w' H => ?_
     exact Eng.val (w1 := w') (v := .int .i64 (k2 : Nat)) (Eng.run_move rfl ((H.kept 6 (by kernel_rfl)).trans h6_28)) (Below.refl _ _) rfl
    ·refine Eng.plain rfl rfl fun a w' H => ?_
     refine Eng.val (w1 := w') (v := .int .i64 (IntKind.i64.wrap ((k2 : Nat) + 1))) ?_ (Below.refl _ _) rfl
     have e0 : a.eval (.tmp 25) = .int .i64 (k2 : Nat) := (H.dep 0 25 (by kernel_rfl) rfl)
     have e1 : a.eval (.const (.int .i64 1)) = .int .i64 1 := (rfl : a.eval (.const (.int .i64 1)) = .int .i64 1)
     simp only [execOp, resolve, e0, e1]
     go_simp
    ·refine Eng.plain rfl rfl fun a w' H => ?_
     exact Eng.val (w1 := w') (v := .int .i64 (IntKind.i64.wrap ((k2 : Nat) + 1))) (Eng.run_assign rfl (H.dep 1 26 (by kernel_rfl) rfl)) (Below.refl _ _) rfl
   intro act30 w30 T
   have h0_30 := (T.rest 0 (by kernel_rfl)).trans h0_28
   have h2_30 := (T.rest 2 (by kernel_rfl)).trans h2_28
   have h4_30 := (T.rest 4 (by kernel_rfl)).trans h4_28
   have h5_30 := (T.rest 5 (by kernel_rfl)).trans h5_28
   have h11_30 := (T.rest 11 (by kernel_rfl)).trans h11_28
   have kg2_1_30 := (T.below.block _ lg2_1_29).trans kg2_1_29
   have lg2_1_30 := Nat.lt_of_lt_of_le lg2_1_29 T.below.size
   have kg4_2_30 := (T.below.block _ lg4_2_29).trans kg4_2_29
   have lg4_2_30 := Nat.lt_of_lt_of_le lg4_2_29 T.below.size
   have Oa17_30 := Eng.own_below Oa17_29 T.below
   have Oa25_30 := Eng.own_below Oa25_29 T.below
   have h6_30 : act30.eval (.tmp 6) = .int .i64 (IntKind.i64.wrap ((k2 : Nat) + 1)) := T.done 2 6 rfl rfl
   have d30 := T.defers.trans d28
   have s30 := T.size.trans s28
   have bl30 := bl29.trans (T.below.mono bl29.size)
   clear T
   refine Eng.tail_nil ?_
   exact ⟨_, by omega, k2 + 1, v_17, v_25, rfl, by omega, Oa17_30, Oa25_30, d30, s30, bl30, h0_30, h2_30, h4_30, h5_30, (h6_30.trans (by first | rfl | (congr 1; rw [Eng.i64_id (by omega) (by omega)]; omega) | (simp; done))), h11_30, kg2_1_30, lg2_1_30, (kg4_2_30.trans (by first | rfl | (rw [Nfa.many_r hok hk0]; done))), lg4_2_30⟩
  ·
   have c24 := Bq24.symm.trans hq
   clear hq
   have c24 := of_decide_eq_false c24
   have hke : k2 = ps.length := by omega
   refine wp_exit ?_
   refine wp_seq ?_
   refine wp_seq ?_
   obtain ⟨q55, Bq55⟩ : ∃ b : Bool, b = (decide ((Nfa.many ps k2) > 512)) := ⟨_, rfl⟩
   refine Eng.regionS (Eng.still [fun u_ => u_ = .pointer (some ⟨g4_2, 2, none⟩), fun u_ => u_ = .int .i64 (Nfa.many ps k2), fun u_ => u_ = .bool q55]) (fun _ => .plain) 3 0 58 s13 rfl (by kernel_rfl) (Eng.still_stable _) (Or.inr (Eng.still_any _)) ?_ ?_
   ·refine Eng.Steps.cons (fun _ => ?_) (Eng.Steps.cons (fun _ => ?_) (Eng.Steps.cons (fun _ => ?_) (Eng.Steps.nil)))
    ·refine Eng.plain rfl rfl fun a w' H => ?_
     refine Eng.val (w1 := w') (v := .pointer (some ⟨g4_2, 2, none⟩)) ?_ (Below.refl _ _) rfl
     have e0 := ((H.kept 4 (by kernel_rfl)).trans h4_13)
     simp only [execOp, resolve, e0]
     go_simp
    ·refine Eng.plain rfl rfl fun a w' H => ?_
     have kb := (H.below.block _ lg4_2_13).trans kg4_2_13
     have z0 : w'.cell? ⟨g4_2, 2, none⟩ = some (.int .i64 (Nfa.many ps k2)) := (Eng.cells kb 2).trans rfl
     refine Eng.val (w1 := w') (v := .int .i64 (Nfa.many ps k2)) ?_ (Below.refl _ _) rfl
     have e0 : a.eval (.tmp 53) = .pointer (some ⟨g4_2, 2, none⟩) := (H.dep 0 53 (by kernel_rfl) rfl)
     simp only [execOp, resolve, e0]
     go_simp
    ·refine Eng.plain rfl rfl fun a w' H => ?_
     refine Eng.val (w1 := w') (v := .bool (decide ((Nfa.many ps k2) > 512))) ?_ (Below.refl _ _) (by show _ = Value.bool q55; rw [Bq55])
     have e0 : a.eval (.tmp 54) = .int .i64 (Nfa.many ps k2) := (H.dep 1 54 (by kernel_rfl) rfl)
     have e1 : a.eval (.const (.int .i64 512)) = .int .i64 512 := (rfl : a.eval (.const (.int .i64 512)) = .int .i64 512)
     simp only [execOp, resolve, e0, e1]
     go_simp
   intro act32 w32 T
   have h2_32 := (T.rest 2 (by kernel_rfl)).trans h2_13
   have h4_32 := (T.rest 4 (by kernel_rfl)).trans h4_13
   have kg2_1_32 := (T.below.block _ lg2_1_13).trans kg2_1_13
   have lg2_1_32 := Nat.lt_of_lt_of_le lg2_1_13 T.below.size
   have kg4_2_32 := (T.below.block _ lg4_2_13).trans kg4_2_13
   have lg4_2_32 := Nat.lt_of_lt_of_le lg4_2_13 T.below.size
   have Ftp_32 := Eng.Reads.below Ftp_13 T.below
   have Otp_32 := Eng.own_below Otp_13 T.below
   have Ftb_32 := Eng.Reads.below Ftb_13 T.below
   have Otb_32 := Eng.own_below Otb_13 T.below
   have h55_32 : act32.eval (.tmp 55) = .bool q55 := T.done 2 55 rfl rfl
   have d32 := T.defers.trans d13
   have s32 := T.size.trans s13
   have bl32 := bl13.trans (T.below.mono bl13.size)
   clear T
   refine Eng.tail_nil ?_
   have n55 : q55 = false := by
    try simp only [Bq55, Bq24, Bq11]
    have h1 := hok.m ps.length (Nat.le_refl _)
    have h2 := hok.le
    exact decide_eq_false (by subst hke; omega)
   refine wp_cond_false (h55_32.trans (by rw [n55])) ?_
   refine wp_skip ?_
   refine wp_seq ?_
   refine Eng.regionS (Eng.still [fun u_ => u_ = .agg #[pv, bv, .int .i64 (Nfa.many ps k2)]]) (fun _ => .plain) 1 2 58 s32 rfl (by kernel_rfl) (Eng.still_stable _) (Or.inr (Eng.still_any _)) ?_ ?_
   ·refine Eng.Steps.cons (fun _ => ?_) (Eng.Steps.cons (fun hlt => ?_) (Eng.Steps.cons (fun hlt => ?_) (Eng.Steps.nil)))
    ·refine Eng.plain rfl rfl fun a w' H => ?_
     have kb := (H.below.block _ lg4_2_32).trans kg4_2_32
     have z0 : w'.cell? ⟨g4_2, 0, none⟩ = some (pv) := (Eng.cells kb 0).trans rfl
     have z1 : w'.cell? ⟨g4_2, 1, none⟩ = some (bv) := (Eng.cells kb 1).trans rfl
     have z2 : w'.cell? ⟨g4_2, 2, none⟩ = some (.int .i64 (Nfa.many ps k2)) := (Eng.cells kb 2).trans rfl
     refine Eng.val (w1 := w') (v := .agg #[pv, bv, .int .i64 (Nfa.many ps k2)]) ?_ (Below.refl _ _) rfl
     have e0 := ((H.kept 4 (by kernel_rfl)).trans h4_32)
     simp only [execOp, resolve, e0]
     go_simp
    ·exact absurd hlt (by decide)
    ·exact absurd hlt (by decide)
   intro act33 w33 T
   have h2_33 := (T.rest 2 (by kernel_rfl)).trans h2_32
   have kg2_1_33 := (T.below.block _ lg2_1_32).trans kg2_1_32
   have Ftp_33 := Eng.Reads.below Ftp_32 T.below
   have Otp_33 := Eng.own_below Otp_32 T.below
   have Ftb_33 := Eng.Reads.below Ftb_32 T.below
   have Otb_33 := Eng.own_below Otb_32 T.below
   have h57_33 : act33.eval (.tmp 57) = .agg #[pv, bv, .int .i64 (Nfa.many ps k2)] := T.done 0 57 rfl rfl
   have d33 := T.defers.trans d32
   have s33 := T.size.trans s32
   have bl33 := bl32.trans (T.below.mono bl32.size)
   clear T
   refine Eng.tail_put [pv, bv, .int .i64 (Nfa.many ps k2)] (n := 0) (new := #[pv, bv, .int .i64 (Nfa.many ps k2)]) rfl rfl rfl kg2_1_33 rfl ?_ fun w34 S => ?_
   ·have e0 : act33.eval (.tmp 2) = .pointer (some ⟨g2_1, 0, none⟩) := h2_33
    have e1 : act33.eval (.tmp 57) = .agg #[pv, bv, .int .i64 (Nfa.many ps k2)] := h57_33
    obtain ⟨A0_, c0_, ev0_⟩ := Eng.Reads.shape Ftp_33
    subst ev0_
    obtain ⟨A1_, c1_, ev1_⟩ := Eng.Reads.shape Ftb_33
    subst ev1_
    have z0 := (Eng.cells kg2_1_33 (0)).trans (rfl)
    have f0 := Eng.unfrozen kg2_1_33 (0)
    have z1 := (Eng.cells kg2_1_33 (1)).trans (rfl)
    have f1 := Eng.unfrozen kg2_1_33 (1)
    have z2 := (Eng.cells kg2_1_33 (2)).trans (rfl)
    have f2 := Eng.unfrozen kg2_1_33 (2)
    simp only [execOp]
    rw [e0, e1]
    go_simp
    try rfl
   have kg2_1_34 := S.new
   have bl34 := S.below bl33 og2_1
   have Otp_34 := Eng.own_sets Otp_33 S kg2_1_33 rfl
   have Otb_34 := Eng.own_sets Otb_33 S kg2_1_33 rfl
   clear S
   refine Eng.tail_val rfl rfl rfl (Eng.run_assign rfl (rfl : act33.eval (.const (.int .i64 0)) = .int .i64 0)) s33 rfl fun act35 d35 s35 hv hr => ?_
   have h2_35 := (hr 2 rfl).trans h2_33
   have h3_35 : act35.eval (.tmp 3) = .int .i64 0 := hv
   have d35 := d35.trans d33
   clear hv hr
   refine Eng.tail_nil ?_
   refine wp_ret ?_
   repeat (first | refine Eng.in_ret ?_ | refine Eng.then_ret ?_)
   subst hke
   exact Eng.retct rfl d35 h2_35 kg2_1_34 Tryd.underlying71 rfl (by kernel_rfl) h3_35 ⟨_, _, rfl, (by have O := Otp_34; rw [← hul, List.take_length] at O; exact O), Otb_34, bl34⟩
end Go.Proofs.YthgafcaoibfchaaDoor.X
end
section
namespace Go.Proofs.YthgafcaoibfchaaDoor.Y
open Go.RowKit Go.Proofs.YthgafcaoibfchaaDoorW.PrintWords Go.Proofs.YthgafcaoibfchaaDoorW.PrintLast Go.Proofs.YthgafcaoibfchaaDoorW.PrintMore
set_option linter.unusedVariables false
set_option linter.unusedSimpArgs false
theorem xbne_nil (l : List UInt8) : (l != []) = !l.isEmpty := by cases l <;> rfl
theorem xbeq_nil (l : List UInt8) : (l == []) = l.isEmpty := by cases l <;> rfl
end Go.Proofs.YthgafcaoibfchaaDoor.Y
end
section
namespace Go.Proofs.YthgafcaoibfchaaDoor.Y
open Go.RowKit Go.Proofs.YthgafcaoibfchaaDoorW.PrintWords Go.Proofs.YthgafcaoibfchaaDoorW.PrintLast Go.Proofs.YthgafcaoibfchaaDoorW.PrintMore
set_option linter.unusedVariables false
set_option linter.unusedSimpArgs false
def grilleref12_Has.l0 : Nat → Int → Int → Int → Option (Bool)
  | 0, _, _, _ => none
  | k + 1, x0, x1, x5 => if x5 < x1 then (grilleref12_Has.l0 k (IntKind.u64.wrap (Int.tdiv x0 2)) x1 (wrap64 (x5 + 1))) else (if x1 ≥ 0 then (if x1 < 64 then (some ((Int.tmod x0 2) == 1)) else (some false)) else (some false))
def grilleref12_Has.f (k : Nat) (a0 : Int) (a1 : Int) : Option (Bool) := grilleref12_Has.l0 k a0 a1 0
set_option maxHeartbeats 8000000 in
set_option maxRecDepth 100000 in
theorem grilleref12_Has.calls (k : Nat) (a0 : Int) (a1 : Int) (r : Bool) (w : World) (h : grilleref12_Has.f k a0 a1 = some r) :
    Calls Tryd.prog 66 #[.int .u64 a0, .int .i64 a1] w fun e w' => e = .returned (.bool r) ∧ Drawn0 w w' := by
  have H : (grilleref12_Has.l0 k a0 a1 0) = some r := h
  clear h
  have H' := Aside0.mk H
  clear H
  go_enter Tryd.func66, Tryd.ntmps66
  go_wp2
  go_loopg [0, 5] k (fun kq v0 v5 w' => ∃ (x0_1 : Int) (x5_1 : Int), v0 = .int .u64 x0_1 ∧ v5 = .int .i64 x5_1 ∧ Aside0 (grilleref12_Has.l0 kq x0_1 a1 x5_1 = some r) ∧ Aside0 (kq ≤ k) ∧ Drawn0 w w')
  case atStart => exact ⟨(a0), (0), (by first | rfl | (simp; done) | (simp [*]; done) | (simp [xbne_nil, xbeq_nil]; done)), (by first | rfl | (simp; done) | (simp [*]; done) | (simp [xbne_nil, xbeq_nil]; done)), H', ⟨Nat.le_refl _⟩, by repeat (first | exact Drawn0.refl _ | apply Drawn0.step)⟩
  case round =>
    clear H'
    try clear p2
    obtain ⟨x0_1, x5_1, rfl, rfl, HA, HK1, ⟨m1, rfl⟩⟩ := hrel
    cases gk with
    | zero => exact absurd HA.out (by simp [grilleref12_Has.l0])
    | succ k1 =>
      have H := HA.out
      clear HA
      simp only [grilleref12_Has.l0] at H
      by_cases c3 : x5_1 < a1
      · rw [if_pos c3] at H
        have c3b0 : decide (x5_1 < a1) = true := decide_eq_true c3
        clear c3
        have H' := Aside0.mk H
        clear H
        go_wp2
        go_roundg k1
        case measure => have := HK1.out; omega
        case rel => exact ⟨(IntKind.u64.wrap (Int.tdiv x0_1 2)), (wrap64 (x5_1 + 1)), (by first | rfl | (simp; done) | (simp [*]; done) | (simp [xbne_nil, xbeq_nil]; done)), (by first | rfl | (simp; done) | (simp [*]; done) | (simp [xbne_nil, xbeq_nil]; done)), H', ⟨by have := HK1.out; omega⟩, by repeat (first | exact Drawn0.refl _ | apply Drawn0.step)⟩
      · rw [if_neg c3] at H
        have c3b0 : decide (x5_1 < a1) = false := decide_eq_false c3
        clear c3
        by_cases c4 : a1 ≥ 0
        · rw [if_pos c4] at H
          have c4b0 : decide (0 ≤ a1) = true := decide_eq_true c4
          clear c4
          by_cases c5 : a1 < 64
          · rw [if_pos c5] at H
            have c5b0 : decide (a1 < 64) = true := decide_eq_true c5
            clear c5
            obtain rfl := Option.some.inj H
            go_wp2
            go_ret
            exact ⟨by first | rfl | (simp; done) | (simp [*]; done) | (simp [xbne_nil, xbeq_nil]; done), by repeat (first | exact Drawn0.refl _ | apply Drawn0.step)⟩
          · rw [if_neg c5] at H
            have c5b0 : decide (a1 < 64) = false := decide_eq_false c5
            clear c5
            obtain rfl := Option.some.inj H
            go_wp2
            go_ret
            exact ⟨by first | rfl | (simp; done) | (simp [*]; done) | (simp [xbne_nil, xbeq_nil]; done), by repeat (first | exact Drawn0.refl _ | apply Drawn0.step)⟩
        · rw [if_neg c4] at H
          have c4b0 : decide (0 ≤ a1) = false := decide_eq_false c4
          clear c4
          obtain rfl := Option.some.inj H
          go_wp2
          go_ret
          exact ⟨by first | rfl | (simp; done) | (simp [*]; done) | (simp [xbne_nil, xbeq_nil]; done), by repeat (first | exact Drawn0.refl _ | apply Drawn0.step)⟩
end Go.Proofs.YthgafcaoibfchaaDoor.Y
end
section
namespace Go.Proofs.YthgafcaoibfchaaDoor.X
open Go.RowKit Go.Shelf Go.Proofs Go.Proofs.YthgafcaoibfchaaDoor.Spl Go.Proofs.YthgafcaoibfchaaDoorW.PrintWords Go.Proofs.YthgafcaoibfchaaDoorW.PrintLast Go.Proofs.YthgafcaoibfchaaDoorW.PrintMore
attribute [local go_sem] Oper.semAt_some
set_option linter.unusedVariables false
set_option linter.unusedSimpArgs false
def place (l : List ByteArray) (x : List UInt8) : Int := Lib.idxOfS l ⟨x.toArray⟩
def orAt (c k : Int) : Int := if k ≥ 0 then Go.bits .or .u64 c (shl .u64 1 k) else c
def catsOf (l1 : List ByteArray) (ps : List (List UInt8)) (c : Int) : Int := ps.foldl (fun c x => orAt c (place l1 x)) c
structure Inv (w : World) (lv : Int) (l1 : List ByteArray) (A B : Value) (Bs D l : Nat) (r : Loop) (pre : List (List UInt8)) (W : World) : Prop where
  ha : W.heap[w.heap.size]? = some (.cells #[A, B] 47 (0, 0))
  hb : W.heap[w.heap.size + 1]? = some (.cells #[.int .i64 lv, .int .u64 (catsOf l1 pre 0)] 30 (0, 0))
  hs : ∃ x, W.heap[Bs]? = some (.cells #[x] 9 (0, 0))
  hp : W.heap[Bs + 1]? = some (.cells #[.string ⟨#[44]⟩] 9 (0, 0))
  hv : W.heap[Bs + 2]? = some (.cells #[.int .i64 0] 3 (0, 0))
  hl : W.heap[l]? = some (.loop r)
  hd : W.heap[D]? = some (.deferred (some []))
  hw : Below w.heap.size w W
theorem Inv.set {w : World} {lv : Int} {l1 : List ByteArray} {A B : Value} {Bs D l : Nat} {r : Loop} {pre : List (List UInt8)} {W : World} (h : Inv w lv l1 A B Bs D l r pre W) (h1 : w.heap.size + 1 < Bs) (h2 : Bs + 2 < D) (h3 : D < l) (v : Value) :
    Inv w lv l1 A B Bs D l r pre (W.setCell ⟨Bs, 0, none⟩ v) := by
  have far (k : Nat) (hk : k ≠ Bs) := Below.heap_setCell W ⟨Bs, 0, none⟩ v k hk
  obtain ⟨x, hx⟩ := h.hs
  exact ⟨(far _ (by omega)).trans h.ha, (far _ (by omega)).trans h.hb, ⟨v, blk_set hx 0 v⟩, (far _ (by omega)).trans h.hp, (far _ (by omega)).trans h.hv, (far _ (by omega)).trans h.hl, (far _ (by omega)).trans h.hd, below_set h.hw (by omega)⟩
theorem Inv.put {w : World} {lv : Int} {l1 : List ByteArray} {A B : Value} {Bs D l : Nat} {r : Loop} {pre : List (List UInt8)} {W : World} (h : Inv w lv l1 A B Bs D l r pre W) (h1 : w.heap.size + 1 < Bs) (h2 : Bs + 2 < D) (h3 : D < l) (r' : Loop) :
    Inv w lv l1 A B Bs D l r' pre (W.putObj l (.loop r')) := by
  have far (k : Nat) (hk : k ≠ l) := World.putObj_heap_other (w := W) (r := l) (k := k) (o := .loop r') hk
  obtain ⟨x, hx⟩ := h.hs
  have hlt : l < W.heap.size := (Array.getElem?_eq_some_iff.1 h.hl).1
  exact ⟨(far _ (by omega)).trans h.ha, (far _ (by omega)).trans h.hb, ⟨x, (far _ (by omega)).trans hx⟩, (far _ (by omega)).trans h.hp, (far _ (by omega)).trans h.hv, World.putObj_heap_same hlt, (far _ (by omega)).trans h.hd,
    h.hw.trans (belowK_b (w := w) (Nat.le_refl _) W l _ _ (by omega) h.hl rfl rfl)⟩
end Go.Proofs.YthgafcaoibfchaaDoor.X
end
section
namespace Go.Proofs.YthgafcaoibfchaaDoor.X
open Go.RowKit Go.Shelf Go.Proofs Go.Proofs.YthgafcaoibfchaaDoorW.PrintWords Go.Proofs.YthgafcaoibfchaaDoorW.PrintLast Go.Proofs.YthgafcaoibfchaaDoorW.PrintMore
set_option linter.unusedVariables false
set_option linter.unusedSimpArgs false
namespace Lat
def bv (x : Int) : BitVec 64 := BitVec.ofInt 64 x
theorem bv_toNat {x : Int} (h0 : 0 ≤ x) (h1 : x ≤ 18446744073709551615) : ((bv x).toNat : Int) = x := by
  unfold bv
  rw [BitVec.toNat_ofInt]
  omega
end Lat
end Go.Proofs.YthgafcaoibfchaaDoor.X
end
section
namespace Go.Proofs.YthgafcaoibfchaaDoor.X
open Go.RowKit Go.Shelf Go.Proofs Go.Proofs.YthgafcaoibfchaaDoorW.PrintWords Go.Proofs.YthgafcaoibfchaaDoorW.PrintLast Go.Proofs.YthgafcaoibfchaaDoorW.PrintMore
set_option linter.unusedVariables false
set_option linter.unusedSimpArgs false
namespace Lat
def has (x i : Int) : Bool := (bv x).getLsbD i.toNat
theorem below_drawn {w w' : World} (h : Drawn0 w w') : Below w.heap.size w w' := by
  obtain ⟨n, rfl⟩ := h
  exact (pw_below_drewN (Below.refl _ _) n)
theorem bv_getLsbD {x : Int} (h0 : 0 ≤ x) (h1 : x ≤ 18446744073709551615) (i : Nat) : (bv x).getLsbD i = x.toNat.testBit i := by
  rw [BitVec.getLsbD]
  congr 1
  have := bv_toNat h0 h1
  omega
theorem has_loop (i : Nat) (hi : i ≤ 4611686018427387904) : ∀ (d k j : Nat) (x : Int), d + j = i → d < k → 0 ≤ x → x ≤ 18446744073709551615 →
    Y.grilleref12_Has.l0 k x (i : Int) (j : Int) = some (decide (i < 64) && x.toNat.testBit d) := by
  intro d
  induction d with
  | zero =>
    intro k j x hd hk h0 h1
    obtain ⟨k, rfl⟩ : ∃ m, k = m + 1 := ⟨k - 1, by omega⟩
    have hj : j = i := by omega
    subst hj
    simp only [Y.grilleref12_Has.l0]
    rw [if_neg (by omega), if_pos (by omega)]
    by_cases h : j < 64
    · rw [if_pos (by omega)]
      have : Int.tmod x 2 = x % 2 := Int.tmod_eq_emod_of_nonneg h0
      rw [this, Nat.testBit_zero]
      simp only [h, decide_true, Bool.true_and]
      congr 1
      rw [Bool.eq_iff_iff]; simp; omega
    · rw [if_neg (by omega)]; simp [h]
  | succ d ih =>
    intro k j x hd hk h0 h1
    obtain ⟨k, rfl⟩ : ∃ m, k = m + 1 := ⟨k - 1, by omega⟩
    simp only [Y.grilleref12_Has.l0]
    rw [if_pos (by omega)]
    have ht : Int.tdiv x 2 = x / 2 := Int.tdiv_eq_ediv_of_nonneg h0
    have hw : IntKind.u64.wrap (x / 2) = x / 2 := by
      simp only [IntKind.wrap, IntKind.bits, IntKind.signed, Bool.false_and, Bool.false_eq_true, if_false]
      omega
    have hj : wrap64 ((j : Int) + 1) = ((j + 1 : Nat) : Int) := by unfold wrap64; omega
    rw [ht, hw, hj, ih k (j + 1) (x / 2) (by omega) (by omega) (by omega) (by omega), Nat.testBit_succ]
    have : (x / 2).toNat = x.toNat / 2 := by omega
    rw [this]
theorem has_f (x : Int) (i : Nat) (k : Nat) (hk : i < k) (hi : i ≤ 4611686018427387904) (h0 : 0 ≤ x) (h1 : x ≤ 18446744073709551615) : Y.grilleref12_Has.f k x (i : Int) = some (has x (i : Int)) := by
  unfold Y.grilleref12_Has.f
  have := has_loop i hi i k 0 x (by omega) hk h0 h1
  rw [show ((0 : Nat) : Int) = 0 from rfl] at this
  rw [this]
  unfold has
  rw [Int.toNat_natCast, bv_getLsbD h0 h1]
  by_cases h : i < 64
  · simp [h]
  · have : x.toNat.testBit i = false := by
      refine Nat.testBit_lt_two_pow (Nat.lt_of_lt_of_le (show x.toNat < 2 ^ 64 by omega) (Nat.pow_le_pow_right (by omega) (by omega)))
    simp [h, this]
theorem has_calls (x i : Int) (w : World) (h0 : 0 ≤ x) (h1 : x ≤ 18446744073709551615) (hi : 0 ≤ i) (hi' : i ≤ 4611686018427387904) : Calls Tryd.prog 66 #[.int .u64 x, .int .i64 i] w fun e w' => e = .returned (.bool (has x i)) ∧ Below w.heap.size w w' := by
  obtain ⟨n, rfl⟩ := Int.eq_ofNat_of_zero_le hi
  exact (Y.grilleref12_Has.calls (n + 1) x n _ w (has_f x n (n + 1) (by omega) (by omega) h0 h1)).mono fun e w' ⟨he, hd⟩ => ⟨he, below_drawn hd⟩
end Lat
end Go.Proofs.YthgafcaoibfchaaDoor.X
end
section
namespace Go.Proofs.YthgafcaoibfchaaDoor.X
open Go Go.RowKit Go.Shelf Go.Proofs
set_option linter.unusedVariables false
set_option linter.unusedSimpArgs false
namespace Nfa
theorem ones_u (l : List Int) : ((List.map (Value.int .u64) l).toArray).all (·.oneCell') = true := by
  rw [Array.all_eq_true_iff_forall_mem]
  intro v hv
  rw [List.mem_toArray] at hv
  obtain ⟨x, _, rfl⟩ := List.mem_map.1 hv
  rfl
theorem wrapu (n : Nat) : IntKind.u64.wrap (n : Int) = ((n % 18446744073709551616 : Nat) : Int) := by
  simp only [IntKind.wrap, IntKind.bits, IntKind.signed, Bool.false_and, Bool.false_eq_true, if_false]
  omega
theorem has_lat {s : List Int} (hg : Good s) {n : Int} : has s n = ((decide (n ≥ 0) && decide (n < 512)) && Lat.has (at_ s (n.toNat / 64)) ((n.toNat % 64 : Nat) : Int)) := by
  by_cases h0 : 0 ≤ n
  · obtain ⟨m, rfl⟩ := Int.eq_ofNat_of_zero_le h0
    by_cases h1 : m < 512
    · have hd : m / 64 < 8 := by omega
      rw [has_eq hg h1]
      have e1 : decide ((m : Int) ≥ 0) = true := decide_eq_true h0
      have e2 : decide ((m : Int) < 512) = true := decide_eq_true (by omega)
      rw [e1, e2, Bool.true_and, Bool.true_and]
      unfold Lat.has
      rw [Int.toNat_natCast, Int.toNat_natCast, Lat.bv_getLsbD (hg.lo _ hd) (by have := hg.hi _ hd; omega)]
    · unfold has
      have e2 : decide ((m : Int) < 512) = false := decide_eq_false (by omega)
      rw [e2, Bool.and_false, Bool.false_and, Bool.false_and]
  · unfold has
    have e2 : decide (n ≥ 0) = false := decide_eq_false (by omega)
    rw [e2, Bool.false_and, Bool.false_and, Bool.false_and]
theorem add_or {X r : Nat} (hX : X < 2 ^ 64) (hr : r < 64) (h : X.testBit r = false) : IntKind.u64.wrap ((X : Int) + ((2 ^ r : Nat) : Int)) = ((X ||| 2 ^ r : Nat) : Int) := by
  have hp : 2 ^ r < 2 ^ 64 := Nat.pow_lt_pow_right (by omega) hr
  have e : (BitVec.ofNat 64 X + BitVec.ofNat 64 (2 ^ r)) = (BitVec.ofNat 64 X ||| BitVec.ofNat 64 (2 ^ r)) := by
    refine BitVec.add_eq_or_of_and_eq_zero _ _ ?_
    refine BitVec.eq_of_getLsbD_eq fun i hi => ?_
    rw [BitVec.getLsbD_and, BitVec.getLsbD_ofNat, BitVec.getLsbD_ofNat, Nat.testBit_two_pow]
    by_cases hri : r = i
    · subst hri; rw [h]; simp
    · simp [hri]
  have e2 := congrArg BitVec.toNat e
  rw [BitVec.toNat_add, BitVec.toNat_or, BitVec.toNat_ofNat, BitVec.toNat_ofNat, Nat.mod_eq_of_lt hX, Nat.mod_eq_of_lt hp] at e2
  have e3 : ((X : Int) + ((2 ^ r : Nat) : Int)) = ((X + 2 ^ r : Nat) : Int) := by rw [Int.natCast_add]
  rw [e3, wrapu]
  exact congrArg _ e2
theorem put_add {s : List Int} (hg : Good s) {n : Int} (h0 : 0 ≤ n) (h1 : n < 512) {N R p : Nat} (hN : n.toNat / 64 = N) (hR : n.toNat % 64 = R) (hp : p = 2 ^ R % 18446744073709551616) (h : has s n = false) : s.set N (IntKind.u64.wrap (at_ s N + (p : Int))) = put s n := by
  obtain ⟨m, rfl⟩ := Int.eq_ofNat_of_zero_le h0
  have hm : m < 512 := by omega
  rw [Int.toNat_natCast] at hN hR
  have hd : m / 64 < 8 := by omega
  rw [(put_eq hg hm).1, ← hN]
  rw [has_eq hg hm] at h
  have hpp : 2 ^ R < 2 ^ 64 := Nat.pow_lt_pow_right (by omega) (by omega)
  rw [Nat.mod_eq_of_lt (show 2 ^ R < 18446744073709551616 from hpp)] at hp
  obtain ⟨X, hX⟩ := Int.eq_ofNat_of_zero_le (hg.lo _ hd)
  have hi := hg.hi _ hd
  rw [hX, Int.toNat_natCast] at h
  rw [hX, Int.toNat_natCast, hp, ← hR]
  rw [hX] at hi
  rw [add_or (by omega) (by omega) h]
theorem put_had {s : List Int} (hg : Good s) {n : Int} (h0 : 0 ≤ n) (h1 : n < 512) (h : has s n = true) : put s n = s := by
  obtain ⟨m, rfl⟩ := Int.eq_ofNat_of_zero_le h0
  have hm : m < 512 := by omega
  have hd : m / 64 < 8 := by omega
  rw [(put_eq hg hm).1]
  rw [has_eq hg hm] at h
  obtain ⟨X, hX⟩ := Int.eq_ofNat_of_zero_le (hg.lo _ hd)
  rw [hX, Int.toNat_natCast] at h
  rw [hX, Int.toNat_natCast]
  have e : X ||| 2 ^ (m % 64) = X := by
    refine Nat.eq_of_testBit_eq fun i => ?_
    rw [Nat.testBit_or, Nat.testBit_two_pow]
    by_cases hi : m % 64 = i
    · subst hi; rw [h]; simp
    · simp [hi]
  rw [e, ← hX]
  refine List.ext_getElem (by simp) fun i h2 h3 => ?_
  rw [List.getElem_set]
  split
  · next he => subst he; unfold at_; rw [List.getD_eq_getElem?_getD, List.getElem?_eq_getElem h3]; rfl
  · rfl
theorem or_nat {A B : Nat} (hA : A < 2 ^ 64) (hB : B < 2 ^ 64) : Go.bits .or .u64 (A : Int) (B : Int) = ((A ||| B : Nat) : Int) := by
  rw [bits_or, bv_cast, bv_cast, BitVec.toNat_or, BitVec.toNat_ofNat, BitVec.toNat_ofNat, Nat.mod_eq_of_lt hA, Nat.mod_eq_of_lt hB]
theorem tmod2 (a : Nat) : Int.tmod (a : Int) 2 = ((a % 2 : Nat) : Int) := rfl
theorem tdiv2 {a : Nat} (h : a < 18446744073709551616) : IntKind.u64.wrap (Int.tdiv (a : Int) 2) = ((a / 2 : Nat) : Int) := by
  have e : Int.tdiv (a : Int) 2 = ((a / 2 : Nat) : Int) := rfl
  rw [e, wrapu, Nat.mod_eq_of_lt (by omega)]
theorem mul2 (p : Nat) : IntKind.u64.wrap ((p : Int) * 2) = ((p * 2 % 18446744073709551616 : Nat) : Int) := by
  have e : ((p : Int) * 2) = ((p * 2 : Nat) : Int) := by omega
  rw [e, wrapu]
theorem pow_next {p i : Nat} (hp : p = 2 ^ i % 18446744073709551616) : p * 2 % 18446744073709551616 = 2 ^ (i + 1) % 18446744073709551616 := by
  rw [hp, Nat.pow_succ, Nat.mod_mul_mod]
theorem half_next {A a i : Nat} (h : a = A / 2 ^ i) : a / 2 = A / 2 ^ (i + 1) := by
  rw [h, Nat.div_div_eq_div_mul, Nat.pow_succ]
theorem half_bit {A a i : Nat} (h : a = A / 2 ^ i) : (((a % 2 : Nat) : Int) == 1) = A.testBit i := by
  rw [h, Nat.testBit_eq_decide_div_mod_eq]
  generalize A / 2 ^ i = q
  rw [Bool.eq_iff_iff, beq_iff_eq, decide_eq_true_eq]; omega
theorem both_next {A B a b o i : Nat} (hi : i < 64) (ha : a = A / 2 ^ i) (hb : b = B / 2 ^ i) (ho : o = (A ||| B) % 2 ^ i) {p : Nat} (hp : p = 2 ^ i % 18446744073709551616) {c : Bool} (hc : ((((a % 2 : Nat) : Int) == 1) || (((b % 2 : Nat) : Int) == 1)) = c) : (if c = true then o + p else o) = (A ||| B) % 2 ^ (i + 1) ∧ (if c = true then o + p else o) < 18446744073709551616 := by
  have hpp : 2 ^ i < 2 ^ 64 := Nat.pow_lt_pow_right (by omega) hi
  rw [Nat.mod_eq_of_lt (show 2 ^ i < 18446744073709551616 from hpp)] at hp
  rw [half_bit ha, half_bit hb, ← Nat.testBit_or] at hc
  have h1 : (if c = true then o + p else o) = (A ||| B) % 2 ^ (i + 1) := by
    rw [Nat.mod_pow_succ, ← ho, hp]
    rw [Nat.testBit_eq_decide_div_mod_eq] at hc
    generalize (A ||| B) / 2 ^ i = q at hc
    cases c
    · have := of_decide_eq_false hc
      have e : q % 2 = 0 := by omega
      rw [e]; simp
    · have := of_decide_eq_true hc
      rw [this]; simp
  refine ⟨h1, ?_⟩
  rw [h1]
  have h2 : 2 ^ (i + 1) ≤ 2 ^ 64 := Nat.pow_le_pow_right (by omega) (by omega)
  exact Nat.lt_of_lt_of_le (Nat.mod_lt _ (Nat.two_pow_pos _)) h2
theorem both_on {A B a b o i : Nat} (hi : i < 64) (ha : a = A / 2 ^ i) (hb : b = B / 2 ^ i) (ho : o = (A ||| B) % 2 ^ i) {p : Nat} (hp : p = 2 ^ i % 18446744073709551616) (hc : ((((a % 2 : Nat) : Int) == 1) || (((b % 2 : Nat) : Int) == 1)) = true) : (o + p) % 18446744073709551616 = (A ||| B) % 2 ^ (i + 1) := by
  have h := both_next hi ha hb ho hp hc
  rw [if_pos rfl] at h
  rw [Nat.mod_eq_of_lt h.2]; exact h.1
theorem both_off {A B a b o i : Nat} (hi : i < 64) (ha : a = A / 2 ^ i) (hb : b = B / 2 ^ i) (ho : o = (A ||| B) % 2 ^ i) (hc : ((((a % 2 : Nat) : Int) == 1) || (((b % 2 : Nat) : Int) == 1)) = false) : o = (A ||| B) % 2 ^ (i + 1) := by
  have h := both_next hi ha hb ho rfl hc
  rw [if_neg (by simp)] at h
  exact h.1
theorem add_nat (o p : Nat) : IntKind.u64.wrap ((o : Int) + (p : Int)) = (((o + p) % 18446744073709551616 : Nat) : Int) := by
  rw [← Int.natCast_add, wrapu]
theorem both_all {A B o i : Nat} (hA : A < 2 ^ 64) (hB : B < 2 ^ 64) (hi : i = 64) (ho : o = (A ||| B) % 2 ^ i) : o = A ||| B := by
  subst hi
  rw [ho, Nat.mod_eq_of_lt (Nat.or_lt_two_pow hA hB)]
theorem closeF_good {s : List Int} (hg : Good s) : ∀ l : List It, Good (closeF s l) := by
  intro l
  induction l generalizing s with
  | nil => exact hg
  | cons x t ih =>
    show Good (closeF (if (x.2.1 == 2 && has s x.1) = true then put s (IntKind.i64.wrap (x.1 + 1)) else s) t)
    split
    · exact ih (good_put hg _)
    · exact ih hg
theorem stepP_good {s0 : List Int} {x : ByteArray} {s : List Int} (hg : Good s) (y : It) : Good (stepP s0 x s y) := by
  unfold stepP
  split
  · exact hg
  · split
    · exact good_put hg _
    · split
      · exact good_put hg _
      · exact hg
theorem stepF_good (s0 : List Int) (x : ByteArray) (l : List It) : Good (stepF s0 x l) := by
  have gen : ∀ (l : List It) (s : List Int), Good s → Good (l.foldl (stepP s0 x) s) := by
    intro l
    induction l with
    | nil => intro s h; exact h
    | cons y t ih => intro s h; exact ih _ (stepP_good h y)
  exact gen l _ good0
theorem begins_good (bs : List Int) : ∀ n, Good (begins bs n)
  | 0 => good0
  | n + 1 => by rw [begins_succ]; exact good_put (begins_good bs n) _
theorem start_good (ps : List (List Pth.Part)) (bs : List Int) : Good (start ps bs) := closeF_good (begins_good _ _) _
theorem step_good (ps : List (List Pth.Part)) (bs : List Int) (s : List Int) (x : ByteArray) : Good (step ps bs s x) := closeF_good (stepF_good _ _ _) _
theorem run_good (ps : List (List Pth.Part)) (bs : List Int) (l : List ByteArray) : Good (run ps bs l) := by
  have gen : ∀ (l : List ByteArray) (s : List Int), Good s → Good (l.foldl (step ps bs) s) := by
    intro l
    induction l with
    | nil => intro s h; exact h
    | cons y t ih => intro s h; exact ih _ (step_good _ _ _ _)
  exact gen l _ (start_good _ _)
theorem begin_at {bs : List Int} {k : Nat} (h : k < bs.length) : beginF bs (k : Int) = bs.getD k 0 := by
  unfold beginF; rw [if_neg (by omega), Int.toNat_natCast]
theorem close_on {ps : List (List Pth.Part)} {bs : List Int} {s : List Int} {k j : Nat} (hk : k < bs.length) (h : (((ps.getD k []).getD j default).1 == 2 && has (closeF s (itemsTo ps bs k j)) (IntKind.i64.wrap (bs.getD k 0 + (j : Int)))) = true) :
    put (closeF s (itemsTo ps bs k j)) (IntKind.i64.wrap (IntKind.i64.wrap (bs.getD k 0 + (j : Int)) + 1)) = closeF s (itemsTo ps bs k (j + 1)) := by
  rw [itemsTo_succ, closeF_snoc]
  unfold item
  rw [begin_at hk, if_pos h]
theorem close_off {ps : List (List Pth.Part)} {bs : List Int} {s : List Int} {k j : Nat} (hk : k < bs.length) (h : (((ps.getD k []).getD j default).1 == 2 && has (closeF s (itemsTo ps bs k j)) (IntKind.i64.wrap (bs.getD k 0 + (j : Int)))) = false) :
    closeF s (itemsTo ps bs k j) = closeF s (itemsTo ps bs k (j + 1)) := by
  rw [itemsTo_succ, closeF_snoc]
  unfold item
  rw [begin_at hk, if_neg (by rw [h]; simp)]
theorem step_at {ps : List (List Pth.Part)} {bs : List Int} {s : List Int} {x : ByteArray} {k j : Nat} (hk : k < bs.length) : stepF s x (itemsTo ps bs k (j + 1)) = if (!has s (IntKind.i64.wrap (bs.getD k 0 + (j : Int)))) = true then stepF s x (itemsTo ps bs k j) else if (((ps.getD k []).getD j default).1 == 2) = true then put (stepF s x (itemsTo ps bs k j)) (IntKind.i64.wrap (bs.getD k 0 + (j : Int))) else if (((ps.getD k []).getD j default).1 == 1 || ((ps.getD k []).getD j default).2.toList == x.toList) = true then put (stepF s x (itemsTo ps bs k j)) (IntKind.i64.wrap (IntKind.i64.wrap (bs.getD k 0 + (j : Int)) + 1)) else stepF s x (itemsTo ps bs k j) := by
  rw [itemsTo_succ, stepF_snoc]
  unfold stepP item
  rw [begin_at hk]
def Lie (ps : List (List Pth.Part)) (bs : List Int) : Prop := bs.length = ps.length ∧ ∀ k, k < ps.length → 0 ≤ bs.getD k 0 ∧ bs.getD k 0 + ((ps.getD k []).length : Int) < 512
theorem Lie.state {ps : List (List Pth.Part)} {bs : List Int} (h : Lie ps bs) {k j : Nat} (hk : k < ps.length) (hj : j ≤ (ps.getD k []).length) : 0 ≤ IntKind.i64.wrap (bs.getD k 0 + (j : Int)) ∧ IntKind.i64.wrap (bs.getD k 0 + (j : Int)) < 512 := by
  have := h.2 k hk
  rw [Eng.i64_id (by omega) (by omega)]; omega
theorem Lie.next {ps : List (List Pth.Part)} {bs : List Int} (h : Lie ps bs) {k j : Nat} (hk : k < ps.length) (hj : j < (ps.getD k []).length) : 0 ≤ IntKind.i64.wrap (IntKind.i64.wrap (bs.getD k 0 + (j : Int)) + 1) ∧ IntKind.i64.wrap (IntKind.i64.wrap (bs.getD k 0 + (j : Int)) + 1) < 512 := by
  have := h.2 k hk
  rw [Eng.i64_id (x := bs.getD k 0 + (j : Int)) (by omega) (by omega), Eng.i64_id (by omega) (by omega)]; omega
theorem Lie.first {ps : List (List Pth.Part)} {bs : List Int} (h : Lie ps bs) {k : Nat} (hk : k < ps.length) : 0 ≤ bs.getD k 0 ∧ bs.getD k 0 < 512 := by
  have := h.2 k hk; omega
theorem Lie.of {ps : List (List Pth.Part)} (hok : Ok ps) : Lie ps (bsOf ps) := by
  refine ⟨begs_len _ _, fun k hk => ?_⟩
  rw [← begin_at (show k < (bsOf ps).length by rw [begs_len]; exact hk), begin_eq hok hk]
  have := off_lt hok hk (Nat.le_refl _)
  omega
end Nfa
end Go.Proofs.YthgafcaoibfchaaDoor.X
end
section
namespace Go.Proofs.YthgafcaoibfchaaDoor.X
open Go.RowKit Go.Shelf Go.Proofs Go.Proofs.YthgafcaoibfchaaDoorW.PrintWords Go.Proofs.YthgafcaoibfchaaDoorW.PrintLast Go.Proofs.YthgafcaoibfchaaDoorW.PrintMore
set_option linter.unusedVariables false
set_option linter.unusedSimpArgs false
set_option maxHeartbeats 4000000 in
set_option maxRecDepth 100000 in
theorem Nfa.rhas_calls (l : List Int) (n : Int) (w : World) (hg : Nfa.Good l) : Calls Tryd.prog 115 #[.agg ((List.map (Value.int .u64) l).toArray), .int .i64 n] w fun e w' => e = .returned (.bool (Nfa.has l n)) ∧ Below w.heap.size w w' := by
 obtain ⟨N64, hN⟩ : ∃ k : Nat, n.toNat / 64 = k := ⟨_, rfl⟩
 obtain ⟨Nr, hR⟩ : ∃ k : Nat, n.toNat % 64 = k := ⟨_, rfl⟩
 have hq64 : 0 ≤ n → n < 512 → IntKind.i64.wrap (n.tdiv 64) = (N64 : Int) := fun h0 h1 => by rw [← hN]; exact Nfa.quo64 h0 h1
 have hr64 : 0 ≤ n → n.tmod 64 = (Nr : Int) := fun h0 => by rw [← hR]; exact Nfa.rem64 h0
 have hN8 : n < 512 → N64 < 8 := by omega
 have hNr : Nr < 64 := by omega
 refine Eng.enter Tryd.func115 rfl fun act0 d0 s0 v0 => ?_
 have s0 : act0.tmps.size = 20 := s0
 have h0_0 : act0.eval (.tmp 0) = .agg ((List.map (Value.int .u64) l).toArray) := v0 0 (by simp)
 have h1_0 : act0.eval (.tmp 1) = .int .i64 n := v0 1 (by simp)
 clear v0
 have bl0 : Below w.heap.size w w := Below.refl _ _
 refine wp_seq ?_
 refine Eng.regionS (Eng.still [fun u_ => True, fun u_ => u_ = .bool false]) (fun i => ([.alloc 61 ((List.map (Value.int .u64) l).toArray), .plain] : List Eng.Kind).getD i .plain) 2 0 20 s0 rfl (by kernel_rfl) (Eng.still_stable _) (Or.inr (Eng.still_any _)) ?_ ?_
 ·refine Eng.Steps.cons (fun _ => ?_) (Eng.Steps.cons (fun _ => ?_) (Eng.Steps.nil))
  ·refine Eng.made rfl (by simp) rfl (fun a w' hd ho => ?_) (fun _ _ => trivial)
   exact Eng.run_box rfl ((ho 0 (by kernel_rfl)).trans h0_0)
  ·refine Eng.plain rfl rfl fun a w' H => ?_
   exact Eng.val (w1 := w') (v := .bool false) (Eng.run_assign rfl (rfl : a.eval (.const (.bool false)) = .bool false)) (Below.refl _ _) rfl
 intro act1 w1 T
 have h1_1 := (T.rest 1 (by kernel_rfl)).trans h1_0
 obtain ⟨g2_1, h2_1, rg2_1, lg2_1_1, kg2_1_1⟩ := T.al 0 2 _ _ rfl rfl rfl (by kernel_rfl)
 have d1 := T.defers.trans d0
 have s1 := T.size.trans s0
 have bl1 := bl0.trans (T.below.mono bl0.size)
 clear T
 refine Eng.tail_nil ?_
 refine wp_seq ?_
 obtain ⟨q6, Bq6⟩ : ∃ b : Bool, b = (decide (n ≥ 0)) := ⟨_, rfl⟩
 obtain ⟨q9, Bq9⟩ : ∃ b : Bool, b = (decide (n < 512)) := ⟨_, rfl⟩
 obtain ⟨q10, Bq10⟩ : ∃ b : Bool, b = (q6 && q9) := ⟨_, rfl⟩
 obtain ⟨q18, Bq18⟩ : ∃ b : Bool, b = (Lat.has (Nfa.at_ l N64) (Nr : Int)) := ⟨_, rfl⟩
 obtain ⟨q19, Bq19⟩ : ∃ b : Bool, b = (q10 && q18) := ⟨_, rfl⟩
 refine Eng.regionS (Eng.still [fun u_ => u_ = .int .i64 n, fun u_ => u_ = .bool q6, fun u_ => u_ = .bool q6, fun u_ => u_ = bif (q6 == true) then (.int .i64 n) else undef, fun u_ => u_ = bif (q6 == true) then (.bool q9) else undef, fun u_ => u_ = .bool q10, fun u_ => u_ = .bool q10, fun u_ => u_ = bif (q10 == true) then (.int .i64 n) else undef, fun u_ => u_ = bif (q10 == true) then (.int .i64 (N64 : Int)) else undef, fun u_ => u_ = bif (q10 == true) then (.pointer (some ⟨g2_1, N64, none⟩)) else undef, fun u_ => u_ = bif (q10 == true) then (.int .u64 (Nfa.at_ l (N64))) else undef, fun u_ => u_ = bif (q10 == true) then (.int .i64 n) else undef, fun u_ => u_ = bif (q10 == true) then (.int .i64 (Nr : Int)) else undef, fun u_ => u_ = bif (q10 == true) then (.bool q18) else undef, fun u_ => u_ = .bool q19, fun u_ => u_ = .bool q19]) (fun _ => .plain) 16 0 20 s1 rfl (by kernel_rfl) (Eng.still_stable _) (Or.inr (Eng.still_any _)) ?_ ?_
 ·refine Eng.Steps.cons (fun _ => ?_) (Eng.Steps.cons (fun _ => ?_) (Eng.Steps.cons (fun _ => ?_) (Eng.Steps.cons (fun _ => ?_) (Eng.Steps.cons (fun _ => ?_) (Eng.Steps.cons (fun _ => ?_) (Eng.Steps.cons (fun _ => ?_) (Eng.Steps.cons (fun _ => ?_) (Eng.Steps.cons (fun _ => ?_) (Eng.Steps.cons (fun _ => ?_) (Eng.Steps.cons (fun _ => ?_) (Eng.Steps.cons (fun _ => ?_) (Eng.Steps.cons (fun _ => ?_) (Eng.Steps.cons (fun _ => ?_) (Eng.Steps.cons (fun _ => ?_) (Eng.Steps.cons (fun _ => ?_) (Eng.Steps.nil))))))))))))))))
  ·refine Eng.plain rfl rfl fun a w' H => ?_
   exact Eng.val (w1 := w') (v := .int .i64 n) (Eng.run_move rfl ((H.kept 1 (by kernel_rfl)).trans h1_1)) (Below.refl _ _) rfl
  ·refine Eng.plain rfl rfl fun a w' H => ?_
   refine Eng.val (w1 := w') (v := .bool (decide (n ≥ 0))) ?_ (Below.refl _ _) (by show _ = Value.bool q6; rw [Bq6])
   have e0 : a.eval (.tmp 5) = .int .i64 n := (H.dep 0 5 (by kernel_rfl) rfl)
   have e1 : a.eval (.const (.int .i64 0)) = .int .i64 0 := (rfl : a.eval (.const (.int .i64 0)) = .int .i64 0)
   simp only [execOp, resolve, e0, e1]
   go_simp
  ·refine Eng.plain rfl rfl fun a w' H => ?_
   exact Eng.val (w1 := w') (v := .bool q6) (Eng.run_move rfl (H.dep 1 6 (by kernel_rfl) rfl)) (Below.refl _ _) rfl
  ·refine Eng.guarded1 (j := 2) (d := 7) (b := q6) rfl rfl (by kernel_rfl) rfl (fun v w h => h) (fun hG w => Eng.off hG) fun hG a w' H => ?_
   exact Eng.val (w1 := w') (v := .int .i64 n) (Eng.run_move rfl ((H.kept 1 (by kernel_rfl)).trans h1_1)) (Below.refl _ _) (Eng.off' hG rfl)
  ·refine Eng.guarded1 (j := 2) (d := 7) (b := q6) rfl rfl (by kernel_rfl) rfl (fun v w h => h) (fun hG w => Eng.off hG) fun hG a w' H => ?_
   refine Eng.val (w1 := w') (v := .bool (decide (n < 512))) ?_ (Below.refl _ _) (Eng.off' hG (by rw [Bq9]))
   have e0 : a.eval (.tmp 8) = .int .i64 n := (Eng.on (H.dep 3 8 (by kernel_rfl) rfl) hG)
   have e1 : a.eval (.const (.int .i64 512)) = .int .i64 512 := (rfl : a.eval (.const (.int .i64 512)) = .int .i64 512)
   simp only [execOp, resolve, e0, e1]
   go_simp
  ·refine Eng.plain rfl rfl fun a w' H => ?_
   exact Eng.val (w1 := w') (v := .bool (q6 && q9)) (Eng.run_and rfl rfl (G := true) (H.dep 2 7 (by kernel_rfl) rfl) (fun hb => (Eng.on (H.dep 4 9 (by kernel_rfl) rfl) (Eng.mk1 hb)))) (Below.refl _ _) (by show _ = Value.bool q10; rw [Bq10])
  ·refine Eng.plain rfl rfl fun a w' H => ?_
   exact Eng.val (w1 := w') (v := .bool q10) (Eng.run_move rfl (H.dep 5 10 (by kernel_rfl) rfl)) (Below.refl _ _) rfl
  ·refine Eng.guarded1 (j := 6) (d := 11) (b := q10) rfl rfl (by kernel_rfl) rfl (fun v w h => h) (fun hG w => Eng.off hG) fun hG a w' H => ?_
   exact Eng.val (w1 := w') (v := .int .i64 n) (Eng.run_move rfl ((H.kept 1 (by kernel_rfl)).trans h1_1)) (Below.refl _ _) (Eng.off' hG rfl)
  ·refine Eng.guarded1 (j := 6) (d := 11) (b := q10) rfl rfl (by kernel_rfl) rfl (fun v w h => h) (fun hG w => Eng.off hG) fun hG a w' H => ?_
   have hq := Eng.one2 hG
   rw [Bq10, Bq9, Bq6] at hq
   simp only [Bool.and_eq_true, decide_eq_true_eq] at hq
   obtain ⟨hq0, hq1⟩ := hq
   refine Eng.val (w1 := w') (v := .int .i64 (N64 : Int)) ?_ (Below.refl _ _) (Eng.off' hG rfl)
   have e0 : a.eval (.tmp 12) = .int .i64 n := (Eng.on (H.dep 7 12 (by kernel_rfl) rfl) hG)
   have e1 : a.eval (.const (.int .i64 64)) = .int .i64 64 := (rfl : a.eval (.const (.int .i64 64)) = .int .i64 64)
   simp only [execOp, resolve, e0, e1]
   go_simp
   all_goals first | rfl | (exact hq64 hq0 hq1) | (rw [hq64 hq0 hq1]; done) | skip
  ·refine Eng.guarded1 (j := 6) (d := 11) (b := q10) rfl rfl (by kernel_rfl) rfl (fun v w h => h) (fun hG w => Eng.off hG) fun hG a w' H => ?_
   refine Eng.val (w1 := w') (v := .pointer (some ⟨g2_1, N64, none⟩)) ?_ (Below.refl _ _) (Eng.off' hG rfl)
   exact Eng.run_indexAddr rfl Tryd.underlying61 (by kernel_rfl) ((H.kept 2 (by kernel_rfl)).trans h2_1) ((Eng.on (H.dep 8 13 (by kernel_rfl) rfl) hG).trans (congrArg (Value.int _) (show (N64 : Int) = ((N64 : Nat) : Int) from by first | rfl | (have hq := Eng.one2 hG; rw [Bq10, Bq9, Bq6] at hq; simp only [Bool.and_eq_true, decide_eq_true_eq] at hq; obtain ⟨hq0, hq1⟩ := hq; exact hN8 hq1)))) (by decide) (by first | rfl | (have hq := Eng.one2 hG; rw [Bq10, Bq9, Bq6] at hq; simp only [Bool.and_eq_true, decide_eq_true_eq] at hq; obtain ⟨hq0, hq1⟩ := hq; exact hN8 hq1))
  ·refine Eng.guarded1 (j := 6) (d := 11) (b := q10) rfl rfl (by kernel_rfl) rfl (fun v w h => h) (fun hG w => Eng.off hG) fun hG a w' H => ?_
   have kb := (H.below.block _ lg2_1_1).trans kg2_1_1
   have z0 : w'.cell? ⟨g2_1, N64, none⟩ = some (.int .u64 (Nfa.at_ l (N64))) := (Eng.cells kb (N64)).trans (Nfa.cell_at ((hg).len) (by first | omega | (have hq := Eng.one2 hG; rw [Bq10, Bq9, Bq6] at hq; simp only [Bool.and_eq_true, decide_eq_true_eq] at hq; obtain ⟨hq0, hq1⟩ := hq; exact hN8 hq1)))
   refine Eng.val (w1 := w') (v := .int .u64 (Nfa.at_ l (N64))) ?_ (Below.refl _ _) (Eng.off' hG rfl)
   have e0 : a.eval (.tmp 14) = .pointer (some ⟨g2_1, N64, none⟩) := (Eng.on (H.dep 9 14 (by kernel_rfl) rfl) hG)
   simp only [execOp, resolve, e0]
   go_simp
  ·refine Eng.guarded1 (j := 6) (d := 11) (b := q10) rfl rfl (by kernel_rfl) rfl (fun v w h => h) (fun hG w => Eng.off hG) fun hG a w' H => ?_
   exact Eng.val (w1 := w') (v := .int .i64 n) (Eng.run_move rfl ((H.kept 1 (by kernel_rfl)).trans h1_1)) (Below.refl _ _) (Eng.off' hG rfl)
  ·refine Eng.guarded1 (j := 6) (d := 11) (b := q10) rfl rfl (by kernel_rfl) rfl (fun v w h => h) (fun hG w => Eng.off hG) fun hG a w' H => ?_
   have hq := Eng.one2 hG
   rw [Bq10, Bq9, Bq6] at hq
   simp only [Bool.and_eq_true, decide_eq_true_eq] at hq
   obtain ⟨hq0, hq1⟩ := hq
   refine Eng.val (w1 := w') (v := .int .i64 (Nr : Int)) ?_ (Below.refl _ _) (Eng.off' hG rfl)
   have e0 : a.eval (.tmp 16) = .int .i64 n := (Eng.on (H.dep 11 16 (by kernel_rfl) rfl) hG)
   have e1 : a.eval (.const (.int .i64 64)) = .int .i64 64 := (rfl : a.eval (.const (.int .i64 64)) = .int .i64 64)
   simp only [execOp, resolve, e0, e1]
   go_simp
   all_goals first | rfl | (exact hr64 hq0) | (rw [hr64 hq0]; done) | skip
  ·refine Eng.guarded1 (j := 6) (d := 11) (b := q10) rfl rfl (by kernel_rfl) rfl (fun v w h => h) (fun hG w => Eng.off hG) fun hG a w' H => ?_
   refine Eng.call Tryd.func66 (by kernel_rfl) (by kernel_rfl) rfl #[.int .u64 (Nfa.at_ l (N64)), .int .i64 (Nr : Int)] ?_ ?_
   ·have e0 : a.eval (.tmp 15) = .int .u64 (Nfa.at_ l (N64)) := (Eng.on (H.dep 10 15 (by kernel_rfl) rfl) hG); have e1 : a.eval (.tmp 17) = .int .i64 (Nr : Int) := (Eng.on (H.dep 12 17 (by kernel_rfl) rfl) hG); simp only [List.map_toArray, List.map_cons, List.map_nil, e0, e1]
   refine (Lat.has_calls (Nfa.at_ l N64) (Nr : Int) _ (by have hq := Eng.one2 hG; rw [Bq10, Bq9, Bq6] at hq; simp only [Bool.and_eq_true, decide_eq_true_eq] at hq; obtain ⟨hq0, hq1⟩ := hq; exact hg.lo N64 (hN8 hq1)) (by have hq := Eng.one2 hG; rw [Bq10, Bq9, Bq6] at hq; simp only [Bool.and_eq_true, decide_eq_true_eq] at hq; obtain ⟨hq0, hq1⟩ := hq; have := hg.hi N64 (hN8 hq1); omega) (by omega) (by omega)).mono ?_
   rintro e w'' ⟨rfl, hb⟩
   exact ⟨_, rfl, (Eng.off' hG (by rw [Bq18])), hb⟩
  ·refine Eng.plain rfl rfl fun a w' H => ?_
   exact Eng.val (w1 := w') (v := .bool (q10 && q18)) (Eng.run_and rfl rfl (G := true) (H.dep 6 11 (by kernel_rfl) rfl) (fun hb => (Eng.on (H.dep 13 18 (by kernel_rfl) rfl) (Eng.mk1 hb)))) (Below.refl _ _) (by show _ = Value.bool q19; rw [Bq19])
  ·refine Eng.plain rfl rfl fun a w' H => ?_
   exact Eng.val (w1 := w') (v := .bool q19) (Eng.run_assign rfl (H.dep 14 19 (by kernel_rfl) rfl)) (Below.refl _ _) rfl
 intro act2 w2 T
 have h4_2 : act2.eval (.tmp 4) = .bool q19 := T.done 15 4 rfl rfl
 have d2 := T.defers.trans d1
 have bl2 := bl1.trans (T.below.mono bl1.size)
 clear T
 refine Eng.tail_nil ?_
 refine wp_ret ?_
 repeat (first | refine Eng.in_ret ?_ | refine Eng.then_ret ?_)
 exact Eng.ret1 rfl d2 (h4_2.trans (by rw [Bq19, Bq18, Bq10, Bq9, Bq6]; rw [Nfa.has_lat hg, hN, hR])) ⟨rfl, bl2⟩
end Go.Proofs.YthgafcaoibfchaaDoor.X
end
