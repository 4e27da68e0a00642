/- Words and walks that the row of ComposeRight needs: printed by programs, and plain laws. -/
import Derived.Test.YtgnmjaacnmkgnaaDoorM3
import Derived.Test.YtgnmjaacnmkgnaaDoorM2
import Derived.Shelf.Small.Wraps
import Derived.Shelf.GgClosure.StringsIndexFunc
import Derived.Ground.GgwProg
import Derived.Shelf.GgClosure.StringsIndexFuncTop
import Derived.Shelf.GgClosure.StringsRunes
import Derived.Shelf.Strings.Prefix
import Derived.Shelf.Strings.FuncGrows
import Derived.Ground.Names2Prog
import Derived.Shelf.Slices.Clone
import Derived.Test.YtgnmjaacnmkgnaaDoorProg
import Derived.WalkKit
import Derived.Lib.DecodeN
import Derived.Lib.Strings
import Derived.Test.YtgnmjaacnmkgnaaDoorM1
import Derived.Below
import Derived.Deep.Draws
import Derived.Deep.AppendLies
import Derived.Maps.AppendAt
import Derived.OwnWalk
import Derived.Laws.BytesArg
import Derived.Laws.MakeOwn
import Derived.Laws.OwnMore
import Derived.Deep.OwnRows
import Derived.Tactics
import Derived.Lib.ConvBytes
import Derived.Laws.Slices
import Derived.KernelRfl
import Derived.RowKit3
import Derived.Deep.LoopGhost
import Derived.Deep.QuietTactic
import Derived.BigQuiet
import Derived.WideLaws
import Derived.Deep.DeepCutAuto
import Derived.Deep.CutBlock
import Derived.Deep.RegionHeld3
import Derived.Laws.Rows
import Derived.Lib.AppendStr
import Derived.ArgAppend
import Derived.Laws.IdiomCopy
import Derived.OrdersHeld
import Derived.Laws.BitsLemmas
import Derived.RowKit
import Derived.Laws.StructEq
namespace Go.Proofs.YtgnmjaacnmkgnaaDoorW.PrintWords
end Go.Proofs.YtgnmjaacnmkgnaaDoorW.PrintWords
namespace Go.Proofs.YtgnmjaacnmkgnaaDoorW.PrintLast
end Go.Proofs.YtgnmjaacnmkgnaaDoorW.PrintLast
namespace Go.Proofs.YtgnmjaacnmkgnaaDoorW.PrintMore
end Go.Proofs.YtgnmjaacnmkgnaaDoorW.PrintMore
section
namespace Go.Proofs.YtgnmjaacnmkgnaaDoor.X
open Go.RowKit Go.Shelf Go.Proofs Go.Proofs.YtgnmjaacnmkgnaaDoorW.PrintWords Go.Proofs.YtgnmjaacnmkgnaaDoorW.PrintLast Go.Proofs.YtgnmjaacnmkgnaaDoorW.PrintMore Go.Proofs.Eng
set_option linter.unusedVariables false
set_option linter.unusedSimpArgs false
attribute [local go_sem] max2_int min2_int max_two min_two
set_option maxHeartbeats 4000000 in
set_option maxRecDepth 100000 in
theorem Dc.kid_nil (dg mb : Nat) (gv ov : Value) (h : List Dc.NV) (names : List (List UInt8 × Int)) (at_ : Nat) (w W0 : World) (hB : Below w.heap.size w W0) (hlo : w.heap.size ≤ dg) (hk : W0.heap[dg]? = some (.cells #[gv, ov, .map (some mb)] 64 (0, 0))) (hR : Dc.Rep w.heap.size W0 h [] names gv ov mb) : Calls Tryd.prog 56 #[.pointer (some ⟨dg, 0, none⟩), .int .i64 (at_ : Int)] W0 fun e w' => ∃ h', e = .returned (.int .i64 (Dc.kidF ⟨h.map (·.1), [], names⟩ at_).2) ∧ h'.map (·.1) = (Dc.kidF ⟨h.map (·.1), [], names⟩ at_).1.nodes ∧ Dc.St w.heap.size W0 w' dg (Dc.Blk h gv ov mb) h' [] names gv ov mb ∧ w'.heap[dg]? = some (.cells #[gv, ov, .map (some mb)] 64 (0, 0)) := by
 refine enter Tryd.func56 rfl fun A d0 s0 v0 => ?_
 have s0 : A.tmps.size = 64 := s0
 have y0 : A.eval (.tmp 0) = .pointer (some ⟨dg, 0, none⟩) := v0 0 (by simp)
 clear v0
 refine wp_seq (rS [.int .i64 0] (fun _ => .plain) 1 0 s0 ?_ ?_)
 ·refine .c ?_ (.nil)
  ·exact pq fun a w' H => ra (rfl : a.eval (.const (.int .i64 0)) = .int .i64 0)
 intro A w1 T
 have y0 := T.r1 y0
 have kdg_ := (T.below.block _ (Array.getElem?_eq_some_iff.1 hk).1).trans hk
 have ldg_ := Nat.lt_of_lt_of_le (Array.getElem?_eq_some_iff.1 hk).1 T.below.size
 have Fop_ := Reads.below (Reads.of_own hR.op) T.below
 have d1 := T.e d0
 have s1 := T.z s0
 have XX_1 := Dc.St.below (Dc.St.start (dg := dg) hR) T.below
 clear T
 refine tail_nil (wp_seq (wp_seq ?_))
 obtain ⟨q11, Bq11⟩ := nm ((0 : Int) == 0)
 refine rP [.pointer (some ⟨dg, 0, none⟩), .pointer (some ⟨dg, 0, none⟩), .pointer (some ⟨dg, 1, none⟩), ov, .int .i64 (0 : Int), .bool q11] 6 0 s1 (.c (qq 0 y0) (.c (pq fun a w' H => run_nilb rfl (H.d 0 6)) (.c (pq fun a w' H => fb Tryd.underlying64 1 (H.d 1 7)) (.c (pq fun a w' H => lb (H.d 2 8) (H.x ldg_ kdg_)) (.c (pv fun a w' H => vr (v := .int .i64 (0 : Int)) rfl (run_len_sl rfl Tryd.underlying55 (H.d 3 9) (Reads.below Fop_ H.below))) (.c (pv fun a w' H => vr (bb Bq11) (ok (.int .i64 0) (H.d 4 10))) .nil)))))) fun A w2 T => ?_
 have ⟨kdg_, ldg_⟩ := T.y kdg_ ldg_
 have y11 := T.u 5 11
 have d2 := T.e d1
 have s2 := T.z s1
 have XX_2 := Dc.St.below XX_1 T.below
 clear T
 refine tail_nil ?_
 have n11 : q11 = true := by
  try simp only [Bq11]
  rfl
 refine wp_cond_true (y11.trans (by rw [n11])) (wp_seq ?_)
 refine rS [.int .i64 0] (fun _ => .plain) 1 0 s2 ?_ ?_
 ·refine .c ?_ (.nil)
  ·exact pq fun a w' H => ra (rfl : a.eval (.const (.int .i64 0)) = .int .i64 0)
 intro A w3 T
 have kdg_ := T.x ldg_ kdg_
 have y4 := T.u 0 4
 have d3 := T.e d2
 have XX_3 := Dc.St.below XX_2 T.below
 clear T
 refine tail_nil (wp_ret ?_)
 repeat (first | refine in_ret ?_ | refine then_ret ?_)
 exact ret1 rfl d3 y4 ⟨h, rfl, rfl, XX_3, kdg_⟩
set_option maxHeartbeats 4000000 in
set_option maxRecDepth 100000 in
theorem Dc.kid_top (dg mb : Nat) (gv ov : Value) (h : List Dc.NV) (pre : List Int) (o : Int) (names : List (List UInt8 × Int)) (at_ : Nat) (w W0 : World) (hB : Below w.heap.size w W0) (hlo : w.heap.size ≤ dg) (hk : W0.heap[dg]? = some (.cells #[gv, ov, .map (some mb)] 64 (0, 0))) (hR : Dc.Rep w.heap.size W0 h (pre ++ [o]) names gv ov mb) (hat : at_ < h.length) (ho0 : 0 ≤ o) (hj : o.toNat < h.length) (hkl : (h.getD o.toNat default).1.kids.length ≤ 1000000) : Calls Tryd.prog 56 #[.pointer (some ⟨dg, 0, none⟩), .int .i64 (at_ : Int)] W0 fun e w' => ∃ h', e = .returned (.int .i64 (Dc.kidF ⟨h.map (·.1), (pre ++ [o]), names⟩ at_).2) ∧ h'.map (·.1) = (Dc.kidF ⟨h.map (·.1), (pre ++ [o]), names⟩ at_).1.nodes ∧ Dc.St w.heap.size W0 w' dg (Dc.Blk h gv ov mb) h' (pre ++ [o]) names gv ov mb ∧ w'.heap[dg]? = some (.cells #[gv, ov, .map (some mb)] 64 (0, 0)) := by
 have hm := Reads.len_le (Reads.of_own hR.op)
 rw [List.length_append] at hm
 have hm1 : pre.length + 1 ≤ 9223372036854775807 := hm
 refine enter Tryd.func56 rfl fun A d0 s0 v0 => ?_
 have s0 : A.tmps.size = 64 := s0
 have y0 : A.eval (.tmp 0) = .pointer (some ⟨dg, 0, none⟩) := v0 0 (by simp)
 have y1 : A.eval (.tmp 1) = .int .i64 (at_ : Int) := v0 1 (by simp)
 clear v0
 refine wp_seq (rS [.int .i64 0] (fun _ => .plain) 1 0 s0 ?_ ?_)
 ·refine .c ?_ (.nil)
  ·exact pq fun a w' H => ra (rfl : a.eval (.const (.int .i64 0)) = .int .i64 0)
 intro A w1 T
 have ⟨y0, y1⟩ := T.r2 y0 y1
 have kdg_ := (T.below.block _ (Array.getElem?_eq_some_iff.1 hk).1).trans hk
 have ldg_ := Nat.lt_of_lt_of_le (Array.getElem?_eq_some_iff.1 hk).1 T.below.size
 have Fgr_ := Reads.below (Reads.of_own hR.gr) T.below
 have Fop_ := Reads.below (Reads.of_own hR.op) T.below
 have Fkj_ := Reads.below (Reads.of_own (hR.ks o.toNat hj)) T.below
 have Okj_1 := own_below (hR.ks o.toNat hj) T.below
 have d1 := T.e d0
 have s1 := T.z s0
 have bl1 := hB.trans (T.below.mono hB.size)
 have XX_1 := Dc.St.below (Dc.St.start (dg := dg) hR) T.below
 clear T
 refine tail_nil (wp_seq (wp_seq ?_))
 obtain ⟨q11, Bq11⟩ := nm ((((pre ++ [o]).length : Nat) : Int) == 0)
 refine rP [.pointer (some ⟨dg, 0, none⟩), .pointer (some ⟨dg, 0, none⟩), .pointer (some ⟨dg, 1, none⟩), ov, .int .i64 (((pre ++ [o]).length : Nat) : Int), .bool q11] 6 0 s1 (.c (qq 0 y0) (.c (pq fun a w' H => run_nilb rfl (H.d 0 6)) (.c (pq fun a w' H => fb Tryd.underlying64 1 (H.d 1 7)) (.c (pq fun a w' H => lb (H.d 2 8) (H.x ldg_ kdg_)) (.c (pv fun a w' H => vr (v := .int .i64 (((pre ++ [o]).length : Nat) : Int)) rfl (run_len_sl rfl Tryd.underlying55 (H.d 3 9) (Reads.below Fop_ H.below))) (.c (pv fun a w' H => vr (bb Bq11) (ok (.int .i64 0) (H.d 4 10))) .nil)))))) fun A w2 T => ?_
 have ⟨y0, y1⟩ := T.r2 y0 y1
 have ⟨kdg_, ldg_⟩ := T.y kdg_ ldg_
 have Fgr_ := T.f Fgr_
 have Fop_ := T.f Fop_
 have Fkj_ := T.f Fkj_
 have Okj_2 := T.g Okj_1
 have y11 := T.u 5 11
 have ⟨d2, s2, bl2⟩ := T.h d1 s1 bl1
 have XX_2 := Dc.St.below XX_1 T.below
 clear T
 refine tail_nil ?_
 have n11 : q11 = false := by
  try simp only [Bq11]
  rw [beq_eq_false_iff_ne]; simp; omega
 refine wp_cond_false (y11.trans (by rw [n11])) (wp_skip ?_)
 refine wp_seq (rD [.pointer (some ⟨dg, 0, none⟩), .pointer (some ⟨dg, 0, none⟩), .pointer (some ⟨dg, 0, none⟩), gv, .pointer (some ⟨dg, 0, none⟩), .pointer (some ⟨dg, 0, none⟩), .pointer (some ⟨dg, 1, none⟩), ov, .pointer (some ⟨dg, 0, none⟩), .pointer (some ⟨dg, 0, none⟩), .pointer (some ⟨dg, 1, none⟩), ov, .int .i64 (((pre ++ [o]).length : Nat) : Int), .int .i64 (IntKind.i64.wrap ((((pre ++ [o]).length : Nat) : Int) - 1)), elemPtr ov (pre.length * 1), .int .i64 o, elemPtr gv (o.toNat * 4), elemPtr gv (o.toNat * 4)] (fun _ => .plain) 18 0 s2 (.c (qq 0 y0) (.c (pq fun a w' H => run_nilb rfl (H.d 0 12)) (.c (pq fun a w' H => fb Tryd.underlying64 0 (H.d 1 13)) (.c (pq fun a w' H => lb (H.d 2 14) (H.x ldg_ kdg_)) (.c (qq 0 y0) (.c (pq fun a w' H => run_nilb rfl (H.d 4 16)) (.c (pq fun a w' H => fb Tryd.underlying64 1 (H.d 5 17)) (.c (pq fun a w' H => lb (H.d 6 18) (H.x ldg_ kdg_)) (.c (qq 0 y0) (.c (pq fun a w' H => run_nilb rfl (H.d 8 20)) (.c (pq fun a w' H => fb Tryd.underlying64 1 (H.d 9 21)) (.c (pq fun a w' H => lb (H.d 10 22) (H.x ldg_ kdg_)) (.c (pv fun a w' H => vr (v := .int .i64 (((pre ++ [o]).length : Nat) : Int)) rfl (run_len_sl rfl Tryd.underlying55 (H.d 11 23) (Reads.below Fop_ H.below))) (.c (pv fun a w' H => vr (v := .int .i64 (IntKind.i64.wrap ((((pre ++ [o]).length : Nat) : Int) - 1))) rfl (ok (.int .i64 1) (H.d 12 24))) (.c (pv fun a w' H => vr (v := elemPtr ov (pre.length * 1)) rfl (run_index_sl rfl Tryd.underlying55 (by kernel_rfl) (H.d 7 19) ((H.d 13 25).trans (congrArg (Value.int _) (show IntKind.i64.wrap ((((pre ++ [o]).length : Nat) : Int) - 1) = ((pre.length : Nat) : Int) from by first | exact Dc.last_ix pre o hm1 | (simp; done)))) (Reads.below Fop_ H.below) (by first | exact Dc.last_ix pre o hm1 | (simp; done)) rfl)) (.c (pv fun a w' H => vr (v := .int .i64 o) rfl (run_load_el (.int .i64 o) rfl (H.d 14 26) (Reads.below Fop_ H.below) (Dc.int_top pre o) (by kernel_rfl))) (.c (pv fun a w' H => vr (v := elemPtr gv (o.toNat * 4)) rfl (run_index_sl rfl Tryd.underlying48 (by kernel_rfl) (H.d 3 15) ((H.d 15 27).trans (congrArg (Value.int _) (show o = ((o.toNat : Nat) : Int) from by omega))) (Reads.below Fgr_ H.below) (by omega) rfl)) (.c (qe 16 28) .nil)))))))))))))))))) fun A w3 T => ?_)
 have ⟨y0, y1⟩ := T.r2 y0 y1
 have ⟨kdg_, ldg_⟩ := T.y kdg_ ldg_
 have Fgr_ := T.f Fgr_
 have Fkj_ := T.f Fkj_
 have Okj_3 := T.g Okj_2
 have y5 := T.u 17 5
 have ⟨d3, s3, bl3⟩ := T.h d2 s2 bl2
 have XX_3 := Dc.St.below XX_2 T.below
 clear T
 refine tail_nil (wp_seq (wp_seq ?_))
 obtain ⟨q33, Bq33⟩ := nm (((h.getD o.toNat default).1.kind) == 2)
 obtain ⟨q41, Bq41⟩ := nm ((Int.tmod ((h.getD o.toNat default).1.kids.length : Int) 2) == 0)
 obtain ⟨q42, Bq42⟩ := nm (q33 && q41)
 obtain ⟨q52, Bq52⟩ := nm (!(((h.getD at_ default).1.kind) == 0))
 obtain ⟨q53, Bq53⟩ := nm (q42 && q52)
 refine rS [elemPtr gv (o.toNat * 4), elemPtr gv (o.toNat * 4), elemPtr gv (o.toNat * 4 + 0), .int .i64 ((h.getD o.toNat default).1.kind), .bool q33, .bool q33, bif (q33 == true) then (elemPtr gv (o.toNat * 4)) else undef, bif (q33 == true) then (elemPtr gv (o.toNat * 4)) else undef, bif (q33 == true) then (elemPtr gv (o.toNat * 4 + 3)) else undef, bif (q33 == true) then ((h.getD o.toNat default).2) else undef, bif (q33 == true) then (.int .i64 ((((h.getD o.toNat default).1.kids).length : Nat) : Int)) else undef, bif (q33 == true) then (.int .i64 (Int.tmod ((h.getD o.toNat default).1.kids.length : Int) 2)) else undef, bif (q33 == true) then (.bool q41) else undef, .bool q42, .bool q42, bif (q42 == true) then (.pointer (some ⟨dg, 0, none⟩)) else undef, bif (q42 == true) then (.pointer (some ⟨dg, 0, none⟩)) else undef, bif (q42 == true) then (.pointer (some ⟨dg, 0, none⟩)) else undef, bif (q42 == true) then (gv) else undef, bif (q42 == true) then (.int .i64 (at_ : Int)) else undef, bif (q42 == true) then (elemPtr gv (at_ * 4)) else undef, bif (q42 == true) then (elemPtr gv (at_ * 4 + 0)) else undef, bif (q42 == true) then (.int .i64 ((h.getD at_ default).1.kind)) else undef, bif (q42 == true) then (.bool q52) else undef, .bool q53] (fun _ => .plain) 25 0 s3 ?_ ?_
 ·refine .c ?_ (.c ?_ (.c ?_ (.c ?_ (.c ?_ (.c ?_ (.c ?_ (.c ?_ (.c ?_ (.c ?_ (.c ?_ (.c ?_ (.c ?_ (.c ?_ (.c ?_ (.c ?_ (.c ?_ (.c ?_ (.c ?_ (.c ?_ (.c ?_ (.c ?_ (.c ?_ (.c ?_ (.c ?_ (.nil)))))))))))))))))))))))))
  ·exact qq 5 y5
  ·exact pv fun a w' H => vr (v := elemPtr gv (o.toNat * 4)) rfl (run_nil_el rfl (H.d 0 29) (Reads.below Fgr_ H.below) (by have h_ : o.toNat < h.length := (by omega); omega))
  ·exact pv fun a w' H => vr (v := elemPtr gv (o.toNat * 4 + 0)) rfl (run_field_el rfl Tryd.underlying57 0 (by kernel_rfl) (H.d 1 30) (Reads.below Fgr_ H.below) (by have h_ : o.toNat < h.length := (by omega); omega))
  ·exact pv fun a w' H => vr (v := .int .i64 ((h.getD o.toNat default).1.kind)) rfl (run_load_el (.int .i64 ((h.getD o.toNat default).1.kind)) rfl (H.d 2 31) (Reads.below Fgr_ H.below) (Dc.cell_kind h o.toNat (by omega)) (by kernel_rfl))
  ·exact pv fun a w' H => vr (bb Bq33) (ok (.int .i64 2) (H.d 3 32))
  ·exact qd 4 33
  ·exact g1 5 34 q33 fun hG a w' H => vr (off' hG rfl) (rv (H.q 5 y5))
  ·exact g1 5 34 q33 fun hG a w' H => vr (v := elemPtr gv (o.toNat * 4)) (off' hG rfl) (run_nil_el rfl (on (H.d 6 35) hG) (Reads.below Fgr_ H.below) (by have h_ : o.toNat < h.length := (by omega); omega))
  ·exact g1 5 34 q33 fun hG a w' H => vr (v := elemPtr gv (o.toNat * 4 + 3)) (off' hG rfl) (run_field_el rfl Tryd.underlying57 3 (by kernel_rfl) (on (H.d 7 36) hG) (Reads.below Fgr_ H.below) (by have h_ : o.toNat < h.length := (by omega); omega))
  ·exact g1 5 34 q33 fun hG a w' H => vr (v := (h.getD o.toNat default).2) (off' hG rfl) (run_load_el ((h.getD o.toNat default).2) rfl (on (H.d 8 37) hG) (Reads.below Fgr_ H.below) (Dc.cell_kids h o.toNat (by omega)) (by kernel_rfl))
  ·exact g1 5 34 q33 fun hG a w' H => vr (v := .int .i64 ((((h.getD o.toNat default).1.kids).length : Nat) : Int)) (off' hG rfl) (run_len_sl rfl Tryd.underlying55 (on (H.d 9 38) hG) (Reads.below Fkj_ H.below))
  ·refine g1 5 34 q33 fun hG a w' H => vr (v := .int .i64 (Int.tmod ((h.getD o.toNat default).1.kids.length : Int) 2)) (off' hG rfl) ?_
   have e0 : a.eval (.tmp 39) = .int .i64 ((((h.getD o.toNat default).1.kids).length : Nat) : Int) := (on (H.d 10 39) hG)
   have e1 : a.eval (.const (.int .i64 2)) = .int .i64 2 := rfl
   simp only [execOp, resolve, e0, e1]
   go_simp
   try rfl
  ·exact g1 5 34 q33 fun hG a w' H => vr (v := .bool ((Int.tmod ((h.getD o.toNat default).1.kids.length : Int) 2) == 0)) (off' hG (by rw [Bq41])) (ok (.int .i64 0) (on (H.d 11 40) hG))
  ·exact pv fun a w' H => vr (bb Bq42) (run_and rfl rfl (G := true) (H.d 5 34) (fun hb => (on (H.d 12 41) (mk1 hb))))
  ·exact qd 13 42
  ·exact g1 14 43 q42 fun hG a w' H => vr (off' hG rfl) (rv (H.q 0 y0))
  ·exact g1 14 43 q42 fun hG a w' H => vr (off' hG rfl) (run_nilb rfl (on (H.d 15 44) hG))
  ·exact g1 14 43 q42 fun hG a w' H => vr (off' hG rfl) (fb Tryd.underlying64 0 (on (H.d 16 45) hG))
  ·exact g1 14 43 q42 fun hG a w' H => vr (off' hG rfl) (lb (on (H.d 17 46) hG) (H.x ldg_ kdg_))
  ·exact g1 14 43 q42 fun hG a w' H => vr (off' hG rfl) (rv (H.q 1 y1))
  ·exact g1 14 43 q42 fun hG a w' H => vr (v := elemPtr gv (at_ * 4)) (off' hG rfl) (run_index_sl rfl Tryd.underlying48 (by kernel_rfl) (on (H.d 18 47) hG) ((on (H.d 19 48) hG).trans (congrArg (Value.int _) (show (at_ : Int) = ((at_ : Nat) : Int) from by first | rfl | omega))) (Reads.below Fgr_ H.below) (by first | rfl | omega) rfl)
  ·exact g1 14 43 q42 fun hG a w' H => vr (v := elemPtr gv (at_ * 4 + 0)) (off' hG rfl) (run_field_el rfl Tryd.underlying57 0 (by kernel_rfl) (on (H.d 20 49) hG) (Reads.below Fgr_ H.below) (by have h_ : at_ < h.length := (by first | rfl | omega); omega))
  ·exact g1 14 43 q42 fun hG a w' H => vr (v := .int .i64 ((h.getD at_ default).1.kind)) (off' hG rfl) (run_load_el (.int .i64 ((h.getD at_ default).1.kind)) rfl (on (H.d 21 50) hG) (Reads.below Fgr_ H.below) (Dc.cell_kind h at_ (by first | rfl | omega)) (by kernel_rfl))
  ·exact g1 14 43 q42 fun hG a w' H => vr (v := .bool (!(((h.getD at_ default).1.kind) == 0))) (off' hG (by rw [Bq52])) (okz (.int .i64 0) (on (H.d 22 51) hG))
  exact pv fun a w' H => vr (bb Bq53) (run_and rfl rfl (G := true) (H.d 14 43) (fun hb => (on (H.d 23 52) (mk1 hb))))
 intro A w4 T
 have ⟨y1, y5⟩ := T.r2 y1 y5
 have ⟨kdg_, ldg_⟩ := T.y kdg_ ldg_
 have Fgr_ := T.f Fgr_
 have Okj_4 := T.g Okj_3
 have y53 := T.u 24 53
 have ⟨d4, s4, bl4⟩ := T.h d3 s3 bl3
 have XX_4 := Dc.St.below XX_3 T.below
 clear T
 refine tail_nil (wp_cond_split y53 (fun hq => ?_) (fun hq => ?_))
 ·
  have c53 := Bq53.symm.trans hq
  clear hq
  have hc := c53
  refine wp_seq (rS [.int .i64 5] (fun _ => .plain) 1 0 s4 ?_ ?_)
  ·refine .c ?_ (.nil)
   ·exact pq fun a w' H => ra (rfl : a.eval (.const (.int .i64 5)) = .int .i64 5)
  intro A w6 T
  have kdg_ := T.x ldg_ kdg_
  have y4 := T.u 0 4
  have d6 := T.e d4
  have XX_6 := Dc.St.below XX_4 T.below
  clear T
  refine tail_nil (wp_ret ?_)
  repeat (first | refine in_ret ?_ | refine then_ret ?_)
  have ho := hc
  simp only [Bq53, Bq52, Bq42, Bq41, Bq33, Bq11] at ho
  have hod : Dc.odd (h.map (·.1)) o.toNat at_ = true := by unfold Dc.odd; rw [Dc.map_getD, Dc.map_getD]; exact ho
  exact ret1 rfl d6 y4 ⟨h, by rw [Dc.kidF_top, if_pos hod], by rw [Dc.kidF_top, if_pos hod], XX_6, kdg_⟩
 have c53 := Bq53.symm.trans hq
 clear hq
 have hc := c53
 refine wp_skip (wp_seq ?_)
 refine (wpIn_wide (n := 1)).1 (EngI.regionT (n := 11) rfl ?_)
 refine EngI.tw rfl (rv y5) s4 d4 fun A d8 s8 y54 hr => ?_
 have ⟨y1, y5⟩ := k2 hr y1 y5
 refine EngI.tw rfl (rv y5) s8 d8 fun A d9 s9 y55 hr => ?_
 have ⟨y1, y54⟩ := k2 hr y1 y54
 refine EngI.tw (w1 := w4) (v := elemPtr gv (o.toNat * 4)) rfl ?_ s9 d9 ?_
 ·exact run_nil_el rfl y55 Fgr_ (by have h_ : o.toNat < h.length := (by omega); omega)
 intro A d10 s10 y56 hr
 have ⟨y1, y54⟩ := k2 hr y1 y54
 refine EngI.tw (w1 := w4) (v := elemPtr gv (o.toNat * 4 + 3)) rfl ?_ s10 d10 ?_
 ·exact run_field_el rfl Tryd.underlying57 3 (by kernel_rfl) y56 Fgr_ (by have h_ : o.toNat < h.length := (by omega); omega)
 intro A d11 s11 y57 hr
 have ⟨y1, y54⟩ := k2 hr y1 y54
 refine EngI.tw (w1 := w4) (v := (h.getD o.toNat default).2) rfl ?_ s11 d11 ?_
 ·exact run_load_el ((h.getD o.toNat default).2) rfl y57 Fgr_ (Dc.cell_kids h o.toNat (by omega)) (by kernel_rfl)
 intro A d12 s12 y58 hr
 have ⟨y1, y54⟩ := k2 hr y1 y54
 refine EngI.tw rfl (rv y1) s12 d12 fun A d13 s13 y59 hr => ?_
 have ⟨y54, y58⟩ := k2 hr y54 y58
 refine EngI.tail_ex EngI.free_wide rfl rfl rfl rfl (run_buildN1 (z := .int .i64 0) [.int .i64 (at_ : Int)] rfl Tryd.underlying55 (by kernel_rfl) rfl rfl rfl rfl (by intro v hv; have h := List.mem_singleton.1 hv; rw [h]; exact rfl) (by have e0 : A.eval (.tmp 59) = .int .i64 (at_ : Int) := y59; simp [e0])) s13 rfl fun v_14 w14 A R d14 s14 y60 hr => ?_
 obtain ⟨F_14, b_14⟩ := R
 have ⟨y54, y58⟩ := k2 hr y54 y58
 have d14 := d14.trans d13
 have kdg_ := (b_14.block _ ldg_).trans kdg_
 have ldg_ := Nat.lt_of_lt_of_le ldg_ b_14.size
 have Okj_14 := own_below Okj_4 b_14
 have XX_14 := Dc.St.below XX_4 b_14
 have bl14 := bl4.trans (b_14.mono bl4.size)
 refine EngI.tail_ex EngI.free_wide rfl rfl rfl rfl (run_appendI (z := .int .i64 0) rfl Tryd.underlying55 (by kernel_rfl) rfl rfl y58 Okj_14 y60 F_14 (by intro u hu; simp at hu; subst hu; rfl) (by omega) bl14.size) s14 rfl fun v_15 w15 A R d15 s15 y61 hr => ?_
 obtain ⟨O_15, _, b_15, G_15, EO_15⟩ := R
 have y54 := k1 hr y54
 have d15 := d15.trans d14
 have kdg_ := (G_15.block _ ldg_ (own_ne Okj_14 kdg_ rfl)).trans kdg_
 have ldg_ := Nat.lt_of_lt_of_le ldg_ G_15.size
 have XX_15 := Dc.St.kid XX_14 hj _ O_15 G_15 EO_15
 have Ogr_15 := XX_15.M.gr
 have Fgr_ := Reads.of_own Ogr_15
 have Oa15 : w15.ownsRow w.heap.size 3 1 v_15 ((h.getD o.toNat default).1.kids.length + 1) (Dc.ints (h.getD o.toNat default).1.kids ++ [.int .i64 (at_ : Int)]) := O_15
 have Fa15 := Reads.of_own Oa15
 refine EngI.tw (w1 := w15) (v := elemPtr gv (o.toNat * 4)) rfl ?_ s15 d15 ?_
 ·exact run_nil_el rfl y54 Fgr_ (by have h_ : o.toNat < h.length := (by omega); omega)
 intro A d16 s16 y62 hr
 have y61 := k1 hr y61
 refine EngI.tw (w1 := w15) (v := elemPtr gv (o.toNat * 4 + 3)) rfl ?_ s16 d16 ?_
 ·exact run_field_el rfl Tryd.underlying57 3 (by kernel_rfl) y62 Fgr_ (by have h_ : o.toNat < h.length := (by omega); omega)
 intro A d17 s17 y63 hr
 have y61 := k1 hr y61
 refine EngG.tail_exs EngI.free_wide rfl rfl rfl rfl (run_store_own (j := o.toNat * 4 + 3) (u := v_15) rfl y63 y61 Ogr_15 (by have h_ : o.toNat < h.length := (by omega); omega) (by kernel_rfl) (by obtain ⟨A_, c_, e_⟩ := Reads.shape Fa15; rw [e_]; rfl)) fun w18 R => ?_
 obtain ⟨O_18, G_18⟩ := R
 have kdg_ := (G_18.block _ ldg_ (own_ne Ogr_15 kdg_ rfl)).trans kdg_
 have ldg_ := Nat.lt_of_lt_of_le ldg_ G_18.size
 have XX_18 := Dc.Sm.done XX_15 O_18 G_18
 refine EngI.tail_nil (wp_seq ?_)
 refine rS [.int .i64 0] (fun _ => .plain) 1 0 s17 ?_ ?_
 ·refine .c ?_ (.nil)
  ·exact pq fun a w' H => ra (rfl : a.eval (.const (.int .i64 0)) = .int .i64 0)
 intro A w19 T
 have kdg_ := T.x ldg_ kdg_
 have y4 := T.u 0 4
 have d19 := T.e d17
 have XX_19 := Dc.St.below XX_18 T.below
 clear T
 refine tail_nil (wp_ret ?_)
 repeat (first | refine in_ret ?_ | refine then_ret ?_)
 have ho := hc
 simp only [Bq53, Bq52, Bq42, Bq41, Bq33, Bq11] at ho
 have hod : ¬ Dc.odd (h.map (·.1)) o.toNat at_ = true := by unfold Dc.odd; rw [Dc.map_getD, Dc.map_getD, ho]; simp
 exact ret1 rfl d19 y4 ⟨_, by rw [Dc.kidF_top, if_neg hod], by rw [Dc.kidF_top, if_neg hod]; exact Dc.setKid_map _ _, XX_19, kdg_⟩
end Go.Proofs.YtgnmjaacnmkgnaaDoor.X
end
section
namespace Go.Proofs.YtgnmjaacnmkgnaaDoor.X
open Go.RowKit Go.Shelf Go.Proofs Go.Proofs.YtgnmjaacnmkgnaaDoorW.PrintWords Go.Proofs.YtgnmjaacnmkgnaaDoorW.PrintLast Go.Proofs.YtgnmjaacnmkgnaaDoorW.PrintMore
set_option linter.unusedVariables false
set_option linter.unusedSimpArgs false
namespace Evt
theorem opens_len (l : List (Int × Int)) : (opens l).length = l.length * 2 := Rwt.len encO_len l
theorem opens_snoc (l : List (Int × Int)) (t : Int × Int) : opens (l ++ [t]) = opens l ++ [.int .i64 t.1, .int .i64 t.2] := by unfold opens; rw [List.flatMap_append]; rfl
theorem top_0 (pre : List (Int × Int)) (t : Int × Int) : (opens (pre ++ [t]))[pre.length * 2 + 0]? = some (.int .i64 t.1) := by
  rw [opens_snoc, List.getElem?_append_right (by rw [opens_len]; omega), opens_len]; simp
theorem top_1 (pre : List (Int × Int)) (t : Int × Int) : (opens (pre ++ [t]))[pre.length * 2 + 1]? = some (.int .i64 t.2) := by
  rw [opens_snoc, List.getElem?_append_right (by rw [opens_len]; omega), opens_len]; simp
theorem last_ix (pre : List (Int × Int)) (t : Int × Int) (h : pre.length + 1 ≤ 9223372036854775807) : IntKind.i64.wrap (((pre ++ [t]).length : Int) - 1) = ((pre.length : Nat) : Int) := by
  rw [List.length_append, Eng.i64_id (by simp only [List.length_cons, List.length_nil]; omega) (by simp only [List.length_cons, List.length_nil]; omega)]; simp only [List.length_cons, List.length_nil]; omega
theorem own_popped {w : World} {B : Nat} {o : Value} {pre : List (Int × Int)} {t : Int × Int} (O : w.ownsRow B 93 2 o (pre ++ [t]).length (opens (pre ++ [t]))) : w.ownsRow B 93 2 (Eng.cutVal o 0 pre.length 2) pre.length (opens pre) := by
  have h := Eng.own_pop (n := pre.length) (by rw [List.length_append] at O; exact O)
  rw [opens_snoc, ← opens_len, List.take_left] at h; exact h
theorem own_more {w : World} {B : Nat} {o : Value} {pre : List (Int × Int)} {t : Int × Int} {m : Int} (O : w.ownsRow B 93 2 o (pre ++ [t]).length ((opens (pre ++ [t])).set (pre.length * 2 + 1) (.int .i64 m))) : w.ownsRow B 93 2 o (pre ++ [(t.1, m)]).length (opens (pre ++ [(t.1, m)])) := by
  have e : (opens (pre ++ [t])).set (pre.length * 2 + 1) (.int .i64 m) = opens (pre ++ [(t.1, m)]) := by
    rw [opens_snoc, opens_snoc, List.set_append_right _ _ (by rw [opens_len]; omega), opens_len]; simp
  rw [e] at O
  rw [List.length_append] at O ⊢; exact O
theorem own_snoc {w : World} {B : Nat} {o : Value} {pre : List (Int × Int)} {k : Int} (O : w.ownsRow B 93 2 o (pre.length + 1) (opens pre ++ [.int .i64 k, .int .i64 0])) : w.ownsRow B 93 2 o (pre ++ [(k, 0)]).length (opens (pre ++ [(k, 0)])) := by
  rw [opens_snoc, List.length_append]; exact O
theorem pop_snoc (pre : List (Int × Int)) (t : Int × Int) (k : Int) (may : Int → Bool) : pop (pre ++ [t]) k may = if t.1 = k ∧ may t.2 = true then some pre else none := by
  unfold pop; rw [List.getLast?_append]; simp
theorem more_snoc (pre : List (Int × Int)) (t : Int × Int) : more (pre ++ [t]) = pre ++ [(t.1, IntKind.i64.wrap (t.2 + 1))] := by
  unfold more; rw [List.getLast?_append]; simp
theorem takeF_0 (st : List (Int × Int)) : takeF st 0 = if st.isEmpty = true then some [(0, 0)] else none := by unfold takeF; rw [if_pos rfl]
theorem takeF_1 (st : List (Int × Int)) : takeF st 1 = pop st 0 (fun m => m == 1) := by unfold takeF; rw [if_neg (by decide), if_pos rfl]
theorem takeF_3 (st : List (Int × Int)) : takeF st 3 = pop st 2 (fun _ => true) := by unfold takeF; rw [if_neg (by decide), if_neg (by decide), if_pos rfl]
theorem takeF_5 (st : List (Int × Int)) : takeF st 5 = pop st 4 even := by unfold takeF; rw [if_neg (by decide), if_neg (by decide), if_neg (by decide), if_pos rfl]
theorem takeF_x (st : List (Int × Int)) (k : Int) (h0 : k ≠ 0) (h1 : k ≠ 1) (h3 : k ≠ 3) (h5 : k ≠ 5) : takeF st k = if st.isEmpty = true then none else if k = 2 ∨ k = 4 then some (more st ++ [(k, 0)]) else some (more st) := by
  unfold takeF; rw [if_neg h0, if_neg h1, if_neg h3, if_neg h5]
structure Is (B : Nat) (W : World) (g : Nat) (o : Value) (st : List (Int × Int)) (w' : World) (o' : Value) : Prop where
  box : w'.heap[g]? = some (.cells #[o'] 77 (0, 0))
  own : w'.ownsRow B 93 2 o' st.length (opens st)
  aft : Eng.Aft (Eng.Nst g o) W w'
end Evt
end Go.Proofs.YtgnmjaacnmkgnaaDoor.X
namespace Go.Proofs.YtgnmjaacnmkgnaaDoor.X
open Go.RowKit Go.Shelf Go.Proofs
namespace Evt
theorem Is.from {B g : Nat} {W0 W w' : World} {o o' : Value} {st : List (Int × Int)} (h : Eng.Aft (Eng.Nst g o) W0 W) (i : Is B W g o st w' o') : Is B W0 g o st w' o' := ⟨i.box, i.own, h.trans i.aft fun _ _ h => h⟩
theorem nst_lo {w W : World} {g : Nat} {o : Value} {n : Nat} {xs : List Value} (hlo : w.heap.size ≤ g) (O : W.ownsRow w.heap.size 93 2 o n xs) : ∀ b, Eng.Nst g o b → w.heap.size ≤ b := by
  rintro b (rfl | e)
  · exact hlo
  · exact (Eng.ownB O e).1
theorem own_sets_ne {w w' : World} {B g : Nat} {e : TypeId} {size n : Nat} {v : Value} {xs : List Value} {ob : Obj} (O : w.ownsRow B e size v n xs) (S : Eng.Sets w w' g ob) (h : ∀ b, some b = v.ownBlock → b ≠ g) : w'.ownsRow B e size v n xs :=
  (Eng.Aft.of_sets (S := fun b => b = g) S rfl).own O h
end Evt
end Go.Proofs.YtgnmjaacnmkgnaaDoor.X
end
section
namespace Go.Proofs
open Go.Shelf
def Tryd.laysGw17_ren : Go.Shelf.Ren := ⟨fun | 17 => 84 | 15 => 97 | 20 => 100 | n => n, fun | 9 => 9 | 23 => 110 | 4 => 4 | 3 => 3 | 0 => 0 | 21 => 21 | n => n, fun | n => n⟩
theorem Tryd.laysGw17 : Go.Proofs.LaysGw.n17 Tryd.prog Tryd.laysGw17_ren := {
  mixed := by kernel_rfl
  f15 := Tryd.func97.trans (congrArg some (by kernel_rfl))
  f17 := Tryd.func84.trans (congrArg some (by kernel_rfl))
  f20 := Tryd.func100.trans (congrArg some (by kernel_rfl))
  t0 := Tryd.underlying0
  a0 := Tryd.isAgg0
  z0 := Tryd.sizeOf0
  v0 := Tryd.zeroValue0
  i0 := by kernel_rfl
  t3 := Tryd.underlying3
  a3 := Tryd.isAgg3
  z3 := Tryd.sizeOf3
  v3 := Tryd.zeroValue3
  i3 := by kernel_rfl
  t4 := Tryd.underlying4
  a4 := Tryd.isAgg4
  z4 := Tryd.sizeOf4
  v4 := Tryd.zeroValue4
  i4 := by kernel_rfl
  t9 := Tryd.underlying9
  a9 := Tryd.isAgg9
  z9 := Tryd.sizeOf9
  v9 := Tryd.zeroValue9
  i9 := by kernel_rfl
  t21 := Tryd.underlying21
  a21 := Tryd.isAgg21
  z21 := Tryd.sizeOf21
  v21 := Tryd.zeroValue21
  i21 := by kernel_rfl
  t23 := Tryd.underlying110
  a23 := Tryd.isAgg110
  z23 := Tryd.sizeOf110
  v23 := Tryd.zeroValue110
  i23 := by kernel_rfl }
open Go.RowKit Go.Lib in
theorem Tryd.strings_ContainsFunc (g : Nat) (lb : Array Value) (eg : ∀ args w, (callFunc g args).run Tryd.prog w = .ok (.enter g args) w) (p : Nat → Bool) (s : ByteArray) (w : World) (hp : PredAt Tryd.prog g lb encR p w) :
    Calls Tryd.prog 84 #[.string s, .func (.func g) #[] lb] w fun e w' => e = .returned (.bool (decide (0 ≤ Lib.idxFunc p true s))) ∧ Below w.heap.size w w' := Any.strings_ContainsFunc Tryd.laysGw17 g lb eg p s w hp
end Go.Proofs
end
section
namespace Go.Proofs.YtgnmjaacnmkgnaaDoor.Own
open Go.RowKit Go.Lib
def namedN (r : Nat) : Bool := (97 ≤ r && r ≤ 122) || (65 ≤ r && r ≤ 90) || (48 ≤ r && r ≤ 57) || r == 45
theorem named_calls (r : Nat) (w : World) : Calls Tryd.prog 83 #[.int .i32 r] w fun e w' => e = .returned (.bool (namedN r)) ∧ w = w' := by
  unfold namedN
  by_cases h1 : 97 ≤ r <;> by_cases h2 : r ≤ 122 <;> by_cases h3 : 65 ≤ r <;> by_cases h4 : r ≤ 90 <;> by_cases h5 : 48 ≤ r <;> by_cases h6 : r ≤ 57 <;> by_cases h7 : r = 45
  all_goals first | (exfalso; omega) | skip
  all_goals
    have z1 : (97 : Int) ≤ (r : Int) ↔ 97 ≤ r := by omega
    have z2 : (r : Int) ≤ 122 ↔ r ≤ 122 := by omega
    have z3 : (65 : Int) ≤ (r : Int) ↔ 65 ≤ r := by omega
    have z4 : (r : Int) ≤ 90 ↔ r ≤ 90 := by omega
    have z5 : (48 : Int) ≤ (r : Int) ↔ 48 ≤ r := by omega
    have z6 : (r : Int) ≤ 57 ↔ r ≤ 57 := by omega
    have z7 : ((r : Int) == 45) = decide (r = 45) := by rw [Bool.eq_iff_iff]; simp; omega
    go_enter Tryd.func83, Tryd.ntmps83
    go_wp2
    go_ret
    exact ⟨by simp [*], rfl⟩
theorem strange (w : World) : PredAt Tryd.prog 82 #[] encR (fun r => !namedN r) w := fun W r _ => by
  unfold FnGives encR
  have hn := named_calls r W
  go_enter Tryd.func82, Tryd.ntmps82
  go_wp2_with (go_at_call 83; refine hn.mono ?_; rintro e w' ⟨rfl, rfl⟩)
  go_ret
  exact ⟨rfl, 0, rfl⟩
theorem contains_calls (s : ByteArray) (w : World) :
    Calls Tryd.prog 84 #[.string s, .func (.func 82) #[] #[]] w fun e w' => e = .returned (.bool (decide (0 ≤ Lib.idxFunc (fun r => !namedN r) true s))) ∧ Below w.heap.size w w' :=
  Tryd.strings_ContainsFunc 82 #[] (enters_of Tryd.func82 (by kernel_rfl) rfl) _ s w (strange w)
def nameByte (c : UInt8) : Bool := namedN c.toNat
theorem decode_low (s : ByteArray) (i : Nat) (h : (s.get! i).toNat < 128) : Utf8.decode s i = ((s.get! i).toNat, 1) := by
  rw [decode_at]; unfold decodeN; rw [if_pos h]
theorem decode_high (s : ByteArray) (i : Nat) (h : ¬ (s.get! i).toNat < 128) : 128 ≤ (Utf8.decode s i).1 := by
  rw [decode_at]; unfold decodeN; rw [if_neg h]
  repeat' split
  all_goals simp
  all_goals omega
theorem idx_from (s : ByteArray) : ∀ (f pos : Nat), s.size - pos ≤ f →
    decide (0 ≤ idxFuncFrom (fun r => !namedN r) true s f pos) = !(s.data.toList.drop pos).all nameByte
  | 0, pos => fun h => by
    have : s.data.toList.drop pos = [] := List.drop_eq_nil_of_le (by rw [Array.length_toList]; show s.size ≤ pos; omega)
    rw [this]; rfl
  | f + 1, pos => fun h => by
    unfold idxFuncFrom
    by_cases hp : pos < s.size
    · have hl : pos < s.data.toList.length := by rw [Array.length_toList]; exact hp
      have hg : s.get! pos = s.data.toList[pos]'hl := by
        have hp' : pos < s.data.size := hp
        show s.data[pos]! = _
        rw [getElem!_pos s.data pos hp', Array.getElem_toList]
      rw [if_pos hp, List.drop_eq_getElem_cons hl, List.all_cons, ← hg]
      by_cases hb : (s.get! pos).toNat < 128
      · rw [decode_low s pos hb]
        by_cases hn : namedN (s.get! pos).toNat = true
        · rw [if_neg (by simp [hn]), idx_from s f (pos + 1) (by omega)]
          simp [nameByte, hn]
        · rw [if_pos (by simpa using hn)]
          have : (0 : Int) ≤ (pos : Int) := by omega
          simp [nameByte, hn, this]
      · have h2 := decode_high s pos hb
        have hz : ∀ r : Nat, 128 ≤ r → namedN r = false := by
          intro r hr; unfold namedN; simp; omega
        rw [if_pos (by simp [hz _ h2])]
        have h3 : nameByte (s.get! pos) = false := hz _ (by omega)
        have : (0 : Int) ≤ (pos : Int) := by omega
        simp [h3, this]
    · have : s.data.toList.drop pos = [] := List.drop_eq_nil_of_le (by rw [Array.length_toList]; show s.size ≤ pos; omega)
      rw [if_neg hp, this]; rfl
theorem contains_eq (s : ByteArray) : decide (0 ≤ Lib.idxFunc (fun r => !namedN r) true s) = !s.data.toList.all nameByte := by
  have := idx_from s s.size 0 (by omega)
  rw [List.drop_zero] at this; exact this
end Go.Proofs.YtgnmjaacnmkgnaaDoor.Own
end
section
namespace Go.Proofs.YtgnmjaacnmkgnaaDoor.Nam
open Go.RowKit Go.Lib
def namedN (r : Nat) : Bool := (97 ≤ r && r ≤ 122) || (65 ≤ r && r ≤ 90) || (48 ≤ r && r ≤ 57) || r == 45 || r == 95
theorem strange (w : World) : PredAt Tryd.prog 93 #[] encR (fun r => !namedN r) w := fun W r _ => by
  unfold FnGives encR namedN
  by_cases h1 : 97 ≤ r <;> by_cases h2 : r ≤ 122 <;> by_cases h3 : 65 ≤ r <;> by_cases h4 : r ≤ 90 <;> by_cases h5 : 48 ≤ r <;> by_cases h6 : r ≤ 57 <;> by_cases h7 : r = 45 <;> by_cases h8 : r = 95
  all_goals first | (exfalso; omega) | skip
  all_goals
    have z1 : ((r : Int) < 97) ↔ ¬ 97 ≤ r := by omega
    have z2 : (122 < (r : Int)) ↔ ¬ r ≤ 122 := by omega
    have z3 : ((r : Int) < 65) ↔ ¬ 65 ≤ r := by omega
    have z4 : (90 < (r : Int)) ↔ ¬ r ≤ 90 := by omega
    have z5 : ((r : Int) < 48) ↔ ¬ 48 ≤ r := by omega
    have z6 : (57 < (r : Int)) ↔ ¬ r ≤ 57 := by omega
    have z7 : ((r : Int) == 45) = decide (r = 45) := by rw [Bool.eq_iff_iff]; simp; omega
    have z8 : ((r : Int) == 95) = decide (r = 95) := by rw [Bool.eq_iff_iff]; simp; omega
    have z9 : ((r : Int) != 45) = !decide (r = 45) := by rw [bne, z7]
    have z10 : ((r : Int) != 95) = !decide (r = 95) := by rw [bne, z8]
    go_enter Tryd.func93, Tryd.ntmps93
    go_wp2
    go_ret
    exact ⟨by simp [*], 0, rfl⟩
theorem contains_calls (s : ByteArray) (w : World) :
    Calls Tryd.prog 84 #[.string s, .func (.func 93) #[] #[]] w fun e w' => e = .returned (.bool (decide (0 ≤ Lib.idxFunc (fun r => !namedN r) true s))) ∧ Below w.heap.size w w' :=
  Tryd.strings_ContainsFunc 93 #[] (enters_of Tryd.func93 (by kernel_rfl) rfl) _ s w (strange w)
def nameByte (c : UInt8) : Bool := namedN c.toNat
theorem decode_low (s : ByteArray) (i : Nat) (h : (s.get! i).toNat < 128) : Utf8.decode s i = ((s.get! i).toNat, 1) := by
  rw [decode_at]; unfold decodeN; rw [if_pos h]
theorem decode_high (s : ByteArray) (i : Nat) (h : ¬ (s.get! i).toNat < 128) : 128 ≤ (Utf8.decode s i).1 := by
  rw [decode_at]; unfold decodeN; rw [if_neg h]
  repeat' split
  all_goals simp
  all_goals omega
theorem idx_from (s : ByteArray) : ∀ (f pos : Nat), s.size - pos ≤ f →
    decide (0 ≤ idxFuncFrom (fun r => !namedN r) true s f pos) = !(s.data.toList.drop pos).all nameByte
  | 0, pos => fun h => by
    have : s.data.toList.drop pos = [] := List.drop_eq_nil_of_le (by rw [Array.length_toList]; show s.size ≤ pos; omega)
    rw [this]; rfl
  | f + 1, pos => fun h => by
    unfold idxFuncFrom
    by_cases hp : pos < s.size
    · have hl : pos < s.data.toList.length := by rw [Array.length_toList]; exact hp
      have hg : s.get! pos = s.data.toList[pos]'hl := by
        have hp' : pos < s.data.size := hp
        show s.data[pos]! = _
        rw [getElem!_pos s.data pos hp', Array.getElem_toList]
      rw [if_pos hp, List.drop_eq_getElem_cons hl, List.all_cons, ← hg]
      by_cases hb : (s.get! pos).toNat < 128
      · rw [decode_low s pos hb]
        by_cases hn : namedN (s.get! pos).toNat = true
        · rw [if_neg (by simp [hn]), idx_from s f (pos + 1) (by omega)]
          simp [nameByte, hn]
        · rw [if_pos (by simpa using hn)]
          have : (0 : Int) ≤ (pos : Int) := by omega
          simp [nameByte, hn, this]
      · have h2 := decode_high s pos hb
        have hz : ∀ r : Nat, 128 ≤ r → namedN r = false := by
          intro r hr; unfold namedN; simp; omega
        rw [if_pos (by simp [hz _ h2])]
        have h3 : nameByte (s.get! pos) = false := hz _ (by omega)
        have : (0 : Int) ≤ (pos : Int) := by omega
        simp [h3, this]
    · have : s.data.toList.drop pos = [] := List.drop_eq_nil_of_le (by rw [Array.length_toList]; show s.size ≤ pos; omega)
      rw [if_neg hp, this]; rfl
theorem contains_eq (s : ByteArray) : decide (0 ≤ Lib.idxFunc (fun r => !namedN r) true s) = !s.data.toList.all nameByte := by
  have := idx_from s s.size 0 (by omega)
  rw [List.drop_zero] at this; exact this
end Go.Proofs.YtgnmjaacnmkgnaaDoor.Nam
end
section
namespace Go.Proofs.YtgnmjaacnmkgnaaDoorW.PrintWords
theorem Reps.one {α : Type} {R : α → List Value → Prop} {ps : List α} {cs : List Value} {p : α} {v : Value} (hp : R p [v]) (h : Reps R 1 ps cs) : Reps R 1 (p :: ps) (v :: cs) := by
  refine ⟨by simp [h.1], fun j q hq => ?_⟩
  cases j with
  | zero =>
    simp only [List.getElem?_cons_zero, Option.some.injEq] at hq
    subst hq
    simpa using hp
  | succ j =>
    simp only [List.getElem?_cons_succ] at hq
    have h1 := h.2 j q hq
    simpa [Nat.mul_one] using h1
end Go.Proofs.YtgnmjaacnmkgnaaDoorW.PrintWords
end
section
namespace Go.Proofs.YtgnmjaacnmkgnaaDoor.T
open Go.RowKit Go.Proofs.YtgnmjaacnmkgnaaDoorW.PrintWords Go.Proofs.YtgnmjaacnmkgnaaDoorW.PrintLast Go.Proofs.YtgnmjaacnmkgnaaDoorW.PrintMore
attribute [local go_sem] max2_int min2_int max_two min_two
set_option linter.unusedVariables false
set_option linter.unusedSimpArgs false
def errW : Option Int → Value
  | none => .nilIface
  | some c => .iface 0 (.int .i64 c)
theorem errW_none : errW none = .nilIface := rfl
theorem errW_some (c : Int) : errW (some c) = .iface 0 (.int .i64 c) := rfl
theorem xbne_nil (l : List UInt8) : (l != []) = !l.isEmpty := by cases l <;> rfl
theorem xbeq_nil (l : List UInt8) : (l == []) = l.isEmpty := by cases l <;> rfl
end Go.Proofs.YtgnmjaacnmkgnaaDoor.T
end
section
namespace Go.Proofs.YtgnmjaacnmkgnaaDoor.T
open Go.RowKit Go.Proofs.YtgnmjaacnmkgnaaDoorW.PrintWords Go.Proofs.YtgnmjaacnmkgnaaDoorW.PrintLast Go.Proofs.YtgnmjaacnmkgnaaDoorW.PrintMore
attribute [local go_sem] max2_int min2_int max_two min_two
set_option linter.unusedVariables false
set_option linter.unusedSimpArgs false
def tag_plain.f (a0 : ByteArray) : Option (Bool) := if a0.toList = ([110, 117, 108, 108] : List UInt8) then (some true) else (if a0.toList = ([98, 111, 111, 108] : List UInt8) then (some true) else (if a0.toList = ([105, 110, 116] : List UInt8) then (some true) else (some (a0.toList == ([102, 108, 111, 97, 116] : List UInt8)))))
set_option maxHeartbeats 8000000 in
set_option maxRecDepth 100000 in
theorem tag_plain.calls (a0 : ByteArray) (r : Bool) (w : World) (h : tag_plain.f a0 = some r) :
    Calls Tryd.prog 50 #[.string a0] w fun e w' => e = .returned (.bool r) ∧ Drawn0 w w' := by
  have H : (if a0.toList = ([110, 117, 108, 108] : List UInt8) then (some true) else (if a0.toList = ([98, 111, 111, 108] : List UInt8) then (some true) else (if a0.toList = ([105, 110, 116] : List UInt8) then (some true) else (some (a0.toList == ([102, 108, 111, 97, 116] : List UInt8)))))) = some r := h
  clear h
  by_cases c2 : a0.toList = ([110, 117, 108, 108] : List UInt8)
  · rw [if_pos c2] at H
    have c2b0 : (a0.toList == ([110, 117, 108, 108] : List UInt8)) = true := beq_iff_eq.mpr c2
    have c2b1 : (a0.toList != ([110, 117, 108, 108] : List UInt8)) = false := bne_eq_false_iff_eq.mpr c2
    clear c2
    obtain rfl := Option.some.inj H
    go_enter Tryd.func50, Tryd.ntmps50
    go_wp2
    go_ret
    exact ⟨by first | rfl | (simp; done) | (simp [*]; done) | (simp [xbne_nil, xbeq_nil]; done), by repeat (first | exact Drawn0.refl _ | apply Drawn0.step)⟩
  · rw [if_neg c2] at H
    have c2b0 : (a0.toList == ([110, 117, 108, 108] : List UInt8)) = false := beq_eq_false_iff_ne.mpr c2
    have c2b1 : (a0.toList != ([110, 117, 108, 108] : List UInt8)) = true := bne_iff_ne.mpr c2
    by_cases c3 : a0.toList = ([98, 111, 111, 108] : List UInt8)
    · rw [if_pos c3] at H
      have c3b0 : (a0.toList == ([98, 111, 111, 108] : List UInt8)) = true := beq_iff_eq.mpr c3
      have c3b1 : (a0.toList != ([98, 111, 111, 108] : List UInt8)) = false := bne_eq_false_iff_eq.mpr c3
      clear c3
      obtain rfl := Option.some.inj H
      go_enter Tryd.func50, Tryd.ntmps50
      go_wp2
      go_ret
      exact ⟨by first | rfl | (simp; done) | (simp [*]; done) | (simp [xbne_nil, xbeq_nil]; done), by repeat (first | exact Drawn0.refl _ | apply Drawn0.step)⟩
    · rw [if_neg c3] at H
      have c3b0 : (a0.toList == ([98, 111, 111, 108] : List UInt8)) = false := beq_eq_false_iff_ne.mpr c3
      have c3b1 : (a0.toList != ([98, 111, 111, 108] : List UInt8)) = true := bne_iff_ne.mpr c3
      by_cases c4 : a0.toList = ([105, 110, 116] : List UInt8)
      · rw [if_pos c4] at H
        have c4b0 : (a0.toList == ([105, 110, 116] : List UInt8)) = true := beq_iff_eq.mpr c4
        have c4b1 : (a0.toList != ([105, 110, 116] : List UInt8)) = false := bne_eq_false_iff_eq.mpr c4
        clear c4
        obtain rfl := Option.some.inj H
        go_enter Tryd.func50, Tryd.ntmps50
        go_wp2
        go_ret
        exact ⟨by first | rfl | (simp; done) | (simp [*]; done) | (simp [xbne_nil, xbeq_nil]; done), by repeat (first | exact Drawn0.refl _ | apply Drawn0.step)⟩
      · rw [if_neg c4] at H
        have c4b0 : (a0.toList == ([105, 110, 116] : List UInt8)) = false := beq_eq_false_iff_ne.mpr c4
        have c4b1 : (a0.toList != ([105, 110, 116] : List UInt8)) = true := bne_iff_ne.mpr c4
        obtain rfl := Option.some.inj H
        go_enter Tryd.func50, Tryd.ntmps50
        go_wp2
        go_ret
        exact ⟨by first | rfl | (simp; done) | (simp [*]; done) | (simp [xbne_nil, xbeq_nil]; done), by repeat (first | exact Drawn0.refl _ | apply Drawn0.step)⟩
def tag_Core.f (a0 : ByteArray) : Option (Bool) := if a0.toList = ([115, 101, 113] : List UInt8) then (some true) else (if a0.toList = ([109, 97, 112] : List UInt8) then (some true) else (if a0.toList = ([115, 116, 114] : List UInt8) then (some true) else ((tag_plain.f a0).bind fun t101 => (some t101))))
set_option maxHeartbeats 8000000 in
set_option maxRecDepth 100000 in
theorem tag_Core.calls (a0 : ByteArray) (r : Bool) (w : World) (h : tag_Core.f a0 = some r) :
    Calls Tryd.prog 46 #[.string a0] w fun e w' => e = .returned (.bool r) ∧ Drawn0 w w' := by
  have H : (if a0.toList = ([115, 101, 113] : List UInt8) then (some true) else (if a0.toList = ([109, 97, 112] : List UInt8) then (some true) else (if a0.toList = ([115, 116, 114] : List UInt8) then (some true) else ((tag_plain.f a0).bind fun t101 => (some t101))))) = some r := h
  clear h
  by_cases c2 : a0.toList = ([115, 101, 113] : List UInt8)
  · rw [if_pos c2] at H
    have c2b0 : (a0.toList == ([115, 101, 113] : List UInt8)) = true := beq_iff_eq.mpr c2
    have c2b1 : (a0.toList != ([115, 101, 113] : List UInt8)) = false := bne_eq_false_iff_eq.mpr c2
    clear c2
    obtain rfl := Option.some.inj H
    go_enter Tryd.func46, Tryd.ntmps46
    go_wp2
    go_ret
    exact ⟨by first | rfl | (simp; done) | (simp [*]; done) | (simp [xbne_nil, xbeq_nil]; done), by repeat (first | exact Drawn0.refl _ | apply Drawn0.step)⟩
  · rw [if_neg c2] at H
    have c2b0 : (a0.toList == ([115, 101, 113] : List UInt8)) = false := beq_eq_false_iff_ne.mpr c2
    have c2b1 : (a0.toList != ([115, 101, 113] : List UInt8)) = true := bne_iff_ne.mpr c2
    by_cases c3 : a0.toList = ([109, 97, 112] : List UInt8)
    · rw [if_pos c3] at H
      have c3b0 : (a0.toList == ([109, 97, 112] : List UInt8)) = true := beq_iff_eq.mpr c3
      have c3b1 : (a0.toList != ([109, 97, 112] : List UInt8)) = false := bne_eq_false_iff_eq.mpr c3
      clear c3
      obtain rfl := Option.some.inj H
      go_enter Tryd.func46, Tryd.ntmps46
      go_wp2
      go_ret
      exact ⟨by first | rfl | (simp; done) | (simp [*]; done) | (simp [xbne_nil, xbeq_nil]; done), by repeat (first | exact Drawn0.refl _ | apply Drawn0.step)⟩
    · rw [if_neg c3] at H
      have c3b0 : (a0.toList == ([109, 97, 112] : List UInt8)) = false := beq_eq_false_iff_ne.mpr c3
      have c3b1 : (a0.toList != ([109, 97, 112] : List UInt8)) = true := bne_iff_ne.mpr c3
      by_cases c4 : a0.toList = ([115, 116, 114] : List UInt8)
      · rw [if_pos c4] at H
        have c4b0 : (a0.toList == ([115, 116, 114] : List UInt8)) = true := beq_iff_eq.mpr c4
        have c4b1 : (a0.toList != ([115, 116, 114] : List UInt8)) = false := bne_eq_false_iff_eq.mpr c4
        clear c4
        obtain rfl := Option.some.inj H
        go_enter Tryd.func46, Tryd.ntmps46
        go_wp2
        go_ret
        exact ⟨by first | rfl | (simp; done) | (simp [*]; done) | (simp [xbne_nil, xbeq_nil]; done), by repeat (first | exact Drawn0.refl _ | apply Drawn0.step)⟩
      · rw [if_neg c4] at H
        have c4b0 : (a0.toList == ([115, 116, 114] : List UInt8)) = false := beq_eq_false_iff_ne.mpr c4
        have c4b1 : (a0.toList != ([115, 116, 114] : List UInt8)) = true := bne_iff_ne.mpr c4
        replace H := Option.bind_eq_some_iff.mp H
        obtain ⟨t101, A50, H⟩ := H
        replace H : (some t101) = some r := H
        have A5 := Aside0.mk A50
        clear A50
        obtain rfl := Option.some.inj H
        go_enter Tryd.func46, Tryd.ntmps46
        go_wp2_with (first | ((with_reducible refine gate_callee (f := 50) rfl ?_); refine goesL_ (some 9) rfl rfl Tryd.func50 (by kernel_rfl) rfl #[.string a0] rfl (by (try simp only [List.map_toArray, List.map_cons, List.map_nil]); first | done | rfl | (simp only [List.length_drop, List.length_take]; rfl)) ?_; (with_reducible refine (tag_plain.calls a0 t101 _ A5.out).mono ?_); rintro e w' ⟨rfl, ⟨nd, rfl⟩⟩; refine ⟨_, rfl, ?_⟩))
        go_ret
        exact ⟨by first | rfl | (simp; done) | (simp [*]; done) | (simp [xbne_nil, xbeq_nil]; done), by repeat (first | exact Drawn0.refl _ | apply Drawn0.step)⟩
def stringslite_HasPrefix.f (a0 : ByteArray) (a1 : ByteArray) : Option (Bool) := if (a0.size : Int) ≥ (a1.size : Int) then (if 0 ≤ (a1.size : Int) then (if (a1.size : Int) ≤ (a0.size : Int) then (some ((a0.extract 0 ((a1.size : Int) : Int).toNat).toList == a1.toList)) else (none)) else (none)) else (some false)
set_option maxHeartbeats 8000000 in
set_option maxRecDepth 100000 in
theorem stringslite_HasPrefix.calls (a0 : ByteArray) (a1 : ByteArray) (r : Bool) (w : World) (h : stringslite_HasPrefix.f a0 a1 = some r) :
    Calls Tryd.prog 99 #[.string a0, .string a1] w fun e w' => e = .returned (.bool r) ∧ Drawn0 w w' := by
  have H : (if (a0.size : Int) ≥ (a1.size : Int) then (if 0 ≤ (a1.size : Int) then (if (a1.size : Int) ≤ (a0.size : Int) then (some ((a0.extract 0 ((a1.size : Int) : Int).toNat).toList == a1.toList)) else (none)) else (none)) else (some false)) = some r := h
  clear h
  by_cases c3 : (a0.size : Int) ≥ (a1.size : Int)
  · rw [if_pos c3] at H
    have c3b0 : decide ((a1.size : Int) ≤ (a0.size : Int)) = true := decide_eq_true c3
    have c3b1 : decide (a1.size ≤ a0.size) = true := decide_eq_true (Int.ofNat_le.mp c3)
    clear c3
    by_cases c4 : 0 ≤ (a1.size : Int)
    · rw [if_pos c4] at H
      have c4b0 := eq_true c4
      have c4b1 : decide (0 ≤ (a1.size : Int)) = true := decide_eq_true c4
      clear c4
      by_cases c5 : (a1.size : Int) ≤ (a0.size : Int)
      · rw [if_pos c5] at H
        have c5b0 := eq_true c5
        have c5b1 : decide ((a1.size : Int) ≤ (a0.size : Int)) = true := decide_eq_true c5
        clear c5
        obtain rfl := Option.some.inj H
        go_enter Tryd.func99, Tryd.ntmps99
        go_wp2
        go_ret
        exact ⟨by first | rfl | (simp; done) | (simp [*]; done) | (simp [xbne_nil, xbeq_nil]; done), by repeat (first | exact Drawn0.refl _ | apply Drawn0.step)⟩
      · rw [if_neg c5] at H
        exact absurd H (by simp)
    · rw [if_neg c4] at H
      exact absurd H (by simp)
  · rw [if_neg c3] at H
    have c3b0 : decide ((a1.size : Int) ≤ (a0.size : Int)) = false := decide_eq_false c3
    have c3b1 : decide (a1.size ≤ a0.size) = false := decide_eq_false (fun h => c3 (Int.ofNat_le.mpr h))
    clear c3
    obtain rfl := Option.some.inj H
    go_enter Tryd.func99, Tryd.ntmps99
    go_wp2
    go_ret
    exact ⟨by first | rfl | (simp; done) | (simp [*]; done) | (simp [xbne_nil, xbeq_nil]; done), by repeat (first | exact Drawn0.refl _ | apply Drawn0.step)⟩
def stringslite_CutPrefix.f (a0 : ByteArray) (a1 : ByteArray) : Option (ByteArray × Bool) := (stringslite_HasPrefix.f a0 a1).bind fun t102 => (if t102 = true then (if 0 ≤ (a1.size : Int) then (if (a1.size : Int) ≤ (a0.size : Int) then (some (a0.extract ((a1.size : Int) : Int).toNat a0.size, true)) else (none)) else (none)) else (some (a0, false)))
set_option maxHeartbeats 8000000 in
set_option maxRecDepth 100000 in
theorem stringslite_CutPrefix.calls (a0 : ByteArray) (a1 : ByteArray) (r1 : ByteArray) (r2 : Bool) (w : World) (h : stringslite_CutPrefix.f a0 a1 = some (r1, r2)) :
    Calls Tryd.prog 95 #[.string a0, .string a1] w fun e w' => e = .returned (.tuple #[.string r1, .bool r2]) ∧ Drawn0 w w' := by
  have H : ((stringslite_HasPrefix.f a0 a1).bind fun t102 => (if t102 = true then (if 0 ≤ (a1.size : Int) then (if (a1.size : Int) ≤ (a0.size : Int) then (some (a0.extract ((a1.size : Int) : Int).toNat a0.size, true)) else (none)) else (none)) else (some (a0, false)))) = some (r1, r2) := h
  clear h
  replace H := Option.bind_eq_some_iff.mp H
  obtain ⟨t102, A30, H⟩ := H
  replace H : (if t102 = true then (if 0 ≤ (a1.size : Int) then (if (a1.size : Int) ≤ (a0.size : Int) then (some (a0.extract ((a1.size : Int) : Int).toNat a0.size, true)) else (none)) else (none)) else (some (a0, false))) = some (r1, r2) := H
  have A3 := Aside0.mk A30
  clear A30
  by_cases c4 : t102 = true
  · subst c4
    have H1 : (if 0 ≤ (a1.size : Int) then (if (a1.size : Int) ≤ (a0.size : Int) then (some (a0.extract ((a1.size : Int) : Int).toNat a0.size, true)) else (none)) else (none)) = some (r1, r2) := by rw [if_pos rfl] at H; exact H
    clear H
    have H := H1
    clear H1
    by_cases c5 : 0 ≤ (a1.size : Int)
    · rw [if_pos c5] at H
      have c5b0 := eq_true c5
      have c5b1 : decide (0 ≤ (a1.size : Int)) = true := decide_eq_true c5
      clear c5
      by_cases c6 : (a1.size : Int) ≤ (a0.size : Int)
      · rw [if_pos c6] at H
        have c6b0 := eq_true c6
        have c6b1 : decide ((a1.size : Int) ≤ (a0.size : Int)) = true := decide_eq_true c6
        clear c6
        simp only [Option.some.injEq, Prod.mk.injEq] at H
        obtain ⟨rfl, rfl⟩ := H
        go_enter Tryd.func95, Tryd.ntmps95
        go_wp2_with (first | ((with_reducible refine gate_callee (f := 99) rfl ?_); refine goesL_ (some 8) rfl rfl Tryd.func99 (by kernel_rfl) rfl #[.string a0, .string a1] rfl (by (try simp only [List.map_toArray, List.map_cons, List.map_nil]); first | done | rfl | (simp only [List.length_drop, List.length_take]; rfl)) ?_; (with_reducible refine (stringslite_HasPrefix.calls a0 a1 true _ A3.out).mono ?_); rintro e w' ⟨rfl, ⟨nd, rfl⟩⟩; refine ⟨_, rfl, ?_⟩))
        go_ret2
        exact ⟨by first | rfl | (simp; done) | (simp [*]; done) | (simp [xbne_nil, xbeq_nil]; done), by repeat (first | exact Drawn0.refl _ | apply Drawn0.step)⟩
      · rw [if_neg c6] at H
        exact absurd H (by simp)
    · rw [if_neg c5] at H
      exact absurd H (by simp)
  · replace c4 := Bool.eq_false_iff.mpr c4
    subst c4
    have H1 : (some (a0, false)) = some (r1, r2) := by rw [if_neg (show ¬ (false = true) by decide)] at H; exact H
    clear H
    have H := H1
    clear H1
    simp only [Option.some.injEq, Prod.mk.injEq] at H
    obtain ⟨rfl, rfl⟩ := H
    go_enter Tryd.func95, Tryd.ntmps95
    go_wp2_with (first | ((with_reducible refine gate_callee (f := 99) rfl ?_); refine goesL_ (some 8) rfl rfl Tryd.func99 (by kernel_rfl) rfl #[.string a0, .string a1] rfl (by (try simp only [List.map_toArray, List.map_cons, List.map_nil]); first | done | rfl | (simp only [List.length_drop, List.length_take]; rfl)) ?_; (with_reducible refine (stringslite_HasPrefix.calls a0 a1 false _ A3.out).mono ?_); rintro e w' ⟨rfl, ⟨nd, rfl⟩⟩; refine ⟨_, rfl, ?_⟩))
    go_ret2
    exact ⟨by first | rfl | (simp; done) | (simp [*]; done) | (simp [xbne_nil, xbeq_nil]; done), by repeat (first | exact Drawn0.refl _ | apply Drawn0.step)⟩
def strings_CutPrefix.f (a0 : ByteArray) (a1 : ByteArray) : Option (ByteArray × Bool) := (stringslite_CutPrefix.f a0 a1).bind fun bt103 => (some (bt103.1, bt103.2))
set_option maxHeartbeats 8000000 in
set_option maxRecDepth 100000 in
theorem strings_CutPrefix.calls (a0 : ByteArray) (a1 : ByteArray) (r1 : ByteArray) (r2 : Bool) (w : World) (h : strings_CutPrefix.f a0 a1 = some (r1, r2)) :
    Calls Tryd.prog 79 #[.string a0, .string a1] w fun e w' => e = .returned (.tuple #[.string r1, .bool r2]) ∧ Drawn0 w w' := by
  have H : ((stringslite_CutPrefix.f a0 a1).bind fun bt103 => (some (bt103.1, bt103.2))) = some (r1, r2) := h
  clear h
  replace H := Option.bind_eq_some_iff.mp H
  obtain ⟨⟨t103, t104⟩, A30, H⟩ := H
  replace H : (some (t103, t104)) = some (r1, r2) := H
  have A3 := Aside0.mk A30
  clear A30
  simp only [Option.some.injEq, Prod.mk.injEq] at H
  obtain ⟨rfl, rfl⟩ := H
  go_enter Tryd.func79, Tryd.ntmps79
  go_wp2_with (first | ((with_reducible refine gate_callee (f := 95) rfl ?_); refine goesL_ (some 8) rfl rfl Tryd.func95 (by kernel_rfl) rfl #[.string a0, .string a1] rfl (by (try simp only [List.map_toArray, List.map_cons, List.map_nil]); first | done | rfl | (simp only [List.length_drop, List.length_take]; rfl)) ?_; (with_reducible refine (stringslite_CutPrefix.calls a0 a1 t103 t104 _ A3.out).mono ?_); rintro e w' ⟨rfl, ⟨nd, rfl⟩⟩; refine ⟨_, rfl, ?_⟩))
  go_ret2
  exact ⟨by first | rfl | (simp; done) | (simp [*]; done) | (simp [xbne_nil, xbeq_nil]; done), by repeat (first | exact Drawn0.refl _ | apply Drawn0.step)⟩
def tag_own.g (t : ByteArray) (b : Bool) : Bool := b && !(t.toList == ([] : List UInt8)) && decide (t.size ≤ 40) && t.data.toList.all Own.nameByte
def tag_own.f (a0 : ByteArray) : Option (Bool) := (strings_CutPrefix.f a0 (⟨#[33]⟩ : ByteArray)).bind fun b => some (tag_own.g b.1 b.2)
set_option maxHeartbeats 2000000 in
theorem tag_own.calls (a0 : ByteArray) (r : Bool) (w : World) (h : tag_own.f a0 = some r) :
    Calls Tryd.prog 51 #[.string a0] w fun e w' => e = .returned (.bool r) ∧ Below w.heap.size w w' := by
  unfold tag_own.f at h
  obtain ⟨⟨t, b⟩, A20, H⟩ := Option.bind_eq_some_iff.mp h
  have A2 := Aside0.mk A20
  clear A20 h
  obtain rfl := Option.some.inj H
  clear H
  cases b with
  | false =>
    go_enter Tryd.func51, Tryd.ntmps51
    go_wp2_with ((go_at_call 79; (with_reducible refine (strings_CutPrefix.calls a0 (⟨#[33]⟩ : ByteArray) t false _ A2.out).mono ?_); rintro e w' ⟨rfl, ⟨nd, rfl⟩⟩))
    go_ret
    exact ⟨rfl, pw_below_drewN (Below.refl _ _) _⟩
  | true =>
    by_cases c1 : t.toList = ([] : List UInt8)
    · have c1b0 : (t.toList == ([] : List UInt8)) = true := beq_iff_eq.mpr c1
      have c1b1 : (t.toList != ([] : List UInt8)) = false := bne_eq_false_iff_eq.mpr c1
      have hg : Aside0 (tag_own.g t true = false) := ⟨by unfold tag_own.g; rw [c1b0]; rfl⟩
      clear c1
      go_enter Tryd.func51, Tryd.ntmps51
      go_wp2_with ((go_at_call 79; (with_reducible refine (strings_CutPrefix.calls a0 (⟨#[33]⟩ : ByteArray) t true _ A2.out).mono ?_); rintro e w' ⟨rfl, ⟨nd, rfl⟩⟩))
      go_ret
      exact ⟨by rw [hg.out]; rfl, pw_below_drewN (Below.refl _ _) _⟩
    · have c1b0 : (t.toList == ([] : List UInt8)) = false := beq_eq_false_iff_ne.mpr c1
      have c1b1 : (t.toList != ([] : List UInt8)) = true := bne_iff_ne.mpr c1
      by_cases c2 : t.size ≤ 40
      · have c2b0 : decide ((t.size : Int) ≤ 40) = true := decide_eq_true (by omega)
        have c2b1 : decide (t.size ≤ 40) = true := decide_eq_true c2
        have hg : Aside0 (tag_own.g t true = !decide (0 ≤ Lib.idxFunc (fun r => !Own.namedN r) true t)) := ⟨by unfold tag_own.g; rw [c1b0, c2b1, Own.contains_eq]; simp⟩
        clear c1 c2
        generalize hI : decide (0 ≤ Lib.idxFunc (fun r => !Own.namedN r) true t) = I at hg
        have hI2 := Aside0.mk hI
        clear hI
        go_enter Tryd.func51, Tryd.ntmps51
        go_wp2_with (first | (go_at_call 79; (with_reducible refine (strings_CutPrefix.calls a0 (⟨#[33]⟩ : ByteArray) t true _ A2.out).mono ?_); rintro e w' ⟨rfl, ⟨nd, rfl⟩⟩) | (go_at_call 84; (with_reducible refine (Own.contains_calls t _).mono ?_); rintro e w' ⟨rfl, hb⟩))
        go_ret
        exact ⟨by rw [hg.out, hI2.out]; rfl, (pw_below_drewN (Below.refl _ _) _).trans hb⟩
      · have c2b0 : decide ((t.size : Int) ≤ 40) = false := decide_eq_false (by omega)
        have c2b1 : decide (t.size ≤ 40) = false := decide_eq_false c2
        have hg : Aside0 (tag_own.g t true = false) := ⟨by unfold tag_own.g; rw [c1b0, c2b1]; rfl⟩
        clear c1 c2
        go_enter Tryd.func51, Tryd.ntmps51
        go_wp2_with ((go_at_call 79; (with_reducible refine (strings_CutPrefix.calls a0 (⟨#[33]⟩ : ByteArray) t true _ A2.out).mono ?_); rintro e w' ⟨rfl, ⟨nd, rfl⟩⟩))
        go_ret
        exact ⟨by rw [hg.out]; rfl, pw_below_drewN (Below.refl _ _) _⟩
def tag_Right.f (a0 : ByteArray) : Option (Bool) := (tag_Core.f a0).bind fun t105 => (if t105 = true then (some true) else ((tag_own.f a0).bind fun t106 => (some t106)))
set_option maxHeartbeats 8000000 in
set_option maxRecDepth 100000 in
theorem tag_Right.calls (a0 : ByteArray) (r : Bool) (w : World) (h : tag_Right.f a0 = some r) :
    Calls Tryd.prog 45 #[.string a0] w fun e w' => e = .returned (.bool r) ∧ Below w.heap.size w w' := by
  have HB := Aside0.mk (Below.refl w.heap.size w)
  have H : ((tag_Core.f a0).bind fun t105 => (if t105 = true then (some true) else ((tag_own.f a0).bind fun t106 => (some t106)))) = some r := h
  clear h
  replace H := Option.bind_eq_some_iff.mp H
  obtain ⟨t105, A20, H⟩ := H
  replace H : (if t105 = true then (some true) else ((tag_own.f a0).bind fun t106 => (some t106))) = some r := H
  have A2 := Aside0.mk A20
  clear A20
  by_cases c3 : t105 = true
  · subst c3
    have H1 : (some true) = some r := by rw [if_pos rfl] at H; exact H
    clear H
    have H := H1
    clear H1
    obtain rfl := Option.some.inj H
    go_enter Tryd.func45, Tryd.ntmps45
    go_wp2_with (first | ((with_reducible refine gate_callee (f := 46) rfl ?_); refine goesL_ (some 4) rfl rfl Tryd.func46 (by kernel_rfl) rfl #[.string a0] rfl (by (try simp only [List.map_toArray, List.map_cons, List.map_nil]); first | done | rfl | (simp only [List.length_drop, List.length_take]; rfl)) ?_; (with_reducible refine (tag_Core.calls a0 true _ A2.out).mono ?_); rintro e w' ⟨rfl, ⟨nd, rfl⟩⟩; refine ⟨_, rfl, ?_⟩))
    go_ret
    exact ⟨by first | rfl | (simp [errW_none, errW_some] <;> rfl) | (simp [*, errW_none, errW_some] <;> rfl), by repeat (first | (with_reducible first | exact HB.out | apply below_alloc | apply pw_below_drewN | apply below_drew1) | exact HB.out)⟩
  · replace c3 := Bool.eq_false_iff.mpr c3
    subst c3
    have H1 : ((tag_own.f a0).bind fun t106 => (some t106)) = some r := by rw [if_neg (show ¬ (false = true) by decide)] at H; exact H
    clear H
    have H := H1
    clear H1
    replace H := Option.bind_eq_some_iff.mp H
    obtain ⟨t106, A40, H⟩ := H
    replace H : (some t106) = some r := H
    have A4 := Aside0.mk A40
    clear A40
    obtain rfl := Option.some.inj H
    go_enter Tryd.func45, Tryd.ntmps45
    go_wp2_with (first | ((with_reducible refine gate_callee (f := 46) rfl ?_); refine goesL_ (some 4) rfl rfl Tryd.func46 (by kernel_rfl) rfl #[.string a0] rfl (by (try simp only [List.map_toArray, List.map_cons, List.map_nil]); first | done | rfl | (simp only [List.length_drop, List.length_take]; rfl)) ?_; (with_reducible refine (tag_Core.calls a0 false _ A2.out).mono ?_); rintro e w' ⟨rfl, ⟨nd, rfl⟩⟩; refine ⟨_, rfl, ?_⟩) | (go_at_call 51; (with_reducible refine (tag_own.calls a0 t106 _ A4.out).mono ?_); rintro e w5 ⟨rfl, hb⟩; have n0_ := Aside0.mk (below_step (by repeat (first | (with_reducible first | exact HB.out | apply below_alloc | apply pw_below_drewN | apply below_drew1) | exact HB.out)) hb); clear HB; have HB := n0_; clear n0_; (try clear hb); (try clear hb2); (try clear hk); (try clear hi)))
    go_ret
    exact ⟨by first | rfl | (simp [errW_none, errW_some] <;> rfl) | (simp [*, errW_none, errW_some] <;> rfl), by repeat (first | (with_reducible first | exact HB.out | apply below_alloc | apply pw_below_drewN | apply below_drew1) | exact HB.out)⟩
end Go.Proofs.YtgnmjaacnmkgnaaDoor.T
end
section
namespace Go.Proofs.YtgnmjaacnmkgnaaDoor.T
open Go.RowKit Go.Proofs.YtgnmjaacnmkgnaaDoorW.PrintWords Go.Proofs.YtgnmjaacnmkgnaaDoorW.PrintLast Go.Proofs.YtgnmjaacnmkgnaaDoorW.PrintMore
attribute [local go_sem] max2_int min2_int max_two min_two
set_option linter.unusedVariables false
set_option linter.unusedSimpArgs false
def lex_Name.g (t : ByteArray) : Bool := !(t.toList == ([] : List UInt8)) && decide (t.size ≤ 40) && t.data.toList.all Nam.nameByte
def lex_Name.f (a0 : ByteArray) : Option (Bool) := some (lex_Name.g a0)
set_option maxHeartbeats 2000000 in
theorem lex_Name.calls (a0 : ByteArray) (r : Bool) (w : World) (h : lex_Name.f a0 = some r) :
    Calls Tryd.prog 65 #[.string a0] w fun e w' => e = .returned (.bool r) ∧ Below w.heap.size w w' := by
  unfold lex_Name.f at h
  obtain rfl := Option.some.inj h
  clear h
  by_cases c1 : a0.toList = ([] : List UInt8)
  · have c1b0 : (a0.toList == ([] : List UInt8)) = true := beq_iff_eq.mpr c1
    have c1b1 : (a0.toList != ([] : List UInt8)) = false := bne_eq_false_iff_eq.mpr c1
    have hg : Aside0 (lex_Name.g a0 = false) := ⟨by unfold lex_Name.g; rw [c1b0]; rfl⟩
    clear c1
    go_enter Tryd.func65, Tryd.ntmps65
    go_wp2
    go_ret
    exact ⟨by rw [hg.out]; rfl, pw_below_drewN (Below.refl _ _) 0⟩
  · have c1b0 : (a0.toList == ([] : List UInt8)) = false := beq_eq_false_iff_ne.mpr c1
    have c1b1 : (a0.toList != ([] : List UInt8)) = true := bne_iff_ne.mpr c1
    by_cases c2 : a0.size ≤ 40
    · have c2b0 : decide ((a0.size : Int) ≤ 40) = true := decide_eq_true (by omega)
      have c2b1 : decide (a0.size ≤ 40) = true := decide_eq_true c2
      have hg : Aside0 (lex_Name.g a0 = !decide (0 ≤ Lib.idxFunc (fun r => !Nam.namedN r) true a0)) := ⟨by unfold lex_Name.g; rw [c1b0, c2b1, Nam.contains_eq]; simp⟩
      clear c1 c2
      generalize hI : decide (0 ≤ Lib.idxFunc (fun r => !Nam.namedN r) true a0) = I at hg
      have hI2 := Aside0.mk hI
      clear hI
      go_enter Tryd.func65, Tryd.ntmps65
      go_wp2_with (go_at_call 84; (with_reducible refine (Nam.contains_calls a0 _).mono ?_); rintro e w' ⟨rfl, hb⟩)
      go_ret
      exact ⟨by rw [hg.out, hI2.out]; rfl, hb⟩
    · have c2b0 : decide ((a0.size : Int) ≤ 40) = false := decide_eq_false (by omega)
      have c2b1 : decide (a0.size ≤ 40) = false := decide_eq_false c2
      have hg : Aside0 (lex_Name.g a0 = false) := ⟨by unfold lex_Name.g; rw [c1b0, c2b1]; rfl⟩
      clear c1 c2
      go_enter Tryd.func65, Tryd.ntmps65
      go_wp2
      go_ret
      exact ⟨by rw [hg.out]; rfl, pw_below_drewN (Below.refl _ _) 0⟩
end Go.Proofs.YtgnmjaacnmkgnaaDoor.T
end
section
namespace Go.Proofs.YtgnmjaacnmkgnaaDoor.T
open Go.RowKit Go.Proofs.YtgnmjaacnmkgnaaDoorW.PrintWords Go.Proofs.YtgnmjaacnmkgnaaDoorW.PrintLast Go.Proofs.YtgnmjaacnmkgnaaDoorW.PrintMore
attribute [local go_sem] max2_int min2_int max_two min_two
set_option linter.unusedVariables false
set_option linter.unusedSimpArgs false
def compose_named.j0 : Nat → ByteArray → ByteArray → Bool → Option (ByteArray × Int)
  | 0, _, _, _ => none
  | k + 1, x0, x1, x6 => if x6 = true then (some (x1, 0)) else ((tag_Right.f x0).bind fun t107 => (if t107 = true then ((tag_Core.f x0).bind fun t108 => (if t108 = true then (some ((⟨#[]⟩ : ByteArray), 14)) else (some (x0, 0)))) else (some ((⟨#[]⟩ : ByteArray), 14))))
def compose_named.f (k : Nat) (a0 : ByteArray) (a1 : ByteArray) : Option (ByteArray × Int) := if a0.toList = ([] : List UInt8) then (compose_named.j0 k a0 a1 true) else (compose_named.j0 k a0 a1 (a0.toList == a1.toList))
set_option maxHeartbeats 8000000 in
set_option maxRecDepth 100000 in
theorem compose_named.calls (k : Nat) (a0 : ByteArray) (a1 : ByteArray) (r1 : ByteArray) (r2 : Int) (w : World) (h : compose_named.f k a0 a1 = some (r1, r2)) :
    Calls Tryd.prog 23 #[.string a0, .string a1] w fun e w' => e = .returned (.tuple #[.string r1, .int .i64 r2]) ∧ Below w.heap.size w w' := by
  have HB := Aside0.mk (Below.refl w.heap.size w)
  have H : (if a0.toList = ([] : List UInt8) then (compose_named.j0 k a0 a1 true) else (compose_named.j0 k a0 a1 (a0.toList == a1.toList))) = some (r1, r2) := h
  clear h
  have HC3 := Aside0.mk H
  clear H
  go_enter Tryd.func23, Tryd.ntmps23
  go_upto_region 1 with (fail)
  go_cut [6] (fun v6 wc => ∃ (kq : Nat) (x6_2 : Bool), v6 = .bool x6_2 ∧ Aside0 (compose_named.j0 kq a0 a1 x6_2 = some (r1, r2)) ∧ Aside0 (kq ≤ k) ∧ Aside0 (Below w.heap.size w wc))
  case first =>
    have H := HC3.out
    clear HC3
    by_cases c4 : a0.toList = ([] : List UInt8)
    · rw [if_pos c4] at H
      have c4b0 : (a0.toList == ([] : List UInt8)) = true := beq_iff_eq.mpr c4
      have c4b1 : (a0.toList != ([] : List UInt8)) = false := bne_eq_false_iff_eq.mpr c4
      clear c4
      (first | rw [c4b0] | (simp only [i64_w, i32_w]; rw [c4b0]) | skip)
      have H' := Aside0.mk H
      clear H
      go_wp2
      go_meet
      case rel => exact ⟨_, (true), (by first | rfl | (simp; done) | (simp [*]; done) | (simp [xbne_nil, xbeq_nil]; done)), H', ⟨by first | omega | exact Nat.le_refl _⟩, ⟨by repeat (first | (with_reducible first | exact HB.out | apply below_alloc | apply pw_below_drewN | apply below_drew1) | exact HB.out)⟩⟩
    · rw [if_neg c4] at H
      have c4b0 : (a0.toList == ([] : List UInt8)) = false := beq_eq_false_iff_ne.mpr c4
      have c4b1 : (a0.toList != ([] : List UInt8)) = true := bne_iff_ne.mpr c4
      (first | rw [c4b0] | (simp only [i64_w, i32_w]; rw [c4b0]) | skip)
      have H' := Aside0.mk H
      clear H
      go_wp2
      go_meet
      case rel => exact ⟨_, ((a0.toList == a1.toList)), (by first | rfl | (simp; done) | (simp [*]; done) | (simp [xbne_nil, xbeq_nil]; done)), H', ⟨by first | omega | exact Nat.le_refl _⟩, ⟨by repeat (first | (with_reducible first | exact HB.out | apply below_alloc | apply pw_below_drewN | apply below_drew1) | exact HB.out)⟩⟩
  case rest =>
    clear HC3
    try clear c2
    try clear p2
    try clear c4
    try clear c4b0
    try clear c4b1
    obtain ⟨kq, x6_2, rfl, HA, HJ2, HB⟩ := hcut
    cases kq with
    | zero => exact absurd HA.out (by simp [compose_named.j0])
    | succ kj2 =>
      have H := HA.out
      clear HA
      simp only [compose_named.j0] at H
      by_cases c5 : x6_2 = true
      · subst c5
        have H1 : (some (a1, 0)) = some (r1, r2) := by rw [if_pos rfl] at H; exact H
        clear H
        have H := H1
        clear H1
        simp only [Option.some.injEq, Prod.mk.injEq] at H
        obtain ⟨rfl, rfl⟩ := H
        go_wp2
        go_ret2
        exact ⟨by first | rfl | (simp [errW_none, errW_some] <;> rfl) | (simp [*, errW_none, errW_some] <;> rfl), by repeat (first | (with_reducible first | exact HB.out | apply below_alloc | apply pw_below_drewN | apply below_drew1) | exact HB.out)⟩
      · replace c5 := Bool.eq_false_iff.mpr c5
        subst c5
        have H1 : ((tag_Right.f a0).bind fun t107 => (if t107 = true then ((tag_Core.f a0).bind fun t108 => (if t108 = true then (some ((⟨#[]⟩ : ByteArray), 14)) else (some (a0, 0)))) else (some ((⟨#[]⟩ : ByteArray), 14)))) = some (r1, r2) := by rw [if_neg (show ¬ (false = true) by decide)] at H; exact H
        clear H
        have H := H1
        clear H1
        replace H := Option.bind_eq_some_iff.mp H
        obtain ⟨t107, A60, H⟩ := H
        replace H : (if t107 = true then ((tag_Core.f a0).bind fun t108 => (if t108 = true then (some ((⟨#[]⟩ : ByteArray), 14)) else (some (a0, 0)))) else (some ((⟨#[]⟩ : ByteArray), 14))) = some (r1, r2) := H
        have A6 := Aside0.mk A60
        clear A60
        by_cases c7 : t107 = true
        · subst c7
          have H1 : ((tag_Core.f a0).bind fun t108 => (if t108 = true then (some ((⟨#[]⟩ : ByteArray), 14)) else (some (a0, 0)))) = some (r1, r2) := by rw [if_pos rfl] at H; exact H
          clear H
          have H := H1
          clear H1
          replace H := Option.bind_eq_some_iff.mp H
          obtain ⟨t108, A80, H⟩ := H
          replace H : (if t108 = true then (some ((⟨#[]⟩ : ByteArray), 14)) else (some (a0, 0))) = some (r1, r2) := H
          have A8 := Aside0.mk A80
          clear A80
          by_cases c9 : t108 = true
          · subst c9
            have H1 : (some ((⟨#[]⟩ : ByteArray), 14)) = some (r1, r2) := by rw [if_pos rfl] at H; exact H
            clear H
            have H := H1
            clear H1
            simp only [Option.some.injEq, Prod.mk.injEq] at H
            obtain ⟨rfl, rfl⟩ := H
            go_wp2_with (first | ((with_reducible refine gate_callee (f := 45) rfl ?_); refine goesL_ (some 17) rfl rfl Tryd.func45 (by kernel_rfl) rfl #[.string a0] rfl (by (try simp only [List.map_toArray, List.map_cons, List.map_nil]); first | done | rfl | (simp only [List.length_drop, List.length_take]; rfl)) ?_; (with_reducible refine (tag_Right.calls a0 true _ A6.out).mono ?_); rintro e w10 ⟨rfl, hb⟩; refine ⟨_, rfl, ?_⟩; have n0_ := Aside0.mk (below_step (by repeat (first | (with_reducible first | exact HB.out | apply below_alloc | apply pw_below_drewN | apply below_drew1) | exact HB.out)) hb); clear HB; have HB := n0_; clear n0_; (try clear hb); (try clear hb2); (try clear hk); (try clear hi)) | (go_at_call 46; (with_reducible refine (tag_Core.calls a0 true _ A8.out).mono ?_); rintro e w' ⟨rfl, ⟨nd, rfl⟩⟩))
            go_ret2
            exact ⟨by first | rfl | (simp [errW_none, errW_some] <;> rfl) | (simp [*, errW_none, errW_some] <;> rfl), by repeat (first | (with_reducible first | exact HB.out | apply below_alloc | apply pw_below_drewN | apply below_drew1) | exact HB.out)⟩
          · replace c9 := Bool.eq_false_iff.mpr c9
            subst c9
            have H1 : (some (a0, 0)) = some (r1, r2) := by rw [if_neg (show ¬ (false = true) by decide)] at H; exact H
            clear H
            have H := H1
            clear H1
            simp only [Option.some.injEq, Prod.mk.injEq] at H
            obtain ⟨rfl, rfl⟩ := H
            go_wp2_with (first | ((with_reducible refine gate_callee (f := 45) rfl ?_); refine goesL_ (some 17) rfl rfl Tryd.func45 (by kernel_rfl) rfl #[.string a0] rfl (by (try simp only [List.map_toArray, List.map_cons, List.map_nil]); first | done | rfl | (simp only [List.length_drop, List.length_take]; rfl)) ?_; (with_reducible refine (tag_Right.calls a0 true _ A6.out).mono ?_); rintro e w11 ⟨rfl, hb⟩; refine ⟨_, rfl, ?_⟩; have n0_ := Aside0.mk (below_step (by repeat (first | (with_reducible first | exact HB.out | apply below_alloc | apply pw_below_drewN | apply below_drew1) | exact HB.out)) hb); clear HB; have HB := n0_; clear n0_; (try clear hb); (try clear hb2); (try clear hk); (try clear hi)) | (go_at_call 46; (with_reducible refine (tag_Core.calls a0 false _ A8.out).mono ?_); rintro e w' ⟨rfl, ⟨nd, rfl⟩⟩))
            go_ret2
            exact ⟨by first | rfl | (simp [errW_none, errW_some] <;> rfl) | (simp [*, errW_none, errW_some] <;> rfl), by repeat (first | (with_reducible first | exact HB.out | apply below_alloc | apply pw_below_drewN | apply below_drew1) | exact HB.out)⟩
        · replace c7 := Bool.eq_false_iff.mpr c7
          subst c7
          have H1 : (some ((⟨#[]⟩ : ByteArray), 14)) = some (r1, r2) := by rw [if_neg (show ¬ (false = true) by decide)] at H; exact H
          clear H
          have H := H1
          clear H1
          simp only [Option.some.injEq, Prod.mk.injEq] at H
          obtain ⟨rfl, rfl⟩ := H
          go_wp2_with (first | ((with_reducible refine gate_callee (f := 45) rfl ?_); refine goesL_ (some 17) rfl rfl Tryd.func45 (by kernel_rfl) rfl #[.string a0] rfl (by (try simp only [List.map_toArray, List.map_cons, List.map_nil]); first | done | rfl | (simp only [List.length_drop, List.length_take]; rfl)) ?_; (with_reducible refine (tag_Right.calls a0 false _ A6.out).mono ?_); rintro e w12 ⟨rfl, hb⟩; refine ⟨_, rfl, ?_⟩; have n0_ := Aside0.mk (below_step (by repeat (first | (with_reducible first | exact HB.out | apply below_alloc | apply pw_below_drewN | apply below_drew1) | exact HB.out)) hb); clear HB; have HB := n0_; clear n0_; (try clear hb); (try clear hb2); (try clear hk); (try clear hi)))
          go_ret2
          exact ⟨by first | rfl | (simp [errW_none, errW_some] <;> rfl) | (simp [*, errW_none, errW_some] <;> rfl), by repeat (first | (with_reducible first | exact HB.out | apply below_alloc | apply pw_below_drewN | apply below_drew1) | exact HB.out)⟩
def tag_sign.f (a0 : ByteArray) : Option (ByteArray) := if a0.toList = ([] : List UInt8) then (some a0) else (if 0 < (a0.size : Int) then (if (bt a0 0) = 43 then (if 1 ≤ (a0.size : Int) then (some (a0.extract 1 a0.size)) else (none)) else (if (bt a0 0) = 45 then (if 1 ≤ (a0.size : Int) then (some (a0.extract 1 a0.size)) else (none)) else (some a0))) else (none))
set_option maxHeartbeats 8000000 in
set_option maxRecDepth 100000 in
theorem tag_sign.calls (a0 : ByteArray) (r : ByteArray) (w : World) (h : tag_sign.f a0 = some r) :
    Calls Tryd.prog 47 #[.string a0] w fun e w' => e = .returned (.string r) ∧ Drawn0 w w' := by
  have H : (if a0.toList = ([] : List UInt8) then (some a0) else (if 0 < (a0.size : Int) then (if (bt a0 0) = 43 then (if 1 ≤ (a0.size : Int) then (some (a0.extract 1 a0.size)) else (none)) else (if (bt a0 0) = 45 then (if 1 ≤ (a0.size : Int) then (some (a0.extract 1 a0.size)) else (none)) else (some a0))) else (none))) = some r := h
  clear h
  by_cases c2 : a0.toList = ([] : List UInt8)
  · rw [if_pos c2] at H
    have c2b0 : (a0.toList == ([] : List UInt8)) = true := beq_iff_eq.mpr c2
    have c2b1 : (a0.toList != ([] : List UInt8)) = false := bne_eq_false_iff_eq.mpr c2
    clear c2
    obtain rfl := Option.some.inj H
    go_enter Tryd.func47, Tryd.ntmps47
    go_wp2
    go_ret
    exact ⟨by first | rfl | (simp; done) | (simp [*]; done) | (simp [xbne_nil, xbeq_nil]; done), by repeat (first | exact Drawn0.refl _ | apply Drawn0.step)⟩
  · rw [if_neg c2] at H
    have c2b0 : (a0.toList == ([] : List UInt8)) = false := beq_eq_false_iff_ne.mpr c2
    have c2b1 : (a0.toList != ([] : List UInt8)) = true := bne_iff_ne.mpr c2
    by_cases c3 : 0 < (a0.size : Int)
    · rw [if_pos c3] at H
      have c3b0 : decide (0 < (a0.size : Int)) = true := decide_eq_true c3
      have c3b1 : decide (0 < a0.size) = true := decide_eq_true (by omega)
      clear c3
      by_cases c5 : (bt a0 0) = 43
      · rw [if_pos c5] at H
        have c5b0 : ((bt a0 0) == 43) = true := beq_iff_eq.mpr c5
        have c5b1 : ((bt a0 0) != 43) = false := bne_eq_false_iff_eq.mpr c5
        clear c5
        by_cases c6 : 1 ≤ (a0.size : Int)
        · rw [if_pos c6] at H
          have c6b0 := eq_true c6
          have c6b1 : decide (1 ≤ (a0.size : Int)) = true := decide_eq_true c6
          clear c6
          obtain rfl := Option.some.inj H
          have p4 : 0 ≤ (0 : Int) := (by omega)
          have q4 : 0 < a0.size := (by have : (0 : Int) < (a0.size : Int) := of_decide_eq_true (by first | (with_reducible assumption) | assumption); omega)
          have hx4 : ∀ h : 0 < a0.size, ((a0[0]'h).toNat : Int) = bt a0 0 := bt_at a0 0
          clear p4
          have qi4 : (0 < (a0.size : Int)) = True := eq_true (of_decide_eq_true (by first | (with_reducible assumption) | assumption))
          replace q4 := eq_true q4
          go_enter Tryd.func47, Tryd.ntmps47
          go_wp2
          go_ret
          exact ⟨by first | rfl | (simp; done) | (simp [*]; done) | (simp [xbne_nil, xbeq_nil]; done), by repeat (first | exact Drawn0.refl _ | apply Drawn0.step)⟩
        · rw [if_neg c6] at H
          exact absurd H (by simp)
      · rw [if_neg c5] at H
        have c5b0 : ((bt a0 0) == 43) = false := beq_eq_false_iff_ne.mpr c5
        have c5b1 : ((bt a0 0) != 43) = true := bne_iff_ne.mpr c5
        by_cases c8 : (bt a0 0) = 45
        · rw [if_pos c8] at H
          have c8b0 : ((bt a0 0) == 45) = true := beq_iff_eq.mpr c8
          have c8b1 : ((bt a0 0) != 45) = false := bne_eq_false_iff_eq.mpr c8
          clear c8
          by_cases c9 : 1 ≤ (a0.size : Int)
          · rw [if_pos c9] at H
            have c9b0 := eq_true c9
            have c9b1 : decide (1 ≤ (a0.size : Int)) = true := decide_eq_true c9
            clear c9
            obtain rfl := Option.some.inj H
            have p4 : 0 ≤ (0 : Int) := (by omega)
            have q4 : 0 < a0.size := (by have : (0 : Int) < (a0.size : Int) := of_decide_eq_true (by first | (with_reducible assumption) | assumption); omega)
            have hx4 : ∀ h : 0 < a0.size, ((a0[0]'h).toNat : Int) = bt a0 0 := bt_at a0 0
            clear p4
            have qi4 : (0 < (a0.size : Int)) = True := eq_true (of_decide_eq_true (by first | (with_reducible assumption) | assumption))
            replace q4 := eq_true q4
            have p7 : 0 ≤ (0 : Int) := (by omega)
            have q7 : 0 < a0.size := (by have : (0 : Int) < (a0.size : Int) := of_decide_eq_true (by first | (with_reducible assumption) | assumption); omega)
            have hx7 : ∀ h : 0 < a0.size, ((a0[0]'h).toNat : Int) = bt a0 0 := bt_at a0 0
            clear p7
            have qi7 : (0 < (a0.size : Int)) = True := eq_true (of_decide_eq_true (by first | (with_reducible assumption) | assumption))
            replace q7 := eq_true q7
            go_enter Tryd.func47, Tryd.ntmps47
            go_wp2
            go_ret
            exact ⟨by first | rfl | (simp; done) | (simp [*]; done) | (simp [xbne_nil, xbeq_nil]; done), by repeat (first | exact Drawn0.refl _ | apply Drawn0.step)⟩
          · rw [if_neg c9] at H
            exact absurd H (by simp)
        · rw [if_neg c8] at H
          have c8b0 : ((bt a0 0) == 45) = false := beq_eq_false_iff_ne.mpr c8
          have c8b1 : ((bt a0 0) != 45) = true := bne_iff_ne.mpr c8
          obtain rfl := Option.some.inj H
          have p4 : 0 ≤ (0 : Int) := (by omega)
          have q4 : 0 < a0.size := (by have : (0 : Int) < (a0.size : Int) := of_decide_eq_true (by first | (with_reducible assumption) | assumption); omega)
          have hx4 : ∀ h : 0 < a0.size, ((a0[0]'h).toNat : Int) = bt a0 0 := bt_at a0 0
          clear p4
          have qi4 : (0 < (a0.size : Int)) = True := eq_true (of_decide_eq_true (by first | (with_reducible assumption) | assumption))
          replace q4 := eq_true q4
          have p7 : 0 ≤ (0 : Int) := (by omega)
          have q7 : 0 < a0.size := (by have : (0 : Int) < (a0.size : Int) := of_decide_eq_true (by first | (with_reducible assumption) | assumption); omega)
          have hx7 : ∀ h : 0 < a0.size, ((a0[0]'h).toNat : Int) = bt a0 0 := bt_at a0 0
          clear p7
          have qi7 : (0 < (a0.size : Int)) = True := eq_true (of_decide_eq_true (by first | (with_reducible assumption) | assumption))
          replace q7 := eq_true q7
          go_enter Tryd.func47, Tryd.ntmps47
          go_wp2
          go_ret
          exact ⟨by first | rfl | (simp; done) | (simp [*]; done) | (simp [xbne_nil, xbeq_nil]; done), by repeat (first | exact Drawn0.refl _ | apply Drawn0.step)⟩
    · rw [if_neg c3] at H
      exact absurd H (by simp)
end Go.Proofs.YtgnmjaacnmkgnaaDoor.T
end
