/- Words and walks that the row of LatticeNamesUpto needs: printed by programs, and plain laws. -/
import Derived.Test.YthgafcaoibfchaaDoorM3
import Derived.Test.YthgafcaoibfchaaDoorM4
import Derived.RangeFuncNested
import Derived.RangeFuncBound
import Derived.RangeFuncCalls
import Derived.RangeFuncLeaves
import Derived.Shelf.Abstract
import Derived.Shelf.RegionOpen
import Derived.WalkKit
import Derived.OwnWalkIn
import Derived.TacticsInMore
import Derived.LoopNIn
import Derived.LoopIn
import Derived.Test.YthgafcaoibfchaaDoorM2
import Derived.Test.YthgafcaoibfchaaDoorProg
import Derived.Below
import Derived.Deep.Draws
import Derived.Deep.AppendLies
import Derived.Maps.AppendAt
import Derived.OwnWalk
import Derived.Laws.BytesArg
import Derived.Laws.MakeOwn
import Derived.Laws.OwnMore
import Derived.Deep.OwnRows
import Derived.Tactics
import Derived.Lib.ConvBytes
import Derived.Laws.Slices
import Derived.KernelRfl
import Derived.RowKit3
import Derived.Deep.LoopGhost
import Derived.Deep.QuietTactic
import Derived.BigQuiet
import Derived.WideLaws
import Derived.Deep.DeepCutAuto
import Derived.Deep.CutBlock
import Derived.Deep.RegionHeld3
import Derived.Laws.Rows
import Derived.Lib.AppendStr
import Derived.ArgAppend
import Derived.Laws.IdiomCopy
import Derived.OrdersHeld
import Derived.Laws.BitsLemmas
import Derived.RowKit
import Derived.Test.YthgafcaoibfchaaDoorM0
import Derived.Laws.StructEq
import Derived.Laws.ResultCell
import Derived.Laws.Cover3
section
namespace Go.Proofs.YthgafcaoibfchaaDoor.X
open Go.RowKit Go.Proofs.YthgafcaoibfchaaDoorW.PrintWords Go.Proofs.YthgafcaoibfchaaDoorW.PrintLast Go.Proofs.YthgafcaoibfchaaDoorW.PrintMore
attribute [local go_sem] max2_int min2_int max_two min_two max_three min_three max_four min_four
set_option linter.unusedVariables false
set_option linter.unusedSimpArgs false
theorem lp_info9 : (Tryd.prog.info? 9).map (fun i => (i.zero, i.size, i.bytes)) = some (some (.string ⟨#[]⟩), 1, 16) := by kernel_rfl
theorem lattice_Print.isnilIn {P : Program} (w : World) (d : Nat) (t e : TypeId) (a : Option Addr) (l c : Nat) (h : P.underlying t = some (.slice e)) : (Go.Op.equalIn (d + 1) t (.slice a l c) (.slice none 0 0)).run P w = .ok a.isNone w := by
  cases a <;> simp [Go.Op.equalIn, Go.run_underlying h]
theorem lattice_Print.isnil {P : Program} (w : World) (t e : TypeId) (a : Option Addr) (l c : Nat) (h : P.underlying t = some (.slice e)) : (Go.binOp .eql t (.slice a l c) (.slice none 0 0)).run P w = .ok (.bool a.isNone) w := by
  have e1 : (Go.Op.equal t (.slice a l c) (.slice none 0 0)).run P w = .ok a.isNone w := lattice_Print.isnilIn w 9999 t e a l c h
  simp only [Go.binOp]
  simp [e1]
attribute [local go_sem] lattice_Print.isnil
mutual
def lattice_Print.j0 : Nat → Bool → List ByteArray → List ByteArray → Int → Int → Option (ByteArray)
  | 0, _, _, _, _, _ => none
  | k + 1, x21, x120000, x120001, x121000, x121001 => if x21 = true then (some (⟨#[]⟩ : ByteArray)) else (lattice_Print.l0 k ([] : List ByteArray) x120001 (x120001.length : Int) 0 x120000 x120001 x121000 x121001)
def lattice_Print.l0 : Nat → List ByteArray → List ByteArray → Int → Int → List ByteArray → List ByteArray → Int → Int → Option (ByteArray)
  | 0, _, _, _, _, _, _, _, _ => none
  | k + 1, x5, x23, x24, x25, x120000, x120001, x121000, x121001 => if x25 < x24 then (if 0 ≤ x25 then (if x25 < (x23.length : Int) then (if (Go.bits .and .u64 (shr .u64 x121001 x25) 1) = 1 then (if x5.length < 8796093022208 then (lattice_Print.l0 k (x5 ++ [rdOf ByteArray.empty x23 x25]) x23 x24 (wrap64 (x25 + 1)) x120000 x120001 x121000 x121001) else (none)) else (lattice_Print.l0 k x5 x23 x24 (wrap64 (x25 + 1)) x120000 x120001 x121000 x121001)) else (none)) else (none)) else (if x5 = [] then (if 0 ≤ x121000 then (if x121000 < (x120000.length : Int) then (some (rdOf ByteArray.empty x120000 x121000)) else (none)) else (none)) else (if 0 ≤ x121000 then (if x121000 < (x120000.length : Int) then (if (rdOf ByteArray.empty x120000 x121000).size + 1 ≤ 9223372036854775807 then ((strings_Join.f x5 (⟨#[44]⟩ : ByteArray)).bind fun t129 => (if ((rdOf ByteArray.empty x120000 x121000) ++ (⟨#[58]⟩ : ByteArray)).size + t129.size ≤ 9223372036854775807 then (some (((rdOf ByteArray.empty x120000 x121000) ++ (⟨#[58]⟩ : ByteArray)) ++ t129)) else (none))) else (none)) else (none)) else (none)))
end
def lattice_Print.f (k : Nat) (l0_0 : List ByteArray) (l0_1 : List ByteArray) (a1_0 : Int) (a1_1 : Int) : Option (ByteArray) := (lattice_May.f l0_0 l0_1).bind fun t121 => (if t121 = true then ((lattice_Right.f a1_0 a1_1 (l0_0.length : Int) (l0_1.length : Int)).bind fun t122 => (lattice_Print.j0 k (!t122) l0_0 l0_1 a1_0 a1_1)) else (lattice_Print.j0 k true l0_0 l0_1 a1_0 a1_1))
def lattice_Print.T12 : Bool × List (List Nat × List Nat) := (true, [([], []), ([0], [0]), ([], []), ([2], [2]), ([1, 3], [1, 3]), ([4], [4]), ([5], [5]), ([], []), ([7], [7]), ([6, 8], [6, 8]), ([9, 8, 0, 1, 2, 3, 4, 5, 6, 7, 8, 9], [9])])
def lattice_Print.B12 : List Nat := [0, 1, 0, 4, 15, 31, 63, 0, 128, 511, 1023]
theorem lattice_Print.tab12 : rtab .any (opsOf Tryd.f33 12) = lattice_Print.T12 := by kernel_rfl
theorem lattice_Print.bits12 : waitsOk lattice_Print.T12.2 lattice_Print.B12 = true := by kernel_rfl
set_option maxHeartbeats 8000000 in
set_option maxRecDepth 100000 in
theorem lattice_Print.calls (k : Nat) (A0_0 : Option Addr) (c0_0 : Nat) (l0_0 : List ByteArray) (A0_1 : Option Addr) (c0_1 : Nat) (l0_1 : List ByteArray) (a1_0 : Int) (a1_1 : Int) (r : ByteArray) (w : World) (hr0_0 : Kd.C Kd.string w A0_0 l0_0.length l0_0) (hc0_0 : l0_0.length ≤ c0_0) (hr0_1 : Kd.C Kd.string w A0_1 l0_1.length l0_1) (hc0_1 : l0_1.length ≤ c0_1) (h : lattice_Print.f k l0_0 l0_1 a1_0 a1_1 = some r) :
    Calls Tryd.prog 33 #[.agg #[.slice A0_0 l0_0.length c0_0, .slice A0_1 l0_1.length c0_1], .agg #[.int .i64 a1_0, .int .u64 a1_1]] w fun e w' => e = .returned (.string r) ∧ Below w.heap.size w w' := by
  have hu47 := Tryd.underlying47
  have hu30 := Tryd.underlying30
  have HR0_0 := Aside0.mk hr0_0
  have HC0_0 := Aside0.mk hc0_0
  clear hr0_0 hc0_0
  have HR0_1 := Aside0.mk hr0_1
  have HC0_1 := Aside0.mk hc0_1
  clear hr0_1 hc0_1
  have HB := Aside0.mk (Below.refl w.heap.size w)
  have H : ((lattice_May.f l0_0 l0_1).bind fun t121 => (if t121 = true then ((lattice_Right.f a1_0 a1_1 (l0_0.length : Int) (l0_1.length : Int)).bind fun t122 => (lattice_Print.j0 k (!t122) l0_0 l0_1 a1_0 a1_1)) else (lattice_Print.j0 k true l0_0 l0_1 a1_0 a1_1))) = some r := h
  clear h
  have HC3 := Aside0.mk H
  clear H
  go_enter Tryd.func33, Tryd.ntmps33
  go_upto_region 1 with (first | ((with_reducible refine gate_dst (N := 2) rfl ?_); (try (refine gate_guard (by rfl) ?_; dsimp only)); refine box_event ?hg (N := 2) ?hd (cs := #[.slice A0_0 l0_0.length c0_0, .slice A0_1 l0_1.length c0_1]) (t := 47) ?hr ?_; (case hd => rfl); (case hg => rfl); (case hr => first | (go_simp; done) | (go_simp; rfl)); intro gb119 hg w4 hbox hb; have n0_ := Aside0.mk (below_step (by repeat (first | (with_reducible first | exact HB.out | apply below_alloc | apply pw_below_drewN | apply below_drew1) | exact HB.out)) hb); have n1_ := Aside0.mk (hbox); have n2_ := Aside0.mk ((by rw [hg]; exact (below_size (by repeat (first | (with_reducible first | exact HB.out | apply below_alloc | apply pw_below_drewN | apply below_drew1) | exact HB.out))) : w.heap.size ≤ gb119)); have n3_ := Aside0.mk ((by rw [hg]; exact (below_size (by repeat (first | (with_reducible first | exact HB.out | apply below_alloc | apply pw_below_drewN | apply below_drew1) | exact HB.out))) : w.heap.size ≤ gb119)); clear HB; have HB := n0_; have BK119 := n1_; have GW119 := n2_; have GE119 := n3_; clear n0_ n1_ n2_ n3_; clear hb hbox hg) | ((with_reducible refine gate_dst (N := 3) rfl ?_); (try (refine gate_guard (by rfl) ?_; dsimp only)); refine box_event ?hg (N := 3) ?hd (cs := #[.int .i64 a1_0, .int .u64 a1_1]) (t := 30) ?hr ?_; (case hd => rfl); (case hg => rfl); (case hr => first | (go_simp; done) | (go_simp; rfl)); intro gb120 hg w5 hbox hb; have n0_ := Aside0.mk (blk_below (g := gb119) (o := .cells #[.slice A0_0 l0_0.length c0_0, .slice A0_1 l0_1.length c0_1] 47 (0, 0)) (by (with_reducible repeat (first | refine blk_drewN ?_ _ | refine blk_drew ?_ | refine blk_alloc ?_ _)); exact BK119.out) hb); have n1_ := Aside0.mk (below_step (by repeat (first | (with_reducible first | exact HB.out | apply below_alloc | apply pw_below_drewN | apply below_drew1 | refine below_set ?_ GE119.out) | exact HB.out)) hb); have n2_ := Aside0.mk (hbox); have n3_ := Aside0.mk ((by rw [hg]; exact (below_size (by repeat (first | (with_reducible first | exact HB.out | apply below_alloc | apply pw_below_drewN | apply below_drew1 | refine below_set ?_ GE119.out) | exact HB.out))) : w.heap.size ≤ gb120)); have n4_ := Aside0.mk ((by rw [hg]; exact (below_size (by repeat (first | (with_reducible first | exact HB.out | apply below_alloc | apply pw_below_drewN | apply below_drew1 | refine below_set ?_ GE119.out) | exact HB.out))) : w.heap.size ≤ gb120)); have n5_ := Aside0.mk ((by rw [hg]; exact Nat.ne_of_lt (blk_lt (g := gb119) (o := .cells #[.slice A0_0 l0_0.length c0_0, .slice A0_1 l0_1.length c0_1] 47 (0, 0)) (by (with_reducible repeat (first | refine blk_drewN ?_ _ | refine blk_drew ?_ | refine blk_alloc ?_ _)); exact BK119.out)) : gb119 ≠ gb120)); have n6_ := Aside0.mk ((by rw [hg]; exact Nat.ne_of_gt (blk_lt (g := gb119) (o := .cells #[.slice A0_0 l0_0.length c0_0, .slice A0_1 l0_1.length c0_1] 47 (0, 0)) (by (with_reducible repeat (first | refine blk_drewN ?_ _ | refine blk_drew ?_ | refine blk_alloc ?_ _)); exact BK119.out)) : gb120 ≠ gb119)); clear BK119; clear HB; have BK119 := n0_; have HB := n1_; have BK120 := n2_; have GW120 := n3_; have GE120 := n4_; have NB119_120 := n5_; have NB120_119 := n6_; clear n0_ n1_ n2_ n3_ n4_ n5_ n6_; clear hb hbox hg))
  (try simp only [Act.put, List.setIfInBounds_toArray, List.set_cons_zero, List.set_cons_succ])
  go_cut [21] (fun v21 wc => ∃ (kq : Nat) (x21_2 : Bool), v21 = .bool x21_2 ∧ Aside0 (lattice_Print.j0 kq x21_2 l0_0 l0_1 a1_0 a1_1 = some r) ∧ Aside0 (kq ≤ k) ∧ Aside0 (wc.heap[gb119]? = some (.cells #[(.slice A0_0 l0_0.length c0_0), (.slice A0_1 l0_1.length c0_1)] 47 (0, 0))) ∧ Aside0 (wc.heap[gb120]? = some (.cells #[.int .i64 a1_0, .int .u64 a1_1] 30 (0, 0))) ∧ Aside0 (Below w.heap.size w wc))
  case first =>
    have H := HC3.out
    clear HC3
    replace H := Option.bind_eq_some_iff.mp H
    obtain ⟨t121, A60, H⟩ := H
    replace H : (if t121 = true then ((lattice_Right.f a1_0 a1_1 (l0_0.length : Int) (l0_1.length : Int)).bind fun t122 => (lattice_Print.j0 k (!t122) l0_0 l0_1 a1_0 a1_1)) else (lattice_Print.j0 k true l0_0 l0_1 a1_0 a1_1)) = some r := H
    have A6 := Aside0.mk A60
    clear A60
    by_cases c7 : t121 = true
    · subst c7
      have H1 : ((lattice_Right.f a1_0 a1_1 (l0_0.length : Int) (l0_1.length : Int)).bind fun t122 => (lattice_Print.j0 k (!t122) l0_0 l0_1 a1_0 a1_1)) = some r := by rw [if_pos rfl] at H; exact H
      clear H
      have H := H1
      clear H1
      replace H := Option.bind_eq_some_iff.mp H
      obtain ⟨t122, A80, H⟩ := H
      replace H : (lattice_Print.j0 k (!t122) l0_0 l0_1 a1_0 a1_1) = some r := H
      have A8 := Aside0.mk A80
      clear A80
      have H' := Aside0.mk H
      clear H
      have hnb9 := NB119_120.out
      have hnc9 := NB120_119.out
      have hcz10_0 : w5.cell? ⟨gb119, 0, none⟩ = some (.slice A0_0 l0_0.length c0_0) := (blk_cell BK119.out 0).trans rfl
      have hcz10_1 : w5.cell? ⟨gb119, 1, none⟩ = some (.slice A0_1 l0_1.length c0_1) := (blk_cell BK119.out 1).trans rfl
      have hfz10_0 := blk_frozen BK119.out 0
      have hfz10_1 := blk_frozen BK119.out 1
      go_wp2_with (first | ((with_reducible refine gate_callee (f := 31) rfl ?_); refine goesL_ (some 9) rfl rfl Tryd.func31 (by kernel_rfl) rfl #[.agg #[.slice A0_0 l0_0.length c0_0, .slice A0_1 l0_1.length c0_1]] rfl (by (try simp only [List.map_toArray, List.map_cons, List.map_nil]); first | done | rfl | (simp only [List.length_drop, List.length_take]; rfl)) ?_; (with_reducible refine (lattice_May.calls _ _ l0_0 _ _ l0_1 true _ ?side1 ?side2 ?side3 ?side4 A6.out).mono ?_); (case side1 => repeat (first | exact (Kd.C_below HR0_0.out HB.out) | (with_reducible refine Kd.C_alloc ?_ _) | (with_reducible refine Kd.C_drewN ?_ _) | (with_reducible refine Kd.C_drew ?_))); (case side2 => exact HC0_0.out); (case side3 => repeat (first | exact (Kd.C_below HR0_1.out HB.out) | (with_reducible refine Kd.C_alloc ?_ _) | (with_reducible refine Kd.C_drewN ?_ _) | (with_reducible refine Kd.C_drew ?_))); (case side4 => exact HC0_1.out); rintro e w11 ⟨rfl, hb⟩; refine ⟨_, rfl, ?_⟩; have n0_ := Aside0.mk (blk_below (g := gb119) (o := .cells #[.slice A0_0 l0_0.length c0_0, .slice A0_1 l0_1.length c0_1] 47 (0, 0)) (by (with_reducible repeat (first | refine blk_drewN ?_ _ | refine blk_drew ?_ | refine blk_alloc ?_ _)); exact BK119.out) hb); have n1_ := Aside0.mk (blk_below (g := gb120) (o := .cells #[.int .i64 a1_0, .int .u64 a1_1] 30 (0, 0)) (by (with_reducible repeat (first | refine blk_drewN ?_ _ | refine blk_drew ?_ | refine blk_alloc ?_ _)); exact BK120.out) hb); have n2_ := Aside0.mk (below_step (by repeat (first | (with_reducible first | exact HB.out | apply below_alloc | apply pw_below_drewN | apply below_drew1 | refine below_set ?_ GE119.out | refine below_set ?_ GE120.out) | exact HB.out)) hb); clear BK119; clear BK120; clear HB; have BK119 := n0_; have BK120 := n1_; have HB := n2_; clear n0_ n1_ n2_; (try clear hb); (try clear hb2); (try clear hk); (try clear hi); have hcz12_0 : w11.cell? ⟨gb120, 0, none⟩ = some (.int .i64 a1_0) := (blk_cell BK120.out 0).trans rfl; have hcz12_1 : w11.cell? ⟨gb120, 1, none⟩ = some (.int .u64 a1_1) := (blk_cell BK120.out 1).trans rfl; have hfz12_0 := blk_frozen BK120.out 0; have hfz12_1 := blk_frozen BK120.out 1; have hcz13_0 : w11.cell? ⟨gb119, 0, none⟩ = some (.slice A0_0 l0_0.length c0_0) := (blk_cell BK119.out 0).trans rfl; have hcz13_1 : w11.cell? ⟨gb119, 1, none⟩ = some (.slice A0_1 l0_1.length c0_1) := (blk_cell BK119.out 1).trans rfl; have hfz13_0 := blk_frozen BK119.out 0; have hfz13_1 := blk_frozen BK119.out 1) | (go_at_call 24; (with_reducible refine (lattice_Right.calls a1_0 a1_1 (l0_0.length : Int) (l0_1.length : Int) t122 _ A8.out).mono ?_); rintro e w14 ⟨rfl, hb⟩; have n0_ := Aside0.mk (blk_below (g := gb119) (o := .cells #[.slice A0_0 l0_0.length c0_0, .slice A0_1 l0_1.length c0_1] 47 (0, 0)) (by (with_reducible repeat (first | refine blk_drewN ?_ _ | refine blk_drew ?_ | refine blk_alloc ?_ _)); exact BK119.out) hb); have n1_ := Aside0.mk (blk_below (g := gb120) (o := .cells #[.int .i64 a1_0, .int .u64 a1_1] 30 (0, 0)) (by (with_reducible repeat (first | refine blk_drewN ?_ _ | refine blk_drew ?_ | refine blk_alloc ?_ _)); exact BK120.out) hb); have n2_ := Aside0.mk (below_step (by repeat (first | (with_reducible first | exact HB.out | apply below_alloc | apply pw_below_drewN | apply below_drew1 | refine below_set ?_ GE119.out | refine below_set ?_ GE120.out) | exact HB.out)) hb); clear BK119; clear BK120; clear HB; have BK119 := n0_; have BK120 := n1_; have HB := n2_; clear n0_ n1_ n2_; (try clear hb); (try clear hb2); (try clear hk); (try clear hi)))
      go_meet
      case rel => exact ⟨_, (!t122), (by first | rfl | (simp; done) | (simp [*]; done) | (simp [xbne_nil, xbeq_nil]; done)), H', ⟨by first | omega | exact Nat.le_refl _⟩, ⟨by (with_reducible repeat (first | refine blk_drewN ?_ _ | refine blk_drew ?_ | refine blk_alloc ?_ _)); exact BK119.out⟩, ⟨by (with_reducible repeat (first | refine blk_drewN ?_ _ | refine blk_drew ?_ | refine blk_alloc ?_ _)); exact BK120.out⟩, ⟨by repeat (first | (with_reducible first | exact HB.out | apply below_alloc | apply pw_below_drewN | apply below_drew1 | refine below_set ?_ GE119.out | refine below_set ?_ GE120.out) | exact HB.out)⟩⟩
    · replace c7 := Bool.eq_false_iff.mpr c7
      subst c7
      have H1 : (lattice_Print.j0 k true l0_0 l0_1 a1_0 a1_1) = some r := by rw [if_neg (show ¬ (false = true) by decide)] at H; exact H
      clear H
      have H := H1
      clear H1
      have H' := Aside0.mk H
      clear H
      have hnb15 := NB119_120.out
      have hnc15 := NB120_119.out
      have hcz16_0 : w5.cell? ⟨gb119, 0, none⟩ = some (.slice A0_0 l0_0.length c0_0) := (blk_cell BK119.out 0).trans rfl
      have hcz16_1 : w5.cell? ⟨gb119, 1, none⟩ = some (.slice A0_1 l0_1.length c0_1) := (blk_cell BK119.out 1).trans rfl
      have hfz16_0 := blk_frozen BK119.out 0
      have hfz16_1 := blk_frozen BK119.out 1
      go_wp2_with (first | ((with_reducible refine gate_callee (f := 31) rfl ?_); refine goesL_ (some 9) rfl rfl Tryd.func31 (by kernel_rfl) rfl #[.agg #[.slice A0_0 l0_0.length c0_0, .slice A0_1 l0_1.length c0_1]] rfl (by (try simp only [List.map_toArray, List.map_cons, List.map_nil]); first | done | rfl | (simp only [List.length_drop, List.length_take]; rfl)) ?_; (with_reducible refine (lattice_May.calls _ _ l0_0 _ _ l0_1 false _ ?side1 ?side2 ?side3 ?side4 A6.out).mono ?_); (case side1 => repeat (first | exact (Kd.C_below HR0_0.out HB.out) | (with_reducible refine Kd.C_alloc ?_ _) | (with_reducible refine Kd.C_drewN ?_ _) | (with_reducible refine Kd.C_drew ?_))); (case side2 => exact HC0_0.out); (case side3 => repeat (first | exact (Kd.C_below HR0_1.out HB.out) | (with_reducible refine Kd.C_alloc ?_ _) | (with_reducible refine Kd.C_drewN ?_ _) | (with_reducible refine Kd.C_drew ?_))); (case side4 => exact HC0_1.out); rintro e w17 ⟨rfl, hb⟩; refine ⟨_, rfl, ?_⟩; have n0_ := Aside0.mk (blk_below (g := gb119) (o := .cells #[.slice A0_0 l0_0.length c0_0, .slice A0_1 l0_1.length c0_1] 47 (0, 0)) (by (with_reducible repeat (first | refine blk_drewN ?_ _ | refine blk_drew ?_ | refine blk_alloc ?_ _)); exact BK119.out) hb); have n1_ := Aside0.mk (blk_below (g := gb120) (o := .cells #[.int .i64 a1_0, .int .u64 a1_1] 30 (0, 0)) (by (with_reducible repeat (first | refine blk_drewN ?_ _ | refine blk_drew ?_ | refine blk_alloc ?_ _)); exact BK120.out) hb); have n2_ := Aside0.mk (below_step (by repeat (first | (with_reducible first | exact HB.out | apply below_alloc | apply pw_below_drewN | apply below_drew1 | refine below_set ?_ GE119.out | refine below_set ?_ GE120.out) | exact HB.out)) hb); clear BK119; clear BK120; clear HB; have BK119 := n0_; have BK120 := n1_; have HB := n2_; clear n0_ n1_ n2_; (try clear hb); (try clear hb2); (try clear hk); (try clear hi)))
      go_meet
      case rel => exact ⟨_, (true), (by first | rfl | (simp; done) | (simp [*]; done) | (simp [xbne_nil, xbeq_nil]; done)), H', ⟨by first | omega | exact Nat.le_refl _⟩, ⟨by (with_reducible repeat (first | refine blk_drewN ?_ _ | refine blk_drew ?_ | refine blk_alloc ?_ _)); exact BK119.out⟩, ⟨by (with_reducible repeat (first | refine blk_drewN ?_ _ | refine blk_drew ?_ | refine blk_alloc ?_ _)); exact BK120.out⟩, ⟨by repeat (first | (with_reducible first | exact HB.out | apply below_alloc | apply pw_below_drewN | apply below_drew1 | refine below_set ?_ GE119.out | refine below_set ?_ GE120.out) | exact HB.out)⟩⟩
  case rest =>
    clear HC3
    try clear c1
    try clear p2
    try clear c3
    try clear c7
    try clear c9
    try clear c15
    try clear hcz10_0
    try clear hcz10_1
    try clear hcz12_0
    try clear hcz12_1
    try clear hcz13_0
    try clear hcz13_1
    try clear hcz16_0
    try clear hcz16_1
    try clear hfz10_0
    try clear hfz10_1
    try clear hfz12_0
    try clear hfz12_1
    try clear hfz13_0
    try clear hfz13_1
    try clear hfz16_0
    try clear hfz16_1
    obtain ⟨kq, x21_2, rfl, HA, HJ2, BK119, BK120, HB⟩ := hcut
    cases kq with
    | zero => exact absurd HA.out (by simp [lattice_Print.j0])
    | succ kj2 =>
      have H := HA.out
      clear HA
      simp only [lattice_Print.j0] at H
      by_cases c18 : x21_2 = true
      · subst c18
        have H1 : (some (⟨#[]⟩ : ByteArray)) = some r := by rw [if_pos rfl] at H; exact H
        clear H
        have H := H1
        clear H1
        obtain rfl := Option.some.inj H
        go_wp2
        go_ret
        exact ⟨by first | rfl | (simp [errW_none, errW_some] <;> rfl) | (simp [*, errW_none, errW_some] <;> rfl), by repeat (first | (with_reducible first | exact HB.out | apply below_alloc | apply pw_below_drewN | apply below_drew1 | refine below_set ?_ GE119.out | refine below_set ?_ GE120.out) | exact HB.out)⟩
      · replace c18 := Bool.eq_false_iff.mpr c18
        subst c18
        have H1 : (lattice_Print.l0 kj2 ([] : List ByteArray) l0_1 (l0_1.length : Int) 0 l0_0 l0_1 a1_0 a1_1) = some r := by rw [if_neg (show ¬ (false = true) by decide)] at H; exact H
        clear H
        have H := H1
        clear H1
        have H' := Aside0.mk H
        clear H
        have hnb19 := NB119_120.out
        have hnc19 := NB120_119.out
        have hcz20_0 : wc.cell? ⟨gb119, 0, none⟩ = some (.slice A0_0 l0_0.length c0_0) := (blk_cell BK119.out 0).trans rfl
        have hcz20_1 : wc.cell? ⟨gb119, 1, none⟩ = some (.slice A0_1 l0_1.length c0_1) := (blk_cell BK119.out 1).trans rfl
        have hfz20_0 := blk_frozen BK119.out 0
        have hfz20_1 := blk_frozen BK119.out 1
        go_wp2
        go_loopg [5, 25] kj2 (fun kq v5 v25 w' => ∃ (x5_2 : List ByteArray) (x25_2 : Int), v25 = .int .i64 x25_2 ∧ Aside0 (lattice_Print.l0 kq x5_2 l0_1 (l0_1.length : Int) x25_2 l0_0 l0_1 a1_0 a1_1 = some r) ∧ Aside0 (kq ≤ kj2) ∧ Aside0 (Kd.R Kd.string 9 w' w.heap.size (fun _ => True) v5 x5_2) ∧ Aside0 (w'.heap[gb119]? = some (.cells #[(.slice A0_0 l0_0.length c0_0), (.slice A0_1 l0_1.length c0_1)] 47 (0, 0))) ∧ Aside0 (w'.heap[gb120]? = some (.cells #[.int .i64 a1_0, .int .u64 a1_1] 30 (0, 0))) ∧ Aside0 (Below w.heap.size w w') ∧ Aside0 (x5_2 = [] → v5 = .slice none 0 0))
        case atStart => exact ⟨(([] : List ByteArray)), (0), (by first | rfl | (simp; done) | (simp [*]; done) | (simp [xbne_nil, xbeq_nil]; done)), H', ⟨Nat.le_refl _⟩, ⟨by first | exact Kd.R_nil _ _ _ _ _ | exact Kd.N_nil _ _ _ _ _ | exact Kd.V_nil _ _ _ _ _ | exact Kd.Q_nil _ _ _ _ _ | exact Kd.S_nil _ _ _ _ _⟩, ⟨by (with_reducible repeat (first | refine blk_drewN ?_ _ | refine blk_drew ?_ | refine blk_alloc ?_ _)); exact BK119.out⟩, ⟨by (with_reducible repeat (first | refine blk_drewN ?_ _ | refine blk_drew ?_ | refine blk_alloc ?_ _)); exact BK120.out⟩, ⟨by repeat (first | (with_reducible first | exact HB.out | apply below_alloc | apply pw_below_drewN | apply below_drew1 | refine below_set ?_ GE119.out | refine below_set ?_ GE120.out) | exact HB.out)⟩, ⟨fun _ => rfl⟩⟩
        case round =>
          clear H'
          try clear c1
          try clear p2
          try clear c3
          try clear c7
          try clear c9
          try clear c15
          try clear c18
          try clear c19
          try clear hcz10_0
          try clear hcz10_1
          try clear hcz12_0
          try clear hcz12_1
          try clear hcz13_0
          try clear hcz13_1
          try clear hcz16_0
          try clear hcz16_1
          try clear hcz20_0
          try clear hcz20_1
          try clear hfz10_0
          try clear hfz10_1
          try clear hfz12_0
          try clear hfz12_1
          try clear hfz13_0
          try clear hfz13_1
          try clear hfz16_0
          try clear hfz16_1
          try clear hfz20_0
          try clear hfz20_1
          try clear p2
          obtain ⟨x5_2, x25_2, rfl, HA, HK2, HO_5, BK119, BK120, HB, HNIL⟩ := hrel
          cases gk with
          | zero => exact absurd HA.out (by simp [lattice_Print.l0])
          | succ k2 =>
            have H := HA.out
            clear HA
            simp only [lattice_Print.l0] at H
            by_cases c21 : x25_2 < (l0_1.length : Int)
            · rw [if_pos c21] at H
              have c21b0 : decide (x25_2 < (l0_1.length : Int)) = true := decide_eq_true c21
              clear c21
              by_cases c22 : 0 ≤ x25_2
              · rw [if_pos c22] at H
                have c22b0 : decide (0 ≤ x25_2) = true := decide_eq_true c22
                clear c22
                by_cases c23 : x25_2 < (l0_1.length : Int)
                · rw [if_pos c23] at H
                  have c23b0 : decide (x25_2 < (l0_1.length : Int)) = true := decide_eq_true c23
                  clear c23
                  have c24b0 := eq_true (of_decide_eq_true (by first | (with_reducible assumption) | assumption) : 0 ≤ x25_2)
                  obtain ⟨ji25, hji25⟩ : ∃ j_ : Int, (shr .u64 a1_1 x25_2) = j_ := ⟨_, rfl⟩
                  replace H : (if (Go.bits .and .u64 (ji25) 1) = 1 then (if x5_2.length < 8796093022208 then (lattice_Print.l0 k2 (x5_2 ++ [rdOf ByteArray.empty l0_1 x25_2]) l0_1 (l0_1.length : Int) (wrap64 (x25_2 + 1)) l0_0 l0_1 a1_0 a1_1) else (none)) else (lattice_Print.l0 k2 x5_2 l0_1 (l0_1.length : Int) (wrap64 (x25_2 + 1)) l0_0 l0_1 a1_0 a1_1)) = some r := by first | (rw [hji25] at H; exact H) | (simp only [hji25] at H ⊢; exact H)
                  have hji25_ : (a1_1 / 2 ^ min x25_2.toNat 64) = ji25 := hji25
                  have hji25z : x25_2 ≤ 64 → (a1_1 / 2 ^ x25_2.toNat) = ji25 := shr_small hji25
                  by_cases c26 : (Go.bits .and .u64 (ji25) 1) = 1
                  · rw [if_pos c26] at H
                    have c26b0 : ((Go.bits .and .u64 (ji25) 1) == 1) = true := beq_iff_eq.mpr c26
                    have c26b1 : ((Go.bits .and .u64 (ji25) 1) != 1) = false := bne_eq_false_iff_eq.mpr c26
                    clear c26
                    by_cases c27 : x5_2.length < 8796093022208
                    · rw [if_pos c27] at H
                      have LMc27 := Aside0.mk c27
                      clear c27
                      obtain ⟨y124, hy124⟩ : ∃ y_ : List ByteArray, y_ = (x5_2 ++ [rdOf ByteArray.empty l0_1 x25_2]) := ⟨_, rfl⟩
                      replace H : (lattice_Print.l0 k2 y124 l0_1 (l0_1.length : Int) (wrap64 (x25_2 + 1)) l0_0 l0_1 a1_0 a1_1) = some r := by first | (rw [hy124]; with_reducible exact H) | (have H2_ := (Option.bind_some _ _).symm.trans H; rw [hy124]; with_reducible exact H2_) | (have H2_ := (Option.bind_some _ _).symm.trans H; with_reducible exact H2_) | with_reducible exact H | (rw [hy124]; exact H) | exact H
                      have Ny124 := Aside0.mk hy124
                      clear hy124
                      have H' := Aside0.mk H
                      clear H
                      have p123 : 0 ≤ (x25_2 : Int) := of_decide_eq_true (by first | (with_reducible assumption) | assumption)
                      have q123 : x25_2 < (l0_1.length : Int) := of_decide_eq_true (by first | (with_reducible assumption) | assumption)
                      obtain ⟨ad123, e123, hx123_0⟩ := Kd.at_string HR0_1.out x25_2 p123 q123
                      cases e123
                      replace hx123_0 := (HB.out.cell (World.block_lt_of_cell? w _ hx123_0)).trans hx123_0
                      replace p123 := eq_true p123
                      replace q123 := eq_true q123
                      have hnb28 := NB120_119.out
                      have hnc28 := NB119_120.out
                      have hcz29_0 : wr.cell? ⟨gb120, 0, none⟩ = some (.int .i64 a1_0) := (blk_cell BK120.out 0).trans rfl
                      have hcz29_1 : wr.cell? ⟨gb120, 1, none⟩ = some (.int .u64 a1_1) := (blk_cell BK120.out 1).trans rfl
                      have hfz29_0 := blk_frozen BK120.out 0
                      have hfz29_1 := blk_frozen BK120.out 1
                      go_wp2_with (first | ((with_reducible refine gate_builtin (b := .append) (xs := #[.tmp 36, .tmp 38]) rfl ?_); (try (refine gate_guard (by rfl) ?_; dsimp only)); at_builtin; refine Kd.R_append Kd.string (w0 := w) w.heap.size rfl (.tmp 36) (.tmp 38) 43 9 (.string ⟨#[]⟩) 16 rfl Tryd.underlying43 lp_info9 rfl (by decide) (by omega) u5 x5_2 (rdOf ByteArray.empty l0_1 x25_2) [.string (rdOf ByteArray.empty l0_1 x25_2)] (fun _ => True) (fun _ => False) rfl rfl ?aP (fun _ hk => hk.elim) ?aF ?aO ?aB ?aS ?aL ?_; (case aP => exact rfl); (case aB => exact (by repeat (first | (with_reducible first | exact HB.out | apply below_alloc | apply pw_below_drewN | apply below_drew1 | refine below_set ?_ GE119.out | refine below_set ?_ GE120.out) | exact HB.out))); (case aF => exact (fun _ _ => trivial)); (case aO => exact (by (with_reducible repeat (first | apply Kd.R_alloc | apply Kd.R_drewN | apply Kd.R_drew)); exact HO_5.out)); (case aS => exact (below_size (by repeat (first | (with_reducible first | exact HB.out | apply below_alloc | apply pw_below_drewN | apply below_drew1 | refine below_set ?_ GE119.out | refine below_set ?_ GE120.out) | exact HB.out)))); (case aL => have := LMc27.out; omega); intro v125 w30 ho hb hg hat; rw [← Ny124.out] at ho; have n0_ := Aside0.mk (blk_grown (g := gb119) (o := .cells #[.slice A0_0 l0_0.length c0_0, .slice (some ad123) l0_1.length c0_1] 47 (0, 0)) (by (with_reducible repeat (first | refine blk_drewN ?_ _ | refine blk_drew ?_ | refine blk_alloc ?_ _)); exact BK119.out) hg (Kd.R_ne HO_5.out BK119.out (by decide))); have n1_ := Aside0.mk (blk_grown (g := gb120) (o := .cells #[.int .i64 a1_0, .int .u64 a1_1] 30 (0, 0)) (by (with_reducible repeat (first | refine blk_drewN ?_ _ | refine blk_drew ?_ | refine blk_alloc ?_ _)); exact BK120.out) hg (Kd.R_ne HO_5.out BK120.out (by decide))); have n2_ := Aside0.mk (hb); have n3_ := Aside0.mk (ho); clear BK119; clear BK120; clear HB; clear HO_5; have BK119 := n0_; have BK120 := n1_; have HB := n2_; have HO126 := n3_; clear n0_ n1_ n2_ n3_; clear ho hb hg hat))
                      go_roundg k2
                      case measure => have := HJ2.out; have := HK2.out; omega
                      case rel => exact ⟨(y124), (wrap64 (x25_2 + 1)), (by first | rfl | (simp; done) | (simp [*]; done) | (simp [xbne_nil, xbeq_nil]; done)), H', ⟨by have := HJ2.out; have := HK2.out; omega⟩, ⟨by (with_reducible repeat (first | apply Kd.R_alloc | apply Kd.R_drewN | apply Kd.R_drew)); exact HO126.out⟩, ⟨by (with_reducible repeat (first | refine blk_drewN ?_ _ | refine blk_drew ?_ | refine blk_alloc ?_ _)); exact BK119.out⟩, ⟨by (with_reducible repeat (first | refine blk_drewN ?_ _ | refine blk_drew ?_ | refine blk_alloc ?_ _)); exact BK120.out⟩, ⟨by repeat (first | (with_reducible first | exact HB.out | apply below_alloc | apply pw_below_drewN | apply below_drew1 | refine below_set ?_ GE119.out | refine below_set ?_ GE120.out) | exact HB.out)⟩, ⟨fun e => absurd (Ny124.out.symm.trans e) (by simp)⟩⟩
                    · rw [if_neg c27] at H
                      exact absurd H (by simp)
                  · rw [if_neg c26] at H
                    have c26b0 : ((Go.bits .and .u64 (ji25) 1) == 1) = false := beq_eq_false_iff_ne.mpr c26
                    have c26b1 : ((Go.bits .and .u64 (ji25) 1) != 1) = true := bne_iff_ne.mpr c26
                    have H' := Aside0.mk H
                    clear H
                    have p123 : 0 ≤ (x25_2 : Int) := of_decide_eq_true (by first | (with_reducible assumption) | assumption)
                    have q123 : x25_2 < (l0_1.length : Int) := of_decide_eq_true (by first | (with_reducible assumption) | assumption)
                    obtain ⟨ad123, e123, hx123_0⟩ := Kd.at_string HR0_1.out x25_2 p123 q123
                    cases e123
                    replace hx123_0 := (HB.out.cell (World.block_lt_of_cell? w _ hx123_0)).trans hx123_0
                    replace p123 := eq_true p123
                    replace q123 := eq_true q123
                    have hnb31 := NB120_119.out
                    have hnc31 := NB119_120.out
                    have hcz32_0 : wr.cell? ⟨gb120, 0, none⟩ = some (.int .i64 a1_0) := (blk_cell BK120.out 0).trans rfl
                    have hcz32_1 : wr.cell? ⟨gb120, 1, none⟩ = some (.int .u64 a1_1) := (blk_cell BK120.out 1).trans rfl
                    have hfz32_0 := blk_frozen BK120.out 0
                    have hfz32_1 := blk_frozen BK120.out 1
                    go_wp2
                    go_roundg k2
                    case measure => have := HJ2.out; have := HK2.out; omega
                    case rel => exact ⟨(x5_2), (wrap64 (x25_2 + 1)), (by first | rfl | (simp; done) | (simp [*]; done) | (simp [xbne_nil, xbeq_nil]; done)), H', ⟨by have := HJ2.out; have := HK2.out; omega⟩, ⟨by (with_reducible repeat (first | apply Kd.R_alloc | apply Kd.R_drewN | apply Kd.R_drew)); exact HO_5.out⟩, ⟨by (with_reducible repeat (first | refine blk_drewN ?_ _ | refine blk_drew ?_ | refine blk_alloc ?_ _)); exact BK119.out⟩, ⟨by (with_reducible repeat (first | refine blk_drewN ?_ _ | refine blk_drew ?_ | refine blk_alloc ?_ _)); exact BK120.out⟩, ⟨by repeat (first | (with_reducible first | exact HB.out | apply below_alloc | apply pw_below_drewN | apply below_drew1 | refine below_set ?_ GE119.out | refine below_set ?_ GE120.out) | exact HB.out)⟩, HNIL⟩
                · rw [if_neg c23] at H
                  exact absurd H (by simp)
              · rw [if_neg c22] at H
                exact absurd H (by simp)
            · rw [if_neg c21] at H
              have c21b0 : decide (x25_2 < (l0_1.length : Int)) = false := decide_eq_false c21
              clear c21
              by_cases c33 : x5_2 = []
              · rw [if_pos c33] at H
                obtain rfl := HNIL.out c33
                clear c33
                by_cases c34 : 0 ≤ a1_0
                · rw [if_pos c34] at H
                  have c34b0 : decide (0 ≤ a1_0) = true := decide_eq_true c34
                  clear c34
                  by_cases c35 : a1_0 < (l0_0.length : Int)
                  · rw [if_pos c35] at H
                    have c35b0 : decide (a1_0 < (l0_0.length : Int)) = true := decide_eq_true c35
                    clear c35
                    obtain rfl := Option.some.inj H
                    have hnb36 := NB119_120.out
                    have hnc36 := NB120_119.out
                    have hcz37_0 : wr.cell? ⟨gb119, 0, none⟩ = some (.slice A0_0 l0_0.length c0_0) := (blk_cell BK119.out 0).trans rfl
                    have hcz37_1 : wr.cell? ⟨gb119, 1, none⟩ = some (.slice A0_1 l0_1.length c0_1) := (blk_cell BK119.out 1).trans rfl
                    have hfz37_0 := blk_frozen BK119.out 0
                    have hfz37_1 := blk_frozen BK119.out 1
                    have hcz38_0 : wr.cell? ⟨gb120, 0, none⟩ = some (.int .i64 a1_0) := (blk_cell BK120.out 0).trans rfl
                    have hcz38_1 : wr.cell? ⟨gb120, 1, none⟩ = some (.int .u64 a1_1) := (blk_cell BK120.out 1).trans rfl
                    have hfz38_0 := blk_frozen BK120.out 0
                    have hfz38_1 := blk_frozen BK120.out 1
                    have p127 : 0 ≤ (a1_0 : Int) := of_decide_eq_true (by first | (with_reducible assumption) | assumption)
                    have q127 : a1_0 < (l0_0.length : Int) := of_decide_eq_true (by first | (with_reducible assumption) | assumption)
                    obtain ⟨ad127, e127, hx127_0⟩ := Kd.at_string HR0_0.out a1_0 p127 q127
                    cases e127
                    replace hx127_0 := (HB.out.cell (World.block_lt_of_cell? w _ hx127_0)).trans hx127_0
                    replace p127 := eq_true p127
                    replace q127 := eq_true q127
                    go_wp2
                    go_ret
                    exact ⟨by first | rfl | (simp [errW_none, errW_some] <;> rfl) | (simp [*, errW_none, errW_some] <;> rfl), by repeat (first | (with_reducible first | exact HB.out | apply below_alloc | apply pw_below_drewN | apply below_drew1 | refine below_set ?_ GE119.out | refine below_set ?_ GE120.out) | exact HB.out)⟩
                  · rw [if_neg c35] at H
                    exact absurd H (by simp)
                · rw [if_neg c34] at H
                  exact absurd H (by simp)
              · rw [if_neg c33] at H
                obtain ⟨anz, cnz, hunz, hcnz, hCnz⟩ := Kd.R_reads HO_5.out
                have hnz := List.length_pos_iff.mpr c33
                obtain ⟨adnz, rfl, hxnz⟩ := Kd.at_string hCnz 0 (by decide) (by omega)
                subst hunz
                clear hxnz hCnz hcnz hnz
                by_cases c39 : 0 ≤ a1_0
                · rw [if_pos c39] at H
                  have c39b0 : decide (0 ≤ a1_0) = true := decide_eq_true c39
                  clear c39
                  by_cases c40 : a1_0 < (l0_0.length : Int)
                  · rw [if_pos c40] at H
                    have c40b0 : decide (a1_0 < (l0_0.length : Int)) = true := decide_eq_true c40
                    clear c40
                    by_cases c41 : (rdOf ByteArray.empty l0_0 a1_0).size + 1 ≤ 9223372036854775807
                    · rw [if_pos c41] at H
                      have c41b0 := eq_true c41
                      have c41b1 : decide ((rdOf ByteArray.empty l0_0 a1_0).size + 1 ≤ 9223372036854775807) = true := decide_eq_true c41
                      try have c41b2 : (9223372036854775807 < (rdOf ByteArray.empty l0_0 a1_0).size + 1) = False := eq_false (Nat.not_lt.2 c41)
                      replace H := Option.bind_eq_some_iff.mp H
                      obtain ⟨t129, A420, H⟩ := H
                      replace H : (if ((rdOf ByteArray.empty l0_0 a1_0) ++ (⟨#[58]⟩ : ByteArray)).size + t129.size ≤ 9223372036854775807 then (some (((rdOf ByteArray.empty l0_0 a1_0) ++ (⟨#[58]⟩ : ByteArray)) ++ t129)) else (none)) = some r := H
                      have A42 := Aside0.mk A420
                      clear A420
                      by_cases c43 : ((rdOf ByteArray.empty l0_0 a1_0) ++ (⟨#[58]⟩ : ByteArray)).size + t129.size ≤ 9223372036854775807
                      · rw [if_pos c43] at H
                        have c43b0 := eq_true c43
                        have c43b1 : decide (((rdOf ByteArray.empty l0_0 a1_0) ++ (⟨#[58]⟩ : ByteArray)).size + t129.size ≤ 9223372036854775807) = true := decide_eq_true c43
                        try have c43b2 : (9223372036854775807 < ((rdOf ByteArray.empty l0_0 a1_0) ++ (⟨#[58]⟩ : ByteArray)).size + t129.size) = False := eq_false (Nat.not_lt.2 c43)
                        have c43b3 : (9223372036854775807 < (rdOf ByteArray.empty l0_0 a1_0).size + 1 + t129.size) = False := by have h_ := c43; rw [ByteArray.size_append, show (⟨#[58]⟩ : ByteArray).size = 1 from rfl] at h_; exact eq_false (Nat.not_lt.2 h_)
                        obtain rfl := Option.some.inj H
                        try go_wp2
                        have n0_ := Aside0.mk (Kd.R_drew HO_5.out)
                        have n1_ := Aside0.mk (blk_drew BK119.out)
                        have n2_ := Aside0.mk (blk_drew BK120.out)
                        have n3_ := Aside0.mk (below_drew1 HB.out)
                        clear HO_5
                        clear BK119
                        clear BK120
                        clear HB
                        have HO_5 := n0_
                        have BK119 := n1_
                        have BK120 := n2_
                        have HB := n3_
                        clear n0_ n1_ n2_ n3_
                        have p128 : 0 ≤ (a1_0 : Int) := of_decide_eq_true (by first | (with_reducible assumption) | assumption)
                        have q128 : a1_0 < (l0_0.length : Int) := of_decide_eq_true (by first | (with_reducible assumption) | assumption)
                        obtain ⟨ad128, e128, hx128_0⟩ := Kd.at_string HR0_0.out a1_0 p128 q128
                        have hw128_0 := hx128_0
                        cases e128
                        replace hx128_0 := (HB.out.cell (World.block_lt_of_cell? w _ hx128_0)).trans hx128_0
                        replace p128 := eq_true p128
                        replace q128 := eq_true q128
                        obtain ⟨Ao45, co45, eo45⟩ := Kd.R_slice HO_5.out
                        (first | subst eo45 | (injection eo45 with f1_ f2_ f3_; have f4_ := f1_.symm; have f5_ := f3_.symm; clear f1_ f2_ f3_; subst f4_; subst f5_))
                        refine start_ (n := 11) (S := fun w' => w'.cell? ⟨gb119, 0, none⟩ = some (.slice (some ad128) l0_0.length c0_0) ∧ w'.cell? ⟨gb119, 1, none⟩ = some (.slice A0_1 l0_1.length c0_1) ∧ w'.cell? ⟨gb120, 0, none⟩ = some (.int .i64 a1_0) ∧ w'.cell? ⟨gb120, 1, none⟩ = some (.int .u64 a1_1) ∧ w'.cell? (ad128.add (a1_0).toNat) = some (.string (rdOf ByteArray.empty l0_0 a1_0))) (ds := []) #[false, false, false, false, false, false, false, false, false, false, false] (by kernel_rfl) rfl rfl ⟨(blk_cell BK119.out 0).trans rfl, (blk_cell BK119.out 1).trans rfl, (blk_cell BK120.out 0).trans rfl, (blk_cell BK120.out 1).trans rfl, ((HB.out.cell (World.block_lt_of_cell? w _ hw128_0)).trans hw128_0)⟩ (fun hHeld => ?_); refine with_tabW lattice_Print.tab12 lattice_Print.bits12 (fun HT_ HW_ => ?_)
                        generalize wr.drew = w44 at HO_5 BK119 BK120 HB hx128_0 hHeld ⊢
                        refine pure_ (i := 0) (N := some 49) (v := ?_) (a' := ?_) #[true, false, false, false, false, false, false, false, false, false, false] rfl rfl (any_of HT_.out (by kernel_rfl)) (fun _ _ _ h => h) (Or.inl ⟨by rfl, ?_⟩) ?_ ?_
                        rotate_left
                        · intro w'
                          go_simp
                          with_reducible rfl
                        rotate_left
                        · simp only [Act.put, List.setIfInBounds_toArray, List.set_cons_zero, List.set_cons_succ, i64_w, i32_w]
                          rfl
                        refine pure_ (i := 2) (N := some 51) (v := ?_) (a' := ?_) #[true, false, true, false, false, false, false, false, false, false, false] rfl rfl (any_of HT_.out (by kernel_rfl)) (fun _ _ _ h => h) (Or.inl ⟨by rfl, ?_⟩) ?_ ?_
                        rotate_left
                        · intro w'
                          go_simp
                          with_reducible rfl
                        rotate_left
                        · simp only [Act.put, List.setIfInBounds_toArray, List.set_cons_zero, List.set_cons_succ, i64_w, i32_w]
                          rfl
                        refine pure_ (i := 7) (N := some 56) (v := ?_) (a' := ?_) #[true, false, true, false, false, false, false, true, false, false, false] rfl rfl (any_of HT_.out (by kernel_rfl)) (fun _ _ _ h => h) (Or.inl ⟨by rfl, ?_⟩) ?_ ?_
                        rotate_left
                        · intro w'
                          go_simp
                          with_reducible rfl
                        rotate_left
                        · simp only [Act.put, List.setIfInBounds_toArray, List.set_cons_zero, List.set_cons_succ, i64_w, i32_w]
                          rfl
                        refine take_ (i := 1) (N := some 50) (v := ?_) (a' := ?_) #[true, true, true, false, false, false, false, true, false, false, false] rfl rfl (take_ofW HT_.out HW_.out (by kernel_rfl)) (fun _ _ _ h => h) (Or.inl ⟨by rfl, ?_⟩) hHeld ?_ ?_
                        rotate_left
                        · rintro w' ⟨s0, s1, s2, s3, s4⟩
                          go_simp
                          with_reducible rfl
                        rotate_left
                        · simp only [Act.put, List.setIfInBounds_toArray, List.set_cons_zero, List.set_cons_succ, i64_w, i32_w]
                          rfl
                        refine take_ (i := 3) (N := some 52) (v := ?_) (a' := ?_) #[true, true, true, true, false, false, false, true, false, false, false] rfl rfl (take_ofW HT_.out HW_.out (by kernel_rfl)) (fun _ _ _ h => h) (Or.inl ⟨by rfl, ?_⟩) hHeld ?_ ?_
                        rotate_left
                        · rintro w' ⟨s0, s1, s2, s3, s4⟩
                          go_simp
                          with_reducible rfl
                        rotate_left
                        · simp only [Act.put, List.setIfInBounds_toArray, List.set_cons_zero, List.set_cons_succ, i64_w, i32_w]
                          rfl
                        refine pure_ (i := 4) (N := some 53) (v := ?_) (a' := ?_) #[true, true, true, true, true, false, false, true, false, false, false] rfl rfl (any_of HT_.out (by kernel_rfl)) (fun _ _ _ h => h) (Or.inl ⟨by rfl, ?_⟩) ?_ ?_
                        rotate_left
                        · intro w'
                          go_simp
                          with_reducible rfl
                        rotate_left
                        · simp only [Act.put, List.setIfInBounds_toArray, List.set_cons_zero, List.set_cons_succ, i64_w, i32_w]
                          rfl
                        refine take_ (i := 5) (N := some 54) (v := ?_) (a' := ?_) #[true, true, true, true, true, true, false, true, false, false, false] rfl rfl (take_ofW HT_.out HW_.out (by kernel_rfl)) (fun _ _ _ h => h) (Or.inl ⟨by rfl, ?_⟩) hHeld ?_ ?_
                        rotate_left
                        · rintro w' ⟨s0, s1, s2, s3, s4⟩
                          go_simp
                          with_reducible rfl
                        rotate_left
                        · simp only [Act.put, List.setIfInBounds_toArray, List.set_cons_zero, List.set_cons_succ, i64_w, i32_w]
                          rfl
                        refine pure_ (i := 6) (N := some 55) (v := ?_) (a' := ?_) #[true, true, true, true, true, true, true, true, false, false, false] rfl rfl (any_of HT_.out (by kernel_rfl)) (fun _ _ _ h => h) (Or.inl ⟨by rfl, ?_⟩) ?_ ?_
                        rotate_left
                        · intro w'
                          go_simp
                          with_reducible rfl
                        rotate_left
                        · simp only [Act.put, List.setIfInBounds_toArray, List.set_cons_zero, List.set_cons_succ, i64_w, i32_w]
                          rfl
                        refine one_ (i := 8) (N := some 57) #[true, true, true, true, true, true, true, true, true, false, false] rfl rfl (one_of HT_.out (by kernel_rfl)) (by decide) (fun K hK => ?_)
                        refine goes_ Tryd.func76 (by kernel_rfl) rfl #[.slice (some adnz) x5_2.length co45, .string (⟨#[44]⟩ : ByteArray)] (by rfl) rfl rfl (by (try simp only [List.map_toArray, List.map_cons, List.map_nil]); first | done | rfl | (simp only [List.length_drop, List.length_take]; rfl)) ?_
                        with_reducible refine (strings_Join.calls _ _ x5_2 (⟨#[44]⟩ : ByteArray) t129 _ ?side1 ?side2 A42.out).mono ?_
                        (case side1 => repeat (first | exact (Kd.R_reads' HO_5.out).2.2 | (with_reducible refine Kd.C_alloc ?_ _) | (with_reducible refine Kd.C_drewN ?_ _) | (with_reducible refine Kd.C_drew ?_)))
                        (case side2 => exact (Kd.R_reads' HO_5.out).2.1)
                        rintro e w46 ⟨rfl, hb⟩
                        refine ⟨_, rfl, ?_⟩
                        have n0_ := Aside0.mk (Kd.R_below (by (with_reducible repeat (first | apply Kd.R_alloc | apply Kd.R_drewN | apply Kd.R_drew)); exact HO_5.out) hb)
                        have n1_ := Aside0.mk (blk_below (g := gb119) (o := .cells #[.slice (some ad128) l0_0.length c0_0, .slice A0_1 l0_1.length c0_1] 47 (0, 0)) (by (with_reducible repeat (first | refine blk_drewN ?_ _ | refine blk_drew ?_ | refine blk_alloc ?_ _)); exact BK119.out) hb)
                        have n2_ := Aside0.mk (blk_below (g := gb120) (o := .cells #[.int .i64 a1_0, .int .u64 a1_1] 30 (0, 0)) (by (with_reducible repeat (first | refine blk_drewN ?_ _ | refine blk_drew ?_ | refine blk_alloc ?_ _)); exact BK120.out) hb)
                        have n3_ := Aside0.mk (below_step (by repeat (first | (with_reducible first | exact HB.out | apply below_alloc | apply pw_below_drewN | apply below_drew1 | refine below_set ?_ GE119.out | refine below_set ?_ GE120.out) | exact HB.out)) hb)
                        clear HO_5
                        clear BK119
                        clear BK120
                        clear HB
                        have HO_5 := n0_
                        have BK119 := n1_
                        have BK120 := n2_
                        have HB := n3_
                        clear n0_ n1_ n2_ n3_
                        (try clear hb)
                        (try clear hb2)
                        (try clear hk)
                        (try clear hi)
                        refine hK.out _ _ ⟨(blk_cell BK119.out 0).trans rfl, (blk_cell BK119.out 1).trans rfl, (blk_cell BK120.out 0).trans rfl, (blk_cell BK120.out 1).trans rfl, ((HB.out.cell (World.block_lt_of_cell? w _ hw128_0)).trans hw128_0)⟩ (fun hHeld => ?_)
                        clear hK K
                        refine norm_ (a' := ?_) ?_ ?_
                        rotate_left
                        · show Act.put _ (some 57) _ = _
                          simp only [Act.put, List.setIfInBounds_toArray, List.set_cons_zero, List.set_cons_succ, i64_w, i32_w]
                          rfl
                        refine pure_ (i := 9) (N := some 58) (v := ?_) (a' := ?_) #[true, true, true, true, true, true, true, true, true, true, false] rfl rfl (any_of HT_.out (by kernel_rfl)) (fun _ _ _ h => h) (Or.inl ⟨by rfl, ?_⟩) ?_ ?_
                        rotate_left
                        · intro w'
                          go_simp
                          with_reducible rfl
                        rotate_left
                        · simp only [Act.put, List.setIfInBounds_toArray, List.set_cons_zero, List.set_cons_succ, i64_w, i32_w]
                          rfl
                        refine pure_ (i := 10) (N := some 4) (v := ?_) (a' := ?_) #[true, true, true, true, true, true, true, true, true, true, true] rfl rfl (any_of HT_.out (by kernel_rfl)) (fun _ _ _ h => h) (Or.inl ⟨by rfl, ?_⟩) ?_ ?_
                        rotate_left
                        · intro w'
                          go_simp
                          with_reducible rfl
                        rotate_left
                        · simp only [Act.put, List.setIfInBounds_toArray, List.set_cons_zero, List.set_cons_succ, i64_w, i32_w]
                          rfl
                        refine done_ (done_of HT_.out (by kernel_rfl)) ?_
                        try go_wp2
                        go_ret
                        exact ⟨by first | rfl | (simp [errW_none, errW_some] <;> rfl) | (simp [*, errW_none, errW_some] <;> rfl), by repeat (first | (with_reducible first | exact HB.out | apply below_alloc | apply pw_below_drewN | apply below_drew1 | refine below_set ?_ GE119.out | refine below_set ?_ GE120.out) | exact HB.out)⟩
                      · rw [if_neg c43] at H
                        exact absurd H (by simp)
                    · rw [if_neg c41] at H
                      exact absurd H (by simp)
                  · rw [if_neg c40] at H
                    exact absurd H (by simp)
                · rw [if_neg c39] at H
                  exact absurd H (by simp)
end Go.Proofs.YthgafcaoibfchaaDoor.X
end
section
namespace Go.Proofs.YthgafcaoibfchaaDoor.Spl
open Go.RowKit Go.Shelf Go.Proofs
attribute [local go_sem] Oper.semAt_some
set_option linter.unusedVariables false
set_option linter.unusedSimpArgs false
def pieces : Nat → List UInt8 → List (List UInt8)
  | 0, l => [l]
  | n + 1, l => if Lib.indexByte l 44 < 0 then [l] else l.take (Lib.indexByte l 44).toNat :: pieces n (l.drop ((Lib.indexByte l 44).toNat + 1))
def left (W : World) (B : Nat) : Nat := match W.cell? ⟨B, 0, none⟩ with
  | some (.string s) => s.size
  | _ => 0
theorem indexByte_lt : ∀ (l : List UInt8) (c : UInt8), Lib.indexByte l c < (l.length : Int) ∧ -1 ≤ Lib.indexByte l c
  | [], c => by simp [Lib.indexByte]
  | b :: l, c => by
    have ih := indexByte_lt l c
    simp only [Lib.indexByte, List.length_cons]
    split
    · omega
    · split <;> omega
set_option maxHeartbeats 4000000 in
set_option maxRecDepth 100000 in
theorem split1_in (n l Bs Bp Bv : Nat) (J : List (List UInt8) → World → Prop)
    (hset : ∀ pre W v, J pre W → J pre (W.setCell ⟨Bs, 0, none⟩ v))
    (hc : ∀ pre W, J pre W → W.cell? ⟨Bp, 0, none⟩ = some (.string ⟨#[44]⟩) ∧ W.cell? ⟨Bv, 0, none⟩ = some (.int .i64 0) ∧ W.frozen? ⟨Bs, 0, none⟩ = false)
    (hY : ∀ pre x W s, J pre W → W.cell? ⟨Bs, 0, none⟩ = some (.string s) → YieldAt Fence.wide (n - 1) Tryd.prog l #[.string ⟨x.toArray⟩] W fun e W' => e = .returned (.bool true) ∧ J (pre ++ [x]) W' ∧ W'.cell? ⟨Bs, 0, none⟩ = some (.string s))
    (s : List UInt8) (W : World) (h0 : J [] W) (hs : W.cell? ⟨Bs, 0, none⟩ = some (.string ⟨s.toArray⟩)) (hsz : s.length ≤ 1000000) :
    CallsIn Fence.wide n Tryd.prog 126 #[.func (.yield l) #[] #[], .pointer (some ⟨Bp, 0, none⟩), .pointer (some ⟨Bs, 0, none⟩), .pointer (some ⟨Bv, 0, none⟩)] W fun e W' => (∃ v, e = .returned v) ∧ J (pieces s.length s) W' := by
  refine callsIn_of_wp Tryd.func126 rfl trivial ?_ rfl
  simp only [Tryd.ntmps126, List.size_toArray, List.length_cons, List.length_nil, Nat.reduceAdd, Nat.reduceSub, Array.replicate_succ, Array.replicate_zero, List.push_toArray, List.append_toArray, List.nil_append, List.cons_append]
  obtain ⟨c1, c2, c3⟩ := hc [] W h0
  gi_wp2
  clear c1 c2 c3
  gi_loopw [] (fun wr => ∃ (pre : List (List UInt8)) (rest : List UInt8) (f : Nat), pieces s.length s = pre ++ pieces f rest ∧ rest.length ≤ f ∧ rest.length ≤ 1000000 ∧ J pre wr ∧ wr.cell? ⟨Bs, 0, none⟩ = some (.string ⟨rest.toArray⟩))
    (fun wr => left wr Bs)
  case atStart => exact ⟨[], s, s.length, by simp, Nat.le_refl _, hsz, h0, hs⟩
  case round =>
    obtain ⟨pre, rest, f, hp, hf, hr, hJ, hcs⟩ := hrel
    obtain ⟨c1, c2, c3⟩ := hc pre wr hJ
    have hi := indexByte_lt rest 44
    by_cases hneg : Lib.indexByte rest 44 < 0
    · have d1 : decide (Lib.indexByte rest 44 < 0) = true := decide_eq_true hneg
      have hpc : pieces f rest = [rest] := by
        cases f with
        | zero => rfl
        | succ f => rw [pieces, if_pos hneg]
      obtain ⟨fn, tmps, assign, body, hy, hR⟩ := hY pre rest wr _ hJ hcs
      gi_wp2_with (refine ⟨trivial, fun h => (by cases h), ?_⟩; refine (callsIn_wide.2 (Tryd.strings_Index_one ⟨rest.toArray⟩ 44 _)).mono ?_; rintro e w' ⟨rfl, rfl⟩)
      refine ⟨fun h => (by cases h), ?_⟩
      refine hR.mono ?_
      rintro e W3 ⟨rfl, hJ3, hc3⟩
      gi_wp2
      go_end0
      refine ⟨⟨_, rfl⟩, ?_⟩
      rw [hp, hpc]
      exact hJ3
    · have d1 : decide (Lib.indexByte rest 44 < 0) = false := decide_eq_false hneg
      obtain ⟨m, hm⟩ : ∃ m : Nat, Lib.indexByte rest 44 = (m : Int) := ⟨(Lib.indexByte rest 44).toNat, by omega⟩
      rw [hm] at hi hneg d1
      have hx : (⟨rest.toArray⟩ : ByteArray).extract 0 m = ⟨(rest.take m).toArray⟩ := by
        apply ByteArray.ext
        rw [ByteArray.data_extract]
        apply Array.ext'
        simp
      have hx2 : (⟨rest.toArray⟩ : ByteArray).extract (m + 1) rest.length = ⟨(rest.drop (m + 1)).toArray⟩ := by
        apply ByteArray.ext
        rw [ByteArray.data_extract]
        apply Array.ext'
        simp [ByteArray.size]
        exact List.take_of_length_le (by simp)
      have hsz2 : (⟨rest.toArray⟩ : ByteArray).size = rest.length := by simp [ByteArray.size]
      obtain ⟨fn, tmps, assign, body, hy, hR⟩ := hY pre (rest.take m) wr _ hJ hcs
      gi_wp2_with (refine ⟨trivial, fun h => (by cases h), ?_⟩; refine (callsIn_wide.2 (Tryd.strings_Index_one ⟨rest.toArray⟩ 44 _)).mono ?_; rw [hm]; rintro e w' ⟨rfl, rfl⟩)
      refine ⟨fun h => (by cases h), ?_⟩
      refine hR.mono ?_
      rintro e W3 ⟨rfl, hJ3, hc3⟩
      obtain ⟨k1, k2, k3⟩ := hc _ W3 hJ3
      clear hy hR c1 c2 c3
      have hW := World.cell?_setCell_same' W3 ⟨Bs, 0, none⟩ (Value.string ⟨(rest.drop (m + 1)).toArray⟩) (by rw [hc3]; rfl)
      gi_wp2
      have hl1 : left (W3.setCell ⟨Bs, 0, none⟩ (Value.string ⟨(rest.drop (m + 1)).toArray⟩)) Bs = rest.length - (m + 1) := by
        unfold left
        rw [hW]
        simp [ByteArray.size]
      have hl2 : ∀ w9 : World, w9.cell? ⟨Bs, 0, none⟩ = some (Value.string ⟨rest.toArray⟩) → left w9 Bs = rest.length := fun w9 h9 => by
        unfold left
        rw [h9]
        simp [ByteArray.size]
      have hfp : 0 < f := by omega
      obtain ⟨f, rfl⟩ : ∃ g, f = g + 1 := ⟨f - 1, by omega⟩
      refine ⟨⟨pre ++ [rest.take m], rest.drop (m + 1), f, ?_, by rw [List.length_drop]; omega, by rw [List.length_drop]; omega, hset _ _ _ hJ3, hW⟩, ?_⟩
      · rw [hp, pieces, hm, if_neg (show ¬ (m : Int) < 0 by omega), Int.toNat_natCast]
        simp
      · rw [hl1, hl2 _ hcs]
        omega
end Go.Proofs.YthgafcaoibfchaaDoor.Spl
end
section
namespace Go.Proofs.YthgafcaoibfchaaDoor.Spl
open Go.RowKit Go.Shelf Go.Proofs
set_option linter.unusedVariables false
set_option linter.unusedSimpArgs false
def cutL (l : List UInt8) : List UInt8 × List UInt8 × Bool := if Lib.indexByte l 58 < 0 then (l, [], false) else (l.take (Lib.indexByte l 58).toNat, l.drop ((Lib.indexByte l 58).toNat + 1), true)
set_option maxHeartbeats 4000000 in
set_option maxRecDepth 100000 in
theorem cut102 (l : List UInt8) (w : World) (hl : l.length ≤ 1000000) :
    Calls Tryd.prog 102 #[.string ⟨l.toArray⟩, .string ⟨#[58]⟩] w fun e w' => e = .returned (.tuple #[.string ⟨(cutL l).1.toArray⟩, .string ⟨(cutL l).2.1.toArray⟩, .bool (cutL l).2.2]) ∧ ∃ n, w' = w.drewN n := by
  have hi := indexByte_lt l 58
  have hsz : (⟨l.toArray⟩ : ByteArray).size = l.length := by simp [ByteArray.size]
  by_cases hneg : Lib.indexByte l 58 < 0
  · have d1 : decide (0 ≤ Lib.indexByte l 58) = false := decide_eq_false (by omega)
    unfold cutL
    rw [if_pos hneg]
    go_enter Tryd.func102, Tryd.ntmps102
    go_wp2_with (refine (Tryd.stringslite_Index_one ⟨l.toArray⟩ 58 _).mono ?_; rintro e w' ⟨rfl, rfl⟩)
    go_ret3
    exact ⟨rfl, 0, rfl⟩
  · obtain ⟨m, hm⟩ : ∃ m : Nat, Lib.indexByte l 58 = (m : Int) := ⟨(Lib.indexByte l 58).toNat, by omega⟩
    unfold cutL
    rw [if_neg hneg, hm, Int.toNat_natCast]
    rw [hm] at hi hneg
    have d1 : decide (0 ≤ (m : Int)) = true := decide_eq_true (by omega)
    have hx : (⟨l.toArray⟩ : ByteArray).extract 0 m = ⟨(l.take m).toArray⟩ := by
      apply ByteArray.ext
      rw [ByteArray.data_extract]
      apply Array.ext'
      simp
    have hx2 : (⟨l.toArray⟩ : ByteArray).extract (m + 1) l.length = ⟨(l.drop (m + 1)).toArray⟩ := by
      apply ByteArray.ext
      rw [ByteArray.data_extract]
      apply Array.ext'
      simp [ByteArray.size]
      exact List.take_of_length_le (by simp)
    have c1 : (0 : Int) ≤ ↑m := by omega
    have c2 : (↑m : Int) ≤ ↑(⟨l.toArray⟩ : ByteArray).size := by omega
    have c3 : (0 : Int) ≤ ↑m + 1 := by omega
    have c4 : (↑m + 1 : Int) ≤ ↑(⟨l.toArray⟩ : ByteArray).size := by omega
    go_enter Tryd.func102, Tryd.ntmps102
    go_wp2_with (refine (Tryd.stringslite_Index_one ⟨l.toArray⟩ 58 _).mono ?_; rw [hm]; rintro e w' ⟨rfl, rfl⟩)
    go_region_o
    go_wp2
    go_ret3
    exact ⟨rfl, 1, rfl⟩
set_option maxHeartbeats 4000000 in
theorem cut_one (l : List UInt8) (w : World) (hl : l.length ≤ 1000000) :
    Calls Tryd.prog 70 #[.string ⟨l.toArray⟩, .string ⟨#[58]⟩] w fun e w' => e = .returned (.tuple #[.string ⟨(cutL l).1.toArray⟩, .string ⟨(cutL l).2.1.toArray⟩, .bool (cutL l).2.2]) ∧ ∃ n, w' = w.drewN n := by
  generalize hc : cutL l = c
  have h := cut102 l w hl
  rw [hc] at h
  go_enter Tryd.func70, Tryd.ntmps70
  go_wp2_with (refine h.mono ?_; rintro e w' ⟨rfl, n, rfl⟩)
  go_ret3
  exact ⟨rfl, n, rfl⟩
end Go.Proofs.YthgafcaoibfchaaDoor.Spl
end
section
namespace Go.Proofs.YthgafcaoibfchaaDoor.X
open Go.RowKit Go.Shelf Go.Proofs Go.Proofs.YthgafcaoibfchaaDoor.Spl Go.Proofs.YthgafcaoibfchaaDoorW.PrintWords Go.Proofs.YthgafcaoibfchaaDoorW.PrintLast Go.Proofs.YthgafcaoibfchaaDoorW.PrintMore
attribute [local go_sem] Oper.semAt_some
set_option linter.unusedVariables false
set_option linter.unusedSimpArgs false
def place (l : List ByteArray) (x : List UInt8) : Int := Lib.idxOfS l ⟨x.toArray⟩
theorem index_any (A0 : Option Addr) (c0 : Nat) (l0 : List ByteArray) (x : List UInt8) (w : World) (hr0 : Kd.C Kd.string w A0 l0.length l0) (hl : l0.length ≤ 1000000) :
    Calls Tryd.prog 71 #[.slice A0 l0.length c0, .string ⟨x.toArray⟩] w fun e w' => e = .returned (.int .i64 (place l0 x)) ∧ w' = w := by
  cases l0 with
  | nil => exact Tryd.slices_Index_string_empty A0 c0 ⟨x.toArray⟩ w
  | cons a t =>
    obtain ⟨ad, rfl, h0⟩ := Kd.at_string hr0 0 (by decide) (by simp)
    have hsp : ad.spot = none := by
      have : ad.add (0 : Int).toNat = ad := by simp [Addr.add]
      rw [this] at h0
      unfold World.cell? at h0
      cases hs : ad.spot with
      | none => rfl
      | some z => rw [hs] at h0; split at h0 <;> simp at h0
    obtain ⟨b, off, sp⟩ := ad
    obtain rfl : sp = none := hsp
    have h := Tryd.slices_Index_string b off (a :: t).length c0 (a :: t) ⟨x.toArray⟩ w (Nat.le_refl _) (by omega) (fun j hj => by
      obtain ⟨ad', e', hx⟩ := Kd.at_string hr0 (j : Int) (by omega) (by omega)
      injection e' with e'
      subst e'
      have ha : (⟨b, off, none⟩ : Addr).add (j : Int).toNat = ⟨b, off + j, none⟩ := by
        rw [Int.toNat_natCast]; unfold Addr.add
        split
        · rename_i hz; subst hz; rfl
        · rfl
      rw [ha] at hx
      rw [hx]
      unfold rdOf
      rw [Int.toNat_natCast])
    rw [List.take_of_length_le (Nat.le_refl _)] at h
    exact h
theorem split_make (s : ByteArray) (w : World) :
    Calls Tryd.prog 72 #[.string s, .string ⟨#[44]⟩] w fun e w' => e = .returned (.func (.func 126) #[] #[.pointer (some ⟨w.heap.size + 1, 0, none⟩), .pointer (some ⟨w.heap.size, 0, none⟩), .pointer (some ⟨w.heap.size + 2, 0, none⟩)]) ∧
      w' = ((w.alloc (.cells #[.string s] 9)).alloc (.cells #[.string ⟨#[44]⟩] 9)).alloc (.cells #[.int .i64 0] 3) := by
  have h : Calls Tryd.prog 103 #[.string s, .string ⟨#[44]⟩, .int .i64 0] w fun e w' => e = .returned (.func (.func 126) #[] #[.pointer (some ⟨w.heap.size + 1, 0, none⟩), .pointer (some ⟨w.heap.size, 0, none⟩), .pointer (some ⟨w.heap.size + 2, 0, none⟩)]) ∧
      w' = ((w.alloc (.cells #[.string s] 9)).alloc (.cells #[.string ⟨#[44]⟩] 9)).alloc (.cells #[.int .i64 0] 3) := by
    go_enter Tryd.func103, Tryd.ntmps103
    go_wp2
    go_ret
    exact ⟨by simp, rfl⟩
  go_enter Tryd.func72, Tryd.ntmps72
  go_wp2_with (refine h.mono ?_; rintro e w' ⟨rfl, rfl⟩)
  go_ret
  exact ⟨rfl, rfl⟩
def orAt (c k : Int) : Int := if k ≥ 0 then Go.bits .or .u64 c (shl .u64 1 k) else c
def catsOf (l1 : List ByteArray) (ps : List (List UInt8)) (c : Int) : Int := ps.foldl (fun c x => orAt c (place l1 x)) c
theorem parse_res (tmps : Array Value) (w : World) (g : Nat) (x y : Int) (h4 : tmps.getD 4 undef = .pointer (some ⟨g, 0, none⟩)) (h0 : w.cell? ⟨g, 0, none⟩ = some (.int .i64 x)) (h1 : w.cell? ⟨g, 1, none⟩ = some (.int .u64 y)) :
    (results Tryd.f29 tmps).run Tryd.prog w = .ok (.tuple #[.agg #[.int .i64 x, .int .u64 y], tmps.getD 5 undef]) w := by
  rw [results_cell_tmp rfl, h4]
  have a30 := Tryd.isAgg30
  have u30 := Tryd.underlying30
  go_simp
theorem parse_end (w W5 : World) (D : Nat) (lv ct lv' ct' : Int) (h1 : w.heap.size + 1 < D) (hb : W5.heap[w.heap.size + 1]? = some (.cells #[.int .i64 lv, .int .u64 ct] 30 (0, 0))) (hd : W5.heap[D]? = some (.deferred (some []))) (hw : Below w.heap.size w W5) :
    let X := (W5.setCell ⟨w.heap.size + 1, 0, none⟩ (.int .i64 lv')).setCell ⟨w.heap.size + 1, 1, none⟩ (.int .u64 ct')
    X.heap[D]? = some (.deferred (some [])) ∧ (X.putObj D (.deferred none)).cell? ⟨w.heap.size + 1, 0, none⟩ = some (.int .i64 lv') ∧ (X.putObj D (.deferred none)).cell? ⟨w.heap.size + 1, 1, none⟩ = some (.int .u64 ct') ∧ Below w.heap.size w (X.putObj D (.deferred none)) := by
  intro X
  have hX : X.heap[w.heap.size + 1]? = some (.cells #[.int .i64 lv', .int .u64 ct'] 30 (0, 0)) := blk_put (blk_put hb 0 (.int .i64 lv') rfl) 1 (.int .u64 ct') rfl
  have hXd : X.heap[D]? = some (.deferred (some [])) := (Below.heap_setCell _ ⟨w.heap.size + 1, 1, none⟩ _ D (by show D ≠ w.heap.size + 1; omega)).trans ((Below.heap_setCell W5 ⟨w.heap.size + 1, 0, none⟩ _ D (by show D ≠ w.heap.size + 1; omega)).trans hd)
  have hXw : Below w.heap.size w X := below_set (below_set hw (by omega)) (by omega)
  have hZ : (X.putObj D (.deferred none)).heap[w.heap.size + 1]? = some (.cells #[.int .i64 lv', .int .u64 ct'] 30 (0, 0)) := (World.putObj_heap_other (by omega)).trans hX
  exact ⟨hXd, (blk_cell hZ 0).trans rfl, (blk_cell hZ 1).trans rfl, hXw.trans (belowK_b (w := w) (Nat.le_refl _) X D _ _ (by omega) hXd rfl rfl)⟩
theorem range_go {P : Program} {n : Nat} {g : Operand} {ps : Array Tmp} {assign body : Code} {Q : Exit → Act → World → Prop} {a : Act} {V : World} {gf : Nat} {lb : Array Value} (hg : a.eval g = .func (.func gf) #[] lb) (eg : ∀ args w, (callFunc gf args).run P w = .ok (.enter gf args) w)
    (h : ∀ (r : Loop), r.state = .ready → r.pending = none → r.tmps = a.tmps → r.params = ps → r.assign = assign → r.body = body →
      CallsIn Fence.wide (n - 1) P gf (#[.func (.yield (V.heap.size + 1)) #[] #[]] ++ lb) ((V.alloc (.deferred (some []))).alloc (.loop r)) (rangePost Fence.wide n P (V.heap.size + 1) Q { a with defers := [{ target := .collected V.heap.size, args := #[] }] ++ a.defers })) :
    (Code.rangeFunc g ps assign body).wpIn Fence.wide n P Q a V := by
  refine wpIn_rangeFunc ?_
  intro fn hfn
  obtain ⟨r, hr⟩ : ∃ r : Loop, r = { state := .ready, pending := none, fn, tmps := a.tmps, params := ps, assign, body, defers := V.heap.size } := ⟨_, rfl⟩
  obtain ⟨W1, hW1⟩ : ∃ W1, (V.alloc (.deferred (some []))).alloc (.loop r) = W1 := ⟨_, rfl⟩
  have hc := h r (by rw [hr]) (by rw [hr]) (by rw [hr]) (by rw [hr]) (by rw [hr]) (by rw [hr])
  rw [hW1] at hc
  have hdep : Fence.wide.depth.isSome = true → 1 ≤ n := fun h => (by cases h)
  refine ⟨V.heap.size + 1, [{ target := .collected V.heap.size, args := #[] }], W1, { target := .fn (.func gf) lb, args := #[.func (.yield (V.heap.size + 1)) #[] #[]] }, W1, gf,
    #[.func (.yield (V.heap.size + 1)) #[] #[]] ++ lb, W1, ?_, ?_, (fun _ _ => trivial), ?_, hdep, ?_⟩
  · rw [← hW1, hr]; exact run_enterLoop_outer _ _ _ _ _
  · simp only [resolve, hg]
    simp [go_sem]
  · simp [invoke, go_sem, eg]
  · exact hc
structure Inv (w : World) (lv : Int) (l1 : List ByteArray) (A B : Value) (Bs D l : Nat) (r : Loop) (pre : List (List UInt8)) (W : World) : Prop where
  ha : W.heap[w.heap.size]? = some (.cells #[A, B] 47 (0, 0))
  hb : W.heap[w.heap.size + 1]? = some (.cells #[.int .i64 lv, .int .u64 (catsOf l1 pre 0)] 30 (0, 0))
  hs : ∃ x, W.heap[Bs]? = some (.cells #[x] 9 (0, 0))
  hp : W.heap[Bs + 1]? = some (.cells #[.string ⟨#[44]⟩] 9 (0, 0))
  hv : W.heap[Bs + 2]? = some (.cells #[.int .i64 0] 3 (0, 0))
  hl : W.heap[l]? = some (.loop r)
  hd : W.heap[D]? = some (.deferred (some []))
  hw : Below w.heap.size w W
theorem Inv.set {w : World} {lv : Int} {l1 : List ByteArray} {A B : Value} {Bs D l : Nat} {r : Loop} {pre : List (List UInt8)} {W : World} (h : Inv w lv l1 A B Bs D l r pre W) (h1 : w.heap.size + 1 < Bs) (h2 : Bs + 2 < D) (h3 : D < l) (v : Value) :
    Inv w lv l1 A B Bs D l r pre (W.setCell ⟨Bs, 0, none⟩ v) := by
  have far (k : Nat) (hk : k ≠ Bs) := Below.heap_setCell W ⟨Bs, 0, none⟩ v k hk
  obtain ⟨x, hx⟩ := h.hs
  exact ⟨(far _ (by omega)).trans h.ha, (far _ (by omega)).trans h.hb, ⟨v, blk_set hx 0 v⟩, (far _ (by omega)).trans h.hp, (far _ (by omega)).trans h.hv, (far _ (by omega)).trans h.hl, (far _ (by omega)).trans h.hd, below_set h.hw (by omega)⟩
theorem Inv.put {w : World} {lv : Int} {l1 : List ByteArray} {A B : Value} {Bs D l : Nat} {r : Loop} {pre : List (List UInt8)} {W : World} (h : Inv w lv l1 A B Bs D l r pre W) (h1 : w.heap.size + 1 < Bs) (h2 : Bs + 2 < D) (h3 : D < l) (r' : Loop) :
    Inv w lv l1 A B Bs D l r' pre (W.putObj l (.loop r')) := by
  have far (k : Nat) (hk : k ≠ l) := World.putObj_heap_other (w := W) (r := l) (k := k) (o := .loop r') hk
  obtain ⟨x, hx⟩ := h.hs
  have hlt : l < W.heap.size := (Array.getElem?_eq_some_iff.1 h.hl).1
  exact ⟨(far _ (by omega)).trans h.ha, (far _ (by omega)).trans h.hb, ⟨x, (far _ (by omega)).trans hx⟩, (far _ (by omega)).trans h.hp, (far _ (by omega)).trans h.hv, World.putObj_heap_same hlt, (far _ (by omega)).trans h.hd,
    h.hw.trans (belowK_b (w := w) (Nat.le_refl _) W l _ _ (by omega) h.hl rfl rfl)⟩
theorem Inv.cat {w : World} {lv : Int} {l1 : List ByteArray} {A B : Value} {Bs D l : Nat} {r : Loop} {pre pre' : List (List UInt8)} {W : World} (h : Inv w lv l1 A B Bs D l r pre W) (h1 : w.heap.size + 1 < Bs) (h2 : Bs + 2 < D) (h3 : D < l) {v : Int} (hv : catsOf l1 pre' 0 = v) :
    Inv w lv l1 A B Bs D l r pre' ((W.setCell ⟨w.heap.size + 1, 1, none⟩ (.int .u64 v)).drew) := by
  have far (k : Nat) (hk : k ≠ w.heap.size + 1) : ((W.setCell ⟨w.heap.size + 1, 1, none⟩ (.int .u64 v)).drew).heap[k]? = W.heap[k]? := Below.heap_setCell W ⟨w.heap.size + 1, 1, none⟩ _ k hk
  obtain ⟨x, hx⟩ := h.hs
  refine ⟨(far _ (by omega)).trans h.ha, ?_, ⟨x, (far _ (by omega)).trans hx⟩, (far _ (by omega)).trans h.hp, (far _ (by omega)).trans h.hv, (far _ (by omega)).trans h.hl, (far _ (by omega)).trans h.hd, below_drew1 (below_set h.hw (by omega))⟩
  rw [hv]
  exact blk_put h.hb 1 (.int .u64 v) rfl
theorem Inv.same {w : World} {lv : Int} {l1 : List ByteArray} {A B : Value} {Bs D l : Nat} {r : Loop} {pre pre' : List (List UInt8)} {W : World} (h : Inv w lv l1 A B Bs D l r pre W) (hv : catsOf l1 pre' 0 = catsOf l1 pre 0) : Inv w lv l1 A B Bs D l r pre' W :=
  ⟨h.ha, by rw [hv]; exact h.hb, h.hs, h.hp, h.hv, h.hl, h.hd, h.hw⟩
theorem cell_of_heap {w W : World} {a : Addr} (h : W.heap[a.block]? = w.heap[a.block]?) : W.cell? a = w.cell? a := by
  unfold World.cell?; rw [h]
set_option maxHeartbeats 4000000 in
set_option maxRecDepth 100000 in
theorem parse_walk (A0 : Option Addr) (c0 : Nat) (l0 : List ByteArray) (A1 : Option Addr) (c1 : Nat) (l1 : List ByteArray) (s : List UInt8) (w : World) (hr0 : Kd.C Kd.string w A0 l0.length l0) (hc0 : l0.length ≤ c0) (hr1 : Kd.C Kd.string w A1 l1.length l1) (hc1 : l1.length ≤ c1)
    (hl0 : l0.length ≤ 1000000) (hl1 : l1.length ≤ 1000000) (hs : s.length ≤ 1000000) (hm : lattice_May.f l0 l1 = some true) (a b : List UInt8) (hc : cutL s = (a, b, true)) (hne : s ≠ []) (k : Nat) (pr : ByteArray) (hpr : lattice_Print.f k l0 l1 (place l0 a) (catsOf l1 (pieces b.length b) 0) = some pr) :
    Calls Tryd.prog 29 #[.agg #[.slice A0 l0.length c0, .slice A1 l1.length c1], .string ⟨s.toArray⟩] w fun e w' => e = .returned (.tuple #[.agg #[.int .i64 (if pr.toList = s then place l0 a else 0), .int .u64 (if pr.toList = s then catsOf l1 (pieces b.length b) 0 else 0)], .int .i64 (if pr.toList = s then 0 else 17)]) ∧ Below w.heap.size w w' := by
  have hu47 := Tryd.underlying47
  have hu30 := Tryd.underlying30
  have HR0 := Aside0.mk hr0
  have HR1 := Aside0.mk hr1
  have HM := Aside0.mk hm
  have HB := Aside0.mk (Below.refl w.heap.size w)
  clear hr0 hr1 hm
  refine (callsIn_wide (n := 9)).1 ?_
  refine callsIn_of_wp_marks Tryd.func29 rfl trivial ?_ rfl
  simp only [Tryd.ntmps29, List.size_toArray, List.length_cons, List.length_nil, Nat.reduceAdd, Nat.reduceSub, Array.replicate_succ, Array.replicate_zero, List.push_toArray, List.append_toArray, List.nil_append, List.cons_append]
  gi_wp2
  refine ⟨trivial, ?_⟩
  refine (callsIn_wide.2 (lattice_May.calls A0 c0 l0 A1 c1 l1 true _ (Kd.C_alloc (Kd.C_alloc HR0.out _) _) hc0 (Kd.C_alloc (Kd.C_alloc HR1.out _) _) hc1 HM.out)).mono ?_
  rintro e w1 ⟨rfl, hb1⟩
  have hba : Below w.heap.size w w1 := below_step (below_alloc (below_alloc (Below.refl _ _) _) _) hb1
  have ka : w1.heap[w.heap.size]? = some (.cells #[.slice A0 l0.length c0, .slice A1 l1.length c1] 47) := (hb1.block _ (by simp; omega)).trans (blk_alloc (blk_new w _) _)
  have kb : w1.heap[w.heap.size + 1]? = some (.cells #[.int .i64 0, .int .u64 0] 30) := (hb1.block _ (by simp)).trans (by
    have := blk_new (w.alloc (.cells #[.slice A0 l0.length c0, .slice A1 l1.length c1] 47)) (.cells #[.int .i64 0, .int .u64 0] 30)
    rw [World.size_alloc] at this
    exact this)
  have HA := Aside0.mk ka
  have HBk := Aside0.mk kb
  have HB1 := Aside0.mk hba
  clear hb1 ka kb hba HB
  gi_wp2
  refine ⟨trivial, ?_⟩
  refine (callsIn_wide.2 (cut_one s _ hs)).mono ?_
  rintro e w2 ⟨rfl, n2, rfl⟩
  rw [hc]
  have hcz0 : (w1.drewN n2).cell? ⟨w.heap.size, 0, none⟩ = some (.slice A0 l0.length c0) := (blk_cell HA.out 0).trans rfl
  have hcz1 : (w1.drewN n2).cell? ⟨w.heap.size, 1, none⟩ = some (.slice A1 l1.length c1) := (blk_cell HA.out 1).trans rfl
  have hfb0 : (w1.drewN n2).frozen? ⟨w.heap.size + 1, 0, none⟩ = false := blk_frozen HBk.out 0
  have hfb1 : (w1.drewN n2).frozen? ⟨w.heap.size + 1, 1, none⟩ = false := blk_frozen HBk.out 1
  have hbz0 : (w1.drewN n2).cell? ⟨w.heap.size + 1, 0, none⟩ = some (.int .i64 0) := (blk_cell HBk.out 0).trans rfl
  have hbz1 : (w1.drewN n2).cell? ⟨w.heap.size + 1, 1, none⟩ = some (.int .u64 0) := (blk_cell HBk.out 1).trans rfl
  gi_wp2
  refine ⟨trivial, ?_⟩
  refine (callsIn_wide.2 (index_any A0 c0 l0 a _ (Kd.C_drewN (Kd.C_below HR0.out HB1.out) _) hl0)).mono ?_
  rintro e w2 ⟨rfl, rfl⟩
  obtain ⟨lv, hlv⟩ : ∃ lv, place l0 a = lv := ⟨_, rfl⟩
  rw [hlv] at hpr ⊢
  gi_wp2
  refine ⟨trivial, ?_⟩
  refine (callsIn_wide.2 (split_make ⟨b.toArray⟩ _)).mono ?_
  rintro e w3 ⟨rfl, rfl⟩
  gi_wp2
  obtain ⟨V, hV⟩ : ∃ V, ((((w1.drewN n2).setCell ⟨w.heap.size + 1, 0, none⟩ (.int .i64 lv)).alloc (.cells #[.string ⟨b.toArray⟩] 9)).alloc (.cells #[.string ⟨#[44]⟩] 9)).alloc (.cells #[.int .i64 0] 3) = V := ⟨_, rfl⟩
  obtain ⟨Bs, hBs⟩ : ∃ Bs, w1.heap.size = Bs := ⟨_, rfl⟩
  have hgb : w.heap.size + 1 < Bs := by rw [← hBs]; exact (Array.getElem?_eq_some_iff.1 HBk.out).1
  have hset : ∀ k, k ≠ w.heap.size + 1 → ((w1.drewN n2).setCell ⟨w.heap.size + 1, 0, none⟩ (.int .i64 lv)).heap[k]? = w1.heap[k]? := fun k hk => Below.heap_setCell (w1.drewN n2) _ _ k hk
  have hsz1 : ((w1.drewN n2).setCell ⟨w.heap.size + 1, 0, none⟩ (.int .i64 lv)).heap.size = Bs := by rw [← hBs]; simp
  have hVsz : V.heap.size = Bs + 3 := by rw [← hV]; simp only [World.size_alloc, hsz1]
  have I0 : ∀ (l D : Nat) (r : Loop) (W : World), Bs + 2 < D → D < l → (∀ k, k < Bs + 3 → W.heap[k]? = V.heap[k]?) → W.heap[l]? = some (.loop r) → W.heap[D]? = some (.deferred (some [])) → Below w.heap.size w W → Inv w lv l1 (.slice A0 l0.length c0) (.slice A1 l1.length c1) Bs D l r [] W := by
    intro l D r W h2 h3 hk h4 h5 h6
    refine ⟨?_, ?_, ⟨.string ⟨b.toArray⟩, ?_⟩, ?_, ?_, h4, h5, h6⟩
    · rw [hk _ (by omega), ← hV]
      exact blk_alloc (blk_alloc (blk_alloc ((hset _ (by omega)).trans HA.out) _) _) _
    · rw [hk _ (by omega), ← hV]
      exact blk_alloc (blk_alloc (blk_alloc (blk_put (w := w1.drewN n2) HBk.out 0 (.int .i64 lv) rfl) _) _) _
    · rw [hk _ (by omega), ← hV]
      have := blk_new ((w1.drewN n2).setCell ⟨w.heap.size + 1, 0, none⟩ (.int .i64 lv)) (.cells #[.string ⟨b.toArray⟩] 9)
      rw [hsz1] at this
      exact blk_alloc (blk_alloc this _) _
    · rw [hk _ (by omega), ← hV]
      have := blk_new (((w1.drewN n2).setCell ⟨w.heap.size + 1, 0, none⟩ (.int .i64 lv)).alloc (.cells #[.string ⟨b.toArray⟩] 9)) (.cells #[.string ⟨#[44]⟩] 9)
      rw [World.size_alloc, hsz1] at this
      exact blk_alloc this _
    · rw [hk _ (by omega), ← hV]
      have := blk_new ((((w1.drewN n2).setCell ⟨w.heap.size + 1, 0, none⟩ (.int .i64 lv)).alloc (.cells #[.string ⟨b.toArray⟩] 9)).alloc (.cells #[.string ⟨#[44]⟩] 9)) (.cells #[.int .i64 0] 3)
      rw [World.size_alloc, World.size_alloc, hsz1] at this
      exact this
  have hVB : Below w.heap.size w V := by
    rw [← hV]
    exact below_alloc (below_alloc (below_alloc (below_set (pw_below_drewN HB1.out n2) (by omega)) _) _) _
  have hVs : V.heap[Bs]? = some (.cells #[.string ⟨b.toArray⟩] 9 (0, 0)) := by
    rw [← hV]
    have := blk_new ((w1.drewN n2).setCell ⟨w.heap.size + 1, 0, none⟩ (.int .i64 lv)) (.cells #[.string ⟨b.toArray⟩] 9)
    rw [hsz1] at this
    exact blk_alloc (blk_alloc this _) _
  rw [hV, hBs]
  clear hV hcz0 hcz1 hfb0 hfb1 hbz0 hbz1
  refine range_go (gf := 126) (lb := #[.pointer (some ⟨Bs + 1, 0, none⟩), .pointer (some ⟨Bs, 0, none⟩), .pointer (some ⟨Bs + 2, 0, none⟩)]) rfl (enters_of Tryd.func126 (by kernel_rfl) rfl) ?_
  intro r hr1 hr2 hr3 hr4 hr5 hr6
  rw [hVsz]
  have hbl : b.length ≤ 1000000 := by
    unfold cutL at hc
    split at hc
    · simp at hc
    · simp only [Prod.mk.injEq] at hc
      rw [← hc.2.1, List.length_drop]; omega
  have hD : ((V.alloc (.deferred (some []))).alloc (.loop r)).heap[Bs + 3]? = some (.deferred (some [])) := by
    have := blk_new V (.deferred (some []))
    rw [hVsz] at this
    exact blk_alloc this _
  have hL : ((V.alloc (.deferred (some []))).alloc (.loop r)).heap[Bs + 3 + 1]? = some (.loop r) := by
    have := blk_new (V.alloc (.deferred (some []))) (.loop r)
    rw [World.size_alloc, hVsz] at this
    exact this
  have hI0 := I0 (Bs + 3 + 1) (Bs + 3) r _ (by omega) (by omega) (fun k hk => (Below.heap_alloc (V.alloc (.deferred (some []))) _ k (by rw [World.size_alloc]; omega)).trans (Below.heap_alloc V _ k (by omega))) hL hD (below_alloc (below_alloc hVB _) _)
  have hcb : ((V.alloc (.deferred (some []))).alloc (.loop r)).cell? ⟨Bs, 0, none⟩ = some (.string ⟨b.toArray⟩) := by
    have e : ((V.alloc (.deferred (some []))).alloc (.loop r)).heap[Bs]? = V.heap[Bs]? := (Below.heap_alloc (V.alloc (.deferred (some []))) _ Bs (by rw [World.size_alloc]; omega)).trans (Below.heap_alloc V _ Bs (by omega))
    exact (blk_cell (e.trans hVs) 0).trans rfl
  refine (split1_in 8 (Bs + 3 + 1) Bs (Bs + 1) (Bs + 2) (Inv w lv l1 (.slice A0 l0.length c0) (.slice A1 l1.length c1) Bs (Bs + 3) (Bs + 3 + 1) r) ?_ ?_ ?_ b _ hI0 hcb hbl).mono ?_
  · intro pre W v hI
    exact hI.set hgb (by omega) (by omega) v
  · intro pre W hI
    obtain ⟨x, hx⟩ := hI.hs
    exact ⟨(blk_cell hI.hp 0).trans rfl, (blk_cell hI.hv 0).trans rfl, blk_frozen hx 0⟩
  · intro pre x W s' hI hcell
    clear hI0 hcb hL hD I0 hset
    refine ⟨_, _, _, _, run_yield hI.hl (by rw [hr4]; rfl), roundIn_of_wpIn trivial ?_⟩
    rw [hr3, hr4, hr5, hr6]
    simp only [List.zip_toArray, List.foldl_toArray, Array.foldl_toList, List.zip_cons_cons, List.zip_nil_right, List.foldl_cons, List.foldl_nil, List.setIfInBounds_toArray, List.set_cons_succ, List.set_cons_zero]
    gi_wp2
    refine ⟨_, run_beginRound hI.hl hr1, ?_⟩
    have hI2 := hI.put hgb (by omega) (by omega) { r with state := .busy }
    have hcell2 : (W.putObj (Bs + 3 + 1) (.loop { r with state := .busy })).cell? ⟨Bs, 0, none⟩ = some (.string s') :=
      (cell_of_heap (World.putObj_heap_other (by show Bs ≠ Bs + 3 + 1; omega))).trans hcell
    generalize W.putObj (Bs + 3 + 1) (.loop { r with state := .busy }) = W2 at hI2 hcell2 ⊢
    have ka : W2.cell? ⟨w.heap.size, 1, none⟩ = some (.slice A1 l1.length c1) := (blk_cell hI2.ha 1).trans rfl
    have kb : W2.cell? ⟨w.heap.size + 1, 1, none⟩ = some (.int .u64 (catsOf l1 pre 0)) := (blk_cell hI2.hb 1).trans rfl
    have kf : W2.frozen? ⟨w.heap.size + 1, 1, none⟩ = false := blk_frozen hI2.hb 1
    have hcs : catsOf l1 (pre ++ [x]) 0 = orAt (catsOf l1 pre 0) (place l1 x) := by unfold catsOf; rw [List.foldl_append]; rfl
    have hend : ∀ W3 : World, Inv w lv l1 (.slice A0 l0.length c0) (.slice A1 l1.length c1) Bs (Bs + 3) (Bs + 3 + 1) { r with state := .busy } (pre ++ [x]) W3 → W3.cell? ⟨Bs, 0, none⟩ = some (.string s') →
        ∃ v w', (Instr.endRound (Bs + 3 + 1) none).run Tryd.prog W3 = .ok v w' ∧ Ending.returned v = .returned (.bool true) ∧ Inv w lv l1 (.slice A0 l0.length c0) (.slice A1 l1.length c1) Bs (Bs + 3) (Bs + 3 + 1) r (pre ++ [x]) w' ∧ w'.cell? ⟨Bs, 0, none⟩ = some (.string s') := by
      intro W3 h3 h4
      have hp := h3.put hgb (by omega) (by omega) r
      refine ⟨.bool true, W3.putObj (Bs + 3 + 1) (.loop r), ?_, rfl, hp, ?_⟩
      · have := run_endRound (P := Tryd.prog) none h3.hl
        refine this.trans ?_
        have e : ({ { r with state := .busy } with state := if (none : Option Code).isNone = true then .ready else .done, pending := none } : Loop) = r := by
          cases r; simp_all
        rw [e]; rfl
      · exact (cell_of_heap (World.putObj_heap_other (by show Bs ≠ Bs + 3 + 1; omega))).trans h4
    gi_wp2
    refine ⟨trivial, ?_⟩
    refine (CallsIn.inRound _ (callsIn_wide.2 (index_any A1 c1 l1 x _ (Kd.C_below HR1.out hI2.hw) hl1))).mono ?_
    rintro e w9 ⟨rfl, rfl⟩
    generalize place l1 x = pk at hcs ⊢
    by_cases hpk : pk ≥ 0
    · have d1 : decide (0 ≤ pk) = true := decide_eq_true hpk
      gi_wp2
      have hmix : Tryd.prog.follows Departure.mixedOrders = true := by kernel_rfl
      gi_region_o
      all_goals gi_wp2
      all_goals
        refine hend _ (hI2.cat hgb (by omega) (by omega) ?_) ?_
        · rw [hcs]; unfold orAt; rw [if_pos hpk]; unfold shl; rw [Int.one_mul]; rfl
        · exact (cell_of_heap (Below.heap_setCell w9 ⟨w.heap.size + 1, 1, none⟩ _ Bs (by show Bs ≠ w.heap.size + 1; omega))).trans hcell2
    · have d1 : decide (0 ≤ pk) = false := decide_eq_false hpk
      gi_wp2
      refine hend _ (hI2.same ?_) hcell2
      rw [hcs]; unfold orAt; rw [if_neg (show ¬ pk ≥ 0 by omega)]
  · rintro e W' ⟨⟨v, rfl⟩, hI⟩
    refine ⟨none, W'.putObj (Bs + 3 + 1) (.loop { r with state := .exhausted }), (run_endLoop (P := Tryd.prog) hI.hl (by rw [hr1]; decide)).trans (congrArg (fun p => Result.ok p (W'.putObj (Bs + 3 + 1) (.loop { r with state := .exhausted }))) hr2), ?_⟩
    have hse : s.isEmpty = false := by cases s with
      | nil => exact absurd rfl hne
      | cons _ _ => rfl
    have hI4 := hI.put hgb (by omega) (by omega) { r with state := .exhausted }
    generalize W'.putObj (Bs + 3 + 1) (.loop { r with state := .exhausted }) = W4 at hI4 ⊢
    obtain ⟨ct, hct⟩ : ∃ ct, catsOf l1 (pieces b.length b) 0 = ct := ⟨_, rfl⟩
    have hb4 := hI4.hb
    rw [hct] at hb4 hpr
    have ka0 : W4.cell? ⟨w.heap.size, 0, none⟩ = some (.slice A0 l0.length c0) := (blk_cell hI4.ha 0).trans rfl
    have ka1 : W4.cell? ⟨w.heap.size, 1, none⟩ = some (.slice A1 l1.length c1) := (blk_cell hI4.ha 1).trans rfl
    have kb0 : W4.cell? ⟨w.heap.size + 1, 0, none⟩ = some (.int .i64 lv) := (blk_cell hb4 0).trans rfl
    have kb1 : W4.cell? ⟨w.heap.size + 1, 1, none⟩ = some (.int .u64 ct) := (blk_cell hb4 1).trans rfl
    have kf0 : W4.frozen? ⟨w.heap.size + 1, 0, none⟩ = false := blk_frozen hb4 0
    have kf1 : W4.frozen? ⟨w.heap.size + 1, 1, none⟩ = false := blk_frozen hb4 1
    clear hI0 hcb hL hD I0 hset hI
    gi_wp2
    refine ⟨trivial, ?_⟩
    refine (callsIn_wide.2 (lattice_Print.calls k A0 c0 l0 A1 c1 l1 lv ct pr _ (Kd.C_below HR0.out hI4.hw) hc0 (Kd.C_below HR1.out hI4.hw) hc1 hpr)).mono ?_
    rintro e W5 ⟨rfl, hb5⟩
    have hb6 := blk_below hb4 hb5
    have hd6 := blk_below hI4.hd hb5
    have hw6 : Below w.heap.size w W5 := below_step hI4.hw hb5
    have kb0 : W5.cell? ⟨w.heap.size + 1, 0, none⟩ = some (.int .i64 lv) := (blk_cell hb6 0).trans rfl
    have kb1 : W5.cell? ⟨w.heap.size + 1, 1, none⟩ = some (.int .u64 ct) := (blk_cell hb6 1).trans rfl
    have kf0 : W5.frozen? ⟨w.heap.size + 1, 0, none⟩ = false := blk_frozen hb6 0
    have kf1 : W5.frozen? ⟨w.heap.size + 1, 1, none⟩ = false := blk_frozen hb6 1
    by_cases hq : pr.toList = s
    · have q1 : (pr.toList != s) = false := bne_eq_false_iff_eq.mpr hq
      have q0 : (pr.toList == s) = true := beq_iff_eq.mpr hq
      gi_wp2
      obtain ⟨z1, z2, z3, z4⟩ := parse_end w W5 (Bs + 3) lv ct lv ct (by omega) hb6 hd6 hw6
      refine ⟨by simp, .inl ⟨_, _, rfl, run_takeDeferred z1, ?_⟩⟩
      exact ⟨_, parse_res _ _ _ _ _ rfl z2 z3, by first | rfl | (simp [hq, hlv, hct]; done) | (simp [hlv, hct]; done), z4⟩
    · have q1 : (pr.toList != s) = true := bne_iff_ne.mpr hq
      have q0 : (pr.toList == s) = false := beq_eq_false_iff_ne.mpr hq
      gi_wp2
      obtain ⟨z1, z2, z3, z4⟩ := parse_end w W5 (Bs + 3) lv ct 0 0 (by omega) hb6 hd6 hw6
      refine ⟨by simp, .inl ⟨_, _, rfl, run_takeDeferred z1, ?_⟩⟩
      exact ⟨_, parse_res _ _ _ _ _ rfl z2 z3, by first | rfl | (simp [hq]; done) | (simp; done), z4⟩
end Go.Proofs.YthgafcaoibfchaaDoor.X
end
section
namespace Go.Proofs.Eng
open Go Go.RowKit
set_option linter.unusedSimpArgs false
set_option linter.unusedVariables false
variable {P : Program} {o : Oper} {a : Act} {w : World}
def isNil (v : Value) : Bool := match v with | .slice none _ _ => true | _ => false
theorem run_isnil {T e U : TypeId} {x : Operand} {v : Value} {n size : Nat} {xs : List Value} (hop : o.op = .binOp .eql T x (.const (.slice none 0 0)) U) (hu : P.underlying T = some (.slice e)) (h : a.eval x = v) (F : Reads w v n size xs) : (execOp a.eval o).run P w = .ok (.value (.bool (isNil v))) w := by
  obtain ⟨_, A, c, rfl, _⟩ := F
  unfold execOp; rw [hop]
  have hc : a.eval (.const (.slice none 0 0)) = .slice none 0 0 := rfl
  simp only [h, hc]
  have hr := run_equal_slice_nil (P := P) w T e A n c hu
  have hg : (eqGuard .eql T x (.const (.slice none 0 0)) (.slice A n c) (.slice none 0 0)).run P w = .ok () w := by
    unfold eqGuard
    simp [Sem.run_bind, Sem.run_pure, run_underlying hu]
  simp only [Sem.run_bind, hg, Result.andThen_ok, binOp, hr, isNil]
  cases A <;> rfl
theorem isNil_zero {v : Value} {n size : Nat} {xs : List Value} (F : Reads w v n size xs) (h : isNil v = true) (hs : (decide (0 < size)) = true) : n = 0 := by
  obtain ⟨hl, A, c, rfl, _, _, hx⟩ := F
  have hs := of_decide_eq_true hs
  cases A with
  | some a => simp [isNil] at h
  | none =>
    rcases Nat.eq_zero_or_pos n with h0 | h0
    · exact h0
    · have h1 : 0 < xs.length := by rw [hl]; exact Nat.mul_pos h0 hs
      obtain ⟨ad, e', _⟩ := hx 0 _ (List.getElem?_eq_getElem h1)
      cases e'
theorem run_build0 {T e : TypeId} {z : Value} {size B : Nat} (hop : o.op = .buildSlice T 0 #[]) (hu : P.underlying T = some (.slice e)) (hI : (P.info? e).map (fun i => (i.size, decide (i.bytes ≤ 128), i.zero)) = some (size, true, some z)) (hB : B ≤ w.heap.size) :
    ∃ v w', (execOp a.eval o).run P w = .ok (.value v) w' ∧ w'.ownsRow B e size v 0 [] ∧ Below w.heap.size w w' := by
  obtain ⟨i, h1, h2, h3, h4⟩ := info_of hI
  refine ⟨.slice (some ⟨w.heap.size, 0, none⟩) 0 0, w.alloc (.cells #[] e), ?_, ⟨by simp, .inr ⟨w.heap.size, 0, #[], rfl, hB, ?_, Nat.le_refl _, by unfold maxLen; omega, by simp, by simp⟩⟩, (Below.refl _ _).alloc (Nat.le_refl _) _⟩
  · unfold execOp; rw [hop]
    simp [Instr.buildSlice, run_underlying hu, sizeOf, typeInfo, h1, Instr.fill, newRow, Sem.run_bind]
    have h0 : Array.range 0 = #[] := Array.eq_empty_of_size_eq_zero (by simp)
    rw [h0]; simp
  · show (w.heap.push _)[w.heap.size]? = _
    simp
end Go.Proofs.Eng
end
section
namespace Go.Proofs.YthgafcaoibfchaaDoor.X
open Go Go.RowKit Go.Proofs
set_option linter.unusedVariables false
namespace Pth
theorem own_grown {w w' : World} {B : Nat} {e e' : TypeId} {v u : Value} {n n' size size' : Nat} {xs xs' : List Value} (O : w.ownsRow B e size v n xs) (G : w.grownBy w' u.ownBlock) (U : w.ownsRow B e' size' u n' xs') (hne : (e' != e) = true) : w'.ownsRow B e size v n xs := by
  refine ⟨O.1, ?_⟩
  rcases O.2 with h | ⟨g, cap, cur, rfl, hg, hh, r⟩
  · exact .inl h
  · exact .inr ⟨g, cap, cur, rfl, hg, (G.block g (Array.getElem?_eq_some_iff.1 hh).1 (Eng.own_ne U hh hne)).trans hh, r⟩
structure Each (B : Nat) (ps : List (List Part)) (vs : List Value) (w : World) : Prop where
  len : vs.length ≤ ps.length
  row : ∀ i, i < vs.length → w.ownsRow B 115 2 (vs.getD i undef) (ps.getD i []).length (cellsP (ps.getD i []))
theorem Each.nil (B : Nat) (ps : List (List Part)) (w : World) : Each B ps [] w := ⟨Nat.zero_le _, fun i h => absurd h (by simp)⟩
theorem Each.below {B : Nat} {ps : List (List Part)} {vs : List Value} {w w' : World} (h : Each B ps vs w) (hb : Below w.heap.size w w') : Each B ps vs w' := ⟨h.len, fun i hi => Eng.own_below (h.row i hi) hb⟩
theorem Each.grown {B : Nat} {ps : List (List Part)} {vs : List Value} {w w' : World} {u : Value} {n : Nat} {xs : List Value} (h : Each B ps vs w) (G : w.grownBy w' u.ownBlock) (U : w.ownsRow B 82 1 u n xs) : Each B ps vs w' :=
  ⟨h.len, fun i hi => own_grown (h.row i hi) G U rfl⟩
theorem Each.snoc {B : Nat} {ps : List (List Part)} {vs : List Value} {w : World} {v : Value} (h : Each B ps vs w) (hk : vs.length < ps.length) (O : w.ownsRow B 115 2 v (ps.getD vs.length []).length (cellsP (ps.getD vs.length []))) : Each B ps (vs ++ [v]) w := by
  refine ⟨by rw [List.length_append]; simp; omega, fun i hi => ?_⟩
  rcases Nat.lt_or_ge i vs.length with h1 | h1
  · have e : (vs ++ [v]).getD i undef = vs.getD i undef := by
      rw [List.getD_eq_getElem?_getD, List.getD_eq_getElem?_getD, List.getElem?_append_left h1]
    rw [e]; exact h.row i h1
  · have hi' : i = vs.length := by rw [List.length_append] at hi; simp at hi; omega
    subst hi'
    have e : (vs ++ [v]).getD vs.length undef = v := by
      rw [List.getD_eq_getElem?_getD, List.getElem?_append_right (Nat.le_refl _)]; simp
    rw [e]; exact O
theorem Each.reads {B : Nat} {ps : List (List Part)} {vs : List Value} {w : World} (h : Each B ps vs w) (hl : vs.length = ps.length) : ∀ k, k < ps.length → Eng.Reads w (vs.getD k undef) (ps.getD k []).length 2 (cellsP (ps.getD k [])) :=
  fun k hk => Eng.Reads.of_own (h.row k (by omega))
end Pth
end Go.Proofs.YthgafcaoibfchaaDoor.X
end
