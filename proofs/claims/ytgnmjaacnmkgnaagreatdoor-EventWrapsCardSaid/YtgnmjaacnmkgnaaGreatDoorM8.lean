/- Words and walks that the row of EventWraps needs: printed by programs, and plain laws. -/
import Derived.Test.YtgnmjaacnmkgnaaGreatDoorM5
import Derived.Laws.RangeAny
import Derived.Test.YtgnmjaacnmkgnaaGreatDoorM0
import Derived.Test.YtgnmjaacnmkgnaaGreatDoorM2
import Derived.WalkKit
import Derived.Shelf.Strings.BuilderK
import Derived.Shelf.Strings.BuilderRune
import Derived.Shelf.Utf8.AppendRune
import Derived.Lib.OthersKept
import Derived.Lib.RuneBytes
import Derived.Test.YtgnmjaacnmkgnaaGreatDoorM7
namespace Go.Proofs.YtgnmjaacnmkgnaaGreatDoorW.PrintWords
end Go.Proofs.YtgnmjaacnmkgnaaGreatDoorW.PrintWords
namespace Go.Proofs.YtgnmjaacnmkgnaaGreatDoorW.PrintLast
end Go.Proofs.YtgnmjaacnmkgnaaGreatDoorW.PrintLast
namespace Go.Proofs.YtgnmjaacnmkgnaaGreatDoorW.PrintMore
end Go.Proofs.YtgnmjaacnmkgnaaGreatDoorW.PrintMore
section
namespace Go.Proofs.YtgnmjaacnmkgnaaGreatDoor.Qt
open Go.RowKit Go.Proofs.YtgnmjaacnmkgnaaGreatDoorW.PrintWords Go.Proofs.YtgnmjaacnmkgnaaGreatDoorW.PrintLast Go.Proofs.YtgnmjaacnmkgnaaGreatDoorW.PrintMore
set_option linter.unusedVariables false
set_option linter.unusedSimpArgs false
def ps : List Nat := [0, 1, 2, 3, 4, 5, 6, 7, 8, 9, 10, 11, 13, 15, 18, 21]
def tbl : List (Int × Int) := [(0, 48), (7, 97), (8, 98), (9, 116), (10, 110), (11, 118), (12, 102), (13, 114), (27, 101), (34, 34), (92, 92), (133, 78), (160, 95), (8232, 76), (8233, 80)]
def lk : List (Int × Int) → Int → Int
  | [], _ => 0
  | x :: t, r => if x.1 = r then x.2 else lk t r
def pF (k : Nat) : Nat := ps.getD k 0
def mF (k : Nat) : Int := (tbl.getD k (0, 0)).1
def lF (k : Nat) : Int := (tbl.getD k (0, 0)).2
def letterF (r : Int) : Int := lk tbl r
theorem ps_dec : ∀ k : Nat, k < 15 → Utf8.decode (⟨#[0, 7, 8, 9, 10, 11, 12, 13, 27, 34, 92, 194, 133, 194, 160, 226, 128, 168, 226, 128, 169]⟩ : ByteArray) ((pF k)) = ((mF k).toNat, pF (k + 1) - (pF k)) := by decide +kernel
theorem ps_lt : ∀ k : Nat, k < 15 → (pF k) < pF (k + 1) ∧ pF (k + 1) ≤ 21 ∧ 0 ≤ (mF k) := by decide +kernel
theorem let_at : ∀ k : Nat, k < 15 → (((⟨#[48, 97, 98, 116, 110, 118, 102, 114, 101, 34, 92, 78, 95, 76, 80]⟩ : ByteArray).get! k).toNat : Int) = (lF k) := by decide +kernel
theorem lk_drop (r : Int) (k : Nat) (h : k < 15) : lk (tbl.drop k) r = if (mF k) = r then (lF k) else lk (tbl.drop (k + 1)) r := by
  have hl : k < tbl.length := h
  unfold mF lF; rw [List.drop_eq_getElem_cons hl, lk, List.getD_eq_getElem?_getD, List.getElem?_eq_getElem hl]; rfl
theorem next_at (w : World) (k : Nat) (h : k < 15) (ty : TypeId) : (Instr.next (.pointer (some ⟨w.heap.size, 0, none⟩)) true ty).run Tryz.prog (w.iter (⟨#[0, 7, 8, 9, 10, 11, 12, 13, 27, 34, 92, 194, 133, 194, 160, 226, 128, 168, 226, 128, 169]⟩ : ByteArray) ((pF k))) = .ok (.tuple #[.bool true, .int .i64 ((pF k)), .int .i32 (mF k)]) (w.iter (⟨#[0, 7, 8, 9, 10, 11, 12, 13, 27, 34, 92, 194, 133, 194, 160, 226, 128, 168, 226, 128, 169]⟩ : ByteArray) (pF (k + 1))) := by
  have hp := ps_lt k h
  have hq := run_next_any (P := Tryz.prog) w (⟨#[0, 7, 8, 9, 10, 11, 12, 13, 27, 34, 92, 194, 133, 194, 160, 226, 128, 168, 226, 128, 169]⟩ : ByteArray) ((pF k)) ty (by show _ < 21; omega)
  rw [ps_dec k h] at hq
  simp only [Int.toNat_of_nonneg hp.2.2] at hq
  rw [show (pF k) + (pF (k + 1) - (pF k)) = pF (k + 1) by omega] at hq
  exact hq
set_option maxHeartbeats 4000000 in
set_option maxRecDepth 100000 in
theorem letter_calls (r : Int) (w : World) : Calls Tryz.prog 75 #[.int .i32 r] w fun e w' => e = .returned (.int .u8 (letterF r)) ∧ Below w.heap.size w w' := by
  go_enter Tryz.func75, Tryz.ntmps75
  go_wp2
  go_loopw [3] (fun v3 wr => ∃ k : Nat, v3 = .int .i64 (k : Int) ∧ k ≤ 15 ∧ wr = w.iter (⟨#[0, 7, 8, 9, 10, 11, 12, 13, 27, 34, 92, 194, 133, 194, 160, 226, 128, 168, 226, 128, 169]⟩ : ByteArray) ((pF k)) ∧ letterF r = lk (tbl.drop k) r) (fun v3 _ => 15 - (intOf v3).toNat)
  case atStart => exact ⟨0, rfl, by omega, rfl, rfl⟩
  case round =>
    obtain ⟨k, rfl, hk, rfl, hr⟩ := hrel
    by_cases hk2 : k < 15
    · have hnx := fun ty => next_at w k hk2 ty
      have hd := lk_drop r k hk2
      by_cases hc : (mF k) = r
      · have hb : ((mF k) == r) = true := beq_iff_eq.mpr hc
        have hL := let_at k hk2
        have hx1 : (0 : Int) ≤ (k : Int) := by omega
        have hx2 : ((k : Int) < 15) := by omega
        rw [if_pos hc] at hd
        go_wp2
        go_ret
        exact ⟨by rw [hr, hd, ← hL]; simp; exact congrArg (fun b : UInt8 => ((b.toNat : Nat) : Int)) (get_at _ k (by show k < 15; omega)).symm, below_alloc (Below.refl _ _) _⟩
      · have hb : ((mF k) == r) = false := beq_eq_false_iff_ne.mpr hc
        rw [if_neg hc] at hd
        have hw : IntKind.i64.wrap ((k : Int) + 1) = ((k + 1 : Nat) : Int) := by exact Eng.i64_id (by omega) (by omega)
        go_wp2
        go_roundw
        case rel => exact ⟨k + 1, by first | rfl | (rw [hw]) | (congr 1; omega), by omega, rfl, by rw [hr, hd]⟩
        case measure => simp only [intOf]; omega
    · have hz : k = 15 := by omega
      subst hz
      have hnx := fun ty => run_next_end (P := Tryz.prog) w (⟨#[0, 7, 8, 9, 10, 11, 12, 13, 27, 34, 92, 194, 133, 194, 160, 226, 128, 168, 226, 128, 169]⟩ : ByteArray) 21 ty (by decide)
      have hp15 : pF 15 = 21 := rfl
      rw [hp15]
      go_wp2
      go_ret
      exact ⟨by rw [hr]; rfl, below_alloc (Below.refl _ _) _⟩
end Go.Proofs.YtgnmjaacnmkgnaaGreatDoor.Qt
end
section
namespace Go.Proofs.YtgnmjaacnmkgnaaGreatDoor.Bld
open Go.RowKit
theorem size_ : (Tryz.prog.info? 54).map (·.size) = some 2 := by kernel_rfl
theorem lies_ : liesAt Tryz.prog Tryz.prog.depth 54 (2 / Tryz.prog.cellsOf 54) 0 54 1 = true := by kernel_rfl
theorem byte_ : (Tryz.prog.info? 5).map (fun i => (i.zero, i.size, i.bytes)) = some (some (.int .u8 0), 1, 1) := by kernel_rfl
set_option maxHeartbeats 1000000 in
set_option maxRecDepth 100000 in
theorem check_used (b : Nat) (w : World) (h0 : w.cell? ⟨b, 0, none⟩ = some (.pointer (some ⟨b, 0, none⟩))) :
    Calls Tryz.prog 47 #[.pointer (some ⟨b, 0, none⟩)] w fun e w' => e = .returned (.tuple #[]) ∧ w' = w := by
  obtain ⟨j, hj, _⟩ := Option.map_eq_some_iff.1 size_
  go_enter Tryz.func47, Tryz.ntmps47
  go_wp2
  rw [Lib.run_neq_ptr_same w _ Tryz.underlying51 hj]
  go_wp2
  go_end0
  exact ⟨rfl, rfl⟩
set_option maxHeartbeats 1000000 in
set_option maxRecDepth 100000 in
theorem check_fresh (b : Nat) (w : World) (h0 : w.cell? ⟨b, 0, none⟩ = some (.pointer none)) (hsh : w.shape? b = some (54, 2)) (hfz : w.frozen? ⟨b, 0, none⟩ = false) :
    Calls Tryz.prog 47 #[.pointer (some ⟨b, 0, none⟩)] w fun e w' => e = .returned (.tuple #[]) ∧ w' = w.setCell ⟨b, 0, none⟩ (.pointer (some ⟨b, 0, none⟩)) := by
  obtain ⟨j, hj, hjs⟩ := Option.map_eq_some_iff.1 size_
  go_enter Tryz.func47, Tryz.ntmps47
  go_wp2
  rw [Lib.run_to_unsafe w ⟨b, 0, none⟩ Tryz.underlying51 Tryz.underlying101 hj (by rw [hjs]; decide) hsh (Nat.zero_lt_succ 1)]
  simp only [Result.andThen]
  rw [Oper.upon_value]
  go_wp2
  rw [run_callFunc_extern Tryz.func73 (by kernel_rfl) (by kernel_rfl) (by kernel_rfl) (e := Extern.AbiNoEscape.same) (by kernel_rfl)]
  rw [Lib.run_noEscape]
  simp only [Result.andThen]
  rw [Oper.upon_value]
  go_wp2
  rw [Lib.run_from_unsafe w ⟨b, 0, none⟩ Tryz.underlying101 Tryz.underlying51 hj hsh lies_]
  simp only [Result.andThen]
  rw [Oper.upon_value]
  go_wp2
  go_end0
  exact ⟨rfl, rfl⟩
theorem check (B b : Nat) (bs : List Value) (w : World) (h : Lib.IsBuilderF 54 5 B b bs w) :
    Calls Tryz.prog 47 #[.pointer (some ⟨b, 0, none⟩)] w fun e w' => e = .returned (.tuple #[]) ∧ (Lib.BuilderAtF 54 5 B b (.pointer (some ⟨b, 0, none⟩)) bs w' ∧ Below B w w' ∧ Lib.OthersKept 5 (some b) w w') := by
  rcases h with h | h
  · refine (check_fresh b w h.cell0 h.shape h.frozen0).mono ?_
    rintro e w' ⟨rfl, rfl⟩
    exact ⟨rfl, h.used _, (Below.refl B w).setCell (p := ⟨b, 0, none⟩) h.1 _, (Lib.OthersKept.refl _ _ w).setCell ⟨b, 0, none⟩ rfl _⟩
  · refine (check_used b w h.cell0).mono ?_
    rintro e w' ⟨rfl, rfl⟩
    exact ⟨rfl, h, Below.refl B _, Lib.OthersKept.refl _ _ _⟩
set_option maxHeartbeats 2000000 in
set_option maxRecDepth 100000 in
theorem byte (B b : Nat) (bs : List Value) (c : Int) (w : World) (h : Lib.IsBuilderF 54 5 B b bs w) (hlen : bs.length + 1 ≤ 140737488355328) (hBw : B ≤ w.heap.size) :
    Calls Tryz.prog 74 #[.pointer (some ⟨b, 0, none⟩), .int .u8 c] w fun e w' => e = .returned .nilIface ∧ (Lib.BuilderAtF 54 5 B b (.pointer (some ⟨b, 0, none⟩)) (bs ++ [.int .u8 c]) w' ∧ Below B w w' ∧ Lib.OthersKept 5 (some b) w w') := by
  obtain ⟨i0, hi, hz0, hz1, hz2⟩ := info_parts byte_
  go_enter Tryz.func74, Tryz.ntmps74
  go_wp2_with (go_at_call 47; refine (check B b bs _ h).mono ?_)
  rintro e w1 ⟨rfl, h1, hb1, hk1⟩
  obtain ⟨hB, v, hbk, hown, hne⟩ := h1
  have c0 : w1.cell? ⟨b, 0, none⟩ = some (.pointer (some ⟨b, 0, none⟩)) := by rw [Lib.cell_of_heap hbk]; rfl
  have c1 : w1.cell? ⟨b, 1, none⟩ = some v := by rw [Lib.cell_of_heap hbk]; rfl
  go_wp2_with (at_builtin; refine wpList_append_ownF _ rfl _ _ 52 rfl B 5 i0 (.int .u8 0) 1 1 Tryz.underlying52 hi hz0 hz1 hz2 rfl (by decide) _ _ _ rfl (hown.alloc _) ⟨w1.heap.size, 0, none⟩ 1 1 [.int .u8 c] rfl rfl ?c1 ?c2 ?c3 ?c4 ?c5 ?_)
  case c1 =>
    intro j u hj
    match j, hj with
    | 0, hj => simp at hj; subst hj; simp [Addr.add]
  case c2 => intro u hu; simp at hu; subst hu; rfl
  case c3 => unfold maxLen; omega
  case c4 => omega
  case c5 => have := hb1.size; simp; omega
  intro v' w2 hown' hgrow _
  have hlt : b < w1.heap.size := by
    rcases Nat.lt_or_ge b w1.heap.size with h' | h'
    · exact h'
    · simp [Array.getElem?_eq_none h'] at hbk
  have hb2 : w2.heap[b]? = some (.cells #[.pointer (some ⟨b, 0, none⟩), v] 54 (0, 0)) := by
    rw [hgrow.block b (by simp; omega) (fun e => hne e.symm), Lib.alloc_old w1 _ b hlt]
    exact hbk
  have d0 : w2.cell? ⟨b, 0, none⟩ = some (.pointer (some ⟨b, 0, none⟩)) := by rw [Lib.cell_of_heap hb2]; rfl
  have d1 : w2.cell? ⟨b, 1, none⟩ = some v := by rw [Lib.cell_of_heap hb2]; rfl
  have f1 : w2.frozen? ⟨b, 1, none⟩ = false := Lib.frozen_of_heap hb2 1
  obtain ⟨g, cap, rfl⟩ : ∃ g cap, v' = .slice (some ⟨g, 0, none⟩) (bs.length + 1) cap := by
    rcases hown'.2 with ⟨_, h0⟩ | ⟨g, cap, cur, fz, hv, _⟩
    · omega
    · exact ⟨g, cap, hv⟩
  go_wp2
  go_ret
  refine ⟨rfl, ?_, ?_, ((hk1.alloc _).grown hgrow (Lib.ownsRowF_kind (hown.alloc _))).setCell ⟨b, 1, none⟩ rfl _⟩
  · exact Lib.BuilderAtF.put (T := 54) (e := 5) hB hb2 (bs' := bs ++ [.int .u8 c]) (by simpa using hown') (by decide)
  · exact ((hb1.alloc (by have := hb1.size; omega) _).grown hgrow (by have := hb1.size; simp; omega) (fun k hk => (hown.lt k hk).1)).setCell (p := ⟨b, 1, none⟩) hB _
set_option maxHeartbeats 4000000 in
set_option maxRecDepth 100000 in
theorem rune (B b : Nat) (bs : List Value) (r : Int) (hr0 : -2147483648 ≤ r) (hr1 : r ≤ 2147483647) (w : World) (h : Lib.IsBuilderF 54 5 B b bs w) (hlen : bs.length + 4 ≤ 140737488355328) (hBw : B ≤ w.heap.size) :
    Calls Tryz.prog 77 #[.pointer (some ⟨b, 0, none⟩), .int .i32 r] w fun e w' => e = .returned (.tuple #[.int .i64 (Lib.runeCells r).length, .nilIface]) ∧ (Lib.BuilderAtF 54 5 B b (.pointer (some ⟨b, 0, none⟩)) (bs ++ Lib.runeCells r) w' ∧ Below B w w' ∧ Lib.OthersKept 5 (some b) w w') := by
  have hk4 := Lib.runeCells_le r
  go_enter Tryz.func77, Tryz.ntmps77
  go_wp2_with (go_at_call 47; refine (check B b bs _ h).mono ?_)
  rintro e w1 ⟨rfl, h1, hb1, hk1⟩
  obtain ⟨hB, v, hbk, hown, hne⟩ := h1
  obtain ⟨ao, cap, rfl⟩ : ∃ ao cap, v = .slice ao bs.length cap := by
    rcases hown.2 with ⟨hv, h0⟩ | ⟨g, cap, cur, fz, hv, _⟩
    · exact ⟨none, 0, by rw [hv, h0]⟩
    · exact ⟨_, _, hv⟩
  have c0 : w1.cell? ⟨b, 0, none⟩ = some (.pointer (some ⟨b, 0, none⟩)) := by rw [Lib.cell_of_heap hbk]; rfl
  have c1 : w1.cell? ⟨b, 1, none⟩ = some (.slice ao bs.length cap) := by rw [Lib.cell_of_heap hbk]; rfl
  have hBw1 : B ≤ w1.heap.size := by have := hb1.size; omega
  have HA := Any.utf8_AppendRune_row Tryz.lays242 (by kernel_rfl) B _ bs.length bs r hr0 hr1 w1 hown hlen hBw1
  go_wp2_with fail
  refine HA.mono ?_
  rintro e w2 ⟨v', rfl, hown', o, hgrow⟩
  replace hown' : w2.ownsRowF B 5 1 v' (bs.length + (Lib.runeCells r).length) (bs ++ Lib.runeCells r) := hown'
  have hlt : b < w1.heap.size := by
    rcases Nat.lt_or_ge b w1.heap.size with h' | h'
    · exact h'
    · simp [Array.getElem?_eq_none h'] at hbk
  have hb2 : w2.heap[b]? = some (.cells #[.pointer (some ⟨b, 0, none⟩), .slice ao bs.length cap] 54 (0, 0)) := by
    rw [hgrow.block b (by simp; omega) (fun e => hne e.symm), Lib.alloc_old w1 _ b hlt]
    exact hbk
  have d0 : w2.cell? ⟨b, 0, none⟩ = some (.pointer (some ⟨b, 0, none⟩)) := by rw [Lib.cell_of_heap hb2]; rfl
  have d1 : w2.cell? ⟨b, 1, none⟩ = some (.slice ao bs.length cap) := by rw [Lib.cell_of_heap hb2]; rfl
  have f1 : w2.frozen? ⟨b, 1, none⟩ = false := Lib.frozen_of_heap hb2 1
  obtain ⟨g, cap', rfl⟩ : ∃ g cap', v' = .slice (some ⟨g, 0, none⟩) (bs.length + (Lib.runeCells r).length) cap' := by
    rcases hown'.2 with ⟨_, h0⟩ | ⟨g, cap', cur, fz, hv, _⟩
    · omega
    · exact ⟨g, cap', hv⟩
  go_wp2
  go_ret2
  refine ⟨?_, ?_, ?_, ((hk1.alloc _).grown hgrow (Lib.ownsRowF_kind (hown.alloc _))).setCell ⟨b, 1, none⟩ rfl _⟩
  · have e : ((bs.length : Int) + ((Lib.runeCells r).length : Int) - (bs.length : Int)) = ((Lib.runeCells r).length : Int) := by omega
    simp [e]
  · exact Lib.BuilderAtF.put (T := 54) (e := 5) hB hb2 (bs' := bs ++ Lib.runeCells r) (by simpa using hown') (by decide)
  · exact ((hb1.alloc (by have := hb1.size; omega) _).grown hgrow (by have := hb1.size; simp; omega) (fun k hk => (hown.lt k hk).1)).setCell (p := ⟨b, 1, none⟩) hB _
set_option maxHeartbeats 4000000 in
set_option maxRecDepth 100000 in
theorem str (B b : Nat) (bs : List Value) (s : ByteArray) (w : World) (h : Lib.IsBuilderF 54 5 B b bs w) (hlen : bs.length + s.size ≤ 140737488355328) (hBw : B ≤ w.heap.size) :
    Calls Tryz.prog 28 #[.pointer (some ⟨b, 0, none⟩), .string s] w fun e w' => e = .returned (.tuple #[.int .i64 s.size, .nilIface]) ∧ (Lib.BuilderAtF 54 5 B b (.pointer (some ⟨b, 0, none⟩)) (bs ++ Lib.strCells s) w' ∧ Below B w w' ∧ Lib.OthersKept 5 (some b) w w') := by
  obtain ⟨i0, hi, hz0, hz1, hz2⟩ := info_parts byte_
  go_enter Tryz.func28, Tryz.ntmps28
  go_wp2_with (go_at_call 47; refine (check B b bs _ h).mono ?_)
  rintro e w1 ⟨rfl, h1, hb1, hk1⟩
  obtain ⟨hB, v, hbk, hown, hne⟩ := h1
  have c0 : w1.cell? ⟨b, 0, none⟩ = some (.pointer (some ⟨b, 0, none⟩)) := by rw [Lib.cell_of_heap hbk]; rfl
  have c1 : w1.cell? ⟨b, 1, none⟩ = some v := by rw [Lib.cell_of_heap hbk]; rfl
  go_wp2_with (at_builtin; refine Lib.wpList_append_own_stringF _ rfl _ _ 52 9 rfl B 5 i0 Tryz.underlying52 Tryz.underlying9 hi hz0 hz1 hz2 _ _ _ rfl hown s rfl ?c3 ?c4 ?c5 ?_)
  case c3 => unfold maxLen; omega
  case c4 => omega
  case c5 => have := hb1.size; omega
  intro v' w2 hown' hgrow _
  have hlt : b < w1.heap.size := by
    rcases Nat.lt_or_ge b w1.heap.size with h' | h'
    · exact h'
    · simp [Array.getElem?_eq_none h'] at hbk
  have hb2 : w2.heap[b]? = some (.cells #[.pointer (some ⟨b, 0, none⟩), v] 54 (0, 0)) := by
    rw [hgrow.block b hlt (fun e => hne e.symm)]
    exact hbk
  have d0 : w2.cell? ⟨b, 0, none⟩ = some (.pointer (some ⟨b, 0, none⟩)) := by rw [Lib.cell_of_heap hb2]; rfl
  have d1 : w2.cell? ⟨b, 1, none⟩ = some v := by rw [Lib.cell_of_heap hb2]; rfl
  have f1 : w2.frozen? ⟨b, 1, none⟩ = false := Lib.frozen_of_heap hb2 1
  obtain ⟨ao, n', cap, rfl⟩ : ∃ ao n' cap, v' = .slice ao n' cap := by
    rcases hown'.2 with ⟨hv, _⟩ | ⟨g, cap, cur, fz, hv, _⟩
    · exact ⟨_, _, _, hv⟩
    · exact ⟨_, _, _, hv⟩
  go_wp2
  go_ret2
  refine ⟨rfl, ?_, ?_, (hk1.grown hgrow (Lib.ownsRowF_kind hown)).setCell ⟨b, 1, none⟩ rfl _⟩
  · exact Lib.BuilderAtF.put (T := 54) (e := 5) hB hb2 (bs' := bs ++ Lib.strCells s) (by simpa [Lib.strCells_length] using hown') (by decide)
  · exact (hb1.grown hgrow (by have := hb1.size; omega) (fun k hk => (hown.lt k hk).1)).setCell (p := ⟨b, 1, none⟩) hB _
end Go.Proofs.YtgnmjaacnmkgnaaGreatDoor.Bld
end
section
namespace Go.Proofs.YtgnmjaacnmkgnaaGreatDoor.T
open Go.RowKit Go.Proofs.YtgnmjaacnmkgnaaGreatDoorW.PrintWords Go.Proofs.YtgnmjaacnmkgnaaGreatDoorW.PrintLast Go.Proofs.YtgnmjaacnmkgnaaGreatDoorW.PrintMore
attribute [local go_sem] max2_int min2_int max_two min_two
set_option linter.unusedVariables false
set_option linter.unusedSimpArgs false
def text_May.j0 : Nat → Int → Bool → Option (Bool)
  | 0, _, _ => none
  | k + 1, x0, x3 => if x3 = true then (some true) else (if x0 = 65279 then (some false) else (if x0 = 65534 then (some false) else (if x0 = 65535 then (some false) else (if x0 ≥ 32 then (if x0 < 127 then (some true) else (if x0 ≥ 160 then ((utf8_ValidRune.f k x0).bind fun t113 => (some t113)) else (some false))) else (if x0 ≥ 160 then ((utf8_ValidRune.f k x0).bind fun t114 => (some t114)) else (some false))))))
def text_May.f (k : Nat) (a0 : Int) : Option (Bool) := if a0 = 9 then (text_May.j0 k a0 true) else (if a0 = 10 then (text_May.j0 k a0 true) else (if a0 = 13 then (text_May.j0 k a0 true) else (text_May.j0 k a0 (a0 == 133))))
set_option maxHeartbeats 8000000 in
set_option maxRecDepth 100000 in
theorem text_May.calls (k : Nat) (a0 : Int) (r : Bool) (w : World) (h : text_May.f k a0 = some r) :
    Calls Tryz.prog 76 #[.int .i32 a0] w fun e w' => e = .returned (.bool r) ∧ Drawn0 w w' := by
  have H : (if a0 = 9 then (text_May.j0 k a0 true) else (if a0 = 10 then (text_May.j0 k a0 true) else (if a0 = 13 then (text_May.j0 k a0 true) else (text_May.j0 k a0 (a0 == 133))))) = some r := h
  clear h
  have HC2 := Aside0.mk H
  clear H
  go_enter Tryz.func76, Tryz.ntmps76
  go_upto_region 1 with (fail)
  go_cut [3] (fun v3 wc => ∃ (kq : Nat) (x3_1 : Bool), v3 = .bool x3_1 ∧ Aside0 (text_May.j0 kq a0 x3_1 = some r) ∧ Aside0 (kq ≤ k) ∧ Drawn0 w wc)
  case first =>
    have H := HC2.out
    clear HC2
    by_cases c3 : a0 = 9
    · rw [if_pos c3] at H
      have c3b0 : (a0 == 9) = true := beq_iff_eq.mpr c3
      have c3b1 : (a0 != 9) = false := bne_eq_false_iff_eq.mpr c3
      clear c3
      (first | rw [c3b0] | (simp only [i64_w, i32_w]; rw [c3b0]) | skip)
      have H' := Aside0.mk H
      clear H
      go_wp2
      go_meet
      case rel => exact ⟨_, (true), (by first | rfl | (simp; done) | (simp [*]; done) | (simp [xbne_nil, xbeq_nil]; done)), H', ⟨by first | omega | exact Nat.le_refl _⟩, by repeat (first | exact Drawn0.refl _ | apply Drawn0.step)⟩
    · rw [if_neg c3] at H
      have c3b0 : (a0 == 9) = false := beq_eq_false_iff_ne.mpr c3
      have c3b1 : (a0 != 9) = true := bne_iff_ne.mpr c3
      (first | rw [c3b0] | (simp only [i64_w, i32_w]; rw [c3b0]) | skip)
      by_cases c4 : a0 = 10
      · rw [if_pos c4] at H
        have c4b0 : (a0 == 10) = true := beq_iff_eq.mpr c4
        have c4b1 : (a0 != 10) = false := bne_eq_false_iff_eq.mpr c4
        clear c4
        have H' := Aside0.mk H
        clear H
        go_wp2
        go_meet
        case rel => exact ⟨_, (true), (by first | rfl | (simp; done) | (simp [*]; done) | (simp [xbne_nil, xbeq_nil]; done)), H', ⟨by first | omega | exact Nat.le_refl _⟩, by repeat (first | exact Drawn0.refl _ | apply Drawn0.step)⟩
      · rw [if_neg c4] at H
        have c4b0 : (a0 == 10) = false := beq_eq_false_iff_ne.mpr c4
        have c4b1 : (a0 != 10) = true := bne_iff_ne.mpr c4
        by_cases c5 : a0 = 13
        · rw [if_pos c5] at H
          have c5b0 : (a0 == 13) = true := beq_iff_eq.mpr c5
          have c5b1 : (a0 != 13) = false := bne_eq_false_iff_eq.mpr c5
          clear c5
          have H' := Aside0.mk H
          clear H
          go_wp2
          go_meet
          case rel => exact ⟨_, (true), (by first | rfl | (simp; done) | (simp [*]; done) | (simp [xbne_nil, xbeq_nil]; done)), H', ⟨by first | omega | exact Nat.le_refl _⟩, by repeat (first | exact Drawn0.refl _ | apply Drawn0.step)⟩
        · rw [if_neg c5] at H
          have c5b0 : (a0 == 13) = false := beq_eq_false_iff_ne.mpr c5
          have c5b1 : (a0 != 13) = true := bne_iff_ne.mpr c5
          have H' := Aside0.mk H
          clear H
          go_wp2
          go_meet
          case rel => exact ⟨_, ((a0 == 133)), (by first | rfl | (simp; done) | (simp [*]; done) | (simp [xbne_nil, xbeq_nil]; done)), H', ⟨by first | omega | exact Nat.le_refl _⟩, by repeat (first | exact Drawn0.refl _ | apply Drawn0.step)⟩
  case rest =>
    clear HC2
    try clear p2
    try clear c3
    try clear c3b0
    try clear c3b1
    try clear c4
    try clear c4b0
    try clear c4b1
    try clear c5
    try clear c5b0
    try clear c5b1
    obtain ⟨kq, x3_1, rfl, HA, HJ1, ⟨mc1, rfl⟩⟩ := hcut
    cases kq with
    | zero => exact absurd HA.out (by simp [text_May.j0])
    | succ kj1 =>
      have H := HA.out
      clear HA
      simp only [text_May.j0] at H
      by_cases c6 : x3_1 = true
      · subst c6
        have H1 : (some true) = some r := by rw [if_pos rfl] at H; exact H
        clear H
        have H := H1
        clear H1
        obtain rfl := Option.some.inj H
        go_wp2
        go_ret
        exact ⟨by first | rfl | (simp; done) | (simp [*]; done) | (simp [xbne_nil, xbeq_nil]; done), by repeat (first | exact Drawn0.refl _ | apply Drawn0.step)⟩
      · replace c6 := Bool.eq_false_iff.mpr c6
        subst c6
        have H1 : (if a0 = 65279 then (some false) else (if a0 = 65534 then (some false) else (if a0 = 65535 then (some false) else (if a0 ≥ 32 then (if a0 < 127 then (some true) else (if a0 ≥ 160 then ((utf8_ValidRune.f kj1 a0).bind fun t113 => (some t113)) else (some false))) else (if a0 ≥ 160 then ((utf8_ValidRune.f kj1 a0).bind fun t114 => (some t114)) else (some false)))))) = some r := by rw [if_neg (show ¬ (false = true) by decide)] at H; exact H
        clear H
        have H := H1
        clear H1
        by_cases c7 : a0 = 65279
        · rw [if_pos c7] at H
          have c7b0 : (a0 == 65279) = true := beq_iff_eq.mpr c7
          have c7b1 : (a0 != 65279) = false := bne_eq_false_iff_eq.mpr c7
          clear c7
          obtain rfl := Option.some.inj H
          go_wp2
          go_ret
          exact ⟨by first | rfl | (simp; done) | (simp [*]; done) | (simp [xbne_nil, xbeq_nil]; done), by repeat (first | exact Drawn0.refl _ | apply Drawn0.step)⟩
        · rw [if_neg c7] at H
          have c7b0 : (a0 == 65279) = false := beq_eq_false_iff_ne.mpr c7
          have c7b1 : (a0 != 65279) = true := bne_iff_ne.mpr c7
          by_cases c8 : a0 = 65534
          · rw [if_pos c8] at H
            have c8b0 : (a0 == 65534) = true := beq_iff_eq.mpr c8
            have c8b1 : (a0 != 65534) = false := bne_eq_false_iff_eq.mpr c8
            clear c8
            obtain rfl := Option.some.inj H
            go_wp2
            go_ret
            exact ⟨by first | rfl | (simp; done) | (simp [*]; done) | (simp [xbne_nil, xbeq_nil]; done), by repeat (first | exact Drawn0.refl _ | apply Drawn0.step)⟩
          · rw [if_neg c8] at H
            have c8b0 : (a0 == 65534) = false := beq_eq_false_iff_ne.mpr c8
            have c8b1 : (a0 != 65534) = true := bne_iff_ne.mpr c8
            by_cases c9 : a0 = 65535
            · rw [if_pos c9] at H
              have c9b0 : (a0 == 65535) = true := beq_iff_eq.mpr c9
              have c9b1 : (a0 != 65535) = false := bne_eq_false_iff_eq.mpr c9
              clear c9
              obtain rfl := Option.some.inj H
              go_wp2
              go_ret
              exact ⟨by first | rfl | (simp; done) | (simp [*]; done) | (simp [xbne_nil, xbeq_nil]; done), by repeat (first | exact Drawn0.refl _ | apply Drawn0.step)⟩
            · rw [if_neg c9] at H
              have c9b0 : (a0 == 65535) = false := beq_eq_false_iff_ne.mpr c9
              have c9b1 : (a0 != 65535) = true := bne_iff_ne.mpr c9
              by_cases c10 : a0 ≥ 32
              · rw [if_pos c10] at H
                have c10b0 : decide (32 ≤ a0) = true := decide_eq_true c10
                clear c10
                by_cases c11 : a0 < 127
                · rw [if_pos c11] at H
                  have c11b0 : decide (a0 < 127) = true := decide_eq_true c11
                  clear c11
                  obtain rfl := Option.some.inj H
                  go_wp2
                  go_ret
                  exact ⟨by first | rfl | (simp; done) | (simp [*]; done) | (simp [xbne_nil, xbeq_nil]; done), by repeat (first | exact Drawn0.refl _ | apply Drawn0.step)⟩
                · rw [if_neg c11] at H
                  have c11b0 : decide (a0 < 127) = false := decide_eq_false c11
                  clear c11
                  by_cases c12 : a0 ≥ 160
                  · rw [if_pos c12] at H
                    have c12b0 : decide (160 ≤ a0) = true := decide_eq_true c12
                    clear c12
                    replace H := Option.bind_eq_some_iff.mp H
                    obtain ⟨t113, A130, H⟩ := H
                    replace H : (some t113) = some r := H
                    have A13 := Aside0.mk A130
                    clear A130
                    obtain rfl := Option.some.inj H
                    go_wp2_with (first | (go_at_call 97; (with_reducible refine (utf8_ValidRune.calls kj1 a0 t113 _ A13.out).mono ?_); rintro e w' ⟨rfl, ⟨nd, rfl⟩⟩))
                    go_ret
                    exact ⟨by first | rfl | (simp; done) | (simp [*]; done) | (simp [xbne_nil, xbeq_nil]; done), by repeat (first | exact Drawn0.refl _ | apply Drawn0.step)⟩
                  · rw [if_neg c12] at H
                    have c12b0 : decide (160 ≤ a0) = false := decide_eq_false c12
                    clear c12
                    obtain rfl := Option.some.inj H
                    go_wp2
                    go_ret
                    exact ⟨by first | rfl | (simp; done) | (simp [*]; done) | (simp [xbne_nil, xbeq_nil]; done), by repeat (first | exact Drawn0.refl _ | apply Drawn0.step)⟩
              · rw [if_neg c10] at H
                have c10b0 : decide (32 ≤ a0) = false := decide_eq_false c10
                clear c10
                by_cases c14 : a0 ≥ 160
                · rw [if_pos c14] at H
                  have c14b0 : decide (160 ≤ a0) = true := decide_eq_true c14
                  clear c14
                  replace H := Option.bind_eq_some_iff.mp H
                  obtain ⟨t114, A150, H⟩ := H
                  replace H : (some t114) = some r := H
                  have A15 := Aside0.mk A150
                  clear A150
                  obtain rfl := Option.some.inj H
                  go_wp2_with (first | (go_at_call 97; (with_reducible refine (utf8_ValidRune.calls kj1 a0 t114 _ A15.out).mono ?_); rintro e w' ⟨rfl, ⟨nd, rfl⟩⟩))
                  go_ret
                  exact ⟨by first | rfl | (simp; done) | (simp [*]; done) | (simp [xbne_nil, xbeq_nil]; done), by repeat (first | exact Drawn0.refl _ | apply Drawn0.step)⟩
                · rw [if_neg c14] at H
                  have c14b0 : decide (160 ≤ a0) = false := decide_eq_false c14
                  clear c14
                  obtain rfl := Option.some.inj H
                  go_wp2
                  go_ret
                  exact ⟨by first | rfl | (simp; done) | (simp [*]; done) | (simp [xbne_nil, xbeq_nil]; done), by repeat (first | exact Drawn0.refl _ | apply Drawn0.step)⟩
end Go.Proofs.YtgnmjaacnmkgnaaGreatDoor.T
end
section
namespace Go.Proofs.YtgnmjaacnmkgnaaGreatDoor.Qt
open Go.RowKit Go.Proofs.YtgnmjaacnmkgnaaGreatDoorW.PrintWords Go.Proofs.YtgnmjaacnmkgnaaGreatDoorW.PrintLast Go.Proofs.YtgnmjaacnmkgnaaGreatDoorW.PrintMore
set_option linter.unusedVariables false
set_option linter.unusedSimpArgs false
def mayF (r : Int) : Bool := (T.text_May.f 5 r).getD false
theorem may_f (r : Int) : T.text_May.f 5 r = some (mayF r) := by
  have h : (T.text_May.f 5 r).isSome = true := by
    simp [T.text_May.f, T.text_May.j0, T.utf8_ValidRune.f, T.utf8_ValidRune.j0]
    simp only [apply_ite Option.isSome, Option.isSome_some, ite_self]
  obtain ⟨b, hb⟩ := Option.isSome_iff_exists.1 h
  unfold mayF; rw [hb]; rfl
theorem may_calls (r : Int) (w : World) : Calls Tryz.prog 76 #[.int .i32 r] w fun e w' => e = .returned (.bool (mayF r)) ∧ Drawn0 w w' := T.text_May.calls 5 r _ w (may_f r)
theorem letter_u8 (r : Int) : 0 ≤ letterF r ∧ letterF r ≤ 255 := by
  have h : ∀ l : List (Int × Int), (∀ x ∈ l, 0 ≤ x.2 ∧ x.2 ≤ 255) → 0 ≤ lk l r ∧ lk l r ≤ 255 := by
    intro l
    induction l with
    | nil => intro _; exact ⟨Int.le_refl _, by show (0 : Int) ≤ 255; decide⟩
    | cons x t ih =>
      intro h
      rw [lk]; split
      · exact h x List.mem_cons_self
      · exact ih fun y hy => h y (List.mem_cons_of_mem _ hy)
  exact h tbl (by decide)
def esc (r : Int) : Option (List UInt8) :=
  if letterF r ≠ 0 then some [92, UInt8.ofNat (letterF r).toNat] else if mayF r = true then some (Lib.encodeRune r) else none
def quoteL (s : ByteArray) : Nat → Nat → List UInt8 → Option (List UInt8)
  | 0, _, _ => none
  | n + 1, p, out => if p < s.size then (esc ((Utf8.decode s p).1 : Int)).bind fun x => quoteL s n (p + (Utf8.decode s p).2) (out ++ x) else some out
def quoteF (s : ByteArray) : Option ByteArray :=
  if s.size ≤ 1000000 then (if Lib.validD s.data.toList = true then (quoteL s (s.size + 1) 0 [34]).map fun o => ⟨(o ++ [34]).toArray⟩ else some ⟨#[]⟩) else none
theorem dec_pos (s : ByteArray) (p : Nat) (h : p < s.size) : 1 ≤ (Utf8.decode s p).2 := by
  by_cases ha : (s[p]'h).toNat < 128
  · rw [decode_ascii s p h ha]; exact Nat.le_refl _
  · exact (decode_high s p h (by omega)).2
theorem bld_below {T e : TypeId} {B b : Nat} {bs : List Value} {w w' : World} (h : Lib.IsBuilderF T e B b bs w) (hb : Below w.heap.size w w') : Lib.IsBuilderF T e B b bs w' := by
  have key : ∀ p, Lib.BuilderAtF T e B b p bs w → Lib.BuilderAtF T e B b p bs w' := by
    rintro p ⟨hB, v, hbk, hown, hne⟩
    have hlt := (Array.getElem?_eq_some_iff.1 hbk).1
    refine ⟨hB, v, (hb.block b hlt).trans hbk, ⟨hown.1, ?_⟩, hne⟩
    rcases hown.2 with hn | ⟨g, cap, cur, fz, hv, hbg, hg, rest⟩
    · exact .inl hn
    · exact .inr ⟨g, cap, cur, fz, hv, hbg, (hb.block g (Array.getElem?_eq_some_iff.1 hg).1).trans hg, rest⟩
  exact h.elim (fun x => .inl (key _ x)) (fun x => .inr (key _ x))
theorem out_len {x out : List UInt8} {r : Int} (h : esc r = some x) : x.length ≤ 4 := by
  unfold esc at h
  split at h
  · injection h with h; subst h; simp
  · split at h
    · injection h with h; subst h; have := Lib.runeCells_le r; rw [Lib.runeCells_length] at this; exact this.2
    · cases h
theorem cells_two (out : List UInt8) (a : Int) (h : 0 ≤ a ∧ a ≤ 255) : Lib.byteCells out ++ [.int .u8 a] = Lib.byteCells (out ++ [UInt8.ofNat a.toNat]) := by
  rw [Lib.byteCells_append]
  have e : ((UInt8.ofNat a.toNat).toNat : Int) = a := by
    rw [UInt8.toNat_ofNat']; omega
  show _ = Lib.byteCells out ++ [Value.int .u8 ((UInt8.ofNat a.toNat).toNat : Int)]
  rw [e]
set_option maxHeartbeats 8000000 in
set_option maxRecDepth 100000 in
theorem quote_calls (s r : ByteArray) (w : World) (hT : X.Tabs.Holds w) (h : quoteF s = some r) : Calls Tryz.prog 50 #[.string s] w fun e w' => e = .returned (.string r) ∧ Below w.heap.size w w' := by
  unfold quoteF at h
  split at h
  case isFalse => cases h
  rename_i hsz
  have HV := Aside0.mk (X.Tabs.valid s w (by omega) hT)
  split at h
  case isFalse =>
    rename_i hv
    have hv : Lib.validD s.data.toList = false := by simpa using hv
    injection h with h
    subst h
    have HV2 := HV.out
    rw [hv] at HV2
    have HV := Aside0.mk HV2
    clear HV2 hv
    go_enter Tryz.func50, Tryz.ntmps50
    go_wp2_with (go_at_call 38; refine HV.out.mono ?_; rintro e w1 ⟨rfl, hb⟩)
    go_ret
    exact ⟨rfl, hb⟩
  rename_i hv
  have HV2 := HV.out
  rw [hv] at HV2
  have HV := Aside0.mk HV2
  clear HV2 hv
  obtain ⟨o, ho, hr⟩ := Option.map_eq_some_iff.1 h
  have HR := Aside0.mk hr
  have HO := Aside0.mk ho
  have HS := Aside0.mk hsz
  clear h ho hr hsz
  go_enter Tryz.func50, Tryz.ntmps50
  go_wp2_with (go_at_call 38; refine HV.out.mono ?_; rintro e w1 ⟨rfl, hb⟩)
  have hnew : Lib.IsBuilderF 54 5 w1.heap.size w1.heap.size (Lib.byteCells []) (w1.alloc (.cells #[.pointer none, .slice none 0 0] 54)) := Lib.IsBuilderF.of (Lib.fresh_isBuilder 54 5 w1)
  refine (Bld.byte w1.heap.size w1.heap.size [] 34 _ hnew (by simp) (by simp)).mono ?_
  rintro e w2 ⟨rfl, hbl, hb2, hk2⟩
  have HB := Aside0.mk (show Below w1.heap.size w1 w2 from ((Below.refl _ w1).alloc (Nat.le_refl _) _).trans hb2)
  have HW1 := Aside0.mk hb
  have HBL := Aside0.mk (show Lib.IsBuilderF 54 5 w1.heap.size w1.heap.size (Lib.byteCells [34]) w2 from .inr hbl)
  clear hnew hbl hb2 hk2 hb
  have hlt2 := Aside0.mk (HBL.out.elim (fun x => x.lt) (fun x => x.lt))
  have hit := Aside0.mk (World.iter_heap w2 s 0)
  have hBi := Aside0.mk (show Below w1.heap.size w1 (w2.iter s 0) from below_alloc HB.out _)
  have hLi := Aside0.mk (show Lib.IsBuilderF 54 5 w1.heap.size w1.heap.size (Lib.byteCells [34]) (w2.iter s 0) from HBL.out.alloc _)
  have hkb := Aside0.mk (show w2.heap.size ≠ w1.heap.size from fun e => by have := hlt2.out; omega)
  have hkk := Aside0.mk (show w1.heap.size ≤ w2.heap.size from HB.out.size)
  clear HB HBL hlt2
  go_wp2
  go_loopw [] (fun wr => ∃ (n pos : Nat) (out : List UInt8), Aside0 (quoteL s n pos out = some o) ∧ Aside0 (wr.heap[w2.heap.size]? = some (.stringIter s pos)) ∧ Aside0 (Lib.IsBuilderF 54 5 w1.heap.size w1.heap.size (Lib.byteCells out) wr) ∧ Aside0 (Below w1.heap.size w1 wr) ∧ Aside0 (out.length + 4 * n ≤ 4 * s.size + 5)) (fun wr => s.size - wr.iterPos w2.heap.size)
  case atStart => exact ⟨s.size + 1, 0, [34], HO, hit, hLi, hBi, ⟨by simp only [List.length_cons, List.length_nil]; omega⟩⟩
  case round =>
    obtain ⟨n, pos, out, HG, HI, HBL, HB, HLn⟩ := hrel
    clear hit hLi hBi HO
    have hm0 := Aside0.mk (show wr.iterPos w2.heap.size = pos by unfold World.iterPos; rw [HI.out])
    have hws := Aside0.mk (show w1.heap.size ≤ wr.heap.size from HB.out.size)
    cases n with
    | zero => exact absurd HG.out (by simp [quoteL])
    | succ n =>
      have hG := HG.out
      rw [quoteL] at hG
      clear HG
      by_cases hp : pos < s.size
      · rw [if_pos hp] at hG
        obtain ⟨x, hx, hgo⟩ := Option.bind_eq_some_iff.1 hG
        have hnx := fun ty => Lib.run_next_any_at (P := Tryz.prog) wr w2.heap.size s pos ty HI.out hp
        have hpos := Aside0.mk (dec_pos s pos hp)
        have hr0 := Aside0.mk (show -2147483648 ≤ ((Utf8.decode s pos).1 : Int) ∧ ((Utf8.decode s pos).1 : Int) ≤ 2147483647 from ⟨by omega, by have := decode_le s pos; omega⟩)
        have hxl := Aside0.mk (out_len (out := out) hx)
        have HI2 := Aside0.mk (fun p' => Lib.iterAt_heap wr w2.heap.size s pos p' HI.out)
        have HBL2 := Aside0.mk (fun p' => HBL.out.iterAt HI.out p')
        have HB2 := Aside0.mk (fun p' => Lib.below_iterAt HB.out hkk.out s p')
        have hsz2 := Aside0.mk (fun p' => Lib.iterAt_size wr w2.heap.size s p')
        have HGo := Aside0.mk hgo
        have HP := Aside0.mk hp
        clear hG hgo hp HI HBL HB
        generalize (Utf8.decode s pos).2 = dz at hnx hpos HGo
        generalize ((Utf8.decode s pos).1 : Int) = r0 at hnx hx hr0 hxl
        generalize hp' : pos + dz = p' at hnx HGo
        have HPP := Aside0.mk hp'
        clear hp'
        have HI := Aside0.mk (HI2.out p')
        have HBL := Aside0.mk (HBL2.out p')
        have HB := Aside0.mk (HB2.out p')
        have hs2 := Aside0.mk (hsz2.out p')
        clear HI2 HBL2 HB2 hsz2
        generalize hwn : wr.iterAt w2.heap.size s p' = wn at hnx HI HBL HB hs2
        unfold esc at hx
        by_cases hl0 : letterF r0 ≠ 0
        · rw [if_pos hl0] at hx
          injection hx with hx
          subst hx
          have hlb : (letterF r0 == 0) = false := beq_eq_false_iff_ne.mpr hl0
          have hlb2 : (letterF r0 != 0) = true := bne_iff_ne.mpr hl0
          have HL0 := Aside0.mk (letter_u8 r0)
          clear hl0
          go_wp2_with (go_at_call 75; refine (letter_calls r0 _).mono ?_; rintro e w3 ⟨rfl, hb3⟩)
          have HI3 := (hb3.block _ (Array.getElem?_eq_some_iff.1 HI.out).1).trans HI.out
          have HB3 := HB.out.trans (hb3.mono HB.out.size)
          have hol : out.length + 4 ≤ 4 * s.size + 5 := by have := HLn.out; omega
          have hsm := HS.out
          refine (Bld.byte w1.heap.size w1.heap.size (Lib.byteCells out) 92 w3 (bld_below HBL.out hb3) (by rw [Lib.byteCells_length]; omega) HB3.size).mono ?_
          rintro e w4 ⟨rfl, hbl4, hb4, hk4⟩
          have HI4 := hk4.iter HI3 hkb.out
          have HB4 := HB3.trans hb4
          rw [show Lib.byteCells out ++ [Value.int .u8 92] = Lib.byteCells (out ++ [92]) from cells_two out 92 (by decide)] at hbl4
          clear hb3 hk4 hb4 HI3 HB3
          go_wp2_with fail
          refine (Bld.byte w1.heap.size w1.heap.size (Lib.byteCells (out ++ [92])) (letterF r0) w4 (.inr hbl4) (by rw [Lib.byteCells_length, List.length_append]; simp only [List.length_cons, List.length_nil]; omega) HB4.size).mono ?_
          rintro e w5 ⟨rfl, hbl5, hb5, hk5⟩
          have HI5 := Aside0.mk (hk5.iter HI4 hkb.out)
          have HB5 := Aside0.mk (HB4.trans hb5)
          rw [cells_two (out ++ [92]) (letterF r0) HL0.out, List.append_assoc] at hbl5
          have HBL5 := Aside0.mk (Or.inr hbl5 : Lib.IsBuilderF 54 5 w1.heap.size w1.heap.size (Lib.byteCells (out ++ [92, UInt8.ofNat (letterF r0).toNat])) w5)
          clear hbl4 hbl5 hk5 hb5 HI4 HB4
          go_wp2
          go_roundw
          case rel => exact ⟨n, p', out ++ [92, UInt8.ofNat (letterF r0).toNat], HGo, HI5, HBL5, HB5, ⟨by rw [List.length_append]; have := HLn.out; have := hxl.out; omega⟩⟩
          case measure =>
            have e1 : w5.iterPos w2.heap.size = p' := by unfold World.iterPos; rw [HI5.out]
            have := HPP.out; have := hpos.out; have := HP.out; have := hm0.out
            omega
        · rw [if_neg hl0] at hx
          split at hx
          case isFalse => cases hx
          rename_i hmy
          injection hx with hx
          subst hx
          have hz : letterF r0 = 0 := by omega
          have hlb : (letterF r0 == 0) = true := beq_iff_eq.mpr hz
          have hlb2 : (letterF r0 != 0) = false := bne_eq_false_iff_eq.mpr hz
          have HM := Aside0.mk (may_calls r0)
          clear hl0 hz
          go_wp2_with (first | (go_at_call 75; refine (letter_calls r0 _).mono ?_; rintro e w3 ⟨rfl, hb3⟩) | (go_at_call 76; refine (HM.out _).mono ?_; rw [hmy]; rintro e w4 ⟨rfl, ⟨nd, rfl⟩⟩))
          have HI3 := (hb3.block _ (Array.getElem?_eq_some_iff.1 HI.out).1).trans HI.out
          have HB3 := HB.out.trans (hb3.mono HB.out.size)
          have hol : out.length + 4 ≤ 4 * s.size + 5 := by have := HLn.out; omega
          have hsm := HS.out
          have HI4 : (w3.drewN nd).heap[w2.heap.size]? = some (.stringIter s p') := HI3
          have HB4 : Below w1.heap.size w1 (w3.drewN nd) := pw_below_drewN HB3 nd
          have hrb := hr0.out
          have hk4 := (Lib.runeCells_le r0).2
          refine (Bld.rune w1.heap.size w1.heap.size (Lib.byteCells out) r0 hrb.1 hrb.2 (w3.drewN nd) (bld_below HBL.out (pw_below_drewN hb3 nd)) (by rw [Lib.byteCells_length]; omega) HB4.size).mono ?_
          rintro e w5 ⟨rfl, hbl5, hb5, hk5⟩
          have HI5 := Aside0.mk (hk5.iter HI4 hkb.out)
          have HB5 := Aside0.mk (HB4.trans hb5)
          rw [← Lib.byteCells_encodeRune, ← Lib.byteCells_append] at hbl5
          have HBL5 := Aside0.mk (Or.inr hbl5 : Lib.IsBuilderF 54 5 w1.heap.size w1.heap.size (Lib.byteCells (out ++ Lib.encodeRune r0)) w5)
          clear hbl5 hk5 hb5 HI4 HB4 HI3 HB3 hb3
          go_wp2
          go_roundw
          case rel => exact ⟨n, p', out ++ Lib.encodeRune r0, HGo, HI5, HBL5, HB5, ⟨by rw [List.length_append]; have := HLn.out; have := hxl.out; omega⟩⟩
          case measure =>
            have e1 : w5.iterPos w2.heap.size = p' := by unfold World.iterPos; rw [HI5.out]
            have := HPP.out; have := hpos.out; have := HP.out; have := hm0.out
            omega
      · rw [if_neg hp] at hG
        injection hG with hG
        subst hG
        have hnx := fun ty => Lib.run_next_end_at (P := Tryz.prog) wr w2.heap.size s pos ty HI.out hp
        go_wp2_with fail
        have hol : out.length + 4 ≤ 4 * s.size + 5 := by have := HLn.out; omega
        have hsm := HS.out
        refine (Bld.byte w1.heap.size w1.heap.size (Lib.byteCells out) 34 wr HBL.out (by rw [Lib.byteCells_length]; omega) HB.out.size).mono ?_
        rintro e w4 ⟨rfl, hbl4, hb4, hk4⟩
        have HB4 := HB.out.trans hb4
        rw [show Lib.byteCells out ++ [Value.int .u8 34] = Lib.byteCells (out ++ [34]) from cells_two out 34 (by decide)] at hbl4
        go_wp2_with fail
        refine (Tryz.Builder_String_any_f w1.heap.size w1.heap.size (out ++ [34]) w4 (.inr hbl4) HB4.size).mono ?_
        rintro e w5 ⟨rfl, hbl5, hb5⟩
        go_wp2
        go_ret
        exact ⟨by rw [← HR.out]; first | rfl | (simp; done), HW1.out.trans ((HB4.trans hb5).mono HW1.out.size)⟩
end Go.Proofs.YtgnmjaacnmkgnaaGreatDoor.Qt
end
section
namespace Go.Proofs.YtgnmjaacnmkgnaaGreatDoor.X
open Go.RowKit Go.Shelf Go.Proofs
set_option linter.unusedVariables false
set_option linter.unusedSimpArgs false
namespace Pri
def LineOk (x : Evt.Ev) (s : ByteArray) : Prop := ∀ w, Tabs.Holds w → Calls Tryz.prog 29 #[.agg #[.int .i64 x.kind, .string x.anchor, .string x.tag, .string x.text, .bool x.plain]] w fun e w' => e = .returned (.string s) ∧ Below w.heap.size w w'
def catF (L : Nat → ByteArray) : Nat → List UInt8
  | 0 => []
  | k + 1 => catF L k ++ ((L k).data.toList ++ [10])
def printS (l : List Evt.Ev) (L : Nat → ByteArray) : ByteArray := if Evt.rightG Evt.rightE l = true then ⟨(catF L l.length).toArray⟩ else ⟨#[]⟩
theorem cat_mono (L : Nat → ByteArray) (k : Nat) : ∀ d, (catF L k).length ≤ (catF L (k + d)).length
  | 0 => Nat.le_refl _
  | d + 1 => by
    have := cat_mono L k d
    rw [← Nat.add_assoc, catF, List.length_append]; omega
theorem cat_le {L : Nat → ByteArray} {k n m : Nat} (h : k < n) (hb : (catF L n).length ≤ m) : (catF L k).length + ((L k).size + 1) ≤ m := by
  have h1 := cat_mono L (k + 1) (n - (k + 1))
  rw [show k + 1 + (n - (k + 1)) = n by omega, catF, List.length_append, List.length_append] at h1
  have e : (L k).data.toList.length = (L k).data.size := Array.length_toList
  simp only [List.length_cons, List.length_nil] at h1
  have : (L k).size = (L k).data.size := rfl
  omega
theorem cat_cells (L : Nat → ByteArray) (k : Nat) : Lib.byteCells (catF L k) ++ Lib.strCells (L k ++ (⟨#[10]⟩ : ByteArray)) = Lib.byteCells (catF L (k + 1)) := by
  rw [catF, Lib.byteCells_append]
  congr 1
theorem fresh {w w1 : World} {g : Nat} (hB : w.heap.size ≤ g) (hk : w1.heap[g]? = some (.cells #[.pointer none, .slice none 0 0] 54 (0, 0))) : Lib.IsBuilderF 54 5 w.heap.size g (Lib.byteCells []) w1 :=
  Lib.IsBuilderF.of (.inl ⟨hB, .slice none 0 0, hk, World.ownsRow_nil _ _ _ _, by simp [Value.ownBlock]⟩)
theorem run_add_str {P : Program} {a : Act} {w : World} {o : Oper} {s t : ByteArray} {T U : TypeId} {x y : Operand} (hop : o.op = .binOp .add T x y U) (hx : a.eval x = .string s) (hy : a.eval y = .string t) (h : s.size + t.size ≤ 9223372036854775807) : (execOp a.eval o).run P w = .ok (.value (.string (s ++ t))) w := by
  have h1 : ¬ (((s.size + t.size : Nat) : Int) > IntKind.i64.max) := by
    have : IntKind.i64.max = 9223372036854775807 := by decide
    rw [this]; omega
  unfold execOp; rw [hop]
  simp only [hx, hy]
  simp [Sem.run_bind, Sem.run_pure, eqGuard, binOp, Op.stringOp, h1]
  omega
end Pri
end Go.Proofs.YtgnmjaacnmkgnaaGreatDoor.X
end
section
namespace Go.Proofs.YtgnmjaacnmkgnaaGreatDoor.X
open Go.RowKit Go.Shelf Go.Proofs Go.Proofs.YtgnmjaacnmkgnaaGreatDoorW.PrintWords Go.Proofs.YtgnmjaacnmkgnaaGreatDoorW.PrintLast Go.Proofs.YtgnmjaacnmkgnaaGreatDoorW.PrintMore
set_option linter.unusedVariables false
set_option linter.unusedSimpArgs false
attribute [local go_sem] max2_int min2_int max_two min_two
set_option maxHeartbeats 4000000 in
set_option maxRecDepth 100000 in
theorem Pri.print_calls (v : Value) (l : List Evt.Ev) (L : Nat → ByteArray) (w : World) (hT : Tabs.Holds w) (hl : Eng.Reads w v l.length 5 (Evt.cells l)) (hsz : ∀ k, k < l.length → (l.getD k default).text.size ≤ 9223372036854775807) (hlen : l.length ≤ 100000) (hL : Evt.rightG Evt.rightE l = true → ∀ k, k < l.length → Pri.LineOk (l.getD k default) (L k)) (hbd : (Pri.catF L l.length).length ≤ 1000000000) : Calls Tryz.prog 16 #[v] w fun e w' => e = .returned (.string (Pri.printS l L)) ∧ Below w.heap.size w w' := by
 have hm := Eng.Reads.len_le hl
 refine Eng.enter Tryz.func16 rfl fun act0 d0 s0 v0 => ?_
 have s0 : act0.tmps.size = 21 := s0
 have h0_0 : act0.eval (.tmp 0) = v := v0 0 (by simp)
 clear v0
 have bl0 : Below w.heap.size w w := Below.refl _ _
 refine wp_seq ?_
 refine Eng.regionS (Eng.still [fun u_ => u_ = .string ⟨#[]⟩]) (fun _ => .plain) 1 0 21 s0 rfl (by kernel_rfl) (Eng.still_stable _) (Or.inr (Eng.still_any _)) ?_ ?_
 ·refine .cons (fun _ => ?_) (.nil)
  ·exact Eng.plain rfl rfl fun a w' H => Eng.vr rfl (Eng.run_assign rfl (rfl : a.eval (.const (.string ⟨#[]⟩)) = .string ⟨#[]⟩))
 intro act1 w1 T
 have h0_1 := (T.rest 0 (by kernel_rfl)).trans h0_0
 have Fl_1 := Eng.Reads.below hl T.below
 have h2_1 : act1.eval (.tmp 2) = .string ⟨#[]⟩ := T.done 0 2 rfl rfl
 have d1 := T.defers.trans d0
 have s1 := T.size.trans s0
 have bl1 := bl0.trans (T.below.mono bl0.size)
 clear T
 refine Eng.tail_nil ?_
 first | show Code.wp Tryz.prog _ _ _ _ | skip
 refine wp_seq ?_
 refine wp_seq ?_
 obtain ⟨q7, Bq7⟩ : ∃ b : Bool, b = (Evt.rightG Evt.rightE l) := ⟨_, rfl⟩
 obtain ⟨q8, Bq8⟩ : ∃ b : Bool, b = (!q7) := ⟨_, rfl⟩
 refine Eng.regionS (Eng.still [fun u_ => u_ = v, fun u_ => u_ = .bool q7, fun u_ => u_ = .bool q8]) (fun _ => .plain) 3 0 21 s1 rfl (by kernel_rfl) (Eng.still_stable _) (Or.inr (Eng.still_any _)) ?_ ?_
 ·refine .cons (fun _ => ?_) (.cons (fun _ => ?_) (.cons (fun _ => ?_) (.nil)))
  ·exact Eng.plain rfl rfl fun a w' H => Eng.vr rfl (Eng.run_move rfl ((H.kept 0 (by kernel_rfl)).trans h0_1))
  ·refine Eng.plain rfl rfl fun a w' H => ?_
   refine Eng.call Tryz.func12 (by kernel_rfl) (by kernel_rfl) rfl #[v] ?_ ?_
   ·have e0 : a.eval (.tmp 6) = v := (H.dep 0 6 (by kernel_rfl) rfl); simp only [List.map_toArray, List.map_cons, List.map_nil, e0]
   refine (Evt.Right_calls v l _ (Tabs.below (Tabs.below hT bl1) H.below) (Eng.Reads.below Fl_1 H.below) hsz hlen).mono ?_
   rintro e w'' ⟨rfl, hb⟩
   exact ⟨_, rfl, (by show _ = Value.bool q7; rw [Bq7]), hb⟩
  ·exact Eng.plain rfl rfl fun a w' H => Eng.vr (v := .bool (!q7)) (by show _ = Value.bool q8; rw [Bq8]) (Eng.run_not rfl (H.dep 1 7 (by kernel_rfl) rfl))
 intro act2 w2 T
 have h0_2 := (T.rest 0 (by kernel_rfl)).trans h0_1
 have h2_2 := (T.rest 2 (by kernel_rfl)).trans h2_1
 have Fl_2 := Eng.Reads.below Fl_1 T.below
 have h8_2 : act2.eval (.tmp 8) = .bool q8 := T.done 2 8 rfl rfl
 have d2 := T.defers.trans d1
 have s2 := T.size.trans s1
 have bl2 := bl1.trans (T.below.mono bl1.size)
 clear T
 refine Eng.tail_nil ?_
 first | show Code.wp Tryz.prog _ _ _ _ | skip
 refine wp_cond_split h8_2 (fun hq => ?_) (fun hq => ?_)
 ·
  have c8 := Bq8.symm.trans hq
  clear hq
  have hrf : ¬ Evt.rightG Evt.rightE l = true := by have h := c8; simp only [Bq8, Bq7] at h; simpa using h
  refine wp_seq ?_
  refine Eng.regionS (Eng.still [fun u_ => u_ = .string ⟨#[]⟩]) (fun _ => .plain) 1 0 21 s2 rfl (by kernel_rfl) (Eng.still_stable _) (Or.inr (Eng.still_any _)) ?_ ?_
  ·refine .cons (fun _ => ?_) (.nil)
   ·exact Eng.plain rfl rfl fun a w' H => Eng.vr rfl (Eng.run_assign rfl (rfl : a.eval (.const (.string ⟨#[]⟩)) = .string ⟨#[]⟩))
  intro act4 w4 T
  have h2_4 : act4.eval (.tmp 2) = .string ⟨#[]⟩ := T.done 0 2 rfl rfl
  have d4 := T.defers.trans d2
  have bl4 := bl2.trans (T.below.mono bl2.size)
  clear T
  refine Eng.tail_nil ?_
  first | show Code.wp Tryz.prog _ _ _ _ | skip
  refine wp_ret ?_
  repeat (first | with_reducible refine Eng.in_ret ?_ | with_reducible refine Eng.then_ret ?_)
  exact Eng.ret1 rfl d4 h2_4 ⟨by unfold Pri.printS; rw [if_neg hrf], bl4⟩
 ·
  have c8 := Bq8.symm.trans hq
  clear hq
  have hrt : Evt.rightG Evt.rightE l = true := by have h := c8; simp only [Bq8, Bq7] at h; simpa using h
  refine wp_skip ?_
  first | show Code.wp Tryz.prog _ _ _ _ | skip
  refine wp_seq ?_
  refine Eng.regionS (Eng.still [fun u_ => True]) (fun i => ([.alloc 54 #[.pointer none, .slice none 0 0]] : List Eng.Kind).getD i .plain) 1 0 21 s2 rfl (by kernel_rfl) (Eng.still_stable _) (Or.inr (Eng.still_any _)) ?_ ?_
  ·refine .cons (fun _ => ?_) (.nil)
   ·refine Eng.made rfl (by simp) rfl (fun a w' hd ho => ?_) (fun _ _ => trivial)
    simp only [execOp]
    go_simp
  intro act6 w6 T
  have h0_6 := (T.rest 0 (by kernel_rfl)).trans h0_2
  have h2_6 := (T.rest 2 (by kernel_rfl)).trans h2_2
  have h8_6 := (T.rest 8 (by kernel_rfl)).trans h8_2
  have Fl_6 := Eng.Reads.below Fl_2 T.below
  obtain ⟨g3_6, h3_6, rg3_6, lg3_6_6, kg3_6_6⟩ := T.al 0 3 _ _ rfl rfl rfl (by kernel_rfl)
  have og3_6 : w.heap.size ≤ g3_6 := Nat.le_trans bl2.size rg3_6
  have d6 := T.defers.trans d2
  have s6 := T.size.trans s2
  have bl6 := bl2.trans (T.below.mono bl2.size)
  clear T
  have U_6 := Pri.fresh og3_6 kg3_6_6
  refine Eng.tail_nil ?_
  first | show Code.wp Tryz.prog _ _ _ _ | skip
  refine wp_seq ?_
  refine wp_seq ?_
  refine Eng.regionS (Eng.still [fun u_ => u_ = v, fun u_ => u_ = .int .i64 ((l.length : Nat) : Int), fun u_ => u_ = .int .i64 0]) (fun _ => .plain) 3 0 21 s6 rfl (by kernel_rfl) (Eng.still_stable _) (Or.inr (Eng.still_any _)) ?_ ?_
  ·refine .cons (fun _ => ?_) (.cons (fun _ => ?_) (.cons (fun _ => ?_) (.nil)))
   ·exact Eng.plain rfl rfl fun a w' H => Eng.vr rfl (Eng.run_move rfl ((H.kept 0 (by kernel_rfl)).trans h0_6))
   ·exact Eng.plain rfl rfl fun a w' H => Eng.vr (v := .int .i64 ((l.length : Nat) : Int)) rfl (Eng.run_len_sl rfl Tryz.underlying24 (show a.eval (.tmp 9) = v from (H.dep 0 9 (by kernel_rfl) rfl)) (Eng.Reads.below Fl_6 H.below))
   ·exact Eng.plain rfl rfl fun a w' H => Eng.vr rfl (Eng.run_move rfl (rfl : a.eval (.const (.int .i64 0)) = .int .i64 0))
  intro act7 w7 T
  have h0_7 := (T.rest 0 (by kernel_rfl)).trans h0_6
  have h2_7 := (T.rest 2 (by kernel_rfl)).trans h2_6
  have h3_7 := (T.rest 3 (by kernel_rfl)).trans h3_6
  have h8_7 := (T.rest 8 (by kernel_rfl)).trans h8_6
  have h9_7 : act7.eval (.tmp 9) = v := T.done 0 9 rfl rfl
  have h10_7 : act7.eval (.tmp 10) = .int .i64 ((l.length : Nat) : Int) := T.done 1 10 rfl rfl
  have h11_7 : act7.eval (.tmp 11) = .int .i64 0 := T.done 2 11 rfl rfl
  have d7 := T.defers.trans d6
  have s7 := T.size.trans s6
  have bl7 := bl6.trans (T.below.mono bl6.size)
  have XU_7 := Qt.bld_below U_6 T.below
  clear T
  refine Eng.tail_nil ?_
  first | show Code.wp Tryz.prog _ _ _ _ | skip
  refine wp_block ?_
  refine Eng.loopN (fun n a w' => ∃ (k : Nat), l.length - k = n ∧ (k ≤ l.length) ∧ (Lib.IsBuilderF 54 5 w.heap.size g3_6 (Lib.byteCells (Pri.catF L k)) w') ∧ a.defers = [] ∧ a.tmps.size = 21 ∧ Below w.heap.size w w' ∧ a.eval (.tmp 0) = v ∧ a.eval (.tmp 2) = .string ⟨#[]⟩ ∧ a.eval (.tmp 3) = .pointer (some ⟨g3_6, 0, none⟩) ∧ a.eval (.tmp 8) = .bool q8 ∧ a.eval (.tmp 9) = v ∧ a.eval (.tmp 10) = .int .i64 ((l.length : Nat) : Int) ∧ a.eval (.tmp 11) = .int .i64 (k : Nat)) (n0 := l.length - 0) ?_ ?_
  ·exact ⟨0, rfl, by omega, XU_7, d7, s7, bl7, h0_7, h2_7, h3_7, h8_7, h9_7, h10_7, (h11_7.trans (by first | rfl | (congr 1; rw [Eng.i64_id (by omega) (by omega)]; omega) | (simp; done)))⟩
  rintro n act8 w8 ⟨k, rfl, hc0_8, hc1_8, d8, s8, bl8, h0_8, h2_8, h3_8, h8_8, h9_8, h10_8, h11_8⟩
  have Fl_8 := Eng.Reads.below hl bl8
  have hk1 := hc0_8
  refine wp_seq ?_
  obtain ⟨q12, Bq12⟩ : ∃ b : Bool, b = (decide ((k : Nat) < ((l.length : Nat) : Int))) := ⟨_, rfl⟩
  refine Eng.regionS (Eng.still [fun u_ => u_ = .bool q12]) (fun _ => .plain) 1 0 21 s8 rfl (by kernel_rfl) (Eng.still_stable _) (Or.inr (Eng.still_any _)) ?_ ?_
  ·refine .cons (fun _ => ?_) (.nil)
   ·refine Eng.plain rfl rfl fun a w' H => ?_
    refine Eng.vr (v := .bool (decide ((k : Nat) < ((l.length : Nat) : Int)))) (by show _ = Value.bool q12; rw [Bq12]) ?_
    have e0 : a.eval (.tmp 11) = .int .i64 (k : Nat) := ((H.kept 11 (by kernel_rfl)).trans h11_8)
    have e1 : a.eval (.tmp 10) = .int .i64 ((l.length : Nat) : Int) := ((H.kept 10 (by kernel_rfl)).trans h10_8)
    simp only [execOp, resolve, List.map_toArray, List.map_cons, List.map_nil, e0, e1]
    go_simp
    all_goals first | rfl | (simp; done) | (rw [Bool.eq_iff_iff]; simp; done) | omega | (split <;> first | (simp_all; done) | (split <;> simp_all; done)) | skip
  intro act9 w9 T
  have h0_9 := (T.rest 0 (by kernel_rfl)).trans h0_8
  have h2_9 := (T.rest 2 (by kernel_rfl)).trans h2_8
  have h3_9 := (T.rest 3 (by kernel_rfl)).trans h3_8
  have h8_9 := (T.rest 8 (by kernel_rfl)).trans h8_8
  have h9_9 := (T.rest 9 (by kernel_rfl)).trans h9_8
  have h10_9 := (T.rest 10 (by kernel_rfl)).trans h10_8
  have h11_9 := (T.rest 11 (by kernel_rfl)).trans h11_8
  have Fl_9 := Eng.Reads.below Fl_8 T.below
  have h12_9 : act9.eval (.tmp 12) = .bool q12 := T.done 0 12 rfl rfl
  have d9 := T.defers.trans d8
  have s9 := T.size.trans s8
  have bl9 := bl8.trans (T.below.mono bl8.size)
  have XU_9 := Qt.bld_below hc1_8 T.below
  clear T
  refine Eng.tail_nil ?_
  first | show Code.wp Tryz.prog _ _ _ _ | skip
  refine wp_seq ?_
  refine wp_cond_split h12_9 (fun hq => ?_) (fun hq => ?_)
  ·
   have c12 := Bq12.symm.trans hq
   clear hq
   have c12 := of_decide_eq_true c12
   have hk0 : k < l.length := by omega
   have hck := Pri.cat_le (L := L) hk0 hbd
   refine wp_skip ?_
   first | show Code.wp Tryz.prog _ _ _ _ | skip
   refine wp_seq ?_
   refine wp_block ?_
   refine wp_seq ?_
   refine Eng.regionS (Eng.still [fun u_ => u_ = Eng.elemPtr v (k * 5), fun u_ => u_ = .agg #[.int .i64 ((l.getD k default).kind), .string ((l.getD k default).anchor), .string ((l.getD k default).tag), .string ((l.getD k default).text), .bool ((l.getD k default).plain)], fun u_ => True, fun u_ => True]) (fun i => ([.plain, .plain, .alloc 29 #[.int .i64 0, .string ⟨#[]⟩, .string ⟨#[]⟩, .string ⟨#[]⟩, .bool false], .store 2 #[.int .i64 ((l.getD k default).kind), .string ((l.getD k default).anchor), .string ((l.getD k default).tag), .string ((l.getD k default).text), .bool ((l.getD k default).plain)]] : List Eng.Kind).getD i .plain) 4 0 21 s9 rfl (by kernel_rfl) (Eng.still_stable _) (Or.inr (Eng.still_any _)) ?_ ?_
   ·refine .cons (fun _ => ?_) (.cons (fun _ => ?_) (.cons (fun _ => ?_) (.cons (fun _ => ?_) (.nil))))
    ·exact Eng.plain rfl rfl fun a w' H => Eng.vr (v := Eng.elemPtr v (k * 5)) rfl (Eng.run_index_sl rfl Tryz.underlying24 (by kernel_rfl) (show a.eval (.tmp 9) = v from ((H.kept 9 (by kernel_rfl)).trans h9_9)) ((show a.eval (.tmp 11) = .int .i64 (k : Nat) from ((H.kept 11 (by kernel_rfl)).trans h11_9)).trans (congrArg (Value.int _) (show (k : Nat) = ((k : Nat) : Int) from by omega))) (Eng.Reads.below Fl_9 H.below) (by omega) rfl)
    ·exact Eng.plain rfl rfl fun a w' H => Eng.vr (v := .agg #[.int .i64 ((l.getD k default).kind), .string ((l.getD k default).anchor), .string ((l.getD k default).tag), .string ((l.getD k default).text), .bool ((l.getD k default).plain)]) rfl (Eng.run_load_els [.int .i64 ((l.getD k default).kind), .string ((l.getD k default).anchor), .string ((l.getD k default).tag), .string ((l.getD k default).text), .bool ((l.getD k default).plain)] rfl (show a.eval (.tmp 13) = Eng.elemPtr v (k * 5) from (H.dep 0 13 (by kernel_rfl) rfl)) (Eng.Reads.below Fl_9 H.below) (Evt.cells_at l k (by omega)) rfl Tryz.underlying29 rfl (by kernel_rfl))
    ·refine Eng.made rfl (by simp) rfl (fun a w' hd ho => ?_) (fun _ _ => trivial)
     simp only [execOp]
     go_simp
    ·refine Eng.stored [.int .i64 ((l.getD k default).kind), .string ((l.getD k default).anchor), .string ((l.getD k default).tag), .string ((l.getD k default).text), .bool ((l.getD k default).plain)] rfl rfl rfl (j := 2) (d := 5) (by kernel_rfl) rfl rfl (Eng.store_uniq (by kernel_rfl)) rfl rfl fun a w' g e hc hd ho => ?_
     have e0 : a.eval _ = .agg #[.int .i64 ((l.getD k default).kind), .string ((l.getD k default).anchor), .string ((l.getD k default).tag), .string ((l.getD k default).text), .bool ((l.getD k default).plain)] := (hd 1 14 (by kernel_rfl) rfl)
     have z0 := (Eng.cells hc 0).trans rfl
     have z1 := (Eng.cells hc 1).trans rfl
     have z2 := (Eng.cells hc 2).trans rfl
     have z3 := (Eng.cells hc 3).trans rfl
     have z4 := (Eng.cells hc 4).trans rfl
     have f0 := Eng.unfrozen hc 0
     have f1 := Eng.unfrozen hc 1
     have f2 := Eng.unfrozen hc 2
     have f3 := Eng.unfrozen hc 3
     have f4 := Eng.unfrozen hc 4
     simp only [execOp, e, e0]
     go_simp
     rfl
   intro act11 w11 T
   have h0_11 := (T.rest 0 (by kernel_rfl)).trans h0_9
   have h2_11 := (T.rest 2 (by kernel_rfl)).trans h2_9
   have h3_11 := (T.rest 3 (by kernel_rfl)).trans h3_9
   have h8_11 := (T.rest 8 (by kernel_rfl)).trans h8_9
   have h9_11 := (T.rest 9 (by kernel_rfl)).trans h9_9
   have h10_11 := (T.rest 10 (by kernel_rfl)).trans h10_9
   have h11_11 := (T.rest 11 (by kernel_rfl)).trans h11_9
   obtain ⟨g5_11, h5_11, rg5_11, lg5_11_11, kg5_11_11⟩ := T.st 2 5 3 _ _ _ rfl rfl rfl rfl rfl
   have d11 := T.defers.trans d9
   have s11 := T.size.trans s9
   have bl11 := bl9.trans (T.below.mono bl9.size)
   have XU_11 := Qt.bld_below XU_9 T.below
   clear T
   refine Eng.tail_nil ?_
   first | show Code.wp Tryz.prog _ _ _ _ | skip
   refine (wpIn_wide (n := 1)).1 ?_
   refine EngI.regionS EngI.free_wide (Eng.still [fun u_ => u_ = .agg #[.int .i64 ((l.getD k default).kind), .string ((l.getD k default).anchor), .string ((l.getD k default).tag), .string ((l.getD k default).text), .bool ((l.getD k default).plain)], fun u_ => u_ = .string (L k), fun u_ => u_ = .string ((L k) ++ (⟨#[10]⟩ : ByteArray))]) (fun _ => .plain) 3 1 21 s11 rfl (by kernel_rfl) (Eng.still_stable _) (Or.inr (Eng.still_any _)) (by kernel_rfl) ?_ ?_
   ·refine .cons (fun _ => ?_) (.cons (fun _ => ?_) (.cons (fun _ => ?_) (.cons (fun h => absurd h (by decide)) (.nil))))
    ·refine Eng.plain rfl rfl fun a w' H => ?_
     have kb := (H.below.block _ lg5_11_11).trans kg5_11_11
     have z0 : w'.cell? ⟨g5_11, 0, none⟩ = some (.int .i64 ((l.getD k default).kind)) := (Eng.cells kb 0).trans rfl
     have z1 : w'.cell? ⟨g5_11, 1, none⟩ = some (.string ((l.getD k default).anchor)) := (Eng.cells kb 1).trans rfl
     have z2 : w'.cell? ⟨g5_11, 2, none⟩ = some (.string ((l.getD k default).tag)) := (Eng.cells kb 2).trans rfl
     have z3 : w'.cell? ⟨g5_11, 3, none⟩ = some (.string ((l.getD k default).text)) := (Eng.cells kb 3).trans rfl
     have z4 : w'.cell? ⟨g5_11, 4, none⟩ = some (.bool ((l.getD k default).plain)) := (Eng.cells kb 4).trans rfl
     refine Eng.vr (v := .agg #[.int .i64 ((l.getD k default).kind), .string ((l.getD k default).anchor), .string ((l.getD k default).tag), .string ((l.getD k default).text), .bool ((l.getD k default).plain)]) rfl ?_
     have e0 : a.eval (.tmp 5) = .pointer (some ⟨g5_11, 0, none⟩) := ((H.kept 5 (by kernel_rfl)).trans h5_11)
     simp only [execOp, resolve, List.map_toArray, List.map_cons, List.map_nil, e0]
     go_simp
     all_goals first | rfl | (simp; done) | (rw [Bool.eq_iff_iff]; simp; done) | omega | (split <;> first | (simp_all; done) | (split <;> simp_all; done)) | skip
    ·refine Eng.plain rfl rfl fun a w' H => ?_
     refine Eng.call Tryz.func29 (by kernel_rfl) (by kernel_rfl) rfl #[.agg #[.int .i64 ((l.getD k default).kind), .string ((l.getD k default).anchor), .string ((l.getD k default).tag), .string ((l.getD k default).text), .bool ((l.getD k default).plain)]] ?_ ?_
     ·have e0 : a.eval (.tmp 15) = .agg #[.int .i64 ((l.getD k default).kind), .string ((l.getD k default).anchor), .string ((l.getD k default).tag), .string ((l.getD k default).text), .bool ((l.getD k default).plain)] := (H.dep 0 15 (by kernel_rfl) rfl); simp only [List.map_toArray, List.map_cons, List.map_nil, e0]
     refine (hL hrt k hk0 _ (Tabs.below (Tabs.below hT bl11) H.below)).mono ?_
     rintro e w'' ⟨rfl, hb⟩
     exact ⟨_, rfl, rfl, hb⟩
    ·exact Eng.plain rfl rfl fun a w' H => Eng.vr (v := .string ((L k) ++ (⟨#[10]⟩ : ByteArray))) rfl ((Pri.run_add_str rfl (show a.eval (.tmp 16) = .string (L k) from (H.dep 1 16 (by kernel_rfl) rfl)) (show a.eval _ = .string ⟨#[10]⟩ from (rfl : a.eval (.const (.string ⟨#[10]⟩)) = .string ⟨#[10]⟩)) (by show _ + 1 ≤ _; have := hck; omega)).trans (by rfl))
   intro act12 w12 T
   have h0_12 := (T.rest 0 (by kernel_rfl)).trans h0_11
   have h2_12 := (T.rest 2 (by kernel_rfl)).trans h2_11
   have h3_12 := (T.rest 3 (by kernel_rfl)).trans h3_11
   have h8_12 := (T.rest 8 (by kernel_rfl)).trans h8_11
   have h9_12 := (T.rest 9 (by kernel_rfl)).trans h9_11
   have h10_12 := (T.rest 10 (by kernel_rfl)).trans h10_11
   have h11_12 := (T.rest 11 (by kernel_rfl)).trans h11_11
   have h17_12 : act12.eval (.tmp 17) = .string ((L k) ++ (⟨#[10]⟩ : ByteArray)) := T.done 2 17 rfl rfl
   have d12 := T.defers.trans d11
   have s12 := T.size.trans s11
   have bl12 := bl11.trans (T.below.mono bl11.size)
   have XU_12 := Qt.bld_below XU_11 T.below
   clear T
   refine EngI.tail_call EngI.free_wide Tryz.func28 (by kernel_rfl) (by kernel_rfl) rfl rfl rfl rfl #[.pointer (some ⟨g3_6, 0, none⟩), .string ((L k) ++ (⟨#[10]⟩ : ByteArray))] (by have e0 : act12.eval (.tmp 3) = .pointer (some ⟨g3_6, 0, none⟩) := h3_12; have e1 : act12.eval (.tmp 17) = .string ((L k) ++ (⟨#[10]⟩ : ByteArray)) := h17_12; simp only [List.map_toArray, List.map_cons, List.map_nil, e0, e1]) s12 rfl (R := fun v w' => Lib.BuilderAtF 54 5 w.heap.size g3_6 (.pointer (some ⟨g3_6, 0, none⟩)) (Lib.byteCells (Pri.catF L k) ++ Lib.strCells ((L k) ++ (⟨#[10]⟩ : ByteArray))) w' ∧ Below w.heap.size w12 w') ((Bld.str w.heap.size g3_6 (Lib.byteCells (Pri.catF L k)) ((L k) ++ (⟨#[10]⟩ : ByteArray)) _ XU_12 (by rw [Lib.byteCells_length, ByteArray.size_append]; have := hck; show _ + (_ + 1) ≤ _; omega) bl12.size).mono ?_) fun v_13 w13 act13 R d13 s13 hv hr => ?_
   ·rintro e w1 ⟨rfl, h1, h2, _⟩; exact ⟨_, rfl, h1, h2⟩
   have h0_13 := (hr 0 rfl).trans h0_12
   have h2_13 := (hr 2 rfl).trans h2_12
   have h3_13 := (hr 3 rfl).trans h3_12
   have h8_13 := (hr 8 rfl).trans h8_12
   have h9_13 := (hr 9 rfl).trans h9_12
   have h10_13 := (hr 10 rfl).trans h10_12
   have h11_13 := (hr 11 rfl).trans h11_12
   have d13 := d13.trans d12
   clear hv hr
   obtain ⟨hU_13, b_13⟩ := R
   have bl13 := bl12.trans b_13
   have U_13 : Lib.IsBuilderF 54 5 w.heap.size g3_6 (Lib.byteCells (Pri.catF L (k + 1))) w13 := .inr (by rw [← Pri.cat_cells]; exact hU_13)
   refine EngI.tail_nil ?_
   first | show Code.wp Tryz.prog _ _ _ _ | skip
   refine Eng.regionS (Eng.still [fun u_ => u_ = .int .i64 (IntKind.i64.wrap ((k : Nat) + 1)), fun u_ => u_ = .int .i64 (IntKind.i64.wrap ((k : Nat) + 1))]) (fun _ => .plain) 2 0 21 s13 rfl (by kernel_rfl) (Eng.still_stable _) (Or.inr (Eng.still_any _)) ?_ ?_
   ·refine .cons (fun _ => ?_) (.cons (fun _ => ?_) (.nil))
    ·refine Eng.plain rfl rfl fun a w' H => ?_
     refine Eng.vr (v := .int .i64 (IntKind.i64.wrap ((k : Nat) + 1))) rfl ?_
     have e0 : a.eval (.tmp 11) = .int .i64 (k : Nat) := ((H.kept 11 (by kernel_rfl)).trans h11_13)
     have e1 : a.eval (.const (.int .i64 1)) = .int .i64 1 := (rfl : a.eval (.const (.int .i64 1)) = .int .i64 1)
     simp only [execOp, resolve, List.map_toArray, List.map_cons, List.map_nil, e0, e1]
     go_simp
     all_goals first | rfl | (simp; done) | (rw [Bool.eq_iff_iff]; simp; done) | omega | (split <;> first | (simp_all; done) | (split <;> simp_all; done)) | skip
    ·exact Eng.plain rfl rfl fun a w' H => Eng.vr rfl (Eng.run_move rfl (H.dep 0 19 (by kernel_rfl) rfl))
   intro act14 w14 T
   have h0_14 := (T.rest 0 (by kernel_rfl)).trans h0_13
   have h2_14 := (T.rest 2 (by kernel_rfl)).trans h2_13
   have h3_14 := (T.rest 3 (by kernel_rfl)).trans h3_13
   have h8_14 := (T.rest 8 (by kernel_rfl)).trans h8_13
   have h9_14 := (T.rest 9 (by kernel_rfl)).trans h9_13
   have h10_14 := (T.rest 10 (by kernel_rfl)).trans h10_13
   have h11_14 : act14.eval (.tmp 11) = .int .i64 (IntKind.i64.wrap ((k : Nat) + 1)) := T.done 1 11 rfl rfl
   have d14 := T.defers.trans d13
   have s14 := T.size.trans s13
   have bl14 := bl13.trans (T.below.mono bl13.size)
   have XU_14 := Qt.bld_below U_13 T.below
   clear T
   refine Eng.tail_nil ?_
   exact ⟨_, by omega, k + 1, rfl, by omega, XU_14, d14, s14, bl14, h0_14, h2_14, h3_14, h8_14, h9_14, h10_14, (h11_14.trans (by first | rfl | (congr 1; rw [Eng.i64_id (by omega) (by omega)]; omega) | (simp; done)))⟩
  ·
   have c12 := Bq12.symm.trans hq
   clear hq
   have c12 := of_decide_eq_false c12
   have hke : k = l.length := by omega
   refine wp_exit ?_
   first | show Code.wp Tryz.prog _ _ _ _ | skip
   first | show Code.wp Tryz.prog _ _ _ _ | skip
   refine wp_seq ?_
   refine (wpIn_wide (n := 1)).1 ?_
   refine EngI.regionS EngI.free_wide (Eng.still []) (fun i => ([] : List Eng.Kind).getD i .plain) 0 2 21 s9 rfl (by kernel_rfl) (Eng.still_stable _) (Or.inr (Eng.still_any _)) (by kernel_rfl) ?_ ?_
   ·refine .cons (fun h => absurd h (by decide)) (.cons (fun h => absurd h (by decide)) (.nil))
   intro act16 w16 T
   have h3_16 := (T.rest 3 (by kernel_rfl)).trans h3_9
   have d16 := T.defers.trans d9
   have s16 := T.size.trans s9
   have bl16 := bl9.trans (T.below.mono bl9.size)
   have XU_16 := Qt.bld_below XU_9 T.below
   clear T
   refine EngI.tail_call EngI.free_wide Tryz.func30 (by kernel_rfl) (by kernel_rfl) rfl rfl rfl rfl #[.pointer (some ⟨g3_6, 0, none⟩)] (by have e0 : act16.eval (.tmp 3) = .pointer (some ⟨g3_6, 0, none⟩) := h3_16; simp only [List.map_toArray, List.map_cons, List.map_nil, e0]) s16 rfl (R := fun v w' => v = .string ⟨(Pri.catF L k).toArray⟩ ∧ Below w.heap.size w16 w') ((Tryz.Builder_String_any_f w.heap.size g3_6 (Pri.catF L k) _ XU_16 bl16.size).mono ?_) fun v_17 w17 act17 R d17 s17 hv hr => ?_
   ·rintro e w1 ⟨rfl, _, h2⟩; exact ⟨_, rfl, rfl, h2⟩
   have h20_17 : act17.eval (.tmp 20) = v_17 := hv
   have d17 := d17.trans d16
   clear hv hr
   obtain ⟨ev_17, b_17⟩ := R
   rw [ev_17] at h20_17
   have bl17 := bl16.trans b_17
   refine EngI.tail_val EngI.free_wide rfl rfl rfl rfl (Eng.run_assign rfl h20_17) s17 rfl fun act18 d18 s18 hv hr => ?_
   have h2_18 : act18.eval (.tmp 2) = .string (⟨(Pri.catF L k).toArray⟩ : ByteArray) := hv
   have d18 := d18.trans d17
   clear hv hr
   refine EngI.tail_nil ?_
   first | show Code.wp Tryz.prog _ _ _ _ | skip
   refine wp_ret ?_
   repeat (first | with_reducible refine Eng.in_ret ?_ | with_reducible refine Eng.then_ret ?_)
   exact Eng.ret1 rfl d18 h2_18 ⟨by unfold Pri.printS; rw [if_pos hrt, hke], bl17⟩
end Go.Proofs.YtgnmjaacnmkgnaaGreatDoor.X
end
