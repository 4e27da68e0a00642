/- Words and walks that the row of LatticeTells needs: printed by programs, and plain laws. -/
import Derived.Test.YthgafcaoibfchaaDoorM5
import Derived.Test.YthgafcaoibfchaaDoorM4
section
namespace Go.Proofs.YthgafcaoibfchaaDoor.Y
open Go.RowKit Go.Proofs.YthgafcaoibfchaaDoorW.PrintWords Go.Proofs.YthgafcaoibfchaaDoorW.PrintLast Go.Proofs.YthgafcaoibfchaaDoorW.PrintMore
attribute [local go_sem] max2_int min2_int max_two min_two max_three min_three max_four min_four
set_option linter.unusedVariables false
set_option linter.unusedSimpArgs false
def lattice_Right.f (a0_0 : Int) (a0_1 : Int) (a1 : Int) (a2 : Int) : Option (Bool) := if a0_0 ≥ 0 then (if a0_0 < a1 then ((bits_Len64.f a0_1).bind fun t114 => (some (decide (t114 ≤ (mx a2 0))))) else (some false)) else (some false)
set_option maxHeartbeats 8000000 in
set_option maxRecDepth 100000 in
theorem lattice_Right.calls (a0_0 : Int) (a0_1 : Int) (a1 : Int) (a2 : Int) (r : Bool) (w : World) (h : lattice_Right.f a0_0 a0_1 a1 a2 = some r) :
    Calls Tryd.prog 24 #[.agg #[.int .i64 a0_0, .int .u64 a0_1], .int .i64 a1, .int .i64 a2] w fun e w' => e = .returned (.bool r) ∧ Below w.heap.size w w' := by
  have hu30 := Tryd.underlying30
  have HB := Aside0.mk (Below.refl w.heap.size w)
  have H : (if a0_0 ≥ 0 then (if a0_0 < a1 then ((bits_Len64.f a0_1).bind fun t114 => (some (decide (t114 ≤ (mx a2 0))))) else (some false)) else (some false)) = some r := h
  clear h
  by_cases c4 : a0_0 ≥ 0
  · rw [if_pos c4] at H
    have c4b0 : decide (0 ≤ a0_0) = true := decide_eq_true c4
    clear c4
    by_cases c5 : a0_0 < a1
    · rw [if_pos c5] at H
      have c5b0 : decide (a0_0 < a1) = true := decide_eq_true c5
      clear c5
      replace H := Option.bind_eq_some_iff.mp H
      obtain ⟨t114, A60, H⟩ := H
      replace H : (some (decide (t114 ≤ (mx a2 0)))) = some r := H
      have A6 := Aside0.mk A60
      clear A60
      obtain ⟨ji7, hji7⟩ : ∃ j_ : Int, (mx a2 0) = j_ := ⟨_, rfl⟩
      replace H : (some (decide (t114 ≤ (ji7)))) = some r := by first | (rw [hji7] at H; exact H) | (simp only [hji7] at H ⊢; exact H)
      (try rw [hji7] at A6)
      (try (have hji7l : 0 ≤ ji7 := by (rw [← hji7]; unfold mx; (repeat' split) <;> omega)))
      (try (have hji7m : 0 ≤ ji7 := by omega))
      have hji7_ : (if a2 < 0 then 0 else a2) = ji7 := hji7
      obtain rfl := Option.some.inj H
      go_enter Tryd.func24, Tryd.ntmps24
      go_wp2_with (first | ((with_reducible refine gate_dst (N := 3) rfl ?_); (try (refine gate_guard (by rfl) ?_; dsimp only)); refine box_event ?hg (N := 3) ?hd (cs := #[.int .i64 a0_0, .int .u64 a0_1]) (t := 30) ?hr ?_; (case hd => rfl); (case hg => rfl); (case hr => first | (go_simp; done) | (go_simp; rfl)); intro gb113 hg w8 hbox hb; have n0_ := Aside0.mk (below_step (by repeat (first | (with_reducible first | exact HB.out | apply below_alloc | apply pw_below_drewN | apply below_drew1) | exact HB.out)) hb); have n1_ := Aside0.mk (hbox); have n2_ := Aside0.mk ((by rw [hg]; exact (below_size (by repeat (first | (with_reducible first | exact HB.out | apply below_alloc | apply pw_below_drewN | apply below_drew1) | exact HB.out))) : w.heap.size ≤ gb113)); have n3_ := Aside0.mk ((by rw [hg]; exact (below_size (by repeat (first | (with_reducible first | exact HB.out | apply below_alloc | apply pw_below_drewN | apply below_drew1) | exact HB.out))) : w.heap.size ≤ gb113)); clear HB; have HB := n0_; have BK113 := n1_; have GW113 := n2_; have GE113 := n3_; clear n0_ n1_ n2_ n3_; clear hb hbox hg; have hcz9_0 : w8.cell? ⟨gb113, 0, none⟩ = some (.int .i64 a0_0) := (blk_cell BK113.out 0).trans rfl; have hcz9_1 : w8.cell? ⟨gb113, 1, none⟩ = some (.int .u64 a0_1) := (blk_cell BK113.out 1).trans rfl; have hfz9_0 := blk_frozen BK113.out 0; have hfz9_1 := blk_frozen BK113.out 1) | (go_at_call 68; (with_reducible refine (bits_Len64.calls a0_1 t114 _ A6.out).mono ?_); rintro e w' ⟨rfl, ⟨nd, rfl⟩⟩))
      go_ret
      exact ⟨by first | rfl | (simp [errW_none, errW_some] <;> rfl) | (simp only [← hji7]; first | rfl | (simp [errW_none, errW_some] <;> rfl)) | (simp [*, errW_none, errW_some] <;> rfl), by repeat (first | (with_reducible first | exact HB.out | apply below_alloc | apply pw_below_drewN | apply below_drew1 | refine below_set ?_ GE113.out) | exact HB.out)⟩
    · rw [if_neg c5] at H
      have c5b0 : decide (a0_0 < a1) = false := decide_eq_false c5
      clear c5
      obtain rfl := Option.some.inj H
      go_enter Tryd.func24, Tryd.ntmps24
      go_wp2_with (first | ((with_reducible refine gate_dst (N := 3) rfl ?_); (try (refine gate_guard (by rfl) ?_; dsimp only)); refine box_event ?hg (N := 3) ?hd (cs := #[.int .i64 a0_0, .int .u64 a0_1]) (t := 30) ?hr ?_; (case hd => rfl); (case hg => rfl); (case hr => first | (go_simp; done) | (go_simp; rfl)); intro gb113 hg w10 hbox hb; have n0_ := Aside0.mk (below_step (by repeat (first | (with_reducible first | exact HB.out | apply below_alloc | apply pw_below_drewN | apply below_drew1) | exact HB.out)) hb); have n1_ := Aside0.mk (hbox); have n2_ := Aside0.mk ((by rw [hg]; exact (below_size (by repeat (first | (with_reducible first | exact HB.out | apply below_alloc | apply pw_below_drewN | apply below_drew1) | exact HB.out))) : w.heap.size ≤ gb113)); have n3_ := Aside0.mk ((by rw [hg]; exact (below_size (by repeat (first | (with_reducible first | exact HB.out | apply below_alloc | apply pw_below_drewN | apply below_drew1) | exact HB.out))) : w.heap.size ≤ gb113)); clear HB; have HB := n0_; have BK113 := n1_; have GW113 := n2_; have GE113 := n3_; clear n0_ n1_ n2_ n3_; clear hb hbox hg; have hcz11_0 : w10.cell? ⟨gb113, 0, none⟩ = some (.int .i64 a0_0) := (blk_cell BK113.out 0).trans rfl; have hcz11_1 : w10.cell? ⟨gb113, 1, none⟩ = some (.int .u64 a0_1) := (blk_cell BK113.out 1).trans rfl; have hfz11_0 := blk_frozen BK113.out 0; have hfz11_1 := blk_frozen BK113.out 1))
      go_ret
      exact ⟨by first | rfl | (simp [errW_none, errW_some] <;> rfl) | (simp [*, errW_none, errW_some] <;> rfl), by repeat (first | (with_reducible first | exact HB.out | apply below_alloc | apply pw_below_drewN | apply below_drew1 | refine below_set ?_ GE113.out) | exact HB.out)⟩
  · rw [if_neg c4] at H
    have c4b0 : decide (0 ≤ a0_0) = false := decide_eq_false c4
    clear c4
    obtain rfl := Option.some.inj H
    go_enter Tryd.func24, Tryd.ntmps24
    go_wp2_with (first | ((with_reducible refine gate_dst (N := 3) rfl ?_); (try (refine gate_guard (by rfl) ?_; dsimp only)); refine box_event ?hg (N := 3) ?hd (cs := #[.int .i64 a0_0, .int .u64 a0_1]) (t := 30) ?hr ?_; (case hd => rfl); (case hg => rfl); (case hr => first | (go_simp; done) | (go_simp; rfl)); intro gb113 hg w12 hbox hb; have n0_ := Aside0.mk (below_step (by repeat (first | (with_reducible first | exact HB.out | apply below_alloc | apply pw_below_drewN | apply below_drew1) | exact HB.out)) hb); have n1_ := Aside0.mk (hbox); have n2_ := Aside0.mk ((by rw [hg]; exact (below_size (by repeat (first | (with_reducible first | exact HB.out | apply below_alloc | apply pw_below_drewN | apply below_drew1) | exact HB.out))) : w.heap.size ≤ gb113)); have n3_ := Aside0.mk ((by rw [hg]; exact (below_size (by repeat (first | (with_reducible first | exact HB.out | apply below_alloc | apply pw_below_drewN | apply below_drew1) | exact HB.out))) : w.heap.size ≤ gb113)); clear HB; have HB := n0_; have BK113 := n1_; have GW113 := n2_; have GE113 := n3_; clear n0_ n1_ n2_ n3_; clear hb hbox hg; have hcz13_0 : w12.cell? ⟨gb113, 0, none⟩ = some (.int .i64 a0_0) := (blk_cell BK113.out 0).trans rfl; have hcz13_1 : w12.cell? ⟨gb113, 1, none⟩ = some (.int .u64 a0_1) := (blk_cell BK113.out 1).trans rfl; have hfz13_0 := blk_frozen BK113.out 0; have hfz13_1 := blk_frozen BK113.out 1))
    go_ret
    exact ⟨by first | rfl | (simp [errW_none, errW_some] <;> rfl) | (simp [*, errW_none, errW_some] <;> rfl), by repeat (first | (with_reducible first | exact HB.out | apply below_alloc | apply pw_below_drewN | apply below_drew1 | refine below_set ?_ GE113.out) | exact HB.out)⟩
def grilleref12_Right.l0 : Nat → Int → Int → Int → Int → Int → Option (Bool)
  | 0, _, _, _, _, _ => none
  | k + 1, x1, x2, x7, x116000, x116001 => if x7 < 64 then ((grilleref12_Has.f k x116001 x7).bind fun t116 => (if t116 = true then (if x7 ≥ x2 then (some false) else (grilleref12_Right.l0 k x1 x2 (wrap64 (x7 + 1)) x116000 x116001)) else (grilleref12_Right.l0 k x1 x2 (wrap64 (x7 + 1)) x116000 x116001))) else (if x116000 ≥ 0 then (some (decide (x116000 < x1))) else (some false))
def grilleref12_Right.f (k : Nat) (a0_0 : Int) (a0_1 : Int) (a1 : Int) (a2 : Int) : Option (Bool) := grilleref12_Right.l0 k a1 a2 0 a0_0 a0_1
theorem grilleref12_Right.mono_l : ∀ k, (∀ y0 y1 y2 y3 y4, LeO (grilleref12_Right.l0 k y0 y1 y2 y3 y4) (grilleref12_Right.l0 (k + 1) y0 y1 y2 y3 y4))
  | 0 => fun _ _ _ _ _ r h => by simp [grilleref12_Right.l0] at h
  | k + 1 => by
    have ih0 := grilleref12_Right.mono_l k
    · intro y0 y1 y2 y3 y4
      unfold grilleref12_Right.l0
      repeat' first
      | (with_reducible exact ih0 _ _ _ _ _)
      | (with_reducible exact grilleref12_Has.mono _ _ _)
      | (with_reducible exact LeO.refl _)
      | (with_reducible exact LeO.none _)
      | (with_reducible refine LeO.ite ?_ ?_)
      | (with_reducible refine LeO.bind ?_ (fun _ => ?_))
      | exact ih0 _ _ _ _ _
      | exact grilleref12_Has.mono _ _ _
      | exact LeO.none _
      | refine LeO.ite ?_ ?_
      | refine LeO.bind ?_ (fun _ => ?_)
theorem grilleref12_Right.mono : ∀ a0 a1 a2 a3 k, LeO (grilleref12_Right.f k a0 a1 a2 a3) (grilleref12_Right.f (k + 1) a0 a1 a2 a3) := by
  intro a0 a1 a2 a3 k
  have ih0 := grilleref12_Right.mono_l k
  unfold grilleref12_Right.f
  repeat' first
      | (with_reducible exact ih0 _ _ _ _ _)
      | (with_reducible exact grilleref12_Has.mono _ _ _)
      | (with_reducible exact LeO.refl _)
      | (with_reducible exact LeO.none _)
      | (with_reducible refine LeO.ite ?_ ?_)
      | (with_reducible refine LeO.bind ?_ (fun _ => ?_))
      | exact ih0 _ _ _ _ _
      | exact grilleref12_Has.mono _ _ _
      | exact LeO.none _
      | refine LeO.ite ?_ ?_
      | refine LeO.bind ?_ (fun _ => ?_)
set_option maxHeartbeats 8000000 in
set_option maxRecDepth 100000 in
theorem grilleref12_Right.calls (k : Nat) (a0_0 : Int) (a0_1 : Int) (a1 : Int) (a2 : Int) (r : Bool) (w : World) (h : grilleref12_Right.f k a0_0 a0_1 a1 a2 = some r) :
    Calls Tryd.prog 25 #[.agg #[.int .i64 a0_0, .int .u64 a0_1], .int .i64 a1, .int .i64 a2] w fun e w' => e = .returned (.bool r) ∧ Below w.heap.size w w' := by
  have hu28 := Tryd.underlying28
  have HB := Aside0.mk (Below.refl w.heap.size w)
  have H : (grilleref12_Right.l0 k a1 a2 0 a0_0 a0_1) = some r := h
  clear h
  have H' := Aside0.mk H
  clear H
  go_enter Tryd.func25, Tryd.ntmps25
  go_wp2_with (first | ((with_reducible refine gate_dst (N := 3) rfl ?_); refine box_event ?hg (N := 3) ?hd (cs := #[.int .i64 a0_0, .int .u64 a0_1]) (t := 28) ?hr ?_; (case hd => rfl); (case hg => rfl); (case hr => first | (go_simp; done) | (go_simp; rfl)); intro gb115 hg w4 hbox hb; have n0_ := Aside0.mk (below_step (by repeat (first | (with_reducible first | exact HB.out | apply below_alloc | apply pw_below_drewN | apply below_drew1) | exact HB.out)) hb); have n1_ := Aside0.mk (hbox); have n2_ := Aside0.mk ((by rw [hg]; exact (below_size (by repeat (first | (with_reducible first | exact HB.out | apply below_alloc | apply pw_below_drewN | apply below_drew1) | exact HB.out))) : w.heap.size ≤ gb115)); have n3_ := Aside0.mk ((by rw [hg]; exact (below_size (by repeat (first | (with_reducible first | exact HB.out | apply below_alloc | apply pw_below_drewN | apply below_drew1) | exact HB.out))) : w.heap.size ≤ gb115)); clear HB; have HB := n0_; have BK115 := n1_; have GW115 := n2_; have GE115 := n3_; clear n0_ n1_ n2_ n3_; clear hb hbox hg))
  go_loopg [7] k (fun kq v7 w' => ∃ (x7_1 : Int), v7 = .int .i64 x7_1 ∧ Aside0 (grilleref12_Right.l0 kq a1 a2 x7_1 a0_0 a0_1 = some r) ∧ Aside0 (kq ≤ k) ∧ Aside0 (w'.heap[gb115]? = some (.cells #[.int .i64 a0_0, .int .u64 a0_1] 28 (0, 0))) ∧ Aside0 (Below w.heap.size w w'))
  case atStart => exact ⟨(0), (by first | rfl | (simp; done) | (simp [*]; done) | (simp [xbne_nil, xbeq_nil]; done)), H', ⟨Nat.le_refl _⟩, ⟨by (with_reducible repeat (first | refine blk_drewN ?_ _ | refine blk_drew ?_ | refine blk_alloc ?_ _)); exact BK115.out⟩, ⟨by repeat (first | (with_reducible first | exact HB.out | apply below_alloc | apply pw_below_drewN | apply below_drew1 | refine below_set ?_ GE115.out) | exact HB.out)⟩⟩
  case round =>
    clear H'
    try clear c2
    try clear p2
    obtain ⟨x7_1, rfl, HA, HK1, BK115, HB⟩ := hrel
    cases gk with
    | zero => exact absurd HA.out (by simp [grilleref12_Right.l0])
    | succ k1 =>
      have H := HA.out
      clear HA
      simp only [grilleref12_Right.l0] at H
      by_cases c5 : x7_1 < 64
      · rw [if_pos c5] at H
        have c5b0 : decide (x7_1 < 64) = true := decide_eq_true c5
        clear c5
        replace H := Option.bind_eq_some_iff.mp H
        obtain ⟨t116, A60, H⟩ := H
        replace H : (if t116 = true then (if x7_1 ≥ a2 then (some false) else (grilleref12_Right.l0 k1 a1 a2 (wrap64 (x7_1 + 1)) a0_0 a0_1)) else (grilleref12_Right.l0 k1 a1 a2 (wrap64 (x7_1 + 1)) a0_0 a0_1)) = some r := H
        have A6 := Aside0.mk A60
        clear A60
        by_cases c7 : t116 = true
        · subst c7
          have H1 : (if x7_1 ≥ a2 then (some false) else (grilleref12_Right.l0 k1 a1 a2 (wrap64 (x7_1 + 1)) a0_0 a0_1)) = some r := by rw [if_pos rfl] at H; exact H
          clear H
          have H := H1
          clear H1
          by_cases c8 : x7_1 ≥ a2
          · rw [if_pos c8] at H
            have c8b0 : decide (a2 ≤ x7_1) = true := decide_eq_true c8
            clear c8
            obtain rfl := Option.some.inj H
            have hcz9_0 : wr.cell? ⟨gb115, 0, none⟩ = some (.int .i64 a0_0) := (blk_cell BK115.out 0).trans rfl
            have hcz9_1 : wr.cell? ⟨gb115, 1, none⟩ = some (.int .u64 a0_1) := (blk_cell BK115.out 1).trans rfl
            have hfz9_0 := blk_frozen BK115.out 0
            have hfz9_1 := blk_frozen BK115.out 1
            go_wp2_with (first | ((with_reducible refine gate_callee (f := 66) rfl ?_); refine goesL_ (some 15) rfl rfl Tryd.func66 (by kernel_rfl) rfl #[.int .u64 a0_1, .int .i64 x7_1] rfl (by (try simp only [List.map_toArray, List.map_cons, List.map_nil]); first | done | rfl | (simp only [List.length_drop, List.length_take]; rfl)) ?_; (with_reducible refine (grilleref12_Has.calls k1 a0_1 x7_1 true _ A6.out).mono ?_); rintro e w' ⟨rfl, ⟨nd, rfl⟩⟩; refine ⟨_, rfl, ?_⟩))
            go_ret
            exact ⟨by first | rfl | (simp [errW_none, errW_some] <;> rfl) | (simp [*, errW_none, errW_some] <;> rfl), by repeat (first | (with_reducible first | exact HB.out | apply below_alloc | apply pw_below_drewN | apply below_drew1 | refine below_set ?_ GE115.out) | exact HB.out)⟩
          · rw [if_neg c8] at H
            have c8b0 : decide (a2 ≤ x7_1) = false := decide_eq_false c8
            clear c8
            have H' := Aside0.mk H
            clear H
            have hcz10_0 : wr.cell? ⟨gb115, 0, none⟩ = some (.int .i64 a0_0) := (blk_cell BK115.out 0).trans rfl
            have hcz10_1 : wr.cell? ⟨gb115, 1, none⟩ = some (.int .u64 a0_1) := (blk_cell BK115.out 1).trans rfl
            have hfz10_0 := blk_frozen BK115.out 0
            have hfz10_1 := blk_frozen BK115.out 1
            go_wp2_with (first | ((with_reducible refine gate_callee (f := 66) rfl ?_); refine goesL_ (some 15) rfl rfl Tryd.func66 (by kernel_rfl) rfl #[.int .u64 a0_1, .int .i64 x7_1] rfl (by (try simp only [List.map_toArray, List.map_cons, List.map_nil]); first | done | rfl | (simp only [List.length_drop, List.length_take]; rfl)) ?_; (with_reducible refine (grilleref12_Has.calls k1 a0_1 x7_1 true _ A6.out).mono ?_); rintro e w' ⟨rfl, ⟨nd, rfl⟩⟩; refine ⟨_, rfl, ?_⟩))
            go_roundg k1
            case measure => have := HK1.out; omega
            case rel => exact ⟨(wrap64 (x7_1 + 1)), (by first | rfl | (simp; done) | (simp [*]; done) | (simp [xbne_nil, xbeq_nil]; done)), H', ⟨by have := HK1.out; omega⟩, ⟨by (with_reducible repeat (first | refine blk_drewN ?_ _ | refine blk_drew ?_ | refine blk_alloc ?_ _)); exact BK115.out⟩, ⟨by repeat (first | (with_reducible first | exact HB.out | apply below_alloc | apply pw_below_drewN | apply below_drew1 | refine below_set ?_ GE115.out) | exact HB.out)⟩⟩
        · replace c7 := Bool.eq_false_iff.mpr c7
          subst c7
          have H1 : (grilleref12_Right.l0 k1 a1 a2 (wrap64 (x7_1 + 1)) a0_0 a0_1) = some r := by rw [if_neg (show ¬ (false = true) by decide)] at H; exact H
          clear H
          have H := H1
          clear H1
          have H' := Aside0.mk H
          clear H
          have hcz11_0 : wr.cell? ⟨gb115, 0, none⟩ = some (.int .i64 a0_0) := (blk_cell BK115.out 0).trans rfl
          have hcz11_1 : wr.cell? ⟨gb115, 1, none⟩ = some (.int .u64 a0_1) := (blk_cell BK115.out 1).trans rfl
          have hfz11_0 := blk_frozen BK115.out 0
          have hfz11_1 := blk_frozen BK115.out 1
          go_wp2_with (first | ((with_reducible refine gate_callee (f := 66) rfl ?_); refine goesL_ (some 15) rfl rfl Tryd.func66 (by kernel_rfl) rfl #[.int .u64 a0_1, .int .i64 x7_1] rfl (by (try simp only [List.map_toArray, List.map_cons, List.map_nil]); first | done | rfl | (simp only [List.length_drop, List.length_take]; rfl)) ?_; (with_reducible refine (grilleref12_Has.calls k1 a0_1 x7_1 false _ A6.out).mono ?_); rintro e w' ⟨rfl, ⟨nd, rfl⟩⟩; refine ⟨_, rfl, ?_⟩))
          go_roundg k1
          case measure => have := HK1.out; omega
          case rel => exact ⟨(wrap64 (x7_1 + 1)), (by first | rfl | (simp; done) | (simp [*]; done) | (simp [xbne_nil, xbeq_nil]; done)), H', ⟨by have := HK1.out; omega⟩, ⟨by (with_reducible repeat (first | refine blk_drewN ?_ _ | refine blk_drew ?_ | refine blk_alloc ?_ _)); exact BK115.out⟩, ⟨by repeat (first | (with_reducible first | exact HB.out | apply below_alloc | apply pw_below_drewN | apply below_drew1 | refine below_set ?_ GE115.out) | exact HB.out)⟩⟩
      · rw [if_neg c5] at H
        have c5b0 : decide (x7_1 < 64) = false := decide_eq_false c5
        clear c5
        by_cases c12 : a0_0 ≥ 0
        · rw [if_pos c12] at H
          have c12b0 : decide (0 ≤ a0_0) = true := decide_eq_true c12
          clear c12
          obtain rfl := Option.some.inj H
          have hcz13_0 : wr.cell? ⟨gb115, 0, none⟩ = some (.int .i64 a0_0) := (blk_cell BK115.out 0).trans rfl
          have hcz13_1 : wr.cell? ⟨gb115, 1, none⟩ = some (.int .u64 a0_1) := (blk_cell BK115.out 1).trans rfl
          have hfz13_0 := blk_frozen BK115.out 0
          have hfz13_1 := blk_frozen BK115.out 1
          go_wp2
          go_ret
          exact ⟨by first | rfl | (simp [errW_none, errW_some] <;> rfl) | (simp [*, errW_none, errW_some] <;> rfl), by repeat (first | (with_reducible first | exact HB.out | apply below_alloc | apply pw_below_drewN | apply below_drew1 | refine below_set ?_ GE115.out) | exact HB.out)⟩
        · rw [if_neg c12] at H
          have c12b0 : decide (0 ≤ a0_0) = false := decide_eq_false c12
          clear c12
          obtain rfl := Option.some.inj H
          have hcz14_0 : wr.cell? ⟨gb115, 0, none⟩ = some (.int .i64 a0_0) := (blk_cell BK115.out 0).trans rfl
          have hcz14_1 : wr.cell? ⟨gb115, 1, none⟩ = some (.int .u64 a0_1) := (blk_cell BK115.out 1).trans rfl
          have hfz14_0 := blk_frozen BK115.out 0
          have hfz14_1 := blk_frozen BK115.out 1
          go_wp2
          go_ret
          exact ⟨by first | rfl | (simp [errW_none, errW_some] <;> rfl) | (simp [*, errW_none, errW_some] <;> rfl), by repeat (first | (with_reducible first | exact HB.out | apply below_alloc | apply pw_below_drewN | apply below_drew1 | refine below_set ?_ GE115.out) | exact HB.out)⟩
end Go.Proofs.YthgafcaoibfchaaDoor.Y
end
section
namespace Go.Proofs.YthgafcaoibfchaaDoor.X
open Go.RowKit Go.Shelf Go.Proofs
set_option linter.unusedVariables false
set_option linter.unusedSimpArgs false
namespace Lat
def ofL : List Bool → Int
  | [] => 0
  | b :: t => if b then IntKind.u64.wrap (IntKind.u64.wrap (ofL t * 2) + 1) else IntKind.u64.wrap (ofL t * 2)
theorem bits_size {l : List Bool} {n : Nat} (h : l.length = n) : (List.map Value.bool l).toArray.size = n := by simpa using h
theorem bit_at {l : List Bool} {n j : Nat} (h : l.length = n) (hj : j < n) : (List.map Value.bool l).toArray[j]? = some (.bool (l.getD j false)) := by
  simp [List.getD_eq_getElem?_getD, List.getElem?_eq_getElem (show j < l.length by omega)]
theorem bits_set (l : List Bool) (j : Nat) (b : Bool) : (List.map Value.bool l).toArray.setIfInBounds j (.bool b) = (List.map Value.bool (l.set j b)).toArray := by
  simp [List.map_set]
theorem ofL_drop {l : List Bool} {k : Nat} (hl : l.length = 64) (h0 : 0 < k) (h1 : k ≤ 64) : ofL (l.drop (k - 1)) = if l.getD (k - 1) false then IntKind.u64.wrap (IntKind.u64.wrap (ofL (l.drop k) * 2) + 1) else IntKind.u64.wrap (ofL (l.drop k) * 2) := by
  have hlt : k - 1 < l.length := by omega
  rw [List.drop_eq_getElem_cons hlt, show k - 1 + 1 = k by omega]
  simp only [ofL]
  rw [List.getD_eq_getElem?_getD, List.getElem?_eq_getElem hlt]; rfl
end Lat
end Go.Proofs.YthgafcaoibfchaaDoor.X
end
section
namespace Go.Proofs.YthgafcaoibfchaaDoor.X
open Go.RowKit Go.Shelf Go.Proofs Go.Proofs.YthgafcaoibfchaaDoorW.PrintWords Go.Proofs.YthgafcaoibfchaaDoorW.PrintLast Go.Proofs.YthgafcaoibfchaaDoorW.PrintMore
set_option linter.unusedVariables false
set_option linter.unusedSimpArgs false
namespace Lat
def has (x i : Int) : Bool := (bv x).getLsbD i.toNat
theorem below_drawn {w w' : World} (h : Drawn0 w w') : Below w.heap.size w w' := by
  obtain ⟨n, rfl⟩ := h
  exact (pw_below_drewN (Below.refl _ _) n)
theorem bv_getLsbD {x : Int} (h0 : 0 ≤ x) (h1 : x ≤ 18446744073709551615) (i : Nat) : (bv x).getLsbD i = x.toNat.testBit i := by
  rw [BitVec.getLsbD]
  congr 1
  have := bv_toNat h0 h1
  omega
theorem has_loop (i : Nat) (hi : i ≤ 4611686018427387904) : ∀ (d k j : Nat) (x : Int), d + j = i → d < k → 0 ≤ x → x ≤ 18446744073709551615 →
    Y.grilleref12_Has.l0 k x (i : Int) (j : Int) = some (decide (i < 64) && x.toNat.testBit d) := by
  intro d
  induction d with
  | zero =>
    intro k j x hd hk h0 h1
    obtain ⟨k, rfl⟩ : ∃ m, k = m + 1 := ⟨k - 1, by omega⟩
    have hj : j = i := by omega
    subst hj
    simp only [Y.grilleref12_Has.l0]
    rw [if_neg (by omega), if_pos (by omega)]
    by_cases h : j < 64
    · rw [if_pos (by omega)]
      have : Int.tmod x 2 = x % 2 := Int.tmod_eq_emod_of_nonneg h0
      rw [this, Nat.testBit_zero]
      simp only [h, decide_true, Bool.true_and]
      congr 1
      rw [Bool.eq_iff_iff]; simp; omega
    · rw [if_neg (by omega)]; simp [h]
  | succ d ih =>
    intro k j x hd hk h0 h1
    obtain ⟨k, rfl⟩ : ∃ m, k = m + 1 := ⟨k - 1, by omega⟩
    simp only [Y.grilleref12_Has.l0]
    rw [if_pos (by omega)]
    have ht : Int.tdiv x 2 = x / 2 := Int.tdiv_eq_ediv_of_nonneg h0
    have hw : IntKind.u64.wrap (x / 2) = x / 2 := by
      simp only [IntKind.wrap, IntKind.bits, IntKind.signed, Bool.false_and, Bool.false_eq_true, if_false]
      omega
    have hj : wrap64 ((j : Int) + 1) = ((j + 1 : Nat) : Int) := by unfold wrap64; omega
    rw [ht, hw, hj, ih k (j + 1) (x / 2) (by omega) (by omega) (by omega) (by omega), Nat.testBit_succ]
    have : (x / 2).toNat = x.toNat / 2 := by omega
    rw [this]
theorem has_f (x : Int) (i : Nat) (k : Nat) (hk : i < k) (hi : i ≤ 4611686018427387904) (h0 : 0 ≤ x) (h1 : x ≤ 18446744073709551615) : Y.grilleref12_Has.f k x (i : Int) = some (has x (i : Int)) := by
  unfold Y.grilleref12_Has.f
  have := has_loop i hi i k 0 x (by omega) hk h0 h1
  rw [show ((0 : Nat) : Int) = 0 from rfl] at this
  rw [this]
  unfold has
  rw [Int.toNat_natCast, bv_getLsbD h0 h1]
  by_cases h : i < 64
  · simp [h]
  · have : x.toNat.testBit i = false := by
      refine Nat.testBit_lt_two_pow (Nat.lt_of_lt_of_le (show x.toNat < 2 ^ 64 by omega) (Nat.pow_le_pow_right (by omega) (by omega)))
    simp [h, this]
theorem has_calls (x i : Int) (w : World) (h0 : 0 ≤ x) (h1 : x ≤ 18446744073709551615) (hi : 0 ≤ i) (hi' : i ≤ 4611686018427387904) : Calls Tryd.prog 66 #[.int .u64 x, .int .i64 i] w fun e w' => e = .returned (.bool (has x i)) ∧ Below w.heap.size w w' := by
  obtain ⟨n, rfl⟩ := Int.eq_ofNat_of_zero_le hi
  exact (Y.grilleref12_Has.calls (n + 1) x n _ w (has_f x n (n + 1) (by omega) (by omega) h0 h1)).mono fun e w' ⟨he, hd⟩ => ⟨he, below_drawn hd⟩
def fillB (f : Nat → Bool) (k : Nat) : List Bool := (List.range 64).map fun i => decide (i < k) && f i
theorem fill_len (f : Nat → Bool) (k : Nat) : (fillB f k).length = 64 := by simp [fillB]
theorem fill_zero (f : Nat → Bool) : List.replicate 64 false = fillB f 0 := by
  unfold fillB
  refine List.ext_getElem (by rw [List.length_replicate, List.length_map, List.length_range]) fun i h1 h2 => ?_
  rw [List.getElem_replicate, List.getElem_map]; simp
theorem fill_set (f : Nat → Bool) {k : Nat} (hk : k < 64) {v : Bool} (hv : v = f k) : (fillB f k).set k v = fillB f (k + 1) := by
  unfold fillB
  refine List.ext_getElem (by simp) fun i h1 h2 => ?_
  simp only [List.length_map, List.length_range] at h2
  rw [List.getElem_set]
  simp only [List.getElem_map, List.getElem_range]
  by_cases h : k = i
  · subst h; rw [if_pos rfl, hv]; simp
  · rw [if_neg h]
    have : decide (i < k) = decide (i < k + 1) := by rw [decide_eq_decide]; omega
    rw [this]
theorem ofL_bounds : ∀ l : List Bool, 0 ≤ ofL l ∧ ofL l ≤ 18446744073709551615
  | [] => by simp [ofL]
  | b :: t => by
    have hw : ∀ x : Int, 0 ≤ IntKind.u64.wrap x ∧ IntKind.u64.wrap x ≤ 18446744073709551615 := by
      intro x
      simp only [IntKind.wrap, IntKind.bits, IntKind.signed, Bool.false_and, Bool.false_eq_true, if_false]
      omega
    simp only [ofL]
    split <;> exact hw _
theorem ofL_toNat : ∀ (l : List Bool), l.length ≤ 64 → 0 ≤ ofL l ∧ ofL l < (2 : Int) ^ l.length ∧ ∀ i, (ofL l).toNat.testBit i = l.getD i false
  | [], _ => by simp [ofL]
  | b :: t, h => by
    simp only [List.length_cons] at h
    obtain ⟨h0, h1, h2⟩ := ofL_toNat t (by omega)
    have hp : (2 : Int) ^ (t.length + 1) = 2 ^ t.length * 2 := Int.pow_succ _ _
    have hle : (2 : Int) ^ (t.length + 1) ≤ 18446744073709551616 := by
      have := Nat.pow_le_pow_right (n := 2) (by omega) (show t.length + 1 ≤ 64 by omega)
      have h64 : (2 : Nat) ^ 64 = 18446744073709551616 := rfl
      rw [h64] at this
      have e : (2 : Int) ^ (t.length + 1) = ((2 ^ (t.length + 1) : Nat) : Int) := (Int.natCast_pow 2 (t.length + 1)).symm
      rw [e]
      generalize 2 ^ (t.length + 1) = q at this
      omega
    have hw : ∀ x : Int, 0 ≤ x → x < 18446744073709551616 → IntKind.u64.wrap x = x := by
      intro x hx hx'
      simp only [IntKind.wrap, IntKind.bits, IntKind.signed, Bool.false_and, Bool.false_eq_true, if_false]
      omega
    have e1 : IntKind.u64.wrap (ofL t * 2) = ofL t * 2 := hw _ (by omega) (by omega)
    have e2 : IntKind.u64.wrap (ofL t * 2 + 1) = ofL t * 2 + 1 := hw _ (by omega) (by omega)
    have ev : ofL (b :: t) = ofL t * 2 + (if b then 1 else 0) := by
      simp only [ofL]
      cases b
      · simp [e1]
      · simp [e1, e2]
    rw [ev, List.length_cons, hp]
    refine ⟨by split <;> omega, by split <;> omega, fun i => ?_⟩
    cases i with
    | zero =>
      rw [Nat.testBit_zero]
      have : (ofL t * 2 + (if b then 1 else 0)).toNat % 2 = if b then 1 else 0 := by split <;> omega
      rw [this]
      cases b <;> rfl
    | succ i =>
      rw [Nat.testBit_succ]
      have : (ofL t * 2 + (if b then 1 else 0)).toNat / 2 = (ofL t).toNat := by split <;> omega
      rw [this, h2 i]
      simp [List.getD_eq_getElem?_getD]
theorem ofL_fill (f : Nat → Bool) (i : Nat) : (ofL (fillB f 64)).toNat.testBit i = (decide (i < 64) && f i) := by
  rw [(ofL_toNat (fillB f 64) (by rw [fill_len]; omega)).2.2 i]
  rw [List.getD_eq_getElem?_getD]
  by_cases h : i < 64
  · rw [List.getElem?_eq_getElem (by rw [fill_len]; exact h), Option.getD_some]
    unfold fillB
    rw [List.getElem_map, List.getElem_range]
  · rw [List.getElem?_eq_none (by rw [fill_len]; omega)]
    rw [decide_eq_false h]; rfl
theorem ofL_eq (f : Nat → Bool) {x : Int} (h0 : 0 ≤ x) (h1 : x ≤ 18446744073709551615) (h : ∀ i, i < 64 → x.toNat.testBit i = f i) : ofL (fillB f 64) = x := by
  have hb := ofL_bounds (fillB f 64)
  have : (ofL (fillB f 64)).toNat = x.toNat := by
    refine Nat.eq_of_testBit_eq fun i => ?_
    rw [ofL_fill]
    by_cases hi : i < 64
    · simp [hi, h i hi]
    · have : x.toNat.testBit i = false := Nat.testBit_lt_two_pow (Nat.lt_of_lt_of_le (show x.toNat < 2 ^ 64 by omega) (Nat.pow_le_pow_right (by omega) (by omega)))
      simp [hi, this]
  omega
theorem or_bound (x y : Int) : 0 ≤ Go.bits .or .u64 x y ∧ Go.bits .or .u64 x y ≤ 18446744073709551615 := by
  rw [bits_or]; have := (bv x ||| bv y).isLt; omega
theorem and_bound (x y : Int) : 0 ≤ Go.bits .and .u64 x y ∧ Go.bits .and .u64 x y ≤ 18446744073709551615 := by
  rw [bits_and]; have := (bv x &&& bv y).isLt; omega
theorem join_eq (x y : Int) : ofL (fillB (fun i => has x (i : Int) || has y (i : Int)) 64) = Go.bits .or .u64 x y := by
  have hb := or_bound x y
  refine ofL_eq _ hb.1 hb.2 fun i _ => ?_
  rw [← bv_getLsbD hb.1 hb.2, bv_or]
  simp [has]
theorem meet_eq (x y : Int) : ofL (fillB (fun i => has x (i : Int) && has y (i : Int)) 64) = Go.bits .and .u64 x y := by
  have hb := and_bound x y
  refine ofL_eq _ hb.1 hb.2 fun i _ => ?_
  rw [← bv_getLsbD hb.1 hb.2, bv_and]
  simp [has]
end Lat
end Go.Proofs.YthgafcaoibfchaaDoor.X
end
section
namespace Go.Proofs.YthgafcaoibfchaaDoor.X
open Go.RowKit Go.Shelf Go.Proofs Go.Proofs.YthgafcaoibfchaaDoorW.PrintWords Go.Proofs.YthgafcaoibfchaaDoorW.PrintLast Go.Proofs.YthgafcaoibfchaaDoorW.PrintMore
set_option linter.unusedVariables false
set_option linter.unusedSimpArgs false
namespace Lat
def okd (t : Nat → Bool) : Nat → Bool
  | 0 => true
  | d + 1 => t (63 - d) && okd t d
theorem okd_iff (t : Nat → Bool) : ∀ d, d ≤ 64 → (okd t d = true ↔ ∀ i, 64 - d ≤ i → i < 64 → t i = true)
  | 0, _ => ⟨fun _ i h1 h2 => by omega, fun _ => rfl⟩
  | d + 1, hd => by
    rw [okd, Bool.and_eq_true, okd_iff t d (by omega)]
    constructor
    · rintro ⟨h1, h2⟩ i hi hi'
      rcases Nat.lt_or_ge i (64 - d) with h | h
      · have : i = 63 - d := by omega
        rw [this]; exact h1
      · exact h2 i h hi'
    · intro h
      exact ⟨h _ (by omega) (by omega), fun i h1 h2 => h i (by omega) h2⟩
theorem wrap_succ {i : Nat} (h : i < 64) : wrap64 ((i : Int) + 1) = ((i + 1 : Nat) : Int) := by unfold wrap64; omega
theorem rover_loop (a0 a1 b0 b1 : Int) (ha0 : 0 ≤ a1) (ha1 : a1 ≤ 18446744073709551615) (hb0 : 0 ≤ b1) (hb1 : b1 ≤ 18446744073709551615) : ∀ d k : Nat, d ≤ 64 → 64 + d < k →
    Y.grilleref12_Over.l0 k ((64 - d : Nat) : Int) a0 a1 b0 b1 = some (okd (fun i => !has b1 (i : Int) || has a1 (i : Int)) d && decide (b0 ≤ a0)) := by
  intro d
  induction d with
  | zero =>
    intro k hd hk
    obtain ⟨k, rfl⟩ : ∃ m, k = m + 1 := ⟨k - 1, by omega⟩
    simp only [Y.grilleref12_Over.l0]
    rw [if_neg (by omega)]
    simp [okd]
  | succ d ih =>
    intro k hd hk
    obtain ⟨k, rfl⟩ : ∃ m, k = m + 1 := ⟨k - 1, by omega⟩
    simp only [Y.grilleref12_Over.l0]
    rw [if_pos (by omega), has_f b1 _ k (by omega) (by omega) hb0 hb1]
    simp only [Option.bind_some]
    have e : 64 - (d + 1) = 63 - d := by omega
    have hw : wrap64 (((64 - (d + 1) : Nat) : Int) + 1) = ((64 - d : Nat) : Int) := by rw [wrap_succ (by omega)]; omega
    rw [hw]
    simp only [okd]
    rw [e]
    cases hb : has b1 ((63 - d : Nat) : Int) with
    | false =>
      rw [if_neg (by simp), ih k (by omega) (by omega)]; simp
    | true =>
      rw [if_pos rfl, has_f a1 _ k (by omega) (by omega) ha0 ha1]
      simp only [Option.bind_some]
      cases ha : has a1 ((63 - d : Nat) : Int) with
      | false => rw [if_neg (by simp)]; simp
      | true => rw [if_pos rfl, ih k (by omega) (by omega)]; simp
theorem sub_okd {a1 b1 : Int} : okd (fun i => !has b1 (i : Int) || has a1 (i : Int)) 64 = true ↔ sub b1 a1 := by
  rw [okd_iff _ 64 (by omega)]
  unfold sub has
  constructor
  · intro h i hi
    have hl : i < 64 := by
      rcases Nat.lt_or_ge i 64 with hl | hl
      · exact hl
      · rw [BitVec.getLsbD_of_ge _ _ hl] at hi; cases hi
    have := h i (by omega) hl
    simpa [hi] using this
  · intro h i _ _
    have := h i
    simp only [Int.toNat_natCast]
    cases hx : (bv b1).getLsbD i with
    | false => rfl
    | true => rw [this hx]; rfl
theorem rover (a0 a1 b0 b1 : Int) (ha0 : 0 ≤ a1) (ha1 : a1 ≤ 18446744073709551615) (hb0 : 0 ≤ b1) (hb1 : b1 ≤ 18446744073709551615) : Y.grilleref12_Over.f 130 a0 a1 b0 b1 = some (ov a0 a1 b0 b1) := by
  unfold Y.grilleref12_Over.f
  have := rover_loop a0 a1 b0 b1 ha0 ha1 hb0 hb1 64 130 (by omega) (by omega)
  rw [show ((64 - 64 : Nat) : Int) = 0 from rfl] at this
  rw [this]
  congr 1
  rw [Bool.eq_iff_iff, Bool.and_eq_true, sub_okd, ov_iff, decide_eq_true_iff]
  exact ⟨fun ⟨h1, h2⟩ => ⟨h2, h1⟩, fun ⟨h1, h2⟩ => ⟨h2, h1⟩⟩
theorem rover_calls (a0 a1 b0 b1 : Int) (w : World) (ha0 : 0 ≤ a1) (ha1 : a1 ≤ 18446744073709551615) (hb0 : 0 ≤ b1) (hb1 : b1 ≤ 18446744073709551615) :
    Calls Tryd.prog 23 #[.agg #[.int .i64 a0, .int .u64 a1], .agg #[.int .i64 b0, .int .u64 b1]] w fun e w' => e = .returned (.bool (ov a0 a1 b0 b1)) ∧ Below w.heap.size w w' :=
  Y.grilleref12_Over.calls 130 a0 a1 b0 b1 _ w (rover a0 a1 b0 b1 ha0 ha1 hb0 hb1)
theorem bitLenAux_le : ∀ (f x m : Nat), x < 2 ^ f → (Lib.bitLenAux f x ≤ m ↔ x < 2 ^ m)
  | 0, x, m, h => by
    have : x = 0 := by simpa using h
    subst this
    simp [Lib.bitLenAux, Nat.two_pow_pos]
  | f + 1, x, m, h => by
    simp only [Lib.bitLenAux]
    by_cases hx : x = 0
    · subst hx; simp [Nat.two_pow_pos]
    · rw [if_neg hx]
      cases m with
      | zero => simp; omega
      | succ m =>
        have hh : x / 2 < 2 ^ f := by rw [Nat.pow_succ] at h; omega
        have := bitLenAux_le f (x / 2) m hh
        rw [Nat.pow_succ]
        generalize 2 ^ m = q at *
        omega
theorem bitLen_le {x m : Nat} (h : x < 18446744073709551616) : Lib.bitLen x ≤ m ↔ x < 2 ^ m := bitLenAux_le 64 x m h
def rt (a0 a1 n c : Int) : Bool := decide (0 ≤ a0) && decide (a0 < n) && decide (((Lib.bitLen a1.toNat : Nat) : Int) ≤ mx c 0)
theorem right_f (a0 a1 n c : Int) (ha0 : 0 ≤ a1) (ha1 : a1 ≤ 18446744073709551615) : Y.lattice_Right.f a0 a1 n c = some (rt a0 a1 n c) := by
  unfold Y.lattice_Right.f rt Y.bits_Len64.f
  by_cases h0 : 0 ≤ a0
  · rw [if_pos h0]
    by_cases h1 : a0 < n
    · rw [if_pos h1, if_pos ⟨ha0, ha1⟩]
      simp [h0, h1]
    · rw [if_neg h1]; simp [h1]
  · rw [if_neg h0]; simp [h0]
theorem right_calls (a0 a1 n c : Int) (w : World) (ha0 : 0 ≤ a1) (ha1 : a1 ≤ 18446744073709551615) : Calls Tryd.prog 24 #[.agg #[.int .i64 a0, .int .u64 a1], .int .i64 n, .int .i64 c] w fun e w' => e = .returned (.bool (rt a0 a1 n c)) ∧ Below w.heap.size w w' :=
  Y.lattice_Right.calls a0 a1 n c _ w (right_f a0 a1 n c ha0 ha1)
theorem rright_loop (a0 a1 n c : Int) (ha0 : 0 ≤ a1) (ha1 : a1 ≤ 18446744073709551615) : ∀ d k : Nat, d ≤ 64 → 64 + d < k →
    Y.grilleref12_Right.l0 k n c ((64 - d : Nat) : Int) a0 a1 = some (okd (fun i => !has a1 (i : Int) || decide ((i : Int) < c)) d && (decide (0 ≤ a0) && decide (a0 < n))) := by
  intro d
  induction d with
  | zero =>
    intro k hd hk
    obtain ⟨k, rfl⟩ : ∃ m, k = m + 1 := ⟨k - 1, by omega⟩
    simp only [Y.grilleref12_Right.l0]
    rw [if_neg (by omega)]
    by_cases h0 : 0 ≤ a0
    · rw [if_pos h0]; simp [okd, h0]
    · rw [if_neg h0]; simp [h0]
  | succ d ih =>
    intro k hd hk
    obtain ⟨k, rfl⟩ : ∃ m, k = m + 1 := ⟨k - 1, by omega⟩
    simp only [Y.grilleref12_Right.l0]
    rw [if_pos (by omega), has_f a1 _ k (by omega) (by omega) ha0 ha1]
    simp only [Option.bind_some]
    have e : 64 - (d + 1) = 63 - d := by omega
    have hw : wrap64 (((64 - (d + 1) : Nat) : Int) + 1) = ((64 - d : Nat) : Int) := by rw [wrap_succ (by omega)]; omega
    rw [hw]
    simp only [okd]
    rw [e]
    cases hb : has a1 ((63 - d : Nat) : Int) with
    | false => rw [if_neg (by simp), ih k (by omega) (by omega)]; simp
    | true =>
      rw [if_pos rfl]
      by_cases hc : ((63 - d : Nat) : Int) < c
      · rw [if_neg (by omega), ih k (by omega) (by omega)]; simp [hc]
      · rw [if_pos (by omega)]; simp [hc]
theorem right_okd {a1 c : Int} (ha0 : 0 ≤ a1) (ha1 : a1 ≤ 18446744073709551615) : okd (fun i => !has a1 (i : Int) || decide ((i : Int) < c)) 64 = true ↔ ((Lib.bitLen a1.toNat : Nat) : Int) ≤ mx c 0 := by
  rw [okd_iff _ 64 (by omega)]
  have hm : ((Lib.bitLen a1.toNat : Nat) : Int) ≤ mx c 0 ↔ Lib.bitLen a1.toNat ≤ (mx c 0).toNat := by
    have : 0 ≤ mx c 0 := by unfold mx; split <;> omega
    omega
  rw [hm, bitLen_le (by omega)]
  constructor
  · intro h
    refine Nat.lt_pow_two_of_testBit _ fun i hi => ?_
    rcases Nat.lt_or_ge i 64 with hl | hl
    · have := h i (by omega) hl
      rw [Bool.or_eq_true, decide_eq_true_iff] at this
      rcases this with h1 | h1
      · unfold has at h1
        rw [Int.toNat_natCast, bv_getLsbD ha0 ha1] at h1
        simpa using h1
      · exfalso
        have : (i : Int) < mx c 0 := by unfold mx; split <;> omega
        omega
    · exact Nat.testBit_lt_two_pow (Nat.lt_of_lt_of_le (show a1.toNat < 2 ^ 64 by omega) (Nat.pow_le_pow_right (by omega) hl))
  · intro h i _ hi
    rw [Bool.or_eq_true, decide_eq_true_iff]
    cases hx : has a1 (i : Int) with
    | false => exact .inl rfl
    | true =>
      right
      unfold has at hx
      rw [Int.toNat_natCast, bv_getLsbD ha0 ha1] at hx
      have h1 := Nat.ge_two_pow_of_testBit hx
      have h2 : (2 : Nat) ^ i < 2 ^ (mx c 0).toNat := Nat.lt_of_le_of_lt h1 h
      have h3 := (Nat.pow_lt_pow_iff_right (by omega : 1 < 2)).1 h2
      unfold mx at h3
      split at h3 <;> omega
theorem rright (a0 a1 n c : Int) (ha0 : 0 ≤ a1) (ha1 : a1 ≤ 18446744073709551615) : Y.grilleref12_Right.f 130 a0 a1 n c = some (rt a0 a1 n c) := by
  unfold Y.grilleref12_Right.f
  have := rright_loop a0 a1 n c ha0 ha1 64 130 (by omega) (by omega)
  rw [show ((64 - 64 : Nat) : Int) = 0 from rfl] at this
  rw [this]
  congr 1
  unfold rt
  rw [Bool.eq_iff_iff, Bool.and_eq_true, Bool.and_eq_true, Bool.and_eq_true, right_okd ha0 ha1]
  simp only [decide_eq_true_iff, Bool.and_eq_true]
  exact ⟨fun ⟨h1, h2⟩ => ⟨h2, h1⟩, fun ⟨h1, h2⟩ => ⟨h2, h1⟩⟩
theorem rright_calls (a0 a1 n c : Int) (w : World) (ha0 : 0 ≤ a1) (ha1 : a1 ≤ 18446744073709551615) : Calls Tryd.prog 25 #[.agg #[.int .i64 a0, .int .u64 a1], .int .i64 n, .int .i64 c] w fun e w' => e = .returned (.bool (rt a0 a1 n c)) ∧ Below w.heap.size w w' :=
  Y.grilleref12_Right.calls 130 a0 a1 n c _ w (rright a0 a1 n c ha0 ha1)
end Lat
end Go.Proofs.YthgafcaoibfchaaDoor.X
end
section
namespace Go.Proofs.YthgafcaoibfchaaDoor.X
open Go.RowKit Go.Shelf Go.Proofs Go.Proofs.YthgafcaoibfchaaDoorW.PrintWords Go.Proofs.YthgafcaoibfchaaDoorW.PrintLast Go.Proofs.YthgafcaoibfchaaDoorW.PrintMore
set_option linter.unusedVariables false
set_option linter.unusedSimpArgs false
attribute [local go_sem] max2_int min2_int max_two min_two
set_option maxHeartbeats 4000000 in
set_option maxRecDepth 100000 in
theorem Lat.of_calls (l : List Bool) (w : World) (hl : l.length = 64) : Calls Tryd.prog 67 #[.agg ((List.map Value.bool l).toArray)] w fun e w' => e = .returned (.int .u64 (Lat.ofL l)) ∧ Below w.heap.size w w' := by
  refine Eng.enter Tryd.func67 rfl fun act0 d0 s0 v0 => ?_
  have s0 : act0.tmps.size = 17 := s0
  have h0_0 : act0.eval (.tmp 0) = .agg ((List.map Value.bool l).toArray) := v0 0 (by simp)
  clear v0
  have bl0 : Below w.heap.size w w := Below.refl _ _
  refine wp_seq ?_
  refine Eng.regionS (Eng.still [fun v => True, fun v => v = .int .u64 0]) (fun i => ([.alloc 101 ((List.map Value.bool l).toArray), .plain] : List Eng.Kind).getD i .plain) 2 0 17 s0 rfl (by kernel_rfl) (Eng.still_stable _) (Or.inr (Eng.still_any _)) ?_ ?_
  · refine Eng.Steps.cons (fun _ => ?_) (Eng.Steps.cons (fun _ => ?_) (Eng.Steps.nil))
    · refine Eng.made rfl (by simp) rfl (fun a w' hd ho => ?_) (fun _ _ => trivial)
      exact Eng.run_box rfl ((ho 0 (by kernel_rfl)).trans h0_0)
    · refine Eng.plain rfl rfl fun a w' H => ?_
      exact Eng.val (w1 := w') (v := .int .u64 0) (Eng.run_assign rfl (rfl : a.eval (.const (.int .u64 0)) = .int .u64 0)) (Below.refl _ _) rfl
  intro act1 w1 T
  have h0_1 : act1.eval (.tmp 0) = .agg ((List.map Value.bool l).toArray) := (T.rest 0 (by kernel_rfl)).trans h0_0
  obtain ⟨g1_1, h1_1, rg1_1, lg1_1_1, kg1_1_1⟩ := T.al 0 1 _ _ rfl rfl rfl (by kernel_rfl)
  have og1_1 : w.heap.size ≤ g1_1 := Nat.le_trans bl0.size rg1_1
  have h2_1 : act1.eval (.tmp 2) = .int .u64 0 := T.done 1 2 rfl rfl
  have d1 := T.defers.trans d0
  have s1 := T.size.trans s0
  have bl1 := bl0.trans (T.below.mono bl0.size)
  clear T
  refine Eng.tail_nil ?_
  show Code.wp Tryd.prog _ _ _ _
  refine wp_seq ?_
  refine Eng.regionS (Eng.still [fun v => v = .int .u64 0]) (fun i => ([.plain] : List Eng.Kind).getD i .plain) 1 0 17 s1 rfl (by kernel_rfl) (Eng.still_stable _) (Or.inr (Eng.still_any _)) ?_ ?_
  · refine Eng.Steps.cons (fun _ => ?_) (Eng.Steps.nil)
    · refine Eng.plain rfl rfl fun a w' H => ?_
      exact Eng.val (w1 := w') (v := .int .u64 0) (Eng.run_assign rfl (rfl : a.eval (.const (.int .u64 0)) = .int .u64 0)) (Below.refl _ _) rfl
  intro act2 w2 T
  have h0_2 : act2.eval (.tmp 0) = .agg ((List.map Value.bool l).toArray) := (T.rest 0 (by kernel_rfl)).trans h0_1
  have h1_2 : act2.eval (.tmp 1) = .pointer (some ⟨g1_1, 0, none⟩) := (T.rest 1 (by kernel_rfl)).trans h1_1
  have h2_2 : act2.eval (.tmp 2) = .int .u64 0 := (T.rest 2 (by kernel_rfl)).trans h2_1
  have kg1_1_2 := (T.below.block _ lg1_1_1).trans kg1_1_1
  have lg1_1_2 := Nat.lt_of_lt_of_le lg1_1_1 T.below.size
  have h3_2 : act2.eval (.tmp 3) = .int .u64 0 := T.done 0 3 rfl rfl
  have d2 := T.defers.trans d1
  have s2 := T.size.trans s1
  have bl2 := bl1.trans (T.below.mono bl1.size)
  clear T
  refine Eng.tail_nil ?_
  show Code.wp Tryd.prog _ _ _ _
  refine wp_seq ?_
  refine wp_seq ?_
  refine Eng.regionS (Eng.still [fun v => v = .int .i64 63]) (fun i => ([.plain] : List Eng.Kind).getD i .plain) 1 0 17 s2 rfl (by kernel_rfl) (Eng.still_stable _) (Or.inr (Eng.still_any _)) ?_ ?_
  · refine Eng.Steps.cons (fun _ => ?_) (Eng.Steps.nil)
    · refine Eng.plain rfl rfl fun a w' H => ?_
      exact Eng.val (w1 := w') (v := .int .i64 63) (Eng.run_assign rfl (rfl : a.eval (.const (.int .i64 63)) = .int .i64 63)) (Below.refl _ _) rfl
  intro act3 w3 T
  have h0_3 : act3.eval (.tmp 0) = .agg ((List.map Value.bool l).toArray) := (T.rest 0 (by kernel_rfl)).trans h0_2
  have h1_3 : act3.eval (.tmp 1) = .pointer (some ⟨g1_1, 0, none⟩) := (T.rest 1 (by kernel_rfl)).trans h1_2
  have h2_3 : act3.eval (.tmp 2) = .int .u64 0 := (T.rest 2 (by kernel_rfl)).trans h2_2
  have h3_3 : act3.eval (.tmp 3) = .int .u64 0 := (T.rest 3 (by kernel_rfl)).trans h3_2
  have kg1_1_3 := (T.below.block _ lg1_1_2).trans kg1_1_2
  have lg1_1_3 := Nat.lt_of_lt_of_le lg1_1_2 T.below.size
  have h4_3 : act3.eval (.tmp 4) = .int .i64 63 := T.done 0 4 rfl rfl
  have d3 := T.defers.trans d2
  have s3 := T.size.trans s2
  have bl3 := bl2.trans (T.below.mono bl2.size)
  clear T
  refine Eng.tail_nil ?_
  show Code.wp Tryd.prog _ _ _ _
  refine wp_block ?_
  refine Eng.loopN (fun n a w' => ∃ (k : Nat), k = n ∧ k ≤ 64 ∧ a.defers = [] ∧ a.tmps.size = 17 ∧ Below w.heap.size w w' ∧ a.eval (.tmp 0) = .agg ((List.map Value.bool l).toArray) ∧ a.eval (.tmp 1) = .pointer (some ⟨g1_1, 0, none⟩) ∧ a.eval (.tmp 2) = .int .u64 0 ∧ a.eval (.tmp 3) = .int .u64 (Lat.ofL (l.drop k)) ∧ a.eval (.tmp 4) = .int .i64 ((k : Int) - 1) ∧ w'.heap[g1_1]? = some (.cells ((List.map Value.bool l).toArray) 101 (0, 0)) ∧ g1_1 < w'.heap.size) (n0 := 64) ?_ ?_
  · exact ⟨64, rfl, by omega, d3, s3, bl3, h0_3, h1_3, h2_3, (h3_3.trans (by first | rfl | (rw [List.drop_eq_nil_of_le (by omega)]; rfl) | (congr 1; rw [Eng.i64_id (by omega) (by omega)]; omega) | (rw [Lat.ofL_drop hl hk0 hk1, if_pos c13]) | (rw [Lat.ofL_drop hl hk0 hk1, if_neg (by rw [c13]; simp)]) | (simp; done))), (h4_3.trans (by first | rfl | (rw [List.drop_eq_nil_of_le (by omega)]; rfl) | (congr 1; rw [Eng.i64_id (by omega) (by omega)]; omega) | (rw [Lat.ofL_drop hl hk0 hk1, if_pos c13]) | (rw [Lat.ofL_drop hl hk0 hk1, if_neg (by rw [c13]; simp)]) | (simp; done))), kg1_1_3, lg1_1_3⟩
  rintro n act4 w4 ⟨k, rfl, hc0_4, d4, s4, bl4, h0_4, h1_4, h2_4, h3_4, h4_4, kg1_1_4, lg1_1_4⟩
  have hk1 := hc0_4
  refine wp_seq ?_
  refine wp_seq ?_
  obtain ⟨q6, Bq6⟩ : ∃ b : Bool, b = (decide (((k : Int) - 1) ≥ 0)) := ⟨_, rfl⟩
  refine Eng.regionS (Eng.still [fun v => v = .int .i64 ((k : Int) - 1), fun v => v = .bool q6]) (fun i => ([.plain, .plain] : List Eng.Kind).getD i .plain) 2 0 17 s4 rfl (by kernel_rfl) (Eng.still_stable _) (Or.inr (Eng.still_any _)) ?_ ?_
  · refine Eng.Steps.cons (fun _ => ?_) (Eng.Steps.cons (fun _ => ?_) (Eng.Steps.nil))
    · refine Eng.plain rfl rfl fun a w' H => ?_
      exact Eng.val (w1 := w') (v := .int .i64 ((k : Int) - 1)) (Eng.run_move rfl ((H.kept 4 (by kernel_rfl)).trans h4_4)) (Below.refl _ _) rfl
    · refine Eng.plain rfl rfl fun a w' H => ?_
      refine Eng.val (w1 := w') (v := .bool (decide (((k : Int) - 1) ≥ 0))) ?_ (Below.refl _ _) (by show _ = Value.bool q6; rw [Bq6])
      have e0 : a.eval (.tmp 5) = .int .i64 ((k : Int) - 1) := (H.dep 0 5 (by kernel_rfl) rfl)
      have e1 : a.eval (.const (.int .i64 0)) = .int .i64 0 := (rfl : a.eval (.const (.int .i64 0)) = .int .i64 0)
      simp only [execOp, resolve, List.map_toArray, List.map_cons, List.map_nil, e0, e1]
      go_simp
      all_goals first | rfl | (simp; done) | omega
  intro act5 w5 T
  have h0_5 : act5.eval (.tmp 0) = .agg ((List.map Value.bool l).toArray) := (T.rest 0 (by kernel_rfl)).trans h0_4
  have h1_5 : act5.eval (.tmp 1) = .pointer (some ⟨g1_1, 0, none⟩) := (T.rest 1 (by kernel_rfl)).trans h1_4
  have h2_5 : act5.eval (.tmp 2) = .int .u64 0 := (T.rest 2 (by kernel_rfl)).trans h2_4
  have h3_5 : act5.eval (.tmp 3) = .int .u64 (Lat.ofL (l.drop k)) := (T.rest 3 (by kernel_rfl)).trans h3_4
  have h4_5 : act5.eval (.tmp 4) = .int .i64 ((k : Int) - 1) := (T.rest 4 (by kernel_rfl)).trans h4_4
  have kg1_1_5 := (T.below.block _ lg1_1_4).trans kg1_1_4
  have lg1_1_5 := Nat.lt_of_lt_of_le lg1_1_4 T.below.size
  have h6_5 : act5.eval (.tmp 6) = .bool q6 := T.done 1 6 rfl rfl
  have d5 := T.defers.trans d4
  have s5 := T.size.trans s4
  have bl5 := bl4.trans (T.below.mono bl4.size)
  clear T
  refine Eng.tail_nil ?_
  show Code.wp Tryd.prog _ _ _ _
  refine wp_cond_split h6_5 (fun hq => ?_) (fun hq => ?_)
  ·
    have c6 := Bq6.symm.trans hq
    clear hq
    have c6 := of_decide_eq_true c6
    have hk0 : 0 < k := by omega
    refine wp_skip ?_
    show Code.wp Tryd.prog _ _ _ _
    refine wp_seq ?_
    refine wp_block ?_
    refine wp_seq ?_
    refine Eng.regionS (Eng.still [fun v => v = .int .u64 (Lat.ofL (l.drop k)), fun v => v = .int .u64 (IntKind.u64.wrap ((Lat.ofL (l.drop k)) * 2)), fun v => v = .int .u64 (IntKind.u64.wrap ((Lat.ofL (l.drop k)) * 2))]) (fun i => ([.plain, .plain, .plain] : List Eng.Kind).getD i .plain) 3 0 17 s5 rfl (by kernel_rfl) (Eng.still_stable _) (Or.inr (Eng.still_any _)) ?_ ?_
    · refine Eng.Steps.cons (fun _ => ?_) (Eng.Steps.cons (fun _ => ?_) (Eng.Steps.cons (fun _ => ?_) (Eng.Steps.nil)))
      · refine Eng.plain rfl rfl fun a w' H => ?_
        exact Eng.val (w1 := w') (v := .int .u64 (Lat.ofL (l.drop k))) (Eng.run_move rfl ((H.kept 3 (by kernel_rfl)).trans h3_5)) (Below.refl _ _) rfl
      · refine Eng.plain rfl rfl fun a w' H => ?_
        refine Eng.val (w1 := w') (v := .int .u64 (IntKind.u64.wrap ((Lat.ofL (l.drop k)) * 2))) ?_ (Below.refl _ _) rfl
        have e0 : a.eval (.tmp 9) = .int .u64 (Lat.ofL (l.drop k)) := (H.dep 0 9 (by kernel_rfl) rfl)
        have e1 : a.eval (.const (.int .u64 2)) = .int .u64 2 := (rfl : a.eval (.const (.int .u64 2)) = .int .u64 2)
        simp only [execOp, resolve, List.map_toArray, List.map_cons, List.map_nil, e0, e1]
        go_simp
        all_goals first | rfl | (simp; done) | omega
      · refine Eng.plain rfl rfl fun a w' H => ?_
        exact Eng.val (w1 := w') (v := .int .u64 (IntKind.u64.wrap ((Lat.ofL (l.drop k)) * 2))) (Eng.run_assign rfl (H.dep 1 10 (by kernel_rfl) rfl)) (Below.refl _ _) rfl
    intro act6 w6 T
    have h0_6 : act6.eval (.tmp 0) = .agg ((List.map Value.bool l).toArray) := (T.rest 0 (by kernel_rfl)).trans h0_5
    have h1_6 : act6.eval (.tmp 1) = .pointer (some ⟨g1_1, 0, none⟩) := (T.rest 1 (by kernel_rfl)).trans h1_5
    have h2_6 : act6.eval (.tmp 2) = .int .u64 0 := (T.rest 2 (by kernel_rfl)).trans h2_5
    have h4_6 : act6.eval (.tmp 4) = .int .i64 ((k : Int) - 1) := (T.rest 4 (by kernel_rfl)).trans h4_5
    have h6_6 : act6.eval (.tmp 6) = .bool q6 := (T.rest 6 (by kernel_rfl)).trans h6_5
    have kg1_1_6 := (T.below.block _ lg1_1_5).trans kg1_1_5
    have lg1_1_6 := Nat.lt_of_lt_of_le lg1_1_5 T.below.size
    have h3_6 : act6.eval (.tmp 3) = .int .u64 (IntKind.u64.wrap ((Lat.ofL (l.drop k)) * 2)) := T.done 2 3 rfl rfl
    have d6 := T.defers.trans d5
    have s6 := T.size.trans s5
    have bl6 := bl5.trans (T.below.mono bl5.size)
    clear T
    refine Eng.tail_nil ?_
    show Code.wp Tryd.prog _ _ _ _
    refine wp_seq ?_
    refine Eng.regionS (Eng.still [fun v => v = .int .i64 ((k : Int) - 1), fun v => v = .pointer (some ⟨g1_1, k - 1, none⟩), fun v => v = .bool (l.getD (k - 1) false)]) (fun i => ([.plain, .plain, .plain] : List Eng.Kind).getD i .plain) 3 0 17 s6 rfl (by kernel_rfl) (Eng.still_stable _) (Or.inr (Eng.still_any _)) ?_ ?_
    · refine Eng.Steps.cons (fun _ => ?_) (Eng.Steps.cons (fun _ => ?_) (Eng.Steps.cons (fun _ => ?_) (Eng.Steps.nil)))
      · refine Eng.plain rfl rfl fun a w' H => ?_
        exact Eng.val (w1 := w') (v := .int .i64 ((k : Int) - 1)) (Eng.run_move rfl ((H.kept 4 (by kernel_rfl)).trans h4_6)) (Below.refl _ _) rfl
      · refine Eng.plain rfl rfl fun a w' H => ?_
        refine Eng.val (w1 := w') (v := .pointer (some ⟨g1_1, k - 1, none⟩)) ?_ (Below.refl _ _) rfl
        exact Eng.run_indexAddr rfl Tryd.underlying101 (by kernel_rfl) ((H.kept 1 (by kernel_rfl)).trans h1_6) ((H.dep 0 11 (by kernel_rfl) rfl).trans (congrArg (Value.int _) (show (k : Int) - 1 = ((k - 1 : Nat) : Int) from by omega))) (by decide) (by omega)
      · refine Eng.plain rfl rfl fun a w' H => ?_
        have kb := (H.below.block _ lg1_1_6).trans kg1_1_6
        have z0 : w'.cell? ⟨g1_1, k - 1, none⟩ = some (.bool (l.getD (k - 1) false)) := (Eng.cells kb (k - 1)).trans (Lat.bit_at (hl) (by omega))
        refine Eng.val (w1 := w') (v := .bool (l.getD (k - 1) false)) ?_ (Below.refl _ _) rfl
        have e0 : a.eval (.tmp 12) = .pointer (some ⟨g1_1, k - 1, none⟩) := (H.dep 1 12 (by kernel_rfl) rfl)
        simp only [execOp, resolve, List.map_toArray, List.map_cons, List.map_nil, e0]
        go_simp
        all_goals first | rfl | (simp; done) | omega
    intro act7 w7 T
    have h0_7 : act7.eval (.tmp 0) = .agg ((List.map Value.bool l).toArray) := (T.rest 0 (by kernel_rfl)).trans h0_6
    have h1_7 : act7.eval (.tmp 1) = .pointer (some ⟨g1_1, 0, none⟩) := (T.rest 1 (by kernel_rfl)).trans h1_6
    have h2_7 : act7.eval (.tmp 2) = .int .u64 0 := (T.rest 2 (by kernel_rfl)).trans h2_6
    have h3_7 : act7.eval (.tmp 3) = .int .u64 (IntKind.u64.wrap ((Lat.ofL (l.drop k)) * 2)) := (T.rest 3 (by kernel_rfl)).trans h3_6
    have h4_7 : act7.eval (.tmp 4) = .int .i64 ((k : Int) - 1) := (T.rest 4 (by kernel_rfl)).trans h4_6
    have h6_7 : act7.eval (.tmp 6) = .bool q6 := (T.rest 6 (by kernel_rfl)).trans h6_6
    have kg1_1_7 := (T.below.block _ lg1_1_6).trans kg1_1_6
    have lg1_1_7 := Nat.lt_of_lt_of_le lg1_1_6 T.below.size
    have h13_7 : act7.eval (.tmp 13) = .bool (l.getD (k - 1) false) := T.done 2 13 rfl rfl
    have d7 := T.defers.trans d6
    have s7 := T.size.trans s6
    have bl7 := bl6.trans (T.below.mono bl6.size)
    clear T
    refine Eng.tail_nil ?_
    show Code.wp Tryd.prog _ _ _ _
    refine wp_cond_split h13_7 (fun hq => ?_) (fun hq => ?_)
    ·
      have c13 := hq
      clear hq
      refine Eng.regionS (Eng.still [fun v => v = .int .u64 (IntKind.u64.wrap ((Lat.ofL (l.drop k)) * 2)), fun v => v = .int .u64 (IntKind.u64.wrap ((IntKind.u64.wrap ((Lat.ofL (l.drop k)) * 2)) + 1)), fun v => v = .int .u64 (IntKind.u64.wrap ((IntKind.u64.wrap ((Lat.ofL (l.drop k)) * 2)) + 1))]) (fun i => ([.plain, .plain, .plain] : List Eng.Kind).getD i .plain) 3 0 17 s7 rfl (by kernel_rfl) (Eng.still_stable _) (Or.inr (Eng.still_any _)) ?_ ?_
      · refine Eng.Steps.cons (fun _ => ?_) (Eng.Steps.cons (fun _ => ?_) (Eng.Steps.cons (fun _ => ?_) (Eng.Steps.nil)))
        · refine Eng.plain rfl rfl fun a w' H => ?_
          exact Eng.val (w1 := w') (v := .int .u64 (IntKind.u64.wrap ((Lat.ofL (l.drop k)) * 2))) (Eng.run_move rfl ((H.kept 3 (by kernel_rfl)).trans h3_7)) (Below.refl _ _) rfl
        · refine Eng.plain rfl rfl fun a w' H => ?_
          refine Eng.val (w1 := w') (v := .int .u64 (IntKind.u64.wrap ((IntKind.u64.wrap ((Lat.ofL (l.drop k)) * 2)) + 1))) ?_ (Below.refl _ _) rfl
          have e0 : a.eval (.tmp 14) = .int .u64 (IntKind.u64.wrap ((Lat.ofL (l.drop k)) * 2)) := (H.dep 0 14 (by kernel_rfl) rfl)
          have e1 : a.eval (.const (.int .u64 1)) = .int .u64 1 := (rfl : a.eval (.const (.int .u64 1)) = .int .u64 1)
          simp only [execOp, resolve, List.map_toArray, List.map_cons, List.map_nil, e0, e1]
          go_simp
          all_goals first | rfl | (simp; done) | omega
        · refine Eng.plain rfl rfl fun a w' H => ?_
          exact Eng.val (w1 := w') (v := .int .u64 (IntKind.u64.wrap ((IntKind.u64.wrap ((Lat.ofL (l.drop k)) * 2)) + 1))) (Eng.run_assign rfl (H.dep 1 15 (by kernel_rfl) rfl)) (Below.refl _ _) rfl
      intro act8 w8 T
      have h0_8 : act8.eval (.tmp 0) = .agg ((List.map Value.bool l).toArray) := (T.rest 0 (by kernel_rfl)).trans h0_7
      have h1_8 : act8.eval (.tmp 1) = .pointer (some ⟨g1_1, 0, none⟩) := (T.rest 1 (by kernel_rfl)).trans h1_7
      have h2_8 : act8.eval (.tmp 2) = .int .u64 0 := (T.rest 2 (by kernel_rfl)).trans h2_7
      have h4_8 : act8.eval (.tmp 4) = .int .i64 ((k : Int) - 1) := (T.rest 4 (by kernel_rfl)).trans h4_7
      have h6_8 : act8.eval (.tmp 6) = .bool q6 := (T.rest 6 (by kernel_rfl)).trans h6_7
      have h13_8 : act8.eval (.tmp 13) = .bool (l.getD (k - 1) false) := (T.rest 13 (by kernel_rfl)).trans h13_7
      have kg1_1_8 := (T.below.block _ lg1_1_7).trans kg1_1_7
      have lg1_1_8 := Nat.lt_of_lt_of_le lg1_1_7 T.below.size
      have h3_8 : act8.eval (.tmp 3) = .int .u64 (IntKind.u64.wrap ((IntKind.u64.wrap ((Lat.ofL (l.drop k)) * 2)) + 1)) := T.done 2 3 rfl rfl
      have d8 := T.defers.trans d7
      have s8 := T.size.trans s7
      have bl8 := bl7.trans (T.below.mono bl7.size)
      clear T
      refine Eng.tail_nil ?_
      show Code.wp Tryd.prog _ _ _ _
      refine Eng.regionS (Eng.still [fun v => v = .int .i64 ((k : Int) - 1), fun v => v = .int .i64 (IntKind.i64.wrap (((k : Int) - 1) - 1)), fun v => v = .int .i64 (IntKind.i64.wrap (((k : Int) - 1) - 1))]) (fun i => ([.plain, .plain, .plain] : List Eng.Kind).getD i .plain) 3 0 17 s8 rfl (by kernel_rfl) (Eng.still_stable _) (Or.inr (Eng.still_any _)) ?_ ?_
      · refine Eng.Steps.cons (fun _ => ?_) (Eng.Steps.cons (fun _ => ?_) (Eng.Steps.cons (fun _ => ?_) (Eng.Steps.nil)))
        · refine Eng.plain rfl rfl fun a w' H => ?_
          exact Eng.val (w1 := w') (v := .int .i64 ((k : Int) - 1)) (Eng.run_move rfl ((H.kept 4 (by kernel_rfl)).trans h4_8)) (Below.refl _ _) rfl
        · refine Eng.plain rfl rfl fun a w' H => ?_
          refine Eng.val (w1 := w') (v := .int .i64 (IntKind.i64.wrap (((k : Int) - 1) - 1))) ?_ (Below.refl _ _) rfl
          have e0 : a.eval (.tmp 7) = .int .i64 ((k : Int) - 1) := (H.dep 0 7 (by kernel_rfl) rfl)
          have e1 : a.eval (.const (.int .i64 1)) = .int .i64 1 := (rfl : a.eval (.const (.int .i64 1)) = .int .i64 1)
          simp only [execOp, resolve, List.map_toArray, List.map_cons, List.map_nil, e0, e1]
          go_simp
          all_goals first | rfl | (simp; done) | omega
        · refine Eng.plain rfl rfl fun a w' H => ?_
          exact Eng.val (w1 := w') (v := .int .i64 (IntKind.i64.wrap (((k : Int) - 1) - 1))) (Eng.run_assign rfl (H.dep 1 8 (by kernel_rfl) rfl)) (Below.refl _ _) rfl
      intro act9 w9 T
      have h0_9 : act9.eval (.tmp 0) = .agg ((List.map Value.bool l).toArray) := (T.rest 0 (by kernel_rfl)).trans h0_8
      have h1_9 : act9.eval (.tmp 1) = .pointer (some ⟨g1_1, 0, none⟩) := (T.rest 1 (by kernel_rfl)).trans h1_8
      have h2_9 : act9.eval (.tmp 2) = .int .u64 0 := (T.rest 2 (by kernel_rfl)).trans h2_8
      have h3_9 : act9.eval (.tmp 3) = .int .u64 (IntKind.u64.wrap ((IntKind.u64.wrap ((Lat.ofL (l.drop k)) * 2)) + 1)) := (T.rest 3 (by kernel_rfl)).trans h3_8
      have h6_9 : act9.eval (.tmp 6) = .bool q6 := (T.rest 6 (by kernel_rfl)).trans h6_8
      have h13_9 : act9.eval (.tmp 13) = .bool (l.getD (k - 1) false) := (T.rest 13 (by kernel_rfl)).trans h13_8
      have kg1_1_9 := (T.below.block _ lg1_1_8).trans kg1_1_8
      have lg1_1_9 := Nat.lt_of_lt_of_le lg1_1_8 T.below.size
      have h4_9 : act9.eval (.tmp 4) = .int .i64 (IntKind.i64.wrap (((k : Int) - 1) - 1)) := T.done 2 4 rfl rfl
      have d9 := T.defers.trans d8
      have s9 := T.size.trans s8
      have bl9 := bl8.trans (T.below.mono bl8.size)
      clear T
      refine Eng.tail_nil ?_
      exact ⟨_, by omega, k - 1, rfl, by omega, d9, s9, bl9, h0_9, h1_9, h2_9, (h3_9.trans (by first | rfl | (rw [List.drop_eq_nil_of_le (by omega)]; rfl) | (congr 1; rw [Eng.i64_id (by omega) (by omega)]; omega) | (rw [Lat.ofL_drop hl hk0 hk1, if_pos c13]) | (rw [Lat.ofL_drop hl hk0 hk1, if_neg (by rw [c13]; simp)]) | (simp; done))), (h4_9.trans (by first | rfl | (rw [List.drop_eq_nil_of_le (by omega)]; rfl) | (congr 1; rw [Eng.i64_id (by omega) (by omega)]; omega) | (rw [Lat.ofL_drop hl hk0 hk1, if_pos c13]) | (rw [Lat.ofL_drop hl hk0 hk1, if_neg (by rw [c13]; simp)]) | (simp; done))), kg1_1_9, lg1_1_9⟩
    ·
      have c13 := hq
      clear hq
      refine wp_skip ?_
      show Code.wp Tryd.prog _ _ _ _
      refine Eng.regionS (Eng.still [fun v => v = .int .i64 ((k : Int) - 1), fun v => v = .int .i64 (IntKind.i64.wrap (((k : Int) - 1) - 1)), fun v => v = .int .i64 (IntKind.i64.wrap (((k : Int) - 1) - 1))]) (fun i => ([.plain, .plain, .plain] : List Eng.Kind).getD i .plain) 3 0 17 s7 rfl (by kernel_rfl) (Eng.still_stable _) (Or.inr (Eng.still_any _)) ?_ ?_
      · refine Eng.Steps.cons (fun _ => ?_) (Eng.Steps.cons (fun _ => ?_) (Eng.Steps.cons (fun _ => ?_) (Eng.Steps.nil)))
        · refine Eng.plain rfl rfl fun a w' H => ?_
          exact Eng.val (w1 := w') (v := .int .i64 ((k : Int) - 1)) (Eng.run_move rfl ((H.kept 4 (by kernel_rfl)).trans h4_7)) (Below.refl _ _) rfl
        · refine Eng.plain rfl rfl fun a w' H => ?_
          refine Eng.val (w1 := w') (v := .int .i64 (IntKind.i64.wrap (((k : Int) - 1) - 1))) ?_ (Below.refl _ _) rfl
          have e0 : a.eval (.tmp 7) = .int .i64 ((k : Int) - 1) := (H.dep 0 7 (by kernel_rfl) rfl)
          have e1 : a.eval (.const (.int .i64 1)) = .int .i64 1 := (rfl : a.eval (.const (.int .i64 1)) = .int .i64 1)
          simp only [execOp, resolve, List.map_toArray, List.map_cons, List.map_nil, e0, e1]
          go_simp
          all_goals first | rfl | (simp; done) | omega
        · refine Eng.plain rfl rfl fun a w' H => ?_
          exact Eng.val (w1 := w') (v := .int .i64 (IntKind.i64.wrap (((k : Int) - 1) - 1))) (Eng.run_assign rfl (H.dep 1 8 (by kernel_rfl) rfl)) (Below.refl _ _) rfl
      intro act10 w10 T
      have h0_10 : act10.eval (.tmp 0) = .agg ((List.map Value.bool l).toArray) := (T.rest 0 (by kernel_rfl)).trans h0_7
      have h1_10 : act10.eval (.tmp 1) = .pointer (some ⟨g1_1, 0, none⟩) := (T.rest 1 (by kernel_rfl)).trans h1_7
      have h2_10 : act10.eval (.tmp 2) = .int .u64 0 := (T.rest 2 (by kernel_rfl)).trans h2_7
      have h3_10 : act10.eval (.tmp 3) = .int .u64 (IntKind.u64.wrap ((Lat.ofL (l.drop k)) * 2)) := (T.rest 3 (by kernel_rfl)).trans h3_7
      have h6_10 : act10.eval (.tmp 6) = .bool q6 := (T.rest 6 (by kernel_rfl)).trans h6_7
      have h13_10 : act10.eval (.tmp 13) = .bool (l.getD (k - 1) false) := (T.rest 13 (by kernel_rfl)).trans h13_7
      have kg1_1_10 := (T.below.block _ lg1_1_7).trans kg1_1_7
      have lg1_1_10 := Nat.lt_of_lt_of_le lg1_1_7 T.below.size
      have h4_10 : act10.eval (.tmp 4) = .int .i64 (IntKind.i64.wrap (((k : Int) - 1) - 1)) := T.done 2 4 rfl rfl
      have d10 := T.defers.trans d7
      have s10 := T.size.trans s7
      have bl10 := bl7.trans (T.below.mono bl7.size)
      clear T
      refine Eng.tail_nil ?_
      exact ⟨_, by omega, k - 1, rfl, by omega, d10, s10, bl10, h0_10, h1_10, h2_10, (h3_10.trans (by first | rfl | (rw [List.drop_eq_nil_of_le (by omega)]; rfl) | (congr 1; rw [Eng.i64_id (by omega) (by omega)]; omega) | (rw [Lat.ofL_drop hl hk0 hk1, if_pos c13]) | (rw [Lat.ofL_drop hl hk0 hk1, if_neg (by rw [c13]; simp)]) | (simp; done))), (h4_10.trans (by first | rfl | (rw [List.drop_eq_nil_of_le (by omega)]; rfl) | (congr 1; rw [Eng.i64_id (by omega) (by omega)]; omega) | (rw [Lat.ofL_drop hl hk0 hk1, if_pos c13]) | (rw [Lat.ofL_drop hl hk0 hk1, if_neg (by rw [c13]; simp)]) | (simp; done))), kg1_1_10, lg1_1_10⟩
  ·
    have c6 := Bq6.symm.trans hq
    clear hq
    have c6 := of_decide_eq_false c6
    refine wp_exit ?_
    show Code.wp Tryd.prog _ _ _ _
    show Code.wp Tryd.prog _ _ _ _
    refine wp_seq ?_
    refine Eng.regionS (Eng.still [fun v => v = .int .u64 (Lat.ofL (l.drop k)), fun v => v = .int .u64 (Lat.ofL (l.drop k))]) (fun i => ([.plain, .plain] : List Eng.Kind).getD i .plain) 2 0 17 s5 rfl (by kernel_rfl) (Eng.still_stable _) (Or.inr (Eng.still_any _)) ?_ ?_
    · refine Eng.Steps.cons (fun _ => ?_) (Eng.Steps.cons (fun _ => ?_) (Eng.Steps.nil))
      · refine Eng.plain rfl rfl fun a w' H => ?_
        exact Eng.val (w1 := w') (v := .int .u64 (Lat.ofL (l.drop k))) (Eng.run_move rfl ((H.kept 3 (by kernel_rfl)).trans h3_5)) (Below.refl _ _) rfl
      · refine Eng.plain rfl rfl fun a w' H => ?_
        exact Eng.val (w1 := w') (v := .int .u64 (Lat.ofL (l.drop k))) (Eng.run_assign rfl (H.dep 0 16 (by kernel_rfl) rfl)) (Below.refl _ _) rfl
    intro act11 w11 T
    have h0_11 : act11.eval (.tmp 0) = .agg ((List.map Value.bool l).toArray) := (T.rest 0 (by kernel_rfl)).trans h0_5
    have h1_11 : act11.eval (.tmp 1) = .pointer (some ⟨g1_1, 0, none⟩) := (T.rest 1 (by kernel_rfl)).trans h1_5
    have h3_11 : act11.eval (.tmp 3) = .int .u64 (Lat.ofL (l.drop k)) := (T.rest 3 (by kernel_rfl)).trans h3_5
    have h4_11 : act11.eval (.tmp 4) = .int .i64 ((k : Int) - 1) := (T.rest 4 (by kernel_rfl)).trans h4_5
    have h6_11 : act11.eval (.tmp 6) = .bool q6 := (T.rest 6 (by kernel_rfl)).trans h6_5
    have kg1_1_11 := (T.below.block _ lg1_1_5).trans kg1_1_5
    have lg1_1_11 := Nat.lt_of_lt_of_le lg1_1_5 T.below.size
    have h2_11 : act11.eval (.tmp 2) = .int .u64 (Lat.ofL (l.drop k)) := T.done 1 2 rfl rfl
    have d11 := T.defers.trans d5
    have s11 := T.size.trans s5
    have bl11 := bl5.trans (T.below.mono bl5.size)
    clear T
    refine Eng.tail_nil ?_
    show Code.wp Tryd.prog _ _ _ _
    refine wp_ret ?_
    exact Eng.ret1 rfl d11 h2_11 ⟨by rw [show k = 0 by omega, List.drop_zero], bl11⟩
end Go.Proofs.YthgafcaoibfchaaDoor.X
end
