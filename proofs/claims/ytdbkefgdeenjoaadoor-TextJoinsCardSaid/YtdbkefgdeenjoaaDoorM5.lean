/- Words and walks that the row of TextJoins needs: printed by programs, and plain laws. -/
import Derived.Test.YtdbkefgdeenjoaaDoorM1
import Derived.Test.YtdbkefgdeenjoaaDoorM4
import Derived.Test.YtdbkefgdeenjoaaDoorM2
import Derived.Test.YtdbkefgdeenjoaaDoorM0
import Derived.Test.YtdbkefgdeenjoaaDoorRows
import Derived.Lib.LaidU8T
import Derived.PinnedBridge
import Derived.SizedLaws
import Derived.ChangeSlices
section
namespace Go.Proofs.YtdbkefgdeenjoaaDoor.X
open Go.RowKit Go.Proofs.YtdbkefgdeenjoaaDoorW.PrintWords Go.Proofs.YtdbkefgdeenjoaaDoorW.PrintLast Go.Proofs.YtdbkefgdeenjoaaDoorW.PrintMore
attribute [local go_sem] max2_int min2_int max_two min_two max_three min_three max_four min_four
set_option linter.unusedVariables false
set_option linter.unusedSimpArgs false
def grillelaw01_TextJoins.j0 : Nat → List Int → List Int → Bool → Option (Bool)
  | 0, _, _, _ => none
  | k + 1, x0, x1, x43 => if x43 = true then (some true) else ((text_Clean.f x0).bind fun bt486 => ((text_Clean.f x1).bind fun bt488 => ((slices_Clone_int32_int32.f x0).bind fun t490 => (if t490.length + x1.length < 35184372088832 then ((text_Clean.f (t490 ++ x1)).bind fun bt496 => (if bt486.2 = 0 then (if bt488.2 = 0 then (if bt486.1.size + bt488.1.size ≤ 9223372036854775807 then (if bt496.1.toList = (bt486.1 ++ bt488.1).toList then (some (bt496.2 == 0)) else (some false)) else (none)) else (if bt496.2 = 7 then (some (bt496.1.toList == ([] : List UInt8))) else (some false))) else (if bt496.2 = 7 then (some (bt496.1.toList == ([] : List UInt8))) else (some false)))) else (none)))))
def grillelaw01_TextJoins.f (k : Nat) (l0 : List Int) (l1 : List Int) : Option (Bool) := (grillelaw01_alive.f).bind fun t483 => (if t483 = true then (if (wrap64 ((l0.length : Int) + (l1.length : Int))) > 2000 then (grillelaw01_TextJoins.j0 k l0 l1 true) else (if (l0.length : Int) > 0 then (if 0 ≤ (wrap64 ((l0.length : Int) - 1)) then (if (wrap64 ((l0.length : Int) - 1)) < (l0.length : Int) then (if (rd l0 (wrap64 ((l0.length : Int) - 1))) = 13 then (if (l1.length : Int) > 0 then (if 0 < (l1.length : Int) then (grillelaw01_TextJoins.j0 k l0 l1 ((rd l1 0) == 10)) else (none)) else (grillelaw01_TextJoins.j0 k l0 l1 false)) else (grillelaw01_TextJoins.j0 k l0 l1 false)) else (none)) else (none)) else (grillelaw01_TextJoins.j0 k l0 l1 false))) else (some false))
set_option maxHeartbeats 8000000 in
set_option maxRecDepth 100000 in
theorem grillelaw01_TextJoins.calls (k : Nat) (A0 : Option Addr) (c0 : Nat) (l0 : List Int) (A1 : Option Addr) (c1 : Nat) (l1 : List Int) (r : Bool) (w : World) (hr0 : Kd.C (Kd.int .i32) w A0 l0.length l0) (hc0 : l0.length ≤ c0) (hr1 : Kd.C (Kd.int .i32) w A1 l1.length l1) (hc1 : l1.length ≤ c1) (hT : Tabs.Holds w) (h : grillelaw01_TextJoins.f k l0 l1 = some r) :
    Calls Tryd.prog 9 #[.slice A0 l0.length c0, .slice A1 l1.length c1] w fun e w' => e = .returned (.bool r) ∧ Below w.heap.size w w' := by
  have HR0 := Aside0.mk hr0
  have HC0 := Aside0.mk hc0
  clear hr0 hc0
  have HR1 := Aside0.mk hr1
  have HC1 := Aside0.mk hc1
  clear hr1 hc1
  have HT := Aside0.mk hT
  clear hT
  have HB := Aside0.mk (Below.refl w.heap.size w)
  have H : ((grillelaw01_alive.f).bind fun t483 => (if t483 = true then (if (wrap64 ((l0.length : Int) + (l1.length : Int))) > 2000 then (grillelaw01_TextJoins.j0 k l0 l1 true) else (if (l0.length : Int) > 0 then (if 0 ≤ (wrap64 ((l0.length : Int) - 1)) then (if (wrap64 ((l0.length : Int) - 1)) < (l0.length : Int) then (if (rd l0 (wrap64 ((l0.length : Int) - 1))) = 13 then (if (l1.length : Int) > 0 then (if 0 < (l1.length : Int) then (grillelaw01_TextJoins.j0 k l0 l1 ((rd l1 0) == 10)) else (none)) else (grillelaw01_TextJoins.j0 k l0 l1 false)) else (grillelaw01_TextJoins.j0 k l0 l1 false)) else (none)) else (none)) else (grillelaw01_TextJoins.j0 k l0 l1 false))) else (some false))) = some r := h
  clear h
  replace H := Option.bind_eq_some_iff.mp H
  obtain ⟨t483, A30, H⟩ := H
  replace H : (if t483 = true then (if (wrap64 ((l0.length : Int) + (l1.length : Int))) > 2000 then (grillelaw01_TextJoins.j0 k l0 l1 true) else (if (l0.length : Int) > 0 then (if 0 ≤ (wrap64 ((l0.length : Int) - 1)) then (if (wrap64 ((l0.length : Int) - 1)) < (l0.length : Int) then (if (rd l0 (wrap64 ((l0.length : Int) - 1))) = 13 then (if (l1.length : Int) > 0 then (if 0 < (l1.length : Int) then (grillelaw01_TextJoins.j0 k l0 l1 ((rd l1 0) == 10)) else (none)) else (grillelaw01_TextJoins.j0 k l0 l1 false)) else (grillelaw01_TextJoins.j0 k l0 l1 false)) else (none)) else (none)) else (grillelaw01_TextJoins.j0 k l0 l1 false))) else (some false)) = some r := H
  have A3 := Aside0.mk A30
  clear A30
  by_cases c4 : t483 = true
  · subst c4
    have H1 : (if (wrap64 ((l0.length : Int) + (l1.length : Int))) > 2000 then (grillelaw01_TextJoins.j0 k l0 l1 true) else (if (l0.length : Int) > 0 then (if 0 ≤ (wrap64 ((l0.length : Int) - 1)) then (if (wrap64 ((l0.length : Int) - 1)) < (l0.length : Int) then (if (rd l0 (wrap64 ((l0.length : Int) - 1))) = 13 then (if (l1.length : Int) > 0 then (if 0 < (l1.length : Int) then (grillelaw01_TextJoins.j0 k l0 l1 ((rd l1 0) == 10)) else (none)) else (grillelaw01_TextJoins.j0 k l0 l1 false)) else (grillelaw01_TextJoins.j0 k l0 l1 false)) else (none)) else (none)) else (grillelaw01_TextJoins.j0 k l0 l1 false))) = some r := by rw [if_pos rfl] at H; exact H
    clear H
    have H := H1
    clear H1
    have HC5 := Aside0.mk H
    clear H
    go_enter Tryd.func9, Tryd.ntmps9
    go_upto_region 3 with (first | ((with_reducible refine gate_callee (f := 10) rfl ?_); refine goesL_ (some 11) rfl rfl Tryd.func10 (by kernel_rfl) rfl #[] rfl (by (try simp only [List.map_toArray, List.map_cons, List.map_nil]); first | done | rfl | (simp only [List.length_drop, List.length_take]; rfl)) ?_; (with_reducible refine (grillelaw01_alive.calls  true _ ?side1 A3.out).mono ?_); (case side1 => exact Tabs.Holds.below HT.out (by repeat (first | (with_reducible first | exact HB.out | apply below_alloc | apply pw_below_drewN | apply below_drew1) | exact HB.out))); rintro e w6 ⟨rfl, hb⟩; refine ⟨_, rfl, ?_⟩; have n0_ := Aside0.mk (below_step (by repeat (first | (with_reducible first | exact HB.out | apply below_alloc | apply pw_below_drewN | apply below_drew1) | exact HB.out)) hb); clear HB; have HB := n0_; clear n0_; (try clear hb); (try clear hb2); (try clear hk); (try clear hi)))
    (try simp only [Act.put, List.setIfInBounds_toArray, List.set_cons_zero, List.set_cons_succ])
    go_cut [43] (fun v43 wc => ∃ (kq : Nat) (x43_4 : Bool), v43 = .bool x43_4 ∧ Aside0 (grillelaw01_TextJoins.j0 kq l0 l1 x43_4 = some r) ∧ Aside0 (kq ≤ k) ∧ Aside0 (Below w.heap.size w wc))
    case first =>
      have H := HC5.out
      clear HC5
      by_cases c7 : (wrap64 ((l0.length : Int) + (l1.length : Int))) > 2000
      · rw [if_pos c7] at H
        have c7b0 : decide (2000 < (wrap64 ((l0.length : Int) + (l1.length : Int)))) = true := decide_eq_true c7
        clear c7
        (first | rw [c7b0] | (simp only [i64_w, i32_w]; rw [c7b0]) | skip)
        have H' := Aside0.mk H
        clear H
        go_wp2
        go_meet
        case rel => exact ⟨_, (true), (by first | rfl | (simp; done) | (simp [*]; done) | (simp [xbne_nil, xbeq_nil]; done)), H', ⟨by first | omega | exact Nat.le_refl _⟩, ⟨by repeat (first | (with_reducible first | exact HB.out | apply below_alloc | apply pw_below_drewN | apply below_drew1) | exact HB.out)⟩⟩
      · rw [if_neg c7] at H
        have c7b0 : decide (2000 < (wrap64 ((l0.length : Int) + (l1.length : Int)))) = false := decide_eq_false c7
        clear c7
        (first | rw [c7b0] | (simp only [i64_w, i32_w]; rw [c7b0]) | skip)
        by_cases c8 : (l0.length : Int) > 0
        · rw [if_pos c8] at H
          have c8b0 : decide (0 < (l0.length : Int)) = true := decide_eq_true c8
          have c8b1 : decide (0 < l0.length) = true := decide_eq_true (by omega)
          clear c8
          obtain ⟨ji9, hji9⟩ : ∃ j_ : Int, (wrap64 ((l0.length : Int) - 1)) = j_ := ⟨_, rfl⟩
          replace H : (if 0 ≤ (ji9) then (if (ji9) < (l0.length : Int) then (if (rd l0 (ji9)) = 13 then (if (l1.length : Int) > 0 then (if 0 < (l1.length : Int) then (grillelaw01_TextJoins.j0 k l0 l1 ((rd l1 0) == 10)) else (none)) else (grillelaw01_TextJoins.j0 k l0 l1 false)) else (grillelaw01_TextJoins.j0 k l0 l1 false)) else (none)) else (none)) = some r := by first | (rw [hji9] at H; exact H) | (simp only [hji9] at H ⊢; exact H)
          have hji9w : (IntKind.i64.wrap ((l0.length : Int) - 1)) = ji9 := (i64_w _).trans hji9
          by_cases c10 : 0 ≤ (ji9)
          · rw [if_pos c10] at H
            have c10b0 : decide (0 ≤ (ji9)) = true := decide_eq_true c10
            clear c10
            by_cases c11 : (ji9) < (l0.length : Int)
            · rw [if_pos c11] at H
              have c11b0 : decide ((ji9) < (l0.length : Int)) = true := decide_eq_true c11
              clear c11
              by_cases c12 : (rd l0 (ji9)) = 13
              · rw [if_pos c12] at H
                have c12b0 : ((rd l0 (ji9)) == 13) = true := beq_iff_eq.mpr c12
                have c12b1 : ((rd l0 (ji9)) != 13) = false := bne_eq_false_iff_eq.mpr c12
                clear c12
                by_cases c13 : (l1.length : Int) > 0
                · rw [if_pos c13] at H
                  have c13b0 : decide (0 < (l1.length : Int)) = true := decide_eq_true c13
                  have c13b1 : decide (0 < l1.length) = true := decide_eq_true (by omega)
                  clear c13
                  by_cases c14 : 0 < (l1.length : Int)
                  · rw [if_pos c14] at H
                    have c14b0 : decide (0 < (l1.length : Int)) = true := decide_eq_true c14
                    have c14b1 : decide (0 < l1.length) = true := decide_eq_true (by omega)
                    clear c14
                    have H' := Aside0.mk H
                    clear H
                    have p484 : 0 ≤ ((ji9) : Int) := of_decide_eq_true (by first | (with_reducible assumption) | assumption)
                    have q484 : (ji9) < (l0.length : Int) := of_decide_eq_true (by first | (with_reducible assumption) | assumption)
                    obtain ⟨ad484, e484, hx484_0⟩ := Kd.at_int HR0.out (ji9) p484 q484
                    cases e484
                    replace hx484_0 := (HB.out.cell (World.block_lt_of_cell? w _ hx484_0)).trans hx484_0
                    replace p484 := eq_true p484
                    replace q484 := eq_true q484
                    have p485 : 0 ≤ (0 : Int) := (by omega)
                    have q485 : 0 < (l1.length : Int) := of_decide_eq_true (by first | (with_reducible assumption) | assumption)
                    obtain ⟨ad485, e485, hx485_0⟩ := Kd.at_int HR1.out 0 p485 q485
                    cases e485
                    have qi485 : (0 < l1.length) = True := eq_true (by omega)
                    (try rw [show ((0 : Int)).toNat = 0 from rfl] at hx485_0)
                    (try rw [Addr.add_zero'] at hx485_0)
                    replace hx485_0 := (HB.out.cell (World.block_lt_of_cell? w _ hx485_0)).trans hx485_0
                    replace p485 := eq_true p485
                    replace q485 := eq_true q485
                    go_wp2
                    go_meet
                    case rel => exact ⟨_, (((rd l1 0) == 10)), (by first | rfl | (simp; done) | (simp [*]; done) | (simp [xbne_nil, xbeq_nil]; done)), H', ⟨by first | omega | exact Nat.le_refl _⟩, ⟨by repeat (first | (with_reducible first | exact HB.out | apply below_alloc | apply pw_below_drewN | apply below_drew1) | exact HB.out)⟩⟩
                  · rw [if_neg c14] at H
                    exact absurd H (by simp)
                · rw [if_neg c13] at H
                  have c13b0 : decide (0 < (l1.length : Int)) = false := decide_eq_false c13
                  have c13b1 : decide (0 < l1.length) = false := decide_eq_false (by omega)
                  clear c13
                  have H' := Aside0.mk H
                  clear H
                  have p484 : 0 ≤ ((ji9) : Int) := of_decide_eq_true (by first | (with_reducible assumption) | assumption)
                  have q484 : (ji9) < (l0.length : Int) := of_decide_eq_true (by first | (with_reducible assumption) | assumption)
                  obtain ⟨ad484, e484, hx484_0⟩ := Kd.at_int HR0.out (ji9) p484 q484
                  cases e484
                  replace hx484_0 := (HB.out.cell (World.block_lt_of_cell? w _ hx484_0)).trans hx484_0
                  replace p484 := eq_true p484
                  replace q484 := eq_true q484
                  go_wp2
                  go_meet
                  case rel => exact ⟨_, (false), (by first | rfl | (simp; done) | (simp [*]; done) | (simp [xbne_nil, xbeq_nil]; done)), H', ⟨by first | omega | exact Nat.le_refl _⟩, ⟨by repeat (first | (with_reducible first | exact HB.out | apply below_alloc | apply pw_below_drewN | apply below_drew1) | exact HB.out)⟩⟩
              · rw [if_neg c12] at H
                have c12b0 : ((rd l0 (ji9)) == 13) = false := beq_eq_false_iff_ne.mpr c12
                have c12b1 : ((rd l0 (ji9)) != 13) = true := bne_iff_ne.mpr c12
                have H' := Aside0.mk H
                clear H
                have p484 : 0 ≤ ((ji9) : Int) := of_decide_eq_true (by first | (with_reducible assumption) | assumption)
                have q484 : (ji9) < (l0.length : Int) := of_decide_eq_true (by first | (with_reducible assumption) | assumption)
                obtain ⟨ad484, e484, hx484_0⟩ := Kd.at_int HR0.out (ji9) p484 q484
                cases e484
                replace hx484_0 := (HB.out.cell (World.block_lt_of_cell? w _ hx484_0)).trans hx484_0
                replace p484 := eq_true p484
                replace q484 := eq_true q484
                go_wp2
                go_meet
                case rel => exact ⟨_, (false), (by first | rfl | (simp; done) | (simp [*]; done) | (simp [xbne_nil, xbeq_nil]; done)), H', ⟨by first | omega | exact Nat.le_refl _⟩, ⟨by repeat (first | (with_reducible first | exact HB.out | apply below_alloc | apply pw_below_drewN | apply below_drew1) | exact HB.out)⟩⟩
            · rw [if_neg c11] at H
              exact absurd H (by simp)
          · rw [if_neg c10] at H
            exact absurd H (by simp)
        · rw [if_neg c8] at H
          have c8b0 : decide (0 < (l0.length : Int)) = false := decide_eq_false c8
          have c8b1 : decide (0 < l0.length) = false := decide_eq_false (by omega)
          clear c8
          have H' := Aside0.mk H
          clear H
          go_wp2
          go_meet
          case rel => exact ⟨_, (false), (by first | rfl | (simp; done) | (simp [*]; done) | (simp [xbne_nil, xbeq_nil]; done)), H', ⟨by first | omega | exact Nat.le_refl _⟩, ⟨by repeat (first | (with_reducible first | exact HB.out | apply below_alloc | apply pw_below_drewN | apply below_drew1) | exact HB.out)⟩⟩
    case rest =>
      clear HC5
      try clear c1
      try clear p2
      try clear c4
      try clear p4
      try clear q4
      try clear hx4
      try clear qi4
      try clear p6
      try clear c7
      try clear c7b0
      try clear c8
      try clear c8b0
      try clear c8b1
      try clear c9
      try clear c10
      try clear c10b0
      try clear c11
      try clear c11b0
      try clear c12
      try clear c12b0
      try clear c12b1
      try clear c13
      try clear c13b0
      try clear c13b1
      try clear c14
      try clear c14b0
      try clear c14b1
      try clear hx484_0
      try clear hx485_0
      try clear p484
      try clear p485
      try clear q484
      try clear q485
      obtain ⟨kq, x43_4, rfl, HA, HJ4, HB⟩ := hcut
      cases kq with
      | zero => exact absurd HA.out (by simp [grillelaw01_TextJoins.j0])
      | succ kj4 =>
        have H := HA.out
        clear HA
        simp only [grillelaw01_TextJoins.j0] at H
        by_cases c15 : x43_4 = true
        · subst c15
          have H1 : (some true) = some r := by rw [if_pos rfl] at H; exact H
          clear H
          have H := H1
          clear H1
          obtain rfl := Option.some.inj H
          go_wp2
          go_ret
          exact ⟨by first | rfl | (simp [errW_none, errW_some] <;> rfl) | (simp [*, errW_none, errW_some] <;> rfl), by repeat (first | (with_reducible first | exact HB.out | apply below_alloc | apply pw_below_drewN | apply below_drew1) | exact HB.out)⟩
        · replace c15 := Bool.eq_false_iff.mpr c15
          subst c15
          have H1 : ((text_Clean.f l0).bind fun bt486 => ((text_Clean.f l1).bind fun bt488 => ((slices_Clone_int32_int32.f l0).bind fun t490 => (if t490.length + l1.length < 35184372088832 then ((text_Clean.f (t490 ++ l1)).bind fun bt496 => (if bt486.2 = 0 then (if bt488.2 = 0 then (if bt486.1.size + bt488.1.size ≤ 9223372036854775807 then (if bt496.1.toList = (bt486.1 ++ bt488.1).toList then (some (bt496.2 == 0)) else (some false)) else (none)) else (if bt496.2 = 7 then (some (bt496.1.toList == ([] : List UInt8))) else (some false))) else (if bt496.2 = 7 then (some (bt496.1.toList == ([] : List UInt8))) else (some false)))) else (none))))) = some r := by rw [if_neg (show ¬ (false = true) by decide)] at H; exact H
          clear H
          have H := H1
          clear H1
          replace H := Option.bind_eq_some_iff.mp H
          obtain ⟨⟨t486, t487⟩, A160, H⟩ := H
          replace H : ((text_Clean.f l1).bind fun bt488 => ((slices_Clone_int32_int32.f l0).bind fun t490 => (if t490.length + l1.length < 35184372088832 then ((text_Clean.f (t490 ++ l1)).bind fun bt496 => (if t487 = 0 then (if bt488.2 = 0 then (if t486.size + bt488.1.size ≤ 9223372036854775807 then (if bt496.1.toList = (t486 ++ bt488.1).toList then (some (bt496.2 == 0)) else (some false)) else (none)) else (if bt496.2 = 7 then (some (bt496.1.toList == ([] : List UInt8))) else (some false))) else (if bt496.2 = 7 then (some (bt496.1.toList == ([] : List UInt8))) else (some false)))) else (none)))) = some r := H
          have A16 := Aside0.mk A160
          clear A160
          replace H := Option.bind_eq_some_iff.mp H
          obtain ⟨⟨t488, t489⟩, A170, H⟩ := H
          replace H : ((slices_Clone_int32_int32.f l0).bind fun t490 => (if t490.length + l1.length < 35184372088832 then ((text_Clean.f (t490 ++ l1)).bind fun bt496 => (if t487 = 0 then (if t489 = 0 then (if t486.size + t488.size ≤ 9223372036854775807 then (if bt496.1.toList = (t486 ++ t488).toList then (some (bt496.2 == 0)) else (some false)) else (none)) else (if bt496.2 = 7 then (some (bt496.1.toList == ([] : List UInt8))) else (some false))) else (if bt496.2 = 7 then (some (bt496.1.toList == ([] : List UInt8))) else (some false)))) else (none))) = some r := H
          have A17 := Aside0.mk A170
          clear A170
          replace H := Option.bind_eq_some_iff.mp H
          obtain ⟨t490, A180, H⟩ := H
          replace H : (if t490.length + l1.length < 35184372088832 then ((text_Clean.f (t490 ++ l1)).bind fun bt496 => (if t487 = 0 then (if t489 = 0 then (if t486.size + t488.size ≤ 9223372036854775807 then (if bt496.1.toList = (t486 ++ t488).toList then (some (bt496.2 == 0)) else (some false)) else (none)) else (if bt496.2 = 7 then (some (bt496.1.toList == ([] : List UInt8))) else (some false))) else (if bt496.2 = 7 then (some (bt496.1.toList == ([] : List UInt8))) else (some false)))) else (none)) = some r := H
          have A18 := Aside0.mk A180
          clear A180
          by_cases c19 : t490.length + l1.length < 35184372088832
          · rw [if_pos c19] at H
            have LMc19 := Aside0.mk c19
            clear c19
            obtain ⟨y493, hy493⟩ : ∃ y_ : List Int, y_ = (t490 ++ l1) := ⟨_, rfl⟩
            replace H : ((text_Clean.f y493).bind fun bt496 => (if t487 = 0 then (if t489 = 0 then (if t486.size + t488.size ≤ 9223372036854775807 then (if bt496.1.toList = (t486 ++ t488).toList then (some (bt496.2 == 0)) else (some false)) else (none)) else (if bt496.2 = 7 then (some (bt496.1.toList == ([] : List UInt8))) else (some false))) else (if bt496.2 = 7 then (some (bt496.1.toList == ([] : List UInt8))) else (some false)))) = some r := by first | (rw [hy493]; with_reducible exact H) | (have H2_ := (Option.bind_some _ _).symm.trans H; rw [hy493]; with_reducible exact H2_) | (have H2_ := (Option.bind_some _ _).symm.trans H; with_reducible exact H2_) | with_reducible exact H | (rw [hy493]; exact H) | exact H
            have Ny493 := Aside0.mk hy493
            clear hy493
            replace H := Option.bind_eq_some_iff.mp H
            obtain ⟨⟨t496, t497⟩, A200, H⟩ := H
            replace H : (if t487 = 0 then (if t489 = 0 then (if t486.size + t488.size ≤ 9223372036854775807 then (if t496.toList = (t486 ++ t488).toList then (some (t497 == 0)) else (some false)) else (none)) else (if t497 = 7 then (some (t496.toList == ([] : List UInt8))) else (some false))) else (if t497 = 7 then (some (t496.toList == ([] : List UInt8))) else (some false))) = some r := H
            have A20 := Aside0.mk A200
            clear A200
            by_cases c21 : t487 = 0
            · rw [if_pos c21] at H
              have c21b0 : (t487 == 0) = true := beq_iff_eq.mpr c21
              have c21b1 : (t487 != 0) = false := bne_eq_false_iff_eq.mpr c21
              clear c21
              by_cases c22 : t489 = 0
              · rw [if_pos c22] at H
                have c22b0 : (t489 == 0) = true := beq_iff_eq.mpr c22
                have c22b1 : (t489 != 0) = false := bne_eq_false_iff_eq.mpr c22
                clear c22
                by_cases c23 : t486.size + t488.size ≤ 9223372036854775807
                · rw [if_pos c23] at H
                  have c23b0 := eq_true c23
                  have c23b1 : decide (t486.size + t488.size ≤ 9223372036854775807) = true := decide_eq_true c23
                  try have c23b2 : (9223372036854775807 < t486.size + t488.size) = False := eq_false (Nat.not_lt.2 c23)
                  by_cases c24 : t496.toList = (t486 ++ t488).toList
                  · rw [if_pos c24] at H
                    have c24b0 : (t496.toList == (t486 ++ t488).toList) = true := beq_iff_eq.mpr c24
                    have c24b1 : (t496.toList != (t486 ++ t488).toList) = false := bne_eq_false_iff_eq.mpr c24
                    clear c24
                    obtain rfl := Option.some.inj H
                    go_wp2_with (first | ((with_reducible refine gate_callee (f := 21) rfl ?_); refine goesL_ (some 46) rfl rfl Tryd.func21 (by kernel_rfl) rfl #[.slice A0 l0.length c0] rfl (by (try simp only [List.map_toArray, List.map_cons, List.map_nil]); first | done | rfl | (simp only [List.length_drop, List.length_take]; rfl)) ?_; (with_reducible refine (text_Clean.calls _ _ l0 t486 t487 _ ?side1 ?side2 A16.out).mono ?_); (case side1 => repeat (first | exact (Kd.C_below HR0.out HB.out) | (with_reducible refine Kd.C_alloc ?_ _) | (with_reducible refine Kd.C_drewN ?_ _) | (with_reducible refine Kd.C_drew ?_))); (case side2 => exact HC0.out); rintro e w25 ⟨rfl, hb⟩; refine ⟨_, rfl, ?_⟩; have n0_ := Aside0.mk (below_step (by repeat (first | (with_reducible first | exact HB.out | apply below_alloc | apply pw_below_drewN | apply below_drew1) | exact HB.out)) hb); clear HB; have HB := n0_; clear n0_; (try clear hb); (try clear hb2); (try clear hk); (try clear hi)) | ((with_reducible refine gate_callee (f := 21) rfl ?_); refine goesL_ (some 51) rfl rfl Tryd.func21 (by kernel_rfl) rfl #[.slice A1 l1.length c1] rfl (by (try simp only [List.map_toArray, List.map_cons, List.map_nil]); first | done | rfl | (simp only [List.length_drop, List.length_take]; rfl)) ?_; (with_reducible refine (text_Clean.calls _ _ l1 t488 t489 _ ?side1 ?side2 A17.out).mono ?_); (case side1 => repeat (first | exact (Kd.C_below HR1.out HB.out) | (with_reducible refine Kd.C_alloc ?_ _) | (with_reducible refine Kd.C_drewN ?_ _) | (with_reducible refine Kd.C_drew ?_))); (case side2 => exact HC1.out); rintro e w26 ⟨rfl, hb⟩; refine ⟨_, rfl, ?_⟩; have n0_ := Aside0.mk (below_step (by repeat (first | (with_reducible first | exact HB.out | apply below_alloc | apply pw_below_drewN | apply below_drew1) | exact HB.out)) hb); clear HB; have HB := n0_; clear n0_; (try clear hb); (try clear hb2); (try clear hk); (try clear hi)) | ((with_reducible refine gate_callee (f := 27) rfl ?_); refine goesL_ (some 56) rfl rfl Tryd.func27 (by kernel_rfl) rfl #[.slice A0 l0.length c0] rfl (by (try simp only [List.map_toArray, List.map_cons, List.map_nil]); first | done | rfl | (simp only [List.length_drop, List.length_take]; rfl)) ?_; (with_reducible refine (slices_Clone_int32_int32.calls _ _ l0 t490 _ ?side1 ?side2 A18.out).mono ?_); (case side1 => repeat (first | exact (Kd.C_below HR0.out HB.out) | (with_reducible refine Kd.C_alloc ?_ _) | (with_reducible refine Kd.C_drewN ?_ _) | (with_reducible refine Kd.C_drew ?_))); (case side2 => exact HC0.out); rintro e w27 ⟨v491, rfl, ho0, hb⟩; refine ⟨_, rfl, ?_⟩; have n0_ := Aside0.mk (Kd.R_lower ho0 (below_size (by repeat (first | (with_reducible first | exact HB.out | apply below_alloc | apply pw_below_drewN | apply below_drew1) | exact HB.out)))); have n1_ := Aside0.mk (below_step (by repeat (first | (with_reducible first | exact HB.out | apply below_alloc | apply pw_below_drewN | apply below_drew1) | exact HB.out)) hb); clear HB; have HO492 := n0_; have HB := n1_; clear n0_ n1_; (try clear hb); (try clear hb2); (try clear hk); (try clear hi); (try clear ho0)) | ((with_reducible refine gate_builtin (b := .append) (xs := #[.tmp 56, .tmp 57]) rfl ?_); (try (refine gate_guard (by rfl) ?_; dsimp only)); at_builtin; refine Kd.R_append_rows (Kd.int .i32) (w0 := w) w.heap.size rfl (.tmp 56) (.tmp 57) 26 21 (.int .i32 0) 4 rfl Tryd.underlying26 info21 rfl (by decide) (by omega) v491 t490 l1 _ _ _ (fun _ => True) (fun _ => False) rfl rfl ?aO ?aR (fun _ _ h => h) (fun _ h => h.elim) ?aF ?aB ?aS ?aL ?_; (case aR => repeat (first | exact (Kd.C_below HR1.out HB.out) | (with_reducible refine Kd.C_alloc ?_ _) | (with_reducible refine Kd.C_drewN ?_ _) | (with_reducible refine Kd.C_drew ?_))); (case aB => exact (by repeat (first | (with_reducible first | exact HB.out | apply below_alloc | apply pw_below_drewN | apply below_drew1) | exact HB.out))); (case aF => exact (fun _ _ => trivial)); (case aO => exact (by (with_reducible repeat (first | apply Kd.R_alloc | apply Kd.R_drewN | apply Kd.R_drew)); exact HO492.out)); (case aS => exact (below_size (by repeat (first | (with_reducible first | exact HB.out | apply below_alloc | apply pw_below_drewN | apply below_drew1) | exact HB.out)))); (case aL => have := LMc19.out; omega); intro v494 w28 ho hb hg hat; rw [← Ny493.out] at ho; have n0_ := Aside0.mk (hb); have n1_ := Aside0.mk (ho); clear HB; clear HO492; have HB := n0_; have HO495 := n1_; clear n0_ n1_; clear ho hb hg hat; obtain ⟨Ao29, co29, eo29⟩ := Kd.R_slice HO495.out; subst eo29) | ((with_reducible refine gate_callee (f := 21) rfl ?_); refine goesL_ (some 59) rfl rfl Tryd.func21 (by kernel_rfl) rfl #[.slice Ao29 y493.length co29] rfl (by (try simp only [List.map_toArray, List.map_cons, List.map_nil]); first | done | rfl | (simp only [List.length_drop, List.length_take]; rfl)) ?_; (with_reducible refine (text_Clean.calls _ _ y493 t496 t497 _ ?side1 ?side2 A20.out).mono ?_); (case side1 => repeat (first | exact (Kd.R_reads' HO495.out).2.2 | (with_reducible refine Kd.C_alloc ?_ _) | (with_reducible refine Kd.C_drewN ?_ _) | (with_reducible refine Kd.C_drew ?_))); (case side2 => exact (Kd.R_reads' HO495.out).2.1); rintro e w30 ⟨rfl, hb⟩; refine ⟨_, rfl, ?_⟩; have n0_ := Aside0.mk (Kd.R_below (by (with_reducible repeat (first | apply Kd.R_alloc | apply Kd.R_drewN | apply Kd.R_drew)); exact HO495.out) hb); have n1_ := Aside0.mk (below_step (by repeat (first | (with_reducible first | exact HB.out | apply below_alloc | apply pw_below_drewN | apply below_drew1) | exact HB.out)) hb); clear HO495; clear HB; have HO495 := n0_; have HB := n1_; clear n0_ n1_; (try clear hb); (try clear hb2); (try clear hk); (try clear hi)))
                    go_ret
                    exact ⟨by first | rfl | (simp [errW_none, errW_some] <;> rfl) | (simp [*, errW_none, errW_some] <;> rfl), by repeat (first | (with_reducible first | exact HB.out | apply below_alloc | apply pw_below_drewN | apply below_drew1) | exact HB.out)⟩
                  · rw [if_neg c24] at H
                    have c24b0 : (t496.toList == (t486 ++ t488).toList) = false := beq_eq_false_iff_ne.mpr c24
                    have c24b1 : (t496.toList != (t486 ++ t488).toList) = true := bne_iff_ne.mpr c24
                    obtain rfl := Option.some.inj H
                    go_wp2_with (first | ((with_reducible refine gate_callee (f := 21) rfl ?_); refine goesL_ (some 46) rfl rfl Tryd.func21 (by kernel_rfl) rfl #[.slice A0 l0.length c0] rfl (by (try simp only [List.map_toArray, List.map_cons, List.map_nil]); first | done | rfl | (simp only [List.length_drop, List.length_take]; rfl)) ?_; (with_reducible refine (text_Clean.calls _ _ l0 t486 t487 _ ?side1 ?side2 A16.out).mono ?_); (case side1 => repeat (first | exact (Kd.C_below HR0.out HB.out) | (with_reducible refine Kd.C_alloc ?_ _) | (with_reducible refine Kd.C_drewN ?_ _) | (with_reducible refine Kd.C_drew ?_))); (case side2 => exact HC0.out); rintro e w31 ⟨rfl, hb⟩; refine ⟨_, rfl, ?_⟩; have n0_ := Aside0.mk (below_step (by repeat (first | (with_reducible first | exact HB.out | apply below_alloc | apply pw_below_drewN | apply below_drew1) | exact HB.out)) hb); clear HB; have HB := n0_; clear n0_; (try clear hb); (try clear hb2); (try clear hk); (try clear hi)) | ((with_reducible refine gate_callee (f := 21) rfl ?_); refine goesL_ (some 51) rfl rfl Tryd.func21 (by kernel_rfl) rfl #[.slice A1 l1.length c1] rfl (by (try simp only [List.map_toArray, List.map_cons, List.map_nil]); first | done | rfl | (simp only [List.length_drop, List.length_take]; rfl)) ?_; (with_reducible refine (text_Clean.calls _ _ l1 t488 t489 _ ?side1 ?side2 A17.out).mono ?_); (case side1 => repeat (first | exact (Kd.C_below HR1.out HB.out) | (with_reducible refine Kd.C_alloc ?_ _) | (with_reducible refine Kd.C_drewN ?_ _) | (with_reducible refine Kd.C_drew ?_))); (case side2 => exact HC1.out); rintro e w32 ⟨rfl, hb⟩; refine ⟨_, rfl, ?_⟩; have n0_ := Aside0.mk (below_step (by repeat (first | (with_reducible first | exact HB.out | apply below_alloc | apply pw_below_drewN | apply below_drew1) | exact HB.out)) hb); clear HB; have HB := n0_; clear n0_; (try clear hb); (try clear hb2); (try clear hk); (try clear hi)) | ((with_reducible refine gate_callee (f := 27) rfl ?_); refine goesL_ (some 56) rfl rfl Tryd.func27 (by kernel_rfl) rfl #[.slice A0 l0.length c0] rfl (by (try simp only [List.map_toArray, List.map_cons, List.map_nil]); first | done | rfl | (simp only [List.length_drop, List.length_take]; rfl)) ?_; (with_reducible refine (slices_Clone_int32_int32.calls _ _ l0 t490 _ ?side1 ?side2 A18.out).mono ?_); (case side1 => repeat (first | exact (Kd.C_below HR0.out HB.out) | (with_reducible refine Kd.C_alloc ?_ _) | (with_reducible refine Kd.C_drewN ?_ _) | (with_reducible refine Kd.C_drew ?_))); (case side2 => exact HC0.out); rintro e w33 ⟨v491, rfl, ho0, hb⟩; refine ⟨_, rfl, ?_⟩; have n0_ := Aside0.mk (Kd.R_lower ho0 (below_size (by repeat (first | (with_reducible first | exact HB.out | apply below_alloc | apply pw_below_drewN | apply below_drew1) | exact HB.out)))); have n1_ := Aside0.mk (below_step (by repeat (first | (with_reducible first | exact HB.out | apply below_alloc | apply pw_below_drewN | apply below_drew1) | exact HB.out)) hb); clear HB; have HO492 := n0_; have HB := n1_; clear n0_ n1_; (try clear hb); (try clear hb2); (try clear hk); (try clear hi); (try clear ho0)) | ((with_reducible refine gate_builtin (b := .append) (xs := #[.tmp 56, .tmp 57]) rfl ?_); (try (refine gate_guard (by rfl) ?_; dsimp only)); at_builtin; refine Kd.R_append_rows (Kd.int .i32) (w0 := w) w.heap.size rfl (.tmp 56) (.tmp 57) 26 21 (.int .i32 0) 4 rfl Tryd.underlying26 info21 rfl (by decide) (by omega) v491 t490 l1 _ _ _ (fun _ => True) (fun _ => False) rfl rfl ?aO ?aR (fun _ _ h => h) (fun _ h => h.elim) ?aF ?aB ?aS ?aL ?_; (case aR => repeat (first | exact (Kd.C_below HR1.out HB.out) | (with_reducible refine Kd.C_alloc ?_ _) | (with_reducible refine Kd.C_drewN ?_ _) | (with_reducible refine Kd.C_drew ?_))); (case aB => exact (by repeat (first | (with_reducible first | exact HB.out | apply below_alloc | apply pw_below_drewN | apply below_drew1) | exact HB.out))); (case aF => exact (fun _ _ => trivial)); (case aO => exact (by (with_reducible repeat (first | apply Kd.R_alloc | apply Kd.R_drewN | apply Kd.R_drew)); exact HO492.out)); (case aS => exact (below_size (by repeat (first | (with_reducible first | exact HB.out | apply below_alloc | apply pw_below_drewN | apply below_drew1) | exact HB.out)))); (case aL => have := LMc19.out; omega); intro v494 w34 ho hb hg hat; rw [← Ny493.out] at ho; have n0_ := Aside0.mk (hb); have n1_ := Aside0.mk (ho); clear HB; clear HO492; have HB := n0_; have HO495 := n1_; clear n0_ n1_; clear ho hb hg hat; obtain ⟨Ao35, co35, eo35⟩ := Kd.R_slice HO495.out; subst eo35) | ((with_reducible refine gate_callee (f := 21) rfl ?_); refine goesL_ (some 59) rfl rfl Tryd.func21 (by kernel_rfl) rfl #[.slice Ao35 y493.length co35] rfl (by (try simp only [List.map_toArray, List.map_cons, List.map_nil]); first | done | rfl | (simp only [List.length_drop, List.length_take]; rfl)) ?_; (with_reducible refine (text_Clean.calls _ _ y493 t496 t497 _ ?side1 ?side2 A20.out).mono ?_); (case side1 => repeat (first | exact (Kd.R_reads' HO495.out).2.2 | (with_reducible refine Kd.C_alloc ?_ _) | (with_reducible refine Kd.C_drewN ?_ _) | (with_reducible refine Kd.C_drew ?_))); (case side2 => exact (Kd.R_reads' HO495.out).2.1); rintro e w36 ⟨rfl, hb⟩; refine ⟨_, rfl, ?_⟩; have n0_ := Aside0.mk (Kd.R_below (by (with_reducible repeat (first | apply Kd.R_alloc | apply Kd.R_drewN | apply Kd.R_drew)); exact HO495.out) hb); have n1_ := Aside0.mk (below_step (by repeat (first | (with_reducible first | exact HB.out | apply below_alloc | apply pw_below_drewN | apply below_drew1) | exact HB.out)) hb); clear HO495; clear HB; have HO495 := n0_; have HB := n1_; clear n0_ n1_; (try clear hb); (try clear hb2); (try clear hk); (try clear hi)))
                    go_ret
                    exact ⟨by first | rfl | (simp [errW_none, errW_some] <;> rfl) | (simp [*, errW_none, errW_some] <;> rfl), by repeat (first | (with_reducible first | exact HB.out | apply below_alloc | apply pw_below_drewN | apply below_drew1) | exact HB.out)⟩
                · rw [if_neg c23] at H
                  exact absurd H (by simp)
              · rw [if_neg c22] at H
                have c22b0 : (t489 == 0) = false := beq_eq_false_iff_ne.mpr c22
                have c22b1 : (t489 != 0) = true := bne_iff_ne.mpr c22
                by_cases c37 : t497 = 7
                · rw [if_pos c37] at H
                  have c37b0 : (t497 == 7) = true := beq_iff_eq.mpr c37
                  have c37b1 : (t497 != 7) = false := bne_eq_false_iff_eq.mpr c37
                  clear c37
                  obtain rfl := Option.some.inj H
                  go_wp2_with (first | ((with_reducible refine gate_callee (f := 21) rfl ?_); refine goesL_ (some 46) rfl rfl Tryd.func21 (by kernel_rfl) rfl #[.slice A0 l0.length c0] rfl (by (try simp only [List.map_toArray, List.map_cons, List.map_nil]); first | done | rfl | (simp only [List.length_drop, List.length_take]; rfl)) ?_; (with_reducible refine (text_Clean.calls _ _ l0 t486 t487 _ ?side1 ?side2 A16.out).mono ?_); (case side1 => repeat (first | exact (Kd.C_below HR0.out HB.out) | (with_reducible refine Kd.C_alloc ?_ _) | (with_reducible refine Kd.C_drewN ?_ _) | (with_reducible refine Kd.C_drew ?_))); (case side2 => exact HC0.out); rintro e w38 ⟨rfl, hb⟩; refine ⟨_, rfl, ?_⟩; have n0_ := Aside0.mk (below_step (by repeat (first | (with_reducible first | exact HB.out | apply below_alloc | apply pw_below_drewN | apply below_drew1) | exact HB.out)) hb); clear HB; have HB := n0_; clear n0_; (try clear hb); (try clear hb2); (try clear hk); (try clear hi)) | ((with_reducible refine gate_callee (f := 21) rfl ?_); refine goesL_ (some 51) rfl rfl Tryd.func21 (by kernel_rfl) rfl #[.slice A1 l1.length c1] rfl (by (try simp only [List.map_toArray, List.map_cons, List.map_nil]); first | done | rfl | (simp only [List.length_drop, List.length_take]; rfl)) ?_; (with_reducible refine (text_Clean.calls _ _ l1 t488 t489 _ ?side1 ?side2 A17.out).mono ?_); (case side1 => repeat (first | exact (Kd.C_below HR1.out HB.out) | (with_reducible refine Kd.C_alloc ?_ _) | (with_reducible refine Kd.C_drewN ?_ _) | (with_reducible refine Kd.C_drew ?_))); (case side2 => exact HC1.out); rintro e w39 ⟨rfl, hb⟩; refine ⟨_, rfl, ?_⟩; have n0_ := Aside0.mk (below_step (by repeat (first | (with_reducible first | exact HB.out | apply below_alloc | apply pw_below_drewN | apply below_drew1) | exact HB.out)) hb); clear HB; have HB := n0_; clear n0_; (try clear hb); (try clear hb2); (try clear hk); (try clear hi)) | ((with_reducible refine gate_callee (f := 27) rfl ?_); refine goesL_ (some 56) rfl rfl Tryd.func27 (by kernel_rfl) rfl #[.slice A0 l0.length c0] rfl (by (try simp only [List.map_toArray, List.map_cons, List.map_nil]); first | done | rfl | (simp only [List.length_drop, List.length_take]; rfl)) ?_; (with_reducible refine (slices_Clone_int32_int32.calls _ _ l0 t490 _ ?side1 ?side2 A18.out).mono ?_); (case side1 => repeat (first | exact (Kd.C_below HR0.out HB.out) | (with_reducible refine Kd.C_alloc ?_ _) | (with_reducible refine Kd.C_drewN ?_ _) | (with_reducible refine Kd.C_drew ?_))); (case side2 => exact HC0.out); rintro e w40 ⟨v491, rfl, ho0, hb⟩; refine ⟨_, rfl, ?_⟩; have n0_ := Aside0.mk (Kd.R_lower ho0 (below_size (by repeat (first | (with_reducible first | exact HB.out | apply below_alloc | apply pw_below_drewN | apply below_drew1) | exact HB.out)))); have n1_ := Aside0.mk (below_step (by repeat (first | (with_reducible first | exact HB.out | apply below_alloc | apply pw_below_drewN | apply below_drew1) | exact HB.out)) hb); clear HB; have HO492 := n0_; have HB := n1_; clear n0_ n1_; (try clear hb); (try clear hb2); (try clear hk); (try clear hi); (try clear ho0)) | ((with_reducible refine gate_builtin (b := .append) (xs := #[.tmp 56, .tmp 57]) rfl ?_); (try (refine gate_guard (by rfl) ?_; dsimp only)); at_builtin; refine Kd.R_append_rows (Kd.int .i32) (w0 := w) w.heap.size rfl (.tmp 56) (.tmp 57) 26 21 (.int .i32 0) 4 rfl Tryd.underlying26 info21 rfl (by decide) (by omega) v491 t490 l1 _ _ _ (fun _ => True) (fun _ => False) rfl rfl ?aO ?aR (fun _ _ h => h) (fun _ h => h.elim) ?aF ?aB ?aS ?aL ?_; (case aR => repeat (first | exact (Kd.C_below HR1.out HB.out) | (with_reducible refine Kd.C_alloc ?_ _) | (with_reducible refine Kd.C_drewN ?_ _) | (with_reducible refine Kd.C_drew ?_))); (case aB => exact (by repeat (first | (with_reducible first | exact HB.out | apply below_alloc | apply pw_below_drewN | apply below_drew1) | exact HB.out))); (case aF => exact (fun _ _ => trivial)); (case aO => exact (by (with_reducible repeat (first | apply Kd.R_alloc | apply Kd.R_drewN | apply Kd.R_drew)); exact HO492.out)); (case aS => exact (below_size (by repeat (first | (with_reducible first | exact HB.out | apply below_alloc | apply pw_below_drewN | apply below_drew1) | exact HB.out)))); (case aL => have := LMc19.out; omega); intro v494 w41 ho hb hg hat; rw [← Ny493.out] at ho; have n0_ := Aside0.mk (hb); have n1_ := Aside0.mk (ho); clear HB; clear HO492; have HB := n0_; have HO495 := n1_; clear n0_ n1_; clear ho hb hg hat; obtain ⟨Ao42, co42, eo42⟩ := Kd.R_slice HO495.out; subst eo42) | ((with_reducible refine gate_callee (f := 21) rfl ?_); refine goesL_ (some 59) rfl rfl Tryd.func21 (by kernel_rfl) rfl #[.slice Ao42 y493.length co42] rfl (by (try simp only [List.map_toArray, List.map_cons, List.map_nil]); first | done | rfl | (simp only [List.length_drop, List.length_take]; rfl)) ?_; (with_reducible refine (text_Clean.calls _ _ y493 t496 t497 _ ?side1 ?side2 A20.out).mono ?_); (case side1 => repeat (first | exact (Kd.R_reads' HO495.out).2.2 | (with_reducible refine Kd.C_alloc ?_ _) | (with_reducible refine Kd.C_drewN ?_ _) | (with_reducible refine Kd.C_drew ?_))); (case side2 => exact (Kd.R_reads' HO495.out).2.1); rintro e w43 ⟨rfl, hb⟩; refine ⟨_, rfl, ?_⟩; have n0_ := Aside0.mk (Kd.R_below (by (with_reducible repeat (first | apply Kd.R_alloc | apply Kd.R_drewN | apply Kd.R_drew)); exact HO495.out) hb); have n1_ := Aside0.mk (below_step (by repeat (first | (with_reducible first | exact HB.out | apply below_alloc | apply pw_below_drewN | apply below_drew1) | exact HB.out)) hb); clear HO495; clear HB; have HO495 := n0_; have HB := n1_; clear n0_ n1_; (try clear hb); (try clear hb2); (try clear hk); (try clear hi)))
                  go_ret
                  exact ⟨by first | rfl | (simp [errW_none, errW_some] <;> rfl) | (simp [*, errW_none, errW_some] <;> rfl), by repeat (first | (with_reducible first | exact HB.out | apply below_alloc | apply pw_below_drewN | apply below_drew1) | exact HB.out)⟩
                · rw [if_neg c37] at H
                  have c37b0 : (t497 == 7) = false := beq_eq_false_iff_ne.mpr c37
                  have c37b1 : (t497 != 7) = true := bne_iff_ne.mpr c37
                  obtain rfl := Option.some.inj H
                  go_wp2_with (first | ((with_reducible refine gate_callee (f := 21) rfl ?_); refine goesL_ (some 46) rfl rfl Tryd.func21 (by kernel_rfl) rfl #[.slice A0 l0.length c0] rfl (by (try simp only [List.map_toArray, List.map_cons, List.map_nil]); first | done | rfl | (simp only [List.length_drop, List.length_take]; rfl)) ?_; (with_reducible refine (text_Clean.calls _ _ l0 t486 t487 _ ?side1 ?side2 A16.out).mono ?_); (case side1 => repeat (first | exact (Kd.C_below HR0.out HB.out) | (with_reducible refine Kd.C_alloc ?_ _) | (with_reducible refine Kd.C_drewN ?_ _) | (with_reducible refine Kd.C_drew ?_))); (case side2 => exact HC0.out); rintro e w44 ⟨rfl, hb⟩; refine ⟨_, rfl, ?_⟩; have n0_ := Aside0.mk (below_step (by repeat (first | (with_reducible first | exact HB.out | apply below_alloc | apply pw_below_drewN | apply below_drew1) | exact HB.out)) hb); clear HB; have HB := n0_; clear n0_; (try clear hb); (try clear hb2); (try clear hk); (try clear hi)) | ((with_reducible refine gate_callee (f := 21) rfl ?_); refine goesL_ (some 51) rfl rfl Tryd.func21 (by kernel_rfl) rfl #[.slice A1 l1.length c1] rfl (by (try simp only [List.map_toArray, List.map_cons, List.map_nil]); first | done | rfl | (simp only [List.length_drop, List.length_take]; rfl)) ?_; (with_reducible refine (text_Clean.calls _ _ l1 t488 t489 _ ?side1 ?side2 A17.out).mono ?_); (case side1 => repeat (first | exact (Kd.C_below HR1.out HB.out) | (with_reducible refine Kd.C_alloc ?_ _) | (with_reducible refine Kd.C_drewN ?_ _) | (with_reducible refine Kd.C_drew ?_))); (case side2 => exact HC1.out); rintro e w45 ⟨rfl, hb⟩; refine ⟨_, rfl, ?_⟩; have n0_ := Aside0.mk (below_step (by repeat (first | (with_reducible first | exact HB.out | apply below_alloc | apply pw_below_drewN | apply below_drew1) | exact HB.out)) hb); clear HB; have HB := n0_; clear n0_; (try clear hb); (try clear hb2); (try clear hk); (try clear hi)) | ((with_reducible refine gate_callee (f := 27) rfl ?_); refine goesL_ (some 56) rfl rfl Tryd.func27 (by kernel_rfl) rfl #[.slice A0 l0.length c0] rfl (by (try simp only [List.map_toArray, List.map_cons, List.map_nil]); first | done | rfl | (simp only [List.length_drop, List.length_take]; rfl)) ?_; (with_reducible refine (slices_Clone_int32_int32.calls _ _ l0 t490 _ ?side1 ?side2 A18.out).mono ?_); (case side1 => repeat (first | exact (Kd.C_below HR0.out HB.out) | (with_reducible refine Kd.C_alloc ?_ _) | (with_reducible refine Kd.C_drewN ?_ _) | (with_reducible refine Kd.C_drew ?_))); (case side2 => exact HC0.out); rintro e w46 ⟨v491, rfl, ho0, hb⟩; refine ⟨_, rfl, ?_⟩; have n0_ := Aside0.mk (Kd.R_lower ho0 (below_size (by repeat (first | (with_reducible first | exact HB.out | apply below_alloc | apply pw_below_drewN | apply below_drew1) | exact HB.out)))); have n1_ := Aside0.mk (below_step (by repeat (first | (with_reducible first | exact HB.out | apply below_alloc | apply pw_below_drewN | apply below_drew1) | exact HB.out)) hb); clear HB; have HO492 := n0_; have HB := n1_; clear n0_ n1_; (try clear hb); (try clear hb2); (try clear hk); (try clear hi); (try clear ho0)) | ((with_reducible refine gate_builtin (b := .append) (xs := #[.tmp 56, .tmp 57]) rfl ?_); (try (refine gate_guard (by rfl) ?_; dsimp only)); at_builtin; refine Kd.R_append_rows (Kd.int .i32) (w0 := w) w.heap.size rfl (.tmp 56) (.tmp 57) 26 21 (.int .i32 0) 4 rfl Tryd.underlying26 info21 rfl (by decide) (by omega) v491 t490 l1 _ _ _ (fun _ => True) (fun _ => False) rfl rfl ?aO ?aR (fun _ _ h => h) (fun _ h => h.elim) ?aF ?aB ?aS ?aL ?_; (case aR => repeat (first | exact (Kd.C_below HR1.out HB.out) | (with_reducible refine Kd.C_alloc ?_ _) | (with_reducible refine Kd.C_drewN ?_ _) | (with_reducible refine Kd.C_drew ?_))); (case aB => exact (by repeat (first | (with_reducible first | exact HB.out | apply below_alloc | apply pw_below_drewN | apply below_drew1) | exact HB.out))); (case aF => exact (fun _ _ => trivial)); (case aO => exact (by (with_reducible repeat (first | apply Kd.R_alloc | apply Kd.R_drewN | apply Kd.R_drew)); exact HO492.out)); (case aS => exact (below_size (by repeat (first | (with_reducible first | exact HB.out | apply below_alloc | apply pw_below_drewN | apply below_drew1) | exact HB.out)))); (case aL => have := LMc19.out; omega); intro v494 w47 ho hb hg hat; rw [← Ny493.out] at ho; have n0_ := Aside0.mk (hb); have n1_ := Aside0.mk (ho); clear HB; clear HO492; have HB := n0_; have HO495 := n1_; clear n0_ n1_; clear ho hb hg hat; obtain ⟨Ao48, co48, eo48⟩ := Kd.R_slice HO495.out; subst eo48) | ((with_reducible refine gate_callee (f := 21) rfl ?_); refine goesL_ (some 59) rfl rfl Tryd.func21 (by kernel_rfl) rfl #[.slice Ao48 y493.length co48] rfl (by (try simp only [List.map_toArray, List.map_cons, List.map_nil]); first | done | rfl | (simp only [List.length_drop, List.length_take]; rfl)) ?_; (with_reducible refine (text_Clean.calls _ _ y493 t496 t497 _ ?side1 ?side2 A20.out).mono ?_); (case side1 => repeat (first | exact (Kd.R_reads' HO495.out).2.2 | (with_reducible refine Kd.C_alloc ?_ _) | (with_reducible refine Kd.C_drewN ?_ _) | (with_reducible refine Kd.C_drew ?_))); (case side2 => exact (Kd.R_reads' HO495.out).2.1); rintro e w49 ⟨rfl, hb⟩; refine ⟨_, rfl, ?_⟩; have n0_ := Aside0.mk (Kd.R_below (by (with_reducible repeat (first | apply Kd.R_alloc | apply Kd.R_drewN | apply Kd.R_drew)); exact HO495.out) hb); have n1_ := Aside0.mk (below_step (by repeat (first | (with_reducible first | exact HB.out | apply below_alloc | apply pw_below_drewN | apply below_drew1) | exact HB.out)) hb); clear HO495; clear HB; have HO495 := n0_; have HB := n1_; clear n0_ n1_; (try clear hb); (try clear hb2); (try clear hk); (try clear hi)))
                  go_ret
                  exact ⟨by first | rfl | (simp [errW_none, errW_some] <;> rfl) | (simp [*, errW_none, errW_some] <;> rfl), by repeat (first | (with_reducible first | exact HB.out | apply below_alloc | apply pw_below_drewN | apply below_drew1) | exact HB.out)⟩
            · rw [if_neg c21] at H
              have c21b0 : (t487 == 0) = false := beq_eq_false_iff_ne.mpr c21
              have c21b1 : (t487 != 0) = true := bne_iff_ne.mpr c21
              by_cases c50 : t497 = 7
              · rw [if_pos c50] at H
                have c50b0 : (t497 == 7) = true := beq_iff_eq.mpr c50
                have c50b1 : (t497 != 7) = false := bne_eq_false_iff_eq.mpr c50
                clear c50
                obtain rfl := Option.some.inj H
                go_wp2_with (first | ((with_reducible refine gate_callee (f := 21) rfl ?_); refine goesL_ (some 46) rfl rfl Tryd.func21 (by kernel_rfl) rfl #[.slice A0 l0.length c0] rfl (by (try simp only [List.map_toArray, List.map_cons, List.map_nil]); first | done | rfl | (simp only [List.length_drop, List.length_take]; rfl)) ?_; (with_reducible refine (text_Clean.calls _ _ l0 t486 t487 _ ?side1 ?side2 A16.out).mono ?_); (case side1 => repeat (first | exact (Kd.C_below HR0.out HB.out) | (with_reducible refine Kd.C_alloc ?_ _) | (with_reducible refine Kd.C_drewN ?_ _) | (with_reducible refine Kd.C_drew ?_))); (case side2 => exact HC0.out); rintro e w51 ⟨rfl, hb⟩; refine ⟨_, rfl, ?_⟩; have n0_ := Aside0.mk (below_step (by repeat (first | (with_reducible first | exact HB.out | apply below_alloc | apply pw_below_drewN | apply below_drew1) | exact HB.out)) hb); clear HB; have HB := n0_; clear n0_; (try clear hb); (try clear hb2); (try clear hk); (try clear hi)) | ((with_reducible refine gate_callee (f := 21) rfl ?_); refine goesL_ (some 51) rfl rfl Tryd.func21 (by kernel_rfl) rfl #[.slice A1 l1.length c1] rfl (by (try simp only [List.map_toArray, List.map_cons, List.map_nil]); first | done | rfl | (simp only [List.length_drop, List.length_take]; rfl)) ?_; (with_reducible refine (text_Clean.calls _ _ l1 t488 t489 _ ?side1 ?side2 A17.out).mono ?_); (case side1 => repeat (first | exact (Kd.C_below HR1.out HB.out) | (with_reducible refine Kd.C_alloc ?_ _) | (with_reducible refine Kd.C_drewN ?_ _) | (with_reducible refine Kd.C_drew ?_))); (case side2 => exact HC1.out); rintro e w52 ⟨rfl, hb⟩; refine ⟨_, rfl, ?_⟩; have n0_ := Aside0.mk (below_step (by repeat (first | (with_reducible first | exact HB.out | apply below_alloc | apply pw_below_drewN | apply below_drew1) | exact HB.out)) hb); clear HB; have HB := n0_; clear n0_; (try clear hb); (try clear hb2); (try clear hk); (try clear hi)) | ((with_reducible refine gate_callee (f := 27) rfl ?_); refine goesL_ (some 56) rfl rfl Tryd.func27 (by kernel_rfl) rfl #[.slice A0 l0.length c0] rfl (by (try simp only [List.map_toArray, List.map_cons, List.map_nil]); first | done | rfl | (simp only [List.length_drop, List.length_take]; rfl)) ?_; (with_reducible refine (slices_Clone_int32_int32.calls _ _ l0 t490 _ ?side1 ?side2 A18.out).mono ?_); (case side1 => repeat (first | exact (Kd.C_below HR0.out HB.out) | (with_reducible refine Kd.C_alloc ?_ _) | (with_reducible refine Kd.C_drewN ?_ _) | (with_reducible refine Kd.C_drew ?_))); (case side2 => exact HC0.out); rintro e w53 ⟨v491, rfl, ho0, hb⟩; refine ⟨_, rfl, ?_⟩; have n0_ := Aside0.mk (Kd.R_lower ho0 (below_size (by repeat (first | (with_reducible first | exact HB.out | apply below_alloc | apply pw_below_drewN | apply below_drew1) | exact HB.out)))); have n1_ := Aside0.mk (below_step (by repeat (first | (with_reducible first | exact HB.out | apply below_alloc | apply pw_below_drewN | apply below_drew1) | exact HB.out)) hb); clear HB; have HO492 := n0_; have HB := n1_; clear n0_ n1_; (try clear hb); (try clear hb2); (try clear hk); (try clear hi); (try clear ho0)) | ((with_reducible refine gate_builtin (b := .append) (xs := #[.tmp 56, .tmp 57]) rfl ?_); (try (refine gate_guard (by rfl) ?_; dsimp only)); at_builtin; refine Kd.R_append_rows (Kd.int .i32) (w0 := w) w.heap.size rfl (.tmp 56) (.tmp 57) 26 21 (.int .i32 0) 4 rfl Tryd.underlying26 info21 rfl (by decide) (by omega) v491 t490 l1 _ _ _ (fun _ => True) (fun _ => False) rfl rfl ?aO ?aR (fun _ _ h => h) (fun _ h => h.elim) ?aF ?aB ?aS ?aL ?_; (case aR => repeat (first | exact (Kd.C_below HR1.out HB.out) | (with_reducible refine Kd.C_alloc ?_ _) | (with_reducible refine Kd.C_drewN ?_ _) | (with_reducible refine Kd.C_drew ?_))); (case aB => exact (by repeat (first | (with_reducible first | exact HB.out | apply below_alloc | apply pw_below_drewN | apply below_drew1) | exact HB.out))); (case aF => exact (fun _ _ => trivial)); (case aO => exact (by (with_reducible repeat (first | apply Kd.R_alloc | apply Kd.R_drewN | apply Kd.R_drew)); exact HO492.out)); (case aS => exact (below_size (by repeat (first | (with_reducible first | exact HB.out | apply below_alloc | apply pw_below_drewN | apply below_drew1) | exact HB.out)))); (case aL => have := LMc19.out; omega); intro v494 w54 ho hb hg hat; rw [← Ny493.out] at ho; have n0_ := Aside0.mk (hb); have n1_ := Aside0.mk (ho); clear HB; clear HO492; have HB := n0_; have HO495 := n1_; clear n0_ n1_; clear ho hb hg hat; obtain ⟨Ao55, co55, eo55⟩ := Kd.R_slice HO495.out; subst eo55) | ((with_reducible refine gate_callee (f := 21) rfl ?_); refine goesL_ (some 59) rfl rfl Tryd.func21 (by kernel_rfl) rfl #[.slice Ao55 y493.length co55] rfl (by (try simp only [List.map_toArray, List.map_cons, List.map_nil]); first | done | rfl | (simp only [List.length_drop, List.length_take]; rfl)) ?_; (with_reducible refine (text_Clean.calls _ _ y493 t496 t497 _ ?side1 ?side2 A20.out).mono ?_); (case side1 => repeat (first | exact (Kd.R_reads' HO495.out).2.2 | (with_reducible refine Kd.C_alloc ?_ _) | (with_reducible refine Kd.C_drewN ?_ _) | (with_reducible refine Kd.C_drew ?_))); (case side2 => exact (Kd.R_reads' HO495.out).2.1); rintro e w56 ⟨rfl, hb⟩; refine ⟨_, rfl, ?_⟩; have n0_ := Aside0.mk (Kd.R_below (by (with_reducible repeat (first | apply Kd.R_alloc | apply Kd.R_drewN | apply Kd.R_drew)); exact HO495.out) hb); have n1_ := Aside0.mk (below_step (by repeat (first | (with_reducible first | exact HB.out | apply below_alloc | apply pw_below_drewN | apply below_drew1) | exact HB.out)) hb); clear HO495; clear HB; have HO495 := n0_; have HB := n1_; clear n0_ n1_; (try clear hb); (try clear hb2); (try clear hk); (try clear hi)))
                go_ret
                exact ⟨by first | rfl | (simp [errW_none, errW_some] <;> rfl) | (simp [*, errW_none, errW_some] <;> rfl), by repeat (first | (with_reducible first | exact HB.out | apply below_alloc | apply pw_below_drewN | apply below_drew1) | exact HB.out)⟩
              · rw [if_neg c50] at H
                have c50b0 : (t497 == 7) = false := beq_eq_false_iff_ne.mpr c50
                have c50b1 : (t497 != 7) = true := bne_iff_ne.mpr c50
                obtain rfl := Option.some.inj H
                go_wp2_with (first | ((with_reducible refine gate_callee (f := 21) rfl ?_); refine goesL_ (some 46) rfl rfl Tryd.func21 (by kernel_rfl) rfl #[.slice A0 l0.length c0] rfl (by (try simp only [List.map_toArray, List.map_cons, List.map_nil]); first | done | rfl | (simp only [List.length_drop, List.length_take]; rfl)) ?_; (with_reducible refine (text_Clean.calls _ _ l0 t486 t487 _ ?side1 ?side2 A16.out).mono ?_); (case side1 => repeat (first | exact (Kd.C_below HR0.out HB.out) | (with_reducible refine Kd.C_alloc ?_ _) | (with_reducible refine Kd.C_drewN ?_ _) | (with_reducible refine Kd.C_drew ?_))); (case side2 => exact HC0.out); rintro e w57 ⟨rfl, hb⟩; refine ⟨_, rfl, ?_⟩; have n0_ := Aside0.mk (below_step (by repeat (first | (with_reducible first | exact HB.out | apply below_alloc | apply pw_below_drewN | apply below_drew1) | exact HB.out)) hb); clear HB; have HB := n0_; clear n0_; (try clear hb); (try clear hb2); (try clear hk); (try clear hi)) | ((with_reducible refine gate_callee (f := 21) rfl ?_); refine goesL_ (some 51) rfl rfl Tryd.func21 (by kernel_rfl) rfl #[.slice A1 l1.length c1] rfl (by (try simp only [List.map_toArray, List.map_cons, List.map_nil]); first | done | rfl | (simp only [List.length_drop, List.length_take]; rfl)) ?_; (with_reducible refine (text_Clean.calls _ _ l1 t488 t489 _ ?side1 ?side2 A17.out).mono ?_); (case side1 => repeat (first | exact (Kd.C_below HR1.out HB.out) | (with_reducible refine Kd.C_alloc ?_ _) | (with_reducible refine Kd.C_drewN ?_ _) | (with_reducible refine Kd.C_drew ?_))); (case side2 => exact HC1.out); rintro e w58 ⟨rfl, hb⟩; refine ⟨_, rfl, ?_⟩; have n0_ := Aside0.mk (below_step (by repeat (first | (with_reducible first | exact HB.out | apply below_alloc | apply pw_below_drewN | apply below_drew1) | exact HB.out)) hb); clear HB; have HB := n0_; clear n0_; (try clear hb); (try clear hb2); (try clear hk); (try clear hi)) | ((with_reducible refine gate_callee (f := 27) rfl ?_); refine goesL_ (some 56) rfl rfl Tryd.func27 (by kernel_rfl) rfl #[.slice A0 l0.length c0] rfl (by (try simp only [List.map_toArray, List.map_cons, List.map_nil]); first | done | rfl | (simp only [List.length_drop, List.length_take]; rfl)) ?_; (with_reducible refine (slices_Clone_int32_int32.calls _ _ l0 t490 _ ?side1 ?side2 A18.out).mono ?_); (case side1 => repeat (first | exact (Kd.C_below HR0.out HB.out) | (with_reducible refine Kd.C_alloc ?_ _) | (with_reducible refine Kd.C_drewN ?_ _) | (with_reducible refine Kd.C_drew ?_))); (case side2 => exact HC0.out); rintro e w59 ⟨v491, rfl, ho0, hb⟩; refine ⟨_, rfl, ?_⟩; have n0_ := Aside0.mk (Kd.R_lower ho0 (below_size (by repeat (first | (with_reducible first | exact HB.out | apply below_alloc | apply pw_below_drewN | apply below_drew1) | exact HB.out)))); have n1_ := Aside0.mk (below_step (by repeat (first | (with_reducible first | exact HB.out | apply below_alloc | apply pw_below_drewN | apply below_drew1) | exact HB.out)) hb); clear HB; have HO492 := n0_; have HB := n1_; clear n0_ n1_; (try clear hb); (try clear hb2); (try clear hk); (try clear hi); (try clear ho0)) | ((with_reducible refine gate_builtin (b := .append) (xs := #[.tmp 56, .tmp 57]) rfl ?_); (try (refine gate_guard (by rfl) ?_; dsimp only)); at_builtin; refine Kd.R_append_rows (Kd.int .i32) (w0 := w) w.heap.size rfl (.tmp 56) (.tmp 57) 26 21 (.int .i32 0) 4 rfl Tryd.underlying26 info21 rfl (by decide) (by omega) v491 t490 l1 _ _ _ (fun _ => True) (fun _ => False) rfl rfl ?aO ?aR (fun _ _ h => h) (fun _ h => h.elim) ?aF ?aB ?aS ?aL ?_; (case aR => repeat (first | exact (Kd.C_below HR1.out HB.out) | (with_reducible refine Kd.C_alloc ?_ _) | (with_reducible refine Kd.C_drewN ?_ _) | (with_reducible refine Kd.C_drew ?_))); (case aB => exact (by repeat (first | (with_reducible first | exact HB.out | apply below_alloc | apply pw_below_drewN | apply below_drew1) | exact HB.out))); (case aF => exact (fun _ _ => trivial)); (case aO => exact (by (with_reducible repeat (first | apply Kd.R_alloc | apply Kd.R_drewN | apply Kd.R_drew)); exact HO492.out)); (case aS => exact (below_size (by repeat (first | (with_reducible first | exact HB.out | apply below_alloc | apply pw_below_drewN | apply below_drew1) | exact HB.out)))); (case aL => have := LMc19.out; omega); intro v494 w60 ho hb hg hat; rw [← Ny493.out] at ho; have n0_ := Aside0.mk (hb); have n1_ := Aside0.mk (ho); clear HB; clear HO492; have HB := n0_; have HO495 := n1_; clear n0_ n1_; clear ho hb hg hat; obtain ⟨Ao61, co61, eo61⟩ := Kd.R_slice HO495.out; subst eo61) | ((with_reducible refine gate_callee (f := 21) rfl ?_); refine goesL_ (some 59) rfl rfl Tryd.func21 (by kernel_rfl) rfl #[.slice Ao61 y493.length co61] rfl (by (try simp only [List.map_toArray, List.map_cons, List.map_nil]); first | done | rfl | (simp only [List.length_drop, List.length_take]; rfl)) ?_; (with_reducible refine (text_Clean.calls _ _ y493 t496 t497 _ ?side1 ?side2 A20.out).mono ?_); (case side1 => repeat (first | exact (Kd.R_reads' HO495.out).2.2 | (with_reducible refine Kd.C_alloc ?_ _) | (with_reducible refine Kd.C_drewN ?_ _) | (with_reducible refine Kd.C_drew ?_))); (case side2 => exact (Kd.R_reads' HO495.out).2.1); rintro e w62 ⟨rfl, hb⟩; refine ⟨_, rfl, ?_⟩; have n0_ := Aside0.mk (Kd.R_below (by (with_reducible repeat (first | apply Kd.R_alloc | apply Kd.R_drewN | apply Kd.R_drew)); exact HO495.out) hb); have n1_ := Aside0.mk (below_step (by repeat (first | (with_reducible first | exact HB.out | apply below_alloc | apply pw_below_drewN | apply below_drew1) | exact HB.out)) hb); clear HO495; clear HB; have HO495 := n0_; have HB := n1_; clear n0_ n1_; (try clear hb); (try clear hb2); (try clear hk); (try clear hi)))
                go_ret
                exact ⟨by first | rfl | (simp [errW_none, errW_some] <;> rfl) | (simp [*, errW_none, errW_some] <;> rfl), by repeat (first | (with_reducible first | exact HB.out | apply below_alloc | apply pw_below_drewN | apply below_drew1) | exact HB.out)⟩
          · rw [if_neg c19] at H
            exact absurd H (by simp)
  · replace c4 := Bool.eq_false_iff.mpr c4
    subst c4
    have H1 : (some false) = some r := by rw [if_neg (show ¬ (false = true) by decide)] at H; exact H
    clear H
    have H := H1
    clear H1
    obtain rfl := Option.some.inj H
    go_enter Tryd.func9, Tryd.ntmps9
    go_wp2_with (first | ((with_reducible refine gate_callee (f := 10) rfl ?_); refine goesL_ (some 11) rfl rfl Tryd.func10 (by kernel_rfl) rfl #[] rfl (by (try simp only [List.map_toArray, List.map_cons, List.map_nil]); first | done | rfl | (simp only [List.length_drop, List.length_take]; rfl)) ?_; (with_reducible refine (grillelaw01_alive.calls  false _ ?side1 A3.out).mono ?_); (case side1 => exact Tabs.Holds.below HT.out (by repeat (first | (with_reducible first | exact HB.out | apply below_alloc | apply pw_below_drewN | apply below_drew1) | exact HB.out))); rintro e w63 ⟨rfl, hb⟩; refine ⟨_, rfl, ?_⟩; have n0_ := Aside0.mk (below_step (by repeat (first | (with_reducible first | exact HB.out | apply below_alloc | apply pw_below_drewN | apply below_drew1) | exact HB.out)) hb); clear HB; have HB := n0_; clear n0_; (try clear hb); (try clear hb2); (try clear hk); (try clear hi)))
    go_ret
    exact ⟨by first | rfl | (simp [errW_none, errW_some] <;> rfl) | (simp [*, errW_none, errW_some] <;> rfl), by repeat (first | (with_reducible first | exact HB.out | apply below_alloc | apply pw_below_drewN | apply below_drew1) | exact HB.out)⟩
def grillelaw01_TextJoins.Pure : Prop := ∀ (l0 : List Int) (l1 : List Int), l0.length ≤ maxLen → l0.length * 4 ≤ 140737488351232 → (∀ x ∈ l0, (Lit.int .i32 x).wf = true) → l1.length ≤ maxLen → l1.length * 4 ≤ 140737488351232 → (∀ x ∈ l1, (Lit.int .i32 x).wf = true) → ∃ k, grillelaw01_TextJoins.f k l0 l1 = some true
theorem grillelaw01_TextJoins.walk (P : grillelaw01_TextJoins.Pure) (a0 : Option Addr) (len0 cap0 : Nat) (z0 : List Int) (a1 : Option Addr) (len1 cap1 : Nat) (z1 : List Int) (w : World) (w0 : (a0 = none ∧ len0 = 0 ∧ cap0 = 0 ∧ z0 = []) ∨ ∃ x, a0 = some x ∧ len0 ≤ cap0 ∧ cap0 ≤ maxLen ∧ z0.length = cap0 ∧ (∀ i, i < z0.length → w.cell? (x.add i) = some (.int .i32 (z0.getD i 0))) ∧ ∀ n ∈ z0, (Lit.int .i32 n).wf = true) (y0 : len0 * 4 ≤ 140737488351232) (w1 : (a1 = none ∧ len1 = 0 ∧ cap1 = 0 ∧ z1 = []) ∨ ∃ x, a1 = some x ∧ len1 ≤ cap1 ∧ cap1 ≤ maxLen ∧ z1.length = cap1 ∧ (∀ i, i < z1.length → w.cell? (x.add i) = some (.int .i32 (z1.getD i 0))) ∧ ∀ n ∈ z1, (Lit.int .i32 n).wf = true) (y1 : len1 * 4 ≤ 140737488351232) (hT : Tabs.Holds w) :
    Calls Tryd.prog 9 #[.slice a0 len0 cap0, .slice a1 len1 cap1] w fun e w' => e = .returned (.bool true) ∧ Below w.heap.size w w' := by
  obtain ⟨l0, rfl, hr0, hm0, hw0, hc0⟩ := ReadsInt.ofRowC w0
  obtain ⟨l1, rfl, hr1, hm1, hw1, hc1⟩ := ReadsInt.ofRowC w1
  obtain ⟨k, h⟩ := P l0 l1 hm0 y0 hw0 hm1 y1 hw1
  refine (grillelaw01_TextJoins.calls k _ _ l0 _ _ l1 true w (Kd.C_of_reads (d := (0 : Int)) (h1 := fun _ => rfl) hr0) hc0 (Kd.C_of_reads (d := (0 : Int)) (h1 := fun _ => rfl) hr1) hc1 hT h).mono ?_
  rintro e w' ⟨rfl, hd⟩
  exact ⟨rfl, hd⟩
end Go.Proofs.YtdbkefgdeenjoaaDoor.X
end
section
namespace Go.Proofs.YtdbkefgdeenjoaaDoor.Plain
set_option linter.unusedVariables false
set_option linter.unusedSimpArgs false
variable {α β : Type}
def Ev (g : Nat → Option α) (v : α) : Prop := ∃ K, ∀ k, K ≤ k → g k = some v
theorem Ev.ex {g : Nat → Option α} {v : α} (h : Ev g v) : ∃ k, g k = some v := let ⟨K, hk⟩ := h; ⟨K, hk K (Nat.le_refl _)⟩
theorem Ev.all {g : Nat → Option α} {v : α} (h : ∀ k, g k = some v) : Ev g v := ⟨0, fun k _ => h k⟩
theorem Ev.val (v : α) : Ev (fun _ => some v) v := ⟨0, fun _ _ => rfl⟩
theorem Ev.congr {f g : Nat → Option α} {v : α} (h : Ev g v) (e : ∀ k, f k = g k) : Ev f v := let ⟨K, hk⟩ := h; ⟨K, fun k hK => (e k).trans (hk k hK)⟩
theorem Ev.one {c : Option α} {v : α} (h : c = some v) : Ev (fun _ => c) v := ⟨0, fun _ _ => h⟩
theorem Ev.succ {g : Nat → Option α} {v : α} (h : Ev (fun k => g (k + 1)) v) : Ev g v := by
  obtain ⟨K, hk⟩ := h
  refine ⟨K + 1, fun k hK => ?_⟩
  obtain ⟨m, rfl⟩ : ∃ m, k = m + 1 := ⟨k - 1, by omega⟩
  exact hk m (by omega)
theorem Ev.bind {f : Nat → Option α} {g : Nat → α → Option β} {a : α} {b : β} (hf : Ev f a) (hg : Ev (fun k => g k a) b) : Ev (fun k => (f k).bind (g k)) b := by
  obtain ⟨K, hk⟩ := hf
  obtain ⟨L, hl⟩ := hg
  refine ⟨max K L, fun k h => ?_⟩
  show (f k).bind (g k) = _
  rw [hk k (by omega)]
  exact hl k (by omega)
theorem Ev.pos {c : Prop} [Decidable c] {f g : Nat → Option α} {v : α} (hc : c) (h : Ev f v) : Ev (fun k => if c then f k else g k) v := h.congr (fun k => if_pos hc)
theorem Ev.neg {c : Prop} [Decidable c] {f g : Nat → Option α} {v : α} (hc : ¬ c) (h : Ev g v) : Ev (fun k => if c then f k else g k) v := h.congr (fun k => if_neg hc)
end Go.Proofs.YtdbkefgdeenjoaaDoor.Plain
end
section
namespace Go.Proofs.YtdbkefgdeenjoaaDoor.Plain
set_option linter.unusedVariables false
set_option linter.unusedSimpArgs false
open Go.RowKit Go.Proofs.YtdbkefgdeenjoaaDoor.X Go.Proofs.YtdbkefgdeenjoaaDoorW.PrintWords Go.Proofs.YtdbkefgdeenjoaaDoorW.PrintLast Go.Proofs.YtdbkefgdeenjoaaDoorW.PrintMore
def u2 (r : Int) (big : Bool) : List Int := if big then [r / 256 % 256, r % 256] else [r % 256, r / 256 % 256]
def u4 (r : Int) (big : Bool) : List Int := if big then [r / 16777216 % 256, r / 65536 % 256, r / 256 % 256, r % 256] else [r % 256, r / 256 % 256, r / 65536 % 256, r / 16777216 % 256]
def enc1 (size : Int) (big : Bool) (r : Int) : List Int :=
  if size = 1 then Lib.encodeRuneZ r else if size = 2 then (if 65536 ≤ r then u2 (55296 + (r - 65536) / 1024) big ++ u2 (56320 + (r - 65536) % 1024) big else u2 r big) else u4 r big
theorem w64 (n : Int) (h0 : -9223372036854775808 ≤ n) (h1 : n ≤ 9223372036854775807) : wrap64 n = n := by unfold wrap64; omega
def ok (r : Int) : Prop := 0 ≤ r ∧ r ≤ 1114111 ∧ ¬ (55296 ≤ r ∧ r ≤ 57343)
instance (r : Int) : Decidable (ok r) := by unfold ok; infer_instance
theorem valid_eq (r : Int) : utf8_ValidRune.f r = some (decide (ok r)) := by
  unfold utf8_ValidRune.f ok
  repeat' split
  all_goals (simp only [Option.some.injEq]; symm; simp; omega)
def sizeOf (code : Int) : Int := if code = 2 ∨ code = 1 then 2 else if code = 4 ∨ code = 3 then 4 else 1
def bigOf (code : Int) : Bool := decide (code = 2 ∨ code = 4)
end Go.Proofs.YtdbkefgdeenjoaaDoor.Plain
end
section
namespace Go.Proofs.YtdbkefgdeenjoaaDoor.Plain
set_option linter.unusedVariables false
set_option linter.unusedSimpArgs false
open Go.RowKit Go.Proofs.YtdbkefgdeenjoaaDoor.X Go.Proofs.YtdbkefgdeenjoaaDoorW.PrintWords Go.Proofs.YtdbkefgdeenjoaaDoorW.PrintLast Go.Proofs.YtdbkefgdeenjoaaDoorW.PrintMore
def pre : List Int → List Int → Bool
  | [], _ => true
  | _ :: _, [] => false
  | x :: r, y :: b => y == x && pre r b
theorem rd_nat (l : List Int) (i : Nat) (h : i < l.length) : rd l (i : Int) = l[i] := by
  unfold rd
  rw [List.getD_eq_getElem?_getD, show ((i : Int)).toNat = i from by omega, List.getElem?_eq_getElem h]
  rfl
end Go.Proofs.YtdbkefgdeenjoaaDoor.Plain
end
section
namespace Go.Proofs.YtdbkefgdeenjoaaDoor.Plain
set_option linter.unusedVariables false
set_option linter.unusedSimpArgs false
open Go.RowKit Go.Proofs.YtdbkefgdeenjoaaDoor.X Go.Proofs.YtdbkefgdeenjoaaDoorW.PrintWords Go.Proofs.YtdbkefgdeenjoaaDoorW.PrintLast Go.Proofs.YtdbkefgdeenjoaaDoorW.PrintMore
def body (code : Int) (l : List Int) : List Int := l.flatMap (enc1 (sizeOf code) (bigOf code))
end Go.Proofs.YtdbkefgdeenjoaaDoor.Plain
end
section
namespace Go.Proofs.YtdbkefgdeenjoaaDoor.Plain
set_option linter.unusedVariables false
set_option linter.unusedSimpArgs false
open Go.RowKit Go.Proofs.YtdbkefgdeenjoaaDoor.X Go.Proofs.YtdbkefgdeenjoaaDoorW.PrintWords Go.Proofs.YtdbkefgdeenjoaaDoorW.PrintLast Go.Proofs.YtdbkefgdeenjoaaDoorW.PrintMore
def I32 (l : List Int) : Prop := ∀ x ∈ l, -2147483648 ≤ x ∧ x ≤ 2147483647
def may (r : Int) : Bool := decide (r = 9 ∨ r = 10 ∨ r = 13 ∨ r = 133 ∨ (32 ≤ r ∧ r < 127) ∨ (160 ≤ r ∧ ok r ∧ r ≠ 65279 ∧ r ≠ 65534 ∧ r ≠ 65535))
theorem may_eq (r : Int) : text_May.f r = some (may r) := by
  unfold text_May.f may
  rw [valid_eq]
  simp only [Option.bind_some]
  repeat' split
  all_goals (refine congrArg some (Bool.eq_iff_iff.mpr ?_); simp only [decide_eq_true_eq, bne_iff_ne, ne_eq, eq_self, Bool.false_eq_true, true_iff, false_iff, not_true_eq_false] at *; (try simp only [ok] at *); omega)
end Go.Proofs.YtdbkefgdeenjoaaDoor.Plain
end
section
namespace Go.Proofs.YtdbkefgdeenjoaaDoor.Plain
set_option linter.unusedVariables false
set_option linter.unusedSimpArgs false
open Go.RowKit Go.Proofs.YtdbkefgdeenjoaaDoor.X Go.Proofs.YtdbkefgdeenjoaaDoorW.PrintWords Go.Proofs.YtdbkefgdeenjoaaDoorW.PrintLast Go.Proofs.YtdbkefgdeenjoaaDoorW.PrintMore
def cl : List Int → List Int
  | [] => []
  | r :: t => if r = 13 then (if t.head? = some 10 then cl t else 10 :: cl t) else Lib.encodeRuneZ r ++ cl t
def str (l : List Int) : ByteArray := ⟨(l.map fun x => UInt8.ofNat x.toNat).toArray⟩
def cleaned (l : List Int) : ByteArray × Int := if ∀ r ∈ l, may r = true then (str (cl l), 0) else ((⟨#[]⟩ : ByteArray), 7)
theorem clean_go : ∀ (l : List Int) (out : List UInt8), I32 l → text_Clean.go l out = some (if ∀ r ∈ l, may r = true then ((⟨(out ++ (cl l).map fun x => UInt8.ofNat x.toNat).toArray⟩ : ByteArray), 0) else ((⟨#[]⟩ : ByteArray), 7))
  | [], out, _ => by simp [text_Clean.go, cl]
  | r :: t, out, hw => by
    have ht : I32 t := fun x hx => hw x (List.mem_cons_of_mem _ hx)
    have hr := hw r (List.mem_cons_self)
    unfold text_Clean.go
    rw [may_eq]
    simp only [Option.bind_some]
    by_cases hm : may r = true
    · rw [if_pos hm]
      have e : (∀ x ∈ r :: t, may x = true) ↔ ∀ x ∈ t, may x = true := by simp [hm]
      simp only [e]
      by_cases h13 : r = 13
      · rw [if_pos h13]
        by_cases h10 : t.head? = some 10
        · rw [if_pos h10, clean_go t out ht]
          simp [cl, h13, h10]
        · rw [if_neg h10, clean_go t _ ht]
          simp [cl, h13, h10]
      · rw [if_neg h13, if_pos hr, clean_go t _ ht]
        simp [cl, h13, Lib.encodeRune]
    · rw [if_neg hm]
      rw [if_neg (fun h => hm (h r List.mem_cons_self))]
theorem clean_eq (l : List Int) (hl : l.length ≤ 4294967296) (hw : I32 l) : text_Clean.f l = some (cleaned l) := by
  unfold text_Clean.f cleaned str
  rw [if_pos hl, clean_go l [] hw]
  simp
end Go.Proofs.YtdbkefgdeenjoaaDoor.Plain
end
section
namespace Go.Proofs.YtdbkefgdeenjoaaDoor.Plain
set_option linter.unusedVariables false
set_option linter.unusedSimpArgs false
open Go.RowKit Go.Proofs.YtdbkefgdeenjoaaDoor.X Go.Proofs.YtdbkefgdeenjoaaDoorW.PrintWords Go.Proofs.YtdbkefgdeenjoaaDoorW.PrintLast
theorem wf32j {l : List Int} (hw : ∀ x ∈ l, (Lit.int .i32 x).wf = true) : I32 l := by
  intro x hx
  have h1 := hw x hx
  simp [Lit.wf, IntKind.min, IntKind.max, IntKind.bits, IntKind.signed] at h1
  omega
theorem cl_append (b : List Int) : ∀ a : List Int, ¬ (a.getLast? = some 13 ∧ b.head? = some 10) → cl (a ++ b) = cl a ++ cl b
  | [], _ => rfl
  | [r], h => by
    by_cases h13 : r = 13
    · have hb : ¬ b.head? = some 10 := fun e => h ⟨by simp [h13], e⟩
      show cl (r :: b) = cl [r] ++ cl b
      rw [cl, if_pos h13, if_neg hb, cl, if_pos h13, if_neg (by simp)]
      rfl
    · show cl (r :: b) = cl [r] ++ cl b
      rw [cl, if_neg h13, cl, if_neg h13]
      simp [cl]
  | r :: s :: t, h => by
    have ih := cl_append b (s :: t) (by simpa using h)
    show cl (r :: (s :: t ++ b)) = cl (r :: s :: t) ++ cl b
    rw [cl, cl, ih]
    have e : (s :: t ++ b).head? = (s :: t).head? := rfl
    rw [e]
    by_cases h13 : r = 13
    · rw [if_pos h13, if_pos h13]
      by_cases h10 : (s :: t).head? = some 10
      · rw [if_pos h10, if_pos h10]
      · rw [if_neg h10, if_neg h10]; rfl
    · rw [if_neg h13, if_neg h13, List.append_assoc]
theorem cl_length : ∀ l : List Int, (cl l).length ≤ 4 * l.length
  | [] => by simp [cl]
  | r :: t => by
    have ih := cl_length t
    have h4 := (Lib.encodeRuneZ_length r).2
    rw [cl]
    split
    · split
      · simp; omega
      · simp; omega
    · rw [List.length_append, List.length_cons]; omega
theorem str_append (x y : List Int) : (str (x ++ y)).toList = (str x ++ str y).toList := by
  have : str (x ++ y) = str x ++ str y := by
    apply ByteArray.ext
    simp [str, ByteArray.data_append]
  rw [this]
theorem cleaned_size (l : List Int) : (cleaned l).1.size ≤ 4 * l.length := by
  have := cl_length l
  unfold cleaned
  split
  · show (str (cl l)).size ≤ _
    simp [str, ByteArray.size]; exact this
  · simp [ByteArray.size]
theorem last_rd (l : List Int) (h : 0 < l.length) : l.getLast? = some (rd l ((l.length : Int) - 1)) := by
  obtain ⟨n, hn⟩ : ∃ n, l.length = n + 1 := ⟨l.length - 1, by omega⟩
  have e : (l.length : Int) - 1 = ((n : Nat) : Int) := by omega
  have e2 : l.length - 1 = n := by omega
  rw [e, rd_nat l n (by omega), List.getLast?_eq_getElem?, e2]
  exact List.getElem?_eq_getElem (by omega)
theorem empty_toList : (⟨#[]⟩ : ByteArray).toList = [] := by
  unfold ByteArray.toList
  unfold ByteArray.toList.loop
  simp [ByteArray.size]
theorem joins_end (q0 q1 q2 : ByteArray × Int) (hs : q0.1.size + q1.1.size ≤ 9223372036854775807)
    (h : (q0.2 = 0 ∧ q1.2 = 0 ∧ q2.2 = 0 ∧ q2.1.toList = (q0.1 ++ q1.1).toList) ∨ ((q0.2 ≠ 0 ∨ q1.2 ≠ 0) ∧ q2.2 = 7 ∧ q2.1.toList = [])) :
    (if q0.2 = 0 then (if q1.2 = 0 then (if q0.1.size + q1.1.size ≤ 9223372036854775807 then (if q2.1.toList = (q0.1 ++ q1.1).toList then (some (q2.2 == 0)) else (some false)) else (none)) else (if q2.2 = 7 then (some (q2.1.toList == ([] : List UInt8))) else (some false))) else (if q2.2 = 7 then (some (q2.1.toList == ([] : List UInt8))) else (some false))) = some true := by
  rcases h with ⟨a, b, c, d⟩ | ⟨a, b, c⟩
  · rw [if_pos a, if_pos b, if_pos hs, if_pos d, c]; rfl
  · rw [if_pos b, c]
    by_cases e : q0.2 = 0
    · rw [if_pos e, if_neg (a.resolve_left (fun n => n e))]; rfl
    · rw [if_neg e]; rfl
theorem joins_tell (l0 l1 : List Int) (hc : ¬ (l0.getLast? = some 13 ∧ l1.head? = some 10)) :
    ((cleaned l0).2 = 0 ∧ (cleaned l1).2 = 0 ∧ (cleaned (l0 ++ l1)).2 = 0 ∧ (cleaned (l0 ++ l1)).1.toList = ((cleaned l0).1 ++ (cleaned l1).1).toList) ∨ (((cleaned l0).2 ≠ 0 ∨ (cleaned l1).2 ≠ 0) ∧ (cleaned (l0 ++ l1)).2 = 7 ∧ (cleaned (l0 ++ l1)).1.toList = []) := by
  have bad (hn : ¬ ∀ r ∈ l0 ++ l1, may r = true) : (cleaned (l0 ++ l1)).2 = 7 ∧ (cleaned (l0 ++ l1)).1.toList = [] := by
    have hc : cleaned (l0 ++ l1) = ((⟨#[]⟩ : ByteArray), 7) := by unfold cleaned; rw [if_neg hn]
    rw [hc]
    exact ⟨rfl, empty_toList⟩
  by_cases h0 : ∀ r ∈ l0, may r = true
  · have e0 : cleaned l0 = (str (cl l0), 0) := by unfold cleaned; rw [if_pos h0]
    by_cases h1 : ∀ r ∈ l1, may r = true
    · have e1 : cleaned l1 = (str (cl l1), 0) := by unfold cleaned; rw [if_pos h1]
      have e2 : cleaned (l0 ++ l1) = (str (cl l0 ++ cl l1), 0) := by
        unfold cleaned
        rw [if_pos (fun r hr => (List.mem_append.mp hr).elim (h0 r) (h1 r)), cl_append l1 l0 hc]
      rw [e0, e1, e2]
      exact .inl ⟨rfl, rfl, rfl, str_append _ _⟩
    · have e1 : cleaned l1 = ((⟨#[]⟩ : ByteArray), 7) := by unfold cleaned; rw [if_neg h1]
      exact .inr ⟨.inr (by rw [e1]; simp), bad (fun h => h1 (fun r hr => h r (List.mem_append_right _ hr)))⟩
  · have e0 : cleaned l0 = ((⟨#[]⟩ : ByteArray), 7) := by unfold cleaned; rw [if_neg h0]
    exact .inr ⟨.inl (by rw [e0]; simp), bad (fun h => h0 (fun r hr => h r (List.mem_append_left _ hr)))⟩
theorem head_rd' (l : List Int) (h : 0 < l.length) : l.head? = some (rd l 0) := by
  cases l with
  | nil => simp at h
  | cons a t => rfl
theorem textJoins : grillelaw01_TextJoins.Pure := by
  intro l0 l1 hm0 hy0 hw0 hm1 hy1 hw1
  refine Ev.ex (g := fun k => grillelaw01_TextJoins.f k l0 l1) ?_
  have hA := wf32j hw0
  have hB := wf32j hw1
  simp only [grillelaw01_TextJoins.f]
  refine Ev.bind (Ev.one (show grillelaw01_alive.f = some true from rfl)) (Ev.pos rfl ?_)
  have yes : Ev (fun k => grillelaw01_TextJoins.j0 k l0 l1 true) true := by
    refine Ev.succ ?_
    simp only [grillelaw01_TextJoins.j0]
    exact Ev.pos (by simp) (Ev.val _)
  rw [w64 ((l0.length : Int) + (l1.length : Int)) (by omega) (by omega)]
  by_cases hl : (l0.length : Int) + (l1.length : Int) > 2000
  · exact Ev.pos hl yes
  refine Ev.neg hl ?_
  have no (hc : ¬ (l0.getLast? = some 13 ∧ l1.head? = some 10)) : Ev (fun k => grillelaw01_TextJoins.j0 k l0 l1 false) true := by
    refine Ev.succ ?_
    simp only [grillelaw01_TextJoins.j0]
    refine Ev.neg (by decide) ?_
    have hAB : I32 (l0 ++ l1) := fun x hx => (List.mem_append.mp hx).elim (hA x) (hB x)
    refine Ev.bind (Ev.one (clean_eq l0 (by omega) hA)) (Ev.bind (Ev.one (clean_eq l1 (by omega) hB)) ?_)
    have hcl : slices_Clone_int32_int32.f l0 = some l0 := by
      simp only [slices_Clone_int32_int32.f, Option.bind_some, List.nil_append, List.length_nil]
      rw [if_pos (by omega)]
    refine Ev.bind (Ev.one hcl) (Ev.pos (by omega) (Ev.bind (Ev.one (clean_eq (l0 ++ l1) (by rw [List.length_append]; omega) hAB)) ?_))
    have s0 := cleaned_size l0
    have s1 := cleaned_size l1
    have ht := joins_tell l0 l1 hc
    generalize cleaned l0 = q0 at s0 ht ⊢
    generalize cleaned l1 = q1 at s1 ht ⊢
    generalize cleaned (l0 ++ l1) = q2 at ht ⊢
    exact Ev.one (joins_end q0 q1 q2 (by omega) ht)
  by_cases p0 : (l0.length : Int) > 0
  · refine Ev.pos p0 ?_
    rw [w64 ((l0.length : Int) - 1) (by omega) (by omega)]
    refine Ev.pos (by omega) (Ev.pos (by omega) ?_)
    have hlast := last_rd l0 (by omega)
    by_cases h13 : rd l0 ((l0.length : Int) - 1) = 13
    · refine Ev.pos h13 ?_
      by_cases p1 : (l1.length : Int) > 0
      · refine Ev.pos p1 (Ev.pos (by omega) ?_)
        have hhead := head_rd' l1 (by omega)
        by_cases h10 : rd l1 0 = 10
        · simp only [h10]
          exact yes
        · rw [show (rd l1 0 == 10) = false by simpa using h10]
          exact no (fun h => h10 (by rw [hhead] at h; exact Option.some.inj h.2))
      · refine Ev.neg p1 (no (fun h => ?_))
        cases l1 with
        | nil => cases h.2
        | cons a t => simp at p1
    · refine Ev.neg h13 (no (fun h => h13 (by rw [hlast] at h; exact Option.some.inj h.1)))
  · refine Ev.neg p0 (no (fun h => ?_))
    cases l0 with
    | nil => cases h.1
    | cons a t => simp at p0
end Go.Proofs.YtdbkefgdeenjoaaDoor.Plain
namespace Go.Proofs.YtdbkefgdeenjoaaDoor.Pure
theorem TextJoins : X.grillelaw01_TextJoins.Pure := Plain.textJoins
end Go.Proofs.YtdbkefgdeenjoaaDoor.Pure
end
section
namespace Go.Proofs.YtdbkefgdeenjoaaDoor.Tabs
set_option linter.unusedVariables false
set_option linter.unusedSimpArgs false
open Go.Shelf Go.Lib
def ren : Ren := ⟨fun n => n, fun | 5 => 5 | 119 => 95 | 138 => 97 | 139 => 98 | n => n, fun | 3 => 0 | 4 => 1 | n => n⟩
theorem accept : (Rows.laid_unicode_utf8_acceptRanges : DataW Unit) = acceptData := by kernel_rfl
theorem of_laid {w : World} {l : List (String × DataW Unit)} (h : laidMet Tryd.prog l w) (h3 : ("unicode/utf8.first", Rows.laid_unicode_utf8_first) ∈ l) (h4 : ("unicode/utf8.acceptRanges", Rows.laid_unicode_utf8_acceptRanges) ∈ l) : Holds w := by
  have ht : Utf8Tabs 0 1 w := utf8Tabs_of_readsT (ρ := ren) ⟨Tryd.underlying5, Tryd.underlying95, Tryd.underlying97, Tryd.underlying98⟩ ⟨by kernel_rfl, by kernel_rfl, by kernel_rfl, by kernel_rfl, by kernel_rfl, by kernel_rfl, by kernel_rfl⟩
    (Pinned.utf8First_eq ▸ laidMet.reads h h3) (accept ▸ laidMet.reads h h4)
  refine ⟨ht, ?_⟩
  have := World.block_lt_of_cell? w _ (ht.2 0 (by decide)).1
  exact this
end Go.Proofs.YtdbkefgdeenjoaaDoor.Tabs
end
section
namespace Go.Proofs.YtdbkefgdeenjoaaDoorW.PrintWords
open Go.ChangeShapes Go.WideShapes
theorem sized_ints {H : Type} {enc : TypeId × Value → H} {P : Program} {W : World} {base : Nat} {spare : Nat → Bool} {held : Bool} {t e : TypeId} {k : IntKind} {a : Option Addr} {len cap : Nat} {d : DataW H} {ps : List MemPlace} {ts : List TypeId} {ds : List (DataW H)} {j : Nat}
    (hsz : (DataW.weightsEach P ts ds).all (· ≤ reachBytes) = true) (ht : ts[j]? = some t) (hd : ds[j]? = some d) (hu : P.underlying t = some (.slice e)) (he : P.underlying e = some (.int k)) (hc : P.cellsOf e = 1) {B : Nat} (hB : P.bytesOf e = B)
    (h : DataW.Trod enc P W base spare held t (.slice a len cap) d ps) : len * B ≤ 140737488351232 := by
  obtain ⟨fuel, hf⟩ := h
  rcases open_ints hu he hc hf with ⟨hcs, _⟩ | ⟨x, l, c, zs, hcs, _, hl, _, hz, hx, _, _⟩
  · simp [Value.cells] at hcs
    obtain ⟨rfl, rfl, rfl⟩ := hcs
    simp
  · simp [Value.cells] at hcs
    obtain ⟨rfl, rfl, rfl⟩ := hcs
    obtain ⟨hx, _⟩ := Prod.mk.inj hx
    subst hx
    have z := sized_slice hsz ht hd hu
    rw [hB] at z
    have hl2 : len ≤ zs.length := by
      rw [hz]
      split
      · exact hl
      · exact Nat.le_refl _
    have h1 : (lits (H := H) k (zs.take len)).length + (lits (H := H) k (zs.drop len)).length = zs.length := by
      simp [lits]
      omega
    rw [h1] at z
    exact Nat.le_trans (Nat.mul_le_mul_right _ hl2) z
end Go.Proofs.YtdbkefgdeenjoaaDoorW.PrintWords
end
