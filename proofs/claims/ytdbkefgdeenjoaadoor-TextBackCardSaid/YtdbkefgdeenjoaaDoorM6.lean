/- Words and walks that the row of TextBack needs: printed by programs, and plain laws. -/
import Derived.Test.YtdbkefgdeenjoaaDoorM1
import Derived.Test.YtdbkefgdeenjoaaDoorM4
import Derived.Test.YtdbkefgdeenjoaaDoorM5
import Derived.Test.YtdbkefgdeenjoaaDoorM3
import Derived.Test.YtdbkefgdeenjoaaDoorM2
section
namespace Go.Proofs.YtdbkefgdeenjoaaDoor.X
open Go.RowKit Go.Proofs.YtdbkefgdeenjoaaDoorW.PrintWords Go.Proofs.YtdbkefgdeenjoaaDoorW.PrintLast Go.Proofs.YtdbkefgdeenjoaaDoorW.PrintMore
attribute [local go_sem] max2_int min2_int max_two min_two max_three min_three max_four min_four
set_option linter.unusedVariables false
set_option linter.unusedSimpArgs false
mutual
def grillelaw01_TextBack.j0 : Nat → List Int → Bool → Option (Bool)
  | 0, _, _ => none
  | k + 1, x0, x25 => if x25 = true then (some true) else ((text_Clean.f x0).bind fun bt454 => (grillelaw01_TextBack.l0 k x0 bt454.1 bt454.2 0))
def grillelaw01_TextBack.l0 : Nat → List Int → ByteArray → Int → Int → Option (Bool)
  | 0, _, _, _, _ => none
  | k + 1, x0, x3, x4, x31 => if x31 < 5 then ((text_Encode.f x0 x31).bind fun bt456 => (if bt456.2 = 0 then ((text_Runes.f k bt456.1).bind fun bt460 => ((text_Decode.f k bt456.1).bind fun bt464 => ((slices_Equal_rune_rune.f k bt460.1 x0).bind fun t466 => (if t466 = true then (if bt460.2 = 0 then (if bt464.1.toList = x3.toList then (if bt464.2 = x4 then (grillelaw01_TextBack.l0 k x0 x3 x4 (wrap64 (x31 + 1))) else (some false)) else (some false)) else (some false)) else (some false))))) else (some (x4 == 7)))) else (some true)
end
def grillelaw01_TextBack.f (k : Nat) (l0 : List Int) : Option (Bool) := (grillelaw01_alive.f).bind fun t452 => (if t452 = true then (if (l0.length : Int) > 2000 then (some true) else (if (l0.length : Int) > 0 then (if 0 < (l0.length : Int) then (grillelaw01_TextBack.j0 k l0 ((rd l0 0) == 0)) else (none)) else (grillelaw01_TextBack.j0 k l0 false))) else (some false))
set_option maxHeartbeats 8000000 in
set_option maxRecDepth 100000 in
theorem grillelaw01_TextBack.calls (k : Nat) (A0 : Option Addr) (c0 : Nat) (l0 : List Int) (r : Bool) (w : World) (hr0 : Kd.C (Kd.int .i32) w A0 l0.length l0) (hc0 : l0.length ≤ c0) (hT : Tabs.Holds w) (h : grillelaw01_TextBack.f k l0 = some r) :
    Calls Tryd.prog 5 #[.slice A0 l0.length c0] w fun e w' => e = .returned (.bool r) ∧ Below w.heap.size w w' := by
  have HR0 := Aside0.mk hr0
  have HC0 := Aside0.mk hc0
  clear hr0 hc0
  have HT := Aside0.mk hT
  clear hT
  have HB := Aside0.mk (Below.refl w.heap.size w)
  have H : ((grillelaw01_alive.f).bind fun t452 => (if t452 = true then (if (l0.length : Int) > 2000 then (some true) else (if (l0.length : Int) > 0 then (if 0 < (l0.length : Int) then (grillelaw01_TextBack.j0 k l0 ((rd l0 0) == 0)) else (none)) else (grillelaw01_TextBack.j0 k l0 false))) else (some false))) = some r := h
  clear h
  replace H := Option.bind_eq_some_iff.mp H
  obtain ⟨t452, A20, H⟩ := H
  replace H : (if t452 = true then (if (l0.length : Int) > 2000 then (some true) else (if (l0.length : Int) > 0 then (if 0 < (l0.length : Int) then (grillelaw01_TextBack.j0 k l0 ((rd l0 0) == 0)) else (none)) else (grillelaw01_TextBack.j0 k l0 false))) else (some false)) = some r := H
  have A2 := Aside0.mk A20
  clear A20
  by_cases c3 : t452 = true
  · subst c3
    have H1 : (if (l0.length : Int) > 2000 then (some true) else (if (l0.length : Int) > 0 then (if 0 < (l0.length : Int) then (grillelaw01_TextBack.j0 k l0 ((rd l0 0) == 0)) else (none)) else (grillelaw01_TextBack.j0 k l0 false))) = some r := by rw [if_pos rfl] at H; exact H
    clear H
    have H := H1
    clear H1
    by_cases c4 : (l0.length : Int) > 2000
    · rw [if_pos c4] at H
      have c4b0 : decide (2000 < (l0.length : Int)) = true := decide_eq_true c4
      have c4b1 : decide (2000 < l0.length) = true := decide_eq_true (by omega)
      clear c4
      obtain rfl := Option.some.inj H
      go_enter Tryd.func5, Tryd.ntmps5
      go_wp2_with (first | ((with_reducible refine gate_callee (f := 10) rfl ?_); refine goesL_ (some 12) rfl rfl Tryd.func10 (by kernel_rfl) rfl #[] rfl (by (try simp only [List.map_toArray, List.map_cons, List.map_nil]); first | done | rfl | (simp only [List.length_drop, List.length_take]; rfl)) ?_; (with_reducible refine (grillelaw01_alive.calls  true _ ?side1 A2.out).mono ?_); (case side1 => exact Tabs.Holds.below HT.out (by repeat (first | (with_reducible first | exact HB.out | apply below_alloc | apply pw_below_drewN | apply below_drew1) | exact HB.out))); rintro e w5 ⟨rfl, hb⟩; refine ⟨_, rfl, ?_⟩; have n0_ := Aside0.mk (below_step (by repeat (first | (with_reducible first | exact HB.out | apply below_alloc | apply pw_below_drewN | apply below_drew1) | exact HB.out)) hb); clear HB; have HB := n0_; clear n0_; (try clear hb); (try clear hb2); (try clear hk); (try clear hi)))
      go_ret
      exact ⟨by first | rfl | (simp [errW_none, errW_some] <;> rfl) | (simp [*, errW_none, errW_some] <;> rfl), by repeat (first | (with_reducible first | exact HB.out | apply below_alloc | apply pw_below_drewN | apply below_drew1) | exact HB.out)⟩
    · rw [if_neg c4] at H
      have c4b0 : decide (2000 < (l0.length : Int)) = false := decide_eq_false c4
      have c4b1 : decide (2000 < l0.length) = false := decide_eq_false (by omega)
      clear c4
      have HC6 := Aside0.mk H
      clear H
      go_enter Tryd.func5, Tryd.ntmps5
      go_upto_region 5 with (first | ((with_reducible refine gate_callee (f := 10) rfl ?_); refine goesL_ (some 12) rfl rfl Tryd.func10 (by kernel_rfl) rfl #[] rfl (by (try simp only [List.map_toArray, List.map_cons, List.map_nil]); first | done | rfl | (simp only [List.length_drop, List.length_take]; rfl)) ?_; (with_reducible refine (grillelaw01_alive.calls  true _ ?side1 A2.out).mono ?_); (case side1 => exact Tabs.Holds.below HT.out (by repeat (first | (with_reducible first | exact HB.out | apply below_alloc | apply pw_below_drewN | apply below_drew1) | exact HB.out))); rintro e w7 ⟨rfl, hb⟩; refine ⟨_, rfl, ?_⟩; have n0_ := Aside0.mk (below_step (by repeat (first | (with_reducible first | exact HB.out | apply below_alloc | apply pw_below_drewN | apply below_drew1) | exact HB.out)) hb); clear HB; have HB := n0_; clear n0_; (try clear hb); (try clear hb2); (try clear hk); (try clear hi)))
      (try simp only [Act.put, List.setIfInBounds_toArray, List.set_cons_zero, List.set_cons_succ])
      go_cut [25] (fun v25 wc => ∃ (kq : Nat) (x25_5 : Bool), v25 = .bool x25_5 ∧ Aside0 (grillelaw01_TextBack.j0 kq l0 x25_5 = some r) ∧ Aside0 (kq ≤ k) ∧ Aside0 (Below w.heap.size w wc))
      case first =>
        have H := HC6.out
        clear HC6
        by_cases c8 : (l0.length : Int) > 0
        · rw [if_pos c8] at H
          have c8b0 : decide (0 < (l0.length : Int)) = true := decide_eq_true c8
          have c8b1 : decide (0 < l0.length) = true := decide_eq_true (by omega)
          clear c8
          (first | rw [c8b0] | (simp only [i64_w, i32_w]; rw [c8b0]) | skip)
          by_cases c9 : 0 < (l0.length : Int)
          · rw [if_pos c9] at H
            have c9b0 : decide (0 < (l0.length : Int)) = true := decide_eq_true c9
            have c9b1 : decide (0 < l0.length) = true := decide_eq_true (by omega)
            clear c9
            have H' := Aside0.mk H
            clear H
            have p453 : 0 ≤ (0 : Int) := (by omega)
            have q453 : 0 < (l0.length : Int) := of_decide_eq_true (by first | (with_reducible assumption) | assumption)
            obtain ⟨ad453, e453, hx453_0⟩ := Kd.at_int HR0.out 0 p453 q453
            cases e453
            have qi453 : (0 < l0.length) = True := eq_true (by omega)
            (try rw [show ((0 : Int)).toNat = 0 from rfl] at hx453_0)
            (try rw [Addr.add_zero'] at hx453_0)
            replace hx453_0 := (HB.out.cell (World.block_lt_of_cell? w _ hx453_0)).trans hx453_0
            replace p453 := eq_true p453
            replace q453 := eq_true q453
            go_wp2
            go_meet
            case rel => exact ⟨_, (((rd l0 0) == 0)), (by first | rfl | (simp; done) | (simp [*]; done) | (simp [xbne_nil, xbeq_nil]; done)), H', ⟨by first | omega | exact Nat.le_refl _⟩, ⟨by repeat (first | (with_reducible first | exact HB.out | apply below_alloc | apply pw_below_drewN | apply below_drew1) | exact HB.out)⟩⟩
          · rw [if_neg c9] at H
            exact absurd H (by simp)
        · rw [if_neg c8] at H
          have c8b0 : decide (0 < (l0.length : Int)) = false := decide_eq_false c8
          have c8b1 : decide (0 < l0.length) = false := decide_eq_false (by omega)
          clear c8
          (first | rw [c8b0] | (simp only [i64_w, i32_w]; rw [c8b0]) | skip)
          have H' := Aside0.mk H
          clear H
          go_wp2
          go_meet
          case rel => exact ⟨_, (false), (by first | rfl | (simp; done) | (simp [*]; done) | (simp [xbne_nil, xbeq_nil]; done)), H', ⟨by first | omega | exact Nat.le_refl _⟩, ⟨by repeat (first | (with_reducible first | exact HB.out | apply below_alloc | apply pw_below_drewN | apply below_drew1) | exact HB.out)⟩⟩
      case rest =>
        clear HC6
        try clear c1
        try clear p2
        try clear c3
        try clear c4
        try clear c4b0
        try clear c4b1
        try clear p4
        try clear q4
        try clear hx4
        try clear qi4
        try clear c5
        try clear c8
        try clear c8b0
        try clear c8b1
        try clear c9
        try clear c9b0
        try clear c9b1
        try clear hx453_0
        try clear p453
        try clear q453
        obtain ⟨kq, x25_5, rfl, HA, HJ5, HB⟩ := hcut
        cases kq with
        | zero => exact absurd HA.out (by simp [grillelaw01_TextBack.j0])
        | succ kj5 =>
          have H := HA.out
          clear HA
          simp only [grillelaw01_TextBack.j0] at H
          by_cases c10 : x25_5 = true
          · subst c10
            have H1 : (some true) = some r := by rw [if_pos rfl] at H; exact H
            clear H
            have H := H1
            clear H1
            obtain rfl := Option.some.inj H
            go_wp2
            go_ret
            exact ⟨by first | rfl | (simp [errW_none, errW_some] <;> rfl) | (simp [*, errW_none, errW_some] <;> rfl), by repeat (first | (with_reducible first | exact HB.out | apply below_alloc | apply pw_below_drewN | apply below_drew1) | exact HB.out)⟩
          · replace c10 := Bool.eq_false_iff.mpr c10
            subst c10
            have H1 : ((text_Clean.f l0).bind fun bt454 => (grillelaw01_TextBack.l0 kj5 l0 bt454.1 bt454.2 0)) = some r := by rw [if_neg (show ¬ (false = true) by decide)] at H; exact H
            clear H
            have H := H1
            clear H1
            replace H := Option.bind_eq_some_iff.mp H
            obtain ⟨⟨t454, t455⟩, A110, H⟩ := H
            replace H : (grillelaw01_TextBack.l0 kj5 l0 t454 t455 0) = some r := H
            have A11 := Aside0.mk A110
            clear A110
            have H' := Aside0.mk H
            clear H
            go_wp2_with (first | ((with_reducible refine gate_callee (f := 21) rfl ?_); refine goesL_ (some 28) rfl rfl Tryd.func21 (by kernel_rfl) rfl #[.slice A0 l0.length c0] rfl (by (try simp only [List.map_toArray, List.map_cons, List.map_nil]); first | done | rfl | (simp only [List.length_drop, List.length_take]; rfl)) ?_; (with_reducible refine (text_Clean.calls _ _ l0 t454 t455 _ ?side1 ?side2 A11.out).mono ?_); (case side1 => repeat (first | exact (Kd.C_below HR0.out HB.out) | (with_reducible refine Kd.C_alloc ?_ _) | (with_reducible refine Kd.C_drewN ?_ _) | (with_reducible refine Kd.C_drew ?_))); (case side2 => exact HC0.out); rintro e w12 ⟨rfl, hb⟩; refine ⟨_, rfl, ?_⟩; have n0_ := Aside0.mk (below_step (by repeat (first | (with_reducible first | exact HB.out | apply below_alloc | apply pw_below_drewN | apply below_drew1) | exact HB.out)) hb); clear HB; have HB := n0_; clear n0_; (try clear hb); (try clear hb2); (try clear hk); (try clear hi)))
            go_loopg [31] kj5 (fun kq v31 w' => ∃ (x31_2 : Int), v31 = .int .i64 x31_2 ∧ Aside0 (grillelaw01_TextBack.l0 kq l0 t454 t455 x31_2 = some r) ∧ Aside0 (kq ≤ kj5) ∧ Aside0 (Below w.heap.size w w'))
            case atStart => exact ⟨(0), (by first | rfl | (simp; done) | (simp [*]; done) | (simp [xbne_nil, xbeq_nil]; done)), H', ⟨Nat.le_refl _⟩, ⟨by repeat (first | (with_reducible first | exact HB.out | apply below_alloc | apply pw_below_drewN | apply below_drew1) | exact HB.out)⟩⟩
            case round =>
              clear H'
              try clear c1
              try clear c2
              try clear p2
              try clear c3
              try clear c4
              try clear c4b0
              try clear c4b1
              try clear p4
              try clear q4
              try clear hx4
              try clear qi4
              try clear c5
              try clear c8
              try clear c8b0
              try clear c8b1
              try clear c9
              try clear c9b0
              try clear c9b1
              try clear c10
              try clear hx453_0
              try clear p2
              try clear p4
              try clear p453
              try clear q4
              try clear q453
              obtain ⟨x31_2, rfl, HA, HK2, HB⟩ := hrel
              cases gk with
              | zero => exact absurd HA.out (by simp [grillelaw01_TextBack.l0])
              | succ k2 =>
                have H := HA.out
                clear HA
                simp only [grillelaw01_TextBack.l0] at H
                by_cases c13 : x31_2 < 5
                · rw [if_pos c13] at H
                  have c13b0 : decide (x31_2 < 5) = true := decide_eq_true c13
                  clear c13
                  replace H := Option.bind_eq_some_iff.mp H
                  obtain ⟨⟨t456, t457⟩, A140, H⟩ := H
                  replace H : (if t457 = 0 then ((text_Runes.f k2 t456).bind fun bt460 => ((text_Decode.f k2 t456).bind fun bt464 => ((slices_Equal_rune_rune.f k2 bt460.1 l0).bind fun t466 => (if t466 = true then (if bt460.2 = 0 then (if bt464.1.toList = t454.toList then (if bt464.2 = t455 then (grillelaw01_TextBack.l0 k2 l0 t454 t455 (wrap64 (x31_2 + 1))) else (some false)) else (some false)) else (some false)) else (some false))))) else (some (t455 == 7))) = some r := H
                  have A14 := Aside0.mk A140
                  clear A140
                  by_cases c15 : t457 = 0
                  · rw [if_pos c15] at H
                    have c15b0 : (t457 == 0) = true := beq_iff_eq.mpr c15
                    have c15b1 : (t457 != 0) = false := bne_eq_false_iff_eq.mpr c15
                    clear c15
                    replace H := Option.bind_eq_some_iff.mp H
                    obtain ⟨⟨t460, t461⟩, A160, H⟩ := H
                    replace H : ((text_Decode.f k2 t456).bind fun bt464 => ((slices_Equal_rune_rune.f k2 t460 l0).bind fun t466 => (if t466 = true then (if t461 = 0 then (if bt464.1.toList = t454.toList then (if bt464.2 = t455 then (grillelaw01_TextBack.l0 k2 l0 t454 t455 (wrap64 (x31_2 + 1))) else (some false)) else (some false)) else (some false)) else (some false)))) = some r := H
                    have A16 := Aside0.mk A160
                    clear A160
                    replace H := Option.bind_eq_some_iff.mp H
                    obtain ⟨⟨t464, t465⟩, A170, H⟩ := H
                    replace H : ((slices_Equal_rune_rune.f k2 t460 l0).bind fun t466 => (if t466 = true then (if t461 = 0 then (if t464.toList = t454.toList then (if t465 = t455 then (grillelaw01_TextBack.l0 k2 l0 t454 t455 (wrap64 (x31_2 + 1))) else (some false)) else (some false)) else (some false)) else (some false))) = some r := H
                    have A17 := Aside0.mk A170
                    clear A170
                    replace H := Option.bind_eq_some_iff.mp H
                    obtain ⟨t466, A180, H⟩ := H
                    replace H : (if t466 = true then (if t461 = 0 then (if t464.toList = t454.toList then (if t465 = t455 then (grillelaw01_TextBack.l0 k2 l0 t454 t455 (wrap64 (x31_2 + 1))) else (some false)) else (some false)) else (some false)) else (some false)) = some r := H
                    have A18 := Aside0.mk A180
                    clear A180
                    by_cases c19 : t466 = true
                    · subst c19
                      have H1 : (if t461 = 0 then (if t464.toList = t454.toList then (if t465 = t455 then (grillelaw01_TextBack.l0 k2 l0 t454 t455 (wrap64 (x31_2 + 1))) else (some false)) else (some false)) else (some false)) = some r := by rw [if_pos rfl] at H; exact H
                      clear H
                      have H := H1
                      clear H1
                      by_cases c20 : t461 = 0
                      · rw [if_pos c20] at H
                        have c20b0 : (t461 == 0) = true := beq_iff_eq.mpr c20
                        have c20b1 : (t461 != 0) = false := bne_eq_false_iff_eq.mpr c20
                        clear c20
                        by_cases c21 : t464.toList = t454.toList
                        · rw [if_pos c21] at H
                          have c21b0 : (t464.toList == t454.toList) = true := beq_iff_eq.mpr c21
                          have c21b1 : (t464.toList != t454.toList) = false := bne_eq_false_iff_eq.mpr c21
                          clear c21
                          by_cases c22 : t465 = t455
                          · rw [if_pos c22] at H
                            have c22b0 : (t465 == t455) = true := beq_iff_eq.mpr c22
                            have c22b1 : (t465 != t455) = false := bne_eq_false_iff_eq.mpr c22
                            clear c22
                            have H' := Aside0.mk H
                            clear H
                            go_wp2_with (first | ((with_reducible refine gate_callee (f := 19) rfl ?_); refine goesL_ (some 37) rfl rfl Tryd.func19 (by kernel_rfl) rfl #[.slice A0 l0.length c0, .int .i64 x31_2] rfl (by (try simp only [List.map_toArray, List.map_cons, List.map_nil]); first | done | rfl | (simp only [List.length_drop, List.length_take]; rfl)) ?_; (with_reducible refine (text_Encode.calls _ _ l0 x31_2 t456 t457 _ ?side1 ?side2 A14.out).mono ?_); (case side1 => repeat (first | exact (Kd.C_below HR0.out HB.out) | (with_reducible refine Kd.C_alloc ?_ _) | (with_reducible refine Kd.C_drewN ?_ _) | (with_reducible refine Kd.C_drew ?_))); (case side2 => exact HC0.out); rintro e w23 ⟨v458, rfl, ho0, hb⟩; refine ⟨_, rfl, ?_⟩; have n0_ := Aside0.mk (Kd.R_lower ho0 (below_size (by repeat (first | (with_reducible first | exact HB.out | apply below_alloc | apply pw_below_drewN | apply below_drew1) | exact HB.out)))); have n1_ := Aside0.mk (below_step (by repeat (first | (with_reducible first | exact HB.out | apply below_alloc | apply pw_below_drewN | apply below_drew1) | exact HB.out)) hb); clear HB; have HO459 := n0_; have HB := n1_; clear n0_ n1_; (try clear hb); (try clear hb2); (try clear hk); (try clear hi); (try clear ho0); obtain ⟨Ao24, co24, eo24⟩ := Kd.R_slice HO459.out; subst eo24) | ((with_reducible refine gate_callee (f := 13) rfl ?_); refine goesL_ (some 46) rfl rfl Tryd.func13 (by kernel_rfl) rfl #[.slice Ao24 t456.length co24] rfl (by (try simp only [List.map_toArray, List.map_cons, List.map_nil]); first | done | rfl | (simp only [List.length_drop, List.length_take]; rfl)) ?_; (with_reducible refine (text_Runes.calls k2 _ _ t456 t460 t461 _ ?side1 ?side2 ?side3 A16.out).mono ?_); (case side1 => repeat (first | exact (Kd.R_reads' HO459.out).2.2 | (with_reducible refine Kd.C_alloc ?_ _) | (with_reducible refine Kd.C_drewN ?_ _) | (with_reducible refine Kd.C_drew ?_))); (case side2 => exact (Kd.R_reads' HO459.out).2.1); (case side3 => exact Tabs.Holds.below HT.out (by repeat (first | (with_reducible first | exact HB.out | apply below_alloc | apply pw_below_drewN | apply below_drew1) | exact HB.out))); rintro e w25 ⟨v462, rfl, ho0, hb⟩; refine ⟨_, rfl, ?_⟩; have n0_ := Aside0.mk (Kd.R_below (by (with_reducible repeat (first | apply Kd.R_alloc | apply Kd.R_drewN | apply Kd.R_drew)); exact HO459.out) hb); have n1_ := Aside0.mk (Kd.R_lower ho0 (below_size (by repeat (first | (with_reducible first | exact HB.out | apply below_alloc | apply pw_below_drewN | apply below_drew1) | exact HB.out)))); have n2_ := Aside0.mk (below_step (by repeat (first | (with_reducible first | exact HB.out | apply below_alloc | apply pw_below_drewN | apply below_drew1) | exact HB.out)) hb); clear HO459; clear HB; have HO459 := n0_; have HO463 := n1_; have HB := n2_; clear n0_ n1_ n2_; (try clear hb); (try clear hb2); (try clear hk); (try clear hi); (try clear ho0)) | ((with_reducible refine gate_callee (f := 15) rfl ?_); refine goesL_ (some 51) rfl rfl Tryd.func15 (by kernel_rfl) rfl #[.slice Ao24 t456.length co24] rfl (by (try simp only [List.map_toArray, List.map_cons, List.map_nil]); first | done | rfl | (simp only [List.length_drop, List.length_take]; rfl)) ?_; (with_reducible refine (text_Decode.calls k2 _ _ t456 t464 t465 _ ?side1 ?side2 ?side3 A17.out).mono ?_); (case side1 => repeat (first | exact (Kd.R_reads' HO459.out).2.2 | (with_reducible refine Kd.C_alloc ?_ _) | (with_reducible refine Kd.C_drewN ?_ _) | (with_reducible refine Kd.C_drew ?_))); (case side2 => exact (Kd.R_reads' HO459.out).2.1); (case side3 => exact Tabs.Holds.below HT.out (by repeat (first | (with_reducible first | exact HB.out | apply below_alloc | apply pw_below_drewN | apply below_drew1) | exact HB.out))); rintro e w26 ⟨rfl, hb⟩; refine ⟨_, rfl, ?_⟩; have n0_ := Aside0.mk (Kd.R_below (by (with_reducible repeat (first | apply Kd.R_alloc | apply Kd.R_drewN | apply Kd.R_drew)); exact HO459.out) hb); have n1_ := Aside0.mk (Kd.R_below (by (with_reducible repeat (first | apply Kd.R_alloc | apply Kd.R_drewN | apply Kd.R_drew)); exact HO463.out) hb); have n2_ := Aside0.mk (below_step (by repeat (first | (with_reducible first | exact HB.out | apply below_alloc | apply pw_below_drewN | apply below_drew1) | exact HB.out)) hb); clear HO459; clear HO463; clear HB; have HO459 := n0_; have HO463 := n1_; have HB := n2_; clear n0_ n1_ n2_; (try clear hb); (try clear hb2); (try clear hk); (try clear hi); obtain ⟨Ao27, co27, eo27⟩ := Kd.R_slice HO463.out; subst eo27) | ((with_reducible refine gate_callee (f := 26) rfl ?_); refine goesL_ (some 56) rfl rfl Tryd.func26 (by kernel_rfl) rfl #[.slice Ao27 t460.length co27, .slice A0 l0.length c0] rfl (by (try simp only [List.map_toArray, List.map_cons, List.map_nil]); first | done | rfl | (simp only [List.length_drop, List.length_take]; rfl)) ?_; (with_reducible refine (slices_Equal_rune_rune.calls k2 _ _ t460 _ _ l0 true _ ?side1 ?side2 ?side3 ?side4 A18.out).mono ?_); (case side1 => repeat (first | exact (Kd.R_reads' HO463.out).2.2 | (with_reducible refine Kd.C_alloc ?_ _) | (with_reducible refine Kd.C_drewN ?_ _) | (with_reducible refine Kd.C_drew ?_))); (case side2 => exact (Kd.R_reads' HO463.out).2.1); (case side3 => repeat (first | exact (Kd.C_below HR0.out HB.out) | (with_reducible refine Kd.C_alloc ?_ _) | (with_reducible refine Kd.C_drewN ?_ _) | (with_reducible refine Kd.C_drew ?_))); (case side4 => exact HC0.out); rintro e w' ⟨rfl, ⟨nd, rfl⟩⟩; refine ⟨_, rfl, ?_⟩))
                            go_roundg k2
                            case measure => have := HJ5.out; have := HK2.out; omega
                            case rel => exact ⟨(wrap64 (x31_2 + 1)), (by first | rfl | (simp; done) | (simp [*]; done) | (simp [xbne_nil, xbeq_nil]; done)), H', ⟨by have := HJ5.out; have := HK2.out; omega⟩, ⟨by repeat (first | (with_reducible first | exact HB.out | apply below_alloc | apply pw_below_drewN | apply below_drew1) | exact HB.out)⟩⟩
                          · rw [if_neg c22] at H
                            have c22b0 : (t465 == t455) = false := beq_eq_false_iff_ne.mpr c22
                            have c22b1 : (t465 != t455) = true := bne_iff_ne.mpr c22
                            obtain rfl := Option.some.inj H
                            go_wp2_with (first | ((with_reducible refine gate_callee (f := 19) rfl ?_); refine goesL_ (some 37) rfl rfl Tryd.func19 (by kernel_rfl) rfl #[.slice A0 l0.length c0, .int .i64 x31_2] rfl (by (try simp only [List.map_toArray, List.map_cons, List.map_nil]); first | done | rfl | (simp only [List.length_drop, List.length_take]; rfl)) ?_; (with_reducible refine (text_Encode.calls _ _ l0 x31_2 t456 t457 _ ?side1 ?side2 A14.out).mono ?_); (case side1 => repeat (first | exact (Kd.C_below HR0.out HB.out) | (with_reducible refine Kd.C_alloc ?_ _) | (with_reducible refine Kd.C_drewN ?_ _) | (with_reducible refine Kd.C_drew ?_))); (case side2 => exact HC0.out); rintro e w28 ⟨v458, rfl, ho0, hb⟩; refine ⟨_, rfl, ?_⟩; have n0_ := Aside0.mk (Kd.R_lower ho0 (below_size (by repeat (first | (with_reducible first | exact HB.out | apply below_alloc | apply pw_below_drewN | apply below_drew1) | exact HB.out)))); have n1_ := Aside0.mk (below_step (by repeat (first | (with_reducible first | exact HB.out | apply below_alloc | apply pw_below_drewN | apply below_drew1) | exact HB.out)) hb); clear HB; have HO459 := n0_; have HB := n1_; clear n0_ n1_; (try clear hb); (try clear hb2); (try clear hk); (try clear hi); (try clear ho0); obtain ⟨Ao29, co29, eo29⟩ := Kd.R_slice HO459.out; subst eo29) | ((with_reducible refine gate_callee (f := 13) rfl ?_); refine goesL_ (some 46) rfl rfl Tryd.func13 (by kernel_rfl) rfl #[.slice Ao29 t456.length co29] rfl (by (try simp only [List.map_toArray, List.map_cons, List.map_nil]); first | done | rfl | (simp only [List.length_drop, List.length_take]; rfl)) ?_; (with_reducible refine (text_Runes.calls k2 _ _ t456 t460 t461 _ ?side1 ?side2 ?side3 A16.out).mono ?_); (case side1 => repeat (first | exact (Kd.R_reads' HO459.out).2.2 | (with_reducible refine Kd.C_alloc ?_ _) | (with_reducible refine Kd.C_drewN ?_ _) | (with_reducible refine Kd.C_drew ?_))); (case side2 => exact (Kd.R_reads' HO459.out).2.1); (case side3 => exact Tabs.Holds.below HT.out (by repeat (first | (with_reducible first | exact HB.out | apply below_alloc | apply pw_below_drewN | apply below_drew1) | exact HB.out))); rintro e w30 ⟨v462, rfl, ho0, hb⟩; refine ⟨_, rfl, ?_⟩; have n0_ := Aside0.mk (Kd.R_below (by (with_reducible repeat (first | apply Kd.R_alloc | apply Kd.R_drewN | apply Kd.R_drew)); exact HO459.out) hb); have n1_ := Aside0.mk (Kd.R_lower ho0 (below_size (by repeat (first | (with_reducible first | exact HB.out | apply below_alloc | apply pw_below_drewN | apply below_drew1) | exact HB.out)))); have n2_ := Aside0.mk (below_step (by repeat (first | (with_reducible first | exact HB.out | apply below_alloc | apply pw_below_drewN | apply below_drew1) | exact HB.out)) hb); clear HO459; clear HB; have HO459 := n0_; have HO463 := n1_; have HB := n2_; clear n0_ n1_ n2_; (try clear hb); (try clear hb2); (try clear hk); (try clear hi); (try clear ho0)) | ((with_reducible refine gate_callee (f := 15) rfl ?_); refine goesL_ (some 51) rfl rfl Tryd.func15 (by kernel_rfl) rfl #[.slice Ao29 t456.length co29] rfl (by (try simp only [List.map_toArray, List.map_cons, List.map_nil]); first | done | rfl | (simp only [List.length_drop, List.length_take]; rfl)) ?_; (with_reducible refine (text_Decode.calls k2 _ _ t456 t464 t465 _ ?side1 ?side2 ?side3 A17.out).mono ?_); (case side1 => repeat (first | exact (Kd.R_reads' HO459.out).2.2 | (with_reducible refine Kd.C_alloc ?_ _) | (with_reducible refine Kd.C_drewN ?_ _) | (with_reducible refine Kd.C_drew ?_))); (case side2 => exact (Kd.R_reads' HO459.out).2.1); (case side3 => exact Tabs.Holds.below HT.out (by repeat (first | (with_reducible first | exact HB.out | apply below_alloc | apply pw_below_drewN | apply below_drew1) | exact HB.out))); rintro e w31 ⟨rfl, hb⟩; refine ⟨_, rfl, ?_⟩; have n0_ := Aside0.mk (Kd.R_below (by (with_reducible repeat (first | apply Kd.R_alloc | apply Kd.R_drewN | apply Kd.R_drew)); exact HO459.out) hb); have n1_ := Aside0.mk (Kd.R_below (by (with_reducible repeat (first | apply Kd.R_alloc | apply Kd.R_drewN | apply Kd.R_drew)); exact HO463.out) hb); have n2_ := Aside0.mk (below_step (by repeat (first | (with_reducible first | exact HB.out | apply below_alloc | apply pw_below_drewN | apply below_drew1) | exact HB.out)) hb); clear HO459; clear HO463; clear HB; have HO459 := n0_; have HO463 := n1_; have HB := n2_; clear n0_ n1_ n2_; (try clear hb); (try clear hb2); (try clear hk); (try clear hi); obtain ⟨Ao32, co32, eo32⟩ := Kd.R_slice HO463.out; subst eo32) | ((with_reducible refine gate_callee (f := 26) rfl ?_); refine goesL_ (some 56) rfl rfl Tryd.func26 (by kernel_rfl) rfl #[.slice Ao32 t460.length co32, .slice A0 l0.length c0] rfl (by (try simp only [List.map_toArray, List.map_cons, List.map_nil]); first | done | rfl | (simp only [List.length_drop, List.length_take]; rfl)) ?_; (with_reducible refine (slices_Equal_rune_rune.calls k2 _ _ t460 _ _ l0 true _ ?side1 ?side2 ?side3 ?side4 A18.out).mono ?_); (case side1 => repeat (first | exact (Kd.R_reads' HO463.out).2.2 | (with_reducible refine Kd.C_alloc ?_ _) | (with_reducible refine Kd.C_drewN ?_ _) | (with_reducible refine Kd.C_drew ?_))); (case side2 => exact (Kd.R_reads' HO463.out).2.1); (case side3 => repeat (first | exact (Kd.C_below HR0.out HB.out) | (with_reducible refine Kd.C_alloc ?_ _) | (with_reducible refine Kd.C_drewN ?_ _) | (with_reducible refine Kd.C_drew ?_))); (case side4 => exact HC0.out); rintro e w' ⟨rfl, ⟨nd, rfl⟩⟩; refine ⟨_, rfl, ?_⟩))
                            go_ret
                            exact ⟨by first | rfl | (simp [errW_none, errW_some] <;> rfl) | (simp [*, errW_none, errW_some] <;> rfl), by repeat (first | (with_reducible first | exact HB.out | apply below_alloc | apply pw_below_drewN | apply below_drew1) | exact HB.out)⟩
                        · rw [if_neg c21] at H
                          have c21b0 : (t464.toList == t454.toList) = false := beq_eq_false_iff_ne.mpr c21
                          have c21b1 : (t464.toList != t454.toList) = true := bne_iff_ne.mpr c21
                          obtain rfl := Option.some.inj H
                          go_wp2_with (first | ((with_reducible refine gate_callee (f := 19) rfl ?_); refine goesL_ (some 37) rfl rfl Tryd.func19 (by kernel_rfl) rfl #[.slice A0 l0.length c0, .int .i64 x31_2] rfl (by (try simp only [List.map_toArray, List.map_cons, List.map_nil]); first | done | rfl | (simp only [List.length_drop, List.length_take]; rfl)) ?_; (with_reducible refine (text_Encode.calls _ _ l0 x31_2 t456 t457 _ ?side1 ?side2 A14.out).mono ?_); (case side1 => repeat (first | exact (Kd.C_below HR0.out HB.out) | (with_reducible refine Kd.C_alloc ?_ _) | (with_reducible refine Kd.C_drewN ?_ _) | (with_reducible refine Kd.C_drew ?_))); (case side2 => exact HC0.out); rintro e w33 ⟨v458, rfl, ho0, hb⟩; refine ⟨_, rfl, ?_⟩; have n0_ := Aside0.mk (Kd.R_lower ho0 (below_size (by repeat (first | (with_reducible first | exact HB.out | apply below_alloc | apply pw_below_drewN | apply below_drew1) | exact HB.out)))); have n1_ := Aside0.mk (below_step (by repeat (first | (with_reducible first | exact HB.out | apply below_alloc | apply pw_below_drewN | apply below_drew1) | exact HB.out)) hb); clear HB; have HO459 := n0_; have HB := n1_; clear n0_ n1_; (try clear hb); (try clear hb2); (try clear hk); (try clear hi); (try clear ho0); obtain ⟨Ao34, co34, eo34⟩ := Kd.R_slice HO459.out; subst eo34) | ((with_reducible refine gate_callee (f := 13) rfl ?_); refine goesL_ (some 46) rfl rfl Tryd.func13 (by kernel_rfl) rfl #[.slice Ao34 t456.length co34] rfl (by (try simp only [List.map_toArray, List.map_cons, List.map_nil]); first | done | rfl | (simp only [List.length_drop, List.length_take]; rfl)) ?_; (with_reducible refine (text_Runes.calls k2 _ _ t456 t460 t461 _ ?side1 ?side2 ?side3 A16.out).mono ?_); (case side1 => repeat (first | exact (Kd.R_reads' HO459.out).2.2 | (with_reducible refine Kd.C_alloc ?_ _) | (with_reducible refine Kd.C_drewN ?_ _) | (with_reducible refine Kd.C_drew ?_))); (case side2 => exact (Kd.R_reads' HO459.out).2.1); (case side3 => exact Tabs.Holds.below HT.out (by repeat (first | (with_reducible first | exact HB.out | apply below_alloc | apply pw_below_drewN | apply below_drew1) | exact HB.out))); rintro e w35 ⟨v462, rfl, ho0, hb⟩; refine ⟨_, rfl, ?_⟩; have n0_ := Aside0.mk (Kd.R_below (by (with_reducible repeat (first | apply Kd.R_alloc | apply Kd.R_drewN | apply Kd.R_drew)); exact HO459.out) hb); have n1_ := Aside0.mk (Kd.R_lower ho0 (below_size (by repeat (first | (with_reducible first | exact HB.out | apply below_alloc | apply pw_below_drewN | apply below_drew1) | exact HB.out)))); have n2_ := Aside0.mk (below_step (by repeat (first | (with_reducible first | exact HB.out | apply below_alloc | apply pw_below_drewN | apply below_drew1) | exact HB.out)) hb); clear HO459; clear HB; have HO459 := n0_; have HO463 := n1_; have HB := n2_; clear n0_ n1_ n2_; (try clear hb); (try clear hb2); (try clear hk); (try clear hi); (try clear ho0)) | ((with_reducible refine gate_callee (f := 15) rfl ?_); refine goesL_ (some 51) rfl rfl Tryd.func15 (by kernel_rfl) rfl #[.slice Ao34 t456.length co34] rfl (by (try simp only [List.map_toArray, List.map_cons, List.map_nil]); first | done | rfl | (simp only [List.length_drop, List.length_take]; rfl)) ?_; (with_reducible refine (text_Decode.calls k2 _ _ t456 t464 t465 _ ?side1 ?side2 ?side3 A17.out).mono ?_); (case side1 => repeat (first | exact (Kd.R_reads' HO459.out).2.2 | (with_reducible refine Kd.C_alloc ?_ _) | (with_reducible refine Kd.C_drewN ?_ _) | (with_reducible refine Kd.C_drew ?_))); (case side2 => exact (Kd.R_reads' HO459.out).2.1); (case side3 => exact Tabs.Holds.below HT.out (by repeat (first | (with_reducible first | exact HB.out | apply below_alloc | apply pw_below_drewN | apply below_drew1) | exact HB.out))); rintro e w36 ⟨rfl, hb⟩; refine ⟨_, rfl, ?_⟩; have n0_ := Aside0.mk (Kd.R_below (by (with_reducible repeat (first | apply Kd.R_alloc | apply Kd.R_drewN | apply Kd.R_drew)); exact HO459.out) hb); have n1_ := Aside0.mk (Kd.R_below (by (with_reducible repeat (first | apply Kd.R_alloc | apply Kd.R_drewN | apply Kd.R_drew)); exact HO463.out) hb); have n2_ := Aside0.mk (below_step (by repeat (first | (with_reducible first | exact HB.out | apply below_alloc | apply pw_below_drewN | apply below_drew1) | exact HB.out)) hb); clear HO459; clear HO463; clear HB; have HO459 := n0_; have HO463 := n1_; have HB := n2_; clear n0_ n1_ n2_; (try clear hb); (try clear hb2); (try clear hk); (try clear hi); obtain ⟨Ao37, co37, eo37⟩ := Kd.R_slice HO463.out; subst eo37) | ((with_reducible refine gate_callee (f := 26) rfl ?_); refine goesL_ (some 56) rfl rfl Tryd.func26 (by kernel_rfl) rfl #[.slice Ao37 t460.length co37, .slice A0 l0.length c0] rfl (by (try simp only [List.map_toArray, List.map_cons, List.map_nil]); first | done | rfl | (simp only [List.length_drop, List.length_take]; rfl)) ?_; (with_reducible refine (slices_Equal_rune_rune.calls k2 _ _ t460 _ _ l0 true _ ?side1 ?side2 ?side3 ?side4 A18.out).mono ?_); (case side1 => repeat (first | exact (Kd.R_reads' HO463.out).2.2 | (with_reducible refine Kd.C_alloc ?_ _) | (with_reducible refine Kd.C_drewN ?_ _) | (with_reducible refine Kd.C_drew ?_))); (case side2 => exact (Kd.R_reads' HO463.out).2.1); (case side3 => repeat (first | exact (Kd.C_below HR0.out HB.out) | (with_reducible refine Kd.C_alloc ?_ _) | (with_reducible refine Kd.C_drewN ?_ _) | (with_reducible refine Kd.C_drew ?_))); (case side4 => exact HC0.out); rintro e w' ⟨rfl, ⟨nd, rfl⟩⟩; refine ⟨_, rfl, ?_⟩))
                          go_ret
                          exact ⟨by first | rfl | (simp [errW_none, errW_some] <;> rfl) | (simp [*, errW_none, errW_some] <;> rfl), by repeat (first | (with_reducible first | exact HB.out | apply below_alloc | apply pw_below_drewN | apply below_drew1) | exact HB.out)⟩
                      · rw [if_neg c20] at H
                        have c20b0 : (t461 == 0) = false := beq_eq_false_iff_ne.mpr c20
                        have c20b1 : (t461 != 0) = true := bne_iff_ne.mpr c20
                        obtain rfl := Option.some.inj H
                        go_wp2_with (first | ((with_reducible refine gate_callee (f := 19) rfl ?_); refine goesL_ (some 37) rfl rfl Tryd.func19 (by kernel_rfl) rfl #[.slice A0 l0.length c0, .int .i64 x31_2] rfl (by (try simp only [List.map_toArray, List.map_cons, List.map_nil]); first | done | rfl | (simp only [List.length_drop, List.length_take]; rfl)) ?_; (with_reducible refine (text_Encode.calls _ _ l0 x31_2 t456 t457 _ ?side1 ?side2 A14.out).mono ?_); (case side1 => repeat (first | exact (Kd.C_below HR0.out HB.out) | (with_reducible refine Kd.C_alloc ?_ _) | (with_reducible refine Kd.C_drewN ?_ _) | (with_reducible refine Kd.C_drew ?_))); (case side2 => exact HC0.out); rintro e w38 ⟨v458, rfl, ho0, hb⟩; refine ⟨_, rfl, ?_⟩; have n0_ := Aside0.mk (Kd.R_lower ho0 (below_size (by repeat (first | (with_reducible first | exact HB.out | apply below_alloc | apply pw_below_drewN | apply below_drew1) | exact HB.out)))); have n1_ := Aside0.mk (below_step (by repeat (first | (with_reducible first | exact HB.out | apply below_alloc | apply pw_below_drewN | apply below_drew1) | exact HB.out)) hb); clear HB; have HO459 := n0_; have HB := n1_; clear n0_ n1_; (try clear hb); (try clear hb2); (try clear hk); (try clear hi); (try clear ho0); obtain ⟨Ao39, co39, eo39⟩ := Kd.R_slice HO459.out; subst eo39) | ((with_reducible refine gate_callee (f := 13) rfl ?_); refine goesL_ (some 46) rfl rfl Tryd.func13 (by kernel_rfl) rfl #[.slice Ao39 t456.length co39] rfl (by (try simp only [List.map_toArray, List.map_cons, List.map_nil]); first | done | rfl | (simp only [List.length_drop, List.length_take]; rfl)) ?_; (with_reducible refine (text_Runes.calls k2 _ _ t456 t460 t461 _ ?side1 ?side2 ?side3 A16.out).mono ?_); (case side1 => repeat (first | exact (Kd.R_reads' HO459.out).2.2 | (with_reducible refine Kd.C_alloc ?_ _) | (with_reducible refine Kd.C_drewN ?_ _) | (with_reducible refine Kd.C_drew ?_))); (case side2 => exact (Kd.R_reads' HO459.out).2.1); (case side3 => exact Tabs.Holds.below HT.out (by repeat (first | (with_reducible first | exact HB.out | apply below_alloc | apply pw_below_drewN | apply below_drew1) | exact HB.out))); rintro e w40 ⟨v462, rfl, ho0, hb⟩; refine ⟨_, rfl, ?_⟩; have n0_ := Aside0.mk (Kd.R_below (by (with_reducible repeat (first | apply Kd.R_alloc | apply Kd.R_drewN | apply Kd.R_drew)); exact HO459.out) hb); have n1_ := Aside0.mk (Kd.R_lower ho0 (below_size (by repeat (first | (with_reducible first | exact HB.out | apply below_alloc | apply pw_below_drewN | apply below_drew1) | exact HB.out)))); have n2_ := Aside0.mk (below_step (by repeat (first | (with_reducible first | exact HB.out | apply below_alloc | apply pw_below_drewN | apply below_drew1) | exact HB.out)) hb); clear HO459; clear HB; have HO459 := n0_; have HO463 := n1_; have HB := n2_; clear n0_ n1_ n2_; (try clear hb); (try clear hb2); (try clear hk); (try clear hi); (try clear ho0)) | ((with_reducible refine gate_callee (f := 15) rfl ?_); refine goesL_ (some 51) rfl rfl Tryd.func15 (by kernel_rfl) rfl #[.slice Ao39 t456.length co39] rfl (by (try simp only [List.map_toArray, List.map_cons, List.map_nil]); first | done | rfl | (simp only [List.length_drop, List.length_take]; rfl)) ?_; (with_reducible refine (text_Decode.calls k2 _ _ t456 t464 t465 _ ?side1 ?side2 ?side3 A17.out).mono ?_); (case side1 => repeat (first | exact (Kd.R_reads' HO459.out).2.2 | (with_reducible refine Kd.C_alloc ?_ _) | (with_reducible refine Kd.C_drewN ?_ _) | (with_reducible refine Kd.C_drew ?_))); (case side2 => exact (Kd.R_reads' HO459.out).2.1); (case side3 => exact Tabs.Holds.below HT.out (by repeat (first | (with_reducible first | exact HB.out | apply below_alloc | apply pw_below_drewN | apply below_drew1) | exact HB.out))); rintro e w41 ⟨rfl, hb⟩; refine ⟨_, rfl, ?_⟩; have n0_ := Aside0.mk (Kd.R_below (by (with_reducible repeat (first | apply Kd.R_alloc | apply Kd.R_drewN | apply Kd.R_drew)); exact HO459.out) hb); have n1_ := Aside0.mk (Kd.R_below (by (with_reducible repeat (first | apply Kd.R_alloc | apply Kd.R_drewN | apply Kd.R_drew)); exact HO463.out) hb); have n2_ := Aside0.mk (below_step (by repeat (first | (with_reducible first | exact HB.out | apply below_alloc | apply pw_below_drewN | apply below_drew1) | exact HB.out)) hb); clear HO459; clear HO463; clear HB; have HO459 := n0_; have HO463 := n1_; have HB := n2_; clear n0_ n1_ n2_; (try clear hb); (try clear hb2); (try clear hk); (try clear hi); obtain ⟨Ao42, co42, eo42⟩ := Kd.R_slice HO463.out; subst eo42) | ((with_reducible refine gate_callee (f := 26) rfl ?_); refine goesL_ (some 56) rfl rfl Tryd.func26 (by kernel_rfl) rfl #[.slice Ao42 t460.length co42, .slice A0 l0.length c0] rfl (by (try simp only [List.map_toArray, List.map_cons, List.map_nil]); first | done | rfl | (simp only [List.length_drop, List.length_take]; rfl)) ?_; (with_reducible refine (slices_Equal_rune_rune.calls k2 _ _ t460 _ _ l0 true _ ?side1 ?side2 ?side3 ?side4 A18.out).mono ?_); (case side1 => repeat (first | exact (Kd.R_reads' HO463.out).2.2 | (with_reducible refine Kd.C_alloc ?_ _) | (with_reducible refine Kd.C_drewN ?_ _) | (with_reducible refine Kd.C_drew ?_))); (case side2 => exact (Kd.R_reads' HO463.out).2.1); (case side3 => repeat (first | exact (Kd.C_below HR0.out HB.out) | (with_reducible refine Kd.C_alloc ?_ _) | (with_reducible refine Kd.C_drewN ?_ _) | (with_reducible refine Kd.C_drew ?_))); (case side4 => exact HC0.out); rintro e w' ⟨rfl, ⟨nd, rfl⟩⟩; refine ⟨_, rfl, ?_⟩))
                        go_ret
                        exact ⟨by first | rfl | (simp [errW_none, errW_some] <;> rfl) | (simp [*, errW_none, errW_some] <;> rfl), by repeat (first | (with_reducible first | exact HB.out | apply below_alloc | apply pw_below_drewN | apply below_drew1) | exact HB.out)⟩
                    · replace c19 := Bool.eq_false_iff.mpr c19
                      subst c19
                      have H1 : (some false) = some r := by rw [if_neg (show ¬ (false = true) by decide)] at H; exact H
                      clear H
                      have H := H1
                      clear H1
                      obtain rfl := Option.some.inj H
                      go_wp2_with (first | ((with_reducible refine gate_callee (f := 19) rfl ?_); refine goesL_ (some 37) rfl rfl Tryd.func19 (by kernel_rfl) rfl #[.slice A0 l0.length c0, .int .i64 x31_2] rfl (by (try simp only [List.map_toArray, List.map_cons, List.map_nil]); first | done | rfl | (simp only [List.length_drop, List.length_take]; rfl)) ?_; (with_reducible refine (text_Encode.calls _ _ l0 x31_2 t456 t457 _ ?side1 ?side2 A14.out).mono ?_); (case side1 => repeat (first | exact (Kd.C_below HR0.out HB.out) | (with_reducible refine Kd.C_alloc ?_ _) | (with_reducible refine Kd.C_drewN ?_ _) | (with_reducible refine Kd.C_drew ?_))); (case side2 => exact HC0.out); rintro e w43 ⟨v458, rfl, ho0, hb⟩; refine ⟨_, rfl, ?_⟩; have n0_ := Aside0.mk (Kd.R_lower ho0 (below_size (by repeat (first | (with_reducible first | exact HB.out | apply below_alloc | apply pw_below_drewN | apply below_drew1) | exact HB.out)))); have n1_ := Aside0.mk (below_step (by repeat (first | (with_reducible first | exact HB.out | apply below_alloc | apply pw_below_drewN | apply below_drew1) | exact HB.out)) hb); clear HB; have HO459 := n0_; have HB := n1_; clear n0_ n1_; (try clear hb); (try clear hb2); (try clear hk); (try clear hi); (try clear ho0); obtain ⟨Ao44, co44, eo44⟩ := Kd.R_slice HO459.out; subst eo44) | ((with_reducible refine gate_callee (f := 13) rfl ?_); refine goesL_ (some 46) rfl rfl Tryd.func13 (by kernel_rfl) rfl #[.slice Ao44 t456.length co44] rfl (by (try simp only [List.map_toArray, List.map_cons, List.map_nil]); first | done | rfl | (simp only [List.length_drop, List.length_take]; rfl)) ?_; (with_reducible refine (text_Runes.calls k2 _ _ t456 t460 t461 _ ?side1 ?side2 ?side3 A16.out).mono ?_); (case side1 => repeat (first | exact (Kd.R_reads' HO459.out).2.2 | (with_reducible refine Kd.C_alloc ?_ _) | (with_reducible refine Kd.C_drewN ?_ _) | (with_reducible refine Kd.C_drew ?_))); (case side2 => exact (Kd.R_reads' HO459.out).2.1); (case side3 => exact Tabs.Holds.below HT.out (by repeat (first | (with_reducible first | exact HB.out | apply below_alloc | apply pw_below_drewN | apply below_drew1) | exact HB.out))); rintro e w45 ⟨v462, rfl, ho0, hb⟩; refine ⟨_, rfl, ?_⟩; have n0_ := Aside0.mk (Kd.R_below (by (with_reducible repeat (first | apply Kd.R_alloc | apply Kd.R_drewN | apply Kd.R_drew)); exact HO459.out) hb); have n1_ := Aside0.mk (Kd.R_lower ho0 (below_size (by repeat (first | (with_reducible first | exact HB.out | apply below_alloc | apply pw_below_drewN | apply below_drew1) | exact HB.out)))); have n2_ := Aside0.mk (below_step (by repeat (first | (with_reducible first | exact HB.out | apply below_alloc | apply pw_below_drewN | apply below_drew1) | exact HB.out)) hb); clear HO459; clear HB; have HO459 := n0_; have HO463 := n1_; have HB := n2_; clear n0_ n1_ n2_; (try clear hb); (try clear hb2); (try clear hk); (try clear hi); (try clear ho0)) | ((with_reducible refine gate_callee (f := 15) rfl ?_); refine goesL_ (some 51) rfl rfl Tryd.func15 (by kernel_rfl) rfl #[.slice Ao44 t456.length co44] rfl (by (try simp only [List.map_toArray, List.map_cons, List.map_nil]); first | done | rfl | (simp only [List.length_drop, List.length_take]; rfl)) ?_; (with_reducible refine (text_Decode.calls k2 _ _ t456 t464 t465 _ ?side1 ?side2 ?side3 A17.out).mono ?_); (case side1 => repeat (first | exact (Kd.R_reads' HO459.out).2.2 | (with_reducible refine Kd.C_alloc ?_ _) | (with_reducible refine Kd.C_drewN ?_ _) | (with_reducible refine Kd.C_drew ?_))); (case side2 => exact (Kd.R_reads' HO459.out).2.1); (case side3 => exact Tabs.Holds.below HT.out (by repeat (first | (with_reducible first | exact HB.out | apply below_alloc | apply pw_below_drewN | apply below_drew1) | exact HB.out))); rintro e w46 ⟨rfl, hb⟩; refine ⟨_, rfl, ?_⟩; have n0_ := Aside0.mk (Kd.R_below (by (with_reducible repeat (first | apply Kd.R_alloc | apply Kd.R_drewN | apply Kd.R_drew)); exact HO459.out) hb); have n1_ := Aside0.mk (Kd.R_below (by (with_reducible repeat (first | apply Kd.R_alloc | apply Kd.R_drewN | apply Kd.R_drew)); exact HO463.out) hb); have n2_ := Aside0.mk (below_step (by repeat (first | (with_reducible first | exact HB.out | apply below_alloc | apply pw_below_drewN | apply below_drew1) | exact HB.out)) hb); clear HO459; clear HO463; clear HB; have HO459 := n0_; have HO463 := n1_; have HB := n2_; clear n0_ n1_ n2_; (try clear hb); (try clear hb2); (try clear hk); (try clear hi); obtain ⟨Ao47, co47, eo47⟩ := Kd.R_slice HO463.out; subst eo47) | ((with_reducible refine gate_callee (f := 26) rfl ?_); refine goesL_ (some 56) rfl rfl Tryd.func26 (by kernel_rfl) rfl #[.slice Ao47 t460.length co47, .slice A0 l0.length c0] rfl (by (try simp only [List.map_toArray, List.map_cons, List.map_nil]); first | done | rfl | (simp only [List.length_drop, List.length_take]; rfl)) ?_; (with_reducible refine (slices_Equal_rune_rune.calls k2 _ _ t460 _ _ l0 false _ ?side1 ?side2 ?side3 ?side4 A18.out).mono ?_); (case side1 => repeat (first | exact (Kd.R_reads' HO463.out).2.2 | (with_reducible refine Kd.C_alloc ?_ _) | (with_reducible refine Kd.C_drewN ?_ _) | (with_reducible refine Kd.C_drew ?_))); (case side2 => exact (Kd.R_reads' HO463.out).2.1); (case side3 => repeat (first | exact (Kd.C_below HR0.out HB.out) | (with_reducible refine Kd.C_alloc ?_ _) | (with_reducible refine Kd.C_drewN ?_ _) | (with_reducible refine Kd.C_drew ?_))); (case side4 => exact HC0.out); rintro e w' ⟨rfl, ⟨nd, rfl⟩⟩; refine ⟨_, rfl, ?_⟩))
                      go_ret
                      exact ⟨by first | rfl | (simp [errW_none, errW_some] <;> rfl) | (simp [*, errW_none, errW_some] <;> rfl), by repeat (first | (with_reducible first | exact HB.out | apply below_alloc | apply pw_below_drewN | apply below_drew1) | exact HB.out)⟩
                  · rw [if_neg c15] at H
                    have c15b0 : (t457 == 0) = false := beq_eq_false_iff_ne.mpr c15
                    have c15b1 : (t457 != 0) = true := bne_iff_ne.mpr c15
                    obtain rfl := Option.some.inj H
                    go_wp2_with (first | ((with_reducible refine gate_callee (f := 19) rfl ?_); refine goesL_ (some 37) rfl rfl Tryd.func19 (by kernel_rfl) rfl #[.slice A0 l0.length c0, .int .i64 x31_2] rfl (by (try simp only [List.map_toArray, List.map_cons, List.map_nil]); first | done | rfl | (simp only [List.length_drop, List.length_take]; rfl)) ?_; (with_reducible refine (text_Encode.calls _ _ l0 x31_2 t456 t457 _ ?side1 ?side2 A14.out).mono ?_); (case side1 => repeat (first | exact (Kd.C_below HR0.out HB.out) | (with_reducible refine Kd.C_alloc ?_ _) | (with_reducible refine Kd.C_drewN ?_ _) | (with_reducible refine Kd.C_drew ?_))); (case side2 => exact HC0.out); rintro e w48 ⟨v458, rfl, ho0, hb⟩; refine ⟨_, rfl, ?_⟩; have n0_ := Aside0.mk (Kd.R_lower ho0 (below_size (by repeat (first | (with_reducible first | exact HB.out | apply below_alloc | apply pw_below_drewN | apply below_drew1) | exact HB.out)))); have n1_ := Aside0.mk (below_step (by repeat (first | (with_reducible first | exact HB.out | apply below_alloc | apply pw_below_drewN | apply below_drew1) | exact HB.out)) hb); clear HB; have HO459 := n0_; have HB := n1_; clear n0_ n1_; (try clear hb); (try clear hb2); (try clear hk); (try clear hi); (try clear ho0)))
                    go_ret
                    exact ⟨by first | rfl | (simp [errW_none, errW_some] <;> rfl) | (simp [*, errW_none, errW_some] <;> rfl), by repeat (first | (with_reducible first | exact HB.out | apply below_alloc | apply pw_below_drewN | apply below_drew1) | exact HB.out)⟩
                · rw [if_neg c13] at H
                  have c13b0 : decide (x31_2 < 5) = false := decide_eq_false c13
                  clear c13
                  obtain rfl := Option.some.inj H
                  go_wp2
                  go_ret
                  exact ⟨by first | rfl | (simp [errW_none, errW_some] <;> rfl) | (simp [*, errW_none, errW_some] <;> rfl), by repeat (first | (with_reducible first | exact HB.out | apply below_alloc | apply pw_below_drewN | apply below_drew1) | exact HB.out)⟩
  · replace c3 := Bool.eq_false_iff.mpr c3
    subst c3
    have H1 : (some false) = some r := by rw [if_neg (show ¬ (false = true) by decide)] at H; exact H
    clear H
    have H := H1
    clear H1
    obtain rfl := Option.some.inj H
    go_enter Tryd.func5, Tryd.ntmps5
    go_wp2_with (first | ((with_reducible refine gate_callee (f := 10) rfl ?_); refine goesL_ (some 12) rfl rfl Tryd.func10 (by kernel_rfl) rfl #[] rfl (by (try simp only [List.map_toArray, List.map_cons, List.map_nil]); first | done | rfl | (simp only [List.length_drop, List.length_take]; rfl)) ?_; (with_reducible refine (grillelaw01_alive.calls  false _ ?side1 A2.out).mono ?_); (case side1 => exact Tabs.Holds.below HT.out (by repeat (first | (with_reducible first | exact HB.out | apply below_alloc | apply pw_below_drewN | apply below_drew1) | exact HB.out))); rintro e w49 ⟨rfl, hb⟩; refine ⟨_, rfl, ?_⟩; have n0_ := Aside0.mk (below_step (by repeat (first | (with_reducible first | exact HB.out | apply below_alloc | apply pw_below_drewN | apply below_drew1) | exact HB.out)) hb); clear HB; have HB := n0_; clear n0_; (try clear hb); (try clear hb2); (try clear hk); (try clear hi)))
    go_ret
    exact ⟨by first | rfl | (simp [errW_none, errW_some] <;> rfl) | (simp [*, errW_none, errW_some] <;> rfl), by repeat (first | (with_reducible first | exact HB.out | apply below_alloc | apply pw_below_drewN | apply below_drew1) | exact HB.out)⟩
def grillelaw01_TextBack.Pure : Prop := ∀ (l0 : List Int), l0.length ≤ maxLen → l0.length * 4 ≤ 140737488351232 → (∀ x ∈ l0, (Lit.int .i32 x).wf = true) → ∃ k, grillelaw01_TextBack.f k l0 = some true
theorem grillelaw01_TextBack.walk (P : grillelaw01_TextBack.Pure) (a0 : Option Addr) (len0 cap0 : Nat) (z0 : List Int) (w : World) (w0 : (a0 = none ∧ len0 = 0 ∧ cap0 = 0 ∧ z0 = []) ∨ ∃ x, a0 = some x ∧ len0 ≤ cap0 ∧ cap0 ≤ maxLen ∧ z0.length = cap0 ∧ (∀ i, i < z0.length → w.cell? (x.add i) = some (.int .i32 (z0.getD i 0))) ∧ ∀ n ∈ z0, (Lit.int .i32 n).wf = true) (y0 : len0 * 4 ≤ 140737488351232) (hT : Tabs.Holds w) :
    Calls Tryd.prog 5 #[.slice a0 len0 cap0] w fun e w' => e = .returned (.bool true) ∧ Below w.heap.size w w' := by
  obtain ⟨l0, rfl, hr0, hm0, hw0, hc0⟩ := ReadsInt.ofRowC w0
  obtain ⟨k, h⟩ := P l0 hm0 y0 hw0
  refine (grillelaw01_TextBack.calls k _ _ l0 true w (Kd.C_of_reads (d := (0 : Int)) (h1 := fun _ => rfl) hr0) hc0 hT h).mono ?_
  rintro e w' ⟨rfl, hd⟩
  exact ⟨rfl, hd⟩
end Go.Proofs.YtdbkefgdeenjoaaDoor.X
end
section
namespace Go.Proofs.YtdbkefgdeenjoaaDoor.Plain
set_option linter.unusedVariables false
set_option linter.unusedSimpArgs false
variable {α β : Type}
def Ev (g : Nat → Option α) (v : α) : Prop := ∃ K, ∀ k, K ≤ k → g k = some v
theorem Ev.ex {g : Nat → Option α} {v : α} (h : Ev g v) : ∃ k, g k = some v := let ⟨K, hk⟩ := h; ⟨K, hk K (Nat.le_refl _)⟩
theorem Ev.all {g : Nat → Option α} {v : α} (h : ∀ k, g k = some v) : Ev g v := ⟨0, fun k _ => h k⟩
theorem Ev.val (v : α) : Ev (fun _ => some v) v := ⟨0, fun _ _ => rfl⟩
theorem Ev.eq {g : Nat → Option α} {v u : α} (h : Ev g v) (e : v = u) : Ev g u := e ▸ h
theorem Ev.congr {f g : Nat → Option α} {v : α} (h : Ev g v) (e : ∀ k, f k = g k) : Ev f v := let ⟨K, hk⟩ := h; ⟨K, fun k hK => (e k).trans (hk k hK)⟩
theorem Ev.one {c : Option α} {v : α} (h : c = some v) : Ev (fun _ => c) v := ⟨0, fun _ _ => h⟩
theorem Ev.succ {g : Nat → Option α} {v : α} (h : Ev (fun k => g (k + 1)) v) : Ev g v := by
  obtain ⟨K, hk⟩ := h
  refine ⟨K + 1, fun k hK => ?_⟩
  obtain ⟨m, rfl⟩ : ∃ m, k = m + 1 := ⟨k - 1, by omega⟩
  exact hk m (by omega)
theorem Ev.bind {f : Nat → Option α} {g : Nat → α → Option β} {a : α} {b : β} (hf : Ev f a) (hg : Ev (fun k => g k a) b) : Ev (fun k => (f k).bind (g k)) b := by
  obtain ⟨K, hk⟩ := hf
  obtain ⟨L, hl⟩ := hg
  refine ⟨max K L, fun k h => ?_⟩
  show (f k).bind (g k) = _
  rw [hk k (by omega)]
  exact hl k (by omega)
theorem Ev.pos {c : Prop} [Decidable c] {f g : Nat → Option α} {v : α} (hc : c) (h : Ev f v) : Ev (fun k => if c then f k else g k) v := h.congr (fun k => if_pos hc)
theorem Ev.neg {c : Prop} [Decidable c] {f g : Nat → Option α} {v : α} (hc : ¬ c) (h : Ev g v) : Ev (fun k => if c then f k else g k) v := h.congr (fun k => if_neg hc)
theorem Ev.ite {c : Prop} [Decidable c] {f g : Nat → Option α} {v u : α} (h : c → Ev f v) (h' : ¬ c → Ev g u) : Ev (fun k => if c then f k else g k) (if c then v else u) := by
  by_cases hc : c
  · rw [if_pos hc]; exact Ev.pos hc (h hc)
  · rw [if_neg hc]; exact Ev.neg hc (h' hc)
end Go.Proofs.YtdbkefgdeenjoaaDoor.Plain
end
section
namespace Go.Proofs.YtdbkefgdeenjoaaDoor.Plain
set_option linter.unusedVariables false
set_option linter.unusedSimpArgs false
open Go.RowKit Go.Proofs.YtdbkefgdeenjoaaDoor.X Go.Proofs.YtdbkefgdeenjoaaDoorW.PrintWords Go.Proofs.YtdbkefgdeenjoaaDoorW.PrintLast Go.Proofs.YtdbkefgdeenjoaaDoorW.PrintMore
def u2 (r : Int) (big : Bool) : List Int := if big then [r / 256 % 256, r % 256] else [r % 256, r / 256 % 256]
def u4 (r : Int) (big : Bool) : List Int := if big then [r / 16777216 % 256, r / 65536 % 256, r / 256 % 256, r % 256] else [r % 256, r / 256 % 256, r / 65536 % 256, r / 16777216 % 256]
def enc1 (size : Int) (big : Bool) (r : Int) : List Int :=
  if size = 1 then Lib.encodeRuneZ r else if size = 2 then (if 65536 ≤ r then u2 (55296 + (r - 65536) / 1024) big ++ u2 (56320 + (r - 65536) % 1024) big else u2 r big) else u4 r big
theorem w64 (n : Int) (h0 : -9223372036854775808 ≤ n) (h1 : n ≤ 9223372036854775807) : wrap64 n = n := by unfold wrap64; omega
theorem unit2 (lb : List Int) (r : Int) (big : Bool) (h : lb.length + 8 ≤ 140737488355328) : text_unit.f 5 lb r 2 big = some (lb ++ u2 r big) := by
  have h1 : lb.length < 140737488355328 := by omega
  have h2 : lb.length + 1 < 140737488355328 := by omega
  cases big <;> simp [text_unit.f, text_unit.l0, shr, wrap64, u2, h1, h2, IntKind.bits]
theorem unit4 (lb : List Int) (r : Int) (big : Bool) (h : lb.length + 8 ≤ 140737488355328) : text_unit.f 5 lb r 4 big = some (lb ++ u4 r big) := by
  have h1 : lb.length < 140737488355328 := by omega
  have h2 : lb.length + 1 < 140737488355328 := by omega
  have h3 : lb.length + 2 < 140737488355328 := by omega
  have h4 : lb.length + 3 < 140737488355328 := by omega
  cases big <;> simp [text_unit.f, text_unit.l0, shr, wrap64, u4, h1, h2, h3, h4, IntKind.bits]
theorem and1023 (x : Int) (h0 : 0 ≤ x) (h1 : x < 2147483648) : Go.bits .and .i32 x 1023 = x % 1024 := by
  obtain ⟨n, rfl⟩ : ∃ n : Nat, x = (n : Int) := ⟨x.toNat, by omega⟩
  have hn : n < 2147483648 := by omega
  have e : n &&& 1023 = n % 1024 := Nat.and_two_pow_sub_one_eq_mod n 10
  unfold Go.bits
  have hx : (BitVec.ofInt IntKind.i32.bits (n : Int) &&& BitVec.ofInt IntKind.i32.bits 1023).toNat = n &&& 1023 := by
    have h2 : n % 4294967296 = n := Nat.mod_eq_of_lt (by omega)
    show (BitVec.ofInt 32 (n : Int) &&& BitVec.ofInt 32 1023).toNat = n &&& 1023
    rw [BitVec.toNat_and]
    have h3 : (BitVec.ofInt 32 (n : Int)).toNat = n := by simp [BitVec.toNat_ofInt]; omega
    have h4 : (BitVec.ofInt 32 1023).toNat = 1023 := by decide
    rw [h3, h4]
  simp only [hx, e]
  rw [i32_w]
  unfold wrap32
  omega
theorem put_eq (lb : List Int) (r size : Int) (big : Bool) (hs : size = 1 ∨ size = 2 ∨ size = 4) (h0 : 0 ≤ r) (h1 : r ≤ 1114111) (h : lb.length + 16 ≤ 140737488355328) : text_Encode.put lb r size big = some (lb ++ enc1 size big r) := by
  unfold text_Encode.put enc1
  rcases hs with rfl | rfl | rfl
  · rw [if_pos rfl, if_pos rfl, if_pos (by omega)]
  · have a1 : ¬ (2 : Int) = 1 := by decide
    rw [if_neg a1, if_pos (rfl : (2 : Int) = 2), if_neg a1, if_pos (rfl : (2 : Int) = 2)]
    by_cases hr : 65536 ≤ r
    · have e1 : wrap32 (r - 65536) = r - 65536 := by unfold wrap32; omega
      have e2 : wrap32 (55296 + (r - 65536) / 1024) = 55296 + (r - 65536) / 1024 := by unfold wrap32; omega
      have e3 : wrap32 (56320 + (r - 65536) % 1024) = 56320 + (r - 65536) % 1024 := by unfold wrap32; omega
      rw [if_pos hr, if_pos hr, e1, e2, unit2 _ _ _ (by omega), and1023 _ (by omega) (by omega), e3]
      show text_unit.f 5 (lb ++ u2 _ big) _ 2 big = _
      rw [unit2 _ _ _ (by simp [u2]; split <;> simp <;> omega), List.append_assoc]
    · rw [if_neg hr, if_neg hr, unit2 _ _ _ (by omega)]
  · have a1 : ¬ (4 : Int) = 1 := by decide
    have a2 : ¬ (4 : Int) = 2 := by decide
    rw [if_neg a1, if_neg a2, if_neg a1, if_neg a2, unit4 _ _ _ (by omega)]
theorem enc1_length (size : Int) (big : Bool) (r : Int) : (enc1 size big r).length ≤ 4 := by
  unfold enc1 u2 u4
  have := (Lib.encodeRuneZ_length r).2
  repeat' split
  all_goals simp <;> omega
def ok (r : Int) : Prop := 0 ≤ r ∧ r ≤ 1114111 ∧ ¬ (55296 ≤ r ∧ r ≤ 57343)
instance (r : Int) : Decidable (ok r) := by unfold ok; infer_instance
theorem valid_eq (r : Int) : utf8_ValidRune.f r = some (decide (ok r)) := by
  unfold utf8_ValidRune.f ok
  repeat' split
  all_goals (simp only [Option.some.injEq]; symm; simp; omega)
theorem go_eq (size : Int) (big : Bool) (hs : size = 1 ∨ size = 2 ∨ size = 4) : ∀ (l b : List Int), b.length + 4 * l.length + 16 ≤ 140737488355328 →
    text_Encode.go size big l b = some (if ∀ r ∈ l, ok r then (b ++ l.flatMap (enc1 size big), 0) else ([], 6))
  | [], b, _ => by simp [text_Encode.go]
  | r :: t, b, h => by
    simp only [List.length_cons] at h
    unfold text_Encode.go
    rw [valid_eq]
    simp only [Option.bind_some]
    by_cases hr : ok r
    · rw [if_pos (by simp [hr]), put_eq b r size big hs hr.1 hr.2.1 (by omega)]
      simp only [Option.bind_some]
      rw [go_eq size big hs t _ (by have := enc1_length size big r; rw [List.length_append]; omega)]
      by_cases ht : ∀ r ∈ t, ok r
      · rw [if_pos ht, if_pos (by simpa [hr] using ht)]
        simp
      · rw [if_neg ht, if_neg (by simpa [hr] using ht)]
    · rw [if_neg (by simp [hr]), if_neg (by simp [hr])]
def sizeOf (code : Int) : Int := if code = 2 ∨ code = 1 then 2 else if code = 4 ∨ code = 3 then 4 else 1
def bigOf (code : Int) : Bool := decide (code = 2 ∨ code = 4)
theorem wide_eq (code : Int) : text_wide.f code = some (sizeOf code, bigOf code) := by
  unfold text_wide.f sizeOf bigOf
  repeat' split
  all_goals simp_all
def encode (code : Int) (l : List Int) : List Int := (65279 :: l).flatMap (enc1 (sizeOf code) (bigOf code))
theorem sizes (code : Int) : sizeOf code = 1 ∨ sizeOf code = 2 ∨ sizeOf code = 4 := by
  unfold sizeOf
  split
  · simp
  · split <;> simp
theorem encode_eq (l : List Int) (code : Int) (h : l.length ≤ 4294967296) : text_Encode.f l code = some (if code < 0 ∨ 4 < code then ([], 2) else if ∀ r ∈ l, ok r then (encode code l, 0) else ([], 6)) := by
  unfold text_Encode.f
  by_cases h0 : code < 0
  · rw [if_pos h0, if_pos (.inl h0)]
  rw [if_neg h0]
  by_cases h4 : 4 < code
  · rw [if_pos h4, if_pos (.inr h4)]
  rw [if_neg h4, if_pos h, if_neg (by omega), wide_eq]
  simp only [Option.bind_some]
  rw [put_eq _ _ _ _ (sizes code) (by decide) (by decide) (by simp)]
  simp only [Option.bind_some, List.nil_append]
  rw [go_eq _ _ (sizes code) _ _ (by have := enc1_length (sizeOf code) (bigOf code) 65279; omega)]
  simp [encode]
end Go.Proofs.YtdbkefgdeenjoaaDoor.Plain
end
section
namespace Go.Proofs.YtdbkefgdeenjoaaDoor.Plain
set_option linter.unusedVariables false
set_option linter.unusedSimpArgs false
open Go.RowKit Go.Proofs.YtdbkefgdeenjoaaDoor.X Go.Proofs.YtdbkefgdeenjoaaDoorW.PrintWords Go.Proofs.YtdbkefgdeenjoaaDoorW.PrintLast Go.Proofs.YtdbkefgdeenjoaaDoorW.PrintMore
def pre : List Int → List Int → Bool
  | [], _ => true
  | _ :: _, [] => false
  | x :: r, y :: b => y == x && pre r b
theorem w64' (n : Nat) (h : n < 4611686018427387904) : wrap64 ((n : Int) + 1) = ((n + 1 : Nat) : Int) := by unfold wrap64; omega
theorem rd_nat (l : List Int) (i : Nat) (h : i < l.length) : rd l (i : Int) = l[i] := by
  unfold rd
  rw [List.getD_eq_getElem?_getD, show ((i : Int)).toNat = i from by omega, List.getElem?_eq_getElem h]
  rfl
theorem drop_nat (l : List Int) (i : Nat) (h : i < l.length) : l.drop i = rd l (i : Int) :: l.drop (i + 1) := by
  rw [rd_nat l i h]; exact List.drop_eq_getElem_cons h
theorem at_eq (b : List Int) (i : Nat) : text_at.f b (i : Int) = some (if i < b.length then (rd b (i : Int), true) else (0, false)) := by
  unfold text_at.f
  by_cases h : i < b.length
  · rw [if_neg (by omega), if_pos (by omega), if_pos (by omega), if_pos h]
  · rw [if_pos (by omega), if_neg h]
theorem begins_loop (b row : List Int) (hl : row.length < 4611686018427387904) : ∀ (n i : Nat), i + n = row.length → Ev (fun k => text_begins.l0 k b row (row.length : Int) (i : Int)) (pre (row.drop i) (b.drop i))
  | 0, i, h => by
    refine Ev.succ ?_
    simp only [text_begins.l0]
    refine Ev.neg (by omega) ?_
    rw [List.drop_eq_nil_of_le (by omega)]
    exact Ev.val _
  | n + 1, i, h => by
    refine Ev.succ ?_
    simp only [text_begins.l0]
    refine Ev.pos (by omega) (Ev.pos (by omega) (Ev.pos (by omega) ?_))
    rw [at_eq]
    simp only [Option.bind_some]
    rw [drop_nat row i (by omega)]
    by_cases hb : i < b.length
    · rw [if_pos hb, drop_nat b i hb]
      refine Ev.pos rfl ?_
      by_cases he : rd b (i : Int) = rd row (i : Int)
      · refine Ev.pos he ?_
        rw [w64' i (by omega)]
        refine (begins_loop b row hl n (i + 1) (by omega)).eq ?_
        simp [pre, he]
      · refine Ev.neg he ?_
        refine (Ev.val _).eq ?_
        simp [pre, he]
    · have hd : b.drop i = [] := List.drop_eq_nil_of_le (by omega)
      rw [if_neg hb, hd]
      refine Ev.neg (by simp) ?_
      exact (Ev.val false).eq rfl
theorem begins_eq (b row : List Int) (hl : row.length < 4611686018427387904) : Ev (fun k => text_begins.f k b row) (pre row b) := by
  simp only [text_begins.f]
  exact (begins_loop b row hl row.length 0 (by omega)).eq (by simp)
def nz (b : List Int) (i : Nat) : Bool := decide (i < b.length) && rd b (i : Int) != 0
theorem some_eq (b : List Int) (i : Nat) : text_some.f b (i : Int) = some (nz b i) := by
  unfold text_some.f nz
  rw [at_eq]
  by_cases h : i < b.length <;> simp [h]
def detect3 (b : List Int) : Int × Int := if (nz b 0 && pre [0] (b.drop 1)) = true then (1, 0) else if pre [239, 187, 191] b = true then (0, 3) else (0, 0)
def detect2 (b : List Int) : Int × Int := if (pre [0] b && nz b 1) = true then (2, 0) else if pre [255, 254] b = true then (1, 2) else detect3 b
def detect1 (b : List Int) : Int × Int := if (nz b 0 && pre [0, 0, 0] (b.drop 1)) = true then (3, 0) else if pre [254, 255] b = true then (2, 2) else detect2 b
def detect (b : List Int) : Int × Int := if pre [0, 0, 254, 255] b = true then (4, 4) else if (pre [0, 0, 0] b && nz b 3) = true then (4, 0) else if pre [255, 254, 0, 0] b = true then (3, 4) else detect1 b
theorem j3_eq (b : List Int) (x : Bool) : Ev (fun k => text_Detect.j3 k b 0 x) (if x = true then (1, 0) else if pre [239, 187, 191] b = true then (0, 3) else (0, 0)) := by
  refine Ev.succ ?_
  simp only [text_Detect.j3]
  refine Ev.ite (fun _ => Ev.val _) (fun _ => ?_)
  refine Ev.bind (begins_eq _ _ (by decide)) ?_
  exact Ev.ite (fun _ => Ev.val _) (fun _ => Ev.val _)
theorem j2_eq (b : List Int) (x : Bool) : Ev (fun k => text_Detect.j2 k b 0 x) (if x = true then (2, 0) else if pre [255, 254] b = true then (1, 2) else detect3 b) := by
  refine Ev.succ ?_
  simp only [text_Detect.j2]
  refine Ev.ite (fun _ => Ev.val _) (fun _ => ?_)
  refine Ev.bind (begins_eq _ _ (by decide)) ?_
  refine Ev.ite (fun _ => Ev.val _) (fun _ => ?_)
  rw [show text_some.f b 0 = some (nz b 0) from some_eq b 0]
  simp only [Option.bind_some]
  unfold detect3
  by_cases h0 : nz b 0 = true
  · refine Ev.pos h0 ?_
    by_cases h1 : (b.length : Int) > 1
    · refine Ev.pos h1 (Ev.pos (by omega) (Ev.bind (begins_eq _ _ (by decide)) ?_))
      exact (j3_eq b _).eq (by simp [h0])
    · refine Ev.neg h1 ((j3_eq b _).eq ?_)
      rw [List.drop_eq_nil_of_le (by omega)]
      simp [pre]
  · refine Ev.neg h0 ((j3_eq b _).eq ?_)
    simp [h0]
theorem j1_eq (b : List Int) (x : Bool) : Ev (fun k => text_Detect.j1 k b 0 x) (if x = true then (3, 0) else if pre [254, 255] b = true then (2, 2) else detect2 b) := by
  refine Ev.succ ?_
  simp only [text_Detect.j1]
  refine Ev.ite (fun _ => Ev.val _) (fun _ => ?_)
  refine Ev.bind (begins_eq _ _ (by decide)) ?_
  refine Ev.ite (fun _ => Ev.val _) (fun _ => ?_)
  refine Ev.bind (begins_eq _ _ (by decide)) ?_
  rw [show text_some.f b 1 = some (nz b 1) from some_eq b 1]
  simp only [Option.bind_some]
  unfold detect2
  by_cases h0 : pre [0] b = true
  · refine Ev.pos h0 ((j2_eq b _).eq ?_)
    simp [h0]
  · refine Ev.neg h0 ((j2_eq b _).eq ?_)
    simp [h0]
theorem j0_eq (b : List Int) (x : Bool) : Ev (fun k => text_Detect.j0 k b 0 x) (if x = true then (4, 0) else if pre [255, 254, 0, 0] b = true then (3, 4) else detect1 b) := by
  refine Ev.succ ?_
  simp only [text_Detect.j0]
  refine Ev.ite (fun _ => Ev.val _) (fun _ => ?_)
  refine Ev.bind (begins_eq _ _ (by decide)) ?_
  refine Ev.ite (fun _ => Ev.val _) (fun _ => ?_)
  rw [show text_some.f b 0 = some (nz b 0) from some_eq b 0]
  simp only [Option.bind_some]
  unfold detect1
  by_cases h0 : nz b 0 = true
  · refine Ev.pos h0 ?_
    by_cases h1 : (b.length : Int) > 3
    · refine Ev.pos h1 (Ev.pos (by omega) (Ev.bind (begins_eq _ _ (by decide)) ?_))
      exact (j1_eq b _).eq (by simp [h0])
    · refine Ev.neg h1 ((j1_eq b _).eq ?_)
      have : pre [0, 0, 0] (b.drop 1) = false := by
        match b, h1 with
        | [], _ => rfl
        | [_], _ => rfl
        | [_, _], _ => simp [pre]
        | [_, _, _], _ => simp [pre]
        | _ :: _ :: _ :: _ :: _, h1 => exact absurd (by simp only [List.length_cons]; omega) h1
      rw [this]
      simp
  · refine Ev.neg h0 ((j1_eq b _).eq ?_)
    simp [h0]
theorem detect_eq (b : List Int) : Ev (fun k => text_Detect.f k b) (detect b) := by
  simp only [text_Detect.f]
  refine Ev.bind (begins_eq _ _ (by decide)) ?_
  unfold detect
  refine Ev.ite (fun _ => Ev.val _) (fun _ => ?_)
  refine Ev.bind (begins_eq _ _ (by decide)) ?_
  rw [show text_some.f b 3 = some (nz b 3) from some_eq b 3]
  simp only [Option.bind_some]
  by_cases h0 : pre [0, 0, 0] b = true
  · refine Ev.pos h0 ((j0_eq b _).eq ?_)
    simp [h0]
  · refine Ev.neg h0 ((j0_eq b _).eq ?_)
    simp [h0]
end Go.Proofs.YtdbkefgdeenjoaaDoor.Plain
end
section
namespace Go.Proofs.YtdbkefgdeenjoaaDoor.Plain
set_option linter.unusedVariables false
set_option linter.unusedSimpArgs false
open Go.RowKit Go.Proofs.YtdbkefgdeenjoaaDoor.X Go.Proofs.YtdbkefgdeenjoaaDoorW.PrintWords Go.Proofs.YtdbkefgdeenjoaaDoorW.PrintLast Go.Proofs.YtdbkefgdeenjoaaDoorW.PrintMore
def mark (code : Int) : List Int := if code = 0 then [239, 187, 191] else if code = 1 then [255, 254] else if code = 2 then [254, 255] else if code = 3 then [255, 254, 0, 0] else [0, 0, 254, 255]
def body (code : Int) (l : List Int) : List Int := l.flatMap (enc1 (sizeOf code) (bigOf code))
theorem encode_mark (code : Int) (l : List Int) (h0 : 0 ≤ code) (h4 : code ≤ 4) : encode code l = mark code ++ body code l := by
  unfold encode body
  rw [List.flatMap_cons]
  congr 1
  have : code = 0 ∨ code = 1 ∨ code = 2 ∨ code = 3 ∨ code = 4 := by omega
  rcases this with rfl | rfl | rfl | rfl | rfl <;> decide
theorem ok_first (r : Int) (h : ok r) (h0 : r ≠ 0) (t : List Int) : pre [0, 0] (enc1 2 false r ++ t) = false := by
  obtain ⟨a, b, c⟩ := h
  unfold enc1
  rw [if_neg (by decide), if_pos rfl]
  by_cases hr : 65536 ≤ r
  · rw [if_pos hr]
    simp only [u2, pre, List.cons_append, List.nil_append, Bool.false_eq_true, if_false]
    have : ¬ (55296 + (r - 65536) / 1024) / 256 % 256 = 0 := by omega
    simp [this]
  · rw [if_neg hr]
    simp only [u2, pre, List.cons_append, List.nil_append, Bool.false_eq_true, if_false]
    have : ¬ (r % 256 = 0 ∧ r / 256 % 256 = 0) := by omega
    simp only [Bool.and_true]
    rw [← Bool.not_eq_true]
    simpa using this
theorem body_first (l : List Int) (h : ∀ r ∈ l, ok r) (hz : l.head? ≠ some 0) : pre [0, 0] (body 1 l) = false := by
  cases l with
  | nil => rfl
  | cons r t =>
    have e : body 1 (r :: t) = enc1 2 false r ++ body 1 t := by unfold body; rw [List.flatMap_cons]; rfl
    rw [e]
    exact ok_first r (h r (by simp)) (by simpa using hz) _
def markLen (code : Int) : Int := if code = 0 then 3 else if code = 1 ∨ code = 2 then 2 else 4
theorem detect_encode (code : Int) (l : List Int) (h0 : 0 ≤ code) (h4 : code ≤ 4) (h : ∀ r ∈ l, ok r) (hz : l.head? ≠ some 0) : detect (encode code l) = (code, markLen code) := by
  rw [encode_mark code l h0 h4]
  have : code = 0 ∨ code = 1 ∨ code = 2 ∨ code = 3 ∨ code = 4 := by omega
  rcases this with rfl | rfl | rfl | rfl | rfl
  · generalize body 0 l = b
    simp [mark, markLen, detect, detect1, detect2, detect3, pre, nz, rd]
  · have hb := body_first l h hz
    generalize body 1 l = b at hb
    simp [mark, markLen, detect, detect1, detect2, detect3, pre, nz, rd, hb]
  · generalize body 2 l = b
    simp [mark, markLen, detect, detect1, detect2, detect3, pre, nz, rd]
  · generalize body 3 l = b
    simp [mark, markLen, detect, detect1, detect2, detect3, pre, nz, rd]
  · generalize body 4 l = b
    simp [mark, markLen, detect, detect1, detect2, detect3, pre, nz, rd]
theorem mark_length (code : Int) (h0 : 0 ≤ code) (h4 : code ≤ 4) : ((mark code).length : Int) = markLen code := by
  have : code = 0 ∨ code = 1 ∨ code = 2 ∨ code = 3 ∨ code = 4 := by omega
  rcases this with rfl | rfl | rfl | rfl | rfl <;> decide
theorem head_rd (l : List Int) (h : ¬ (rd l 0 = 0 ∧ 0 < l.length)) : l.head? ≠ some 0 := by
  cases l with
  | nil => simp
  | cons a t => simpa [rd] using h
end Go.Proofs.YtdbkefgdeenjoaaDoor.Plain
end
section
namespace Go.Proofs.YtdbkefgdeenjoaaDoor.Plain
set_option linter.unusedVariables false
set_option linter.unusedSimpArgs false
open Go.RowKit Go.Proofs.YtdbkefgdeenjoaaDoor.X Go.Proofs.YtdbkefgdeenjoaaDoorW.PrintWords Go.Proofs.YtdbkefgdeenjoaaDoorW.PrintLast Go.Proofs.YtdbkefgdeenjoaaDoorW.PrintMore
def Bts (l : List Int) : Prop := ∀ x ∈ l, 0 ≤ x ∧ x < 256
theorem u32_bits (n m : Nat) (hn : n < 4294967296) (hm : m < 4294967296) : Go.bits .or .u32 (n : Int) (m : Int) = ((n ||| m : Nat) : Int) := by
  unfold Go.bits
  have hx : (BitVec.ofInt IntKind.u32.bits (n : Int) ||| BitVec.ofInt IntKind.u32.bits (m : Int)).toNat = n ||| m := by
    show (BitVec.ofInt 32 (n : Int) ||| BitVec.ofInt 32 (m : Int)).toNat = n ||| m
    rw [BitVec.toNat_or]
    have h3 : (BitVec.ofInt 32 (n : Int)).toNat = n := by simp [BitVec.toNat_ofInt]; omega
    have h4 : (BitVec.ofInt 32 (m : Int)).toNat = m := by simp [BitVec.toNat_ofInt]; omega
    rw [h3, h4]
  simp only [hx]
  have hlt : n ||| m < 4294967296 := Nat.or_lt_two_pow (n := 32) hn hm
  show ((n ||| m : Nat) : Int) % 4294967296 = _
  omega
theorem or_high (i a m : Nat) (h : m < 2 ^ i) (hn : 2 ^ i * a + m < 4294967296) : Go.bits .or .u32 ((2 ^ i * a : Nat) : Int) (m : Int) = ((2 ^ i * a + m : Nat) : Int) := by
  rw [u32_bits _ _ (by omega) (by omega), ← Nat.two_pow_add_eq_or_of_lt h]
theorem or_low (i a m : Nat) (h : m < 2 ^ i) (hn : 2 ^ i * a + m < 4294967296) : Go.bits .or .u32 (m : Int) ((2 ^ i * a : Nat) : Int) = ((2 ^ i * a + m : Nat) : Int) := by
  rw [u32_bits _ _ (by omega) (by omega), Nat.or_comm, ← Nat.two_pow_add_eq_or_of_lt h]
theorem or_big (x c : Int) (hx : 0 ≤ x) (hx1 : x < 16777216) (hc : 0 ≤ c) (hc1 : c < 256) : Go.bits .or .u32 ((x * 256) % 4294967296) (c % 4294967296) = x * 256 + c := by
  obtain ⟨a, rfl⟩ : ∃ a : Nat, x = (a : Int) := ⟨x.toNat, by omega⟩
  obtain ⟨m, rfl⟩ : ∃ m : Nat, c = (m : Int) := ⟨c.toNat, by omega⟩
  have h := or_high 8 a m (by omega) (by omega)
  rw [show ((a : Int) * 256) % 4294967296 = ((2 ^ 8 * a : Nat) : Int) by omega, show (m : Int) % 4294967296 = (m : Int) by omega, h]
  omega
theorem or_little (x c : Int) (i : Nat) (hi : i ≤ 3) (hx : 0 ≤ x) (hx1 : x < 2 ^ (8 * i)) (hc : 0 ≤ c) (hc1 : c < 256) : Go.bits .or .u32 x (shl .u32 (c % 4294967296) (wrap64 (8 * (i : Int)))) = x + c * 2 ^ (8 * i) := by
  obtain ⟨a, rfl⟩ : ∃ a : Nat, x = (a : Int) := ⟨x.toNat, by omega⟩
  obtain ⟨m, rfl⟩ : ∃ m : Nat, c = (m : Int) := ⟨c.toNat, by omega⟩
  have hi4 : i = 0 ∨ i = 1 ∨ i = 2 ∨ i = 3 := by omega
  have e0 : (m : Int) % 4294967296 = (m : Int) := by omega
  rw [e0, w64 _ (by omega) (by omega)]
  rcases hi4 with rfl | rfl | rfl | rfl
  · have h := or_low 0 m a (by simp at hx1 ⊢; omega) (by simp at hx1 ⊢; omega)
    have e : shl .u32 (m : Int) (8 * ((0 : Nat) : Int)) = ((2 ^ 0 * m : Nat) : Int) := by
      show ((m : Int) * 1) % 4294967296 = _
      omega
    rw [e, h]; simp; omega
  · have h := or_low 8 m a (by simp at hx1 ⊢; omega) (by simp at hx1 ⊢; omega)
    have e : shl .u32 (m : Int) (8 * ((1 : Nat) : Int)) = ((2 ^ 8 * m : Nat) : Int) := by
      show ((m : Int) * 256) % 4294967296 = _
      omega
    rw [e, h]; simp; omega
  · have h := or_low 16 m a (by simp at hx1 ⊢; omega) (by simp at hx1 ⊢; omega)
    have e : shl .u32 (m : Int) (8 * ((2 : Nat) : Int)) = ((2 ^ 16 * m : Nat) : Int) := by
      show ((m : Int) * 65536) % 4294967296 = _
      omega
    rw [e, h]; simp; omega
  · have h := or_low 24 m a (by simp at hx1 ⊢; omega) (by simp at hx1 ⊢; omega)
    have e : shl .u32 (m : Int) (8 * ((3 : Nat) : Int)) = ((2 ^ 24 * m : Nat) : Int) := by
      show ((m : Int) * 16777216) % 4294967296 = _
      omega
    rw [e, h]; simp; omega
end Go.Proofs.YtdbkefgdeenjoaaDoor.Plain
end
section
namespace Go.Proofs.YtdbkefgdeenjoaaDoor.Plain
set_option linter.unusedVariables false
set_option linter.unusedSimpArgs false
open Go.RowKit Go.Proofs.YtdbkefgdeenjoaaDoor.X Go.Proofs.YtdbkefgdeenjoaaDoorW.PrintWords Go.Proofs.YtdbkefgdeenjoaaDoorW.PrintLast Go.Proofs.YtdbkefgdeenjoaaDoorW.PrintMore
def I32 (l : List Int) : Prop := ∀ x ∈ l, -2147483648 ≤ x ∧ x ≤ 2147483647
theorem rd_mem (l : List Int) (i : Nat) (h : i < l.length) : rd l (i : Int) ∈ l := by rw [rd_nat l i h]; exact List.getElem_mem h
theorem take_succ (l : List Int) (i : Nat) (h : i < l.length) : l.take (i + 1) = l.take i ++ [rd l (i : Int)] := by
  rw [rd_nat l i h]; exact (List.take_append_getElem h).symm
theorem eqr_loop (a : List Int) (hl : a.length ≤ 4294967296) : ∀ (n i : Nat), i + n = a.length → Ev (fun k => slices_Equal_rune_rune.l0 k a a (a.length : Int) (i : Int)) true
  | 0, i, h => by
    refine Ev.succ ?_
    simp only [slices_Equal_rune_rune.l0]
    exact Ev.neg (by omega) (Ev.val _)
  | n + 1, i, h => by
    refine Ev.succ ?_
    simp only [slices_Equal_rune_rune.l0]
    refine Ev.pos (by omega) (Ev.pos (by omega) (Ev.pos (by omega) (Ev.pos (by omega) (Ev.pos (by simp) ?_))))
    rw [w64' i (by omega)]
    exact eqr_loop a hl n (i + 1) (by omega)
theorem eqr_eq (a : List Int) (hl : a.length ≤ 4294967296) : Ev (fun k => slices_Equal_rune_rune.f k a a) true := by
  simp only [slices_Equal_rune_rune.f]
  exact Ev.pos (by simp) (eqr_loop a hl a.length 0 (by omega))
def may (r : Int) : Bool := decide (r = 9 ∨ r = 10 ∨ r = 13 ∨ r = 133 ∨ (32 ≤ r ∧ r < 127) ∨ (160 ≤ r ∧ ok r ∧ r ≠ 65279 ∧ r ≠ 65534 ∧ r ≠ 65535))
theorem may_eq (r : Int) : text_May.f r = some (may r) := by
  unfold text_May.f may
  rw [valid_eq]
  simp only [Option.bind_some]
  repeat' split
  all_goals (refine congrArg some (Bool.eq_iff_iff.mpr ?_); simp only [decide_eq_true_eq, bne_iff_ne, ne_eq, eq_self, Bool.false_eq_true, true_iff, false_iff, not_true_eq_false] at *; (try simp only [ok] at *); omega)
end Go.Proofs.YtdbkefgdeenjoaaDoor.Plain
end
section
namespace Go.Proofs.YtdbkefgdeenjoaaDoor.Plain
set_option linter.unusedVariables false
set_option linter.unusedSimpArgs false
open Go.RowKit Go.Proofs.YtdbkefgdeenjoaaDoor.X Go.Proofs.YtdbkefgdeenjoaaDoorW.PrintWords Go.Proofs.YtdbkefgdeenjoaaDoorW.PrintLast Go.Proofs.YtdbkefgdeenjoaaDoorW.PrintMore
def cl : List Int → List Int
  | [] => []
  | r :: t => if r = 13 then (if t.head? = some 10 then cl t else 10 :: cl t) else Lib.encodeRuneZ r ++ cl t
def str (l : List Int) : ByteArray := ⟨(l.map fun x => UInt8.ofNat x.toNat).toArray⟩
def cleaned (l : List Int) : ByteArray × Int := if ∀ r ∈ l, may r = true then (str (cl l), 0) else ((⟨#[]⟩ : ByteArray), 7)
theorem may_ok {r : Int} (h : may r = true) : ok r := by
  unfold may at h
  simp only [decide_eq_true_eq] at h
  unfold ok at *
  omega
theorem clean_go : ∀ (l : List Int) (out : List UInt8), I32 l → text_Clean.go l out = some (if ∀ r ∈ l, may r = true then ((⟨(out ++ (cl l).map fun x => UInt8.ofNat x.toNat).toArray⟩ : ByteArray), 0) else ((⟨#[]⟩ : ByteArray), 7))
  | [], out, _ => by simp [text_Clean.go, cl]
  | r :: t, out, hw => by
    have ht : I32 t := fun x hx => hw x (List.mem_cons_of_mem _ hx)
    have hr := hw r (List.mem_cons_self)
    unfold text_Clean.go
    rw [may_eq]
    simp only [Option.bind_some]
    by_cases hm : may r = true
    · rw [if_pos hm]
      have e : (∀ x ∈ r :: t, may x = true) ↔ ∀ x ∈ t, may x = true := by simp [hm]
      simp only [e]
      by_cases h13 : r = 13
      · rw [if_pos h13]
        by_cases h10 : t.head? = some 10
        · rw [if_pos h10, clean_go t out ht]
          simp [cl, h13, h10]
        · rw [if_neg h10, clean_go t _ ht]
          simp [cl, h13, h10]
      · rw [if_neg h13, if_pos hr, clean_go t _ ht]
        simp [cl, h13, Lib.encodeRune]
    · rw [if_neg hm]
      rw [if_neg (fun h => hm (h r List.mem_cons_self))]
theorem clean_eq (l : List Int) (hl : l.length ≤ 4294967296) (hw : I32 l) : text_Clean.f l = some (cleaned l) := by
  unfold text_Clean.f cleaned str
  rw [if_pos hl, clean_go l [] hw]
  simp
end Go.Proofs.YtdbkefgdeenjoaaDoor.Plain
end
