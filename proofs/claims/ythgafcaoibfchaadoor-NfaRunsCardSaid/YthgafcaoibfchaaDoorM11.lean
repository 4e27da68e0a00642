/- Words and walks that the row of NfaRuns needs: printed by programs, and plain laws. -/
import Derived.Test.YthgafcaoibfchaaDoorM10
import Derived.Lib.ValidLaws
import Derived.Lib.DecodeN
namespace Go.Proofs.YthgafcaoibfchaaDoorW.PrintWords
end Go.Proofs.YthgafcaoibfchaaDoorW.PrintWords
namespace Go.Proofs.YthgafcaoibfchaaDoorW.PrintLast
end Go.Proofs.YthgafcaoibfchaaDoorW.PrintLast
namespace Go.Proofs.YthgafcaoibfchaaDoorW.PrintMore
end Go.Proofs.YthgafcaoibfchaaDoorW.PrintMore
namespace Go.Proofs.YthgafcaoibfchaaDoor.Z
end Go.Proofs.YthgafcaoibfchaaDoor.Z
section
namespace Go.Proofs.YthgafcaoibfchaaDoor.Z
open Go.RowKit Go.Proofs.YthgafcaoibfchaaDoorW.PrintWords Go.Proofs.YthgafcaoibfchaaDoorW.PrintLast Go.Proofs.YthgafcaoibfchaaDoorW.PrintMore
set_option linter.unusedVariables false
set_option linter.unusedSimpArgs false
mutual
def grilleref01_plain.l0 : Nat → List Int → List Int → Option (List Int × Bool)
  | 0, _, _ => none
  | k + 1, x0, x4 => if (x0.length : Int) > 0 then (if 0 < (x0.length : Int) then ((grilleref01_lead.f k (wrap64 (rd x0 0))).bind fun bt158 => (if bt158.1 = 0 then (grilleref01_plain.j1 k x0 x4 bt158.1 bt158.2 true) else (grilleref01_plain.j1 k x0 x4 bt158.1 bt158.2 (decide (bt158.1 > (x0.length : Int)))))) else (none)) else (some (x4, true))
def grilleref01_plain.j1 : Nat → List Int → List Int → Int → Int → Bool → Option (List Int × Bool)
  | 0, _, _, _, _, _ => none
  | k + 1, x0, x4, x5, x6, x26 => if x26 = true then (some (([] : List Int), false)) else (grilleref01_plain.l1 k x0 x4 x5 x6 1)
def grilleref01_plain.l1 : Nat → List Int → List Int → Int → Int → Int → Option (List Int × Bool)
  | 0, _, _, _, _, _ => none
  | k + 1, x0, x4, x5, x6, x7 => if x7 < x5 then (if 0 ≤ x7 then (if x7 < (x0.length : Int) then (if (rd x0 x7) < 128 then (some (([] : List Int), false)) else (if (rd x0 x7) > 191 then (some (([] : List Int), false)) else (grilleref01_plain.l1 k x0 x4 x5 (wrap64 ((wrap64 ((wrap64 (x6 * 64)) + (wrap64 (rd x0 x7)))) - 128)) (wrap64 (x7 + 1))))) else (none)) else (none)) else ((grilleref01_Character.f x6).bind fun t163 => (if t163 = true then ((grilleref01_Bytes.f x6).bind fun t164 => (if (t164.length : Int) = x5 then (if x4.length < 17592186044416 then (if 0 ≤ x5 then (if x5 ≤ (x0.length : Int) then (grilleref01_plain.l0 k (x0.drop (x5 : Int).toNat) (x4 ++ [x6])) else (none)) else (none)) else (none)) else (some (([] : List Int), false)))) else (some (([] : List Int), false))))
end
def grilleref01_plain.f (k : Nat) (l0 : List Int) : Option (List Int × Bool) := grilleref01_plain.l0 k l0 ([] : List Int)
set_option maxHeartbeats 8000000 in
set_option maxRecDepth 100000 in
theorem grilleref01_plain.calls (k : Nat) (P0_ : Nat → Prop) (A0 : Option Addr) (c0 : Nat) (l0 : List Int) (r1 : List Int) (r2 : Bool) (w : World) (hs0 : Kd.V (Kd.int .u8) 5 w w.heap.size (fun k_ => P0_ k_) (.slice A0 l0.length c0) l0) (h : grilleref01_plain.f k l0 = some (r1, r2)) :
    Calls Tryd.prog 146 #[.slice A0 l0.length c0] w fun e w' => ∃ v0_ : Value, e = .returned (.tuple #[v0_, .bool r2]) ∧ Kd.R (Kd.int .i64) 3 w' w.heap.size (fun k_ => (w.heap.size ≤ k_)) v0_ r1 ∧ Below w.heap.size w w' := by
  have HO0 := Aside0.mk (show Kd.V (Kd.int .u8) 5 w w.heap.size (fun k_ => (P0_ k_ ∨ w.heap.size ≤ k_)) (.slice A0 l0.length c0) l0 from Kd.V_mono hs0 (fun k_ hk => .inl hk))
  have HB := Aside0.mk (Below.refl w.heap.size w)
  have H : (grilleref01_plain.l0 k l0 ([] : List Int)) = some (r1, r2) := h
  clear h
  have H' := Aside0.mk H
  clear H
  go_enter Tryd.func146, Tryd.ntmps146
  go_wp2
  go_loopg [0, 4] k (fun kq v0 v4 w' => ∃ (x0_1 : List Int) (x4_1 : List Int), Aside0 (grilleref01_plain.l0 kq x0_1 x4_1 = some (r1, r2)) ∧ Aside0 (kq ≤ k) ∧ Aside0 (Kd.V (Kd.int .u8) 5 w' w.heap.size (fun k_ => (P0_ k_ ∨ w.heap.size ≤ k_) ∧ some k_ ≠ (v4 : Value).ownBlock) v0 x0_1) ∧ Aside0 (Kd.R (Kd.int .i64) 3 w' w.heap.size (fun k_ => (w.heap.size ≤ k_)) v4 x4_1) ∧ Aside0 (Below w.heap.size w w'))
  case atStart => exact ⟨(l0), (([] : List Int)), H', ⟨Nat.le_refl _⟩, ⟨by (with_reducible repeat (first | apply Kd.V_alloc | apply Kd.V_drewN | apply Kd.V_drew)); exact Kd.V_mono HO0.out (fun _ hk => ⟨hk, (by simp [Value.ownBlock])⟩)⟩, ⟨by first | exact Kd.R_nil _ _ _ _ _ | exact Kd.N_nil _ _ _ _ _ | exact Kd.V_nil _ _ _ _ _ | exact Kd.Q_nil _ _ _ _ _ | exact Kd.S_nil _ _ _ _ _⟩, ⟨by repeat (first | (with_reducible first | exact HB.out | apply below_alloc | apply pw_below_drewN | apply below_drew1) | exact HB.out)⟩⟩
  case round =>
    clear H'
    try clear c1
    obtain ⟨x0_1, x4_1, HA, HK1, HO_0, HO_4, HB⟩ := hrel
    cases gk with
    | zero => exact absurd HA.out (by simp [grilleref01_plain.l0])
    | succ k1 =>
      have H := HA.out
      clear HA
      simp only [grilleref01_plain.l0] at H
      by_cases c2 : (x0_1.length : Int) > 0
      · rw [if_pos c2] at H
        have c2b0 : decide (0 < (x0_1.length : Int)) = true := decide_eq_true c2
        have c2b1 : decide (0 < x0_1.length) = true := decide_eq_true (by omega)
        clear c2
        by_cases c3 : 0 < (x0_1.length : Int)
        · rw [if_pos c3] at H
          have c3b0 : decide (0 < (x0_1.length : Int)) = true := decide_eq_true c3
          have c3b1 : decide (0 < x0_1.length) = true := decide_eq_true (by omega)
          clear c3
          replace H := Option.bind_eq_some_iff.mp H
          obtain ⟨⟨t158, t159⟩, A40, H⟩ := H
          replace H : (if t158 = 0 then (grilleref01_plain.j1 k1 x0_1 x4_1 t158 t159 true) else (grilleref01_plain.j1 k1 x0_1 x4_1 t158 t159 (decide (t158 > (x0_1.length : Int))))) = some (r1, r2) := H
          have A4 := Aside0.mk A40
          clear A40
          have HC5 := Aside0.mk H
          clear H
          obtain ⟨Ao6, co6, eo6⟩ := Kd.V_slice HO_0.out
          subst eo6
          have p157 : 0 ≤ (0 : Int) := (by omega)
          have q157 : 0 < (x0_1.length : Int) := of_decide_eq_true (by first | (with_reducible assumption) | assumption)
          obtain ⟨ad157, e157, hx157_0⟩ := Kd.at_int (Kd.V_reads' HO_0.out).2.2 0 p157 q157
          cases e157
          have qi157 : (0 < x0_1.length) = True := eq_true (by omega)
          (try rw [show ((0 : Int)).toNat = 0 from rfl] at hx157_0)
          (try rw [Addr.add_zero'] at hx157_0)
          replace p157 := eq_true p157
          replace q157 := eq_true q157
          go_upto_region 4 with (first | ((with_reducible refine gate_callee (f := 154) rfl ?_); refine goesL_ (some 16) rfl rfl Tryd.func154 (by kernel_rfl) rfl #[.int .i64 (wrap64 (rd x0_1 0))] rfl (by (try simp only [List.map_toArray, List.map_cons, List.map_nil]); first | done | rfl | (simp only [List.length_drop, List.length_take]; rfl)) ?_; (with_reducible refine (grilleref01_lead.calls k1 (wrap64 (rd x0_1 0)) t158 t159 _ A4.out).mono ?_); rintro e w' ⟨rfl, ⟨nd, rfl⟩⟩; refine ⟨_, rfl, ?_⟩))
          (try simp only [Act.put, List.setIfInBounds_toArray, List.set_cons_zero, List.set_cons_succ])
          go_cut [26] (fun v26 wc => ∃ (kq : Nat) (x26_4 : Bool), v26 = .bool x26_4 ∧ Aside0 (grilleref01_plain.j1 kq x0_1 x4_1 t158 t159 x26_4 = some (r1, r2)) ∧ Aside0 (kq ≤ k1) ∧ Aside0 (Kd.V (Kd.int .u8) 5 wc w.heap.size (fun k_ => (P0_ k_ ∨ w.heap.size ≤ k_) ∧ some k_ ≠ (u4 : Value).ownBlock) (.slice (some ad157) x0_1.length co6) x0_1) ∧ Aside0 (Kd.R (Kd.int .i64) 3 wc w.heap.size (fun k_ => (w.heap.size ≤ k_)) u4 x4_1) ∧ Aside0 (Below w.heap.size w wc))
          case first =>
            have H := HC5.out
            clear HC5
            by_cases c7 : t158 = 0
            · rw [if_pos c7] at H
              have c7b0 : (t158 == 0) = true := beq_iff_eq.mpr c7
              have c7b1 : (t158 != 0) = false := bne_eq_false_iff_eq.mpr c7
              clear c7
              (first | rw [c7b0] | (simp only [i64_w, i32_w]; rw [c7b0]) | skip)
              have H' := Aside0.mk H
              clear H
              go_wp2
              go_meet
              case rel => exact ⟨_, (true), (by first | rfl | (simp; done) | (simp [*]; done) | (simp [xbne_nil, xbeq_nil]; done)), H', ⟨by have := HK1.out; first | omega | exact Nat.le_refl _⟩, ⟨by (with_reducible repeat (first | apply Kd.V_alloc | apply Kd.V_drewN | apply Kd.V_drew)); exact HO_0.out⟩, ⟨by (with_reducible repeat (first | apply Kd.R_alloc | apply Kd.R_drewN | apply Kd.R_drew)); exact HO_4.out⟩, ⟨by repeat (first | (with_reducible first | exact HB.out | apply below_alloc | apply pw_below_drewN | apply below_drew1) | exact HB.out)⟩⟩
            · rw [if_neg c7] at H
              have c7b0 : (t158 == 0) = false := beq_eq_false_iff_ne.mpr c7
              have c7b1 : (t158 != 0) = true := bne_iff_ne.mpr c7
              (first | rw [c7b0] | (simp only [i64_w, i32_w]; rw [c7b0]) | skip)
              have H' := Aside0.mk H
              clear H
              go_wp2
              go_meet
              case rel => exact ⟨_, (decide (t158 > (x0_1.length : Int))), (by first | rfl | (simp; done) | (simp [*]; done) | (simp [xbne_nil, xbeq_nil]; done)), H', ⟨by have := HK1.out; first | omega | exact Nat.le_refl _⟩, ⟨by (with_reducible repeat (first | apply Kd.V_alloc | apply Kd.V_drewN | apply Kd.V_drew)); exact HO_0.out⟩, ⟨by (with_reducible repeat (first | apply Kd.R_alloc | apply Kd.R_drewN | apply Kd.R_drew)); exact HO_4.out⟩, ⟨by repeat (first | (with_reducible first | exact HB.out | apply below_alloc | apply pw_below_drewN | apply below_drew1) | exact HB.out)⟩⟩
          case rest =>
            clear HC5
            try clear c1
            try clear p1
            try clear q1
            try clear hx1
            try clear qi1
            try clear c2
            try clear c2b0
            try clear c2b1
            try clear p2
            try clear c3
            try clear c3b0
            try clear c3b1
            try clear p6
            try clear c7
            try clear c7b0
            try clear c7b1
            try clear hx157_0
            try clear p157
            try clear q157
            obtain ⟨kq, x26_4, rfl, HA, HJ4, HO_0, HO_4, HB⟩ := hcut
            cases kq with
            | zero => exact absurd HA.out (by simp [grilleref01_plain.j1])
            | succ kj4 =>
              have H := HA.out
              clear HA
              simp only [grilleref01_plain.j1] at H
              by_cases c8 : x26_4 = true
              · subst c8
                have H1 : (some (([] : List Int), false)) = some (r1, r2) := by rw [if_pos rfl] at H; exact H
                clear H
                have H := H1
                clear H1
                simp only [Option.some.injEq, Prod.mk.injEq] at H
                obtain ⟨rfl, rfl⟩ := H
                go_wp2
                go_ret2
                exact ⟨_, by first | rfl | (simp [errW_none, errW_some] <;> rfl) | (simp [*, errW_none, errW_some] <;> rfl), by first | exact Kd.R_nil _ _ _ _ _ | exact Kd.N_nil _ _ _ _ _ | exact Kd.V_nil _ _ _ _ _ | exact Kd.Q_nil _ _ _ _ _ | exact Kd.S_nil _ _ _ _ _, by repeat (first | (with_reducible first | exact HB.out | apply below_alloc | apply pw_below_drewN | apply below_drew1) | exact HB.out)⟩
              · replace c8 := Bool.eq_false_iff.mpr c8
                subst c8
                have H1 : (grilleref01_plain.l1 kj4 x0_1 x4_1 t158 t159 1) = some (r1, r2) := by rw [if_neg (show ¬ (false = true) by decide)] at H; exact H
                clear H
                have H := H1
                clear H1
                have H' := Aside0.mk H
                clear H
                go_wp2
                go_loopg [6, 7] kj4 (fun kq v6 v7 w' => ∃ (x6_3 : Int) (x7_3 : Int), v6 = .int .i64 x6_3 ∧ v7 = .int .i64 x7_3 ∧ Aside0 (grilleref01_plain.l1 kq x0_1 x4_1 t158 x6_3 x7_3 = some (r1, r2)) ∧ Aside0 (kq ≤ kj4) ∧ Aside0 (Kd.V (Kd.int .u8) 5 w' w.heap.size (fun k_ => (P0_ k_ ∨ w.heap.size ≤ k_) ∧ some k_ ≠ (u4 : Value).ownBlock) (.slice (some ad157) x0_1.length co6) x0_1) ∧ Aside0 (Kd.R (Kd.int .i64) 3 w' w.heap.size (fun k_ => (w.heap.size ≤ k_)) u4 x4_1) ∧ Aside0 (Below w.heap.size w w'))
                case atStart => exact ⟨(t159), (1), (by first | rfl | (simp; done) | (simp [*]; done) | (simp [xbne_nil, xbeq_nil]; done)), (by first | rfl | (simp; done) | (simp [*]; done) | (simp [xbne_nil, xbeq_nil]; done)), H', ⟨Nat.le_refl _⟩, ⟨by (with_reducible repeat (first | apply Kd.V_alloc | apply Kd.V_drewN | apply Kd.V_drew)); exact HO_0.out⟩, ⟨by (with_reducible repeat (first | apply Kd.R_alloc | apply Kd.R_drewN | apply Kd.R_drew)); exact HO_4.out⟩, ⟨by repeat (first | (with_reducible first | exact HB.out | apply below_alloc | apply pw_below_drewN | apply below_drew1) | exact HB.out)⟩⟩
                case round =>
                  clear H'
                  try clear c1
                  try clear p1
                  try clear q1
                  try clear hx1
                  try clear qi1
                  try clear c2
                  try clear c2b0
                  try clear c2b1
                  try clear p2
                  try clear c3
                  try clear c3b0
                  try clear c3b1
                  try clear p6
                  try clear c7
                  try clear c7b0
                  try clear c7b1
                  try clear c8
                  try clear hx157_0
                  try clear p1
                  try clear p157
                  try clear p2
                  try clear p6
                  try clear q1
                  try clear q157
                  obtain ⟨x6_3, x7_3, rfl, rfl, HA, HK3, HO_0, HO_4, HB⟩ := hrel
                  cases gk with
                  | zero => exact absurd HA.out (by simp [grilleref01_plain.l1])
                  | succ k3 =>
                    have H := HA.out
                    clear HA
                    simp only [grilleref01_plain.l1] at H
                    by_cases c9 : x7_3 < t158
                    · rw [if_pos c9] at H
                      have c9b0 : decide (x7_3 < t158) = true := decide_eq_true c9
                      clear c9
                      by_cases c10 : 0 ≤ x7_3
                      · rw [if_pos c10] at H
                        have c10b0 : decide (0 ≤ x7_3) = true := decide_eq_true c10
                        clear c10
                        by_cases c11 : x7_3 < (x0_1.length : Int)
                        · rw [if_pos c11] at H
                          have c11b0 : decide (x7_3 < (x0_1.length : Int)) = true := decide_eq_true c11
                          clear c11
                          by_cases c12 : (rd x0_1 x7_3) < 128
                          · rw [if_pos c12] at H
                            have c12b0 : decide ((rd x0_1 x7_3) < 128) = true := decide_eq_true c12
                            clear c12
                            simp only [Option.some.injEq, Prod.mk.injEq] at H
                            obtain ⟨rfl, rfl⟩ := H
                            have p160 : 0 ≤ (x7_3 : Int) := of_decide_eq_true (by first | (with_reducible assumption) | assumption)
                            have q160 : x7_3 < (x0_1.length : Int) := of_decide_eq_true (by first | (with_reducible assumption) | assumption)
                            obtain ⟨ad160, e160, hx160_0⟩ := Kd.at_int (Kd.V_reads' HO_0.out).2.2 x7_3 p160 q160
                            obtain rfl : ad157 = ad160 := (by injection e160)
                            replace p160 := eq_true p160
                            replace q160 := eq_true q160
                            go_wp2
                            go_ret2
                            exact ⟨_, by first | rfl | (simp [errW_none, errW_some] <;> rfl) | (simp [*, errW_none, errW_some] <;> rfl), by first | exact Kd.R_nil _ _ _ _ _ | exact Kd.N_nil _ _ _ _ _ | exact Kd.V_nil _ _ _ _ _ | exact Kd.Q_nil _ _ _ _ _ | exact Kd.S_nil _ _ _ _ _, by repeat (first | (with_reducible first | exact HB.out | apply below_alloc | apply pw_below_drewN | apply below_drew1) | exact HB.out)⟩
                          · rw [if_neg c12] at H
                            have c12b0 : decide ((rd x0_1 x7_3) < 128) = false := decide_eq_false c12
                            clear c12
                            by_cases c13 : (rd x0_1 x7_3) > 191
                            · rw [if_pos c13] at H
                              have c13b0 : decide (191 < (rd x0_1 x7_3)) = true := decide_eq_true c13
                              clear c13
                              simp only [Option.some.injEq, Prod.mk.injEq] at H
                              obtain ⟨rfl, rfl⟩ := H
                              have p160 : 0 ≤ (x7_3 : Int) := of_decide_eq_true (by first | (with_reducible assumption) | assumption)
                              have q160 : x7_3 < (x0_1.length : Int) := of_decide_eq_true (by first | (with_reducible assumption) | assumption)
                              obtain ⟨ad160, e160, hx160_0⟩ := Kd.at_int (Kd.V_reads' HO_0.out).2.2 x7_3 p160 q160
                              obtain rfl : ad157 = ad160 := (by injection e160)
                              replace p160 := eq_true p160
                              replace q160 := eq_true q160
                              have p161 : 0 ≤ (x7_3 : Int) := of_decide_eq_true (by first | (with_reducible assumption) | assumption)
                              have q161 : x7_3 < (x0_1.length : Int) := of_decide_eq_true (by first | (with_reducible assumption) | assumption)
                              obtain ⟨ad161, e161, hx161_0⟩ := Kd.at_int (Kd.V_reads' HO_0.out).2.2 x7_3 p161 q161
                              obtain rfl : ad157 = ad161 := (by injection e161)
                              replace p161 := eq_true p161
                              replace q161 := eq_true q161
                              go_wp2
                              go_ret2
                              exact ⟨_, by first | rfl | (simp [errW_none, errW_some] <;> rfl) | (simp [*, errW_none, errW_some] <;> rfl), by first | exact Kd.R_nil _ _ _ _ _ | exact Kd.N_nil _ _ _ _ _ | exact Kd.V_nil _ _ _ _ _ | exact Kd.Q_nil _ _ _ _ _ | exact Kd.S_nil _ _ _ _ _, by repeat (first | (with_reducible first | exact HB.out | apply below_alloc | apply pw_below_drewN | apply below_drew1) | exact HB.out)⟩
                            · rw [if_neg c13] at H
                              have c13b0 : decide (191 < (rd x0_1 x7_3)) = false := decide_eq_false c13
                              clear c13
                              have H' := Aside0.mk H
                              clear H
                              have p160 : 0 ≤ (x7_3 : Int) := of_decide_eq_true (by first | (with_reducible assumption) | assumption)
                              have q160 : x7_3 < (x0_1.length : Int) := of_decide_eq_true (by first | (with_reducible assumption) | assumption)
                              obtain ⟨ad160, e160, hx160_0⟩ := Kd.at_int (Kd.V_reads' HO_0.out).2.2 x7_3 p160 q160
                              obtain rfl : ad157 = ad160 := (by injection e160)
                              replace p160 := eq_true p160
                              replace q160 := eq_true q160
                              have p161 : 0 ≤ (x7_3 : Int) := of_decide_eq_true (by first | (with_reducible assumption) | assumption)
                              have q161 : x7_3 < (x0_1.length : Int) := of_decide_eq_true (by first | (with_reducible assumption) | assumption)
                              obtain ⟨ad161, e161, hx161_0⟩ := Kd.at_int (Kd.V_reads' HO_0.out).2.2 x7_3 p161 q161
                              obtain rfl : ad157 = ad161 := (by injection e161)
                              replace p161 := eq_true p161
                              replace q161 := eq_true q161
                              have p162 : 0 ≤ (x7_3 : Int) := of_decide_eq_true (by first | (with_reducible assumption) | assumption)
                              have q162 : x7_3 < (x0_1.length : Int) := of_decide_eq_true (by first | (with_reducible assumption) | assumption)
                              obtain ⟨ad162, e162, hx162_0⟩ := Kd.at_int (Kd.V_reads' HO_0.out).2.2 x7_3 p162 q162
                              obtain rfl : ad157 = ad162 := (by injection e162)
                              replace p162 := eq_true p162
                              replace q162 := eq_true q162
                              go_wp2
                              go_roundg k3
                              case measure => have := HK1.out; have := HJ4.out; have := HK3.out; omega
                              case rel => exact ⟨(wrap64 ((wrap64 ((wrap64 (x6_3 * 64)) + (wrap64 (rd x0_1 x7_3)))) - 128)), (wrap64 (x7_3 + 1)), (by first | rfl | (simp; done) | (simp [*]; done) | (simp [xbne_nil, xbeq_nil]; done)), (by first | rfl | (simp; done) | (simp [*]; done) | (simp [xbne_nil, xbeq_nil]; done)), H', ⟨by have := HK1.out; have := HJ4.out; have := HK3.out; omega⟩, ⟨by (with_reducible repeat (first | apply Kd.V_alloc | apply Kd.V_drewN | apply Kd.V_drew)); exact HO_0.out⟩, ⟨by (with_reducible repeat (first | apply Kd.R_alloc | apply Kd.R_drewN | apply Kd.R_drew)); exact HO_4.out⟩, ⟨by repeat (first | (with_reducible first | exact HB.out | apply below_alloc | apply pw_below_drewN | apply below_drew1) | exact HB.out)⟩⟩
                        · rw [if_neg c11] at H
                          exact absurd H (by simp)
                      · rw [if_neg c10] at H
                        exact absurd H (by simp)
                    · rw [if_neg c9] at H
                      have c9b0 : decide (x7_3 < t158) = false := decide_eq_false c9
                      clear c9
                      replace H := Option.bind_eq_some_iff.mp H
                      obtain ⟨t163, A140, H⟩ := H
                      replace H : (if t163 = true then ((grilleref01_Bytes.f x6_3).bind fun t164 => (if (t164.length : Int) = t158 then (if x4_1.length < 17592186044416 then (if 0 ≤ t158 then (if t158 ≤ (x0_1.length : Int) then (grilleref01_plain.l0 k3 (x0_1.drop (t158 : Int).toNat) (x4_1 ++ [x6_3])) else (none)) else (none)) else (none)) else (some (([] : List Int), false)))) else (some (([] : List Int), false))) = some (r1, r2) := H
                      have A14 := Aside0.mk A140
                      clear A140
                      by_cases c15 : t163 = true
                      · subst c15
                        have H1 : ((grilleref01_Bytes.f x6_3).bind fun t164 => (if (t164.length : Int) = t158 then (if x4_1.length < 17592186044416 then (if 0 ≤ t158 then (if t158 ≤ (x0_1.length : Int) then (grilleref01_plain.l0 k3 (x0_1.drop (t158 : Int).toNat) (x4_1 ++ [x6_3])) else (none)) else (none)) else (none)) else (some (([] : List Int), false)))) = some (r1, r2) := by rw [if_pos rfl] at H; exact H
                        clear H
                        have H := H1
                        clear H1
                        replace H := Option.bind_eq_some_iff.mp H
                        obtain ⟨t164, A160, H⟩ := H
                        replace H : (if (t164.length : Int) = t158 then (if x4_1.length < 17592186044416 then (if 0 ≤ t158 then (if t158 ≤ (x0_1.length : Int) then (grilleref01_plain.l0 k3 (x0_1.drop (t158 : Int).toNat) (x4_1 ++ [x6_3])) else (none)) else (none)) else (none)) else (some (([] : List Int), false))) = some (r1, r2) := H
                        have A16 := Aside0.mk A160
                        clear A160
                        by_cases c17 : (t164.length : Int) = t158
                        · rw [if_pos c17] at H
                          have c17b0 : ((t164.length : Int) == t158) = true := beq_iff_eq.mpr c17
                          have c17b1 : ((t164.length : Int) != t158) = false := bne_eq_false_iff_eq.mpr c17
                          clear c17
                          by_cases c18 : x4_1.length < 17592186044416
                          · rw [if_pos c18] at H
                            have LMc18 := Aside0.mk c18
                            clear c18
                            obtain ⟨y167, hy167⟩ : ∃ y_ : List Int, y_ = (x4_1 ++ [x6_3]) := ⟨_, rfl⟩
                            replace H : (if 0 ≤ t158 then (if t158 ≤ (x0_1.length : Int) then (grilleref01_plain.l0 k3 (x0_1.drop (t158 : Int).toNat) y167) else (none)) else (none)) = some (r1, r2) := by first | (rw [hy167]; with_reducible exact H) | (have H2_ := (Option.bind_some _ _).symm.trans H; rw [hy167]; with_reducible exact H2_) | (have H2_ := (Option.bind_some _ _).symm.trans H; with_reducible exact H2_) | with_reducible exact H | (rw [hy167]; exact H) | exact H
                            have Ny167 := Aside0.mk hy167
                            clear hy167
                            by_cases c19 : 0 ≤ t158
                            · rw [if_pos c19] at H
                              have c19b0 := eq_true c19
                              have c19b1 : decide (0 ≤ t158) = true := decide_eq_true c19
                              clear c19
                              by_cases c20 : t158 ≤ (x0_1.length : Int)
                              · rw [if_pos c20] at H
                                have c20b0 := eq_true c20
                                have c20b1 : decide (t158 ≤ (x0_1.length : Int)) = true := decide_eq_true c20
                                clear c20
                                obtain ⟨y170, hy170⟩ : ∃ y_ : List Int, y_ = (x0_1.drop (t158 : Int).toNat) := ⟨_, rfl⟩
                                replace H : (grilleref01_plain.l0 k3 y170 y167) = some (r1, r2) := by first | (rw [hy170]; with_reducible exact H) | (have H2_ := (Option.bind_some _ _).symm.trans H; rw [hy170]; with_reducible exact H2_) | (have H2_ := (Option.bind_some _ _).symm.trans H; with_reducible exact H2_) | with_reducible exact H | (rw [hy170]; exact H) | exact H
                                have Ny170 := Aside0.mk hy170
                                clear hy170
                                have H' := Aside0.mk H
                                clear H
                                go_wp2_with (first | ((with_reducible refine gate_callee (f := 149) rfl ?_); refine goesL_ (some 54) rfl rfl Tryd.func149 (by kernel_rfl) rfl #[.int .i64 x6_3] rfl (by (try simp only [List.map_toArray, List.map_cons, List.map_nil]); first | done | rfl | (simp only [List.length_drop, List.length_take]; rfl)) ?_; (with_reducible refine (grilleref01_Character.calls x6_3 true _ A14.out).mono ?_); rintro e w' ⟨rfl, ⟨nd, rfl⟩⟩; refine ⟨_, rfl, ?_⟩) | (go_at_call 155; (with_reducible refine (grilleref01_Bytes.calls x6_3 t164 _ A16.out).mono ?_); rintro e w21 ⟨v165, rfl, ho0, hb⟩; have n0_ := Aside0.mk (Kd.V_elder' (by (with_reducible repeat (first | apply Kd.V_alloc | apply Kd.V_drewN | apply Kd.V_drew)); exact HO_0.out) (Kd.R_base ho0) hb); have n1_ := Aside0.mk (Kd.R_below (by (with_reducible repeat (first | apply Kd.R_alloc | apply Kd.R_drewN | apply Kd.R_drew)); exact HO_4.out) hb); have n2_ := Aside0.mk (Kd.R_lower (Kd.R_newM (M := fun k_ => (w.heap.size ≤ k_)) ho0 (below_size (by repeat (first | (with_reducible first | exact HB.out | apply below_alloc | apply pw_below_drewN | apply below_drew1) | exact HB.out))) (fun k_ h_ => h_)) (below_size (by repeat (first | (with_reducible first | exact HB.out | apply below_alloc | apply pw_below_drewN | apply below_drew1) | exact HB.out)))); have n3_ := Aside0.mk (below_step (by repeat (first | (with_reducible first | exact HB.out | apply below_alloc | apply pw_below_drewN | apply below_drew1) | exact HB.out)) hb); clear HO_0; clear HO_4; clear HB; have HO_0 := n0_; have HO_4 := n1_; have HO166 := n2_; have HB := n3_; clear n0_ n1_ n2_ n3_; (try clear hb); (try clear hb2); (try clear hk); (try clear hi); (try clear ho0); obtain ⟨Ao22, co22, eo22⟩ := Kd.R_slice HO166.out; subst eo22) | ((with_reducible refine gate_builtin (b := .append) (xs := #[.tmp 63, .tmp 65]) rfl ?_); (try (refine gate_guard (by rfl) ?_; dsimp only)); at_builtin; refine Kd.R_append (Kd.int .i64) (w0 := w) w.heap.size rfl (.tmp 63) (.tmp 65) 63 3 (.int .i64 0) 8 rfl Tryd.underlying63 info3 rfl (by decide) (by omega) u4 x4_1 x6_3 [.int .i64 x6_3] (fun k_ => (w.heap.size ≤ k_)) (fun _ => False) rfl rfl ?aP (fun _ hk => hk.elim) ?aF ?aO ?aB ?aS ?aL ?_; (case aP => exact rfl); (case aB => exact (by repeat (first | (with_reducible first | exact HB.out | apply below_alloc | apply pw_below_drewN | apply below_drew1) | exact HB.out))); (case aF => exact (fun k_ hk => (Nat.le_trans (below_size (by repeat (first | (with_reducible first | exact HB.out | apply below_alloc | apply pw_below_drewN | apply below_drew1) | exact HB.out))) hk))); (case aO => exact (by (with_reducible repeat (first | apply Kd.R_alloc | apply Kd.R_drewN | apply Kd.R_drew)); exact HO_4.out)); (case aS => exact (below_size (by repeat (first | (with_reducible first | exact HB.out | apply below_alloc | apply pw_below_drewN | apply below_drew1) | exact HB.out)))); (case aL => have := LMc18.out; omega); intro v168 w23 ho hb hg hat; rw [← Ny167.out] at ho; have n0_ := Aside0.mk (Kd.V_afterv (ok := (fun k_ => (P0_ k_ ∨ w.heap.size ≤ k_) ∧ some k_ ≠ (.slice Ao22 t164.length co22 : Value).ownBlock)) (by (with_reducible repeat (first | apply Kd.V_alloc | apply Kd.V_drewN | apply Kd.V_drew)); exact Kd.V_mono HO_0.out (fun _ hk => ⟨⟨hk.1.1, hk.2⟩, hk.1.2⟩)) hg hat); have n1_ := Aside0.mk (Kd.R_over' (by (with_reducible repeat (first | apply Kd.R_alloc | apply Kd.R_drewN | apply Kd.R_drew)); exact HO166.out) (Kd.R_typed (by (with_reducible repeat (first | apply Kd.R_alloc | apply Kd.R_drewN | apply Kd.R_drew)); exact HO_4.out)) (by decide) hg); have n2_ := Aside0.mk (hb); have n3_ := Aside0.mk (ho); clear HO_0; clear HO166; clear HB; clear HO_4; have HO_0 := n0_; have HO166 := n1_; have HB := n2_; have HO169 := n3_; clear n0_ n1_ n2_ n3_; clear ho hb hg hat; have q24 : (t158 : Int) ≤ ((x0_1.length : Int) : Int) := of_decide_eq_true (by first | (with_reducible assumption) | assumption); obtain ⟨i024, hi024, _, hsz24, _⟩ := info_parts info5; have hroom24 : x0_1.length ≤ co6 := (Kd.V_reads' HO_0.out).2.1; have hC24 : Kd.F (Kd.int .u8) _ _ (some ad157) x0_1.length x0_1 := (Kd.V_at (base := w.heap.size) HO_0.out).2.2; have q024 : (0 : Int) ≤ (t158 : Int) := of_decide_eq_true (by first | (with_reducible assumption) | assumption); have hcut24 := cut_from (P := Tryd.prog) 147 5 .i64 Tryd.underlying147 hi024 1 hsz24 (some ad157) x0_1.length co6 t158 q024 q24; have hr24 := Kd.F_cut (m := (t158 : Int).toNat) (c := co6) hC24 (by omega) hroom24; obtain ⟨A24, hA24⟩ : ∃ A1, A1 = (if co6 = (t158 : Int).toNat then (some ad157) else ((some ad157) : Option Addr).map (·.add ((t158 : Int).toNat * 1))) := ⟨_, rfl⟩; obtain ⟨c24, hc24⟩ : ∃ c1, c1 = co6 - (t158 : Int).toNat := ⟨_, rfl⟩; have hy24 : y170.length = x0_1.length - (t158 : Int).toNat := (by rw [Ny170.out, List.length_drop] <;> omega); rw [show (x0_1).drop (t158 : Int).toNat = y170 from Ny170.out.symm] at hr24; replace hr24 : Kd.F (Kd.int .u8) _ _ A24 y170.length y170 := (by rw [hA24]; exact hr24); rw [← hy24, ← hA24, ← hc24] at hcut24; have HO174 := Aside0.mk (show Kd.V (Kd.int .u8) 5 _ w.heap.size _ (.slice A24 y170.length c24) y170 from Kd.V_mk (by rw [hy24, hc24]; exact Nat.sub_le_sub_right hroom24 _) hr24); have HC174 := Aside0.mk (show y170.length ≤ c24 from by rw [hy24, hc24]; exact Nat.sub_le_sub_right hroom24 _); clear hr24 hC24 hroom24 hi024 hsz24 hc24; have KY24 := Aside0.mk hy24; have KA24 := Aside0.mk hA24; clear hy24 hA24; replace q24 := eq_true q24))
                                go_roundg k3
                                case measure => have := HK1.out; have := HJ4.out; have := HK3.out; omega
                                case rel => exact ⟨(y170), (y167), H', ⟨by have := HK1.out; have := HJ4.out; have := HK3.out; omega⟩, ⟨by (with_reducible repeat (first | apply Kd.V_alloc | apply Kd.V_drewN | apply Kd.V_drew)); exact Kd.V_mono HO174.out (fun _ hk => ⟨hk.1.1, hk.2⟩)⟩, ⟨by (with_reducible repeat (first | apply Kd.R_alloc | apply Kd.R_drewN | apply Kd.R_drew)); exact HO169.out⟩, ⟨by repeat (first | (with_reducible first | exact HB.out | apply below_alloc | apply pw_below_drewN | apply below_drew1) | exact HB.out)⟩⟩
                              · rw [if_neg c20] at H
                                exact absurd H (by simp)
                            · rw [if_neg c19] at H
                              exact absurd H (by simp)
                          · rw [if_neg c18] at H
                            exact absurd H (by simp)
                        · rw [if_neg c17] at H
                          have c17b0 : ((t164.length : Int) == t158) = false := beq_eq_false_iff_ne.mpr c17
                          have c17b1 : ((t164.length : Int) != t158) = true := bne_iff_ne.mpr c17
                          simp only [Option.some.injEq, Prod.mk.injEq] at H
                          obtain ⟨rfl, rfl⟩ := H
                          go_wp2_with (first | ((with_reducible refine gate_callee (f := 149) rfl ?_); refine goesL_ (some 54) rfl rfl Tryd.func149 (by kernel_rfl) rfl #[.int .i64 x6_3] rfl (by (try simp only [List.map_toArray, List.map_cons, List.map_nil]); first | done | rfl | (simp only [List.length_drop, List.length_take]; rfl)) ?_; (with_reducible refine (grilleref01_Character.calls x6_3 true _ A14.out).mono ?_); rintro e w' ⟨rfl, ⟨nd, rfl⟩⟩; refine ⟨_, rfl, ?_⟩) | (go_at_call 155; (with_reducible refine (grilleref01_Bytes.calls x6_3 t164 _ A16.out).mono ?_); rintro e w25 ⟨v165, rfl, ho0, hb⟩; have n0_ := Aside0.mk (Kd.V_elder' (by (with_reducible repeat (first | apply Kd.V_alloc | apply Kd.V_drewN | apply Kd.V_drew)); exact HO_0.out) (Kd.R_base ho0) hb); have n1_ := Aside0.mk (Kd.R_below (by (with_reducible repeat (first | apply Kd.R_alloc | apply Kd.R_drewN | apply Kd.R_drew)); exact HO_4.out) hb); have n2_ := Aside0.mk (Kd.R_lower (Kd.R_newM (M := fun k_ => (w.heap.size ≤ k_)) ho0 (below_size (by repeat (first | (with_reducible first | exact HB.out | apply below_alloc | apply pw_below_drewN | apply below_drew1) | exact HB.out))) (fun k_ h_ => h_)) (below_size (by repeat (first | (with_reducible first | exact HB.out | apply below_alloc | apply pw_below_drewN | apply below_drew1) | exact HB.out)))); have n3_ := Aside0.mk (below_step (by repeat (first | (with_reducible first | exact HB.out | apply below_alloc | apply pw_below_drewN | apply below_drew1) | exact HB.out)) hb); clear HO_0; clear HO_4; clear HB; have HO_0 := n0_; have HO_4 := n1_; have HO166 := n2_; have HB := n3_; clear n0_ n1_ n2_ n3_; (try clear hb); (try clear hb2); (try clear hk); (try clear hi); (try clear ho0); obtain ⟨Ao26, co26, eo26⟩ := Kd.R_slice HO166.out; subst eo26))
                          go_ret2
                          exact ⟨_, by first | rfl | (simp [errW_none, errW_some] <;> rfl) | (simp [*, errW_none, errW_some] <;> rfl), by first | exact Kd.R_nil _ _ _ _ _ | exact Kd.N_nil _ _ _ _ _ | exact Kd.V_nil _ _ _ _ _ | exact Kd.Q_nil _ _ _ _ _ | exact Kd.S_nil _ _ _ _ _, by repeat (first | (with_reducible first | exact HB.out | apply below_alloc | apply pw_below_drewN | apply below_drew1) | exact HB.out)⟩
                      · replace c15 := Bool.eq_false_iff.mpr c15
                        subst c15
                        have H1 : (some (([] : List Int), false)) = some (r1, r2) := by rw [if_neg (show ¬ (false = true) by decide)] at H; exact H
                        clear H
                        have H := H1
                        clear H1
                        simp only [Option.some.injEq, Prod.mk.injEq] at H
                        obtain ⟨rfl, rfl⟩ := H
                        go_wp2_with (first | ((with_reducible refine gate_callee (f := 149) rfl ?_); refine goesL_ (some 54) rfl rfl Tryd.func149 (by kernel_rfl) rfl #[.int .i64 x6_3] rfl (by (try simp only [List.map_toArray, List.map_cons, List.map_nil]); first | done | rfl | (simp only [List.length_drop, List.length_take]; rfl)) ?_; (with_reducible refine (grilleref01_Character.calls x6_3 false _ A14.out).mono ?_); rintro e w' ⟨rfl, ⟨nd, rfl⟩⟩; refine ⟨_, rfl, ?_⟩))
                        go_ret2
                        exact ⟨_, by first | rfl | (simp [errW_none, errW_some] <;> rfl) | (simp [*, errW_none, errW_some] <;> rfl), by first | exact Kd.R_nil _ _ _ _ _ | exact Kd.N_nil _ _ _ _ _ | exact Kd.V_nil _ _ _ _ _ | exact Kd.Q_nil _ _ _ _ _ | exact Kd.S_nil _ _ _ _ _, by repeat (first | (with_reducible first | exact HB.out | apply below_alloc | apply pw_below_drewN | apply below_drew1) | exact HB.out)⟩
        · rw [if_neg c3] at H
          exact absurd H (by simp)
      · rw [if_neg c2] at H
        have c2b0 : decide (0 < (x0_1.length : Int)) = false := decide_eq_false c2
        have c2b1 : decide (0 < x0_1.length) = false := decide_eq_false (by omega)
        clear c2
        simp only [Option.some.injEq, Prod.mk.injEq] at H
        obtain ⟨rfl, rfl⟩ := H
        obtain ⟨Ao27, co27, eo27⟩ := Kd.V_slice HO_0.out
        subst eo27
        go_wp2
        go_ret2
        exact ⟨_, by first | rfl | (simp [errW_none, errW_some] <;> rfl) | (simp [*, errW_none, errW_some] <;> rfl), by (with_reducible repeat (first | apply Kd.R_alloc | apply Kd.R_drewN | apply Kd.R_drew)); exact HO_4.out, by repeat (first | (with_reducible first | exact HB.out | apply below_alloc | apply pw_below_drewN | apply below_drew1) | exact HB.out)⟩
end Go.Proofs.YthgafcaoibfchaaDoor.Z
end
section
namespace Go.Proofs.YthgafcaoibfchaaDoor.Z
open Go.RowKit Go.Proofs.YthgafcaoibfchaaDoorW.PrintWords Go.Proofs.YthgafcaoibfchaaDoorW.PrintLast Go.Proofs.YthgafcaoibfchaaDoorW.PrintMore
set_option linter.unusedVariables false
set_option linter.unusedSimpArgs false
mutual
def grilleref01_units.l0 : Nat → List Int → Int → Bool → List Int → Int → Option (List Int × Bool)
  | 0, _, _, _, _, _ => none
  | k + 1, x0, x1, x2, x8, x9 => if x9 < (x0.length : Int) then (grilleref01_units.l1 k x0 x1 x2 x8 x9 0 0) else (some (x8, true))
def grilleref01_units.l1 : Nat → List Int → Int → Bool → List Int → Int → Int → Int → Option (List Int × Bool)
  | 0, _, _, _, _, _, _, _ => none
  | k + 1, x0, x1, x2, x8, x9, x10, x11 => if x11 < x1 then (if x2 = true then (if 0 ≤ (wrap64 (x9 + x11)) then (if (wrap64 (x9 + x11)) < (x0.length : Int) then (grilleref01_units.l1 k x0 x1 x2 x8 x9 (wrap64 ((wrap64 (x10 * 256)) + (wrap64 (rd x0 (wrap64 (x9 + x11)))))) (wrap64 (x11 + 1))) else (none)) else (none)) else (if 0 ≤ (wrap64 ((wrap64 ((wrap64 (x9 + x1)) - 1)) - x11)) then (if (wrap64 ((wrap64 ((wrap64 (x9 + x1)) - 1)) - x11)) < (x0.length : Int) then (grilleref01_units.l1 k x0 x1 x2 x8 x9 (wrap64 ((wrap64 (x10 * 256)) + (wrap64 (rd x0 (wrap64 ((wrap64 ((wrap64 (x9 + x1)) - 1)) - x11)))))) (wrap64 (x11 + 1))) else (none)) else (none))) else (if x8.length < 17592186044416 then (grilleref01_units.l0 k x0 x1 x2 (x8 ++ [x10]) (wrap64 (x9 + x1))) else (none))
end
def grilleref01_units.f (k : Nat) (l0 : List Int) (a1 : Int) (a2 : Bool) : Option (List Int × Bool) := if a1 = 0 then (none) else (if ((l0.length : Int) % a1) = 0 then (grilleref01_units.l0 k l0 a1 a2 ([] : List Int) 0) else (some (([] : List Int), false)))
end Go.Proofs.YthgafcaoibfchaaDoor.Z
end
section
namespace Go.Proofs.YthgafcaoibfchaaDoor.Z
open Go.RowKit Go.Proofs.YthgafcaoibfchaaDoorW.PrintWords Go.Proofs.YthgafcaoibfchaaDoorW.PrintLast Go.Proofs.YthgafcaoibfchaaDoorW.PrintMore
set_option linter.unusedVariables false
set_option linter.unusedSimpArgs false
mutual
def grilleref01_pairs.l0 : Nat → List Int → List Int → Int → Option (List Int × Bool)
  | 0, _, _, _ => none
  | k + 1, x0, x4, x5 => if x5 < (x0.length : Int) then (if 0 ≤ x5 then (if (rd x0 x5) ≥ 56320 then (grilleref01_pairs.j1 k x0 x4 x5 (rd x0 x5) (decide ((rd x0 x5) ≤ 57343))) else (grilleref01_pairs.j1 k x0 x4 x5 (rd x0 x5) false)) else (none)) else (some (x4, true))
def grilleref01_pairs.j1 : Nat → List Int → List Int → Int → Int → Bool → Option (List Int × Bool)
  | 0, _, _, _, _, _ => none
  | k + 1, x0, x4, x5, x6, x22 => if x22 = true then (some (([] : List Int), false)) else (if x6 ≥ 55296 then (grilleref01_pairs.j2 k x0 x4 x5 x6 (decide (x6 ≤ 56319))) else (grilleref01_pairs.j2 k x0 x4 x5 x6 false))
def grilleref01_pairs.j2 : Nat → List Int → List Int → Int → Int → Bool → Option (List Int × Bool)
  | 0, _, _, _, _, _ => none
  | k + 1, x0, x4, x5, x6, x28 => if x28 = true then (if (wrap64 (x5 + 1)) ≥ (x0.length : Int) then (some (([] : List Int), false)) else (if 0 ≤ (wrap64 (x5 + 1)) then (if (wrap64 (x5 + 1)) < (x0.length : Int) then (if (rd x0 (wrap64 (x5 + 1))) < 56320 then (some (([] : List Int), false)) else (if (rd x0 (wrap64 (x5 + 1))) > 57343 then (some (([] : List Int), false)) else (if x4.length < 17592186044416 then (grilleref01_pairs.l0 k x0 (x4 ++ [wrap64 ((wrap64 ((wrap64 (65536 + (wrap64 ((wrap64 (x6 - 55296)) * 1024)))) + (rd x0 (wrap64 (x5 + 1))))) - 56320)]) (wrap64 ((wrap64 (x5 + 1)) + 1))) else (none)))) else (none)) else (none))) else (if x4.length < 17592186044416 then (grilleref01_pairs.l0 k x0 (x4 ++ [x6]) (wrap64 (x5 + 1))) else (none))
end
def grilleref01_pairs.f (k : Nat) (l0 : List Int) : Option (List Int × Bool) := grilleref01_pairs.l0 k l0 ([] : List Int) 0
end Go.Proofs.YthgafcaoibfchaaDoor.Z
end
section
namespace Go.Proofs.YthgafcaoibfchaaDoor.Z
open Go.RowKit Go.Proofs.YthgafcaoibfchaaDoorW.PrintWords Go.Proofs.YthgafcaoibfchaaDoorW.PrintLast Go.Proofs.YthgafcaoibfchaaDoorW.PrintMore
set_option linter.unusedVariables false
set_option linter.unusedSimpArgs false
mutual
def grilleref01_Runes.j1 : Nat → List Int → Bool → Option (List Int × Int)
  | 0, _, _ => none
  | k + 1, x6, x7 => if x7 = true then (grilleref01_Runes.l0 k x6 0) else (some (([] : List Int), 6))
def grilleref01_Runes.l0 : Nat → List Int → Int → Option (List Int × Int)
  | 0, _, _ => none
  | k + 1, x6, x10 => if x10 < (x6.length : Int) then (if 0 ≤ x10 then ((grilleref01_Character.f (rd x6 x10)).bind fun t210 => (if t210 = true then (grilleref01_Runes.l0 k x6 (wrap64 (x10 + 1))) else (some (([] : List Int), 6)))) else (none)) else (some (x6, 0))
def grilleref01_Runes.j0 : Nat → List Int → Int → Bool → Option (List Int × Int)
  | 0, _, _, _ => none
  | k + 1, x0, x4, x34 => if x34 = true then ((grilleref01_units.f k x0 2 (x4 == 2)).bind fun bt197 => ((grilleref01_pairs.f k bt197.1).bind fun bt201 => (if bt201.2 = true then (grilleref01_Runes.j1 k bt201.1 bt197.2) else (grilleref01_Runes.j1 k bt201.1 false)))) else ((grilleref01_units.f k x0 4 (x4 == 4)).bind fun bt205 => (grilleref01_Runes.j1 k bt205.1 bt205.2))
end
def grilleref01_Runes.f (k : Nat) (l0 : List Int) : Option (List Int × Int) := (grilleref01_Detect.f k l0).bind fun bt190 => (if 0 ≤ bt190.2 then (if bt190.2 ≤ (l0.length : Int) then (if bt190.1 = 0 then ((grilleref01_plain.f k (l0.drop (bt190.2 : Int).toNat)).bind fun bt193 => (grilleref01_Runes.j1 k bt193.1 bt193.2)) else (if bt190.1 = 1 then (grilleref01_Runes.j0 k (l0.drop (bt190.2 : Int).toNat) bt190.1 (bt190.1 == 1)) else (grilleref01_Runes.j0 k (l0.drop (bt190.2 : Int).toNat) bt190.1 (bt190.1 == 2)))) else (none)) else (none))
end Go.Proofs.YthgafcaoibfchaaDoor.Z
end
section
namespace Go.Proofs.YthgafcaoibfchaaDoor.Z
open Go.RowKit Go.Proofs.YthgafcaoibfchaaDoorW.PrintWords Go.Proofs.YthgafcaoibfchaaDoorW.PrintLast Go.Proofs.YthgafcaoibfchaaDoorW.PrintMore
set_option linter.unusedVariables false
set_option linter.unusedSimpArgs false
def grilleref02_Chars.f (k : Nat) (a0 : ByteArray) : Option (List Int × Bool) := (some (([239, 187, 191] : List Int) : List Int)).bind fun y211 => (if y211.length + a0.size < 140737488355328 then ((grilleref01_Runes.f k (y211 ++ bytesOf a0)).bind fun bt217 => (some (bt217.1, (bt217.2 == 0)))) else (none))
end Go.Proofs.YthgafcaoibfchaaDoor.Z
end
section
section
namespace Go.Proofs.YthgafcaoibfchaaDoor.Rrn
set_option linter.unusedVariables false
set_option linter.unusedSimpArgs false
variable {α β : Type}
def Ev (g : Nat → Option α) (v : α) : Prop := ∃ K, ∀ k, K ≤ k → g k = some v
theorem Ev.val (v : α) : Ev (fun _ => some v) v := ⟨0, fun _ _ => rfl⟩
theorem Ev.eq {g : Nat → Option α} {v u : α} (h : Ev g v) (e : v = u) : Ev g u := e ▸ h
theorem Ev.congr {f g : Nat → Option α} {v : α} (h : Ev g v) (e : ∀ k, f k = g k) : Ev f v := let ⟨K, hk⟩ := h; ⟨K, fun k hK => (e k).trans (hk k hK)⟩
theorem Ev.one {c : Option α} {v : α} (h : c = some v) : Ev (fun _ => c) v := ⟨0, fun _ _ => h⟩
theorem Ev.succ {g : Nat → Option α} {v : α} (h : Ev (fun k => g (k + 1)) v) : Ev g v := by
  obtain ⟨K, hk⟩ := h
  refine ⟨K + 1, fun k hK => ?_⟩
  obtain ⟨m, rfl⟩ : ∃ m, k = m + 1 := ⟨k - 1, by omega⟩
  exact hk m (by omega)
theorem Ev.bind {f : Nat → Option α} {g : Nat → α → Option β} {a : α} {b : β} (hf : Ev f a) (hg : Ev (fun k => g k a) b) : Ev (fun k => (f k).bind (g k)) b := by
  obtain ⟨K, hk⟩ := hf
  obtain ⟨L, hl⟩ := hg
  refine ⟨max K L, fun k h => ?_⟩
  show (f k).bind (g k) = _
  rw [hk k (by omega)]
  exact hl k (by omega)
theorem Ev.pos {c : Prop} [Decidable c] {f g : Nat → Option α} {v : α} (hc : c) (h : Ev f v) : Ev (fun k => if c then f k else g k) v := h.congr (fun k => if_pos hc)
theorem Ev.neg {c : Prop} [Decidable c] {f g : Nat → Option α} {v : α} (hc : ¬ c) (h : Ev g v) : Ev (fun k => if c then f k else g k) v := h.congr (fun k => if_neg hc)
theorem Ev.ite {c : Prop} [Decidable c] {f g : Nat → Option α} {v u : α} (h : c → Ev f v) (h' : ¬ c → Ev g u) : Ev (fun k => if c then f k else g k) (if c then v else u) := by
  by_cases hc : c
  · rw [if_pos hc]; exact Ev.pos hc (h hc)
  · rw [if_neg hc]; exact Ev.neg hc (h' hc)
end Go.Proofs.YthgafcaoibfchaaDoor.Rrn
end
section
namespace Go.Proofs.YthgafcaoibfchaaDoor.Rrn
set_option linter.unusedVariables false
set_option linter.unusedSimpArgs false
open Go.RowKit Go.Proofs.YthgafcaoibfchaaDoor.Z Go.Proofs.YthgafcaoibfchaaDoorW.PrintWords Go.Proofs.YthgafcaoibfchaaDoorW.PrintLast Go.Proofs.YthgafcaoibfchaaDoorW.PrintMore
theorem w64 (n : Int) (h0 : -9223372036854775808 ≤ n) (h1 : n ≤ 9223372036854775807) : wrap64 n = n := by unfold wrap64; omega
def ok (r : Int) : Prop := 0 ≤ r ∧ r ≤ 1114111 ∧ ¬ (55296 ≤ r ∧ r ≤ 57343)
instance (r : Int) : Decidable (ok r) := by unfold ok; infer_instance
end Go.Proofs.YthgafcaoibfchaaDoor.Rrn
end
section
namespace Go.Proofs.YthgafcaoibfchaaDoor.Rrn
set_option linter.unusedVariables false
set_option linter.unusedSimpArgs false
open Go.RowKit Go.Proofs.YthgafcaoibfchaaDoor.Z Go.Proofs.YthgafcaoibfchaaDoorW.PrintWords Go.Proofs.YthgafcaoibfchaaDoorW.PrintLast Go.Proofs.YthgafcaoibfchaaDoorW.PrintMore
def pre : List Int → List Int → Bool
  | [], _ => true
  | _ :: _, [] => false
  | x :: r, y :: b => y == x && pre r b
theorem w64' (n : Nat) (h : n < 4611686018427387904) : wrap64 ((n : Int) + 1) = ((n + 1 : Nat) : Int) := by unfold wrap64; omega
theorem rd_nat (l : List Int) (i : Nat) (h : i < l.length) : rd l (i : Int) = l[i] := by
  unfold rd
  rw [List.getD_eq_getElem?_getD, show ((i : Int)).toNat = i from by omega, List.getElem?_eq_getElem h]
  rfl
theorem drop_nat (l : List Int) (i : Nat) (h : i < l.length) : l.drop i = rd l (i : Int) :: l.drop (i + 1) := by
  rw [rd_nat l i h]; exact List.drop_eq_getElem_cons h
def nz (b : List Int) (i : Nat) : Bool := decide (i < b.length) && rd b (i : Int) != 0
def detect3 (b : List Int) : Int × Int := if (nz b 0 && pre [0] (b.drop 1)) = true then (1, 0) else if pre [239, 187, 191] b = true then (0, 3) else (0, 0)
def detect2 (b : List Int) : Int × Int := if (pre [0] b && nz b 1) = true then (2, 0) else if pre [255, 254] b = true then (1, 2) else detect3 b
def detect1 (b : List Int) : Int × Int := if (nz b 0 && pre [0, 0, 0] (b.drop 1)) = true then (3, 0) else if pre [254, 255] b = true then (2, 2) else detect2 b
def detect (b : List Int) : Int × Int := if pre [0, 0, 254, 255] b = true then (4, 4) else if (pre [0, 0, 0] b && nz b 3) = true then (4, 0) else if pre [255, 254, 0, 0] b = true then (3, 4) else detect1 b
end Go.Proofs.YthgafcaoibfchaaDoor.Rrn
end
section
namespace Go.Proofs.YthgafcaoibfchaaDoor.Rrn
set_option linter.unusedVariables false
set_option linter.unusedSimpArgs false
open Go.RowKit Go.Proofs.YthgafcaoibfchaaDoor.Z Go.Proofs.YthgafcaoibfchaaDoorW.PrintWords Go.Proofs.YthgafcaoibfchaaDoorW.PrintLast Go.Proofs.YthgafcaoibfchaaDoorW.PrintMore
def Bts (l : List Int) : Prop := ∀ x ∈ l, 0 ≤ x ∧ x < 256
end Go.Proofs.YthgafcaoibfchaaDoor.Rrn
end
section
namespace Go.Proofs.YthgafcaoibfchaaDoor.Rrn
set_option linter.unusedVariables false
set_option linter.unusedSimpArgs false
open Go.RowKit Go.Proofs.YthgafcaoibfchaaDoor.Z Go.Proofs.YthgafcaoibfchaaDoorW.PrintWords Go.Proofs.YthgafcaoibfchaaDoorW.PrintLast Go.Proofs.YthgafcaoibfchaaDoorW.PrintMore
theorem rd_mem (l : List Int) (i : Nat) (h : i < l.length) : rd l (i : Int) ∈ l := by rw [rd_nat l i h]; exact List.getElem_mem h
theorem char_eq (r : Int) : grilleref01_Character.f r = some (decide (ok r)) := by
  unfold grilleref01_Character.f
  repeat' split
  all_goals (refine congrArg some (Bool.eq_iff_iff.mpr ?_); simp only [decide_eq_true_eq, bne_iff_ne, ne_eq, eq_self, Bool.false_eq_true, true_iff, false_iff, not_true_eq_false] at *; (try simp only [ok] at *); omega)
theorem bytes_eq (r : Int) (h : ok r) : grilleref01_Bytes.f r = some (Lib.encodeRuneZ r) := by
  obtain ⟨h0, h1, h2⟩ := h
  unfold grilleref01_Bytes.f
  have d (c : Int) (hc : 0 < c) : Int.tdiv r c = r / c := Int.tdiv_eq_ediv_of_nonneg h0
  have m (x c : Int) (hx : 0 ≤ x) : Int.tmod x c = x % c := Int.tmod_eq_emod_of_nonneg hx
  rw [d 64 (by decide), d 4096 (by decide), d 262144 (by decide)]
  rw [w64 (r / 64) (by omega) (by omega), w64 (r / 4096) (by omega) (by omega), w64 (r / 262144) (by omega) (by omega), m r 64 h0, m (r / 64) 64 (by omega), m (r / 4096) 64 (by omega)]
  rw [w64 (192 + r / 64) (by omega) (by omega), w64 (224 + r / 4096) (by omega) (by omega), w64 (240 + r / 262144) (by omega) (by omega), w64 (128 + r % 64) (by omega) (by omega), w64 (128 + r / 64 % 64) (by omega) (by omega), w64 (128 + r / 4096 % 64) (by omega) (by omega)]
  by_cases a : r < 128
  · rw [if_pos a, Lib.encodeRuneZ_one h0 (by omega), show r % 256 = r by omega]
  rw [if_neg a]
  by_cases b : r < 2048
  · rw [if_pos b, Lib.encodeRuneZ_two (by omega) (by omega), show (192 + r / 64) % 256 = 192 + r / 64 by omega, show (128 + r % 64) % 256 = 128 + r % 64 by omega]
  rw [if_neg b]
  by_cases c : r < 65536
  · rw [if_pos c, Lib.encodeRuneZ_three (by omega), show (224 + r / 4096) % 256 = 224 + r / 4096 by omega, show (128 + r / 64 % 64) % 256 = 128 + r / 64 % 64 by omega, show (128 + r % 64) % 256 = 128 + r % 64 by omega]
  · rw [if_neg c, Lib.encodeRuneZ_four (by omega) h1, show (240 + r / 262144) % 256 = 240 + r / 262144 by omega, show (128 + r / 4096 % 64) % 256 = 128 + r / 4096 % 64 by omega, show (128 + r / 64 % 64) % 256 = 128 + r / 64 % 64 by omega, show (128 + r % 64) % 256 = 128 + r % 64 by omega]
end Go.Proofs.YthgafcaoibfchaaDoor.Rrn
end
section
namespace Go.Proofs.YthgafcaoibfchaaDoor.Rrn
set_option linter.unusedVariables false
set_option linter.unusedSimpArgs false
open Go.RowKit Go.Proofs.YthgafcaoibfchaaDoor.Z Go.Proofs.YthgafcaoibfchaaDoorW.PrintWords Go.Proofs.YthgafcaoibfchaaDoorW.PrintLast Go.Proofs.YthgafcaoibfchaaDoorW.PrintMore
def decI (n b0 b1 b2 b3 : Int) : Option (Int × Nat) :=
  if b0 < 128 then some (b0, 1)
  else if b0 / 32 = 6 ∧ 1 < n ∧ b1 / 64 = 2 then
    (if 128 ≤ b0 % 32 * 64 + b1 % 64 then some (b0 % 32 * 64 + b1 % 64, 2) else none)
  else if b0 / 16 = 14 ∧ (1 < n ∧ b1 / 64 = 2) ∧ (2 < n ∧ b2 / 64 = 2) then
    (if 2048 ≤ b0 % 16 * 4096 + b1 % 64 * 64 + b2 % 64 ∧ ok (b0 % 16 * 4096 + b1 % 64 * 64 + b2 % 64) then some (b0 % 16 * 4096 + b1 % 64 * 64 + b2 % 64, 3) else none)
  else if b0 / 8 = 30 ∧ (1 < n ∧ b1 / 64 = 2) ∧ (2 < n ∧ b2 / 64 = 2) ∧ (3 < n ∧ b3 / 64 = 2) then
    (if 65536 ≤ b0 % 8 * 262144 + b1 % 64 * 4096 + b2 % 64 * 64 + b3 % 64 ∧ ok (b0 % 8 * 262144 + b1 % 64 * 4096 + b2 % 64 * 64 + b3 % 64) then some (b0 % 8 * 262144 + b1 % 64 * 4096 + b2 % 64 * 64 + b3 % 64, 4) else none)
  else none
def dec1 (b : List Int) : Option (Int × Nat) := decI b.length (rd b 0) (rd b 1) (rd b 2) (rd b 3)
theorem decN (n b0 b1 b2 b3 : Nat) (h0 : b0 < 256) : Lib.decodeN n b0 b1 b2 b3 = match decI n b0 b1 b2 b3 with | some p => (p.1.toNat, p.2) | none => (65533, 1) := by
  unfold Lib.decodeN decI
  by_cases c1 : b0 < 128
  · have C1 : (b0 : Int) < 128 := by omega
    rw [if_pos c1, if_pos C1]
    simp
  have C1 : ¬ (b0 : Int) < 128 := by omega
  rw [if_neg c1, if_neg C1]
  by_cases c2 : b0 / 32 = 6 ∧ (1 < n ∧ b1 / 64 = 2)
  · have C2 : (b0 : Int) / 32 = 6 ∧ 1 < (n : Int) ∧ (b1 : Int) / 64 = 2 := by omega
    rw [if_pos c2, if_pos C2]
    by_cases d : b0 % 32 * 64 + b1 % 64 ≥ 128
    · have D : 128 ≤ (b0 : Int) % 32 * 64 + (b1 : Int) % 64 := by omega
      rw [if_pos d, if_pos D]
      simp only [Prod.mk.injEq, and_true]
      omega
    · have D : ¬ 128 ≤ (b0 : Int) % 32 * 64 + (b1 : Int) % 64 := by omega
      rw [if_neg d, if_neg D]
  have C2 : ¬ ((b0 : Int) / 32 = 6 ∧ 1 < (n : Int) ∧ (b1 : Int) / 64 = 2) := by omega
  rw [if_neg c2, if_neg C2]
  by_cases c3 : b0 / 16 = 14 ∧ (1 < n ∧ b1 / 64 = 2) ∧ (2 < n ∧ b2 / 64 = 2)
  · have C3 : (b0 : Int) / 16 = 14 ∧ (1 < (n : Int) ∧ (b1 : Int) / 64 = 2) ∧ (2 < (n : Int) ∧ (b2 : Int) / 64 = 2) := by omega
    rw [if_pos c3, if_pos C3]
    by_cases d : b0 % 16 * 4096 + b1 % 64 * 64 + b2 % 64 ≥ 2048 ∧ (b0 % 16 * 4096 + b1 % 64 * 64 + b2 % 64 < 55296 ∨ (57344 ≤ b0 % 16 * 4096 + b1 % 64 * 64 + b2 % 64 ∧ b0 % 16 * 4096 + b1 % 64 * 64 + b2 % 64 ≤ 1114111))
    · have D : 2048 ≤ (b0 : Int) % 16 * 4096 + (b1 : Int) % 64 * 64 + (b2 : Int) % 64 ∧ ok ((b0 : Int) % 16 * 4096 + (b1 : Int) % 64 * 64 + (b2 : Int) % 64) := by unfold ok; omega
      rw [if_pos d, if_pos D]
      simp only [Prod.mk.injEq, and_true]
      omega
    · have D : ¬ (2048 ≤ (b0 : Int) % 16 * 4096 + (b1 : Int) % 64 * 64 + (b2 : Int) % 64 ∧ ok ((b0 : Int) % 16 * 4096 + (b1 : Int) % 64 * 64 + (b2 : Int) % 64)) := by unfold ok; omega
      rw [if_neg d, if_neg D]
  have C3 : ¬ ((b0 : Int) / 16 = 14 ∧ (1 < (n : Int) ∧ (b1 : Int) / 64 = 2) ∧ (2 < (n : Int) ∧ (b2 : Int) / 64 = 2)) := by omega
  rw [if_neg c3, if_neg C3]
  by_cases c4 : b0 / 8 = 30 ∧ (1 < n ∧ b1 / 64 = 2) ∧ (2 < n ∧ b2 / 64 = 2) ∧ (3 < n ∧ b3 / 64 = 2)
  · have C4 : (b0 : Int) / 8 = 30 ∧ (1 < (n : Int) ∧ (b1 : Int) / 64 = 2) ∧ (2 < (n : Int) ∧ (b2 : Int) / 64 = 2) ∧ (3 < (n : Int) ∧ (b3 : Int) / 64 = 2) := by omega
    rw [if_pos c4, if_pos C4]
    by_cases d : b0 % 8 * 262144 + b1 % 64 * 4096 + b2 % 64 * 64 + b3 % 64 ≥ 65536 ∧ (b0 % 8 * 262144 + b1 % 64 * 4096 + b2 % 64 * 64 + b3 % 64 < 55296 ∨ (57344 ≤ b0 % 8 * 262144 + b1 % 64 * 4096 + b2 % 64 * 64 + b3 % 64 ∧ b0 % 8 * 262144 + b1 % 64 * 4096 + b2 % 64 * 64 + b3 % 64 ≤ 1114111))
    · have D : 65536 ≤ (b0 : Int) % 8 * 262144 + (b1 : Int) % 64 * 4096 + (b2 : Int) % 64 * 64 + (b3 : Int) % 64 ∧ ok ((b0 : Int) % 8 * 262144 + (b1 : Int) % 64 * 4096 + (b2 : Int) % 64 * 64 + (b3 : Int) % 64) := by unfold ok; omega
      rw [if_pos d, if_pos D]
      simp only [Prod.mk.injEq, and_true]
      omega
    · have D : ¬ (65536 ≤ (b0 : Int) % 8 * 262144 + (b1 : Int) % 64 * 4096 + (b2 : Int) % 64 * 64 + (b3 : Int) % 64 ∧ ok ((b0 : Int) % 8 * 262144 + (b1 : Int) % 64 * 4096 + (b2 : Int) % 64 * 64 + (b3 : Int) % 64)) := by unfold ok; omega
      rw [if_neg d, if_neg D]
  have C4 : ¬ ((b0 : Int) / 8 = 30 ∧ (1 < (n : Int) ∧ (b1 : Int) / 64 = 2) ∧ (2 < (n : Int) ∧ (b2 : Int) / 64 = 2) ∧ (3 < (n : Int) ∧ (b3 : Int) / 64 = 2)) := by omega
  rw [if_neg c4, if_neg C4]
theorem decI_ok (n b0 b1 b2 b3 r : Int) (w : Nat) (h0 : 0 ≤ b0) (h : decI n b0 b1 b2 b3 = some (r, w)) : ok r ∧ 1 ≤ w ∧ w ≤ 4 ∧ ((w : Int) ≤ n ∨ w = 1) ∧ ¬ (r = 65533 ∧ w < 2) := by
  unfold decI at h
  repeat' split at h
  all_goals (first | (cases h; done) | (simp only [Option.some.injEq, Prod.mk.injEq] at h; obtain ⟨rfl, rfl⟩ := h; unfold ok at *; omega))
theorem rd_bts {b : List Int} (hb : Bts b) (i : Nat) : 0 ≤ rd b (i : Int) ∧ rd b (i : Int) < 256 := by
  by_cases h : i < b.length
  · exact hb _ (rd_mem b i h)
  · unfold rd
    rw [List.getD_eq_getElem?_getD, show ((i : Int)).toNat = i from by omega, List.getElem?_eq_none (by omega)]
    decide
def plainL : Nat → List Int → Option (List Int)
  | _, [] => some []
  | 0, _ :: _ => none
  | n + 1, a :: t => (dec1 (a :: t)).bind fun p => (plainL n ((a :: t).drop p.2)).map (p.1 :: ·)
theorem plainL_ok : ∀ (n : Nat) (b l : List Int), Bts b → plainL n b = some l → ∀ r ∈ l, ok r
  | _, [], l, hb, h => by simp [plainL] at h; subst h; simp
  | 0, _ :: _, l, hb, h => by simp [plainL] at h
  | n + 1, a :: t, l, hb, h => by
    unfold plainL at h
    cases hd : dec1 (a :: t) with
    | none => rw [hd] at h; cases h
    | some p =>
      rw [hd] at h
      simp only [Option.bind_some] at h
      cases he : plainL n ((a :: t).drop p.2) with
      | none => rw [he] at h; cases h
      | some m =>
        rw [he] at h
        simp only [Option.map_some, Option.some.injEq] at h
        subst h
        intro r hr
        rcases List.mem_cons.mp hr with rfl | hr
        · exact (decI_ok _ _ _ _ _ _ p.2 (rd_bts hb 0).1 hd).1
        · exact plainL_ok n _ m (fun x hx => hb x (List.mem_of_mem_drop hx)) he r hr
end Go.Proofs.YthgafcaoibfchaaDoor.Rrn
end
section
namespace Go.Proofs.YthgafcaoibfchaaDoor.Rrn
set_option linter.unusedVariables false
set_option linter.unusedSimpArgs false
open Go.RowKit Go.Proofs.YthgafcaoibfchaaDoor.Z Go.Proofs.YthgafcaoibfchaaDoorW.PrintWords Go.Proofs.YthgafcaoibfchaaDoorW.PrintLast Go.Proofs.YthgafcaoibfchaaDoorW.PrintMore
def res (out : List Int) : Option (List Int) → List Int × Bool
  | some l => (out ++ l, true)
  | none => ([], false)
theorem res_map (out : List Int) (r : Int) (o : Option (List Int)) : res (out ++ [r]) o = res out (o.map (r :: ·)) := by
  cases o <;> simp [res]
theorem dec1_le {b : List Int} (hb : Bts b) (hn : b ≠ []) {r : Int} {w : Nat} (h : dec1 b = some (r, w)) : 1 ≤ w ∧ w ≤ b.length := by
  have := decI_ok _ _ _ _ _ r w (rd_bts hb 0).1 h
  have hp : 0 < b.length := List.length_pos_iff.mpr hn
  omega
theorem bts_drop {b : List Int} (hb : Bts b) (n : Nat) : Bts (b.drop n) := fun x hx => hb x (List.mem_of_mem_drop hx)
def okAll : Option (List Int) → List Int × Int
  | some l => if ∀ r ∈ l, ok r then (l, 0) else ([], 6)
  | none => ([], 6)
theorem plainL_length : ∀ (n : Nat) (b l : List Int), Bts b → plainL n b = some l → l.length ≤ b.length
  | _, [], l, hb, h => by
    rename_i n
    cases n <;> (simp [plainL] at h; subst h; simp)
  | 0, _ :: _, l, hb, h => by simp [plainL] at h
  | n + 1, a :: t, l, hb, h => by
    have hun : plainL (n + 1) (a :: t) = (dec1 (a :: t)).bind fun p => (plainL n ((a :: t).drop p.2)).map (p.1 :: ·) := rfl
    rw [hun] at h
    cases hd : dec1 (a :: t) with
    | none => rw [hd] at h; cases h
    | some p =>
      obtain ⟨h1, h2⟩ := dec1_le (r := p.1) (w := p.2) hb (by simp) hd
      rw [hd] at h
      simp only [Option.bind_some] at h
      cases he : plainL n ((a :: t).drop p.2) with
      | none => rw [he] at h; cases h
      | some m =>
        rw [he] at h
        simp only [Option.map_some, Option.some.injEq] at h
        subst h
        have := plainL_length n _ m (bts_drop hb _) he
        rw [List.length_drop] at this
        simp at this h2 ⊢
        omega
end Go.Proofs.YthgafcaoibfchaaDoor.Rrn
end
section
namespace Go.Proofs.YthgafcaoibfchaaDoor.Rrn
set_option linter.unusedVariables false
set_option linter.unusedSimpArgs false
open Go.RowKit Go.Proofs.YthgafcaoibfchaaDoor.Z Go.Proofs.YthgafcaoibfchaaDoorW.PrintWords Go.Proofs.YthgafcaoibfchaaDoorW.PrintLast Go.Proofs.YthgafcaoibfchaaDoorW.PrintMore
def fit : List Int → List Int → Bool
  | [], _ => true
  | _ :: _, [] => false
  | x :: r, y :: b => (if x = 256 then decide (y ≠ 0) else decide (y = x)) && fit r b
theorem fits_loop (b row : List Int) (hb : Bts b) (hl : row.length ≤ b.length) (hr : row.length ≤ 4294967296) (hw : ∀ x ∈ row, x ≤ 256) : ∀ (n i : Nat), i + n = row.length → Ev (fun k => grilleref01_fits.l0 k b row (i : Int)) (fit (row.drop i) (b.drop i))
  | 0, i, h => by
    refine Ev.succ ?_
    simp only [grilleref01_fits.l0]
    refine Ev.neg (by omega) ((Ev.val _).eq ?_)
    rw [List.drop_eq_nil_of_le (by omega)]
    rfl
  | n + 1, i, h => by
    refine Ev.succ ?_
    simp only [grilleref01_fits.l0]
    have hx := hw _ (rd_mem row i (by omega))
    obtain ⟨b0, b1⟩ := hb _ (rd_mem b i (by omega))
    have ih := fits_loop b row hb hl hr hw n (i + 1) (by omega)
    rw [← w64' i (by omega)] at ih
    rw [drop_nat row i (by omega), drop_nat b i (by omega), fit, w64 (rd b (i : Int)) (by omega) (by omega)]
    refine Ev.pos (by omega) (Ev.pos (by omega) ?_)
    by_cases h256 : rd row (i : Int) = 256
    · rw [if_pos h256]
      refine Ev.pos h256 (Ev.pos (by omega) ?_)
      by_cases hz : rd b (i : Int) = 0
      · exact Ev.pos hz ((Ev.val _).eq (by simp [hz]))
      · exact Ev.neg hz (Ev.neg (by omega) (ih.eq (by simp [hz])))
    · rw [if_neg h256]
      refine Ev.neg h256 (Ev.pos (by omega) (Ev.pos (by omega) ?_))
      by_cases hz : rd b (i : Int) = rd row (i : Int)
      · exact Ev.pos hz (ih.eq (by simp [hz]))
      · exact Ev.neg hz ((Ev.val _).eq (by simp [hz]))
theorem fit_short : ∀ (row b : List Int), b.length < row.length → fit row b = false
  | [], _, h => by simp at h
  | _ :: _, [], _ => rfl
  | x :: r, y :: b, h => by
    rw [fit, fit_short r b (by simp at h; omega), Bool.and_false]
theorem fits_eq (b row : List Int) (hb : Bts b) (hr : row.length ≤ 4294967296) (hw : ∀ x ∈ row, x ≤ 256) : Ev (fun k => grilleref01_fits.f k b row) (fit row b) := by
  simp only [grilleref01_fits.f]
  by_cases h : (b.length : Int) < (row.length : Int)
  · refine Ev.pos h ((Ev.val _).eq ?_)
    rw [fit_short row b (by omega)]
  · exact Ev.neg h (fits_loop b row hb (by omega) hr hw row.length 0 (by omega))
def rdetect (b : List Int) : Int × Int :=
  if fit [0, 0, 254, 255] b = true then (4, 4) else if fit [0, 0, 0, 256] b = true then (4, 0) else if fit [255, 254, 0, 0] b = true then (3, 4) else if fit [256, 0, 0, 0] b = true then (3, 0)
  else if fit [254, 255] b = true then (2, 2) else if fit [0, 256] b = true then (2, 0) else if fit [255, 254] b = true then (1, 2) else if fit [256, 0] b = true then (1, 0) else if fit [239, 187, 191] b = true then (0, 3) else (0, 0)
theorem fit_pre : ∀ (row b : List Int), (∀ x ∈ row, x ≠ 256) → fit row b = pre row b
  | [], _, _ => by simp [fit, pre]
  | _ :: _, [], _ => by simp [fit, pre]
  | x :: r, y :: b, h => by
    rw [fit, pre, if_neg (h x List.mem_cons_self), fit_pre r b (fun z hz => h z (List.mem_cons_of_mem _ hz))]
    congr 1
theorem fit_a (b : List Int) : fit [0, 0, 0, 256] b = (pre [0, 0, 0] b && nz b 3) := by
  match b with
  | [] => rfl
  | [_] => simp [fit, pre]
  | [_, _] => simp [fit, pre]
  | [_, _, _] => simp [fit, pre, nz]
  | x :: y :: z :: u :: t =>
    simp only [fit, pre, nz, rd]
    by_cases hu : u = 0 <;> by_cases hx : x = 0 <;> by_cases hy : y = 0 <;> by_cases hz : z = 0 <;> simp [hu, hx, hy, hz]
theorem fit_b (b : List Int) : fit [256, 0, 0, 0] b = (nz b 0 && pre [0, 0, 0] (b.drop 1)) := by
  match b with
  | [] => rfl
  | x :: t =>
    have e := fit_pre [0, 0, 0] t (by decide)
    rw [fit, e]
    simp only [nz, rd]
    by_cases hx : x = 0 <;> simp [hx]
theorem fit_c (b : List Int) : fit [0, 256] b = (pre [0] b && nz b 1) := by
  match b with
  | [] => rfl
  | [_] => simp [fit, pre, nz]
  | x :: u :: t =>
    simp only [fit, pre, nz, rd]
    by_cases hu : u = 0 <;> by_cases hx : x = 0 <;> simp [hu, hx]
theorem fit_d (b : List Int) : fit [256, 0] b = (nz b 0 && pre [0] (b.drop 1)) := by
  match b with
  | [] => rfl
  | x :: t =>
    have e := fit_pre [0] t (by decide)
    rw [fit, e]
    simp only [nz, rd]
    by_cases hx : x = 0 <;> simp [hx]
theorem rdetect_same (b : List Int) : rdetect b = detect b := by
  unfold rdetect detect detect1 detect2 detect3
  rw [fit_a, fit_b, fit_c, fit_d, fit_pre [0, 0, 254, 255] b (by decide), fit_pre [255, 254, 0, 0] b (by decide), fit_pre [254, 255] b (by decide), fit_pre [255, 254] b (by decide), fit_pre [239, 187, 191] b (by decide)]
theorem rdetect_eq (b : List Int) (hb : Bts b) : Ev (fun k => grilleref01_Detect.f k b) (detect b) := by
  rw [← rdetect_same]
  simp only [grilleref01_Detect.f]
  unfold rdetect
  have go (row : List Int) (hr : row.length ≤ 4294967296) (hw : ∀ x ∈ row, x ≤ 256) {g : Nat → Option (Int × Int)} {p q : Int × Int} (h : Ev g q) : Ev (fun k => (grilleref01_fits.f k b row).bind fun t => if t = true then some p else g k) (if fit row b = true then p else q) :=
    Ev.bind (fits_eq b row hb hr hw) (Ev.ite (fun _ => Ev.val _) (fun _ => h))
  refine go _ (by decide) (by decide) ?_
  refine go _ (by decide) (by decide) ?_
  refine go _ (by decide) (by decide) ?_
  refine go _ (by decide) (by decide) ?_
  refine go _ (by decide) (by decide) ?_
  refine go _ (by decide) (by decide) ?_
  refine go _ (by decide) (by decide) ?_
  refine go _ (by decide) (by decide) ?_
  exact go _ (by decide) (by decide) (Ev.val _)
theorem enc_len (r : Int) (h : ok r) : ((Lib.encodeRuneZ r).length : Int) = if r < 128 then 1 else if r < 2048 then 2 else if r < 65536 then 3 else 4 := by
  obtain ⟨h0, h1, h2⟩ := h
  by_cases a : r < 128
  · rw [if_pos a, Lib.encodeRuneZ_one h0 (by omega)]; rfl
  rw [if_neg a]
  by_cases b : r < 2048
  · rw [if_pos b, Lib.encodeRuneZ_two (by omega) (by omega)]; rfl
  rw [if_neg b]
  by_cases c : r < 65536
  · rw [if_pos c, Lib.encodeRuneZ_three (by omega)]; rfl
  · rw [if_neg c, Lib.encodeRuneZ_four (by omega) h1]; rfl
theorem enc_low (r : Int) (h : ok r) : (r < 128 → ((Lib.encodeRuneZ r).length : Int) = 1) ∧ (128 ≤ r → r < 2048 → ((Lib.encodeRuneZ r).length : Int) = 2) ∧ (2048 ≤ r → r < 65536 → ((Lib.encodeRuneZ r).length : Int) = 3) := by
  rw [enc_len r h]
  refine ⟨fun a => if_pos a, fun a b => ?_, fun a b => ?_⟩
  · rw [if_neg (by omega), if_pos b]
  · rw [if_neg (by omega), if_neg (by omega), if_pos b]
def lead (c : Int) : Int × Int := if c < 128 then (1, c) else if 192 ≤ c ∧ c < 224 then (2, c - 192) else if 224 ≤ c ∧ c < 240 then (3, c - 224) else if 240 ≤ c ∧ c < 248 then (4, c - 240) else (0, 0)
theorem lead_eq (c : Int) (h0 : 0 ≤ c) (h1 : c < 256) : Ev (fun k => grilleref01_lead.f k c) (lead c) := by
  have jt : Ev (fun k => grilleref01_lead.j1 k c (decide (224 ≤ c ∧ c < 240))) (if 224 ≤ c ∧ c < 240 then (3, c - 224) else if 240 ≤ c ∧ c < 248 then (4, c - 240) else (0, 0)) := by
    refine Ev.succ ?_
    simp only [grilleref01_lead.j1]
    rw [w64 (c - 224) (by omega) (by omega), w64 (c - 240) (by omega) (by omega)]
    by_cases h : 224 ≤ c ∧ c < 240
    · rw [if_pos h]
      exact Ev.pos (decide_eq_true h) (Ev.val _)
    · rw [if_neg h]
      refine Ev.neg (by simpa using h) ?_
      by_cases h' : c ≥ 240
      · refine Ev.pos h' ?_
        by_cases h'' : c < 248
        · rw [if_pos (show 240 ≤ c ∧ c < 248 from ⟨h', h''⟩)]; exact Ev.pos h'' (Ev.val _)
        · rw [if_neg (show ¬ (240 ≤ c ∧ c < 248) by omega)]; exact Ev.neg h'' (Ev.val _)
      · rw [if_neg (show ¬ (240 ≤ c ∧ c < 248) by omega)]; exact Ev.neg h' (Ev.val _)
  have jz : Ev (fun k => grilleref01_lead.j0 k c (decide (192 ≤ c ∧ c < 224))) (if 192 ≤ c ∧ c < 224 then (2, c - 192) else if 224 ≤ c ∧ c < 240 then (3, c - 224) else if 240 ≤ c ∧ c < 248 then (4, c - 240) else (0, 0)) := by
    refine Ev.succ ?_
    simp only [grilleref01_lead.j0]
    rw [w64 (c - 192) (by omega) (by omega)]
    by_cases h : 192 ≤ c ∧ c < 224
    · rw [if_pos h]
      exact Ev.pos (decide_eq_true h) (Ev.val _)
    · rw [if_neg h]
      refine Ev.neg (by simpa using h) ?_
      by_cases h' : c ≥ 224
      · refine Ev.pos h' ?_
        rw [show decide (c < 240) = decide (224 ≤ c ∧ c < 240) from decide_eq_decide.mpr (by omega)]
        exact jt
      · refine Ev.neg h' ?_
        rw [show decide (224 ≤ c ∧ c < 240) = false from decide_eq_false (by omega)] at jt
        exact jt
  simp only [grilleref01_lead.f]
  unfold lead
  by_cases h : c < 128
  · rw [if_pos h]; exact Ev.pos h (Ev.val _)
  rw [if_neg h]
  refine Ev.neg h ?_
  by_cases h' : c ≥ 192
  · refine Ev.pos h' ?_
    rw [show decide (c < 224) = decide (192 ≤ c ∧ c < 224) from decide_eq_decide.mpr (by omega)]
    exact jz
  · refine Ev.neg h' ?_
    rw [show decide (192 ≤ c ∧ c < 224) = false from decide_eq_false (by omega)] at jz
    exact jz
theorem rp_step (b out : List Int) (w : Int) (r : Int) (i : Nat) (v : List Int × Bool) (hb : Bts b) (hi : (i : Int) < w) (hl : i < b.length) (h4 : i ≤ 4) (h0 : 0 ≤ r) (h1 : r ≤ 1099511627776)
    (h : rd b (i : Int) / 64 = 2 → Ev (fun k => grilleref01_plain.l1 k b out w (r * 64 + rd b (i : Int) - 128) ((i + 1 : Nat) : Int)) v) (h' : ¬ rd b (i : Int) / 64 = 2 → v = ([], false)) : Ev (fun k => grilleref01_plain.l1 k b out w r (i : Int)) v := by
  obtain ⟨b0, b1⟩ := hb _ (rd_mem b i hl)
  refine Ev.succ ?_
  simp only [grilleref01_plain.l1]
  refine Ev.pos hi (Ev.pos (by omega) (Ev.pos (by omega) ?_))
  by_cases c : rd b (i : Int) < 128
  · rw [h' (by omega)]
    exact Ev.pos c (Ev.val _)
  refine Ev.neg c ?_
  by_cases d : rd b (i : Int) > 191
  · rw [h' (by omega)]
    exact Ev.pos d (Ev.val _)
  refine Ev.neg d ?_
  rw [w64 (r * 64) (by omega) (by omega), w64 (rd b (i : Int)) (by omega) (by omega), w64 (r * 64 + rd b (i : Int)) (by omega) (by omega), w64 (r * 64 + rd b (i : Int) - 128) (by omega) (by omega), w64' i (by omega)]
  exact h (by omega)
theorem rp_end (b out : List Int) (w : Nat) (r : Int) (v : List Int × Bool) (hw : w ≤ b.length) (ho : out.length ≤ 4294967296)
    (h : ok r → ((Lib.encodeRuneZ r).length : Int) = (w : Int) → Ev (fun k => grilleref01_plain.l0 k (b.drop w) (out ++ [r])) v) (h' : ¬ (ok r ∧ ((Lib.encodeRuneZ r).length : Int) = (w : Int)) → v = ([], false)) : Ev (fun k => grilleref01_plain.l1 k b out (w : Int) r (w : Int)) v := by
  refine Ev.succ ?_
  simp only [grilleref01_plain.l1]
  refine Ev.neg (by omega) ?_
  refine Ev.bind (Ev.one (char_eq r)) ?_
  by_cases hk : ok r
  · refine Ev.pos (by simp [hk]) ?_
    refine Ev.bind (Ev.one (bytes_eq r hk)) ?_
    by_cases hl : ((Lib.encodeRuneZ r).length : Int) = (w : Int)
    · refine Ev.pos hl (Ev.pos (by omega) (Ev.pos (by omega) (Ev.pos (by omega) ?_)))
      rw [Int.toNat_natCast]
      exact h hk hl
    · rw [h' (fun e => hl e.2)]
      exact Ev.neg hl (Ev.val _)
  · rw [h' (fun e => hk e.1)]
    exact Ev.neg (by simp [hk]) (Ev.val _)
set_option maxHeartbeats 2000000 in
theorem rplain_loop : ∀ (n : Nat) (b out : List Int), b.length ≤ n → Bts b → out.length + b.length ≤ 4294967296 → Ev (fun k => grilleref01_plain.l0 k b out) (res out (plainL n b))
  | n, [], out, _, _, _ => by
    refine Ev.succ ?_
    simp only [grilleref01_plain.l0]
    refine Ev.neg (by simp) ((Ev.val _).eq ?_)
    cases n <;> simp [plainL, res]
  | 0, _ :: _, out, h, _, _ => by simp at h
  | n + 1, a :: t, out, h, hb, ho => by
    obtain ⟨b, eb⟩ : ∃ b, a :: t = b := ⟨_, rfl⟩
    have hun : plainL (n + 1) (a :: t) = (dec1 (a :: t)).bind fun p => (plainL n ((a :: t).drop p.2)).map (p.1 :: ·) := rfl
    have hpos : 0 < b.length := by rw [← eb]; simp
    have rec_ (w : Nat) (r : Int) (h1 : 1 ≤ w) : Ev (fun k => grilleref01_plain.l0 k (b.drop w) (out ++ [r])) (res out ((plainL n (b.drop w)).map (r :: ·))) := by
      rw [← res_map]
      have hl : b.length ≤ n + 1 := by rw [← eb]; exact h
      have ho' : out.length + b.length ≤ 4294967296 := by rw [← eb]; exact ho
      exact rplain_loop n _ _ (by rw [List.length_drop]; omega) (bts_drop (eb ▸ hb) w) (by rw [List.length_append, List.length_drop]; simp; omega)
    rw [eb] at h hb ho hun ⊢
    rw [hun]
    clear hun eb
    obtain ⟨a0, a1⟩ : 0 ≤ rd b 0 ∧ rd b 0 < 256 := rd_bts hb 0
    obtain ⟨c0, c1⟩ : 0 ≤ rd b 1 ∧ rd b 1 < 256 := rd_bts hb 1
    obtain ⟨d0, d1⟩ : 0 ≤ rd b 2 ∧ rd b 2 < 256 := rd_bts hb 2
    obtain ⟨e0, e1⟩ : 0 ≤ rd b 3 ∧ rd b 3 < 256 := rd_bts hb 3
    refine Ev.succ ?_
    simp only [grilleref01_plain.l0]
    rw [w64 (rd b 0) (by omega) (by omega)]
    refine Ev.pos (by omega) (Ev.pos (by omega) (Ev.bind (lead_eq (rd b 0) a0 a1) ?_))
    have bad (w r : Int) (is : Bool) (hv : dec1 b = none) (hi : is = true) : Ev (fun k => grilleref01_plain.j1 k b out w r is) (res out ((dec1 b).bind fun p => (plainL n (b.drop p.2)).map (p.1 :: ·))) := by
      rw [hv]
      refine Ev.succ ?_
      simp only [grilleref01_plain.j1]
      exact Ev.pos hi (Ev.val _)
    have run (w r : Int) (is : Bool) (hi : is = false) {v} (hv : Ev (fun k => grilleref01_plain.l1 k b out w r 1) v) : Ev (fun k => grilleref01_plain.j1 k b out w r is) v := by
      refine Ev.succ ?_
      simp only [grilleref01_plain.j1]
      exact Ev.neg (by simp [hi]) hv
    by_cases q1 : rd b 0 < 128
    · have hl : lead (rd b 0) = (1, rd b 0) := by unfold lead; rw [if_pos q1]
      rw [hl]
      refine Ev.neg (by simp) ?_
      show Ev (fun k => grilleref01_plain.j1 k b out 1 (rd b 0) (decide ((1 : Int) > (b.length : Int)))) _
      refine run _ _ _ (decide_eq_false (by omega)) ?_
      have hd : dec1 b = some (rd b 0, 1) := by unfold dec1 decI; rw [if_pos q1]
      rw [hd]
      refine rp_end b out 1 _ _ (by omega) (by omega) (fun _ _ => rec_ 1 _ (by omega)) (fun hn => (hn ⟨⟨a0, by omega, by omega⟩, ?_⟩).elim)
      rw [enc_len _ ⟨a0, by omega, by omega⟩, if_pos q1]; rfl
    by_cases q2 : 192 ≤ rd b 0 ∧ rd b 0 < 224
    · have hl : lead (rd b 0) = (2, rd b 0 - 192) := by unfold lead; rw [if_neg q1, if_pos q2]
      rw [hl]
      refine Ev.neg (by simp) ?_
      show Ev (fun k => grilleref01_plain.j1 k b out 2 (rd b 0 - 192) (decide ((2 : Int) > (b.length : Int)))) _
      by_cases g : (2 : Int) > (b.length : Int)
      · refine bad _ _ _ ?_ (decide_eq_true g)
        unfold dec1 decI
        rw [if_neg q1, if_neg (by omega), if_neg (by omega), if_neg (by omega)]
      refine run _ _ _ (decide_eq_false g) ?_
      refine rp_step b out 2 _ 1 _ hb (by decide) (by omega) (by decide) (by omega) (by omega) (fun g1 => ?_) (fun g1 => ?_)
      · have f1 : rd b ((1 : Nat) : Int) = rd b 1 := rfl
        rw [f1] at g1 ⊢
        refine rp_end b out 2 _ _ (by omega) (by omega) (fun hk hn => ?_) (fun hn => ?_)
        · have hq := enc_low _ hk
          have hd : dec1 b = some ((rd b 0 - 192) * 64 + rd b 1 - 128, 2) := by
            unfold dec1 decI
            have e : rd b 0 % 32 * 64 + rd b 1 % 64 = (rd b 0 - 192) * 64 + rd b 1 - 128 := by omega
            rw [if_neg q1, if_pos ⟨by omega, by omega, g1⟩, e, if_pos]
            omega
          rw [hd]
          exact rec_ 2 _ (by omega)
        · have hd : dec1 b = none := by
            unfold dec1 decI
            have e : rd b 0 % 32 * 64 + rd b 1 % 64 = (rd b 0 - 192) * 64 + rd b 1 - 128 := by omega
            rw [if_neg q1, if_pos ⟨by omega, by omega, g1⟩, e, if_neg]
            intro hg
            have hk : ok ((rd b 0 - 192) * 64 + rd b 1 - 128) := by rw [← e]; unfold ok; omega
            refine hn ⟨hk, ?_⟩
            rw [enc_len _ hk, if_neg (by omega), if_pos (by omega)]; rfl
          rw [hd]; rfl
      · have hd : dec1 b = none := by
          unfold dec1 decI
          rw [if_neg q1, if_neg (fun z => g1 z.2.2), if_neg (by omega), if_neg (by omega)]
        rw [hd]; rfl
    by_cases q3 : 224 ≤ rd b 0 ∧ rd b 0 < 240
    · have hl : lead (rd b 0) = (3, rd b 0 - 224) := by unfold lead; rw [if_neg q1, if_neg q2, if_pos q3]
      rw [hl]
      refine Ev.neg (by simp) ?_
      show Ev (fun k => grilleref01_plain.j1 k b out 3 (rd b 0 - 224) (decide ((3 : Int) > (b.length : Int)))) _
      by_cases g : (3 : Int) > (b.length : Int)
      · refine bad _ _ _ ?_ (decide_eq_true g)
        unfold dec1 decI
        rw [if_neg q1, if_neg (by omega), if_neg (by omega), if_neg (by omega)]
      refine run _ _ _ (decide_eq_false g) ?_
      refine rp_step b out 3 _ 1 _ hb (by decide) (by omega) (by decide) (by omega) (by omega) (fun g1 => ?_) (fun g1 => ?_)
      · have f1 : rd b ((1 : Nat) : Int) = rd b 1 := rfl
        rw [f1] at g1 ⊢
        refine rp_step b out 3 _ 2 _ hb (by decide) (by omega) (by decide) (by omega) (by omega) (fun g2 => ?_) (fun g2 => ?_)
        · have f2 : rd b ((2 : Nat) : Int) = rd b 2 := rfl
          rw [f2] at g2 ⊢
          have e : rd b 0 % 16 * 4096 + rd b 1 % 64 * 64 + rd b 2 % 64 = ((rd b 0 - 224) * 64 + rd b 1 - 128) * 64 + rd b 2 - 128 := by omega
          refine rp_end b out 3 _ _ (by omega) (by omega) (fun hk hn => ?_) (fun hn => ?_)
          · have hq := enc_low _ hk
            have hd : dec1 b = some (((rd b 0 - 224) * 64 + rd b 1 - 128) * 64 + rd b 2 - 128, 3) := by
              unfold dec1 decI
              rw [if_neg q1, if_neg (by omega), if_pos ⟨by omega, ⟨by omega, g1⟩, by omega, g2⟩, e, if_pos ⟨by omega, hk⟩]
            rw [hd]
            exact rec_ 3 _ (by omega)
          · have hd : dec1 b = none := by
              unfold dec1 decI
              rw [if_neg q1, if_neg (by omega), if_pos ⟨by omega, ⟨by omega, g1⟩, by omega, g2⟩, e, if_neg]
              intro hg
              refine hn ⟨hg.2, ?_⟩
              rw [enc_len _ hg.2, if_neg (by omega), if_neg (by omega), if_pos (by omega)]; rfl
            rw [hd]; rfl
        · have hd : dec1 b = none := by
            unfold dec1 decI
            rw [if_neg q1, if_neg (by omega), if_neg (fun z => g2 z.2.2.2), if_neg (by omega)]
          rw [hd]; rfl
      · have hd : dec1 b = none := by
          unfold dec1 decI
          rw [if_neg q1, if_neg (by omega), if_neg (fun z => g1 z.2.1.2), if_neg (by omega)]
        rw [hd]; rfl
    by_cases q4 : 240 ≤ rd b 0 ∧ rd b 0 < 248
    · have hl : lead (rd b 0) = (4, rd b 0 - 240) := by unfold lead; rw [if_neg q1, if_neg q2, if_neg q3, if_pos q4]
      rw [hl]
      refine Ev.neg (by simp) ?_
      show Ev (fun k => grilleref01_plain.j1 k b out 4 (rd b 0 - 240) (decide ((4 : Int) > (b.length : Int)))) _
      by_cases g : (4 : Int) > (b.length : Int)
      · refine bad _ _ _ ?_ (decide_eq_true g)
        unfold dec1 decI
        rw [if_neg q1, if_neg (by omega), if_neg (by omega), if_neg (by omega)]
      refine run _ _ _ (decide_eq_false g) ?_
      refine rp_step b out 4 _ 1 _ hb (by decide) (by omega) (by decide) (by omega) (by omega) (fun g1 => ?_) (fun g1 => ?_)
      · have f1 : rd b ((1 : Nat) : Int) = rd b 1 := rfl
        rw [f1] at g1 ⊢
        refine rp_step b out 4 _ 2 _ hb (by decide) (by omega) (by decide) (by omega) (by omega) (fun g2 => ?_) (fun g2 => ?_)
        · have f2 : rd b ((2 : Nat) : Int) = rd b 2 := rfl
          rw [f2] at g2 ⊢
          refine rp_step b out 4 _ 3 _ hb (by decide) (by omega) (by decide) (by omega) (by omega) (fun g3 => ?_) (fun g3 => ?_)
          · have f3 : rd b ((3 : Nat) : Int) = rd b 3 := rfl
            rw [f3] at g3 ⊢
            have e : rd b 0 % 8 * 262144 + rd b 1 % 64 * 4096 + rd b 2 % 64 * 64 + rd b 3 % 64 = (((rd b 0 - 240) * 64 + rd b 1 - 128) * 64 + rd b 2 - 128) * 64 + rd b 3 - 128 := by omega
            refine rp_end b out 4 _ _ (by omega) (by omega) (fun hk hn => ?_) (fun hn => ?_)
            · have hq := enc_low _ hk
              have hd : dec1 b = some ((((rd b 0 - 240) * 64 + rd b 1 - 128) * 64 + rd b 2 - 128) * 64 + rd b 3 - 128, 4) := by
                unfold dec1 decI
                rw [if_neg q1, if_neg (by omega), if_neg (by omega), if_pos ⟨by omega, ⟨by omega, g1⟩, ⟨by omega, g2⟩, by omega, g3⟩, e, if_pos ⟨by omega, hk⟩]
              rw [hd]
              exact rec_ 4 _ (by omega)
            · have hd : dec1 b = none := by
                unfold dec1 decI
                rw [if_neg q1, if_neg (by omega), if_neg (by omega), if_pos ⟨by omega, ⟨by omega, g1⟩, ⟨by omega, g2⟩, by omega, g3⟩, e, if_neg]
                intro hg
                refine hn ⟨hg.2, ?_⟩
                rw [enc_len _ hg.2, if_neg (by omega), if_neg (by omega), if_neg (by omega)]; rfl
              rw [hd]; rfl
          · have hd : dec1 b = none := by
              unfold dec1 decI
              rw [if_neg q1, if_neg (by omega), if_neg (by omega), if_neg (fun z => g3 z.2.2.2.2)]
            rw [hd]; rfl
        · have hd : dec1 b = none := by
            unfold dec1 decI
            rw [if_neg q1, if_neg (by omega), if_neg (by omega), if_neg (fun z => g2 z.2.2.1.2)]
          rw [hd]; rfl
      · have hd : dec1 b = none := by
          unfold dec1 decI
          rw [if_neg q1, if_neg (by omega), if_neg (by omega), if_neg (fun z => g1 z.2.1.2)]
        rw [hd]; rfl
    · have hl : lead (rd b 0) = (0, 0) := by unfold lead; rw [if_neg q1, if_neg q2, if_neg q3, if_neg q4]
      rw [hl]
      refine Ev.pos rfl (bad _ _ _ ?_ rfl)
      unfold dec1 decI
      rw [if_neg q1, if_neg (by omega), if_neg (by omega), if_neg (by omega)]
theorem rplain_eq (b : List Int) (hb : Bts b) (hl : b.length ≤ 4294967296) : Ev (fun k => grilleref01_plain.f k b) (res [] (plainL b.length b)) := by
  simp only [grilleref01_plain.f]
  exact rplain_loop b.length b [] (by omega) hb (by simpa using hl)
theorem rrunes_loop (l : List Int) (hl : l.length ≤ 4294967296) : ∀ (n i : Nat), i + n = l.length → Ev (fun k => grilleref01_Runes.l0 k l (i : Int)) (if ∀ r ∈ l.drop i, ok r then (l, 0) else ([], 6))
  | 0, i, h => by
    refine Ev.succ ?_
    simp only [grilleref01_Runes.l0]
    refine Ev.neg (by omega) ((Ev.val _).eq ?_)
    rw [List.drop_eq_nil_of_le (by omega)]
    simp
  | n + 1, i, h => by
    refine Ev.succ ?_
    simp only [grilleref01_Runes.l0]
    refine Ev.pos (by omega) (Ev.pos (by omega) ?_)
    refine Ev.bind (Ev.one (char_eq _)) ?_
    have hd := drop_nat l i (by omega)
    by_cases hk : ok (rd l (i : Int))
    · refine Ev.pos (by simp [hk]) ?_
      rw [w64' i (by omega)]
      refine (rrunes_loop l hl n (i + 1) (by omega)).eq ?_
      have e : (∀ x ∈ l.drop i, ok x) ↔ ∀ x ∈ l.drop (i + 1), ok x := by rw [hd]; simp [hk]
      simp only [e]
    · refine Ev.neg (by simp [hk]) ((Ev.val _).eq ?_)
      rw [if_neg]
      intro hq
      exact hk (hq _ (by rw [hd]; exact List.mem_cons_self))
theorem rrunes_j1 (l : List Int) (is : Bool) (hl : l.length ≤ 4294967296) : Ev (fun k => grilleref01_Runes.j1 k l is) (okAll (if is = true then some l else none)) := by
  refine Ev.succ ?_
  simp only [grilleref01_Runes.j1]
  cases is
  · exact Ev.neg (by decide) ((Ev.val _).eq rfl)
  · refine Ev.pos rfl ((rrunes_loop l hl l.length 0 (by omega)).eq ?_)
    simp [okAll]
end Go.Proofs.YthgafcaoibfchaaDoor.Rrn
end
end
