/- Words and walks that the row of NfaRuns needs: printed by programs, and plain laws. -/
import Derived.Test.YthgafcaoibfchaaDoorM11
namespace Go.Proofs.YthgafcaoibfchaaDoorW.PrintWords
end Go.Proofs.YthgafcaoibfchaaDoorW.PrintWords
namespace Go.Proofs.YthgafcaoibfchaaDoorW.PrintLast
end Go.Proofs.YthgafcaoibfchaaDoorW.PrintLast
namespace Go.Proofs.YthgafcaoibfchaaDoorW.PrintMore
end Go.Proofs.YthgafcaoibfchaaDoorW.PrintMore
namespace Go.Proofs.YthgafcaoibfchaaDoor.Z
open Go.RowKit Go.Proofs.YthgafcaoibfchaaDoorW.PrintWords Go.Proofs.YthgafcaoibfchaaDoorW.PrintLast Go.Proofs.YthgafcaoibfchaaDoorW.PrintMore
set_option linter.unusedVariables false
set_option linter.unusedSimpArgs false
set_option maxHeartbeats 8000000 in
set_option maxRecDepth 100000 in
theorem grilleref01_Detect.callsM (k : Nat) (A0 : Option Addr) (c0 : Nat) (l0 : List Int) (r1 : Int) (r2 : Int) (w : World) (hr0 : Kd.C (Kd.int .u8) w A0 l0.length l0) (hc0 : l0.length ≤ c0) (h : grilleref01_Detect.f k l0 = some (r1, r2)) (hM : r1 = 0 ∧ r2 = 3) :
    Calls Tryd.prog 145 #[.slice A0 l0.length c0] w fun e w' => e = .returned (.tuple #[.int .i64 r1, .int .i64 r2]) ∧ Below w.heap.size w w' := by
  have HR0 := Aside0.mk hr0
  have HC0 := Aside0.mk hc0
  clear hr0 hc0
  have HB := Aside0.mk (Below.refl w.heap.size w)
  have H : ((grilleref01_fits.f k l0 (([0, 0, 254, 255] : List Int))).bind fun t112 => (if t112 = true then (some (4, 4)) else ((grilleref01_fits.f k l0 (([0, 0, 0, 256] : List Int))).bind fun t116 => (if t116 = true then (some (4, 0)) else ((grilleref01_fits.f k l0 (([255, 254, 0, 0] : List Int))).bind fun t120 => (if t120 = true then (some (3, 4)) else ((grilleref01_fits.f k l0 (([256, 0, 0, 0] : List Int))).bind fun t124 => (if t124 = true then (some (3, 0)) else ((grilleref01_fits.f k l0 (([254, 255] : List Int))).bind fun t128 => (if t128 = true then (some (2, 2)) else ((grilleref01_fits.f k l0 (([0, 256] : List Int))).bind fun t132 => (if t132 = true then (some (2, 0)) else ((grilleref01_fits.f k l0 (([255, 254] : List Int))).bind fun t136 => (if t136 = true then (some (1, 2)) else ((grilleref01_fits.f k l0 (([256, 0] : List Int))).bind fun t140 => (if t140 = true then (some (1, 0)) else ((grilleref01_fits.f k l0 (([239, 187, 191] : List Int))).bind fun t144 => (if t144 = true then (some (0, 3)) else (some (0, 0)))))))))))))))))))) = some (r1, r2) := h
  clear h
  obtain ⟨y109, hy109⟩ : ∃ y_ : List Int, y_ = (([0, 0, 254, 255] : List Int)) := ⟨_, rfl⟩
  replace H : ((grilleref01_fits.f k l0 y109).bind fun t112 => (if t112 = true then (some (4, 4)) else ((grilleref01_fits.f k l0 (([0, 0, 0, 256] : List Int))).bind fun t116 => (if t116 = true then (some (4, 0)) else ((grilleref01_fits.f k l0 (([255, 254, 0, 0] : List Int))).bind fun t120 => (if t120 = true then (some (3, 4)) else ((grilleref01_fits.f k l0 (([256, 0, 0, 0] : List Int))).bind fun t124 => (if t124 = true then (some (3, 0)) else ((grilleref01_fits.f k l0 (([254, 255] : List Int))).bind fun t128 => (if t128 = true then (some (2, 2)) else ((grilleref01_fits.f k l0 (([0, 256] : List Int))).bind fun t132 => (if t132 = true then (some (2, 0)) else ((grilleref01_fits.f k l0 (([255, 254] : List Int))).bind fun t136 => (if t136 = true then (some (1, 2)) else ((grilleref01_fits.f k l0 (([256, 0] : List Int))).bind fun t140 => (if t140 = true then (some (1, 0)) else ((grilleref01_fits.f k l0 (([239, 187, 191] : List Int))).bind fun t144 => (if t144 = true then (some (0, 3)) else (some (0, 0)))))))))))))))))))) = some (r1, r2) := by first | (rw [hy109]; with_reducible exact H) | (have H2_ := (Option.bind_some _ _).symm.trans H; rw [hy109]; with_reducible exact H2_) | (have H2_ := (Option.bind_some _ _).symm.trans H; with_reducible exact H2_) | with_reducible exact H | (rw [hy109]; exact H) | exact H
  have Ny109 := Aside0.mk hy109
  clear hy109
  replace H := Option.bind_eq_some_iff.mp H
  obtain ⟨t112, A20, H⟩ := H
  replace H : (if t112 = true then (some (4, 4)) else ((grilleref01_fits.f k l0 (([0, 0, 0, 256] : List Int))).bind fun t116 => (if t116 = true then (some (4, 0)) else ((grilleref01_fits.f k l0 (([255, 254, 0, 0] : List Int))).bind fun t120 => (if t120 = true then (some (3, 4)) else ((grilleref01_fits.f k l0 (([256, 0, 0, 0] : List Int))).bind fun t124 => (if t124 = true then (some (3, 0)) else ((grilleref01_fits.f k l0 (([254, 255] : List Int))).bind fun t128 => (if t128 = true then (some (2, 2)) else ((grilleref01_fits.f k l0 (([0, 256] : List Int))).bind fun t132 => (if t132 = true then (some (2, 0)) else ((grilleref01_fits.f k l0 (([255, 254] : List Int))).bind fun t136 => (if t136 = true then (some (1, 2)) else ((grilleref01_fits.f k l0 (([256, 0] : List Int))).bind fun t140 => (if t140 = true then (some (1, 0)) else ((grilleref01_fits.f k l0 (([239, 187, 191] : List Int))).bind fun t144 => (if t144 = true then (some (0, 3)) else (some (0, 0))))))))))))))))))) = some (r1, r2) := H
  have A2 := Aside0.mk A20
  clear A20
  by_cases c3 : t112 = true
  · subst c3
    have H1 : (some (4, 4)) = some (r1, r2) := by rw [if_pos rfl] at H; exact H
    clear H
    have H := H1
    clear H1
    simp only [Option.some.injEq, Prod.mk.injEq] at H
    exact absurd hM (by omega)
  · replace c3 := Bool.eq_false_iff.mpr c3
    subst c3
    have H1 : ((grilleref01_fits.f k l0 (([0, 0, 0, 256] : List Int))).bind fun t116 => (if t116 = true then (some (4, 0)) else ((grilleref01_fits.f k l0 (([255, 254, 0, 0] : List Int))).bind fun t120 => (if t120 = true then (some (3, 4)) else ((grilleref01_fits.f k l0 (([256, 0, 0, 0] : List Int))).bind fun t124 => (if t124 = true then (some (3, 0)) else ((grilleref01_fits.f k l0 (([254, 255] : List Int))).bind fun t128 => (if t128 = true then (some (2, 2)) else ((grilleref01_fits.f k l0 (([0, 256] : List Int))).bind fun t132 => (if t132 = true then (some (2, 0)) else ((grilleref01_fits.f k l0 (([255, 254] : List Int))).bind fun t136 => (if t136 = true then (some (1, 2)) else ((grilleref01_fits.f k l0 (([256, 0] : List Int))).bind fun t140 => (if t140 = true then (some (1, 0)) else ((grilleref01_fits.f k l0 (([239, 187, 191] : List Int))).bind fun t144 => (if t144 = true then (some (0, 3)) else (some (0, 0)))))))))))))))))) = some (r1, r2) := by rw [if_neg (show ¬ (false = true) by decide)] at H; exact H
    clear H
    have H := H1
    clear H1
    obtain ⟨y113, hy113⟩ : ∃ y_ : List Int, y_ = (([0, 0, 0, 256] : List Int)) := ⟨_, rfl⟩
    replace H : ((grilleref01_fits.f k l0 y113).bind fun t116 => (if t116 = true then (some (4, 0)) else ((grilleref01_fits.f k l0 (([255, 254, 0, 0] : List Int))).bind fun t120 => (if t120 = true then (some (3, 4)) else ((grilleref01_fits.f k l0 (([256, 0, 0, 0] : List Int))).bind fun t124 => (if t124 = true then (some (3, 0)) else ((grilleref01_fits.f k l0 (([254, 255] : List Int))).bind fun t128 => (if t128 = true then (some (2, 2)) else ((grilleref01_fits.f k l0 (([0, 256] : List Int))).bind fun t132 => (if t132 = true then (some (2, 0)) else ((grilleref01_fits.f k l0 (([255, 254] : List Int))).bind fun t136 => (if t136 = true then (some (1, 2)) else ((grilleref01_fits.f k l0 (([256, 0] : List Int))).bind fun t140 => (if t140 = true then (some (1, 0)) else ((grilleref01_fits.f k l0 (([239, 187, 191] : List Int))).bind fun t144 => (if t144 = true then (some (0, 3)) else (some (0, 0)))))))))))))))))) = some (r1, r2) := by first | (rw [hy113]; with_reducible exact H) | (have H2_ := (Option.bind_some _ _).symm.trans H; rw [hy113]; with_reducible exact H2_) | (have H2_ := (Option.bind_some _ _).symm.trans H; with_reducible exact H2_) | with_reducible exact H | (rw [hy113]; exact H) | exact H
    have Ny113 := Aside0.mk hy113
    clear hy113
    replace H := Option.bind_eq_some_iff.mp H
    obtain ⟨t116, A70, H⟩ := H
    replace H : (if t116 = true then (some (4, 0)) else ((grilleref01_fits.f k l0 (([255, 254, 0, 0] : List Int))).bind fun t120 => (if t120 = true then (some (3, 4)) else ((grilleref01_fits.f k l0 (([256, 0, 0, 0] : List Int))).bind fun t124 => (if t124 = true then (some (3, 0)) else ((grilleref01_fits.f k l0 (([254, 255] : List Int))).bind fun t128 => (if t128 = true then (some (2, 2)) else ((grilleref01_fits.f k l0 (([0, 256] : List Int))).bind fun t132 => (if t132 = true then (some (2, 0)) else ((grilleref01_fits.f k l0 (([255, 254] : List Int))).bind fun t136 => (if t136 = true then (some (1, 2)) else ((grilleref01_fits.f k l0 (([256, 0] : List Int))).bind fun t140 => (if t140 = true then (some (1, 0)) else ((grilleref01_fits.f k l0 (([239, 187, 191] : List Int))).bind fun t144 => (if t144 = true then (some (0, 3)) else (some (0, 0))))))))))))))))) = some (r1, r2) := H
    have A7 := Aside0.mk A70
    clear A70
    by_cases c8 : t116 = true
    · subst c8
      have H1 : (some (4, 0)) = some (r1, r2) := by rw [if_pos rfl] at H; exact H
      clear H
      have H := H1
      clear H1
      simp only [Option.some.injEq, Prod.mk.injEq] at H
      exact absurd hM (by omega)
    · replace c8 := Bool.eq_false_iff.mpr c8
      subst c8
      have H1 : ((grilleref01_fits.f k l0 (([255, 254, 0, 0] : List Int))).bind fun t120 => (if t120 = true then (some (3, 4)) else ((grilleref01_fits.f k l0 (([256, 0, 0, 0] : List Int))).bind fun t124 => (if t124 = true then (some (3, 0)) else ((grilleref01_fits.f k l0 (([254, 255] : List Int))).bind fun t128 => (if t128 = true then (some (2, 2)) else ((grilleref01_fits.f k l0 (([0, 256] : List Int))).bind fun t132 => (if t132 = true then (some (2, 0)) else ((grilleref01_fits.f k l0 (([255, 254] : List Int))).bind fun t136 => (if t136 = true then (some (1, 2)) else ((grilleref01_fits.f k l0 (([256, 0] : List Int))).bind fun t140 => (if t140 = true then (some (1, 0)) else ((grilleref01_fits.f k l0 (([239, 187, 191] : List Int))).bind fun t144 => (if t144 = true then (some (0, 3)) else (some (0, 0)))))))))))))))) = some (r1, r2) := by rw [if_neg (show ¬ (false = true) by decide)] at H; exact H
      clear H
      have H := H1
      clear H1
      obtain ⟨y117, hy117⟩ : ∃ y_ : List Int, y_ = (([255, 254, 0, 0] : List Int)) := ⟨_, rfl⟩
      replace H : ((grilleref01_fits.f k l0 y117).bind fun t120 => (if t120 = true then (some (3, 4)) else ((grilleref01_fits.f k l0 (([256, 0, 0, 0] : List Int))).bind fun t124 => (if t124 = true then (some (3, 0)) else ((grilleref01_fits.f k l0 (([254, 255] : List Int))).bind fun t128 => (if t128 = true then (some (2, 2)) else ((grilleref01_fits.f k l0 (([0, 256] : List Int))).bind fun t132 => (if t132 = true then (some (2, 0)) else ((grilleref01_fits.f k l0 (([255, 254] : List Int))).bind fun t136 => (if t136 = true then (some (1, 2)) else ((grilleref01_fits.f k l0 (([256, 0] : List Int))).bind fun t140 => (if t140 = true then (some (1, 0)) else ((grilleref01_fits.f k l0 (([239, 187, 191] : List Int))).bind fun t144 => (if t144 = true then (some (0, 3)) else (some (0, 0)))))))))))))))) = some (r1, r2) := by first | (rw [hy117]; with_reducible exact H) | (have H2_ := (Option.bind_some _ _).symm.trans H; rw [hy117]; with_reducible exact H2_) | (have H2_ := (Option.bind_some _ _).symm.trans H; with_reducible exact H2_) | with_reducible exact H | (rw [hy117]; exact H) | exact H
      have Ny117 := Aside0.mk hy117
      clear hy117
      replace H := Option.bind_eq_some_iff.mp H
      obtain ⟨t120, A150, H⟩ := H
      replace H : (if t120 = true then (some (3, 4)) else ((grilleref01_fits.f k l0 (([256, 0, 0, 0] : List Int))).bind fun t124 => (if t124 = true then (some (3, 0)) else ((grilleref01_fits.f k l0 (([254, 255] : List Int))).bind fun t128 => (if t128 = true then (some (2, 2)) else ((grilleref01_fits.f k l0 (([0, 256] : List Int))).bind fun t132 => (if t132 = true then (some (2, 0)) else ((grilleref01_fits.f k l0 (([255, 254] : List Int))).bind fun t136 => (if t136 = true then (some (1, 2)) else ((grilleref01_fits.f k l0 (([256, 0] : List Int))).bind fun t140 => (if t140 = true then (some (1, 0)) else ((grilleref01_fits.f k l0 (([239, 187, 191] : List Int))).bind fun t144 => (if t144 = true then (some (0, 3)) else (some (0, 0))))))))))))))) = some (r1, r2) := H
      have A15 := Aside0.mk A150
      clear A150
      by_cases c16 : t120 = true
      · subst c16
        have H1 : (some (3, 4)) = some (r1, r2) := by rw [if_pos rfl] at H; exact H
        clear H
        have H := H1
        clear H1
        simp only [Option.some.injEq, Prod.mk.injEq] at H
        exact absurd hM (by omega)
      · replace c16 := Bool.eq_false_iff.mpr c16
        subst c16
        have H1 : ((grilleref01_fits.f k l0 (([256, 0, 0, 0] : List Int))).bind fun t124 => (if t124 = true then (some (3, 0)) else ((grilleref01_fits.f k l0 (([254, 255] : List Int))).bind fun t128 => (if t128 = true then (some (2, 2)) else ((grilleref01_fits.f k l0 (([0, 256] : List Int))).bind fun t132 => (if t132 = true then (some (2, 0)) else ((grilleref01_fits.f k l0 (([255, 254] : List Int))).bind fun t136 => (if t136 = true then (some (1, 2)) else ((grilleref01_fits.f k l0 (([256, 0] : List Int))).bind fun t140 => (if t140 = true then (some (1, 0)) else ((grilleref01_fits.f k l0 (([239, 187, 191] : List Int))).bind fun t144 => (if t144 = true then (some (0, 3)) else (some (0, 0)))))))))))))) = some (r1, r2) := by rw [if_neg (show ¬ (false = true) by decide)] at H; exact H
        clear H
        have H := H1
        clear H1
        obtain ⟨y121, hy121⟩ : ∃ y_ : List Int, y_ = (([256, 0, 0, 0] : List Int)) := ⟨_, rfl⟩
        replace H : ((grilleref01_fits.f k l0 y121).bind fun t124 => (if t124 = true then (some (3, 0)) else ((grilleref01_fits.f k l0 (([254, 255] : List Int))).bind fun t128 => (if t128 = true then (some (2, 2)) else ((grilleref01_fits.f k l0 (([0, 256] : List Int))).bind fun t132 => (if t132 = true then (some (2, 0)) else ((grilleref01_fits.f k l0 (([255, 254] : List Int))).bind fun t136 => (if t136 = true then (some (1, 2)) else ((grilleref01_fits.f k l0 (([256, 0] : List Int))).bind fun t140 => (if t140 = true then (some (1, 0)) else ((grilleref01_fits.f k l0 (([239, 187, 191] : List Int))).bind fun t144 => (if t144 = true then (some (0, 3)) else (some (0, 0)))))))))))))) = some (r1, r2) := by first | (rw [hy121]; with_reducible exact H) | (have H2_ := (Option.bind_some _ _).symm.trans H; rw [hy121]; with_reducible exact H2_) | (have H2_ := (Option.bind_some _ _).symm.trans H; with_reducible exact H2_) | with_reducible exact H | (rw [hy121]; exact H) | exact H
        have Ny121 := Aside0.mk hy121
        clear hy121
        replace H := Option.bind_eq_some_iff.mp H
        obtain ⟨t124, A260, H⟩ := H
        replace H : (if t124 = true then (some (3, 0)) else ((grilleref01_fits.f k l0 (([254, 255] : List Int))).bind fun t128 => (if t128 = true then (some (2, 2)) else ((grilleref01_fits.f k l0 (([0, 256] : List Int))).bind fun t132 => (if t132 = true then (some (2, 0)) else ((grilleref01_fits.f k l0 (([255, 254] : List Int))).bind fun t136 => (if t136 = true then (some (1, 2)) else ((grilleref01_fits.f k l0 (([256, 0] : List Int))).bind fun t140 => (if t140 = true then (some (1, 0)) else ((grilleref01_fits.f k l0 (([239, 187, 191] : List Int))).bind fun t144 => (if t144 = true then (some (0, 3)) else (some (0, 0))))))))))))) = some (r1, r2) := H
        have A26 := Aside0.mk A260
        clear A260
        by_cases c27 : t124 = true
        · subst c27
          have H1 : (some (3, 0)) = some (r1, r2) := by rw [if_pos rfl] at H; exact H
          clear H
          have H := H1
          clear H1
          simp only [Option.some.injEq, Prod.mk.injEq] at H
          exact absurd hM (by omega)
        · replace c27 := Bool.eq_false_iff.mpr c27
          subst c27
          have H1 : ((grilleref01_fits.f k l0 (([254, 255] : List Int))).bind fun t128 => (if t128 = true then (some (2, 2)) else ((grilleref01_fits.f k l0 (([0, 256] : List Int))).bind fun t132 => (if t132 = true then (some (2, 0)) else ((grilleref01_fits.f k l0 (([255, 254] : List Int))).bind fun t136 => (if t136 = true then (some (1, 2)) else ((grilleref01_fits.f k l0 (([256, 0] : List Int))).bind fun t140 => (if t140 = true then (some (1, 0)) else ((grilleref01_fits.f k l0 (([239, 187, 191] : List Int))).bind fun t144 => (if t144 = true then (some (0, 3)) else (some (0, 0)))))))))))) = some (r1, r2) := by rw [if_neg (show ¬ (false = true) by decide)] at H; exact H
          clear H
          have H := H1
          clear H1
          obtain ⟨y125, hy125⟩ : ∃ y_ : List Int, y_ = (([254, 255] : List Int)) := ⟨_, rfl⟩
          replace H : ((grilleref01_fits.f k l0 y125).bind fun t128 => (if t128 = true then (some (2, 2)) else ((grilleref01_fits.f k l0 (([0, 256] : List Int))).bind fun t132 => (if t132 = true then (some (2, 0)) else ((grilleref01_fits.f k l0 (([255, 254] : List Int))).bind fun t136 => (if t136 = true then (some (1, 2)) else ((grilleref01_fits.f k l0 (([256, 0] : List Int))).bind fun t140 => (if t140 = true then (some (1, 0)) else ((grilleref01_fits.f k l0 (([239, 187, 191] : List Int))).bind fun t144 => (if t144 = true then (some (0, 3)) else (some (0, 0)))))))))))) = some (r1, r2) := by first | (rw [hy125]; with_reducible exact H) | (have H2_ := (Option.bind_some _ _).symm.trans H; rw [hy125]; with_reducible exact H2_) | (have H2_ := (Option.bind_some _ _).symm.trans H; with_reducible exact H2_) | with_reducible exact H | (rw [hy125]; exact H) | exact H
          have Ny125 := Aside0.mk hy125
          clear hy125
          replace H := Option.bind_eq_some_iff.mp H
          obtain ⟨t128, A400, H⟩ := H
          replace H : (if t128 = true then (some (2, 2)) else ((grilleref01_fits.f k l0 (([0, 256] : List Int))).bind fun t132 => (if t132 = true then (some (2, 0)) else ((grilleref01_fits.f k l0 (([255, 254] : List Int))).bind fun t136 => (if t136 = true then (some (1, 2)) else ((grilleref01_fits.f k l0 (([256, 0] : List Int))).bind fun t140 => (if t140 = true then (some (1, 0)) else ((grilleref01_fits.f k l0 (([239, 187, 191] : List Int))).bind fun t144 => (if t144 = true then (some (0, 3)) else (some (0, 0))))))))))) = some (r1, r2) := H
          have A40 := Aside0.mk A400
          clear A400
          by_cases c41 : t128 = true
          · subst c41
            have H1 : (some (2, 2)) = some (r1, r2) := by rw [if_pos rfl] at H; exact H
            clear H
            have H := H1
            clear H1
            simp only [Option.some.injEq, Prod.mk.injEq] at H
            exact absurd hM (by omega)
          · replace c41 := Bool.eq_false_iff.mpr c41
            subst c41
            have H1 : ((grilleref01_fits.f k l0 (([0, 256] : List Int))).bind fun t132 => (if t132 = true then (some (2, 0)) else ((grilleref01_fits.f k l0 (([255, 254] : List Int))).bind fun t136 => (if t136 = true then (some (1, 2)) else ((grilleref01_fits.f k l0 (([256, 0] : List Int))).bind fun t140 => (if t140 = true then (some (1, 0)) else ((grilleref01_fits.f k l0 (([239, 187, 191] : List Int))).bind fun t144 => (if t144 = true then (some (0, 3)) else (some (0, 0)))))))))) = some (r1, r2) := by rw [if_neg (show ¬ (false = true) by decide)] at H; exact H
            clear H
            have H := H1
            clear H1
            obtain ⟨y129, hy129⟩ : ∃ y_ : List Int, y_ = (([0, 256] : List Int)) := ⟨_, rfl⟩
            replace H : ((grilleref01_fits.f k l0 y129).bind fun t132 => (if t132 = true then (some (2, 0)) else ((grilleref01_fits.f k l0 (([255, 254] : List Int))).bind fun t136 => (if t136 = true then (some (1, 2)) else ((grilleref01_fits.f k l0 (([256, 0] : List Int))).bind fun t140 => (if t140 = true then (some (1, 0)) else ((grilleref01_fits.f k l0 (([239, 187, 191] : List Int))).bind fun t144 => (if t144 = true then (some (0, 3)) else (some (0, 0)))))))))) = some (r1, r2) := by first | (rw [hy129]; with_reducible exact H) | (have H2_ := (Option.bind_some _ _).symm.trans H; rw [hy129]; with_reducible exact H2_) | (have H2_ := (Option.bind_some _ _).symm.trans H; with_reducible exact H2_) | with_reducible exact H | (rw [hy129]; exact H) | exact H
            have Ny129 := Aside0.mk hy129
            clear hy129
            replace H := Option.bind_eq_some_iff.mp H
            obtain ⟨t132, A570, H⟩ := H
            replace H : (if t132 = true then (some (2, 0)) else ((grilleref01_fits.f k l0 (([255, 254] : List Int))).bind fun t136 => (if t136 = true then (some (1, 2)) else ((grilleref01_fits.f k l0 (([256, 0] : List Int))).bind fun t140 => (if t140 = true then (some (1, 0)) else ((grilleref01_fits.f k l0 (([239, 187, 191] : List Int))).bind fun t144 => (if t144 = true then (some (0, 3)) else (some (0, 0))))))))) = some (r1, r2) := H
            have A57 := Aside0.mk A570
            clear A570
            by_cases c58 : t132 = true
            · subst c58
              have H1 : (some (2, 0)) = some (r1, r2) := by rw [if_pos rfl] at H; exact H
              clear H
              have H := H1
              clear H1
              simp only [Option.some.injEq, Prod.mk.injEq] at H
              exact absurd hM (by omega)
            · replace c58 := Bool.eq_false_iff.mpr c58
              subst c58
              have H1 : ((grilleref01_fits.f k l0 (([255, 254] : List Int))).bind fun t136 => (if t136 = true then (some (1, 2)) else ((grilleref01_fits.f k l0 (([256, 0] : List Int))).bind fun t140 => (if t140 = true then (some (1, 0)) else ((grilleref01_fits.f k l0 (([239, 187, 191] : List Int))).bind fun t144 => (if t144 = true then (some (0, 3)) else (some (0, 0)))))))) = some (r1, r2) := by rw [if_neg (show ¬ (false = true) by decide)] at H; exact H
              clear H
              have H := H1
              clear H1
              obtain ⟨y133, hy133⟩ : ∃ y_ : List Int, y_ = (([255, 254] : List Int)) := ⟨_, rfl⟩
              replace H : ((grilleref01_fits.f k l0 y133).bind fun t136 => (if t136 = true then (some (1, 2)) else ((grilleref01_fits.f k l0 (([256, 0] : List Int))).bind fun t140 => (if t140 = true then (some (1, 0)) else ((grilleref01_fits.f k l0 (([239, 187, 191] : List Int))).bind fun t144 => (if t144 = true then (some (0, 3)) else (some (0, 0)))))))) = some (r1, r2) := by first | (rw [hy133]; with_reducible exact H) | (have H2_ := (Option.bind_some _ _).symm.trans H; rw [hy133]; with_reducible exact H2_) | (have H2_ := (Option.bind_some _ _).symm.trans H; with_reducible exact H2_) | with_reducible exact H | (rw [hy133]; exact H) | exact H
              have Ny133 := Aside0.mk hy133
              clear hy133
              replace H := Option.bind_eq_some_iff.mp H
              obtain ⟨t136, A770, H⟩ := H
              replace H : (if t136 = true then (some (1, 2)) else ((grilleref01_fits.f k l0 (([256, 0] : List Int))).bind fun t140 => (if t140 = true then (some (1, 0)) else ((grilleref01_fits.f k l0 (([239, 187, 191] : List Int))).bind fun t144 => (if t144 = true then (some (0, 3)) else (some (0, 0))))))) = some (r1, r2) := H
              have A77 := Aside0.mk A770
              clear A770
              by_cases c78 : t136 = true
              · subst c78
                have H1 : (some (1, 2)) = some (r1, r2) := by rw [if_pos rfl] at H; exact H
                clear H
                have H := H1
                clear H1
                simp only [Option.some.injEq, Prod.mk.injEq] at H
                exact absurd hM (by omega)
              · replace c78 := Bool.eq_false_iff.mpr c78
                subst c78
                have H1 : ((grilleref01_fits.f k l0 (([256, 0] : List Int))).bind fun t140 => (if t140 = true then (some (1, 0)) else ((grilleref01_fits.f k l0 (([239, 187, 191] : List Int))).bind fun t144 => (if t144 = true then (some (0, 3)) else (some (0, 0)))))) = some (r1, r2) := by rw [if_neg (show ¬ (false = true) by decide)] at H; exact H
                clear H
                have H := H1
                clear H1
                obtain ⟨y137, hy137⟩ : ∃ y_ : List Int, y_ = (([256, 0] : List Int)) := ⟨_, rfl⟩
                replace H : ((grilleref01_fits.f k l0 y137).bind fun t140 => (if t140 = true then (some (1, 0)) else ((grilleref01_fits.f k l0 (([239, 187, 191] : List Int))).bind fun t144 => (if t144 = true then (some (0, 3)) else (some (0, 0)))))) = some (r1, r2) := by first | (rw [hy137]; with_reducible exact H) | (have H2_ := (Option.bind_some _ _).symm.trans H; rw [hy137]; with_reducible exact H2_) | (have H2_ := (Option.bind_some _ _).symm.trans H; with_reducible exact H2_) | with_reducible exact H | (rw [hy137]; exact H) | exact H
                have Ny137 := Aside0.mk hy137
                clear hy137
                replace H := Option.bind_eq_some_iff.mp H
                obtain ⟨t140, A1000, H⟩ := H
                replace H : (if t140 = true then (some (1, 0)) else ((grilleref01_fits.f k l0 (([239, 187, 191] : List Int))).bind fun t144 => (if t144 = true then (some (0, 3)) else (some (0, 0))))) = some (r1, r2) := H
                have A100 := Aside0.mk A1000
                clear A1000
                by_cases c101 : t140 = true
                · subst c101
                  have H1 : (some (1, 0)) = some (r1, r2) := by rw [if_pos rfl] at H; exact H
                  clear H
                  have H := H1
                  clear H1
                  simp only [Option.some.injEq, Prod.mk.injEq] at H
                  exact absurd hM (by omega)
                · replace c101 := Bool.eq_false_iff.mpr c101
                  subst c101
                  have H1 : ((grilleref01_fits.f k l0 (([239, 187, 191] : List Int))).bind fun t144 => (if t144 = true then (some (0, 3)) else (some (0, 0)))) = some (r1, r2) := by rw [if_neg (show ¬ (false = true) by decide)] at H; exact H
                  clear H
                  have H := H1
                  clear H1
                  obtain ⟨y141, hy141⟩ : ∃ y_ : List Int, y_ = (([239, 187, 191] : List Int)) := ⟨_, rfl⟩
                  replace H : ((grilleref01_fits.f k l0 y141).bind fun t144 => (if t144 = true then (some (0, 3)) else (some (0, 0)))) = some (r1, r2) := by first | (rw [hy141]; with_reducible exact H) | (have H2_ := (Option.bind_some _ _).symm.trans H; rw [hy141]; with_reducible exact H2_) | (have H2_ := (Option.bind_some _ _).symm.trans H; with_reducible exact H2_) | with_reducible exact H | (rw [hy141]; exact H) | exact H
                  have Ny141 := Aside0.mk hy141
                  clear hy141
                  replace H := Option.bind_eq_some_iff.mp H
                  obtain ⟨t144, A1260, H⟩ := H
                  replace H : (if t144 = true then (some (0, 3)) else (some (0, 0))) = some (r1, r2) := H
                  have A126 := Aside0.mk A1260
                  clear A1260
                  by_cases c127 : t144 = true
                  · subst c127
                    have H1 : (some (0, 3)) = some (r1, r2) := by rw [if_pos rfl] at H; exact H
                    clear H
                    have H := H1
                    clear H1
                    simp only [Option.some.injEq, Prod.mk.injEq] at H
                    obtain ⟨rfl, rfl⟩ := H
                    go_enter Tryd.func145, Tryd.ntmps145
                    go_wp2_with (first | ((with_reducible refine gate_dst (N := 6) rfl ?_); refine Kd.R_lit (Kd.int .i64) _ 3 ?hg (N := 6) ?hd (xs := ([0, 0, 254, 255] : List Int)) (inner := [.int .i64 0, .int .i64 0, .int .i64 254, .int .i64 255]) (ok := fun _ => True) (okp := fun _ => True) ?hr ?hp (fun _ hk => hk) trivial (Below.refl _ _) (Nat.le_refl _) (by simp) ?_; (case hd => rfl); (case hg => rfl); (case hr => first | (go_simp; done) | (go_simp; rfl)); (case hp => exact (Reps.one (show Kd.M (Kd.int .i64) _ _ _ 0 [.int .i64 0] from rfl) (Reps.one (show Kd.M (Kd.int .i64) _ _ _ 0 [.int .i64 0] from rfl) (Reps.one (show Kd.M (Kd.int .i64) _ _ _ 254 [.int .i64 254] from rfl) (Reps.one (show Kd.M (Kd.int .i64) _ _ _ 255 [.int .i64 255] from rfl) (Reps.none _ _)))))); intro v110 w128 ho129 hb hg_ hnew_; clear hg_ hnew_; (first | rw [← Ny109.out] at ho129 | (simp only [Int.reduceToNat] at ho129; rw [← Ny109.out] at ho129)); have n0_ := Aside0.mk (Kd.R_lower ho129 (below_size (by repeat (first | (with_reducible first | exact HB.out | apply below_alloc | apply pw_below_drewN | apply below_drew1) | exact HB.out)))); have n1_ := Aside0.mk (below_step (by repeat (first | (with_reducible first | exact HB.out | apply below_alloc | apply pw_below_drewN | apply below_drew1) | exact HB.out)) hb); clear HB; have HO111 := n0_; have HB := n1_; clear n0_ n1_; clear hb ho129; obtain ⟨Ao130, co130, eo130⟩ := Kd.R_slice HO111.out; subst eo130) | ((with_reducible refine gate_callee (f := 153) rfl ?_); refine goesL_ (some 7) rfl rfl Tryd.func153 (by kernel_rfl) rfl #[.slice A0 l0.length c0, .slice Ao130 y109.length co130] rfl (by (try simp only [List.map_toArray, List.map_cons, List.map_nil]); first | done | rfl | (simp only [List.length_drop, List.length_take]; rfl)) ?_; (with_reducible refine (grilleref01_fits.calls k _ _ l0 _ _ y109 false _ ?side1 ?side2 ?side3 ?side4 A2.out).mono ?_); (case side1 => repeat (first | exact (Kd.C_below HR0.out HB.out) | (with_reducible refine Kd.C_alloc ?_ _) | (with_reducible refine Kd.C_drewN ?_ _) | (with_reducible refine Kd.C_drew ?_))); (case side2 => exact HC0.out); (case side3 => repeat (first | exact (Kd.R_reads' HO111.out).2.2 | (with_reducible refine Kd.C_alloc ?_ _) | (with_reducible refine Kd.C_drewN ?_ _) | (with_reducible refine Kd.C_drew ?_))); (case side4 => exact (Kd.R_reads' HO111.out).2.1); rintro e w' ⟨rfl, ⟨nd, rfl⟩⟩; refine ⟨_, rfl, ?_⟩) | ((with_reducible refine gate_dst (N := 10) rfl ?_); refine Kd.R_lit (Kd.int .i64) _ 3 ?hg (N := 10) ?hd (xs := ([0, 0, 0, 256] : List Int)) (inner := [.int .i64 0, .int .i64 0, .int .i64 0, .int .i64 256]) (ok := fun _ => True) (okp := fun _ => True) ?hr ?hp (fun _ hk => hk) trivial (Below.refl _ _) (Nat.le_refl _) (by simp) ?_; (case hd => rfl); (case hg => rfl); (case hr => first | (go_simp; done) | (go_simp; rfl)); (case hp => exact (Reps.one (show Kd.M (Kd.int .i64) _ _ _ 0 [.int .i64 0] from rfl) (Reps.one (show Kd.M (Kd.int .i64) _ _ _ 0 [.int .i64 0] from rfl) (Reps.one (show Kd.M (Kd.int .i64) _ _ _ 0 [.int .i64 0] from rfl) (Reps.one (show Kd.M (Kd.int .i64) _ _ _ 256 [.int .i64 256] from rfl) (Reps.none _ _)))))); intro v114 w131 ho132 hb hg_ hnew_; clear hg_ hnew_; (first | rw [← Ny113.out] at ho132 | (simp only [Int.reduceToNat] at ho132; rw [← Ny113.out] at ho132)); have n0_ := Aside0.mk (Kd.R_elder' (by (with_reducible repeat (first | apply Kd.R_alloc | apply Kd.R_drewN | apply Kd.R_drew)); exact HO111.out) (Kd.R_base ho132) hb); have n1_ := Aside0.mk (Kd.R_lower (Kd.R_new' ho132 (Kd.R_lt (by (with_reducible repeat (first | apply Kd.R_alloc | apply Kd.R_drewN | apply Kd.R_drew)); exact HO111.out))) (below_size (by repeat (first | (with_reducible first | exact HB.out | apply below_alloc | apply pw_below_drewN | apply below_drew1) | exact HB.out)))); have n2_ := Aside0.mk (below_step (by repeat (first | (with_reducible first | exact HB.out | apply below_alloc | apply pw_below_drewN | apply below_drew1) | exact HB.out)) hb); clear HO111; clear HB; have HO111 := n0_; have HO115 := n1_; have HB := n2_; clear n0_ n1_ n2_; clear hb ho132; obtain ⟨Ao133, co133, eo133⟩ := Kd.R_slice HO115.out; subst eo133) | ((with_reducible refine gate_callee (f := 153) rfl ?_); refine goesL_ (some 11) rfl rfl Tryd.func153 (by kernel_rfl) rfl #[.slice A0 l0.length c0, .slice Ao133 y113.length co133] rfl (by (try simp only [List.map_toArray, List.map_cons, List.map_nil]); first | done | rfl | (simp only [List.length_drop, List.length_take]; rfl)) ?_; (with_reducible refine (grilleref01_fits.calls k _ _ l0 _ _ y113 false _ ?side1 ?side2 ?side3 ?side4 A7.out).mono ?_); (case side1 => repeat (first | exact (Kd.C_below HR0.out HB.out) | (with_reducible refine Kd.C_alloc ?_ _) | (with_reducible refine Kd.C_drewN ?_ _) | (with_reducible refine Kd.C_drew ?_))); (case side2 => exact HC0.out); (case side3 => repeat (first | exact (Kd.R_reads' HO115.out).2.2 | (with_reducible refine Kd.C_alloc ?_ _) | (with_reducible refine Kd.C_drewN ?_ _) | (with_reducible refine Kd.C_drew ?_))); (case side4 => exact (Kd.R_reads' HO115.out).2.1); rintro e w' ⟨rfl, ⟨nd, rfl⟩⟩; refine ⟨_, rfl, ?_⟩) | ((with_reducible refine gate_dst (N := 14) rfl ?_); refine Kd.R_lit (Kd.int .i64) _ 3 ?hg (N := 14) ?hd (xs := ([255, 254, 0, 0] : List Int)) (inner := [.int .i64 255, .int .i64 254, .int .i64 0, .int .i64 0]) (ok := fun _ => True) (okp := fun _ => True) ?hr ?hp (fun _ hk => hk) trivial (Below.refl _ _) (Nat.le_refl _) (by simp) ?_; (case hd => rfl); (case hg => rfl); (case hr => first | (go_simp; done) | (go_simp; rfl)); (case hp => exact (Reps.one (show Kd.M (Kd.int .i64) _ _ _ 255 [.int .i64 255] from rfl) (Reps.one (show Kd.M (Kd.int .i64) _ _ _ 254 [.int .i64 254] from rfl) (Reps.one (show Kd.M (Kd.int .i64) _ _ _ 0 [.int .i64 0] from rfl) (Reps.one (show Kd.M (Kd.int .i64) _ _ _ 0 [.int .i64 0] from rfl) (Reps.none _ _)))))); intro v118 w134 ho135 hb hg_ hnew_; clear hg_ hnew_; (first | rw [← Ny117.out] at ho135 | (simp only [Int.reduceToNat] at ho135; rw [← Ny117.out] at ho135)); have n0_ := Aside0.mk (Kd.R_elder' (by (with_reducible repeat (first | apply Kd.R_alloc | apply Kd.R_drewN | apply Kd.R_drew)); exact HO111.out) (Kd.R_base ho135) hb); have n1_ := Aside0.mk (Kd.R_elder' (by (with_reducible repeat (first | apply Kd.R_alloc | apply Kd.R_drewN | apply Kd.R_drew)); exact HO115.out) (Kd.R_base ho135) hb); have n2_ := Aside0.mk (Kd.R_lower (Kd.R_new' (Kd.R_new' ho135 (Kd.R_lt (by (with_reducible repeat (first | apply Kd.R_alloc | apply Kd.R_drewN | apply Kd.R_drew)); exact HO111.out))) (Kd.R_lt (by (with_reducible repeat (first | apply Kd.R_alloc | apply Kd.R_drewN | apply Kd.R_drew)); exact HO115.out))) (below_size (by repeat (first | (with_reducible first | exact HB.out | apply below_alloc | apply pw_below_drewN | apply below_drew1) | exact HB.out)))); have n3_ := Aside0.mk (below_step (by repeat (first | (with_reducible first | exact HB.out | apply below_alloc | apply pw_below_drewN | apply below_drew1) | exact HB.out)) hb); clear HO111; clear HO115; clear HB; have HO111 := n0_; have HO115 := n1_; have HO119 := n2_; have HB := n3_; clear n0_ n1_ n2_ n3_; clear hb ho135; obtain ⟨Ao136, co136, eo136⟩ := Kd.R_slice HO119.out; subst eo136) | ((with_reducible refine gate_callee (f := 153) rfl ?_); refine goesL_ (some 15) rfl rfl Tryd.func153 (by kernel_rfl) rfl #[.slice A0 l0.length c0, .slice Ao136 y117.length co136] rfl (by (try simp only [List.map_toArray, List.map_cons, List.map_nil]); first | done | rfl | (simp only [List.length_drop, List.length_take]; rfl)) ?_; (with_reducible refine (grilleref01_fits.calls k _ _ l0 _ _ y117 false _ ?side1 ?side2 ?side3 ?side4 A15.out).mono ?_); (case side1 => repeat (first | exact (Kd.C_below HR0.out HB.out) | (with_reducible refine Kd.C_alloc ?_ _) | (with_reducible refine Kd.C_drewN ?_ _) | (with_reducible refine Kd.C_drew ?_))); (case side2 => exact HC0.out); (case side3 => repeat (first | exact (Kd.R_reads' HO119.out).2.2 | (with_reducible refine Kd.C_alloc ?_ _) | (with_reducible refine Kd.C_drewN ?_ _) | (with_reducible refine Kd.C_drew ?_))); (case side4 => exact (Kd.R_reads' HO119.out).2.1); rintro e w' ⟨rfl, ⟨nd, rfl⟩⟩; refine ⟨_, rfl, ?_⟩) | ((with_reducible refine gate_dst (N := 18) rfl ?_); refine Kd.R_lit (Kd.int .i64) _ 3 ?hg (N := 18) ?hd (xs := ([256, 0, 0, 0] : List Int)) (inner := [.int .i64 256, .int .i64 0, .int .i64 0, .int .i64 0]) (ok := fun _ => True) (okp := fun _ => True) ?hr ?hp (fun _ hk => hk) trivial (Below.refl _ _) (Nat.le_refl _) (by simp) ?_; (case hd => rfl); (case hg => rfl); (case hr => first | (go_simp; done) | (go_simp; rfl)); (case hp => exact (Reps.one (show Kd.M (Kd.int .i64) _ _ _ 256 [.int .i64 256] from rfl) (Reps.one (show Kd.M (Kd.int .i64) _ _ _ 0 [.int .i64 0] from rfl) (Reps.one (show Kd.M (Kd.int .i64) _ _ _ 0 [.int .i64 0] from rfl) (Reps.one (show Kd.M (Kd.int .i64) _ _ _ 0 [.int .i64 0] from rfl) (Reps.none _ _)))))); intro v122 w137 ho138 hb hg_ hnew_; clear hg_ hnew_; (first | rw [← Ny121.out] at ho138 | (simp only [Int.reduceToNat] at ho138; rw [← Ny121.out] at ho138)); have n0_ := Aside0.mk (Kd.R_elder' (by (with_reducible repeat (first | apply Kd.R_alloc | apply Kd.R_drewN | apply Kd.R_drew)); exact HO111.out) (Kd.R_base ho138) hb); have n1_ := Aside0.mk (Kd.R_elder' (by (with_reducible repeat (first | apply Kd.R_alloc | apply Kd.R_drewN | apply Kd.R_drew)); exact HO115.out) (Kd.R_base ho138) hb); have n2_ := Aside0.mk (Kd.R_elder' (by (with_reducible repeat (first | apply Kd.R_alloc | apply Kd.R_drewN | apply Kd.R_drew)); exact HO119.out) (Kd.R_base ho138) hb); have n3_ := Aside0.mk (Kd.R_lower (Kd.R_new' (Kd.R_new' (Kd.R_new' ho138 (Kd.R_lt (by (with_reducible repeat (first | apply Kd.R_alloc | apply Kd.R_drewN | apply Kd.R_drew)); exact HO111.out))) (Kd.R_lt (by (with_reducible repeat (first | apply Kd.R_alloc | apply Kd.R_drewN | apply Kd.R_drew)); exact HO115.out))) (Kd.R_lt (by (with_reducible repeat (first | apply Kd.R_alloc | apply Kd.R_drewN | apply Kd.R_drew)); exact HO119.out))) (below_size (by repeat (first | (with_reducible first | exact HB.out | apply below_alloc | apply pw_below_drewN | apply below_drew1) | exact HB.out)))); have n4_ := Aside0.mk (below_step (by repeat (first | (with_reducible first | exact HB.out | apply below_alloc | apply pw_below_drewN | apply below_drew1) | exact HB.out)) hb); clear HO111; clear HO115; clear HO119; clear HB; have HO111 := n0_; have HO115 := n1_; have HO119 := n2_; have HO123 := n3_; have HB := n4_; clear n0_ n1_ n2_ n3_ n4_; clear hb ho138; obtain ⟨Ao139, co139, eo139⟩ := Kd.R_slice HO123.out; subst eo139) | ((with_reducible refine gate_callee (f := 153) rfl ?_); refine goesL_ (some 19) rfl rfl Tryd.func153 (by kernel_rfl) rfl #[.slice A0 l0.length c0, .slice Ao139 y121.length co139] rfl (by (try simp only [List.map_toArray, List.map_cons, List.map_nil]); first | done | rfl | (simp only [List.length_drop, List.length_take]; rfl)) ?_; (with_reducible refine (grilleref01_fits.calls k _ _ l0 _ _ y121 false _ ?side1 ?side2 ?side3 ?side4 A26.out).mono ?_); (case side1 => repeat (first | exact (Kd.C_below HR0.out HB.out) | (with_reducible refine Kd.C_alloc ?_ _) | (with_reducible refine Kd.C_drewN ?_ _) | (with_reducible refine Kd.C_drew ?_))); (case side2 => exact HC0.out); (case side3 => repeat (first | exact (Kd.R_reads' HO123.out).2.2 | (with_reducible refine Kd.C_alloc ?_ _) | (with_reducible refine Kd.C_drewN ?_ _) | (with_reducible refine Kd.C_drew ?_))); (case side4 => exact (Kd.R_reads' HO123.out).2.1); rintro e w' ⟨rfl, ⟨nd, rfl⟩⟩; refine ⟨_, rfl, ?_⟩) | ((with_reducible refine gate_dst (N := 22) rfl ?_); refine Kd.R_lit (Kd.int .i64) _ 3 ?hg (N := 22) ?hd (xs := ([254, 255] : List Int)) (inner := [.int .i64 254, .int .i64 255]) (ok := fun _ => True) (okp := fun _ => True) ?hr ?hp (fun _ hk => hk) trivial (Below.refl _ _) (Nat.le_refl _) (by simp) ?_; (case hd => rfl); (case hg => rfl); (case hr => first | (go_simp; done) | (go_simp; rfl)); (case hp => exact (Reps.one (show Kd.M (Kd.int .i64) _ _ _ 254 [.int .i64 254] from rfl) (Reps.one (show Kd.M (Kd.int .i64) _ _ _ 255 [.int .i64 255] from rfl) (Reps.none _ _)))); intro v126 w140 ho141 hb hg_ hnew_; clear hg_ hnew_; (first | rw [← Ny125.out] at ho141 | (simp only [Int.reduceToNat] at ho141; rw [← Ny125.out] at ho141)); have n0_ := Aside0.mk (Kd.R_elder' (by (with_reducible repeat (first | apply Kd.R_alloc | apply Kd.R_drewN | apply Kd.R_drew)); exact HO111.out) (Kd.R_base ho141) hb); have n1_ := Aside0.mk (Kd.R_elder' (by (with_reducible repeat (first | apply Kd.R_alloc | apply Kd.R_drewN | apply Kd.R_drew)); exact HO115.out) (Kd.R_base ho141) hb); have n2_ := Aside0.mk (Kd.R_elder' (by (with_reducible repeat (first | apply Kd.R_alloc | apply Kd.R_drewN | apply Kd.R_drew)); exact HO119.out) (Kd.R_base ho141) hb); have n3_ := Aside0.mk (Kd.R_elder' (by (with_reducible repeat (first | apply Kd.R_alloc | apply Kd.R_drewN | apply Kd.R_drew)); exact HO123.out) (Kd.R_base ho141) hb); have n4_ := Aside0.mk (Kd.R_lower (Kd.R_new' (Kd.R_new' (Kd.R_new' (Kd.R_new' ho141 (Kd.R_lt (by (with_reducible repeat (first | apply Kd.R_alloc | apply Kd.R_drewN | apply Kd.R_drew)); exact HO111.out))) (Kd.R_lt (by (with_reducible repeat (first | apply Kd.R_alloc | apply Kd.R_drewN | apply Kd.R_drew)); exact HO115.out))) (Kd.R_lt (by (with_reducible repeat (first | apply Kd.R_alloc | apply Kd.R_drewN | apply Kd.R_drew)); exact HO119.out))) (Kd.R_lt (by (with_reducible repeat (first | apply Kd.R_alloc | apply Kd.R_drewN | apply Kd.R_drew)); exact HO123.out))) (below_size (by repeat (first | (with_reducible first | exact HB.out | apply below_alloc | apply pw_below_drewN | apply below_drew1) | exact HB.out)))); have n5_ := Aside0.mk (below_step (by repeat (first | (with_reducible first | exact HB.out | apply below_alloc | apply pw_below_drewN | apply below_drew1) | exact HB.out)) hb); clear HO111; clear HO115; clear HO119; clear HO123; clear HB; have HO111 := n0_; have HO115 := n1_; have HO119 := n2_; have HO123 := n3_; have HO127 := n4_; have HB := n5_; clear n0_ n1_ n2_ n3_ n4_ n5_; clear hb ho141; obtain ⟨Ao142, co142, eo142⟩ := Kd.R_slice HO127.out; subst eo142) | ((with_reducible refine gate_callee (f := 153) rfl ?_); refine goesL_ (some 23) rfl rfl Tryd.func153 (by kernel_rfl) rfl #[.slice A0 l0.length c0, .slice Ao142 y125.length co142] rfl (by (try simp only [List.map_toArray, List.map_cons, List.map_nil]); first | done | rfl | (simp only [List.length_drop, List.length_take]; rfl)) ?_; (with_reducible refine (grilleref01_fits.calls k _ _ l0 _ _ y125 false _ ?side1 ?side2 ?side3 ?side4 A40.out).mono ?_); (case side1 => repeat (first | exact (Kd.C_below HR0.out HB.out) | (with_reducible refine Kd.C_alloc ?_ _) | (with_reducible refine Kd.C_drewN ?_ _) | (with_reducible refine Kd.C_drew ?_))); (case side2 => exact HC0.out); (case side3 => repeat (first | exact (Kd.R_reads' HO127.out).2.2 | (with_reducible refine Kd.C_alloc ?_ _) | (with_reducible refine Kd.C_drewN ?_ _) | (with_reducible refine Kd.C_drew ?_))); (case side4 => exact (Kd.R_reads' HO127.out).2.1); rintro e w' ⟨rfl, ⟨nd, rfl⟩⟩; refine ⟨_, rfl, ?_⟩) | ((with_reducible refine gate_dst (N := 26) rfl ?_); refine Kd.R_lit (Kd.int .i64) _ 3 ?hg (N := 26) ?hd (xs := ([0, 256] : List Int)) (inner := [.int .i64 0, .int .i64 256]) (ok := fun _ => True) (okp := fun _ => True) ?hr ?hp (fun _ hk => hk) trivial (Below.refl _ _) (Nat.le_refl _) (by simp) ?_; (case hd => rfl); (case hg => rfl); (case hr => first | (go_simp; done) | (go_simp; rfl)); (case hp => exact (Reps.one (show Kd.M (Kd.int .i64) _ _ _ 0 [.int .i64 0] from rfl) (Reps.one (show Kd.M (Kd.int .i64) _ _ _ 256 [.int .i64 256] from rfl) (Reps.none _ _)))); intro v130 w143 ho144 hb hg_ hnew_; clear hg_ hnew_; (first | rw [← Ny129.out] at ho144 | (simp only [Int.reduceToNat] at ho144; rw [← Ny129.out] at ho144)); have n0_ := Aside0.mk (Kd.R_elder' (by (with_reducible repeat (first | apply Kd.R_alloc | apply Kd.R_drewN | apply Kd.R_drew)); exact HO111.out) (Kd.R_base ho144) hb); have n1_ := Aside0.mk (Kd.R_elder' (by (with_reducible repeat (first | apply Kd.R_alloc | apply Kd.R_drewN | apply Kd.R_drew)); exact HO115.out) (Kd.R_base ho144) hb); have n2_ := Aside0.mk (Kd.R_elder' (by (with_reducible repeat (first | apply Kd.R_alloc | apply Kd.R_drewN | apply Kd.R_drew)); exact HO119.out) (Kd.R_base ho144) hb); have n3_ := Aside0.mk (Kd.R_elder' (by (with_reducible repeat (first | apply Kd.R_alloc | apply Kd.R_drewN | apply Kd.R_drew)); exact HO123.out) (Kd.R_base ho144) hb); have n4_ := Aside0.mk (Kd.R_elder' (by (with_reducible repeat (first | apply Kd.R_alloc | apply Kd.R_drewN | apply Kd.R_drew)); exact HO127.out) (Kd.R_base ho144) hb); have n5_ := Aside0.mk (Kd.R_lower (Kd.R_new' (Kd.R_new' (Kd.R_new' (Kd.R_new' (Kd.R_new' ho144 (Kd.R_lt (by (with_reducible repeat (first | apply Kd.R_alloc | apply Kd.R_drewN | apply Kd.R_drew)); exact HO111.out))) (Kd.R_lt (by (with_reducible repeat (first | apply Kd.R_alloc | apply Kd.R_drewN | apply Kd.R_drew)); exact HO115.out))) (Kd.R_lt (by (with_reducible repeat (first | apply Kd.R_alloc | apply Kd.R_drewN | apply Kd.R_drew)); exact HO119.out))) (Kd.R_lt (by (with_reducible repeat (first | apply Kd.R_alloc | apply Kd.R_drewN | apply Kd.R_drew)); exact HO123.out))) (Kd.R_lt (by (with_reducible repeat (first | apply Kd.R_alloc | apply Kd.R_drewN | apply Kd.R_drew)); exact HO127.out))) (below_size (by repeat (first | (with_reducible first | exact HB.out | apply below_alloc | apply pw_below_drewN | apply below_drew1) | exact HB.out)))); have n6_ := Aside0.mk (below_step (by repeat (first | (with_reducible first | exact HB.out | apply below_alloc | apply pw_below_drewN | apply below_drew1) | exact HB.out)) hb); clear HO111; clear HO115; clear HO119; clear HO123; clear HO127; clear HB; have HO111 := n0_; have HO115 := n1_; have HO119 := n2_; have HO123 := n3_; have HO127 := n4_; have HO131 := n5_; have HB := n6_; clear n0_ n1_ n2_ n3_ n4_ n5_ n6_; clear hb ho144; obtain ⟨Ao145, co145, eo145⟩ := Kd.R_slice HO131.out; subst eo145) | ((with_reducible refine gate_callee (f := 153) rfl ?_); refine goesL_ (some 27) rfl rfl Tryd.func153 (by kernel_rfl) rfl #[.slice A0 l0.length c0, .slice Ao145 y129.length co145] rfl (by (try simp only [List.map_toArray, List.map_cons, List.map_nil]); first | done | rfl | (simp only [List.length_drop, List.length_take]; rfl)) ?_; (with_reducible refine (grilleref01_fits.calls k _ _ l0 _ _ y129 false _ ?side1 ?side2 ?side3 ?side4 A57.out).mono ?_); (case side1 => repeat (first | exact (Kd.C_below HR0.out HB.out) | (with_reducible refine Kd.C_alloc ?_ _) | (with_reducible refine Kd.C_drewN ?_ _) | (with_reducible refine Kd.C_drew ?_))); (case side2 => exact HC0.out); (case side3 => repeat (first | exact (Kd.R_reads' HO131.out).2.2 | (with_reducible refine Kd.C_alloc ?_ _) | (with_reducible refine Kd.C_drewN ?_ _) | (with_reducible refine Kd.C_drew ?_))); (case side4 => exact (Kd.R_reads' HO131.out).2.1); rintro e w' ⟨rfl, ⟨nd, rfl⟩⟩; refine ⟨_, rfl, ?_⟩) | ((with_reducible refine gate_dst (N := 30) rfl ?_); refine Kd.R_lit (Kd.int .i64) _ 3 ?hg (N := 30) ?hd (xs := ([255, 254] : List Int)) (inner := [.int .i64 255, .int .i64 254]) (ok := fun _ => True) (okp := fun _ => True) ?hr ?hp (fun _ hk => hk) trivial (Below.refl _ _) (Nat.le_refl _) (by simp) ?_; (case hd => rfl); (case hg => rfl); (case hr => first | (go_simp; done) | (go_simp; rfl)); (case hp => exact (Reps.one (show Kd.M (Kd.int .i64) _ _ _ 255 [.int .i64 255] from rfl) (Reps.one (show Kd.M (Kd.int .i64) _ _ _ 254 [.int .i64 254] from rfl) (Reps.none _ _)))); intro v134 w146 ho147 hb hg_ hnew_; clear hg_ hnew_; (first | rw [← Ny133.out] at ho147 | (simp only [Int.reduceToNat] at ho147; rw [← Ny133.out] at ho147)); have n0_ := Aside0.mk (Kd.R_elder' (by (with_reducible repeat (first | apply Kd.R_alloc | apply Kd.R_drewN | apply Kd.R_drew)); exact HO111.out) (Kd.R_base ho147) hb); have n1_ := Aside0.mk (Kd.R_elder' (by (with_reducible repeat (first | apply Kd.R_alloc | apply Kd.R_drewN | apply Kd.R_drew)); exact HO115.out) (Kd.R_base ho147) hb); have n2_ := Aside0.mk (Kd.R_elder' (by (with_reducible repeat (first | apply Kd.R_alloc | apply Kd.R_drewN | apply Kd.R_drew)); exact HO119.out) (Kd.R_base ho147) hb); have n3_ := Aside0.mk (Kd.R_elder' (by (with_reducible repeat (first | apply Kd.R_alloc | apply Kd.R_drewN | apply Kd.R_drew)); exact HO123.out) (Kd.R_base ho147) hb); have n4_ := Aside0.mk (Kd.R_elder' (by (with_reducible repeat (first | apply Kd.R_alloc | apply Kd.R_drewN | apply Kd.R_drew)); exact HO127.out) (Kd.R_base ho147) hb); have n5_ := Aside0.mk (Kd.R_elder' (by (with_reducible repeat (first | apply Kd.R_alloc | apply Kd.R_drewN | apply Kd.R_drew)); exact HO131.out) (Kd.R_base ho147) hb); have n6_ := Aside0.mk (Kd.R_lower (Kd.R_new' (Kd.R_new' (Kd.R_new' (Kd.R_new' (Kd.R_new' (Kd.R_new' ho147 (Kd.R_lt (by (with_reducible repeat (first | apply Kd.R_alloc | apply Kd.R_drewN | apply Kd.R_drew)); exact HO111.out))) (Kd.R_lt (by (with_reducible repeat (first | apply Kd.R_alloc | apply Kd.R_drewN | apply Kd.R_drew)); exact HO115.out))) (Kd.R_lt (by (with_reducible repeat (first | apply Kd.R_alloc | apply Kd.R_drewN | apply Kd.R_drew)); exact HO119.out))) (Kd.R_lt (by (with_reducible repeat (first | apply Kd.R_alloc | apply Kd.R_drewN | apply Kd.R_drew)); exact HO123.out))) (Kd.R_lt (by (with_reducible repeat (first | apply Kd.R_alloc | apply Kd.R_drewN | apply Kd.R_drew)); exact HO127.out))) (Kd.R_lt (by (with_reducible repeat (first | apply Kd.R_alloc | apply Kd.R_drewN | apply Kd.R_drew)); exact HO131.out))) (below_size (by repeat (first | (with_reducible first | exact HB.out | apply below_alloc | apply pw_below_drewN | apply below_drew1) | exact HB.out)))); have n7_ := Aside0.mk (below_step (by repeat (first | (with_reducible first | exact HB.out | apply below_alloc | apply pw_below_drewN | apply below_drew1) | exact HB.out)) hb); clear HO111; clear HO115; clear HO119; clear HO123; clear HO127; clear HO131; clear HB; have HO111 := n0_; have HO115 := n1_; have HO119 := n2_; have HO123 := n3_; have HO127 := n4_; have HO131 := n5_; have HO135 := n6_; have HB := n7_; clear n0_ n1_ n2_ n3_ n4_ n5_ n6_ n7_; clear hb ho147; obtain ⟨Ao148, co148, eo148⟩ := Kd.R_slice HO135.out; subst eo148) | ((with_reducible refine gate_callee (f := 153) rfl ?_); refine goesL_ (some 31) rfl rfl Tryd.func153 (by kernel_rfl) rfl #[.slice A0 l0.length c0, .slice Ao148 y133.length co148] rfl (by (try simp only [List.map_toArray, List.map_cons, List.map_nil]); first | done | rfl | (simp only [List.length_drop, List.length_take]; rfl)) ?_; (with_reducible refine (grilleref01_fits.calls k _ _ l0 _ _ y133 false _ ?side1 ?side2 ?side3 ?side4 A77.out).mono ?_); (case side1 => repeat (first | exact (Kd.C_below HR0.out HB.out) | (with_reducible refine Kd.C_alloc ?_ _) | (with_reducible refine Kd.C_drewN ?_ _) | (with_reducible refine Kd.C_drew ?_))); (case side2 => exact HC0.out); (case side3 => repeat (first | exact (Kd.R_reads' HO135.out).2.2 | (with_reducible refine Kd.C_alloc ?_ _) | (with_reducible refine Kd.C_drewN ?_ _) | (with_reducible refine Kd.C_drew ?_))); (case side4 => exact (Kd.R_reads' HO135.out).2.1); rintro e w' ⟨rfl, ⟨nd, rfl⟩⟩; refine ⟨_, rfl, ?_⟩) | ((with_reducible refine gate_dst (N := 34) rfl ?_); refine Kd.R_lit (Kd.int .i64) _ 3 ?hg (N := 34) ?hd (xs := ([256, 0] : List Int)) (inner := [.int .i64 256, .int .i64 0]) (ok := fun _ => True) (okp := fun _ => True) ?hr ?hp (fun _ hk => hk) trivial (Below.refl _ _) (Nat.le_refl _) (by simp) ?_; (case hd => rfl); (case hg => rfl); (case hr => first | (go_simp; done) | (go_simp; rfl)); (case hp => exact (Reps.one (show Kd.M (Kd.int .i64) _ _ _ 256 [.int .i64 256] from rfl) (Reps.one (show Kd.M (Kd.int .i64) _ _ _ 0 [.int .i64 0] from rfl) (Reps.none _ _)))); intro v138 w149 ho150 hb hg_ hnew_; clear hg_ hnew_; (first | rw [← Ny137.out] at ho150 | (simp only [Int.reduceToNat] at ho150; rw [← Ny137.out] at ho150)); have n0_ := Aside0.mk (Kd.R_elder' (by (with_reducible repeat (first | apply Kd.R_alloc | apply Kd.R_drewN | apply Kd.R_drew)); exact HO111.out) (Kd.R_base ho150) hb); have n1_ := Aside0.mk (Kd.R_elder' (by (with_reducible repeat (first | apply Kd.R_alloc | apply Kd.R_drewN | apply Kd.R_drew)); exact HO115.out) (Kd.R_base ho150) hb); have n2_ := Aside0.mk (Kd.R_elder' (by (with_reducible repeat (first | apply Kd.R_alloc | apply Kd.R_drewN | apply Kd.R_drew)); exact HO119.out) (Kd.R_base ho150) hb); have n3_ := Aside0.mk (Kd.R_elder' (by (with_reducible repeat (first | apply Kd.R_alloc | apply Kd.R_drewN | apply Kd.R_drew)); exact HO123.out) (Kd.R_base ho150) hb); have n4_ := Aside0.mk (Kd.R_elder' (by (with_reducible repeat (first | apply Kd.R_alloc | apply Kd.R_drewN | apply Kd.R_drew)); exact HO127.out) (Kd.R_base ho150) hb); have n5_ := Aside0.mk (Kd.R_elder' (by (with_reducible repeat (first | apply Kd.R_alloc | apply Kd.R_drewN | apply Kd.R_drew)); exact HO131.out) (Kd.R_base ho150) hb); have n6_ := Aside0.mk (Kd.R_elder' (by (with_reducible repeat (first | apply Kd.R_alloc | apply Kd.R_drewN | apply Kd.R_drew)); exact HO135.out) (Kd.R_base ho150) hb); have n7_ := Aside0.mk (Kd.R_lower (Kd.R_new' (Kd.R_new' (Kd.R_new' (Kd.R_new' (Kd.R_new' (Kd.R_new' (Kd.R_new' ho150 (Kd.R_lt (by (with_reducible repeat (first | apply Kd.R_alloc | apply Kd.R_drewN | apply Kd.R_drew)); exact HO111.out))) (Kd.R_lt (by (with_reducible repeat (first | apply Kd.R_alloc | apply Kd.R_drewN | apply Kd.R_drew)); exact HO115.out))) (Kd.R_lt (by (with_reducible repeat (first | apply Kd.R_alloc | apply Kd.R_drewN | apply Kd.R_drew)); exact HO119.out))) (Kd.R_lt (by (with_reducible repeat (first | apply Kd.R_alloc | apply Kd.R_drewN | apply Kd.R_drew)); exact HO123.out))) (Kd.R_lt (by (with_reducible repeat (first | apply Kd.R_alloc | apply Kd.R_drewN | apply Kd.R_drew)); exact HO127.out))) (Kd.R_lt (by (with_reducible repeat (first | apply Kd.R_alloc | apply Kd.R_drewN | apply Kd.R_drew)); exact HO131.out))) (Kd.R_lt (by (with_reducible repeat (first | apply Kd.R_alloc | apply Kd.R_drewN | apply Kd.R_drew)); exact HO135.out))) (below_size (by repeat (first | (with_reducible first | exact HB.out | apply below_alloc | apply pw_below_drewN | apply below_drew1) | exact HB.out)))); have n8_ := Aside0.mk (below_step (by repeat (first | (with_reducible first | exact HB.out | apply below_alloc | apply pw_below_drewN | apply below_drew1) | exact HB.out)) hb); clear HO111; clear HO115; clear HO119; clear HO123; clear HO127; clear HO131; clear HO135; clear HB; have HO111 := n0_; have HO115 := n1_; have HO119 := n2_; have HO123 := n3_; have HO127 := n4_; have HO131 := n5_; have HO135 := n6_; have HO139 := n7_; have HB := n8_; clear n0_ n1_ n2_ n3_ n4_ n5_ n6_ n7_ n8_; clear hb ho150; obtain ⟨Ao151, co151, eo151⟩ := Kd.R_slice HO139.out; subst eo151) | ((with_reducible refine gate_callee (f := 153) rfl ?_); refine goesL_ (some 35) rfl rfl Tryd.func153 (by kernel_rfl) rfl #[.slice A0 l0.length c0, .slice Ao151 y137.length co151] rfl (by (try simp only [List.map_toArray, List.map_cons, List.map_nil]); first | done | rfl | (simp only [List.length_drop, List.length_take]; rfl)) ?_; (with_reducible refine (grilleref01_fits.calls k _ _ l0 _ _ y137 false _ ?side1 ?side2 ?side3 ?side4 A100.out).mono ?_); (case side1 => repeat (first | exact (Kd.C_below HR0.out HB.out) | (with_reducible refine Kd.C_alloc ?_ _) | (with_reducible refine Kd.C_drewN ?_ _) | (with_reducible refine Kd.C_drew ?_))); (case side2 => exact HC0.out); (case side3 => repeat (first | exact (Kd.R_reads' HO139.out).2.2 | (with_reducible refine Kd.C_alloc ?_ _) | (with_reducible refine Kd.C_drewN ?_ _) | (with_reducible refine Kd.C_drew ?_))); (case side4 => exact (Kd.R_reads' HO139.out).2.1); rintro e w' ⟨rfl, ⟨nd, rfl⟩⟩; refine ⟨_, rfl, ?_⟩) | ((with_reducible refine gate_dst (N := 38) rfl ?_); refine Kd.R_lit (Kd.int .i64) _ 3 ?hg (N := 38) ?hd (xs := ([239, 187, 191] : List Int)) (inner := [.int .i64 239, .int .i64 187, .int .i64 191]) (ok := fun _ => True) (okp := fun _ => True) ?hr ?hp (fun _ hk => hk) trivial (Below.refl _ _) (Nat.le_refl _) (by simp) ?_; (case hd => rfl); (case hg => rfl); (case hr => first | (go_simp; done) | (go_simp; rfl)); (case hp => exact (Reps.one (show Kd.M (Kd.int .i64) _ _ _ 239 [.int .i64 239] from rfl) (Reps.one (show Kd.M (Kd.int .i64) _ _ _ 187 [.int .i64 187] from rfl) (Reps.one (show Kd.M (Kd.int .i64) _ _ _ 191 [.int .i64 191] from rfl) (Reps.none _ _))))); intro v142 w152 ho153 hb hg_ hnew_; clear hg_ hnew_; (first | rw [← Ny141.out] at ho153 | (simp only [Int.reduceToNat] at ho153; rw [← Ny141.out] at ho153)); have n0_ := Aside0.mk (Kd.R_elder' (by (with_reducible repeat (first | apply Kd.R_alloc | apply Kd.R_drewN | apply Kd.R_drew)); exact HO111.out) (Kd.R_base ho153) hb); have n1_ := Aside0.mk (Kd.R_elder' (by (with_reducible repeat (first | apply Kd.R_alloc | apply Kd.R_drewN | apply Kd.R_drew)); exact HO115.out) (Kd.R_base ho153) hb); have n2_ := Aside0.mk (Kd.R_elder' (by (with_reducible repeat (first | apply Kd.R_alloc | apply Kd.R_drewN | apply Kd.R_drew)); exact HO119.out) (Kd.R_base ho153) hb); have n3_ := Aside0.mk (Kd.R_elder' (by (with_reducible repeat (first | apply Kd.R_alloc | apply Kd.R_drewN | apply Kd.R_drew)); exact HO123.out) (Kd.R_base ho153) hb); have n4_ := Aside0.mk (Kd.R_elder' (by (with_reducible repeat (first | apply Kd.R_alloc | apply Kd.R_drewN | apply Kd.R_drew)); exact HO127.out) (Kd.R_base ho153) hb); have n5_ := Aside0.mk (Kd.R_elder' (by (with_reducible repeat (first | apply Kd.R_alloc | apply Kd.R_drewN | apply Kd.R_drew)); exact HO131.out) (Kd.R_base ho153) hb); have n6_ := Aside0.mk (Kd.R_elder' (by (with_reducible repeat (first | apply Kd.R_alloc | apply Kd.R_drewN | apply Kd.R_drew)); exact HO135.out) (Kd.R_base ho153) hb); have n7_ := Aside0.mk (Kd.R_elder' (by (with_reducible repeat (first | apply Kd.R_alloc | apply Kd.R_drewN | apply Kd.R_drew)); exact HO139.out) (Kd.R_base ho153) hb); have n8_ := Aside0.mk (Kd.R_lower (Kd.R_new' (Kd.R_new' (Kd.R_new' (Kd.R_new' (Kd.R_new' (Kd.R_new' (Kd.R_new' (Kd.R_new' ho153 (Kd.R_lt (by (with_reducible repeat (first | apply Kd.R_alloc | apply Kd.R_drewN | apply Kd.R_drew)); exact HO111.out))) (Kd.R_lt (by (with_reducible repeat (first | apply Kd.R_alloc | apply Kd.R_drewN | apply Kd.R_drew)); exact HO115.out))) (Kd.R_lt (by (with_reducible repeat (first | apply Kd.R_alloc | apply Kd.R_drewN | apply Kd.R_drew)); exact HO119.out))) (Kd.R_lt (by (with_reducible repeat (first | apply Kd.R_alloc | apply Kd.R_drewN | apply Kd.R_drew)); exact HO123.out))) (Kd.R_lt (by (with_reducible repeat (first | apply Kd.R_alloc | apply Kd.R_drewN | apply Kd.R_drew)); exact HO127.out))) (Kd.R_lt (by (with_reducible repeat (first | apply Kd.R_alloc | apply Kd.R_drewN | apply Kd.R_drew)); exact HO131.out))) (Kd.R_lt (by (with_reducible repeat (first | apply Kd.R_alloc | apply Kd.R_drewN | apply Kd.R_drew)); exact HO135.out))) (Kd.R_lt (by (with_reducible repeat (first | apply Kd.R_alloc | apply Kd.R_drewN | apply Kd.R_drew)); exact HO139.out))) (below_size (by repeat (first | (with_reducible first | exact HB.out | apply below_alloc | apply pw_below_drewN | apply below_drew1) | exact HB.out)))); have n9_ := Aside0.mk (below_step (by repeat (first | (with_reducible first | exact HB.out | apply below_alloc | apply pw_below_drewN | apply below_drew1) | exact HB.out)) hb); clear HO111; clear HO115; clear HO119; clear HO123; clear HO127; clear HO131; clear HO135; clear HO139; clear HB; have HO111 := n0_; have HO115 := n1_; have HO119 := n2_; have HO123 := n3_; have HO127 := n4_; have HO131 := n5_; have HO135 := n6_; have HO139 := n7_; have HO143 := n8_; have HB := n9_; clear n0_ n1_ n2_ n3_ n4_ n5_ n6_ n7_ n8_ n9_; clear hb ho153; obtain ⟨Ao154, co154, eo154⟩ := Kd.R_slice HO143.out; subst eo154) | ((with_reducible refine gate_callee (f := 153) rfl ?_); refine goesL_ (some 39) rfl rfl Tryd.func153 (by kernel_rfl) rfl #[.slice A0 l0.length c0, .slice Ao154 y141.length co154] rfl (by (try simp only [List.map_toArray, List.map_cons, List.map_nil]); first | done | rfl | (simp only [List.length_drop, List.length_take]; rfl)) ?_; (with_reducible refine (grilleref01_fits.calls k _ _ l0 _ _ y141 true _ ?side1 ?side2 ?side3 ?side4 A126.out).mono ?_); (case side1 => repeat (first | exact (Kd.C_below HR0.out HB.out) | (with_reducible refine Kd.C_alloc ?_ _) | (with_reducible refine Kd.C_drewN ?_ _) | (with_reducible refine Kd.C_drew ?_))); (case side2 => exact HC0.out); (case side3 => repeat (first | exact (Kd.R_reads' HO143.out).2.2 | (with_reducible refine Kd.C_alloc ?_ _) | (with_reducible refine Kd.C_drewN ?_ _) | (with_reducible refine Kd.C_drew ?_))); (case side4 => exact (Kd.R_reads' HO143.out).2.1); rintro e w' ⟨rfl, ⟨nd, rfl⟩⟩; refine ⟨_, rfl, ?_⟩))
                    go_ret2
                    exact ⟨by first | rfl | (simp [errW_none, errW_some] <;> rfl) | (simp [*, errW_none, errW_some] <;> rfl), by repeat (first | (with_reducible first | exact HB.out | apply below_alloc | apply pw_below_drewN | apply below_drew1) | exact HB.out)⟩
                  · replace c127 := Bool.eq_false_iff.mpr c127
                    subst c127
                    have H1 : (some (0, 0)) = some (r1, r2) := by rw [if_neg (show ¬ (false = true) by decide)] at H; exact H
                    clear H
                    have H := H1
                    clear H1
                    simp only [Option.some.injEq, Prod.mk.injEq] at H
                    exact absurd hM (by omega)
set_option maxHeartbeats 8000000 in
set_option maxRecDepth 100000 in
theorem grilleref01_Runes.callsM (k : Nat) (A0 : Option Addr) (c0 : Nat) (l0 : List Int) (r1 : List Int) (r2 : Int) (w : World) (hr0 : Kd.C (Kd.int .u8) w A0 l0.length l0) (hc0 : l0.length ≤ c0) (h : grilleref01_Runes.f k l0 = some (r1, r2)) (hD : grilleref01_Detect.f k l0 = some (0, 3)) :
    Calls Tryd.prog 133 #[.slice A0 l0.length c0] w fun e w' => ∃ v0_ : Value, e = .returned (.tuple #[v0_, .int .i64 r2]) ∧ Kd.R (Kd.int .i64) 3 w' w.heap.size (fun _ => True) v0_ r1 ∧ Below w.heap.size w w' := by
  have HR0 := Aside0.mk hr0
  have HC0 := Aside0.mk hc0
  clear hr0 hc0
  have HB := Aside0.mk (Below.refl w.heap.size w)
  have H : ((grilleref01_Detect.f k l0).bind fun bt190 => (if 0 ≤ bt190.2 then (if bt190.2 ≤ (l0.length : Int) then (if bt190.1 = 0 then ((grilleref01_plain.f k (l0.drop (bt190.2 : Int).toNat)).bind fun bt193 => (grilleref01_Runes.j1 k bt193.1 bt193.2)) else (if bt190.1 = 1 then (grilleref01_Runes.j0 k (l0.drop (bt190.2 : Int).toNat) bt190.1 (bt190.1 == 1)) else (grilleref01_Runes.j0 k (l0.drop (bt190.2 : Int).toNat) bt190.1 (bt190.1 == 2)))) else (none)) else (none))) = some (r1, r2) := h
  clear h
  replace H := Option.bind_eq_some_iff.mp H
  obtain ⟨⟨t190, t191⟩, A20, H⟩ := H
  replace H : (if 0 ≤ t191 then (if t191 ≤ (l0.length : Int) then (if t190 = 0 then ((grilleref01_plain.f k (l0.drop (t191 : Int).toNat)).bind fun bt193 => (grilleref01_Runes.j1 k bt193.1 bt193.2)) else (if t190 = 1 then (grilleref01_Runes.j0 k (l0.drop (t191 : Int).toNat) t190 (t190 == 1)) else (grilleref01_Runes.j0 k (l0.drop (t191 : Int).toNat) t190 (t190 == 2)))) else (none)) else (none)) = some (r1, r2) := H
  have hM : t190 = 0 ∧ t191 = 3 := by have h_ := A20.symm.trans hD; simp only [Option.some.injEq, Prod.mk.injEq] at h_; exact h_
  have HM := Aside0.mk hM
  clear hM hD
  have A2 := Aside0.mk A20
  clear A20
  by_cases c3 : 0 ≤ t191
  · rw [if_pos c3] at H
    have c3b0 := eq_true c3
    have c3b1 : decide (0 ≤ t191) = true := decide_eq_true c3
    clear c3
    by_cases c4 : t191 ≤ (l0.length : Int)
    · rw [if_pos c4] at H
      have c4b0 := eq_true c4
      have c4b1 : decide (t191 ≤ (l0.length : Int)) = true := decide_eq_true c4
      clear c4
      have HC5 := Aside0.mk H
      clear H
      go_enter Tryd.func133, Tryd.ntmps133
      go_upto_block 0 with (first | ((with_reducible refine gate_callee (f := 145) rfl ?_); refine goesL_ (some 13) rfl rfl Tryd.func145 (by kernel_rfl) rfl #[.slice A0 l0.length c0] rfl (by (try simp only [List.map_toArray, List.map_cons, List.map_nil]); first | done | rfl | (simp only [List.length_drop, List.length_take]; rfl)) ?_; (with_reducible refine (grilleref01_Detect.callsM k _ _ l0 t190 t191 _ ?side1 ?side2 A2.out HM.out).mono ?_); (case side1 => repeat (first | exact HR0.out | (with_reducible refine Kd.C_alloc ?_ _) | (with_reducible refine Kd.C_drewN ?_ _) | (with_reducible refine Kd.C_drew ?_))); (case side2 => exact HC0.out); rintro e w6 ⟨rfl, hb⟩; refine ⟨_, rfl, ?_⟩; have n0_ := Aside0.mk (below_step (by repeat (first | (with_reducible first | exact HB.out | apply below_alloc | apply pw_below_drewN | apply below_drew1) | exact HB.out)) hb); clear HB; have HB := n0_; clear n0_; (try clear hb); (try clear hb2); (try clear hk); (try clear hi); obtain ⟨i07, hi07, _, hsz7, _⟩ := info_parts info5; obtain ⟨A7, hcut7, hA7, hC7⟩ := print_drop_of (P := Tryd.prog) (Value.int .u8) 0 147 5 .i64 Tryd.underlying147 hi07 hsz7 A0 c0 l0 t191 (of_decide_eq_true (by first | (with_reducible assumption) | assumption)) (of_decide_eq_true (by first | (with_reducible assumption) | assumption)) HC0.out; have HR192 := Aside0.mk (Kd.C_of_reads (h1 := fun _ => rfl) (hA7 _ (Kd.reads_of_C HR0.out))); have HC192 := Aside0.mk hC7; clear hA7 hC7 hi07 hsz7))
      (try simp only [Act.put, List.setIfInBounds_toArray, List.set_cons_zero, List.set_cons_succ])
      go_cut [6, 7] (fun v6 v7 wc => ∃ (kq : Nat) (x6_4 : List Int) (x7_4 : Bool), v7 = .bool x7_4 ∧ Aside0 (grilleref01_Runes.j1 kq x6_4 x7_4 = some (r1, r2)) ∧ Aside0 (kq ≤ k) ∧ Aside0 (Kd.R (Kd.int .i64) 3 wc w.heap.size (fun _ => True) v6 x6_4) ∧ Aside0 (Below w.heap.size w wc))
      case first =>
        have H := HC5.out
        clear HC5
        by_cases c8 : t190 = 0
        · rw [if_pos c8] at H
          have c8b0 : (t190 == 0) = true := beq_iff_eq.mpr c8
          have c8b1 : (t190 != 0) = false := bne_eq_false_iff_eq.mpr c8
          clear c8
          (first | rw [c8b0] | (simp only [i64_w, i32_w]; rw [c8b0]) | skip)
          replace H := Option.bind_eq_some_iff.mp H
          obtain ⟨⟨t193, t196⟩, A90, H⟩ := H
          replace H : (grilleref01_Runes.j1 k t193 t196) = some (r1, r2) := H
          have A9 := Aside0.mk A90
          clear A90
          have H' := Aside0.mk H
          clear H
          go_wp2_with (first | ((with_reducible refine gate_callee (f := 146) rfl ?_); refine goesL_ (some 31) rfl rfl Tryd.func146 (by kernel_rfl) rfl #[.slice A7 (l0.drop (t191 : Int).toNat).length (c0 - t191.toNat)] rfl (by (try simp only [List.map_toArray, List.map_cons, List.map_nil]); first | done | (rw [show (l0.drop (t191 : Int).toNat).length = (l0.length - t191.toNat) from List.length_drop] <;> rfl) | rfl | (simp only [List.length_drop, List.length_take]; rfl)) ?_; (with_reducible refine (grilleref01_plain.calls k (fun k_ => k_ < w.heap.size) _ _ (l0.drop (t191 : Int).toNat) t193 t196 _ ?side1 A9.out).mono ?_); (case side1 => exact Kd.V_mk HC192.out (Kd.F_below (Kd.C_F (Kd.heap_int .u8) HR192.out) (by repeat (first | (with_reducible first | exact HB.out | apply below_alloc | apply pw_below_drewN | apply below_drew1) | exact HB.out)))); rintro e w10 ⟨v194, rfl, ho0, hb⟩; refine ⟨_, rfl, ?_⟩; have n0_ := Aside0.mk (Kd.R_lower (Kd.R_mono (ok' := fun k_ => True) ho0 (fun _ hk_ => trivial)) (below_size (by repeat (first | (with_reducible first | exact HB.out | apply below_alloc | apply pw_below_drewN | apply below_drew1) | exact HB.out)))); have n1_ := Aside0.mk (below_step (by repeat (first | (with_reducible first | exact HB.out | apply below_alloc | apply pw_below_drewN | apply below_drew1) | exact HB.out)) hb); clear HB; have HO195 := n0_; have HB := n1_; clear n0_ n1_; (try clear hb); (try clear hb2); (try clear hk); (try clear hi); (try clear ho0)))
          go_meet
          case rel => exact ⟨_, (t193), (t196), (by first | rfl | (simp; done) | (simp [*]; done) | (simp [xbne_nil, xbeq_nil]; done)), H', ⟨by first | omega | exact Nat.le_refl _⟩, ⟨by (with_reducible repeat (first | apply Kd.R_alloc | apply Kd.R_drewN | apply Kd.R_drew)); exact HO195.out⟩, ⟨by repeat (first | (with_reducible first | exact HB.out | apply below_alloc | apply pw_below_drewN | apply below_drew1) | exact HB.out)⟩⟩
        · exact absurd HM.out.1 c8
      case rest =>
        clear HC5
        try clear c1
        try clear p2
        try clear c3
        try clear c3b0
        try clear c3b1
        try clear c4
        try clear c4b0
        try clear c4b1
        try clear c8
        try clear c8b0
        try clear c8b1
        try clear c12
        try clear c12b0
        try clear c12b1
        try clear c13
        try clear c14
        try clear c16
        try clear p2
        obtain ⟨kq, x6_4, x7_4, rfl, HA, HJ4, HO_6, HB⟩ := hcut
        cases kq with
        | zero => exact absurd HA.out (by simp [grilleref01_Runes.j1])
        | succ kj4 =>
          have H := HA.out
          clear HA
          simp only [grilleref01_Runes.j1] at H
          by_cases c25 : x7_4 = true
          · subst c25
            have H1 : (grilleref01_Runes.l0 kj4 x6_4 0) = some (r1, r2) := by rw [if_pos rfl] at H; exact H
            clear H
            have H := H1
            clear H1
            have H' := Aside0.mk H
            clear H
            go_wp2
            go_loopg [10] kj4 (fun kq v10 w' => ∃ (x10_2 : Int), v10 = .int .i64 x10_2 ∧ Aside0 (grilleref01_Runes.l0 kq x6_4 x10_2 = some (r1, r2)) ∧ Aside0 (kq ≤ kj4) ∧ Aside0 (Kd.R (Kd.int .i64) 3 w' w.heap.size (fun _ => True) u6 x6_4) ∧ Aside0 (Below w.heap.size w w'))
            case atStart => exact ⟨(0), (by first | rfl | (simp; done) | (simp [*]; done) | (simp [xbne_nil, xbeq_nil]; done)), H', ⟨Nat.le_refl _⟩, ⟨by (with_reducible repeat (first | apply Kd.R_alloc | apply Kd.R_drewN | apply Kd.R_drew)); exact HO_6.out⟩, ⟨by repeat (first | (with_reducible first | exact HB.out | apply below_alloc | apply pw_below_drewN | apply below_drew1) | exact HB.out)⟩⟩
            case round =>
              clear H'
              try clear c1
              try clear c2
              try clear p2
              try clear c3
              try clear c3b0
              try clear c3b1
              try clear c4
              try clear c4b0
              try clear c4b1
              try clear c8
              try clear c8b0
              try clear c8b1
              try clear c12
              try clear c12b0
              try clear c12b1
              try clear c13
              try clear c14
              try clear c16
              try clear c25
              try clear p2
              obtain ⟨x10_2, rfl, HA, HK2, HO_6, HB⟩ := hrel
              cases gk with
              | zero => exact absurd HA.out (by simp [grilleref01_Runes.l0])
              | succ k2 =>
                have H := HA.out
                clear HA
                simp only [grilleref01_Runes.l0] at H
                by_cases c26 : x10_2 < (x6_4.length : Int)
                · rw [if_pos c26] at H
                  have c26b0 : decide (x10_2 < (x6_4.length : Int)) = true := decide_eq_true c26
                  clear c26
                  by_cases c27 : 0 ≤ x10_2
                  · rw [if_pos c27] at H
                    have c27b0 : decide (0 ≤ x10_2) = true := decide_eq_true c27
                    clear c27
                    replace H := Option.bind_eq_some_iff.mp H
                    obtain ⟨t210, A280, H⟩ := H
                    replace H : (if t210 = true then (grilleref01_Runes.l0 k2 x6_4 (wrap64 (x10_2 + 1))) else (some (([] : List Int), 6))) = some (r1, r2) := H
                    have A28 := Aside0.mk A280
                    clear A280
                    by_cases c29 : t210 = true
                    · subst c29
                      have H1 : (grilleref01_Runes.l0 k2 x6_4 (wrap64 (x10_2 + 1))) = some (r1, r2) := by rw [if_pos rfl] at H; exact H
                      clear H
                      have H := H1
                      clear H1
                      have H' := Aside0.mk H
                      clear H
                      obtain ⟨Ao30, co30, eo30⟩ := Kd.R_slice HO_6.out
                      subst eo30
                      have p209 : 0 ≤ (x10_2 : Int) := of_decide_eq_true (by first | (with_reducible assumption) | assumption)
                      have q209 : x10_2 < (x6_4.length : Int) := of_decide_eq_true (by first | (with_reducible assumption) | assumption)
                      obtain ⟨ad209, e209, hx209_0⟩ := Kd.at_int (Kd.R_reads' HO_6.out).2.2 x10_2 p209 q209
                      cases e209
                      replace p209 := eq_true p209
                      replace q209 := eq_true q209
                      go_wp2_with (first | ((with_reducible refine gate_callee (f := 149) rfl ?_); refine goesL_ (some 65) rfl rfl Tryd.func149 (by kernel_rfl) rfl #[.int .i64 (rd x6_4 x10_2)] rfl (by (try simp only [List.map_toArray, List.map_cons, List.map_nil]); first | done | rfl | (simp only [List.length_drop, List.length_take]; rfl)) ?_; (with_reducible refine (grilleref01_Character.calls (rd x6_4 x10_2) true _ A28.out).mono ?_); rintro e w' ⟨rfl, ⟨nd, rfl⟩⟩; refine ⟨_, rfl, ?_⟩))
                      go_roundg k2
                      case measure => have := HJ4.out; have := HK2.out; omega
                      case rel => exact ⟨(wrap64 (x10_2 + 1)), (by first | rfl | (simp; done) | (simp [*]; done) | (simp [xbne_nil, xbeq_nil]; done)), H', ⟨by have := HJ4.out; have := HK2.out; omega⟩, ⟨by (with_reducible repeat (first | apply Kd.R_alloc | apply Kd.R_drewN | apply Kd.R_drew)); exact HO_6.out⟩, ⟨by repeat (first | (with_reducible first | exact HB.out | apply below_alloc | apply pw_below_drewN | apply below_drew1) | exact HB.out)⟩⟩
                    · replace c29 := Bool.eq_false_iff.mpr c29
                      subst c29
                      have H1 : (some (([] : List Int), 6)) = some (r1, r2) := by rw [if_neg (show ¬ (false = true) by decide)] at H; exact H
                      clear H
                      have H := H1
                      clear H1
                      simp only [Option.some.injEq, Prod.mk.injEq] at H
                      obtain ⟨rfl, rfl⟩ := H
                      obtain ⟨Ao31, co31, eo31⟩ := Kd.R_slice HO_6.out
                      subst eo31
                      have p209 : 0 ≤ (x10_2 : Int) := of_decide_eq_true (by first | (with_reducible assumption) | assumption)
                      have q209 : x10_2 < (x6_4.length : Int) := of_decide_eq_true (by first | (with_reducible assumption) | assumption)
                      obtain ⟨ad209, e209, hx209_0⟩ := Kd.at_int (Kd.R_reads' HO_6.out).2.2 x10_2 p209 q209
                      cases e209
                      replace p209 := eq_true p209
                      replace q209 := eq_true q209
                      go_wp2_with (first | ((with_reducible refine gate_callee (f := 149) rfl ?_); refine goesL_ (some 65) rfl rfl Tryd.func149 (by kernel_rfl) rfl #[.int .i64 (rd x6_4 x10_2)] rfl (by (try simp only [List.map_toArray, List.map_cons, List.map_nil]); first | done | rfl | (simp only [List.length_drop, List.length_take]; rfl)) ?_; (with_reducible refine (grilleref01_Character.calls (rd x6_4 x10_2) false _ A28.out).mono ?_); rintro e w' ⟨rfl, ⟨nd, rfl⟩⟩; refine ⟨_, rfl, ?_⟩))
                      go_ret2
                      exact ⟨_, by first | rfl | (simp [errW_none, errW_some] <;> rfl) | (simp [*, errW_none, errW_some] <;> rfl), by first | exact Kd.R_nil _ _ _ _ _ | exact Kd.N_nil _ _ _ _ _ | exact Kd.V_nil _ _ _ _ _ | exact Kd.Q_nil _ _ _ _ _ | exact Kd.S_nil _ _ _ _ _, by repeat (first | (with_reducible first | exact HB.out | apply below_alloc | apply pw_below_drewN | apply below_drew1) | exact HB.out)⟩
                  · rw [if_neg c27] at H
                    exact absurd H (by simp)
                · rw [if_neg c26] at H
                  have c26b0 : decide (x10_2 < (x6_4.length : Int)) = false := decide_eq_false c26
                  clear c26
                  simp only [Option.some.injEq, Prod.mk.injEq] at H
                  obtain ⟨rfl, rfl⟩ := H
                  obtain ⟨Ao32, co32, eo32⟩ := Kd.R_slice HO_6.out
                  subst eo32
                  go_wp2
                  go_ret2
                  exact ⟨_, by first | rfl | (simp [errW_none, errW_some] <;> rfl) | (simp [*, errW_none, errW_some] <;> rfl), by (with_reducible repeat (first | apply Kd.R_alloc | apply Kd.R_drewN | apply Kd.R_drew)); exact HO_6.out, by repeat (first | (with_reducible first | exact HB.out | apply below_alloc | apply pw_below_drewN | apply below_drew1) | exact HB.out)⟩
          · replace c25 := Bool.eq_false_iff.mpr c25
            subst c25
            have H1 : (some (([] : List Int), 6)) = some (r1, r2) := by rw [if_neg (show ¬ (false = true) by decide)] at H; exact H
            clear H
            have H := H1
            clear H1
            simp only [Option.some.injEq, Prod.mk.injEq] at H
            obtain ⟨rfl, rfl⟩ := H
            go_wp2
            go_ret2
            exact ⟨_, by first | rfl | (simp [errW_none, errW_some] <;> rfl) | (simp [*, errW_none, errW_some] <;> rfl), by first | exact Kd.R_nil _ _ _ _ _ | exact Kd.N_nil _ _ _ _ _ | exact Kd.V_nil _ _ _ _ _ | exact Kd.Q_nil _ _ _ _ _ | exact Kd.S_nil _ _ _ _ _, by repeat (first | (with_reducible first | exact HB.out | apply below_alloc | apply pw_below_drewN | apply below_drew1) | exact HB.out)⟩
    · rw [if_neg c4] at H
      exact absurd H (by simp)
  · rw [if_neg c3] at H
    exact absurd H (by simp)
set_option maxHeartbeats 8000000 in
set_option maxRecDepth 100000 in
theorem grilleref02_Chars.callsM (k : Nat) (a0 : ByteArray) (r1 : List Int) (r2 : Bool) (w : World) (h : grilleref02_Chars.f k a0 = some (r1, r2)) (hD : grilleref01_Detect.f k ([239, 187, 191] ++ bytesOf a0) = some (0, 3)) :
    Calls Tryd.prog 112 #[.string a0] w fun e w' => ∃ v0_ : Value, e = .returned (.tuple #[v0_, .bool r2]) ∧ Kd.R (Kd.int .i64) 3 w' w.heap.size (fun _ => True) v0_ r1 ∧ Below w.heap.size w w' := by
  have HB := Aside0.mk (Below.refl w.heap.size w)
  have HD := Aside0.mk hD
  clear hD
  have H : ((some (([239, 187, 191] : List Int) : List Int)).bind fun y211 => (if y211.length + a0.size < 140737488355328 then ((grilleref01_Runes.f k (y211 ++ bytesOf a0)).bind fun bt217 => (some (bt217.1, (bt217.2 == 0)))) else (none))) = some (r1, r2) := h
  clear h
  obtain ⟨y211, hy211⟩ : ∃ y_ : List Int, y_ = (([239, 187, 191] : List Int)) := ⟨_, rfl⟩
  replace H : (if y211.length + a0.size < 140737488355328 then ((grilleref01_Runes.f k (y211 ++ bytesOf a0)).bind fun bt217 => (some (bt217.1, (bt217.2 == 0)))) else (none)) = some (r1, r2) := by first | (rw [hy211]; with_reducible exact H) | (have H2_ := (Option.bind_some _ _).symm.trans H; rw [hy211]; with_reducible exact H2_) | (have H2_ := (Option.bind_some _ _).symm.trans H; with_reducible exact H2_) | with_reducible exact H | (rw [hy211]; exact H) | exact H
  have Ny211 := Aside0.mk hy211
  clear hy211
  by_cases c2 : y211.length + a0.size < 140737488355328
  · rw [if_pos c2] at H
    have LMc2 := Aside0.mk c2
    clear c2
    obtain ⟨y214, hy214⟩ : ∃ y_ : List Int, y_ = (y211 ++ bytesOf a0) := ⟨_, rfl⟩
    replace H : ((grilleref01_Runes.f k y214).bind fun bt217 => (some (bt217.1, (bt217.2 == 0)))) = some (r1, r2) := by first | (rw [hy214]; with_reducible exact H) | (have H2_ := (Option.bind_some _ _).symm.trans H; rw [hy214]; with_reducible exact H2_) | (have H2_ := (Option.bind_some _ _).symm.trans H; with_reducible exact H2_) | with_reducible exact H | (rw [hy214]; exact H) | exact H
    have Ny214 := Aside0.mk hy214
    clear hy214
    replace H := Option.bind_eq_some_iff.mp H
    obtain ⟨⟨t217, t218⟩, A30, H⟩ := H
    replace H : (some (t217, (t218 == 0))) = some (r1, r2) := H
    have A3 := Aside0.mk A30
    clear A30
    simp only [Option.some.injEq, Prod.mk.injEq] at H
    obtain ⟨rfl, rfl⟩ := H
    go_enter Tryd.func112, Tryd.ntmps112
    go_wp2_with (first | ((with_reducible refine gate_dst (N := 7) rfl ?_); refine Kd.R_lit (Kd.int .u8) _ 5 ?hg (N := 7) ?hd (xs := ([239, 187, 191] : List Int)) (inner := [.int .u8 239, .int .u8 187, .int .u8 191]) (ok := fun _ => True) (okp := fun _ => True) ?hr ?hp (fun _ hk => hk) trivial (Below.refl _ _) (Nat.le_refl _) (by simp) ?_; (case hd => rfl); (case hg => rfl); (case hr => first | (go_simp; done) | (go_simp; rfl)); (case hp => exact (Reps.one (show Kd.M (Kd.int .u8) _ _ _ 239 [.int .u8 239] from rfl) (Reps.one (show Kd.M (Kd.int .u8) _ _ _ 187 [.int .u8 187] from rfl) (Reps.one (show Kd.M (Kd.int .u8) _ _ _ 191 [.int .u8 191] from rfl) (Reps.none _ _))))); intro v212 w4 ho5 hb hg_ hnew_; clear hg_ hnew_; (first | rw [← Ny211.out] at ho5 | (simp only [Int.reduceToNat] at ho5; rw [← Ny211.out] at ho5)); have n0_ := Aside0.mk (Kd.R_lower ho5 (below_size (by repeat (first | (with_reducible first | exact HB.out | apply below_alloc | apply pw_below_drewN | apply below_drew1) | exact HB.out)))); have n1_ := Aside0.mk (below_step (by repeat (first | (with_reducible first | exact HB.out | apply below_alloc | apply pw_below_drewN | apply below_drew1) | exact HB.out)) hb); clear HB; have HO213 := n0_; have HB := n1_; clear n0_ n1_; clear hb ho5) | (at_builtin; refine print_append_str (w0 := w) w.heap.size rfl (.tmp 7) _ 147 9 5 rfl Tryd.underlying147 Tryd.underlying9 info5 v212 y211 a0 rfl rfl ?aO ?aB ?aS ?aL ?_; (case aB => exact (by repeat (first | (with_reducible first | exact HB.out | apply below_alloc | apply pw_below_drewN | apply below_drew1) | exact HB.out))); (case aO => exact (Kd.own_of_R (by (with_reducible repeat (first | apply Kd.R_alloc | apply Kd.R_drewN | apply Kd.R_drew)); exact HO213.out))); (case aS => exact (below_size (by repeat (first | (with_reducible first | exact HB.out | apply below_alloc | apply pw_below_drewN | apply below_drew1) | exact HB.out)))); (case aL => have := LMc2.out; omega); intro v215 w6 ho0 hb hg; have ho := Kd.R_of_own (h1 := fun _ => rfl) (ok := fun _ => True) ho0 (fun _ _ => trivial); clear ho0; have hat := True.intro; rw [← Ny214.out] at ho; change Kd.R (Kd.int .u8) 5 w6 w.heap.size (fun _ => True) v215 y214 at ho; have n0_ := Aside0.mk (hb); have n1_ := Aside0.mk (ho); clear HB; clear HO213; have HB := n0_; have HO216 := n1_; clear n0_ n1_; clear ho hb hg hat; obtain ⟨Ao7, co7, eo7⟩ := Kd.R_slice HO216.out; subst eo7) | ((with_reducible refine gate_callee (f := 133) rfl ?_); refine goesL_ (some 10) rfl rfl Tryd.func133 (by kernel_rfl) rfl #[.slice Ao7 y214.length co7] rfl (by (try simp only [List.map_toArray, List.map_cons, List.map_nil]); first | done | rfl | (simp only [List.length_drop, List.length_take]; rfl)) ?_; (with_reducible refine (grilleref01_Runes.callsM k _ _ y214 t217 t218 _ ?side1 ?side2 A3.out (by rw [Ny214.out, Ny211.out]; exact HD.out)).mono ?_); (case side1 => repeat (first | exact (Kd.R_reads' HO216.out).2.2 | (with_reducible refine Kd.C_alloc ?_ _) | (with_reducible refine Kd.C_drewN ?_ _) | (with_reducible refine Kd.C_drew ?_))); (case side2 => exact (Kd.R_reads' HO216.out).2.1); rintro e w8 ⟨v219, rfl, ho0, hb⟩; refine ⟨_, rfl, ?_⟩; have n0_ := Aside0.mk (Kd.R_below (by (with_reducible repeat (first | apply Kd.R_alloc | apply Kd.R_drewN | apply Kd.R_drew)); exact HO216.out) hb); have n1_ := Aside0.mk (Kd.R_lower ho0 (below_size (by repeat (first | (with_reducible first | exact HB.out | apply below_alloc | apply pw_below_drewN | apply below_drew1) | exact HB.out)))); have n2_ := Aside0.mk (below_step (by repeat (first | (with_reducible first | exact HB.out | apply below_alloc | apply pw_below_drewN | apply below_drew1) | exact HB.out)) hb); clear HO216; clear HB; have HO216 := n0_; have HO220 := n1_; have HB := n2_; clear n0_ n1_ n2_; (try clear hb); (try clear hb2); (try clear hk); (try clear hi); (try clear ho0)))
    go_ret2
    exact ⟨_, by first | rfl | (simp [errW_none, errW_some] <;> rfl) | (simp [*, errW_none, errW_some] <;> rfl), by (with_reducible repeat (first | apply Kd.R_alloc | apply Kd.R_drewN | apply Kd.R_drew)); exact HO220.out, by repeat (first | (with_reducible first | exact HB.out | apply below_alloc | apply pw_below_drewN | apply below_drew1) | exact HB.out)⟩
  · rw [if_neg c2] at H
    exact absurd H (by simp)
end Go.Proofs.YthgafcaoibfchaaDoor.Z
