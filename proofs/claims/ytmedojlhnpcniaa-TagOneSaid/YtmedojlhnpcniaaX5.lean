/- Printed by a program of ours (wip/tools) out of the translation: each function as a plain Lean function, and a proof that the call answers so. -/
import Derived.Test.YtmedojlhnpcniaaX0
import Derived.Test.YtmedojlhnpcniaaX1
import Derived.Test.YtmedojlhnpcniaaX3
import Derived.Test.YtmedojlhnpcniaaX4
namespace Go.Proofs.Ytmedojlhnpcniaa.X
open Go.RowKit Go.Proofs.YtmedojlhnpcniaaW.PrintWords Go.Proofs.YtmedojlhnpcniaaW.PrintLast Go.Proofs.YtmedojlhnpcniaaW.PrintMore
attribute [local go_sem] max2_int min2_int max_two min_two max_three min_three max_four min_four   -- for this text's walks alone
set_option linter.unusedVariables false
set_option linter.unusedSimpArgs false

/-! ### tag_Resolve: function 8 -/
def tag_Resolve.f (k : Nat) (a0 : ByteArray) : Option (ByteArray) := if a0.toList = ([] : List UInt8) then (some (⟨#[110, 117, 108, 108]⟩ : ByteArray)) else (if a0.toList = ([126] : List UInt8) then (some (⟨#[110, 117, 108, 108]⟩ : ByteArray)) else (if a0.toList = ([110, 117, 108, 108] : List UInt8) then (some (⟨#[110, 117, 108, 108]⟩ : ByteArray)) else (if a0.toList = ([78, 117, 108, 108] : List UInt8) then (some (⟨#[110, 117, 108, 108]⟩ : ByteArray)) else (if a0.toList = ([78, 85, 76, 76] : List UInt8) then (some (⟨#[110, 117, 108, 108]⟩ : ByteArray)) else (if a0.toList = ([116, 114, 117, 101] : List UInt8) then (some (⟨#[98, 111, 111, 108]⟩ : ByteArray)) else (if a0.toList = ([84, 114, 117, 101] : List UInt8) then (some (⟨#[98, 111, 111, 108]⟩ : ByteArray)) else (if a0.toList = ([84, 82, 85, 69] : List UInt8) then (some (⟨#[98, 111, 111, 108]⟩ : ByteArray)) else (if a0.toList = ([102, 97, 108, 115, 101] : List UInt8) then (some (⟨#[98, 111, 111, 108]⟩ : ByteArray)) else (if a0.toList = ([70, 97, 108, 115, 101] : List UInt8) then (some (⟨#[98, 111, 111, 108]⟩ : ByteArray)) else (if a0.toList = ([70, 65, 76, 83, 69] : List UInt8) then (some (⟨#[98, 111, 111, 108]⟩ : ByteArray)) else (if a0.toList = ([46, 110, 97, 110] : List UInt8) then (some (⟨#[102, 108, 111, 97, 116]⟩ : ByteArray)) else (if a0.toList = ([46, 78, 97, 78] : List UInt8) then (some (⟨#[102, 108, 111, 97, 116]⟩ : ByteArray)) else (if a0.toList = ([46, 78, 65, 78] : List UInt8) then (some (⟨#[102, 108, 111, 97, 116]⟩ : ByteArray)) else ((tag_sign.f a0).bind fun t126 => (if t126.toList = ([46, 105, 110, 102] : List UInt8) then (some (⟨#[102, 108, 111, 97, 116]⟩ : ByteArray)) else (if t126.toList = ([46, 73, 110, 102] : List UInt8) then (some (⟨#[102, 108, 111, 97, 116]⟩ : ByteArray)) else (if t126.toList = ([46, 73, 78, 70] : List UInt8) then (some (⟨#[102, 108, 111, 97, 116]⟩ : ByteArray)) else ((tag_whole.f k a0).bind fun t127 => (if t127 = true then (some (⟨#[105, 110, 116]⟩ : ByteArray)) else ((tag_real.f k a0).bind fun t128 => (if t128 = true then (some (⟨#[102, 108, 111, 97, 116]⟩ : ByteArray)) else (some (⟨#[115, 116, 114]⟩ : ByteArray)))))))))))))))))))))))
theorem tag_Resolve.mono : ∀ a0 k, LeO (tag_Resolve.f k a0) (tag_Resolve.f (k + 1) a0) := by
  intro a0 k
  unfold tag_Resolve.f
  repeat' first
      | (with_reducible exact tag_real.mono _ _)
      | (with_reducible exact tag_whole.mono _ _)
      | (with_reducible exact LeO.refl _)
      | (with_reducible exact LeO.none _)
      | (with_reducible refine LeO.ite ?_ ?_)
      | (with_reducible refine LeO.bind ?_ (fun _ => ?_))
      | exact tag_real.mono _ _
      | exact tag_whole.mono _ _
      | exact LeO.none _
      | refine LeO.ite ?_ ?_
      | refine LeO.bind ?_ (fun _ => ?_)
set_option maxHeartbeats 8000000 in
set_option maxRecDepth 100000 in
theorem tag_Resolve.calls (k : Nat) (a0 : ByteArray) (r : ByteArray) (w : World) (h : tag_Resolve.f k a0 = some r) :
    Calls Try.prog 8 #[.string a0] w fun e w' => e = .returned (.string r) ∧ Drawn0 w w' := by
  have H : (if a0.toList = ([] : List UInt8) then (some (⟨#[110, 117, 108, 108]⟩ : ByteArray)) else (if a0.toList = ([126] : List UInt8) then (some (⟨#[110, 117, 108, 108]⟩ : ByteArray)) else (if a0.toList = ([110, 117, 108, 108] : List UInt8) then (some (⟨#[110, 117, 108, 108]⟩ : ByteArray)) else (if a0.toList = ([78, 117, 108, 108] : List UInt8) then (some (⟨#[110, 117, 108, 108]⟩ : ByteArray)) else (if a0.toList = ([78, 85, 76, 76] : List UInt8) then (some (⟨#[110, 117, 108, 108]⟩ : ByteArray)) else (if a0.toList = ([116, 114, 117, 101] : List UInt8) then (some (⟨#[98, 111, 111, 108]⟩ : ByteArray)) else (if a0.toList = ([84, 114, 117, 101] : List UInt8) then (some (⟨#[98, 111, 111, 108]⟩ : ByteArray)) else (if a0.toList = ([84, 82, 85, 69] : List UInt8) then (some (⟨#[98, 111, 111, 108]⟩ : ByteArray)) else (if a0.toList = ([102, 97, 108, 115, 101] : List UInt8) then (some (⟨#[98, 111, 111, 108]⟩ : ByteArray)) else (if a0.toList = ([70, 97, 108, 115, 101] : List UInt8) then (some (⟨#[98, 111, 111, 108]⟩ : ByteArray)) else (if a0.toList = ([70, 65, 76, 83, 69] : List UInt8) then (some (⟨#[98, 111, 111, 108]⟩ : ByteArray)) else (if a0.toList = ([46, 110, 97, 110] : List UInt8) then (some (⟨#[102, 108, 111, 97, 116]⟩ : ByteArray)) else (if a0.toList = ([46, 78, 97, 78] : List UInt8) then (some (⟨#[102, 108, 111, 97, 116]⟩ : ByteArray)) else (if a0.toList = ([46, 78, 65, 78] : List UInt8) then (some (⟨#[102, 108, 111, 97, 116]⟩ : ByteArray)) else ((tag_sign.f a0).bind fun t126 => (if t126.toList = ([46, 105, 110, 102] : List UInt8) then (some (⟨#[102, 108, 111, 97, 116]⟩ : ByteArray)) else (if t126.toList = ([46, 73, 110, 102] : List UInt8) then (some (⟨#[102, 108, 111, 97, 116]⟩ : ByteArray)) else (if t126.toList = ([46, 73, 78, 70] : List UInt8) then (some (⟨#[102, 108, 111, 97, 116]⟩ : ByteArray)) else ((tag_whole.f k a0).bind fun t127 => (if t127 = true then (some (⟨#[105, 110, 116]⟩ : ByteArray)) else ((tag_real.f k a0).bind fun t128 => (if t128 = true then (some (⟨#[102, 108, 111, 97, 116]⟩ : ByteArray)) else (some (⟨#[115, 116, 114]⟩ : ByteArray)))))))))))))))))))))))) = some r := h
  clear h
  by_cases c2 : a0.toList = ([] : List UInt8)
  · rw [if_pos c2] at H
    have c2b0 : (a0.toList == ([] : List UInt8)) = true := beq_iff_eq.mpr c2
    have c2b1 : (a0.toList != ([] : List UInt8)) = false := bne_eq_false_iff_eq.mpr c2
    clear c2
    obtain rfl := Option.some.inj H
    go_enter Try.func8, Try.ntmps8
    go_wp2
    go_ret
    exact ⟨by first | rfl | (simp; done) | (simp [*]; done) | (simp [xbne_nil, xbeq_nil]; done), by repeat (first | exact Drawn0.refl _ | apply Drawn0.step)⟩
  · rw [if_neg c2] at H
    have c2b0 : (a0.toList == ([] : List UInt8)) = false := beq_eq_false_iff_ne.mpr c2
    have c2b1 : (a0.toList != ([] : List UInt8)) = true := bne_iff_ne.mpr c2
    by_cases c3 : a0.toList = ([126] : List UInt8)
    · rw [if_pos c3] at H
      have c3b0 : (a0.toList == ([126] : List UInt8)) = true := beq_iff_eq.mpr c3
      have c3b1 : (a0.toList != ([126] : List UInt8)) = false := bne_eq_false_iff_eq.mpr c3
      clear c3
      obtain rfl := Option.some.inj H
      go_enter Try.func8, Try.ntmps8
      go_wp2
      go_ret
      exact ⟨by first | rfl | (simp; done) | (simp [*]; done) | (simp [xbne_nil, xbeq_nil]; done), by repeat (first | exact Drawn0.refl _ | apply Drawn0.step)⟩
    · rw [if_neg c3] at H
      have c3b0 : (a0.toList == ([126] : List UInt8)) = false := beq_eq_false_iff_ne.mpr c3
      have c3b1 : (a0.toList != ([126] : List UInt8)) = true := bne_iff_ne.mpr c3
      by_cases c4 : a0.toList = ([110, 117, 108, 108] : List UInt8)
      · rw [if_pos c4] at H
        have c4b0 : (a0.toList == ([110, 117, 108, 108] : List UInt8)) = true := beq_iff_eq.mpr c4
        have c4b1 : (a0.toList != ([110, 117, 108, 108] : List UInt8)) = false := bne_eq_false_iff_eq.mpr c4
        clear c4
        obtain rfl := Option.some.inj H
        go_enter Try.func8, Try.ntmps8
        go_wp2
        go_ret
        exact ⟨by first | rfl | (simp; done) | (simp [*]; done) | (simp [xbne_nil, xbeq_nil]; done), by repeat (first | exact Drawn0.refl _ | apply Drawn0.step)⟩
      · rw [if_neg c4] at H
        have c4b0 : (a0.toList == ([110, 117, 108, 108] : List UInt8)) = false := beq_eq_false_iff_ne.mpr c4
        have c4b1 : (a0.toList != ([110, 117, 108, 108] : List UInt8)) = true := bne_iff_ne.mpr c4
        by_cases c5 : a0.toList = ([78, 117, 108, 108] : List UInt8)
        · rw [if_pos c5] at H
          have c5b0 : (a0.toList == ([78, 117, 108, 108] : List UInt8)) = true := beq_iff_eq.mpr c5
          have c5b1 : (a0.toList != ([78, 117, 108, 108] : List UInt8)) = false := bne_eq_false_iff_eq.mpr c5
          clear c5
          obtain rfl := Option.some.inj H
          go_enter Try.func8, Try.ntmps8
          go_wp2
          go_ret
          exact ⟨by first | rfl | (simp; done) | (simp [*]; done) | (simp [xbne_nil, xbeq_nil]; done), by repeat (first | exact Drawn0.refl _ | apply Drawn0.step)⟩
        · rw [if_neg c5] at H
          have c5b0 : (a0.toList == ([78, 117, 108, 108] : List UInt8)) = false := beq_eq_false_iff_ne.mpr c5
          have c5b1 : (a0.toList != ([78, 117, 108, 108] : List UInt8)) = true := bne_iff_ne.mpr c5
          by_cases c6 : a0.toList = ([78, 85, 76, 76] : List UInt8)
          · rw [if_pos c6] at H
            have c6b0 : (a0.toList == ([78, 85, 76, 76] : List UInt8)) = true := beq_iff_eq.mpr c6
            have c6b1 : (a0.toList != ([78, 85, 76, 76] : List UInt8)) = false := bne_eq_false_iff_eq.mpr c6
            clear c6
            obtain rfl := Option.some.inj H
            go_enter Try.func8, Try.ntmps8
            go_wp2
            go_ret
            exact ⟨by first | rfl | (simp; done) | (simp [*]; done) | (simp [xbne_nil, xbeq_nil]; done), by repeat (first | exact Drawn0.refl _ | apply Drawn0.step)⟩
          · rw [if_neg c6] at H
            have c6b0 : (a0.toList == ([78, 85, 76, 76] : List UInt8)) = false := beq_eq_false_iff_ne.mpr c6
            have c6b1 : (a0.toList != ([78, 85, 76, 76] : List UInt8)) = true := bne_iff_ne.mpr c6
            by_cases c7 : a0.toList = ([116, 114, 117, 101] : List UInt8)
            · rw [if_pos c7] at H
              have c7b0 : (a0.toList == ([116, 114, 117, 101] : List UInt8)) = true := beq_iff_eq.mpr c7
              have c7b1 : (a0.toList != ([116, 114, 117, 101] : List UInt8)) = false := bne_eq_false_iff_eq.mpr c7
              clear c7
              obtain rfl := Option.some.inj H
              go_enter Try.func8, Try.ntmps8
              go_wp2
              go_ret
              exact ⟨by first | rfl | (simp; done) | (simp [*]; done) | (simp [xbne_nil, xbeq_nil]; done), by repeat (first | exact Drawn0.refl _ | apply Drawn0.step)⟩
            · rw [if_neg c7] at H
              have c7b0 : (a0.toList == ([116, 114, 117, 101] : List UInt8)) = false := beq_eq_false_iff_ne.mpr c7
              have c7b1 : (a0.toList != ([116, 114, 117, 101] : List UInt8)) = true := bne_iff_ne.mpr c7
              by_cases c8 : a0.toList = ([84, 114, 117, 101] : List UInt8)
              · rw [if_pos c8] at H
                have c8b0 : (a0.toList == ([84, 114, 117, 101] : List UInt8)) = true := beq_iff_eq.mpr c8
                have c8b1 : (a0.toList != ([84, 114, 117, 101] : List UInt8)) = false := bne_eq_false_iff_eq.mpr c8
                clear c8
                obtain rfl := Option.some.inj H
                go_enter Try.func8, Try.ntmps8
                go_wp2
                go_ret
                exact ⟨by first | rfl | (simp; done) | (simp [*]; done) | (simp [xbne_nil, xbeq_nil]; done), by repeat (first | exact Drawn0.refl _ | apply Drawn0.step)⟩
              · rw [if_neg c8] at H
                have c8b0 : (a0.toList == ([84, 114, 117, 101] : List UInt8)) = false := beq_eq_false_iff_ne.mpr c8
                have c8b1 : (a0.toList != ([84, 114, 117, 101] : List UInt8)) = true := bne_iff_ne.mpr c8
                by_cases c9 : a0.toList = ([84, 82, 85, 69] : List UInt8)
                · rw [if_pos c9] at H
                  have c9b0 : (a0.toList == ([84, 82, 85, 69] : List UInt8)) = true := beq_iff_eq.mpr c9
                  have c9b1 : (a0.toList != ([84, 82, 85, 69] : List UInt8)) = false := bne_eq_false_iff_eq.mpr c9
                  clear c9
                  obtain rfl := Option.some.inj H
                  go_enter Try.func8, Try.ntmps8
                  go_wp2
                  go_ret
                  exact ⟨by first | rfl | (simp; done) | (simp [*]; done) | (simp [xbne_nil, xbeq_nil]; done), by repeat (first | exact Drawn0.refl _ | apply Drawn0.step)⟩
                · rw [if_neg c9] at H
                  have c9b0 : (a0.toList == ([84, 82, 85, 69] : List UInt8)) = false := beq_eq_false_iff_ne.mpr c9
                  have c9b1 : (a0.toList != ([84, 82, 85, 69] : List UInt8)) = true := bne_iff_ne.mpr c9
                  by_cases c10 : a0.toList = ([102, 97, 108, 115, 101] : List UInt8)
                  · rw [if_pos c10] at H
                    have c10b0 : (a0.toList == ([102, 97, 108, 115, 101] : List UInt8)) = true := beq_iff_eq.mpr c10
                    have c10b1 : (a0.toList != ([102, 97, 108, 115, 101] : List UInt8)) = false := bne_eq_false_iff_eq.mpr c10
                    clear c10
                    obtain rfl := Option.some.inj H
                    go_enter Try.func8, Try.ntmps8
                    go_wp2
                    go_ret
                    exact ⟨by first | rfl | (simp; done) | (simp [*]; done) | (simp [xbne_nil, xbeq_nil]; done), by repeat (first | exact Drawn0.refl _ | apply Drawn0.step)⟩
                  · rw [if_neg c10] at H
                    have c10b0 : (a0.toList == ([102, 97, 108, 115, 101] : List UInt8)) = false := beq_eq_false_iff_ne.mpr c10
                    have c10b1 : (a0.toList != ([102, 97, 108, 115, 101] : List UInt8)) = true := bne_iff_ne.mpr c10
                    by_cases c11 : a0.toList = ([70, 97, 108, 115, 101] : List UInt8)
                    · rw [if_pos c11] at H
                      have c11b0 : (a0.toList == ([70, 97, 108, 115, 101] : List UInt8)) = true := beq_iff_eq.mpr c11
                      have c11b1 : (a0.toList != ([70, 97, 108, 115, 101] : List UInt8)) = false := bne_eq_false_iff_eq.mpr c11
                      clear c11
                      obtain rfl := Option.some.inj H
                      go_enter Try.func8, Try.ntmps8
                      go_wp2
                      go_ret
                      exact ⟨by first | rfl | (simp; done) | (simp [*]; done) | (simp [xbne_nil, xbeq_nil]; done), by repeat (first | exact Drawn0.refl _ | apply Drawn0.step)⟩
                    · rw [if_neg c11] at H
                      have c11b0 : (a0.toList == ([70, 97, 108, 115, 101] : List UInt8)) = false := beq_eq_false_iff_ne.mpr c11
                      have c11b1 : (a0.toList != ([70, 97, 108, 115, 101] : List UInt8)) = true := bne_iff_ne.mpr c11
                      by_cases c12 : a0.toList = ([70, 65, 76, 83, 69] : List UInt8)
                      · rw [if_pos c12] at H
                        have c12b0 : (a0.toList == ([70, 65, 76, 83, 69] : List UInt8)) = true := beq_iff_eq.mpr c12
                        have c12b1 : (a0.toList != ([70, 65, 76, 83, 69] : List UInt8)) = false := bne_eq_false_iff_eq.mpr c12
                        clear c12
                        obtain rfl := Option.some.inj H
                        go_enter Try.func8, Try.ntmps8
                        go_wp2
                        go_ret
                        exact ⟨by first | rfl | (simp; done) | (simp [*]; done) | (simp [xbne_nil, xbeq_nil]; done), by repeat (first | exact Drawn0.refl _ | apply Drawn0.step)⟩
                      · rw [if_neg c12] at H
                        have c12b0 : (a0.toList == ([70, 65, 76, 83, 69] : List UInt8)) = false := beq_eq_false_iff_ne.mpr c12
                        have c12b1 : (a0.toList != ([70, 65, 76, 83, 69] : List UInt8)) = true := bne_iff_ne.mpr c12
                        by_cases c13 : a0.toList = ([46, 110, 97, 110] : List UInt8)
                        · rw [if_pos c13] at H
                          have c13b0 : (a0.toList == ([46, 110, 97, 110] : List UInt8)) = true := beq_iff_eq.mpr c13
                          have c13b1 : (a0.toList != ([46, 110, 97, 110] : List UInt8)) = false := bne_eq_false_iff_eq.mpr c13
                          clear c13
                          obtain rfl := Option.some.inj H
                          go_enter Try.func8, Try.ntmps8
                          go_wp2
                          go_ret
                          exact ⟨by first | rfl | (simp; done) | (simp [*]; done) | (simp [xbne_nil, xbeq_nil]; done), by repeat (first | exact Drawn0.refl _ | apply Drawn0.step)⟩
                        · rw [if_neg c13] at H
                          have c13b0 : (a0.toList == ([46, 110, 97, 110] : List UInt8)) = false := beq_eq_false_iff_ne.mpr c13
                          have c13b1 : (a0.toList != ([46, 110, 97, 110] : List UInt8)) = true := bne_iff_ne.mpr c13
                          by_cases c14 : a0.toList = ([46, 78, 97, 78] : List UInt8)
                          · rw [if_pos c14] at H
                            have c14b0 : (a0.toList == ([46, 78, 97, 78] : List UInt8)) = true := beq_iff_eq.mpr c14
                            have c14b1 : (a0.toList != ([46, 78, 97, 78] : List UInt8)) = false := bne_eq_false_iff_eq.mpr c14
                            clear c14
                            obtain rfl := Option.some.inj H
                            go_enter Try.func8, Try.ntmps8
                            go_wp2
                            go_ret
                            exact ⟨by first | rfl | (simp; done) | (simp [*]; done) | (simp [xbne_nil, xbeq_nil]; done), by repeat (first | exact Drawn0.refl _ | apply Drawn0.step)⟩
                          · rw [if_neg c14] at H
                            have c14b0 : (a0.toList == ([46, 78, 97, 78] : List UInt8)) = false := beq_eq_false_iff_ne.mpr c14
                            have c14b1 : (a0.toList != ([46, 78, 97, 78] : List UInt8)) = true := bne_iff_ne.mpr c14
                            by_cases c15 : a0.toList = ([46, 78, 65, 78] : List UInt8)
                            · rw [if_pos c15] at H
                              have c15b0 : (a0.toList == ([46, 78, 65, 78] : List UInt8)) = true := beq_iff_eq.mpr c15
                              have c15b1 : (a0.toList != ([46, 78, 65, 78] : List UInt8)) = false := bne_eq_false_iff_eq.mpr c15
                              clear c15
                              obtain rfl := Option.some.inj H
                              go_enter Try.func8, Try.ntmps8
                              go_wp2
                              go_ret
                              exact ⟨by first | rfl | (simp; done) | (simp [*]; done) | (simp [xbne_nil, xbeq_nil]; done), by repeat (first | exact Drawn0.refl _ | apply Drawn0.step)⟩
                            · rw [if_neg c15] at H
                              have c15b0 : (a0.toList == ([46, 78, 65, 78] : List UInt8)) = false := beq_eq_false_iff_ne.mpr c15
                              have c15b1 : (a0.toList != ([46, 78, 65, 78] : List UInt8)) = true := bne_iff_ne.mpr c15
                              replace H := Option.bind_eq_some_iff.mp H
                              obtain ⟨t126, A160, H⟩ := H
                              replace H : (if t126.toList = ([46, 105, 110, 102] : List UInt8) then (some (⟨#[102, 108, 111, 97, 116]⟩ : ByteArray)) else (if t126.toList = ([46, 73, 110, 102] : List UInt8) then (some (⟨#[102, 108, 111, 97, 116]⟩ : ByteArray)) else (if t126.toList = ([46, 73, 78, 70] : List UInt8) then (some (⟨#[102, 108, 111, 97, 116]⟩ : ByteArray)) else ((tag_whole.f k a0).bind fun t127 => (if t127 = true then (some (⟨#[105, 110, 116]⟩ : ByteArray)) else ((tag_real.f k a0).bind fun t128 => (if t128 = true then (some (⟨#[102, 108, 111, 97, 116]⟩ : ByteArray)) else (some (⟨#[115, 116, 114]⟩ : ByteArray))))))))) = some r := H
                              have A16 := Aside0.mk A160
                              clear A160
                              by_cases c17 : t126.toList = ([46, 105, 110, 102] : List UInt8)
                              · rw [if_pos c17] at H
                                have c17b0 : (t126.toList == ([46, 105, 110, 102] : List UInt8)) = true := beq_iff_eq.mpr c17
                                have c17b1 : (t126.toList != ([46, 105, 110, 102] : List UInt8)) = false := bne_eq_false_iff_eq.mpr c17
                                clear c17
                                obtain rfl := Option.some.inj H
                                go_enter Try.func8, Try.ntmps8
                                go_wp2_with (first | ((with_reducible refine gate_callee (f := 20) rfl ?_); refine goesL_ (some 22) rfl rfl Try.func20 (by kernel_rfl) rfl #[.string a0] rfl (by (try simp only [List.map_toArray, List.map_cons, List.map_nil]); first | done | rfl | (simp only [List.length_drop, List.length_take]; rfl)) ?_; (with_reducible refine (tag_sign.calls a0 t126 _ A16.out).mono ?_); rintro e w' ⟨rfl, ⟨nd, rfl⟩⟩; refine ⟨_, rfl, ?_⟩))
                                go_ret
                                exact ⟨by first | rfl | (simp; done) | (simp [*]; done) | (simp [xbne_nil, xbeq_nil]; done), by repeat (first | exact Drawn0.refl _ | apply Drawn0.step)⟩
                              · rw [if_neg c17] at H
                                have c17b0 : (t126.toList == ([46, 105, 110, 102] : List UInt8)) = false := beq_eq_false_iff_ne.mpr c17
                                have c17b1 : (t126.toList != ([46, 105, 110, 102] : List UInt8)) = true := bne_iff_ne.mpr c17
                                by_cases c18 : t126.toList = ([46, 73, 110, 102] : List UInt8)
                                · rw [if_pos c18] at H
                                  have c18b0 : (t126.toList == ([46, 73, 110, 102] : List UInt8)) = true := beq_iff_eq.mpr c18
                                  have c18b1 : (t126.toList != ([46, 73, 110, 102] : List UInt8)) = false := bne_eq_false_iff_eq.mpr c18
                                  clear c18
                                  obtain rfl := Option.some.inj H
                                  go_enter Try.func8, Try.ntmps8
                                  go_wp2_with (first | ((with_reducible refine gate_callee (f := 20) rfl ?_); refine goesL_ (some 22) rfl rfl Try.func20 (by kernel_rfl) rfl #[.string a0] rfl (by (try simp only [List.map_toArray, List.map_cons, List.map_nil]); first | done | rfl | (simp only [List.length_drop, List.length_take]; rfl)) ?_; (with_reducible refine (tag_sign.calls a0 t126 _ A16.out).mono ?_); rintro e w' ⟨rfl, ⟨nd, rfl⟩⟩; refine ⟨_, rfl, ?_⟩))
                                  go_ret
                                  exact ⟨by first | rfl | (simp; done) | (simp [*]; done) | (simp [xbne_nil, xbeq_nil]; done), by repeat (first | exact Drawn0.refl _ | apply Drawn0.step)⟩
                                · rw [if_neg c18] at H
                                  have c18b0 : (t126.toList == ([46, 73, 110, 102] : List UInt8)) = false := beq_eq_false_iff_ne.mpr c18
                                  have c18b1 : (t126.toList != ([46, 73, 110, 102] : List UInt8)) = true := bne_iff_ne.mpr c18
                                  by_cases c19 : t126.toList = ([46, 73, 78, 70] : List UInt8)
                                  · rw [if_pos c19] at H
                                    have c19b0 : (t126.toList == ([46, 73, 78, 70] : List UInt8)) = true := beq_iff_eq.mpr c19
                                    have c19b1 : (t126.toList != ([46, 73, 78, 70] : List UInt8)) = false := bne_eq_false_iff_eq.mpr c19
                                    clear c19
                                    obtain rfl := Option.some.inj H
                                    go_enter Try.func8, Try.ntmps8
                                    go_wp2_with (first | ((with_reducible refine gate_callee (f := 20) rfl ?_); refine goesL_ (some 22) rfl rfl Try.func20 (by kernel_rfl) rfl #[.string a0] rfl (by (try simp only [List.map_toArray, List.map_cons, List.map_nil]); first | done | rfl | (simp only [List.length_drop, List.length_take]; rfl)) ?_; (with_reducible refine (tag_sign.calls a0 t126 _ A16.out).mono ?_); rintro e w' ⟨rfl, ⟨nd, rfl⟩⟩; refine ⟨_, rfl, ?_⟩))
                                    go_ret
                                    exact ⟨by first | rfl | (simp; done) | (simp [*]; done) | (simp [xbne_nil, xbeq_nil]; done), by repeat (first | exact Drawn0.refl _ | apply Drawn0.step)⟩
                                  · rw [if_neg c19] at H
                                    have c19b0 : (t126.toList == ([46, 73, 78, 70] : List UInt8)) = false := beq_eq_false_iff_ne.mpr c19
                                    have c19b1 : (t126.toList != ([46, 73, 78, 70] : List UInt8)) = true := bne_iff_ne.mpr c19
                                    replace H := Option.bind_eq_some_iff.mp H
                                    obtain ⟨t127, A200, H⟩ := H
                                    replace H : (if t127 = true then (some (⟨#[105, 110, 116]⟩ : ByteArray)) else ((tag_real.f k a0).bind fun t128 => (if t128 = true then (some (⟨#[102, 108, 111, 97, 116]⟩ : ByteArray)) else (some (⟨#[115, 116, 114]⟩ : ByteArray))))) = some r := H
                                    have A20 := Aside0.mk A200
                                    clear A200
                                    by_cases c21 : t127 = true
                                    · subst c21
                                      have H1 : (some (⟨#[105, 110, 116]⟩ : ByteArray)) = some r := by rw [if_pos rfl] at H; exact H
                                      clear H
                                      have H := H1
                                      clear H1
                                      obtain rfl := Option.some.inj H
                                      go_enter Try.func8, Try.ntmps8
                                      go_wp2_with (first | ((with_reducible refine gate_callee (f := 20) rfl ?_); refine goesL_ (some 22) rfl rfl Try.func20 (by kernel_rfl) rfl #[.string a0] rfl (by (try simp only [List.map_toArray, List.map_cons, List.map_nil]); first | done | rfl | (simp only [List.length_drop, List.length_take]; rfl)) ?_; (with_reducible refine (tag_sign.calls a0 t126 _ A16.out).mono ?_); rintro e w' ⟨rfl, ⟨nd, rfl⟩⟩; refine ⟨_, rfl, ?_⟩) | ((with_reducible refine gate_callee (f := 21) rfl ?_); refine goesL_ (some 29) rfl rfl Try.func21 (by kernel_rfl) rfl #[.string a0] rfl (by (try simp only [List.map_toArray, List.map_cons, List.map_nil]); first | done | rfl | (simp only [List.length_drop, List.length_take]; rfl)) ?_; (with_reducible refine (tag_whole.calls k a0 true _ A20.out).mono ?_); rintro e w' ⟨rfl, ⟨nd, rfl⟩⟩; refine ⟨_, rfl, ?_⟩))
                                      go_ret
                                      exact ⟨by first | rfl | (simp; done) | (simp [*]; done) | (simp [xbne_nil, xbeq_nil]; done), by repeat (first | exact Drawn0.refl _ | apply Drawn0.step)⟩
                                    · replace c21 := Bool.eq_false_iff.mpr c21
                                      subst c21
                                      have H1 : ((tag_real.f k a0).bind fun t128 => (if t128 = true then (some (⟨#[102, 108, 111, 97, 116]⟩ : ByteArray)) else (some (⟨#[115, 116, 114]⟩ : ByteArray)))) = some r := by rw [if_neg (show ¬ (false = true) by decide)] at H; exact H
                                      clear H
                                      have H := H1
                                      clear H1
                                      replace H := Option.bind_eq_some_iff.mp H
                                      obtain ⟨t128, A220, H⟩ := H
                                      replace H : (if t128 = true then (some (⟨#[102, 108, 111, 97, 116]⟩ : ByteArray)) else (some (⟨#[115, 116, 114]⟩ : ByteArray))) = some r := H
                                      have A22 := Aside0.mk A220
                                      clear A220
                                      by_cases c23 : t128 = true
                                      · subst c23
                                        have H1 : (some (⟨#[102, 108, 111, 97, 116]⟩ : ByteArray)) = some r := by rw [if_pos rfl] at H; exact H
                                        clear H
                                        have H := H1
                                        clear H1
                                        obtain rfl := Option.some.inj H
                                        go_enter Try.func8, Try.ntmps8
                                        go_wp2_with (first | ((with_reducible refine gate_callee (f := 20) rfl ?_); refine goesL_ (some 22) rfl rfl Try.func20 (by kernel_rfl) rfl #[.string a0] rfl (by (try simp only [List.map_toArray, List.map_cons, List.map_nil]); first | done | rfl | (simp only [List.length_drop, List.length_take]; rfl)) ?_; (with_reducible refine (tag_sign.calls a0 t126 _ A16.out).mono ?_); rintro e w' ⟨rfl, ⟨nd, rfl⟩⟩; refine ⟨_, rfl, ?_⟩) | ((with_reducible refine gate_callee (f := 21) rfl ?_); refine goesL_ (some 29) rfl rfl Try.func21 (by kernel_rfl) rfl #[.string a0] rfl (by (try simp only [List.map_toArray, List.map_cons, List.map_nil]); first | done | rfl | (simp only [List.length_drop, List.length_take]; rfl)) ?_; (with_reducible refine (tag_whole.calls k a0 false _ A20.out).mono ?_); rintro e w' ⟨rfl, ⟨nd, rfl⟩⟩; refine ⟨_, rfl, ?_⟩) | ((with_reducible refine gate_callee (f := 22) rfl ?_); refine goesL_ (some 32) rfl rfl Try.func22 (by kernel_rfl) rfl #[.string a0] rfl (by (try simp only [List.map_toArray, List.map_cons, List.map_nil]); first | done | rfl | (simp only [List.length_drop, List.length_take]; rfl)) ?_; (with_reducible refine (tag_real.calls k a0 true _ A22.out).mono ?_); rintro e w' ⟨rfl, ⟨nd, rfl⟩⟩; refine ⟨_, rfl, ?_⟩))
                                        go_ret
                                        exact ⟨by first | rfl | (simp; done) | (simp [*]; done) | (simp [xbne_nil, xbeq_nil]; done), by repeat (first | exact Drawn0.refl _ | apply Drawn0.step)⟩
                                      · replace c23 := Bool.eq_false_iff.mpr c23
                                        subst c23
                                        have H1 : (some (⟨#[115, 116, 114]⟩ : ByteArray)) = some r := by rw [if_neg (show ¬ (false = true) by decide)] at H; exact H
                                        clear H
                                        have H := H1
                                        clear H1
                                        obtain rfl := Option.some.inj H
                                        go_enter Try.func8, Try.ntmps8
                                        go_wp2_with (first | ((with_reducible refine gate_callee (f := 20) rfl ?_); refine goesL_ (some 22) rfl rfl Try.func20 (by kernel_rfl) rfl #[.string a0] rfl (by (try simp only [List.map_toArray, List.map_cons, List.map_nil]); first | done | rfl | (simp only [List.length_drop, List.length_take]; rfl)) ?_; (with_reducible refine (tag_sign.calls a0 t126 _ A16.out).mono ?_); rintro e w' ⟨rfl, ⟨nd, rfl⟩⟩; refine ⟨_, rfl, ?_⟩) | ((with_reducible refine gate_callee (f := 21) rfl ?_); refine goesL_ (some 29) rfl rfl Try.func21 (by kernel_rfl) rfl #[.string a0] rfl (by (try simp only [List.map_toArray, List.map_cons, List.map_nil]); first | done | rfl | (simp only [List.length_drop, List.length_take]; rfl)) ?_; (with_reducible refine (tag_whole.calls k a0 false _ A20.out).mono ?_); rintro e w' ⟨rfl, ⟨nd, rfl⟩⟩; refine ⟨_, rfl, ?_⟩) | ((with_reducible refine gate_callee (f := 22) rfl ?_); refine goesL_ (some 32) rfl rfl Try.func22 (by kernel_rfl) rfl #[.string a0] rfl (by (try simp only [List.map_toArray, List.map_cons, List.map_nil]); first | done | rfl | (simp only [List.length_drop, List.length_take]; rfl)) ?_; (with_reducible refine (tag_real.calls k a0 false _ A22.out).mono ?_); rintro e w' ⟨rfl, ⟨nd, rfl⟩⟩; refine ⟨_, rfl, ?_⟩))
                                        go_ret
                                        exact ⟨by first | rfl | (simp; done) | (simp [*]; done) | (simp [xbne_nil, xbeq_nil]; done), by repeat (first | exact Drawn0.refl _ | apply Drawn0.step)⟩

/-! ### tag_plain: function 26 -/
def tag_plain.f (a0 : ByteArray) : Option (Bool) := if a0.toList = ([110, 117, 108, 108] : List UInt8) then (some true) else (if a0.toList = ([98, 111, 111, 108] : List UInt8) then (some true) else (if a0.toList = ([105, 110, 116] : List UInt8) then (some true) else (some (a0.toList == ([102, 108, 111, 97, 116] : List UInt8)))))
set_option maxHeartbeats 8000000 in
set_option maxRecDepth 100000 in
theorem tag_plain.calls (a0 : ByteArray) (r : Bool) (w : World) (h : tag_plain.f a0 = some r) :
    Calls Try.prog 26 #[.string a0] w fun e w' => e = .returned (.bool r) ∧ Drawn0 w w' := by
  have H : (if a0.toList = ([110, 117, 108, 108] : List UInt8) then (some true) else (if a0.toList = ([98, 111, 111, 108] : List UInt8) then (some true) else (if a0.toList = ([105, 110, 116] : List UInt8) then (some true) else (some (a0.toList == ([102, 108, 111, 97, 116] : List UInt8)))))) = some r := h
  clear h
  by_cases c2 : a0.toList = ([110, 117, 108, 108] : List UInt8)
  · rw [if_pos c2] at H
    have c2b0 : (a0.toList == ([110, 117, 108, 108] : List UInt8)) = true := beq_iff_eq.mpr c2
    have c2b1 : (a0.toList != ([110, 117, 108, 108] : List UInt8)) = false := bne_eq_false_iff_eq.mpr c2
    clear c2
    obtain rfl := Option.some.inj H
    go_enter Try.func26, Try.ntmps26
    go_wp2
    go_ret
    exact ⟨by first | rfl | (simp; done) | (simp [*]; done) | (simp [xbne_nil, xbeq_nil]; done), by repeat (first | exact Drawn0.refl _ | apply Drawn0.step)⟩
  · rw [if_neg c2] at H
    have c2b0 : (a0.toList == ([110, 117, 108, 108] : List UInt8)) = false := beq_eq_false_iff_ne.mpr c2
    have c2b1 : (a0.toList != ([110, 117, 108, 108] : List UInt8)) = true := bne_iff_ne.mpr c2
    by_cases c3 : a0.toList = ([98, 111, 111, 108] : List UInt8)
    · rw [if_pos c3] at H
      have c3b0 : (a0.toList == ([98, 111, 111, 108] : List UInt8)) = true := beq_iff_eq.mpr c3
      have c3b1 : (a0.toList != ([98, 111, 111, 108] : List UInt8)) = false := bne_eq_false_iff_eq.mpr c3
      clear c3
      obtain rfl := Option.some.inj H
      go_enter Try.func26, Try.ntmps26
      go_wp2
      go_ret
      exact ⟨by first | rfl | (simp; done) | (simp [*]; done) | (simp [xbne_nil, xbeq_nil]; done), by repeat (first | exact Drawn0.refl _ | apply Drawn0.step)⟩
    · rw [if_neg c3] at H
      have c3b0 : (a0.toList == ([98, 111, 111, 108] : List UInt8)) = false := beq_eq_false_iff_ne.mpr c3
      have c3b1 : (a0.toList != ([98, 111, 111, 108] : List UInt8)) = true := bne_iff_ne.mpr c3
      by_cases c4 : a0.toList = ([105, 110, 116] : List UInt8)
      · rw [if_pos c4] at H
        have c4b0 : (a0.toList == ([105, 110, 116] : List UInt8)) = true := beq_iff_eq.mpr c4
        have c4b1 : (a0.toList != ([105, 110, 116] : List UInt8)) = false := bne_eq_false_iff_eq.mpr c4
        clear c4
        obtain rfl := Option.some.inj H
        go_enter Try.func26, Try.ntmps26
        go_wp2
        go_ret
        exact ⟨by first | rfl | (simp; done) | (simp [*]; done) | (simp [xbne_nil, xbeq_nil]; done), by repeat (first | exact Drawn0.refl _ | apply Drawn0.step)⟩
      · rw [if_neg c4] at H
        have c4b0 : (a0.toList == ([105, 110, 116] : List UInt8)) = false := beq_eq_false_iff_ne.mpr c4
        have c4b1 : (a0.toList != ([105, 110, 116] : List UInt8)) = true := bne_iff_ne.mpr c4
        obtain rfl := Option.some.inj H
        go_enter Try.func26, Try.ntmps26
        go_wp2
        go_ret
        exact ⟨by first | rfl | (simp; done) | (simp [*]; done) | (simp [xbne_nil, xbeq_nil]; done), by repeat (first | exact Drawn0.refl _ | apply Drawn0.step)⟩

end Go.Proofs.Ytmedojlhnpcniaa.X
