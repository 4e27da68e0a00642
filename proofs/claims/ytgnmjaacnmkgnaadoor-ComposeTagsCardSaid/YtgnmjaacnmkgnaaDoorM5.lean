/- Words and walks that the row of ComposeTags needs: printed by programs, and plain laws. -/
import Derived.Test.YtgnmjaacnmkgnaaDoorM3
import Derived.Test.YtgnmjaacnmkgnaaDoorM4
namespace Go.Proofs.YtgnmjaacnmkgnaaDoorW.PrintWords
end Go.Proofs.YtgnmjaacnmkgnaaDoorW.PrintWords
namespace Go.Proofs.YtgnmjaacnmkgnaaDoorW.PrintLast
end Go.Proofs.YtgnmjaacnmkgnaaDoorW.PrintLast
namespace Go.Proofs.YtgnmjaacnmkgnaaDoorW.PrintMore
end Go.Proofs.YtgnmjaacnmkgnaaDoorW.PrintMore
section
namespace Go.Proofs.YtgnmjaacnmkgnaaDoor.T
open Go.RowKit Go.Proofs.YtgnmjaacnmkgnaaDoorW.PrintWords Go.Proofs.YtgnmjaacnmkgnaaDoorW.PrintLast Go.Proofs.YtgnmjaacnmkgnaaDoorW.PrintMore
attribute [local go_sem] max2_int min2_int max_two min_two
set_option linter.unusedVariables false
set_option linter.unusedSimpArgs false
def tag_Resolve.f (k : Nat) (a0 : ByteArray) : Option (ByteArray) := if a0.toList = ([] : List UInt8) then (some (⟨#[110, 117, 108, 108]⟩ : ByteArray)) else (if a0.toList = ([126] : List UInt8) then (some (⟨#[110, 117, 108, 108]⟩ : ByteArray)) else (if a0.toList = ([110, 117, 108, 108] : List UInt8) then (some (⟨#[110, 117, 108, 108]⟩ : ByteArray)) else (if a0.toList = ([78, 117, 108, 108] : List UInt8) then (some (⟨#[110, 117, 108, 108]⟩ : ByteArray)) else (if a0.toList = ([78, 85, 76, 76] : List UInt8) then (some (⟨#[110, 117, 108, 108]⟩ : ByteArray)) else (if a0.toList = ([116, 114, 117, 101] : List UInt8) then (some (⟨#[98, 111, 111, 108]⟩ : ByteArray)) else (if a0.toList = ([84, 114, 117, 101] : List UInt8) then (some (⟨#[98, 111, 111, 108]⟩ : ByteArray)) else (if a0.toList = ([84, 82, 85, 69] : List UInt8) then (some (⟨#[98, 111, 111, 108]⟩ : ByteArray)) else (if a0.toList = ([102, 97, 108, 115, 101] : List UInt8) then (some (⟨#[98, 111, 111, 108]⟩ : ByteArray)) else (if a0.toList = ([70, 97, 108, 115, 101] : List UInt8) then (some (⟨#[98, 111, 111, 108]⟩ : ByteArray)) else (if a0.toList = ([70, 65, 76, 83, 69] : List UInt8) then (some (⟨#[98, 111, 111, 108]⟩ : ByteArray)) else (if a0.toList = ([46, 110, 97, 110] : List UInt8) then (some (⟨#[102, 108, 111, 97, 116]⟩ : ByteArray)) else (if a0.toList = ([46, 78, 97, 78] : List UInt8) then (some (⟨#[102, 108, 111, 97, 116]⟩ : ByteArray)) else (if a0.toList = ([46, 78, 65, 78] : List UInt8) then (some (⟨#[102, 108, 111, 97, 116]⟩ : ByteArray)) else ((tag_sign.f a0).bind fun t131 => (if t131.toList = ([46, 105, 110, 102] : List UInt8) then (some (⟨#[102, 108, 111, 97, 116]⟩ : ByteArray)) else (if t131.toList = ([46, 73, 110, 102] : List UInt8) then (some (⟨#[102, 108, 111, 97, 116]⟩ : ByteArray)) else (if t131.toList = ([46, 73, 78, 70] : List UInt8) then (some (⟨#[102, 108, 111, 97, 116]⟩ : ByteArray)) else ((tag_whole.f k a0).bind fun t132 => (if t132 = true then (some (⟨#[105, 110, 116]⟩ : ByteArray)) else ((tag_real.f k a0).bind fun t133 => (if t133 = true then (some (⟨#[102, 108, 111, 97, 116]⟩ : ByteArray)) else (some (⟨#[115, 116, 114]⟩ : ByteArray)))))))))))))))))))))))
set_option maxHeartbeats 8000000 in
set_option maxRecDepth 100000 in
theorem tag_Resolve.calls (k : Nat) (a0 : ByteArray) (r : ByteArray) (w : World) (h : tag_Resolve.f k a0 = some r) :
    Calls Tryd.prog 24 #[.string a0] w fun e w' => e = .returned (.string r) ∧ Drawn0 w w' := by
  have H : (if a0.toList = ([] : List UInt8) then (some (⟨#[110, 117, 108, 108]⟩ : ByteArray)) else (if a0.toList = ([126] : List UInt8) then (some (⟨#[110, 117, 108, 108]⟩ : ByteArray)) else (if a0.toList = ([110, 117, 108, 108] : List UInt8) then (some (⟨#[110, 117, 108, 108]⟩ : ByteArray)) else (if a0.toList = ([78, 117, 108, 108] : List UInt8) then (some (⟨#[110, 117, 108, 108]⟩ : ByteArray)) else (if a0.toList = ([78, 85, 76, 76] : List UInt8) then (some (⟨#[110, 117, 108, 108]⟩ : ByteArray)) else (if a0.toList = ([116, 114, 117, 101] : List UInt8) then (some (⟨#[98, 111, 111, 108]⟩ : ByteArray)) else (if a0.toList = ([84, 114, 117, 101] : List UInt8) then (some (⟨#[98, 111, 111, 108]⟩ : ByteArray)) else (if a0.toList = ([84, 82, 85, 69] : List UInt8) then (some (⟨#[98, 111, 111, 108]⟩ : ByteArray)) else (if a0.toList = ([102, 97, 108, 115, 101] : List UInt8) then (some (⟨#[98, 111, 111, 108]⟩ : ByteArray)) else (if a0.toList = ([70, 97, 108, 115, 101] : List UInt8) then (some (⟨#[98, 111, 111, 108]⟩ : ByteArray)) else (if a0.toList = ([70, 65, 76, 83, 69] : List UInt8) then (some (⟨#[98, 111, 111, 108]⟩ : ByteArray)) else (if a0.toList = ([46, 110, 97, 110] : List UInt8) then (some (⟨#[102, 108, 111, 97, 116]⟩ : ByteArray)) else (if a0.toList = ([46, 78, 97, 78] : List UInt8) then (some (⟨#[102, 108, 111, 97, 116]⟩ : ByteArray)) else (if a0.toList = ([46, 78, 65, 78] : List UInt8) then (some (⟨#[102, 108, 111, 97, 116]⟩ : ByteArray)) else ((tag_sign.f a0).bind fun t131 => (if t131.toList = ([46, 105, 110, 102] : List UInt8) then (some (⟨#[102, 108, 111, 97, 116]⟩ : ByteArray)) else (if t131.toList = ([46, 73, 110, 102] : List UInt8) then (some (⟨#[102, 108, 111, 97, 116]⟩ : ByteArray)) else (if t131.toList = ([46, 73, 78, 70] : List UInt8) then (some (⟨#[102, 108, 111, 97, 116]⟩ : ByteArray)) else ((tag_whole.f k a0).bind fun t132 => (if t132 = true then (some (⟨#[105, 110, 116]⟩ : ByteArray)) else ((tag_real.f k a0).bind fun t133 => (if t133 = true then (some (⟨#[102, 108, 111, 97, 116]⟩ : ByteArray)) else (some (⟨#[115, 116, 114]⟩ : ByteArray)))))))))))))))))))))))) = some r := h
  clear h
  by_cases c2 : a0.toList = ([] : List UInt8)
  · rw [if_pos c2] at H
    have c2b0 : (a0.toList == ([] : List UInt8)) = true := beq_iff_eq.mpr c2
    have c2b1 : (a0.toList != ([] : List UInt8)) = false := bne_eq_false_iff_eq.mpr c2
    clear c2
    obtain rfl := Option.some.inj H
    go_enter Tryd.func24, Tryd.ntmps24
    go_wp2
    go_ret
    exact ⟨by first | rfl | (simp; done) | (simp [*]; done) | (simp [xbne_nil, xbeq_nil]; done), by repeat (first | exact Drawn0.refl _ | apply Drawn0.step)⟩
  · rw [if_neg c2] at H
    have c2b0 : (a0.toList == ([] : List UInt8)) = false := beq_eq_false_iff_ne.mpr c2
    have c2b1 : (a0.toList != ([] : List UInt8)) = true := bne_iff_ne.mpr c2
    by_cases c3 : a0.toList = ([126] : List UInt8)
    · rw [if_pos c3] at H
      have c3b0 : (a0.toList == ([126] : List UInt8)) = true := beq_iff_eq.mpr c3
      have c3b1 : (a0.toList != ([126] : List UInt8)) = false := bne_eq_false_iff_eq.mpr c3
      clear c3
      obtain rfl := Option.some.inj H
      go_enter Tryd.func24, Tryd.ntmps24
      go_wp2
      go_ret
      exact ⟨by first | rfl | (simp; done) | (simp [*]; done) | (simp [xbne_nil, xbeq_nil]; done), by repeat (first | exact Drawn0.refl _ | apply Drawn0.step)⟩
    · rw [if_neg c3] at H
      have c3b0 : (a0.toList == ([126] : List UInt8)) = false := beq_eq_false_iff_ne.mpr c3
      have c3b1 : (a0.toList != ([126] : List UInt8)) = true := bne_iff_ne.mpr c3
      by_cases c4 : a0.toList = ([110, 117, 108, 108] : List UInt8)
      · rw [if_pos c4] at H
        have c4b0 : (a0.toList == ([110, 117, 108, 108] : List UInt8)) = true := beq_iff_eq.mpr c4
        have c4b1 : (a0.toList != ([110, 117, 108, 108] : List UInt8)) = false := bne_eq_false_iff_eq.mpr c4
        clear c4
        obtain rfl := Option.some.inj H
        go_enter Tryd.func24, Tryd.ntmps24
        go_wp2
        go_ret
        exact ⟨by first | rfl | (simp; done) | (simp [*]; done) | (simp [xbne_nil, xbeq_nil]; done), by repeat (first | exact Drawn0.refl _ | apply Drawn0.step)⟩
      · rw [if_neg c4] at H
        have c4b0 : (a0.toList == ([110, 117, 108, 108] : List UInt8)) = false := beq_eq_false_iff_ne.mpr c4
        have c4b1 : (a0.toList != ([110, 117, 108, 108] : List UInt8)) = true := bne_iff_ne.mpr c4
        by_cases c5 : a0.toList = ([78, 117, 108, 108] : List UInt8)
        · rw [if_pos c5] at H
          have c5b0 : (a0.toList == ([78, 117, 108, 108] : List UInt8)) = true := beq_iff_eq.mpr c5
          have c5b1 : (a0.toList != ([78, 117, 108, 108] : List UInt8)) = false := bne_eq_false_iff_eq.mpr c5
          clear c5
          obtain rfl := Option.some.inj H
          go_enter Tryd.func24, Tryd.ntmps24
          go_wp2
          go_ret
          exact ⟨by first | rfl | (simp; done) | (simp [*]; done) | (simp [xbne_nil, xbeq_nil]; done), by repeat (first | exact Drawn0.refl _ | apply Drawn0.step)⟩
        · rw [if_neg c5] at H
          have c5b0 : (a0.toList == ([78, 117, 108, 108] : List UInt8)) = false := beq_eq_false_iff_ne.mpr c5
          have c5b1 : (a0.toList != ([78, 117, 108, 108] : List UInt8)) = true := bne_iff_ne.mpr c5
          by_cases c6 : a0.toList = ([78, 85, 76, 76] : List UInt8)
          · rw [if_pos c6] at H
            have c6b0 : (a0.toList == ([78, 85, 76, 76] : List UInt8)) = true := beq_iff_eq.mpr c6
            have c6b1 : (a0.toList != ([78, 85, 76, 76] : List UInt8)) = false := bne_eq_false_iff_eq.mpr c6
            clear c6
            obtain rfl := Option.some.inj H
            go_enter Tryd.func24, Tryd.ntmps24
            go_wp2
            go_ret
            exact ⟨by first | rfl | (simp; done) | (simp [*]; done) | (simp [xbne_nil, xbeq_nil]; done), by repeat (first | exact Drawn0.refl _ | apply Drawn0.step)⟩
          · rw [if_neg c6] at H
            have c6b0 : (a0.toList == ([78, 85, 76, 76] : List UInt8)) = false := beq_eq_false_iff_ne.mpr c6
            have c6b1 : (a0.toList != ([78, 85, 76, 76] : List UInt8)) = true := bne_iff_ne.mpr c6
            by_cases c7 : a0.toList = ([116, 114, 117, 101] : List UInt8)
            · rw [if_pos c7] at H
              have c7b0 : (a0.toList == ([116, 114, 117, 101] : List UInt8)) = true := beq_iff_eq.mpr c7
              have c7b1 : (a0.toList != ([116, 114, 117, 101] : List UInt8)) = false := bne_eq_false_iff_eq.mpr c7
              clear c7
              obtain rfl := Option.some.inj H
              go_enter Tryd.func24, Tryd.ntmps24
              go_wp2
              go_ret
              exact ⟨by first | rfl | (simp; done) | (simp [*]; done) | (simp [xbne_nil, xbeq_nil]; done), by repeat (first | exact Drawn0.refl _ | apply Drawn0.step)⟩
            · rw [if_neg c7] at H
              have c7b0 : (a0.toList == ([116, 114, 117, 101] : List UInt8)) = false := beq_eq_false_iff_ne.mpr c7
              have c7b1 : (a0.toList != ([116, 114, 117, 101] : List UInt8)) = true := bne_iff_ne.mpr c7
              by_cases c8 : a0.toList = ([84, 114, 117, 101] : List UInt8)
              · rw [if_pos c8] at H
                have c8b0 : (a0.toList == ([84, 114, 117, 101] : List UInt8)) = true := beq_iff_eq.mpr c8
                have c8b1 : (a0.toList != ([84, 114, 117, 101] : List UInt8)) = false := bne_eq_false_iff_eq.mpr c8
                clear c8
                obtain rfl := Option.some.inj H
                go_enter Tryd.func24, Tryd.ntmps24
                go_wp2
                go_ret
                exact ⟨by first | rfl | (simp; done) | (simp [*]; done) | (simp [xbne_nil, xbeq_nil]; done), by repeat (first | exact Drawn0.refl _ | apply Drawn0.step)⟩
              · rw [if_neg c8] at H
                have c8b0 : (a0.toList == ([84, 114, 117, 101] : List UInt8)) = false := beq_eq_false_iff_ne.mpr c8
                have c8b1 : (a0.toList != ([84, 114, 117, 101] : List UInt8)) = true := bne_iff_ne.mpr c8
                by_cases c9 : a0.toList = ([84, 82, 85, 69] : List UInt8)
                · rw [if_pos c9] at H
                  have c9b0 : (a0.toList == ([84, 82, 85, 69] : List UInt8)) = true := beq_iff_eq.mpr c9
                  have c9b1 : (a0.toList != ([84, 82, 85, 69] : List UInt8)) = false := bne_eq_false_iff_eq.mpr c9
                  clear c9
                  obtain rfl := Option.some.inj H
                  go_enter Tryd.func24, Tryd.ntmps24
                  go_wp2
                  go_ret
                  exact ⟨by first | rfl | (simp; done) | (simp [*]; done) | (simp [xbne_nil, xbeq_nil]; done), by repeat (first | exact Drawn0.refl _ | apply Drawn0.step)⟩
                · rw [if_neg c9] at H
                  have c9b0 : (a0.toList == ([84, 82, 85, 69] : List UInt8)) = false := beq_eq_false_iff_ne.mpr c9
                  have c9b1 : (a0.toList != ([84, 82, 85, 69] : List UInt8)) = true := bne_iff_ne.mpr c9
                  by_cases c10 : a0.toList = ([102, 97, 108, 115, 101] : List UInt8)
                  · rw [if_pos c10] at H
                    have c10b0 : (a0.toList == ([102, 97, 108, 115, 101] : List UInt8)) = true := beq_iff_eq.mpr c10
                    have c10b1 : (a0.toList != ([102, 97, 108, 115, 101] : List UInt8)) = false := bne_eq_false_iff_eq.mpr c10
                    clear c10
                    obtain rfl := Option.some.inj H
                    go_enter Tryd.func24, Tryd.ntmps24
                    go_wp2
                    go_ret
                    exact ⟨by first | rfl | (simp; done) | (simp [*]; done) | (simp [xbne_nil, xbeq_nil]; done), by repeat (first | exact Drawn0.refl _ | apply Drawn0.step)⟩
                  · rw [if_neg c10] at H
                    have c10b0 : (a0.toList == ([102, 97, 108, 115, 101] : List UInt8)) = false := beq_eq_false_iff_ne.mpr c10
                    have c10b1 : (a0.toList != ([102, 97, 108, 115, 101] : List UInt8)) = true := bne_iff_ne.mpr c10
                    by_cases c11 : a0.toList = ([70, 97, 108, 115, 101] : List UInt8)
                    · rw [if_pos c11] at H
                      have c11b0 : (a0.toList == ([70, 97, 108, 115, 101] : List UInt8)) = true := beq_iff_eq.mpr c11
                      have c11b1 : (a0.toList != ([70, 97, 108, 115, 101] : List UInt8)) = false := bne_eq_false_iff_eq.mpr c11
                      clear c11
                      obtain rfl := Option.some.inj H
                      go_enter Tryd.func24, Tryd.ntmps24
                      go_wp2
                      go_ret
                      exact ⟨by first | rfl | (simp; done) | (simp [*]; done) | (simp [xbne_nil, xbeq_nil]; done), by repeat (first | exact Drawn0.refl _ | apply Drawn0.step)⟩
                    · rw [if_neg c11] at H
                      have c11b0 : (a0.toList == ([70, 97, 108, 115, 101] : List UInt8)) = false := beq_eq_false_iff_ne.mpr c11
                      have c11b1 : (a0.toList != ([70, 97, 108, 115, 101] : List UInt8)) = true := bne_iff_ne.mpr c11
                      by_cases c12 : a0.toList = ([70, 65, 76, 83, 69] : List UInt8)
                      · rw [if_pos c12] at H
                        have c12b0 : (a0.toList == ([70, 65, 76, 83, 69] : List UInt8)) = true := beq_iff_eq.mpr c12
                        have c12b1 : (a0.toList != ([70, 65, 76, 83, 69] : List UInt8)) = false := bne_eq_false_iff_eq.mpr c12
                        clear c12
                        obtain rfl := Option.some.inj H
                        go_enter Tryd.func24, Tryd.ntmps24
                        go_wp2
                        go_ret
                        exact ⟨by first | rfl | (simp; done) | (simp [*]; done) | (simp [xbne_nil, xbeq_nil]; done), by repeat (first | exact Drawn0.refl _ | apply Drawn0.step)⟩
                      · rw [if_neg c12] at H
                        have c12b0 : (a0.toList == ([70, 65, 76, 83, 69] : List UInt8)) = false := beq_eq_false_iff_ne.mpr c12
                        have c12b1 : (a0.toList != ([70, 65, 76, 83, 69] : List UInt8)) = true := bne_iff_ne.mpr c12
                        by_cases c13 : a0.toList = ([46, 110, 97, 110] : List UInt8)
                        · rw [if_pos c13] at H
                          have c13b0 : (a0.toList == ([46, 110, 97, 110] : List UInt8)) = true := beq_iff_eq.mpr c13
                          have c13b1 : (a0.toList != ([46, 110, 97, 110] : List UInt8)) = false := bne_eq_false_iff_eq.mpr c13
                          clear c13
                          obtain rfl := Option.some.inj H
                          go_enter Tryd.func24, Tryd.ntmps24
                          go_wp2
                          go_ret
                          exact ⟨by first | rfl | (simp; done) | (simp [*]; done) | (simp [xbne_nil, xbeq_nil]; done), by repeat (first | exact Drawn0.refl _ | apply Drawn0.step)⟩
                        · rw [if_neg c13] at H
                          have c13b0 : (a0.toList == ([46, 110, 97, 110] : List UInt8)) = false := beq_eq_false_iff_ne.mpr c13
                          have c13b1 : (a0.toList != ([46, 110, 97, 110] : List UInt8)) = true := bne_iff_ne.mpr c13
                          by_cases c14 : a0.toList = ([46, 78, 97, 78] : List UInt8)
                          · rw [if_pos c14] at H
                            have c14b0 : (a0.toList == ([46, 78, 97, 78] : List UInt8)) = true := beq_iff_eq.mpr c14
                            have c14b1 : (a0.toList != ([46, 78, 97, 78] : List UInt8)) = false := bne_eq_false_iff_eq.mpr c14
                            clear c14
                            obtain rfl := Option.some.inj H
                            go_enter Tryd.func24, Tryd.ntmps24
                            go_wp2
                            go_ret
                            exact ⟨by first | rfl | (simp; done) | (simp [*]; done) | (simp [xbne_nil, xbeq_nil]; done), by repeat (first | exact Drawn0.refl _ | apply Drawn0.step)⟩
                          · rw [if_neg c14] at H
                            have c14b0 : (a0.toList == ([46, 78, 97, 78] : List UInt8)) = false := beq_eq_false_iff_ne.mpr c14
                            have c14b1 : (a0.toList != ([46, 78, 97, 78] : List UInt8)) = true := bne_iff_ne.mpr c14
                            by_cases c15 : a0.toList = ([46, 78, 65, 78] : List UInt8)
                            · rw [if_pos c15] at H
                              have c15b0 : (a0.toList == ([46, 78, 65, 78] : List UInt8)) = true := beq_iff_eq.mpr c15
                              have c15b1 : (a0.toList != ([46, 78, 65, 78] : List UInt8)) = false := bne_eq_false_iff_eq.mpr c15
                              clear c15
                              obtain rfl := Option.some.inj H
                              go_enter Tryd.func24, Tryd.ntmps24
                              go_wp2
                              go_ret
                              exact ⟨by first | rfl | (simp; done) | (simp [*]; done) | (simp [xbne_nil, xbeq_nil]; done), by repeat (first | exact Drawn0.refl _ | apply Drawn0.step)⟩
                            · rw [if_neg c15] at H
                              have c15b0 : (a0.toList == ([46, 78, 65, 78] : List UInt8)) = false := beq_eq_false_iff_ne.mpr c15
                              have c15b1 : (a0.toList != ([46, 78, 65, 78] : List UInt8)) = true := bne_iff_ne.mpr c15
                              replace H := Option.bind_eq_some_iff.mp H
                              obtain ⟨t131, A160, H⟩ := H
                              replace H : (if t131.toList = ([46, 105, 110, 102] : List UInt8) then (some (⟨#[102, 108, 111, 97, 116]⟩ : ByteArray)) else (if t131.toList = ([46, 73, 110, 102] : List UInt8) then (some (⟨#[102, 108, 111, 97, 116]⟩ : ByteArray)) else (if t131.toList = ([46, 73, 78, 70] : List UInt8) then (some (⟨#[102, 108, 111, 97, 116]⟩ : ByteArray)) else ((tag_whole.f k a0).bind fun t132 => (if t132 = true then (some (⟨#[105, 110, 116]⟩ : ByteArray)) else ((tag_real.f k a0).bind fun t133 => (if t133 = true then (some (⟨#[102, 108, 111, 97, 116]⟩ : ByteArray)) else (some (⟨#[115, 116, 114]⟩ : ByteArray))))))))) = some r := H
                              have A16 := Aside0.mk A160
                              clear A160
                              by_cases c17 : t131.toList = ([46, 105, 110, 102] : List UInt8)
                              · rw [if_pos c17] at H
                                have c17b0 : (t131.toList == ([46, 105, 110, 102] : List UInt8)) = true := beq_iff_eq.mpr c17
                                have c17b1 : (t131.toList != ([46, 105, 110, 102] : List UInt8)) = false := bne_eq_false_iff_eq.mpr c17
                                clear c17
                                obtain rfl := Option.some.inj H
                                go_enter Tryd.func24, Tryd.ntmps24
                                go_wp2_with (first | ((with_reducible refine gate_callee (f := 47) rfl ?_); refine goesL_ (some 22) rfl rfl Tryd.func47 (by kernel_rfl) rfl #[.string a0] rfl (by (try simp only [List.map_toArray, List.map_cons, List.map_nil]); first | done | rfl | (simp only [List.length_drop, List.length_take]; rfl)) ?_; (with_reducible refine (tag_sign.calls a0 t131 _ A16.out).mono ?_); rintro e w' ⟨rfl, ⟨nd, rfl⟩⟩; refine ⟨_, rfl, ?_⟩))
                                go_ret
                                exact ⟨by first | rfl | (simp; done) | (simp [*]; done) | (simp [xbne_nil, xbeq_nil]; done), by repeat (first | exact Drawn0.refl _ | apply Drawn0.step)⟩
                              · rw [if_neg c17] at H
                                have c17b0 : (t131.toList == ([46, 105, 110, 102] : List UInt8)) = false := beq_eq_false_iff_ne.mpr c17
                                have c17b1 : (t131.toList != ([46, 105, 110, 102] : List UInt8)) = true := bne_iff_ne.mpr c17
                                by_cases c18 : t131.toList = ([46, 73, 110, 102] : List UInt8)
                                · rw [if_pos c18] at H
                                  have c18b0 : (t131.toList == ([46, 73, 110, 102] : List UInt8)) = true := beq_iff_eq.mpr c18
                                  have c18b1 : (t131.toList != ([46, 73, 110, 102] : List UInt8)) = false := bne_eq_false_iff_eq.mpr c18
                                  clear c18
                                  obtain rfl := Option.some.inj H
                                  go_enter Tryd.func24, Tryd.ntmps24
                                  go_wp2_with (first | ((with_reducible refine gate_callee (f := 47) rfl ?_); refine goesL_ (some 22) rfl rfl Tryd.func47 (by kernel_rfl) rfl #[.string a0] rfl (by (try simp only [List.map_toArray, List.map_cons, List.map_nil]); first | done | rfl | (simp only [List.length_drop, List.length_take]; rfl)) ?_; (with_reducible refine (tag_sign.calls a0 t131 _ A16.out).mono ?_); rintro e w' ⟨rfl, ⟨nd, rfl⟩⟩; refine ⟨_, rfl, ?_⟩))
                                  go_ret
                                  exact ⟨by first | rfl | (simp; done) | (simp [*]; done) | (simp [xbne_nil, xbeq_nil]; done), by repeat (first | exact Drawn0.refl _ | apply Drawn0.step)⟩
                                · rw [if_neg c18] at H
                                  have c18b0 : (t131.toList == ([46, 73, 110, 102] : List UInt8)) = false := beq_eq_false_iff_ne.mpr c18
                                  have c18b1 : (t131.toList != ([46, 73, 110, 102] : List UInt8)) = true := bne_iff_ne.mpr c18
                                  by_cases c19 : t131.toList = ([46, 73, 78, 70] : List UInt8)
                                  · rw [if_pos c19] at H
                                    have c19b0 : (t131.toList == ([46, 73, 78, 70] : List UInt8)) = true := beq_iff_eq.mpr c19
                                    have c19b1 : (t131.toList != ([46, 73, 78, 70] : List UInt8)) = false := bne_eq_false_iff_eq.mpr c19
                                    clear c19
                                    obtain rfl := Option.some.inj H
                                    go_enter Tryd.func24, Tryd.ntmps24
                                    go_wp2_with (first | ((with_reducible refine gate_callee (f := 47) rfl ?_); refine goesL_ (some 22) rfl rfl Tryd.func47 (by kernel_rfl) rfl #[.string a0] rfl (by (try simp only [List.map_toArray, List.map_cons, List.map_nil]); first | done | rfl | (simp only [List.length_drop, List.length_take]; rfl)) ?_; (with_reducible refine (tag_sign.calls a0 t131 _ A16.out).mono ?_); rintro e w' ⟨rfl, ⟨nd, rfl⟩⟩; refine ⟨_, rfl, ?_⟩))
                                    go_ret
                                    exact ⟨by first | rfl | (simp; done) | (simp [*]; done) | (simp [xbne_nil, xbeq_nil]; done), by repeat (first | exact Drawn0.refl _ | apply Drawn0.step)⟩
                                  · rw [if_neg c19] at H
                                    have c19b0 : (t131.toList == ([46, 73, 78, 70] : List UInt8)) = false := beq_eq_false_iff_ne.mpr c19
                                    have c19b1 : (t131.toList != ([46, 73, 78, 70] : List UInt8)) = true := bne_iff_ne.mpr c19
                                    replace H := Option.bind_eq_some_iff.mp H
                                    obtain ⟨t132, A200, H⟩ := H
                                    replace H : (if t132 = true then (some (⟨#[105, 110, 116]⟩ : ByteArray)) else ((tag_real.f k a0).bind fun t133 => (if t133 = true then (some (⟨#[102, 108, 111, 97, 116]⟩ : ByteArray)) else (some (⟨#[115, 116, 114]⟩ : ByteArray))))) = some r := H
                                    have A20 := Aside0.mk A200
                                    clear A200
                                    by_cases c21 : t132 = true
                                    · subst c21
                                      have H1 : (some (⟨#[105, 110, 116]⟩ : ByteArray)) = some r := by rw [if_pos rfl] at H; exact H
                                      clear H
                                      have H := H1
                                      clear H1
                                      obtain rfl := Option.some.inj H
                                      go_enter Tryd.func24, Tryd.ntmps24
                                      go_wp2_with (first | ((with_reducible refine gate_callee (f := 47) rfl ?_); refine goesL_ (some 22) rfl rfl Tryd.func47 (by kernel_rfl) rfl #[.string a0] rfl (by (try simp only [List.map_toArray, List.map_cons, List.map_nil]); first | done | rfl | (simp only [List.length_drop, List.length_take]; rfl)) ?_; (with_reducible refine (tag_sign.calls a0 t131 _ A16.out).mono ?_); rintro e w' ⟨rfl, ⟨nd, rfl⟩⟩; refine ⟨_, rfl, ?_⟩) | ((with_reducible refine gate_callee (f := 48) rfl ?_); refine goesL_ (some 29) rfl rfl Tryd.func48 (by kernel_rfl) rfl #[.string a0] rfl (by (try simp only [List.map_toArray, List.map_cons, List.map_nil]); first | done | rfl | (simp only [List.length_drop, List.length_take]; rfl)) ?_; (with_reducible refine (tag_whole.calls k a0 true _ A20.out).mono ?_); rintro e w' ⟨rfl, ⟨nd, rfl⟩⟩; refine ⟨_, rfl, ?_⟩))
                                      go_ret
                                      exact ⟨by first | rfl | (simp; done) | (simp [*]; done) | (simp [xbne_nil, xbeq_nil]; done), by repeat (first | exact Drawn0.refl _ | apply Drawn0.step)⟩
                                    · replace c21 := Bool.eq_false_iff.mpr c21
                                      subst c21
                                      have H1 : ((tag_real.f k a0).bind fun t133 => (if t133 = true then (some (⟨#[102, 108, 111, 97, 116]⟩ : ByteArray)) else (some (⟨#[115, 116, 114]⟩ : ByteArray)))) = some r := by rw [if_neg (show ¬ (false = true) by decide)] at H; exact H
                                      clear H
                                      have H := H1
                                      clear H1
                                      replace H := Option.bind_eq_some_iff.mp H
                                      obtain ⟨t133, A220, H⟩ := H
                                      replace H : (if t133 = true then (some (⟨#[102, 108, 111, 97, 116]⟩ : ByteArray)) else (some (⟨#[115, 116, 114]⟩ : ByteArray))) = some r := H
                                      have A22 := Aside0.mk A220
                                      clear A220
                                      by_cases c23 : t133 = true
                                      · subst c23
                                        have H1 : (some (⟨#[102, 108, 111, 97, 116]⟩ : ByteArray)) = some r := by rw [if_pos rfl] at H; exact H
                                        clear H
                                        have H := H1
                                        clear H1
                                        obtain rfl := Option.some.inj H
                                        go_enter Tryd.func24, Tryd.ntmps24
                                        go_wp2_with (first | ((with_reducible refine gate_callee (f := 47) rfl ?_); refine goesL_ (some 22) rfl rfl Tryd.func47 (by kernel_rfl) rfl #[.string a0] rfl (by (try simp only [List.map_toArray, List.map_cons, List.map_nil]); first | done | rfl | (simp only [List.length_drop, List.length_take]; rfl)) ?_; (with_reducible refine (tag_sign.calls a0 t131 _ A16.out).mono ?_); rintro e w' ⟨rfl, ⟨nd, rfl⟩⟩; refine ⟨_, rfl, ?_⟩) | ((with_reducible refine gate_callee (f := 48) rfl ?_); refine goesL_ (some 29) rfl rfl Tryd.func48 (by kernel_rfl) rfl #[.string a0] rfl (by (try simp only [List.map_toArray, List.map_cons, List.map_nil]); first | done | rfl | (simp only [List.length_drop, List.length_take]; rfl)) ?_; (with_reducible refine (tag_whole.calls k a0 false _ A20.out).mono ?_); rintro e w' ⟨rfl, ⟨nd, rfl⟩⟩; refine ⟨_, rfl, ?_⟩) | ((with_reducible refine gate_callee (f := 49) rfl ?_); refine goesL_ (some 32) rfl rfl Tryd.func49 (by kernel_rfl) rfl #[.string a0] rfl (by (try simp only [List.map_toArray, List.map_cons, List.map_nil]); first | done | rfl | (simp only [List.length_drop, List.length_take]; rfl)) ?_; (with_reducible refine (tag_real.calls k a0 true _ A22.out).mono ?_); rintro e w' ⟨rfl, ⟨nd, rfl⟩⟩; refine ⟨_, rfl, ?_⟩))
                                        go_ret
                                        exact ⟨by first | rfl | (simp; done) | (simp [*]; done) | (simp [xbne_nil, xbeq_nil]; done), by repeat (first | exact Drawn0.refl _ | apply Drawn0.step)⟩
                                      · replace c23 := Bool.eq_false_iff.mpr c23
                                        subst c23
                                        have H1 : (some (⟨#[115, 116, 114]⟩ : ByteArray)) = some r := by rw [if_neg (show ¬ (false = true) by decide)] at H; exact H
                                        clear H
                                        have H := H1
                                        clear H1
                                        obtain rfl := Option.some.inj H
                                        go_enter Tryd.func24, Tryd.ntmps24
                                        go_wp2_with (first | ((with_reducible refine gate_callee (f := 47) rfl ?_); refine goesL_ (some 22) rfl rfl Tryd.func47 (by kernel_rfl) rfl #[.string a0] rfl (by (try simp only [List.map_toArray, List.map_cons, List.map_nil]); first | done | rfl | (simp only [List.length_drop, List.length_take]; rfl)) ?_; (with_reducible refine (tag_sign.calls a0 t131 _ A16.out).mono ?_); rintro e w' ⟨rfl, ⟨nd, rfl⟩⟩; refine ⟨_, rfl, ?_⟩) | ((with_reducible refine gate_callee (f := 48) rfl ?_); refine goesL_ (some 29) rfl rfl Tryd.func48 (by kernel_rfl) rfl #[.string a0] rfl (by (try simp only [List.map_toArray, List.map_cons, List.map_nil]); first | done | rfl | (simp only [List.length_drop, List.length_take]; rfl)) ?_; (with_reducible refine (tag_whole.calls k a0 false _ A20.out).mono ?_); rintro e w' ⟨rfl, ⟨nd, rfl⟩⟩; refine ⟨_, rfl, ?_⟩) | ((with_reducible refine gate_callee (f := 49) rfl ?_); refine goesL_ (some 32) rfl rfl Tryd.func49 (by kernel_rfl) rfl #[.string a0] rfl (by (try simp only [List.map_toArray, List.map_cons, List.map_nil]); first | done | rfl | (simp only [List.length_drop, List.length_take]; rfl)) ?_; (with_reducible refine (tag_real.calls k a0 false _ A22.out).mono ?_); rintro e w' ⟨rfl, ⟨nd, rfl⟩⟩; refine ⟨_, rfl, ?_⟩))
                                        go_ret
                                        exact ⟨by first | rfl | (simp; done) | (simp [*]; done) | (simp [xbne_nil, xbeq_nil]; done), by repeat (first | exact Drawn0.refl _ | apply Drawn0.step)⟩
end Go.Proofs.YtgnmjaacnmkgnaaDoor.T
end
section
namespace Go.Proofs.YtgnmjaacnmkgnaaDoor.T
open Go.RowKit Go.Proofs.YtgnmjaacnmkgnaaDoorW.PrintWords Go.Proofs.YtgnmjaacnmkgnaaDoorW.PrintLast Go.Proofs.YtgnmjaacnmkgnaaDoorW.PrintMore
attribute [local go_sem] max2_int min2_int max_two min_two
set_option linter.unusedVariables false
set_option linter.unusedSimpArgs false
def tag_Fits.f (k : Nat) (a0 : ByteArray) (a1 : ByteArray) : Option (Bool) := (tag_plain.f a0).bind fun t134 => (if t134 = true then ((tag_Resolve.f k a1).bind fun t135 => (if t135.toList = a0.toList then (some true) else (if a0.toList = ([102, 108, 111, 97, 116] : List UInt8) then (some (t135.toList == ([105, 110, 116] : List UInt8))) else (some false)))) else (if a0.toList = ([115, 116, 114] : List UInt8) then (some true) else ((tag_own.f a0).bind fun t136 => (some t136))))
set_option maxHeartbeats 8000000 in
set_option maxRecDepth 100000 in
theorem tag_Fits.calls (k : Nat) (a0 : ByteArray) (a1 : ByteArray) (r : Bool) (w : World) (h : tag_Fits.f k a0 a1 = some r) :
    Calls Tryd.prog 25 #[.string a0, .string a1] w fun e w' => e = .returned (.bool r) ∧ Below w.heap.size w w' := by
  have HB := Aside0.mk (Below.refl w.heap.size w)
  have H : ((tag_plain.f a0).bind fun t134 => (if t134 = true then ((tag_Resolve.f k a1).bind fun t135 => (if t135.toList = a0.toList then (some true) else (if a0.toList = ([102, 108, 111, 97, 116] : List UInt8) then (some (t135.toList == ([105, 110, 116] : List UInt8))) else (some false)))) else (if a0.toList = ([115, 116, 114] : List UInt8) then (some true) else ((tag_own.f a0).bind fun t136 => (some t136))))) = some r := h
  clear h
  replace H := Option.bind_eq_some_iff.mp H
  obtain ⟨t134, A30, H⟩ := H
  replace H : (if t134 = true then ((tag_Resolve.f k a1).bind fun t135 => (if t135.toList = a0.toList then (some true) else (if a0.toList = ([102, 108, 111, 97, 116] : List UInt8) then (some (t135.toList == ([105, 110, 116] : List UInt8))) else (some false)))) else (if a0.toList = ([115, 116, 114] : List UInt8) then (some true) else ((tag_own.f a0).bind fun t136 => (some t136)))) = some r := H
  have A3 := Aside0.mk A30
  clear A30
  by_cases c4 : t134 = true
  · subst c4
    have H1 : ((tag_Resolve.f k a1).bind fun t135 => (if t135.toList = a0.toList then (some true) else (if a0.toList = ([102, 108, 111, 97, 116] : List UInt8) then (some (t135.toList == ([105, 110, 116] : List UInt8))) else (some false)))) = some r := by rw [if_pos rfl] at H; exact H
    clear H
    have H := H1
    clear H1
    replace H := Option.bind_eq_some_iff.mp H
    obtain ⟨t135, A50, H⟩ := H
    replace H : (if t135.toList = a0.toList then (some true) else (if a0.toList = ([102, 108, 111, 97, 116] : List UInt8) then (some (t135.toList == ([105, 110, 116] : List UInt8))) else (some false))) = some r := H
    have A5 := Aside0.mk A50
    clear A50
    by_cases c6 : t135.toList = a0.toList
    · rw [if_pos c6] at H
      have c6b0 : (t135.toList == a0.toList) = true := beq_iff_eq.mpr c6
      have c6b1 : (t135.toList != a0.toList) = false := bne_eq_false_iff_eq.mpr c6
      clear c6
      obtain rfl := Option.some.inj H
      go_enter Tryd.func25, Tryd.ntmps25
      go_wp2_with (first | ((with_reducible refine gate_callee (f := 50) rfl ?_); refine goesL_ (some 7) rfl rfl Tryd.func50 (by kernel_rfl) rfl #[.string a0] rfl (by (try simp only [List.map_toArray, List.map_cons, List.map_nil]); first | done | rfl | (simp only [List.length_drop, List.length_take]; rfl)) ?_; (with_reducible refine (tag_plain.calls a0 true _ A3.out).mono ?_); rintro e w' ⟨rfl, ⟨nd, rfl⟩⟩; refine ⟨_, rfl, ?_⟩) | ((with_reducible refine gate_callee (f := 24) rfl ?_); refine goesL_ (some 16) rfl rfl Tryd.func24 (by kernel_rfl) rfl #[.string a1] rfl (by (try simp only [List.map_toArray, List.map_cons, List.map_nil]); first | done | rfl | (simp only [List.length_drop, List.length_take]; rfl)) ?_; (with_reducible refine (tag_Resolve.calls k a1 t135 _ A5.out).mono ?_); rintro e w' ⟨rfl, ⟨nd, rfl⟩⟩; refine ⟨_, rfl, ?_⟩))
      go_ret
      exact ⟨by first | rfl | (simp [errW_none, errW_some] <;> rfl) | (simp [*, errW_none, errW_some] <;> rfl), by repeat (first | (with_reducible first | exact HB.out | apply below_alloc | apply pw_below_drewN | apply below_drew1) | exact HB.out)⟩
    · rw [if_neg c6] at H
      have c6b0 : (t135.toList == a0.toList) = false := beq_eq_false_iff_ne.mpr c6
      have c6b1 : (t135.toList != a0.toList) = true := bne_iff_ne.mpr c6
      by_cases c7 : a0.toList = ([102, 108, 111, 97, 116] : List UInt8)
      · rw [if_pos c7] at H
        have c7b0 : (a0.toList == ([102, 108, 111, 97, 116] : List UInt8)) = true := beq_iff_eq.mpr c7
        have c7b1 : (a0.toList != ([102, 108, 111, 97, 116] : List UInt8)) = false := bne_eq_false_iff_eq.mpr c7
        clear c7
        obtain rfl := Option.some.inj H
        go_enter Tryd.func25, Tryd.ntmps25
        go_wp2_with (first | ((with_reducible refine gate_callee (f := 50) rfl ?_); refine goesL_ (some 7) rfl rfl Tryd.func50 (by kernel_rfl) rfl #[.string a0] rfl (by (try simp only [List.map_toArray, List.map_cons, List.map_nil]); first | done | rfl | (simp only [List.length_drop, List.length_take]; rfl)) ?_; (with_reducible refine (tag_plain.calls a0 true _ A3.out).mono ?_); rintro e w' ⟨rfl, ⟨nd, rfl⟩⟩; refine ⟨_, rfl, ?_⟩) | ((with_reducible refine gate_callee (f := 24) rfl ?_); refine goesL_ (some 16) rfl rfl Tryd.func24 (by kernel_rfl) rfl #[.string a1] rfl (by (try simp only [List.map_toArray, List.map_cons, List.map_nil]); first | done | rfl | (simp only [List.length_drop, List.length_take]; rfl)) ?_; (with_reducible refine (tag_Resolve.calls k a1 t135 _ A5.out).mono ?_); rintro e w' ⟨rfl, ⟨nd, rfl⟩⟩; refine ⟨_, rfl, ?_⟩))
        go_ret
        exact ⟨by first | rfl | (simp [errW_none, errW_some] <;> rfl) | (simp [*, errW_none, errW_some] <;> rfl), by repeat (first | (with_reducible first | exact HB.out | apply below_alloc | apply pw_below_drewN | apply below_drew1) | exact HB.out)⟩
      · rw [if_neg c7] at H
        have c7b0 : (a0.toList == ([102, 108, 111, 97, 116] : List UInt8)) = false := beq_eq_false_iff_ne.mpr c7
        have c7b1 : (a0.toList != ([102, 108, 111, 97, 116] : List UInt8)) = true := bne_iff_ne.mpr c7
        obtain rfl := Option.some.inj H
        go_enter Tryd.func25, Tryd.ntmps25
        go_wp2_with (first | ((with_reducible refine gate_callee (f := 50) rfl ?_); refine goesL_ (some 7) rfl rfl Tryd.func50 (by kernel_rfl) rfl #[.string a0] rfl (by (try simp only [List.map_toArray, List.map_cons, List.map_nil]); first | done | rfl | (simp only [List.length_drop, List.length_take]; rfl)) ?_; (with_reducible refine (tag_plain.calls a0 true _ A3.out).mono ?_); rintro e w' ⟨rfl, ⟨nd, rfl⟩⟩; refine ⟨_, rfl, ?_⟩) | ((with_reducible refine gate_callee (f := 24) rfl ?_); refine goesL_ (some 16) rfl rfl Tryd.func24 (by kernel_rfl) rfl #[.string a1] rfl (by (try simp only [List.map_toArray, List.map_cons, List.map_nil]); first | done | rfl | (simp only [List.length_drop, List.length_take]; rfl)) ?_; (with_reducible refine (tag_Resolve.calls k a1 t135 _ A5.out).mono ?_); rintro e w' ⟨rfl, ⟨nd, rfl⟩⟩; refine ⟨_, rfl, ?_⟩))
        go_ret
        exact ⟨by first | rfl | (simp [errW_none, errW_some] <;> rfl) | (simp [*, errW_none, errW_some] <;> rfl), by repeat (first | (with_reducible first | exact HB.out | apply below_alloc | apply pw_below_drewN | apply below_drew1) | exact HB.out)⟩
  · replace c4 := Bool.eq_false_iff.mpr c4
    subst c4
    have H1 : (if a0.toList = ([115, 116, 114] : List UInt8) then (some true) else ((tag_own.f a0).bind fun t136 => (some t136))) = some r := by rw [if_neg (show ¬ (false = true) by decide)] at H; exact H
    clear H
    have H := H1
    clear H1
    by_cases c8 : a0.toList = ([115, 116, 114] : List UInt8)
    · rw [if_pos c8] at H
      have c8b0 : (a0.toList == ([115, 116, 114] : List UInt8)) = true := beq_iff_eq.mpr c8
      have c8b1 : (a0.toList != ([115, 116, 114] : List UInt8)) = false := bne_eq_false_iff_eq.mpr c8
      clear c8
      obtain rfl := Option.some.inj H
      go_enter Tryd.func25, Tryd.ntmps25
      go_wp2_with (first | ((with_reducible refine gate_callee (f := 50) rfl ?_); refine goesL_ (some 7) rfl rfl Tryd.func50 (by kernel_rfl) rfl #[.string a0] rfl (by (try simp only [List.map_toArray, List.map_cons, List.map_nil]); first | done | rfl | (simp only [List.length_drop, List.length_take]; rfl)) ?_; (with_reducible refine (tag_plain.calls a0 false _ A3.out).mono ?_); rintro e w' ⟨rfl, ⟨nd, rfl⟩⟩; refine ⟨_, rfl, ?_⟩))
      go_ret
      exact ⟨by first | rfl | (simp [errW_none, errW_some] <;> rfl) | (simp [*, errW_none, errW_some] <;> rfl), by repeat (first | (with_reducible first | exact HB.out | apply below_alloc | apply pw_below_drewN | apply below_drew1) | exact HB.out)⟩
    · rw [if_neg c8] at H
      have c8b0 : (a0.toList == ([115, 116, 114] : List UInt8)) = false := beq_eq_false_iff_ne.mpr c8
      have c8b1 : (a0.toList != ([115, 116, 114] : List UInt8)) = true := bne_iff_ne.mpr c8
      replace H := Option.bind_eq_some_iff.mp H
      obtain ⟨t136, A90, H⟩ := H
      replace H : (some t136) = some r := H
      have A9 := Aside0.mk A90
      clear A90
      obtain rfl := Option.some.inj H
      go_enter Tryd.func25, Tryd.ntmps25
      go_wp2_with (first | ((with_reducible refine gate_callee (f := 50) rfl ?_); refine goesL_ (some 7) rfl rfl Tryd.func50 (by kernel_rfl) rfl #[.string a0] rfl (by (try simp only [List.map_toArray, List.map_cons, List.map_nil]); first | done | rfl | (simp only [List.length_drop, List.length_take]; rfl)) ?_; (with_reducible refine (tag_plain.calls a0 false _ A3.out).mono ?_); rintro e w' ⟨rfl, ⟨nd, rfl⟩⟩; refine ⟨_, rfl, ?_⟩) | (go_at_call 51; (with_reducible refine (tag_own.calls a0 t136 _ A9.out).mono ?_); rintro e w10 ⟨rfl, hb⟩; have n0_ := Aside0.mk (below_step (by repeat (first | (with_reducible first | exact HB.out | apply below_alloc | apply pw_below_drewN | apply below_drew1) | exact HB.out)) hb); clear HB; have HB := n0_; clear n0_; (try clear hb); (try clear hb2); (try clear hk); (try clear hi)))
      go_ret
      exact ⟨by first | rfl | (simp [errW_none, errW_some] <;> rfl) | (simp [*, errW_none, errW_some] <;> rfl), by repeat (first | (with_reducible first | exact HB.out | apply below_alloc | apply pw_below_drewN | apply below_drew1) | exact HB.out)⟩
end Go.Proofs.YtgnmjaacnmkgnaaDoor.T
end
section
namespace Go.Proofs.YtgnmjaacnmkgnaaDoor.T
open Go.RowKit Go.Proofs.YtgnmjaacnmkgnaaDoorW.PrintWords Go.Proofs.YtgnmjaacnmkgnaaDoorW.PrintLast Go.Proofs.YtgnmjaacnmkgnaaDoorW.PrintMore
attribute [local go_sem] max2_int min2_int max_two min_two
set_option linter.unusedVariables false
set_option linter.unusedSimpArgs false
def grilleref03_one.l0 : Nat → ByteArray → List ByteArray → Int → Option (Bool)
  | 0, _, _, _ => none
  | k + 1, x0, x1, x5 => if x5 < (x1.length : Int) then (if 0 ≤ x5 then (if (rdOf ByteArray.empty x1 x5).toList = x0.toList then (some true) else (grilleref03_one.l0 k x0 x1 (wrap64 (x5 + 1)))) else (none)) else (some false)
def grilleref03_one.f (k : Nat) (a0 : ByteArray) (l1 : List ByteArray) : Option (Bool) := grilleref03_one.l0 k a0 l1 0
set_option maxHeartbeats 8000000 in
set_option maxRecDepth 100000 in
theorem grilleref03_one.calls (k : Nat) (a0 : ByteArray) (A1 : Option Addr) (c1 : Nat) (l1 : List ByteArray) (r : Bool) (w : World) (hr1 : Kd.C Kd.string w A1 l1.length l1) (hc1 : l1.length ≤ c1) (h : grilleref03_one.f k a0 l1 = some r) :
    Calls Tryd.prog 53 #[.string a0, .slice A1 l1.length c1] w fun e w' => e = .returned (.bool r) ∧ Drawn0 w w' := by
  have HR1 := Aside0.mk hr1
  have HC1 := Aside0.mk hc1
  clear hr1 hc1
  have H : (grilleref03_one.l0 k a0 l1 0) = some r := h
  clear h
  have H' := Aside0.mk H
  clear H
  go_enter Tryd.func53, Tryd.ntmps53
  go_wp2
  go_loopg [5] k (fun kq v5 w' => ∃ (x5_1 : Int), v5 = .int .i64 x5_1 ∧ Aside0 (grilleref03_one.l0 kq a0 l1 x5_1 = some r) ∧ Aside0 (kq ≤ k) ∧ Drawn0 w w')
  case atStart => exact ⟨(0), (by first | rfl | (simp; done) | (simp [*]; done) | (simp [xbne_nil, xbeq_nil]; done)), H', ⟨Nat.le_refl _⟩, by repeat (first | exact Drawn0.refl _ | apply Drawn0.step)⟩
  case round =>
    clear H'
    try clear c1
    try clear p2
    obtain ⟨x5_1, rfl, HA, HK1, ⟨m1, rfl⟩⟩ := hrel
    cases gk with
    | zero => exact absurd HA.out (by simp [grilleref03_one.l0])
    | succ k1 =>
      have H := HA.out
      clear HA
      simp only [grilleref03_one.l0] at H
      by_cases c3 : x5_1 < (l1.length : Int)
      · rw [if_pos c3] at H
        have c3b0 : decide (x5_1 < (l1.length : Int)) = true := decide_eq_true c3
        clear c3
        by_cases c4 : 0 ≤ x5_1
        · rw [if_pos c4] at H
          have c4b0 : decide (0 ≤ x5_1) = true := decide_eq_true c4
          clear c4
          by_cases c5 : (rdOf ByteArray.empty l1 x5_1).toList = a0.toList
          · rw [if_pos c5] at H
            have c5b0 : ((rdOf ByteArray.empty l1 x5_1).toList == a0.toList) = true := beq_iff_eq.mpr c5
            have c5b1 : ((rdOf ByteArray.empty l1 x5_1).toList != a0.toList) = false := bne_eq_false_iff_eq.mpr c5
            clear c5
            obtain rfl := Option.some.inj H
            have p144 : 0 ≤ (x5_1 : Int) := of_decide_eq_true (by first | (with_reducible assumption) | assumption)
            have q144 : x5_1 < (l1.length : Int) := of_decide_eq_true (by first | (with_reducible assumption) | assumption)
            obtain ⟨ad144, e144, hx144_0⟩ := Kd.at_string HR1.out x5_1 p144 q144
            cases e144
            replace p144 := eq_true p144
            replace q144 := eq_true q144
            go_wp2
            go_ret
            exact ⟨by first | rfl | (simp; done) | (simp [*]; done) | (simp [xbne_nil, xbeq_nil]; done), by repeat (first | exact Drawn0.refl _ | apply Drawn0.step)⟩
          · rw [if_neg c5] at H
            have c5b0 : ((rdOf ByteArray.empty l1 x5_1).toList == a0.toList) = false := beq_eq_false_iff_ne.mpr c5
            have c5b1 : ((rdOf ByteArray.empty l1 x5_1).toList != a0.toList) = true := bne_iff_ne.mpr c5
            have H' := Aside0.mk H
            clear H
            have p144 : 0 ≤ (x5_1 : Int) := of_decide_eq_true (by first | (with_reducible assumption) | assumption)
            have q144 : x5_1 < (l1.length : Int) := of_decide_eq_true (by first | (with_reducible assumption) | assumption)
            obtain ⟨ad144, e144, hx144_0⟩ := Kd.at_string HR1.out x5_1 p144 q144
            cases e144
            replace p144 := eq_true p144
            replace q144 := eq_true q144
            go_wp2
            go_roundg k1
            case measure => have := HK1.out; omega
            case rel => exact ⟨(wrap64 (x5_1 + 1)), (by first | rfl | (simp; done) | (simp [*]; done) | (simp [xbne_nil, xbeq_nil]; done)), H', ⟨by have := HK1.out; omega⟩, by repeat (first | exact Drawn0.refl _ | apply Drawn0.step)⟩
        · rw [if_neg c4] at H
          exact absurd H (by simp)
      · rw [if_neg c3] at H
        have c3b0 : decide (x5_1 < (l1.length : Int)) = false := decide_eq_false c3
        clear c3
        obtain rfl := Option.some.inj H
        go_wp2
        go_ret
        exact ⟨by first | rfl | (simp; done) | (simp [*]; done) | (simp [xbne_nil, xbeq_nil]; done), by repeat (first | exact Drawn0.refl _ | apply Drawn0.step)⟩
def grilleref03_Core.f (k : Nat) (a0 : ByteArray) : Option (Bool) := (grilleref03_one.f k a0 (([(⟨#[110, 117, 108, 108]⟩ : ByteArray), (⟨#[98, 111, 111, 108]⟩ : ByteArray), (⟨#[105, 110, 116]⟩ : ByteArray), (⟨#[102, 108, 111, 97, 116]⟩ : ByteArray), (⟨#[115, 116, 114]⟩ : ByteArray), (⟨#[115, 101, 113]⟩ : ByteArray), (⟨#[109, 97, 112]⟩ : ByteArray)] : List ByteArray))).bind fun t148 => (some t148)
set_option maxHeartbeats 8000000 in
set_option maxRecDepth 100000 in
theorem grilleref03_Core.calls (k : Nat) (a0 : ByteArray) (r : Bool) (w : World) (h : grilleref03_Core.f k a0 = some r) :
    Calls Tryd.prog 27 #[.string a0] w fun e w' => e = .returned (.bool r) ∧ Below w.heap.size w w' := by
  have HB := Aside0.mk (Below.refl w.heap.size w)
  have H : ((grilleref03_one.f k a0 (([(⟨#[110, 117, 108, 108]⟩ : ByteArray), (⟨#[98, 111, 111, 108]⟩ : ByteArray), (⟨#[105, 110, 116]⟩ : ByteArray), (⟨#[102, 108, 111, 97, 116]⟩ : ByteArray), (⟨#[115, 116, 114]⟩ : ByteArray), (⟨#[115, 101, 113]⟩ : ByteArray), (⟨#[109, 97, 112]⟩ : ByteArray)] : List ByteArray))).bind fun t148 => (some t148)) = some r := h
  clear h
  obtain ⟨y145, hy145⟩ : ∃ y_ : List ByteArray, y_ = (([(⟨#[110, 117, 108, 108]⟩ : ByteArray), (⟨#[98, 111, 111, 108]⟩ : ByteArray), (⟨#[105, 110, 116]⟩ : ByteArray), (⟨#[102, 108, 111, 97, 116]⟩ : ByteArray), (⟨#[115, 116, 114]⟩ : ByteArray), (⟨#[115, 101, 113]⟩ : ByteArray), (⟨#[109, 97, 112]⟩ : ByteArray)] : List ByteArray)) := ⟨_, rfl⟩
  replace H : ((grilleref03_one.f k a0 y145).bind fun t148 => (some t148)) = some r := by first | (rw [hy145]; with_reducible exact H) | (have H2_ := (Option.bind_some _ _).symm.trans H; rw [hy145]; with_reducible exact H2_) | (have H2_ := (Option.bind_some _ _).symm.trans H; with_reducible exact H2_) | with_reducible exact H | (rw [hy145]; exact H) | exact H
  have Ny145 := Aside0.mk hy145
  clear hy145
  replace H := Option.bind_eq_some_iff.mp H
  obtain ⟨t148, A20, H⟩ := H
  replace H : (some t148) = some r := H
  have A2 := Aside0.mk A20
  clear A20
  obtain rfl := Option.some.inj H
  go_enter Tryd.func27, Tryd.ntmps27
  go_wp2_with (first | ((with_reducible refine gate_dst (N := 4) rfl ?_); refine Kd.R_lit Kd.string _ 9 ?hg (N := 4) ?hd (xs := ([(⟨#[110, 117, 108, 108]⟩ : ByteArray), (⟨#[98, 111, 111, 108]⟩ : ByteArray), (⟨#[105, 110, 116]⟩ : ByteArray), (⟨#[102, 108, 111, 97, 116]⟩ : ByteArray), (⟨#[115, 116, 114]⟩ : ByteArray), (⟨#[115, 101, 113]⟩ : ByteArray), (⟨#[109, 97, 112]⟩ : ByteArray)] : List ByteArray)) (inner := [.string (⟨#[110, 117, 108, 108]⟩ : ByteArray), .string (⟨#[98, 111, 111, 108]⟩ : ByteArray), .string (⟨#[105, 110, 116]⟩ : ByteArray), .string (⟨#[102, 108, 111, 97, 116]⟩ : ByteArray), .string (⟨#[115, 116, 114]⟩ : ByteArray), .string (⟨#[115, 101, 113]⟩ : ByteArray), .string (⟨#[109, 97, 112]⟩ : ByteArray)]) (ok := fun _ => True) (okp := fun _ => True) ?hr ?hp (fun _ hk => hk) trivial (Below.refl _ _) (Nat.le_refl _) (by simp) ?_; (case hd => rfl); (case hg => rfl); (case hr => first | (go_simp; done) | (go_simp; rfl)); (case hp => exact (Reps.one (show Kd.M Kd.string _ _ _ (⟨#[110, 117, 108, 108]⟩ : ByteArray) [.string (⟨#[110, 117, 108, 108]⟩ : ByteArray)] from rfl) (Reps.one (show Kd.M Kd.string _ _ _ (⟨#[98, 111, 111, 108]⟩ : ByteArray) [.string (⟨#[98, 111, 111, 108]⟩ : ByteArray)] from rfl) (Reps.one (show Kd.M Kd.string _ _ _ (⟨#[105, 110, 116]⟩ : ByteArray) [.string (⟨#[105, 110, 116]⟩ : ByteArray)] from rfl) (Reps.one (show Kd.M Kd.string _ _ _ (⟨#[102, 108, 111, 97, 116]⟩ : ByteArray) [.string (⟨#[102, 108, 111, 97, 116]⟩ : ByteArray)] from rfl) (Reps.one (show Kd.M Kd.string _ _ _ (⟨#[115, 116, 114]⟩ : ByteArray) [.string (⟨#[115, 116, 114]⟩ : ByteArray)] from rfl) (Reps.one (show Kd.M Kd.string _ _ _ (⟨#[115, 101, 113]⟩ : ByteArray) [.string (⟨#[115, 101, 113]⟩ : ByteArray)] from rfl) (Reps.one (show Kd.M Kd.string _ _ _ (⟨#[109, 97, 112]⟩ : ByteArray) [.string (⟨#[109, 97, 112]⟩ : ByteArray)] from rfl) (Reps.none _ _))))))))); intro v146 w3 ho4 hb hg_ hnew_; clear hg_ hnew_; (first | rw [← Ny145.out] at ho4 | (simp only [Int.reduceToNat] at ho4; rw [← Ny145.out] at ho4)); have n0_ := Aside0.mk (Kd.R_lower ho4 (below_size (by repeat (first | (with_reducible first | exact HB.out | apply below_alloc | apply pw_below_drewN | apply below_drew1) | exact HB.out)))); have n1_ := Aside0.mk (below_step (by repeat (first | (with_reducible first | exact HB.out | apply below_alloc | apply pw_below_drewN | apply below_drew1) | exact HB.out)) hb); clear HB; have HO147 := n0_; have HB := n1_; clear n0_ n1_; clear hb ho4; obtain ⟨Ao5, co5, eo5⟩ := Kd.R_slice HO147.out; subst eo5) | ((with_reducible refine gate_callee (f := 53) rfl ?_); refine goesL_ (some 5) rfl rfl Tryd.func53 (by kernel_rfl) rfl #[.string a0, .slice Ao5 y145.length co5] rfl (by (try simp only [List.map_toArray, List.map_cons, List.map_nil]); first | done | rfl | (simp only [List.length_drop, List.length_take]; rfl)) ?_; (with_reducible refine (grilleref03_one.calls k a0 _ _ y145 t148 _ ?side1 ?side2 A2.out).mono ?_); (case side1 => repeat (first | exact (Kd.R_reads' HO147.out).2.2 | (with_reducible refine Kd.C_alloc ?_ _) | (with_reducible refine Kd.C_drewN ?_ _) | (with_reducible refine Kd.C_drew ?_))); (case side2 => exact (Kd.R_reads' HO147.out).2.1); rintro e w' ⟨rfl, ⟨nd, rfl⟩⟩; refine ⟨_, rfl, ?_⟩))
  go_ret
  exact ⟨by first | rfl | (simp [errW_none, errW_some] <;> rfl) | (simp [*, errW_none, errW_some] <;> rfl), by repeat (first | (with_reducible first | exact HB.out | apply below_alloc | apply pw_below_drewN | apply below_drew1) | exact HB.out)⟩
def grilleref03_begins.f (a0 : ByteArray) (a1 : ByteArray) : Option (Bool) := if (a0.size : Int) ≥ (a1.size : Int) then (if 0 ≤ (a1.size : Int) then (if (a1.size : Int) ≤ (a0.size : Int) then (some ((a0.extract 0 ((a1.size : Int) : Int).toNat).toList == a1.toList)) else (none)) else (none)) else (some false)
set_option maxHeartbeats 8000000 in
set_option maxRecDepth 100000 in
theorem grilleref03_begins.calls (a0 : ByteArray) (a1 : ByteArray) (r : Bool) (w : World) (h : grilleref03_begins.f a0 a1 = some r) :
    Calls Tryd.prog 85 #[.string a0, .string a1] w fun e w' => e = .returned (.bool r) ∧ Drawn0 w w' := by
  have H : (if (a0.size : Int) ≥ (a1.size : Int) then (if 0 ≤ (a1.size : Int) then (if (a1.size : Int) ≤ (a0.size : Int) then (some ((a0.extract 0 ((a1.size : Int) : Int).toNat).toList == a1.toList)) else (none)) else (none)) else (some false)) = some r := h
  clear h
  by_cases c3 : (a0.size : Int) ≥ (a1.size : Int)
  · rw [if_pos c3] at H
    have c3b0 : decide ((a1.size : Int) ≤ (a0.size : Int)) = true := decide_eq_true c3
    have c3b1 : decide (a1.size ≤ a0.size) = true := decide_eq_true (Int.ofNat_le.mp c3)
    clear c3
    by_cases c4 : 0 ≤ (a1.size : Int)
    · rw [if_pos c4] at H
      have c4b0 := eq_true c4
      have c4b1 : decide (0 ≤ (a1.size : Int)) = true := decide_eq_true c4
      clear c4
      by_cases c5 : (a1.size : Int) ≤ (a0.size : Int)
      · rw [if_pos c5] at H
        have c5b0 := eq_true c5
        have c5b1 : decide ((a1.size : Int) ≤ (a0.size : Int)) = true := decide_eq_true c5
        clear c5
        obtain rfl := Option.some.inj H
        go_enter Tryd.func85, Tryd.ntmps85
        go_wp2
        go_ret
        exact ⟨by first | rfl | (simp; done) | (simp [*]; done) | (simp [xbne_nil, xbeq_nil]; done), by repeat (first | exact Drawn0.refl _ | apply Drawn0.step)⟩
      · rw [if_neg c5] at H
        exact absurd H (by simp)
    · rw [if_neg c4] at H
      exact absurd H (by simp)
  · rw [if_neg c3] at H
    have c3b0 : decide ((a1.size : Int) ≤ (a0.size : Int)) = false := decide_eq_false c3
    have c3b1 : decide (a1.size ≤ a0.size) = false := decide_eq_false (fun h => c3 (Int.ofNat_le.mpr h))
    clear c3
    obtain rfl := Option.some.inj H
    go_enter Tryd.func85, Tryd.ntmps85
    go_wp2
    go_ret
    exact ⟨by first | rfl | (simp; done) | (simp [*]; done) | (simp [xbne_nil, xbeq_nil]; done), by repeat (first | exact Drawn0.refl _ | apply Drawn0.step)⟩
end Go.Proofs.YtgnmjaacnmkgnaaDoor.T
end
section
namespace Go.Proofs.YtgnmjaacnmkgnaaDoor.T
open Go.RowKit Go.Proofs.YtgnmjaacnmkgnaaDoorW.PrintWords Go.Proofs.YtgnmjaacnmkgnaaDoorW.PrintLast Go.Proofs.YtgnmjaacnmkgnaaDoorW.PrintMore
attribute [local go_sem] max2_int min2_int max_two min_two
set_option linter.unusedVariables false
set_option linter.unusedSimpArgs false
mutual
def grilleref03_only.l0 : Nat → ByteArray → ByteArray → Int → Option (Bool)
  | 0, _, _, _ => none
  | k + 1, x0, x1, x5 => if x5 < (x0.size : Int) then (grilleref03_only.l1 k x0 x1 x5 false 0) else (some (x0.toList != ([] : List UInt8)))
def grilleref03_only.l1 : Nat → ByteArray → ByteArray → Int → Bool → Int → Option (Bool)
  | 0, _, _, _, _, _ => none
  | k + 1, x0, x1, x5, x6, x7 => if x7 < (x1.size : Int) then (if x6 = true then (grilleref03_only.l1 k x0 x1 x5 true (wrap64 (x7 + 1))) else (if 0 ≤ x7 then (if 0 ≤ x5 then (if x5 < (x0.size : Int) then (grilleref03_only.l1 k x0 x1 x5 ((bt x1 x7) == (bt x0 x5)) (wrap64 (x7 + 1))) else (none)) else (none)) else (none))) else (if x6 = true then (grilleref03_only.l0 k x0 x1 (wrap64 (x5 + 1))) else (some false))
end
def grilleref03_only.f (k : Nat) (a0 : ByteArray) (a1 : ByteArray) : Option (Bool) := grilleref03_only.l0 k a0 a1 0
theorem grilleref03_only.mono_l : ∀ k, (∀ y0 y1 y2, LeO (grilleref03_only.l0 k y0 y1 y2) (grilleref03_only.l0 (k + 1) y0 y1 y2)) ∧ (∀ y0 y1 y2 y3 y4, LeO (grilleref03_only.l1 k y0 y1 y2 y3 y4) (grilleref03_only.l1 (k + 1) y0 y1 y2 y3 y4))
  | 0 => ⟨fun _ _ _ r h => by simp [grilleref03_only.l0] at h, fun _ _ _ _ _ r h => by simp [grilleref03_only.l1] at h⟩
  | k + 1 => by
    obtain ⟨ih0, ih1⟩ := grilleref03_only.mono_l k
    refine ⟨?_, ?_⟩
    · intro y0 y1 y2
      unfold grilleref03_only.l0
      repeat' first
      | (with_reducible exact ih0 _ _ _)
      | (with_reducible exact ih1 _ _ _ _ _)
      | (with_reducible exact LeO.refl _)
      | (with_reducible exact LeO.none _)
      | (with_reducible refine LeO.ite ?_ ?_)
      | (with_reducible refine LeO.bind ?_ (fun _ => ?_))
      | exact ih0 _ _ _
      | exact ih1 _ _ _ _ _
      | exact LeO.none _
      | refine LeO.ite ?_ ?_
      | refine LeO.bind ?_ (fun _ => ?_)
    · intro y0 y1 y2 y3 y4
      unfold grilleref03_only.l1
      repeat' first
      | (with_reducible exact ih0 _ _ _)
      | (with_reducible exact ih1 _ _ _ _ _)
      | (with_reducible exact LeO.refl _)
      | (with_reducible exact LeO.none _)
      | (with_reducible refine LeO.ite ?_ ?_)
      | (with_reducible refine LeO.bind ?_ (fun _ => ?_))
      | exact ih0 _ _ _
      | exact ih1 _ _ _ _ _
      | exact LeO.none _
      | refine LeO.ite ?_ ?_
      | refine LeO.bind ?_ (fun _ => ?_)
theorem grilleref03_only.mono : ∀ a0 a1 k, LeO (grilleref03_only.f k a0 a1) (grilleref03_only.f (k + 1) a0 a1) := by
  intro a0 a1 k
  obtain ⟨ih0, ih1⟩ := grilleref03_only.mono_l k
  unfold grilleref03_only.f
  repeat' first
      | (with_reducible exact ih0 _ _ _)
      | (with_reducible exact ih1 _ _ _ _ _)
      | (with_reducible exact LeO.refl _)
      | (with_reducible exact LeO.none _)
      | (with_reducible refine LeO.ite ?_ ?_)
      | (with_reducible refine LeO.bind ?_ (fun _ => ?_))
      | exact ih0 _ _ _
      | exact ih1 _ _ _ _ _
      | exact LeO.none _
      | refine LeO.ite ?_ ?_
      | refine LeO.bind ?_ (fun _ => ?_)
set_option maxHeartbeats 8000000 in
set_option maxRecDepth 100000 in
theorem grilleref03_only.calls (k : Nat) (a0 : ByteArray) (a1 : ByteArray) (r : Bool) (w : World) (h : grilleref03_only.f k a0 a1 = some r) :
    Calls Tryd.prog 86 #[.string a0, .string a1] w fun e w' => e = .returned (.bool r) ∧ Drawn0 w w' := by
  have H : (grilleref03_only.l0 k a0 a1 0) = some r := h
  clear h
  have H' := Aside0.mk H
  clear H
  go_enter Tryd.func86, Tryd.ntmps86
  go_wp2
  repeat (go_quiet (fail); try go_wp2)
  go_loopg [5] k (fun kq v5 w' => ∃ (x5_1 : Int), v5 = .int .i64 x5_1 ∧ Aside0 (grilleref03_only.l0 kq a0 a1 x5_1 = some r) ∧ Aside0 (kq ≤ k) ∧ Drawn0 w w')
  case atStart => exact ⟨(0), (by first | rfl | (simp; done) | (simp [*]; done) | (simp [xbne_nil, xbeq_nil]; done)), H', ⟨Nat.le_refl _⟩, by repeat (first | exact Drawn0.refl _ | apply Drawn0.step)⟩
  case round =>
    clear H'
    try clear p2
    obtain ⟨x5_1, rfl, HA, HK1, ⟨m1, rfl⟩⟩ := hrel
    cases gk with
    | zero => exact absurd HA.out (by simp [grilleref03_only.l0])
    | succ k1 =>
      have H := HA.out
      clear HA
      simp only [grilleref03_only.l0] at H
      by_cases c3 : x5_1 < (a0.size : Int)
      · rw [if_pos c3] at H
        have c3b0 : decide (x5_1 < (a0.size : Int)) = true := decide_eq_true c3
        clear c3
        have H' := Aside0.mk H
        clear H
        go_wp2
        repeat (go_quiet (fail); try go_wp2)
        go_loopg [6, 7] k1 (fun kq v6 v7 w' => ∃ (x6_2 : Bool) (x7_2 : Int), v6 = .bool x6_2 ∧ v7 = .int .i64 x7_2 ∧ Aside0 (grilleref03_only.l1 kq a0 a1 x5_1 x6_2 x7_2 = some r) ∧ Aside0 (kq ≤ k1) ∧ Drawn0 w w')
        case atStart => exact ⟨(false), (0), (by first | rfl | (simp; done) | (simp [*]; done) | (simp [xbne_nil, xbeq_nil]; done)), (by first | rfl | (simp; done) | (simp [*]; done) | (simp [xbne_nil, xbeq_nil]; done)), H', ⟨Nat.le_refl _⟩, by repeat (first | exact Drawn0.refl _ | apply Drawn0.step)⟩
        case round =>
          clear H'
          try clear p2
          try clear c3
          try clear c3b0
          try clear p2
          obtain ⟨x6_2, x7_2, rfl, rfl, HA, HK2, ⟨m2, rfl⟩⟩ := hrel
          cases gk with
          | zero => exact absurd HA.out (by simp [grilleref03_only.l1])
          | succ k2 =>
            have H := HA.out
            clear HA
            simp only [grilleref03_only.l1] at H
            by_cases c4 : x7_2 < (a1.size : Int)
            · rw [if_pos c4] at H
              have c4b0 : decide (x7_2 < (a1.size : Int)) = true := decide_eq_true c4
              clear c4
              by_cases c5 : x6_2 = true
              · subst c5
                have H1 : (grilleref03_only.l1 k2 a0 a1 x5_1 true (wrap64 (x7_2 + 1))) = some r := by rw [if_pos rfl] at H; exact H
                clear H
                have H := H1
                clear H1
                have H' := Aside0.mk H
                clear H
                go_wp2
                repeat (go_quiet (fail); try go_wp2)
                go_roundg k2
                case measure => have := HK1.out; have := HK2.out; omega
                case rel => exact ⟨(true), (wrap64 (x7_2 + 1)), (by first | rfl | (simp; done) | (simp [*]; done) | (simp [xbne_nil, xbeq_nil]; done)), (by first | rfl | (simp; done) | (simp [*]; done) | (simp [xbne_nil, xbeq_nil]; done)), H', ⟨by have := HK1.out; have := HK2.out; omega⟩, by repeat (first | exact Drawn0.refl _ | apply Drawn0.step)⟩
              · replace c5 := Bool.eq_false_iff.mpr c5
                subst c5
                have H1 : (if 0 ≤ x7_2 then (if 0 ≤ x5_1 then (if x5_1 < (a0.size : Int) then (grilleref03_only.l1 k2 a0 a1 x5_1 ((bt a1 x7_2) == (bt a0 x5_1)) (wrap64 (x7_2 + 1))) else (none)) else (none)) else (none)) = some r := by rw [if_neg (show ¬ (false = true) by decide)] at H; exact H
                clear H
                have H := H1
                clear H1
                by_cases c6 : 0 ≤ x7_2
                · rw [if_pos c6] at H
                  have c6b0 : decide (0 ≤ x7_2) = true := decide_eq_true c6
                  clear c6
                  by_cases c8 : 0 ≤ x5_1
                  · rw [if_pos c8] at H
                    have c8b0 : decide (0 ≤ x5_1) = true := decide_eq_true c8
                    clear c8
                    by_cases c9 : x5_1 < (a0.size : Int)
                    · rw [if_pos c9] at H
                      have c9b0 : decide (x5_1 < (a0.size : Int)) = true := decide_eq_true c9
                      clear c9
                      have H' := Aside0.mk H
                      clear H
                      have p7 : 0 ≤ (x7_2 : Int) := of_decide_eq_true (by first | (with_reducible assumption) | assumption)
                      have q7 : x7_2 < (a1.size : Int) := of_decide_eq_true (by first | (with_reducible assumption) | assumption)
                      have hx7 := bt_at a1 x7_2
                      replace p7 := eq_true p7
                      replace q7 := eq_true q7
                      have p10 : 0 ≤ (x5_1 : Int) := of_decide_eq_true (by first | (with_reducible assumption) | assumption)
                      have q10 : x5_1 < (a0.size : Int) := of_decide_eq_true (by first | (with_reducible assumption) | assumption)
                      have hx10 := bt_at a0 x5_1
                      replace p10 := eq_true p10
                      replace q10 := eq_true q10
                      go_wp2
                      repeat (go_quiet (fail); try go_wp2)
                      go_roundg k2
                      case measure => have := HK1.out; have := HK2.out; omega
                      case rel => exact ⟨(((bt a1 x7_2) == (bt a0 x5_1))), (wrap64 (x7_2 + 1)), (by first | rfl | (simp; done) | (simp [*]; done) | (simp [xbne_nil, xbeq_nil]; done)), (by first | rfl | (simp; done) | (simp [*]; done) | (simp [xbne_nil, xbeq_nil]; done)), H', ⟨by have := HK1.out; have := HK2.out; omega⟩, by repeat (first | exact Drawn0.refl _ | apply Drawn0.step)⟩
                    · rw [if_neg c9] at H
                      exact absurd H (by simp)
                  · rw [if_neg c8] at H
                    exact absurd H (by simp)
                · rw [if_neg c6] at H
                  exact absurd H (by simp)
            · rw [if_neg c4] at H
              have c4b0 : decide (x7_2 < (a1.size : Int)) = false := decide_eq_false c4
              clear c4
              by_cases c11 : x6_2 = true
              · subst c11
                have H1 : (grilleref03_only.l0 k2 a0 a1 (wrap64 (x5_1 + 1))) = some r := by rw [if_pos rfl] at H; exact H
                clear H
                have H := H1
                clear H1
                have H' := Aside0.mk H
                clear H
                go_wp2
                repeat (go_quiet (fail); try go_wp2)
                go_roundg k2
                case measure => have := HK1.out; have := HK2.out; omega
                case rel => exact ⟨(wrap64 (x5_1 + 1)), (by first | rfl | (simp; done) | (simp [*]; done) | (simp [xbne_nil, xbeq_nil]; done)), H', ⟨by have := HK1.out; have := HK2.out; omega⟩, by repeat (first | exact Drawn0.refl _ | apply Drawn0.step)⟩
              · replace c11 := Bool.eq_false_iff.mpr c11
                subst c11
                have H1 : (some false) = some r := by rw [if_neg (show ¬ (false = true) by decide)] at H; exact H
                clear H
                have H := H1
                clear H1
                obtain rfl := Option.some.inj H
                go_wp2
                repeat (go_quiet (fail); try go_wp2)
                go_ret
                exact ⟨by first | rfl | (simp; done) | (simp [*]; done) | (simp [xbne_nil, xbeq_nil]; done), by repeat (first | exact Drawn0.refl _ | apply Drawn0.step)⟩
      · rw [if_neg c3] at H
        have c3b0 : decide (x5_1 < (a0.size : Int)) = false := decide_eq_false c3
        clear c3
        obtain rfl := Option.some.inj H
        go_wp2
        repeat (go_quiet (fail); try go_wp2)
        go_ret
        exact ⟨by first | rfl | (simp; done) | (simp [*]; done) | (simp [xbne_nil, xbeq_nil]; done), by repeat (first | exact Drawn0.refl _ | apply Drawn0.step)⟩
def grilleref03_own.f (k : Nat) (a0 : ByteArray) : Option (Bool) := (grilleref03_begins.f a0 (⟨#[33]⟩ : ByteArray)).bind fun t149 => (if t149 = true then (if (a0.size : Int) ≤ 41 then (if 1 ≤ (a0.size : Int) then ((grilleref03_only.f k (a0.extract 1 a0.size) (⟨#[48, 49, 50, 51, 52, 53, 54, 55, 56, 57, 97, 98, 99, 100, 101, 102, 103, 104, 105, 106, 107, 108, 109, 110, 111, 112, 113, 114, 115, 116, 117, 118, 119, 120, 121, 122, 65, 66, 67, 68, 69, 70, 71, 72, 73, 74, 75, 76, 77, 78, 79, 80, 81, 82, 83, 84, 85, 86, 87, 88, 89, 90, 45]⟩ : ByteArray)).bind fun t150 => (some t150)) else (none)) else (some false)) else (some false))
set_option maxHeartbeats 8000000 in
set_option maxRecDepth 100000 in
theorem grilleref03_own.calls (k : Nat) (a0 : ByteArray) (r : Bool) (w : World) (h : grilleref03_own.f k a0 = some r) :
    Calls Tryd.prog 52 #[.string a0] w fun e w' => e = .returned (.bool r) ∧ Drawn0 w w' := by
  have H : ((grilleref03_begins.f a0 (⟨#[33]⟩ : ByteArray)).bind fun t149 => (if t149 = true then (if (a0.size : Int) ≤ 41 then (if 1 ≤ (a0.size : Int) then ((grilleref03_only.f k (a0.extract 1 a0.size) (⟨#[48, 49, 50, 51, 52, 53, 54, 55, 56, 57, 97, 98, 99, 100, 101, 102, 103, 104, 105, 106, 107, 108, 109, 110, 111, 112, 113, 114, 115, 116, 117, 118, 119, 120, 121, 122, 65, 66, 67, 68, 69, 70, 71, 72, 73, 74, 75, 76, 77, 78, 79, 80, 81, 82, 83, 84, 85, 86, 87, 88, 89, 90, 45]⟩ : ByteArray)).bind fun t150 => (some t150)) else (none)) else (some false)) else (some false))) = some r := h
  clear h
  replace H := Option.bind_eq_some_iff.mp H
  obtain ⟨t149, A20, H⟩ := H
  replace H : (if t149 = true then (if (a0.size : Int) ≤ 41 then (if 1 ≤ (a0.size : Int) then ((grilleref03_only.f k (a0.extract 1 a0.size) (⟨#[48, 49, 50, 51, 52, 53, 54, 55, 56, 57, 97, 98, 99, 100, 101, 102, 103, 104, 105, 106, 107, 108, 109, 110, 111, 112, 113, 114, 115, 116, 117, 118, 119, 120, 121, 122, 65, 66, 67, 68, 69, 70, 71, 72, 73, 74, 75, 76, 77, 78, 79, 80, 81, 82, 83, 84, 85, 86, 87, 88, 89, 90, 45]⟩ : ByteArray)).bind fun t150 => (some t150)) else (none)) else (some false)) else (some false)) = some r := H
  have A2 := Aside0.mk A20
  clear A20
  by_cases c3 : t149 = true
  · subst c3
    have H1 : (if (a0.size : Int) ≤ 41 then (if 1 ≤ (a0.size : Int) then ((grilleref03_only.f k (a0.extract 1 a0.size) (⟨#[48, 49, 50, 51, 52, 53, 54, 55, 56, 57, 97, 98, 99, 100, 101, 102, 103, 104, 105, 106, 107, 108, 109, 110, 111, 112, 113, 114, 115, 116, 117, 118, 119, 120, 121, 122, 65, 66, 67, 68, 69, 70, 71, 72, 73, 74, 75, 76, 77, 78, 79, 80, 81, 82, 83, 84, 85, 86, 87, 88, 89, 90, 45]⟩ : ByteArray)).bind fun t150 => (some t150)) else (none)) else (some false)) = some r := by rw [if_pos rfl] at H; exact H
    clear H
    have H := H1
    clear H1
    by_cases c4 : (a0.size : Int) ≤ 41
    · rw [if_pos c4] at H
      have c4b0 : decide ((a0.size : Int) ≤ 41) = true := decide_eq_true c4
      have c4b1 : decide (a0.size ≤ 41) = true := decide_eq_true (by omega)
      clear c4
      by_cases c5 : 1 ≤ (a0.size : Int)
      · rw [if_pos c5] at H
        have c5b0 := eq_true c5
        have c5b1 : decide (1 ≤ (a0.size : Int)) = true := decide_eq_true c5
        clear c5
        replace H := Option.bind_eq_some_iff.mp H
        obtain ⟨t150, A60, H⟩ := H
        replace H : (some t150) = some r := H
        have A6 := Aside0.mk A60
        clear A60
        obtain rfl := Option.some.inj H
        go_enter Tryd.func52, Tryd.ntmps52
        go_wp2_with (first | ((with_reducible refine gate_callee (f := 85) rfl ?_); refine goesL_ (some 4) rfl rfl Tryd.func85 (by kernel_rfl) rfl #[.string a0, .string (⟨#[33]⟩ : ByteArray)] rfl (by (try simp only [List.map_toArray, List.map_cons, List.map_nil]); first | done | rfl | (simp only [List.length_drop, List.length_take]; rfl)) ?_; (with_reducible refine (grilleref03_begins.calls a0 (⟨#[33]⟩ : ByteArray) true _ A2.out).mono ?_); rintro e w' ⟨rfl, ⟨nd, rfl⟩⟩; refine ⟨_, rfl, ?_⟩) | (go_at_call 86; (with_reducible refine (grilleref03_only.calls k (a0.extract 1 a0.size) (⟨#[48, 49, 50, 51, 52, 53, 54, 55, 56, 57, 97, 98, 99, 100, 101, 102, 103, 104, 105, 106, 107, 108, 109, 110, 111, 112, 113, 114, 115, 116, 117, 118, 119, 120, 121, 122, 65, 66, 67, 68, 69, 70, 71, 72, 73, 74, 75, 76, 77, 78, 79, 80, 81, 82, 83, 84, 85, 86, 87, 88, 89, 90, 45]⟩ : ByteArray) t150 _ A6.out).mono ?_); rintro e w' ⟨rfl, ⟨nd, rfl⟩⟩))
        go_ret
        exact ⟨by first | rfl | (simp; done) | (simp [*]; done) | (simp [xbne_nil, xbeq_nil]; done), by repeat (first | exact Drawn0.refl _ | apply Drawn0.step)⟩
      · rw [if_neg c5] at H
        exact absurd H (by simp)
    · rw [if_neg c4] at H
      have c4b0 : decide ((a0.size : Int) ≤ 41) = false := decide_eq_false c4
      have c4b1 : decide (a0.size ≤ 41) = false := decide_eq_false (by omega)
      clear c4
      obtain rfl := Option.some.inj H
      go_enter Tryd.func52, Tryd.ntmps52
      go_wp2_with (first | ((with_reducible refine gate_callee (f := 85) rfl ?_); refine goesL_ (some 4) rfl rfl Tryd.func85 (by kernel_rfl) rfl #[.string a0, .string (⟨#[33]⟩ : ByteArray)] rfl (by (try simp only [List.map_toArray, List.map_cons, List.map_nil]); first | done | rfl | (simp only [List.length_drop, List.length_take]; rfl)) ?_; (with_reducible refine (grilleref03_begins.calls a0 (⟨#[33]⟩ : ByteArray) true _ A2.out).mono ?_); rintro e w' ⟨rfl, ⟨nd, rfl⟩⟩; refine ⟨_, rfl, ?_⟩))
      go_ret
      exact ⟨by first | rfl | (simp; done) | (simp [*]; done) | (simp [xbne_nil, xbeq_nil]; done), by repeat (first | exact Drawn0.refl _ | apply Drawn0.step)⟩
  · replace c3 := Bool.eq_false_iff.mpr c3
    subst c3
    have H1 : (some false) = some r := by rw [if_neg (show ¬ (false = true) by decide)] at H; exact H
    clear H
    have H := H1
    clear H1
    obtain rfl := Option.some.inj H
    go_enter Tryd.func52, Tryd.ntmps52
    go_wp2_with (first | ((with_reducible refine gate_callee (f := 85) rfl ?_); refine goesL_ (some 4) rfl rfl Tryd.func85 (by kernel_rfl) rfl #[.string a0, .string (⟨#[33]⟩ : ByteArray)] rfl (by (try simp only [List.map_toArray, List.map_cons, List.map_nil]); first | done | rfl | (simp only [List.length_drop, List.length_take]; rfl)) ?_; (with_reducible refine (grilleref03_begins.calls a0 (⟨#[33]⟩ : ByteArray) false _ A2.out).mono ?_); rintro e w' ⟨rfl, ⟨nd, rfl⟩⟩; refine ⟨_, rfl, ?_⟩))
    go_ret
    exact ⟨by first | rfl | (simp; done) | (simp [*]; done) | (simp [xbne_nil, xbeq_nil]; done), by repeat (first | exact Drawn0.refl _ | apply Drawn0.step)⟩
def grilleref03_Right.f (k : Nat) (a0 : ByteArray) : Option (Bool) := (grilleref03_Core.f k a0).bind fun t151 => (if t151 = true then (some true) else ((grilleref03_own.f k a0).bind fun t152 => (some t152)))
set_option maxHeartbeats 8000000 in
set_option maxRecDepth 100000 in
theorem grilleref03_Right.calls (k : Nat) (a0 : ByteArray) (r : Bool) (w : World) (h : grilleref03_Right.f k a0 = some r) :
    Calls Tryd.prog 26 #[.string a0] w fun e w' => e = .returned (.bool r) ∧ Below w.heap.size w w' := by
  have HB := Aside0.mk (Below.refl w.heap.size w)
  have H : ((grilleref03_Core.f k a0).bind fun t151 => (if t151 = true then (some true) else ((grilleref03_own.f k a0).bind fun t152 => (some t152)))) = some r := h
  clear h
  replace H := Option.bind_eq_some_iff.mp H
  obtain ⟨t151, A20, H⟩ := H
  replace H : (if t151 = true then (some true) else ((grilleref03_own.f k a0).bind fun t152 => (some t152))) = some r := H
  have A2 := Aside0.mk A20
  clear A20
  by_cases c3 : t151 = true
  · subst c3
    have H1 : (some true) = some r := by rw [if_pos rfl] at H; exact H
    clear H
    have H := H1
    clear H1
    obtain rfl := Option.some.inj H
    go_enter Tryd.func26, Tryd.ntmps26
    go_wp2_with (first | ((with_reducible refine gate_callee (f := 27) rfl ?_); refine goesL_ (some 4) rfl rfl Tryd.func27 (by kernel_rfl) rfl #[.string a0] rfl (by (try simp only [List.map_toArray, List.map_cons, List.map_nil]); first | done | rfl | (simp only [List.length_drop, List.length_take]; rfl)) ?_; (with_reducible refine (grilleref03_Core.calls k a0 true _ A2.out).mono ?_); rintro e w4 ⟨rfl, hb⟩; refine ⟨_, rfl, ?_⟩; have n0_ := Aside0.mk (below_step (by repeat (first | (with_reducible first | exact HB.out | apply below_alloc | apply pw_below_drewN | apply below_drew1) | exact HB.out)) hb); clear HB; have HB := n0_; clear n0_; (try clear hb); (try clear hb2); (try clear hk); (try clear hi)))
    go_ret
    exact ⟨by first | rfl | (simp [errW_none, errW_some] <;> rfl) | (simp [*, errW_none, errW_some] <;> rfl), by repeat (first | (with_reducible first | exact HB.out | apply below_alloc | apply pw_below_drewN | apply below_drew1) | exact HB.out)⟩
  · replace c3 := Bool.eq_false_iff.mpr c3
    subst c3
    have H1 : ((grilleref03_own.f k a0).bind fun t152 => (some t152)) = some r := by rw [if_neg (show ¬ (false = true) by decide)] at H; exact H
    clear H
    have H := H1
    clear H1
    replace H := Option.bind_eq_some_iff.mp H
    obtain ⟨t152, A50, H⟩ := H
    replace H : (some t152) = some r := H
    have A5 := Aside0.mk A50
    clear A50
    obtain rfl := Option.some.inj H
    go_enter Tryd.func26, Tryd.ntmps26
    go_wp2_with (first | ((with_reducible refine gate_callee (f := 27) rfl ?_); refine goesL_ (some 4) rfl rfl Tryd.func27 (by kernel_rfl) rfl #[.string a0] rfl (by (try simp only [List.map_toArray, List.map_cons, List.map_nil]); first | done | rfl | (simp only [List.length_drop, List.length_take]; rfl)) ?_; (with_reducible refine (grilleref03_Core.calls k a0 false _ A2.out).mono ?_); rintro e w6 ⟨rfl, hb⟩; refine ⟨_, rfl, ?_⟩; have n0_ := Aside0.mk (below_step (by repeat (first | (with_reducible first | exact HB.out | apply below_alloc | apply pw_below_drewN | apply below_drew1) | exact HB.out)) hb); clear HB; have HB := n0_; clear n0_; (try clear hb); (try clear hb2); (try clear hk); (try clear hi)) | (go_at_call 52; (with_reducible refine (grilleref03_own.calls k a0 t152 _ A5.out).mono ?_); rintro e w' ⟨rfl, ⟨nd, rfl⟩⟩))
    go_ret
    exact ⟨by first | rfl | (simp [errW_none, errW_some] <;> rfl) | (simp [*, errW_none, errW_some] <;> rfl), by repeat (first | (with_reducible first | exact HB.out | apply below_alloc | apply pw_below_drewN | apply below_drew1) | exact HB.out)⟩
end Go.Proofs.YtgnmjaacnmkgnaaDoor.T
end
