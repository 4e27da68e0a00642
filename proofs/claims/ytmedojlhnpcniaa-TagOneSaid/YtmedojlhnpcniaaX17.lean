/- Printed by a program of ours (wip/tools) out of the translation: each function as a plain Lean function, and a proof that the call answers so. -/
import Derived.Test.YtmedojlhnpcniaaX0
import Derived.Test.YtmedojlhnpcniaaX6
import Derived.Test.YtmedojlhnpcniaaX7
namespace Go.Proofs.Ytmedojlhnpcniaa.X
open Go.RowKit Go.Proofs.YtmedojlhnpcniaaW.PrintWords Go.Proofs.YtmedojlhnpcniaaW.PrintLast Go.Proofs.YtmedojlhnpcniaaW.PrintMore
attribute [local go_sem] max2_int min2_int max_two min_two max_three min_three max_four min_four   -- for this text's walks alone
set_option linter.unusedVariables false
set_option linter.unusedSimpArgs false

/-! ### grillelaw03_TagBack: function 5 -/
mutual
def grillelaw03_TagBack.j0 : Nat → ByteArray → ByteArray → ByteArray → Bool → Option (Bool)
  | 0, _, _, _, _ => none
  | k + 1, x0, x1, x2, x26 => if x26 = true then (some true) else ((tag_Word.f x0).bind fun t225 => ((tag_Right.f x0).bind fun t226 => (if t226 = true then ((tag_Read.f t225).bind fun bt227 => ((tag_Read.f x2).bind fun bt229 => (if bt227.1.toList = x0.toList then (if bt227.2 = 0 then ((tag_Right.f x1).bind fun t231 => (if t231 = true then ((tag_Word.f x1).bind fun t232 => (grillelaw03_TagBack.j1 k x2 bt229.1 bt229.2 ((t232.toList == t225.toList) != (x0.toList == x1.toList)))) else (grillelaw03_TagBack.j1 k x2 bt229.1 bt229.2 false))) else (grillelaw03_TagBack.j1 k x2 bt229.1 bt229.2 true)) else (grillelaw03_TagBack.j1 k x2 bt229.1 bt229.2 true)))) else (some (t225.toList == ([] : List UInt8))))))
def grillelaw03_TagBack.j1 : Nat → ByteArray → ByteArray → Int → Bool → Option (Bool)
  | 0, _, _, _, _ => none
  | k + 1, x2, x10, x11, x64 => if x64 = true then (some false) else (if x11 = 0 then ((tag_Word.f x10).bind fun t233 => (if t233.toList = x2.toList then ((tag_Right.f x10).bind fun t234 => (some t234)) else (some false))) else (if x10.toList = ([] : List UInt8) then (some true) else (some false)))
end
def grillelaw03_TagBack.f (k : Nat) (a0 : ByteArray) (a1 : ByteArray) (a2 : ByteArray) : Option (Bool) := (grillelaw03_alive.f k).bind fun t224 => (if t224 = true then (if (a0.size : Int) > 400 then (grillelaw03_TagBack.j0 k a0 a1 a2 true) else (if (a1.size : Int) > 400 then (grillelaw03_TagBack.j0 k a0 a1 a2 true) else (grillelaw03_TagBack.j0 k a0 a1 a2 (decide ((a2.size : Int) > 400))))) else (some false))
theorem grillelaw03_TagBack.mono_l : ∀ k, (∀ y0 y1 y2 y3, LeO (grillelaw03_TagBack.j0 k y0 y1 y2 y3) (grillelaw03_TagBack.j0 (k + 1) y0 y1 y2 y3)) ∧ (∀ y0 y1 y2 y3, LeO (grillelaw03_TagBack.j1 k y0 y1 y2 y3) (grillelaw03_TagBack.j1 (k + 1) y0 y1 y2 y3))
  | 0 => ⟨fun _ _ _ _ r h => by simp [grillelaw03_TagBack.j0] at h, fun _ _ _ _ r h => by simp [grillelaw03_TagBack.j1] at h⟩
  | k + 1 => by
    obtain ⟨ih0, ih1⟩ := grillelaw03_TagBack.mono_l k
    refine ⟨?_, ?_⟩
    · intro y0 y1 y2 y3
      unfold grillelaw03_TagBack.j0
      repeat' first
      | (with_reducible exact ih0 _ _ _ _)
      | (with_reducible exact ih1 _ _ _ _)
      | (with_reducible exact grillelaw03_alive.mono _)
      | (with_reducible exact LeO.refl _)
      | (with_reducible exact LeO.none _)
      | (with_reducible refine LeO.ite ?_ ?_)
      | (with_reducible refine LeO.bind ?_ (fun _ => ?_))
      | exact ih0 _ _ _ _
      | exact ih1 _ _ _ _
      | exact grillelaw03_alive.mono _
      | exact LeO.none _
      | refine LeO.ite ?_ ?_
      | refine LeO.bind ?_ (fun _ => ?_)
    · intro y0 y1 y2 y3
      unfold grillelaw03_TagBack.j1
      repeat' first
      | (with_reducible exact ih0 _ _ _ _)
      | (with_reducible exact ih1 _ _ _ _)
      | (with_reducible exact grillelaw03_alive.mono _)
      | (with_reducible exact LeO.refl _)
      | (with_reducible exact LeO.none _)
      | (with_reducible refine LeO.ite ?_ ?_)
      | (with_reducible refine LeO.bind ?_ (fun _ => ?_))
      | exact ih0 _ _ _ _
      | exact ih1 _ _ _ _
      | exact grillelaw03_alive.mono _
      | exact LeO.none _
      | refine LeO.ite ?_ ?_
      | refine LeO.bind ?_ (fun _ => ?_)
theorem grillelaw03_TagBack.mono : ∀ a0 a1 a2 k, LeO (grillelaw03_TagBack.f k a0 a1 a2) (grillelaw03_TagBack.f (k + 1) a0 a1 a2) := by
  intro a0 a1 a2 k
  obtain ⟨ih0, ih1⟩ := grillelaw03_TagBack.mono_l k
  unfold grillelaw03_TagBack.f
  repeat' first
      | (with_reducible exact ih0 _ _ _ _)
      | (with_reducible exact ih1 _ _ _ _)
      | (with_reducible exact grillelaw03_alive.mono _)
      | (with_reducible exact LeO.refl _)
      | (with_reducible exact LeO.none _)
      | (with_reducible refine LeO.ite ?_ ?_)
      | (with_reducible refine LeO.bind ?_ (fun _ => ?_))
      | exact ih0 _ _ _ _
      | exact ih1 _ _ _ _
      | exact grillelaw03_alive.mono _
      | exact LeO.none _
      | refine LeO.ite ?_ ?_
      | refine LeO.bind ?_ (fun _ => ?_)
set_option maxHeartbeats 8000000 in
set_option maxRecDepth 100000 in
theorem grillelaw03_TagBack.calls (k : Nat) (a0 : ByteArray) (a1 : ByteArray) (a2 : ByteArray) (r : Bool) (w : World) (h : grillelaw03_TagBack.f k a0 a1 a2 = some r) :
    Calls Try.prog 5 #[.string a0, .string a1, .string a2] w fun e w' => e = .returned (.bool r) ∧ Below w.heap.size w w' := by
  have HB := Aside0.mk (Below.refl w.heap.size w)
  have H : ((grillelaw03_alive.f k).bind fun t224 => (if t224 = true then (if (a0.size : Int) > 400 then (grillelaw03_TagBack.j0 k a0 a1 a2 true) else (if (a1.size : Int) > 400 then (grillelaw03_TagBack.j0 k a0 a1 a2 true) else (grillelaw03_TagBack.j0 k a0 a1 a2 (decide ((a2.size : Int) > 400))))) else (some false))) = some r := h
  clear h
  replace H := Option.bind_eq_some_iff.mp H
  obtain ⟨t224, A40, H⟩ := H
  replace H : (if t224 = true then (if (a0.size : Int) > 400 then (grillelaw03_TagBack.j0 k a0 a1 a2 true) else (if (a1.size : Int) > 400 then (grillelaw03_TagBack.j0 k a0 a1 a2 true) else (grillelaw03_TagBack.j0 k a0 a1 a2 (decide ((a2.size : Int) > 400))))) else (some false)) = some r := H
  have A4 := Aside0.mk A40
  clear A40
  by_cases c5 : t224 = true
  · subst c5
    have H1 : (if (a0.size : Int) > 400 then (grillelaw03_TagBack.j0 k a0 a1 a2 true) else (if (a1.size : Int) > 400 then (grillelaw03_TagBack.j0 k a0 a1 a2 true) else (grillelaw03_TagBack.j0 k a0 a1 a2 (decide ((a2.size : Int) > 400))))) = some r := by rw [if_pos rfl] at H; exact H
    clear H
    have H := H1
    clear H1
    have HC6 := Aside0.mk H
    clear H
    go_enter Try.func5, Try.ntmps5
    go_upto_region 3 with (first | ((with_reducible refine gate_callee (f := 7) rfl ?_); refine goesL_ (some 12) rfl rfl Try.func7 (by kernel_rfl) rfl #[] rfl (by (try simp only [List.map_toArray, List.map_cons, List.map_nil]); first | done | rfl | (simp only [List.length_drop, List.length_take]; rfl)) ?_; (with_reducible refine (grillelaw03_alive.calls k  true _ A4.out).mono ?_); rintro e w7 ⟨rfl, hb⟩; refine ⟨_, rfl, ?_⟩; have n0_ := Aside0.mk (below_step (by repeat (first | (with_reducible first | exact HB.out | apply below_alloc | apply pw_below_drewN | apply below_drew1) | exact HB.out)) hb); clear HB; have HB := n0_; clear n0_; (try clear hb); (try clear hb2); (try clear hk); (try clear hi)))
    (try simp only [Act.put, List.setIfInBounds_toArray, List.set_cons_zero, List.set_cons_succ])
    go_cut [26] (fun v26 wc => ∃ (kq : Nat) (x26_5 : Bool), v26 = .bool x26_5 ∧ Aside0 (grillelaw03_TagBack.j0 kq a0 a1 a2 x26_5 = some r) ∧ Aside0 (kq ≤ k) ∧ Aside0 (Below w.heap.size w wc))
    case first =>
      have H := HC6.out
      clear HC6
      by_cases c8 : (a0.size : Int) > 400
      · rw [if_pos c8] at H
        have c8b0 : decide (400 < (a0.size : Int)) = true := decide_eq_true c8
        have c8b1 : decide (400 < a0.size) = true := decide_eq_true (by omega)
        clear c8
        (first | rw [c8b0] | (simp only [i64_w, i32_w]; rw [c8b0]) | skip)
        have H' := Aside0.mk H
        clear H
        go_wp2
        go_meet
        case rel => exact ⟨_, (true), (by first | rfl | (simp; done) | (simp [*]; done) | (simp [xbne_nil, xbeq_nil]; done)), H', ⟨by first | omega | exact Nat.le_refl _⟩, ⟨by repeat (first | (with_reducible first | exact HB.out | apply below_alloc | apply pw_below_drewN | apply below_drew1) | exact HB.out)⟩⟩
      · rw [if_neg c8] at H
        have c8b0 : decide (400 < (a0.size : Int)) = false := decide_eq_false c8
        have c8b1 : decide (400 < a0.size) = false := decide_eq_false (by omega)
        clear c8
        (first | rw [c8b0] | (simp only [i64_w, i32_w]; rw [c8b0]) | skip)
        by_cases c9 : (a1.size : Int) > 400
        · rw [if_pos c9] at H
          have c9b0 : decide (400 < (a1.size : Int)) = true := decide_eq_true c9
          have c9b1 : decide (400 < a1.size) = true := decide_eq_true (by omega)
          clear c9
          have H' := Aside0.mk H
          clear H
          go_wp2
          go_meet
          case rel => exact ⟨_, (true), (by first | rfl | (simp; done) | (simp [*]; done) | (simp [xbne_nil, xbeq_nil]; done)), H', ⟨by first | omega | exact Nat.le_refl _⟩, ⟨by repeat (first | (with_reducible first | exact HB.out | apply below_alloc | apply pw_below_drewN | apply below_drew1) | exact HB.out)⟩⟩
        · rw [if_neg c9] at H
          have c9b0 : decide (400 < (a1.size : Int)) = false := decide_eq_false c9
          have c9b1 : decide (400 < a1.size) = false := decide_eq_false (by omega)
          clear c9
          have H' := Aside0.mk H
          clear H
          go_wp2
          go_meet
          case rel => exact ⟨_, (decide ((a2.size : Int) > 400)), (by first | rfl | (simp; done) | (simp [*]; done) | (simp [xbne_nil, xbeq_nil]; done)), H', ⟨by first | omega | exact Nat.le_refl _⟩, ⟨by repeat (first | (with_reducible first | exact HB.out | apply below_alloc | apply pw_below_drewN | apply below_drew1) | exact HB.out)⟩⟩
    case rest =>
      clear HC6
      try clear p2
      try clear c5
      try clear c7
      try clear c8
      try clear c8b0
      try clear c8b1
      try clear c9
      try clear c9b0
      try clear c9b1
      obtain ⟨kq, x26_5, rfl, HA, HJ5, HB⟩ := hcut
      cases kq with
      | zero => exact absurd HA.out (by simp [grillelaw03_TagBack.j0])
      | succ kj5 =>
        have H := HA.out
        clear HA
        simp only [grillelaw03_TagBack.j0] at H
        by_cases c10 : x26_5 = true
        · subst c10
          have H1 : (some true) = some r := by rw [if_pos rfl] at H; exact H
          clear H
          have H := H1
          clear H1
          obtain rfl := Option.some.inj H
          go_wp2
          go_ret
          exact ⟨by first | rfl | (simp [errW_none, errW_some] <;> rfl) | (simp [*, errW_none, errW_some] <;> rfl), by repeat (first | (with_reducible first | exact HB.out | apply below_alloc | apply pw_below_drewN | apply below_drew1) | exact HB.out)⟩
        · replace c10 := Bool.eq_false_iff.mpr c10
          subst c10
          have H1 : ((tag_Word.f a0).bind fun t225 => ((tag_Right.f a0).bind fun t226 => (if t226 = true then ((tag_Read.f t225).bind fun bt227 => ((tag_Read.f a2).bind fun bt229 => (if bt227.1.toList = a0.toList then (if bt227.2 = 0 then ((tag_Right.f a1).bind fun t231 => (if t231 = true then ((tag_Word.f a1).bind fun t232 => (grillelaw03_TagBack.j1 kj5 a2 bt229.1 bt229.2 ((t232.toList == t225.toList) != (a0.toList == a1.toList)))) else (grillelaw03_TagBack.j1 kj5 a2 bt229.1 bt229.2 false))) else (grillelaw03_TagBack.j1 kj5 a2 bt229.1 bt229.2 true)) else (grillelaw03_TagBack.j1 kj5 a2 bt229.1 bt229.2 true)))) else (some (t225.toList == ([] : List UInt8)))))) = some r := by rw [if_neg (show ¬ (false = true) by decide)] at H; exact H
          clear H
          have H := H1
          clear H1
          replace H := Option.bind_eq_some_iff.mp H
          obtain ⟨t225, A110, H⟩ := H
          replace H : ((tag_Right.f a0).bind fun t226 => (if t226 = true then ((tag_Read.f t225).bind fun bt227 => ((tag_Read.f a2).bind fun bt229 => (if bt227.1.toList = a0.toList then (if bt227.2 = 0 then ((tag_Right.f a1).bind fun t231 => (if t231 = true then ((tag_Word.f a1).bind fun t232 => (grillelaw03_TagBack.j1 kj5 a2 bt229.1 bt229.2 ((t232.toList == t225.toList) != (a0.toList == a1.toList)))) else (grillelaw03_TagBack.j1 kj5 a2 bt229.1 bt229.2 false))) else (grillelaw03_TagBack.j1 kj5 a2 bt229.1 bt229.2 true)) else (grillelaw03_TagBack.j1 kj5 a2 bt229.1 bt229.2 true)))) else (some (t225.toList == ([] : List UInt8))))) = some r := H
          have A11 := Aside0.mk A110
          clear A110
          replace H := Option.bind_eq_some_iff.mp H
          obtain ⟨t226, A120, H⟩ := H
          replace H : (if t226 = true then ((tag_Read.f t225).bind fun bt227 => ((tag_Read.f a2).bind fun bt229 => (if bt227.1.toList = a0.toList then (if bt227.2 = 0 then ((tag_Right.f a1).bind fun t231 => (if t231 = true then ((tag_Word.f a1).bind fun t232 => (grillelaw03_TagBack.j1 kj5 a2 bt229.1 bt229.2 ((t232.toList == t225.toList) != (a0.toList == a1.toList)))) else (grillelaw03_TagBack.j1 kj5 a2 bt229.1 bt229.2 false))) else (grillelaw03_TagBack.j1 kj5 a2 bt229.1 bt229.2 true)) else (grillelaw03_TagBack.j1 kj5 a2 bt229.1 bt229.2 true)))) else (some (t225.toList == ([] : List UInt8)))) = some r := H
          have A12 := Aside0.mk A120
          clear A120
          by_cases c13 : t226 = true
          · subst c13
            have H1 : ((tag_Read.f t225).bind fun bt227 => ((tag_Read.f a2).bind fun bt229 => (if bt227.1.toList = a0.toList then (if bt227.2 = 0 then ((tag_Right.f a1).bind fun t231 => (if t231 = true then ((tag_Word.f a1).bind fun t232 => (grillelaw03_TagBack.j1 kj5 a2 bt229.1 bt229.2 ((t232.toList == t225.toList) != (a0.toList == a1.toList)))) else (grillelaw03_TagBack.j1 kj5 a2 bt229.1 bt229.2 false))) else (grillelaw03_TagBack.j1 kj5 a2 bt229.1 bt229.2 true)) else (grillelaw03_TagBack.j1 kj5 a2 bt229.1 bt229.2 true)))) = some r := by rw [if_pos rfl] at H; exact H
            clear H
            have H := H1
            clear H1
            replace H := Option.bind_eq_some_iff.mp H
            obtain ⟨⟨t227, t228⟩, A140, H⟩ := H
            replace H : ((tag_Read.f a2).bind fun bt229 => (if t227.toList = a0.toList then (if t228 = 0 then ((tag_Right.f a1).bind fun t231 => (if t231 = true then ((tag_Word.f a1).bind fun t232 => (grillelaw03_TagBack.j1 kj5 a2 bt229.1 bt229.2 ((t232.toList == t225.toList) != (a0.toList == a1.toList)))) else (grillelaw03_TagBack.j1 kj5 a2 bt229.1 bt229.2 false))) else (grillelaw03_TagBack.j1 kj5 a2 bt229.1 bt229.2 true)) else (grillelaw03_TagBack.j1 kj5 a2 bt229.1 bt229.2 true))) = some r := H
            have A14 := Aside0.mk A140
            clear A140
            replace H := Option.bind_eq_some_iff.mp H
            obtain ⟨⟨t229, t230⟩, A150, H⟩ := H
            replace H : (if t227.toList = a0.toList then (if t228 = 0 then ((tag_Right.f a1).bind fun t231 => (if t231 = true then ((tag_Word.f a1).bind fun t232 => (grillelaw03_TagBack.j1 kj5 a2 t229 t230 ((t232.toList == t225.toList) != (a0.toList == a1.toList)))) else (grillelaw03_TagBack.j1 kj5 a2 t229 t230 false))) else (grillelaw03_TagBack.j1 kj5 a2 t229 t230 true)) else (grillelaw03_TagBack.j1 kj5 a2 t229 t230 true)) = some r := H
            have A15 := Aside0.mk A150
            clear A150
            have HC16 := Aside0.mk H
            clear H
            go_upto_region 10 with (first | ((with_reducible refine gate_callee (f := 18) rfl ?_); refine goesL_ (some 28) rfl rfl Try.func18 (by kernel_rfl) rfl #[.string a0] rfl (by (try simp only [List.map_toArray, List.map_cons, List.map_nil]); first | done | rfl | (simp only [List.length_drop, List.length_take]; rfl)) ?_; (with_reducible refine (tag_Word.calls a0 t225 _ A11.out).mono ?_); rintro e w17 ⟨rfl, hb⟩; refine ⟨_, rfl, ?_⟩; have n0_ := Aside0.mk (below_step (by repeat (first | (with_reducible first | exact HB.out | apply below_alloc | apply pw_below_drewN | apply below_drew1) | exact HB.out)) hb); clear HB; have HB := n0_; clear n0_; (try clear hb); (try clear hb2); (try clear hk); (try clear hi)) | ((with_reducible refine gate_callee (f := 16) rfl ?_); refine goesL_ (some 30) rfl rfl Try.func16 (by kernel_rfl) rfl #[.string a0] rfl (by (try simp only [List.map_toArray, List.map_cons, List.map_nil]); first | done | rfl | (simp only [List.length_drop, List.length_take]; rfl)) ?_; (with_reducible refine (tag_Right.calls a0 true _ A12.out).mono ?_); rintro e w18 ⟨rfl, hb⟩; refine ⟨_, rfl, ?_⟩; have n0_ := Aside0.mk (below_step (by repeat (first | (with_reducible first | exact HB.out | apply below_alloc | apply pw_below_drewN | apply below_drew1) | exact HB.out)) hb); clear HB; have HB := n0_; clear n0_; (try clear hb); (try clear hb2); (try clear hk); (try clear hi)) | ((with_reducible refine gate_callee (f := 12) rfl ?_); refine goesL_ (some 36) rfl rfl Try.func12 (by kernel_rfl) rfl #[.string t225] rfl (by (try simp only [List.map_toArray, List.map_cons, List.map_nil]); first | done | rfl | (simp only [List.length_drop, List.length_take]; rfl)) ?_; (with_reducible refine (tag_Read.calls t225 t227 t228 _ A14.out).mono ?_); rintro e w19 ⟨rfl, hb⟩; refine ⟨_, rfl, ?_⟩; have n0_ := Aside0.mk (below_step (by repeat (first | (with_reducible first | exact HB.out | apply below_alloc | apply pw_below_drewN | apply below_drew1) | exact HB.out)) hb); clear HB; have HB := n0_; clear n0_; (try clear hb); (try clear hb2); (try clear hk); (try clear hi)) | ((with_reducible refine gate_callee (f := 12) rfl ?_); refine goesL_ (some 41) rfl rfl Try.func12 (by kernel_rfl) rfl #[.string a2] rfl (by (try simp only [List.map_toArray, List.map_cons, List.map_nil]); first | done | rfl | (simp only [List.length_drop, List.length_take]; rfl)) ?_; (with_reducible refine (tag_Read.calls a2 t229 t230 _ A15.out).mono ?_); rintro e w20 ⟨rfl, hb⟩; refine ⟨_, rfl, ?_⟩; have n0_ := Aside0.mk (below_step (by repeat (first | (with_reducible first | exact HB.out | apply below_alloc | apply pw_below_drewN | apply below_drew1) | exact HB.out)) hb); clear HB; have HB := n0_; clear n0_; (try clear hb); (try clear hb2); (try clear hk); (try clear hi)))
            (try simp only [Act.put, List.setIfInBounds_toArray, List.set_cons_zero, List.set_cons_succ])
            go_cut [64] (fun v64 wc => ∃ (kq : Nat) (x64_15 : Bool), v64 = .bool x64_15 ∧ Aside0 (grillelaw03_TagBack.j1 kq a2 t229 t230 x64_15 = some r) ∧ Aside0 (kq ≤ kj5) ∧ Aside0 (Below w.heap.size w wc))
            case first =>
              have H := HC16.out
              clear HC16
              by_cases c21 : t227.toList = a0.toList
              · rw [if_pos c21] at H
                have c21b0 : (t227.toList == a0.toList) = true := beq_iff_eq.mpr c21
                have c21b1 : (t227.toList != a0.toList) = false := bne_eq_false_iff_eq.mpr c21
                clear c21
                (first | rw [c21b0] | (simp only [i64_w, i32_w]; rw [c21b0]) | skip)
                by_cases c22 : t228 = 0
                · rw [if_pos c22] at H
                  have c22b0 : (t228 == 0) = true := beq_iff_eq.mpr c22
                  have c22b1 : (t228 != 0) = false := bne_eq_false_iff_eq.mpr c22
                  clear c22
                  replace H := Option.bind_eq_some_iff.mp H
                  obtain ⟨t231, A230, H⟩ := H
                  replace H : (if t231 = true then ((tag_Word.f a1).bind fun t232 => (grillelaw03_TagBack.j1 kj5 a2 t229 t230 ((t232.toList == t225.toList) != (a0.toList == a1.toList)))) else (grillelaw03_TagBack.j1 kj5 a2 t229 t230 false)) = some r := H
                  have A23 := Aside0.mk A230
                  clear A230
                  by_cases c24 : t231 = true
                  · subst c24
                    have H1 : ((tag_Word.f a1).bind fun t232 => (grillelaw03_TagBack.j1 kj5 a2 t229 t230 ((t232.toList == t225.toList) != (a0.toList == a1.toList)))) = some r := by rw [if_pos rfl] at H; exact H
                    clear H
                    have H := H1
                    clear H1
                    replace H := Option.bind_eq_some_iff.mp H
                    obtain ⟨t232, A250, H⟩ := H
                    replace H : (grillelaw03_TagBack.j1 kj5 a2 t229 t230 ((t232.toList == t225.toList) != (a0.toList == a1.toList))) = some r := H
                    have A25 := Aside0.mk A250
                    clear A250
                    have H' := Aside0.mk H
                    clear H
                    go_wp2_with (first | (go_at_call 16; (with_reducible refine (tag_Right.calls a1 true _ A23.out).mono ?_); rintro e w26 ⟨rfl, hb⟩; have n0_ := Aside0.mk (below_step (by repeat (first | (with_reducible first | exact HB.out | apply below_alloc | apply pw_below_drewN | apply below_drew1) | exact HB.out)) hb); clear HB; have HB := n0_; clear n0_; (try clear hb); (try clear hb2); (try clear hk); (try clear hi)) | (go_at_call 18; (with_reducible refine (tag_Word.calls a1 t232 _ A25.out).mono ?_); rintro e w27 ⟨rfl, hb⟩; have n0_ := Aside0.mk (below_step (by repeat (first | (with_reducible first | exact HB.out | apply below_alloc | apply pw_below_drewN | apply below_drew1) | exact HB.out)) hb); clear HB; have HB := n0_; clear n0_; (try clear hb); (try clear hb2); (try clear hk); (try clear hi)))
                    go_meet
                    case rel => exact ⟨_, (((t232.toList == t225.toList) != (a0.toList == a1.toList))), (by first | rfl | (simp; done) | (simp [*]; done) | (simp [xbne_nil, xbeq_nil]; done)), H', ⟨by have := HJ5.out; first | omega | exact Nat.le_refl _⟩, ⟨by repeat (first | (with_reducible first | exact HB.out | apply below_alloc | apply pw_below_drewN | apply below_drew1) | exact HB.out)⟩⟩
                  · replace c24 := Bool.eq_false_iff.mpr c24
                    subst c24
                    have H1 : (grillelaw03_TagBack.j1 kj5 a2 t229 t230 false) = some r := by rw [if_neg (show ¬ (false = true) by decide)] at H; exact H
                    clear H
                    have H := H1
                    clear H1
                    have H' := Aside0.mk H
                    clear H
                    go_wp2_with (first | (go_at_call 16; (with_reducible refine (tag_Right.calls a1 false _ A23.out).mono ?_); rintro e w28 ⟨rfl, hb⟩; have n0_ := Aside0.mk (below_step (by repeat (first | (with_reducible first | exact HB.out | apply below_alloc | apply pw_below_drewN | apply below_drew1) | exact HB.out)) hb); clear HB; have HB := n0_; clear n0_; (try clear hb); (try clear hb2); (try clear hk); (try clear hi)))
                    go_meet
                    case rel => exact ⟨_, (false), (by first | rfl | (simp; done) | (simp [*]; done) | (simp [xbne_nil, xbeq_nil]; done)), H', ⟨by have := HJ5.out; first | omega | exact Nat.le_refl _⟩, ⟨by repeat (first | (with_reducible first | exact HB.out | apply below_alloc | apply pw_below_drewN | apply below_drew1) | exact HB.out)⟩⟩
                · rw [if_neg c22] at H
                  have c22b0 : (t228 == 0) = false := beq_eq_false_iff_ne.mpr c22
                  have c22b1 : (t228 != 0) = true := bne_iff_ne.mpr c22
                  have H' := Aside0.mk H
                  clear H
                  go_wp2
                  go_meet
                  case rel => exact ⟨_, (true), (by first | rfl | (simp; done) | (simp [*]; done) | (simp [xbne_nil, xbeq_nil]; done)), H', ⟨by have := HJ5.out; first | omega | exact Nat.le_refl _⟩, ⟨by repeat (first | (with_reducible first | exact HB.out | apply below_alloc | apply pw_below_drewN | apply below_drew1) | exact HB.out)⟩⟩
              · rw [if_neg c21] at H
                have c21b0 : (t227.toList == a0.toList) = false := beq_eq_false_iff_ne.mpr c21
                have c21b1 : (t227.toList != a0.toList) = true := bne_iff_ne.mpr c21
                (first | rw [c21b0] | (simp only [i64_w, i32_w]; rw [c21b0]) | skip)
                have H' := Aside0.mk H
                clear H
                go_wp2
                go_meet
                case rel => exact ⟨_, (true), (by first | rfl | (simp; done) | (simp [*]; done) | (simp [xbne_nil, xbeq_nil]; done)), H', ⟨by have := HJ5.out; first | omega | exact Nat.le_refl _⟩, ⟨by repeat (first | (with_reducible first | exact HB.out | apply below_alloc | apply pw_below_drewN | apply below_drew1) | exact HB.out)⟩⟩
            case rest =>
              clear HC16
              try clear c1
              try clear c2
              try clear p2
              try clear c5
              try clear c7
              try clear c8
              try clear c8b0
              try clear c8b1
              try clear c9
              try clear c9b0
              try clear c9b1
              try clear c10
              try clear c12
              try clear c13
              try clear c16
              try clear c18
              try clear c21
              try clear c21b0
              try clear c21b1
              try clear c22
              try clear c22b0
              try clear c22b1
              try clear c24
              try clear p2
              obtain ⟨kq, x64_15, rfl, HA, HJ15, HB⟩ := hcut
              cases kq with
              | zero => exact absurd HA.out (by simp [grillelaw03_TagBack.j1])
              | succ kj15 =>
                have H := HA.out
                clear HA
                simp only [grillelaw03_TagBack.j1] at H
                by_cases c29 : x64_15 = true
                · subst c29
                  have H1 : (some false) = some r := by rw [if_pos rfl] at H; exact H
                  clear H
                  have H := H1
                  clear H1
                  obtain rfl := Option.some.inj H
                  go_wp2
                  go_ret
                  exact ⟨by first | rfl | (simp [errW_none, errW_some] <;> rfl) | (simp [*, errW_none, errW_some] <;> rfl), by repeat (first | (with_reducible first | exact HB.out | apply below_alloc | apply pw_below_drewN | apply below_drew1) | exact HB.out)⟩
                · replace c29 := Bool.eq_false_iff.mpr c29
                  subst c29
                  have H1 : (if t230 = 0 then ((tag_Word.f t229).bind fun t233 => (if t233.toList = a2.toList then ((tag_Right.f t229).bind fun t234 => (some t234)) else (some false))) else (if t229.toList = ([] : List UInt8) then (some true) else (some false))) = some r := by rw [if_neg (show ¬ (false = true) by decide)] at H; exact H
                  clear H
                  have H := H1
                  clear H1
                  by_cases c30 : t230 = 0
                  · rw [if_pos c30] at H
                    have c30b0 : (t230 == 0) = true := beq_iff_eq.mpr c30
                    have c30b1 : (t230 != 0) = false := bne_eq_false_iff_eq.mpr c30
                    clear c30
                    replace H := Option.bind_eq_some_iff.mp H
                    obtain ⟨t233, A310, H⟩ := H
                    replace H : (if t233.toList = a2.toList then ((tag_Right.f t229).bind fun t234 => (some t234)) else (some false)) = some r := H
                    have A31 := Aside0.mk A310
                    clear A310
                    by_cases c32 : t233.toList = a2.toList
                    · rw [if_pos c32] at H
                      have c32b0 : (t233.toList == a2.toList) = true := beq_iff_eq.mpr c32
                      have c32b1 : (t233.toList != a2.toList) = false := bne_eq_false_iff_eq.mpr c32
                      clear c32
                      replace H := Option.bind_eq_some_iff.mp H
                      obtain ⟨t234, A330, H⟩ := H
                      replace H : (some t234) = some r := H
                      have A33 := Aside0.mk A330
                      clear A330
                      obtain rfl := Option.some.inj H
                      go_wp2_with (first | (go_at_call 18; (with_reducible refine (tag_Word.calls t229 t233 _ A31.out).mono ?_); rintro e w34 ⟨rfl, hb⟩; have n0_ := Aside0.mk (below_step (by repeat (first | (with_reducible first | exact HB.out | apply below_alloc | apply pw_below_drewN | apply below_drew1) | exact HB.out)) hb); clear HB; have HB := n0_; clear n0_; (try clear hb); (try clear hb2); (try clear hk); (try clear hi)) | (go_at_call 16; (with_reducible refine (tag_Right.calls t229 t234 _ A33.out).mono ?_); rintro e w35 ⟨rfl, hb⟩; have n0_ := Aside0.mk (below_step (by repeat (first | (with_reducible first | exact HB.out | apply below_alloc | apply pw_below_drewN | apply below_drew1) | exact HB.out)) hb); clear HB; have HB := n0_; clear n0_; (try clear hb); (try clear hb2); (try clear hk); (try clear hi)))
                      go_ret
                      exact ⟨by first | rfl | (simp [errW_none, errW_some] <;> rfl) | (simp [*, errW_none, errW_some] <;> rfl), by repeat (first | (with_reducible first | exact HB.out | apply below_alloc | apply pw_below_drewN | apply below_drew1) | exact HB.out)⟩
                    · rw [if_neg c32] at H
                      have c32b0 : (t233.toList == a2.toList) = false := beq_eq_false_iff_ne.mpr c32
                      have c32b1 : (t233.toList != a2.toList) = true := bne_iff_ne.mpr c32
                      obtain rfl := Option.some.inj H
                      go_wp2_with (first | (go_at_call 18; (with_reducible refine (tag_Word.calls t229 t233 _ A31.out).mono ?_); rintro e w36 ⟨rfl, hb⟩; have n0_ := Aside0.mk (below_step (by repeat (first | (with_reducible first | exact HB.out | apply below_alloc | apply pw_below_drewN | apply below_drew1) | exact HB.out)) hb); clear HB; have HB := n0_; clear n0_; (try clear hb); (try clear hb2); (try clear hk); (try clear hi)))
                      go_ret
                      exact ⟨by first | rfl | (simp [errW_none, errW_some] <;> rfl) | (simp [*, errW_none, errW_some] <;> rfl), by repeat (first | (with_reducible first | exact HB.out | apply below_alloc | apply pw_below_drewN | apply below_drew1) | exact HB.out)⟩
                  · rw [if_neg c30] at H
                    have c30b0 : (t230 == 0) = false := beq_eq_false_iff_ne.mpr c30
                    have c30b1 : (t230 != 0) = true := bne_iff_ne.mpr c30
                    by_cases c37 : t229.toList = ([] : List UInt8)
                    · rw [if_pos c37] at H
                      have c37b0 : (t229.toList == ([] : List UInt8)) = true := beq_iff_eq.mpr c37
                      have c37b1 : (t229.toList != ([] : List UInt8)) = false := bne_eq_false_iff_eq.mpr c37
                      clear c37
                      obtain rfl := Option.some.inj H
                      go_wp2
                      go_ret
                      exact ⟨by first | rfl | (simp [errW_none, errW_some] <;> rfl) | (simp [*, errW_none, errW_some] <;> rfl), by repeat (first | (with_reducible first | exact HB.out | apply below_alloc | apply pw_below_drewN | apply below_drew1) | exact HB.out)⟩
                    · rw [if_neg c37] at H
                      have c37b0 : (t229.toList == ([] : List UInt8)) = false := beq_eq_false_iff_ne.mpr c37
                      have c37b1 : (t229.toList != ([] : List UInt8)) = true := bne_iff_ne.mpr c37
                      obtain rfl := Option.some.inj H
                      go_wp2
                      go_ret
                      exact ⟨by first | rfl | (simp [errW_none, errW_some] <;> rfl) | (simp [*, errW_none, errW_some] <;> rfl), by repeat (first | (with_reducible first | exact HB.out | apply below_alloc | apply pw_below_drewN | apply below_drew1) | exact HB.out)⟩
          · replace c13 := Bool.eq_false_iff.mpr c13
            subst c13
            have H1 : (some (t225.toList == ([] : List UInt8))) = some r := by rw [if_neg (show ¬ (false = true) by decide)] at H; exact H
            clear H
            have H := H1
            clear H1
            obtain rfl := Option.some.inj H
            go_wp2_with (first | ((with_reducible refine gate_callee (f := 18) rfl ?_); refine goesL_ (some 28) rfl rfl Try.func18 (by kernel_rfl) rfl #[.string a0] rfl (by (try simp only [List.map_toArray, List.map_cons, List.map_nil]); first | done | rfl | (simp only [List.length_drop, List.length_take]; rfl)) ?_; (with_reducible refine (tag_Word.calls a0 t225 _ A11.out).mono ?_); rintro e w38 ⟨rfl, hb⟩; refine ⟨_, rfl, ?_⟩; have n0_ := Aside0.mk (below_step (by repeat (first | (with_reducible first | exact HB.out | apply below_alloc | apply pw_below_drewN | apply below_drew1) | exact HB.out)) hb); clear HB; have HB := n0_; clear n0_; (try clear hb); (try clear hb2); (try clear hk); (try clear hi)) | ((with_reducible refine gate_callee (f := 16) rfl ?_); refine goesL_ (some 30) rfl rfl Try.func16 (by kernel_rfl) rfl #[.string a0] rfl (by (try simp only [List.map_toArray, List.map_cons, List.map_nil]); first | done | rfl | (simp only [List.length_drop, List.length_take]; rfl)) ?_; (with_reducible refine (tag_Right.calls a0 false _ A12.out).mono ?_); rintro e w39 ⟨rfl, hb⟩; refine ⟨_, rfl, ?_⟩; have n0_ := Aside0.mk (below_step (by repeat (first | (with_reducible first | exact HB.out | apply below_alloc | apply pw_below_drewN | apply below_drew1) | exact HB.out)) hb); clear HB; have HB := n0_; clear n0_; (try clear hb); (try clear hb2); (try clear hk); (try clear hi)))
            go_ret
            exact ⟨by first | rfl | (simp [errW_none, errW_some] <;> rfl) | (simp [*, errW_none, errW_some] <;> rfl), by repeat (first | (with_reducible first | exact HB.out | apply below_alloc | apply pw_below_drewN | apply below_drew1) | exact HB.out)⟩
  · replace c5 := Bool.eq_false_iff.mpr c5
    subst c5
    have H1 : (some false) = some r := by rw [if_neg (show ¬ (false = true) by decide)] at H; exact H
    clear H
    have H := H1
    clear H1
    obtain rfl := Option.some.inj H
    go_enter Try.func5, Try.ntmps5
    go_wp2_with (first | ((with_reducible refine gate_callee (f := 7) rfl ?_); refine goesL_ (some 12) rfl rfl Try.func7 (by kernel_rfl) rfl #[] rfl (by (try simp only [List.map_toArray, List.map_cons, List.map_nil]); first | done | rfl | (simp only [List.length_drop, List.length_take]; rfl)) ?_; (with_reducible refine (grillelaw03_alive.calls k  false _ A4.out).mono ?_); rintro e w40 ⟨rfl, hb⟩; refine ⟨_, rfl, ?_⟩; have n0_ := Aside0.mk (below_step (by repeat (first | (with_reducible first | exact HB.out | apply below_alloc | apply pw_below_drewN | apply below_drew1) | exact HB.out)) hb); clear HB; have HB := n0_; clear n0_; (try clear hb); (try clear hb2); (try clear hk); (try clear hi)))
    go_ret
    exact ⟨by first | rfl | (simp [errW_none, errW_some] <;> rfl) | (simp [*, errW_none, errW_some] <;> rfl), by repeat (first | (with_reducible first | exact HB.out | apply below_alloc | apply pw_below_drewN | apply below_drew1) | exact HB.out)⟩

/-- THE ONE PURE STATEMENT of grillelaw03_TagBack: yours. -/
def grillelaw03_TagBack.Pure : Prop := ∀ (a0 : ByteArray) (a1 : ByteArray) (a2 : ByteArray), a0.size ≤ 140737488351232 → a1.size ≤ 140737488351232 → a2.size ≤ 140737488351232 → ∃ k, grillelaw03_TagBack.f k a0 a1 a2 = some true
theorem grillelaw03_TagBack.walk (P : grillelaw03_TagBack.Pure) (a0 : ByteArray) (a1 : ByteArray) (a2 : ByteArray) (w : World) (w0 : a0.size ≤ 140737488351232) (w1 : a1.size ≤ 140737488351232) (w2 : a2.size ≤ 140737488351232) :
    Calls Try.prog 5 #[.string a0, .string a1, .string a2] w fun e w' => e = .returned (.bool true) ∧ Below w.heap.size w w' := by
  obtain ⟨k, h⟩ := P a0 a1 a2 w0 w1 w2
  refine (grillelaw03_TagBack.calls k a0 a1 a2 true w h).mono ?_
  rintro e w' ⟨rfl, hd⟩
  exact ⟨rfl, hd⟩

end Go.Proofs.Ytmedojlhnpcniaa.X
