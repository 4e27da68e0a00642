/- Printed by a program of ours (wip/tools) out of the translation: each function as a plain Lean function, and a proof that the call answers so. -/
import Derived.Test.YtmedojlhnpcniaaX0
import Derived.Test.YtmedojlhnpcniaaX5
import Derived.Test.YtmedojlhnpcniaaX6
import Derived.Test.YtmedojlhnpcniaaX7
namespace Go.Proofs.Ytmedojlhnpcniaa.X
open Go.RowKit Go.Proofs.YtmedojlhnpcniaaW.PrintWords Go.Proofs.YtmedojlhnpcniaaW.PrintLast Go.Proofs.YtmedojlhnpcniaaW.PrintMore
attribute [local go_sem] max2_int min2_int max_two min_two max_three min_three max_four min_four   -- for this text's walks alone
set_option linter.unusedVariables false
set_option linter.unusedSimpArgs false

/-! ### grillelaw03_TagOne: function 6 -/
mutual
def grillelaw03_TagOne.j0 : Nat → ByteArray → ByteArray → Bool → Option (Bool)
  | 0, _, _, _ => none
  | k + 1, x0, x3, x39 => if x39 = true then (some false) else ((some (([(⟨#[110, 117, 108, 108]⟩ : ByteArray), (⟨#[98, 111, 111, 108]⟩ : ByteArray), (⟨#[105, 110, 116]⟩ : ByteArray), (⟨#[102, 108, 111, 97, 116]⟩ : ByteArray)] : List ByteArray) : List ByteArray)).bind fun y243 => (grillelaw03_TagOne.l0 k x0 x3 y243 (y243.length : Int) 0))
def grillelaw03_TagOne.l0 : Nat → ByteArray → ByteArray → List ByteArray → Int → Int → Option (Bool)
  | 0, _, _, _, _, _ => none
  | k + 1, x0, x3, x40, x41, x42 => if x42 < x41 then (if 0 ≤ x42 then (if x42 < (x40.length : Int) then ((tag_Fits.f k (rdOf ByteArray.empty x40 x42) x0).bind fun t247 => (if (rdOf ByteArray.empty x40 x42).toList = x3.toList then (if (t247 != true) = true then (some false) else (grillelaw03_TagOne.l0 k x0 x3 x40 x41 (wrap64 (x42 + 1)))) else (if (rdOf ByteArray.empty x40 x42).toList = ([102, 108, 111, 97, 116] : List UInt8) then (if (t247 != (x3.toList == ([105, 110, 116] : List UInt8))) = true then (some false) else (grillelaw03_TagOne.l0 k x0 x3 x40 x41 (wrap64 (x42 + 1)))) else (if (t247 != false) = true then (some false) else (grillelaw03_TagOne.l0 k x0 x3 x40 x41 (wrap64 (x42 + 1))))))) else (none)) else (none)) else (some true)
end
def grillelaw03_TagOne.f (k : Nat) (a0 : ByteArray) : Option (Bool) := (grillelaw03_alive.f k).bind fun t235 => (if t235 = true then (if (a0.size : Int) > 400 then (some true) else ((tag_Resolve.f k a0).bind fun t236 => ((tag_Core.f t236).bind fun t237 => (if t237 = true then ((tag_Fits.f k t236 a0).bind fun t238 => (if t238 = true then ((tag_Fits.f k (⟨#[115, 116, 114]⟩ : ByteArray) a0).bind fun t239 => (if t239 = true then ((tag_Fits.f k (⟨#[33, 111, 119, 110]⟩ : ByteArray) a0).bind fun t240 => (if t240 = true then ((tag_Fits.f k (⟨#[115, 101, 113]⟩ : ByteArray) a0).bind fun t241 => (if t241 = true then (grillelaw03_TagOne.j0 k a0 t236 true) else ((tag_Fits.f k (⟨#[109, 97, 112]⟩ : ByteArray) a0).bind fun t242 => (grillelaw03_TagOne.j0 k a0 t236 t242)))) else (grillelaw03_TagOne.j0 k a0 t236 true))) else (grillelaw03_TagOne.j0 k a0 t236 true))) else (grillelaw03_TagOne.j0 k a0 t236 true))) else (grillelaw03_TagOne.j0 k a0 t236 true))))) else (some false))
theorem grillelaw03_TagOne.mono_l : ∀ k, (∀ y0 y1 y2, LeO (grillelaw03_TagOne.j0 k y0 y1 y2) (grillelaw03_TagOne.j0 (k + 1) y0 y1 y2)) ∧ (∀ y0 y1 y2 y3 y4, LeO (grillelaw03_TagOne.l0 k y0 y1 y2 y3 y4) (grillelaw03_TagOne.l0 (k + 1) y0 y1 y2 y3 y4))
  | 0 => ⟨fun _ _ _ r h => by simp [grillelaw03_TagOne.j0] at h, fun _ _ _ _ _ r h => by simp [grillelaw03_TagOne.l0] at h⟩
  | k + 1 => by
    obtain ⟨ih0, ih1⟩ := grillelaw03_TagOne.mono_l k
    refine ⟨?_, ?_⟩
    · intro y0 y1 y2
      unfold grillelaw03_TagOne.j0
      repeat' first
      | (with_reducible exact ih0 _ _ _)
      | (with_reducible exact ih1 _ _ _ _ _)
      | (with_reducible exact grillelaw03_alive.mono _)
      | (with_reducible exact tag_Fits.mono _ _ _)
      | (with_reducible exact tag_Resolve.mono _ _)
      | (with_reducible exact LeO.refl _)
      | (with_reducible exact LeO.none _)
      | (with_reducible refine LeO.ite ?_ ?_)
      | (with_reducible refine LeO.bind ?_ (fun _ => ?_))
      | exact ih0 _ _ _
      | exact ih1 _ _ _ _ _
      | exact grillelaw03_alive.mono _
      | exact tag_Fits.mono _ _ _
      | exact tag_Resolve.mono _ _
      | exact LeO.none _
      | refine LeO.ite ?_ ?_
      | refine LeO.bind ?_ (fun _ => ?_)
    · intro y0 y1 y2 y3 y4
      unfold grillelaw03_TagOne.l0
      repeat' first
      | (with_reducible exact ih0 _ _ _)
      | (with_reducible exact ih1 _ _ _ _ _)
      | (with_reducible exact grillelaw03_alive.mono _)
      | (with_reducible exact tag_Fits.mono _ _ _)
      | (with_reducible exact tag_Resolve.mono _ _)
      | (with_reducible exact LeO.refl _)
      | (with_reducible exact LeO.none _)
      | (with_reducible refine LeO.ite ?_ ?_)
      | (with_reducible refine LeO.bind ?_ (fun _ => ?_))
      | exact ih0 _ _ _
      | exact ih1 _ _ _ _ _
      | exact grillelaw03_alive.mono _
      | exact tag_Fits.mono _ _ _
      | exact tag_Resolve.mono _ _
      | exact LeO.none _
      | refine LeO.ite ?_ ?_
      | refine LeO.bind ?_ (fun _ => ?_)
theorem grillelaw03_TagOne.mono : ∀ a0 k, LeO (grillelaw03_TagOne.f k a0) (grillelaw03_TagOne.f (k + 1) a0) := by
  intro a0 k
  obtain ⟨ih0, ih1⟩ := grillelaw03_TagOne.mono_l k
  unfold grillelaw03_TagOne.f
  repeat' first
      | (with_reducible exact ih0 _ _ _)
      | (with_reducible exact ih1 _ _ _ _ _)
      | (with_reducible exact grillelaw03_alive.mono _)
      | (with_reducible exact tag_Fits.mono _ _ _)
      | (with_reducible exact tag_Resolve.mono _ _)
      | (with_reducible exact LeO.refl _)
      | (with_reducible exact LeO.none _)
      | (with_reducible refine LeO.ite ?_ ?_)
      | (with_reducible refine LeO.bind ?_ (fun _ => ?_))
      | exact ih0 _ _ _
      | exact ih1 _ _ _ _ _
      | exact grillelaw03_alive.mono _
      | exact tag_Fits.mono _ _ _
      | exact tag_Resolve.mono _ _
      | exact LeO.none _
      | refine LeO.ite ?_ ?_
      | refine LeO.bind ?_ (fun _ => ?_)
set_option maxHeartbeats 8000000 in
set_option maxRecDepth 100000 in
theorem grillelaw03_TagOne.calls (k : Nat) (a0 : ByteArray) (r : Bool) (w : World) (h : grillelaw03_TagOne.f k a0 = some r) :
    Calls Try.prog 6 #[.string a0] w fun e w' => e = .returned (.bool r) ∧ Below w.heap.size w w' := by
  have HB := Aside0.mk (Below.refl w.heap.size w)
  have H : ((grillelaw03_alive.f k).bind fun t235 => (if t235 = true then (if (a0.size : Int) > 400 then (some true) else ((tag_Resolve.f k a0).bind fun t236 => ((tag_Core.f t236).bind fun t237 => (if t237 = true then ((tag_Fits.f k t236 a0).bind fun t238 => (if t238 = true then ((tag_Fits.f k (⟨#[115, 116, 114]⟩ : ByteArray) a0).bind fun t239 => (if t239 = true then ((tag_Fits.f k (⟨#[33, 111, 119, 110]⟩ : ByteArray) a0).bind fun t240 => (if t240 = true then ((tag_Fits.f k (⟨#[115, 101, 113]⟩ : ByteArray) a0).bind fun t241 => (if t241 = true then (grillelaw03_TagOne.j0 k a0 t236 true) else ((tag_Fits.f k (⟨#[109, 97, 112]⟩ : ByteArray) a0).bind fun t242 => (grillelaw03_TagOne.j0 k a0 t236 t242)))) else (grillelaw03_TagOne.j0 k a0 t236 true))) else (grillelaw03_TagOne.j0 k a0 t236 true))) else (grillelaw03_TagOne.j0 k a0 t236 true))) else (grillelaw03_TagOne.j0 k a0 t236 true))))) else (some false))) = some r := h
  clear h
  replace H := Option.bind_eq_some_iff.mp H
  obtain ⟨t235, A20, H⟩ := H
  replace H : (if t235 = true then (if (a0.size : Int) > 400 then (some true) else ((tag_Resolve.f k a0).bind fun t236 => ((tag_Core.f t236).bind fun t237 => (if t237 = true then ((tag_Fits.f k t236 a0).bind fun t238 => (if t238 = true then ((tag_Fits.f k (⟨#[115, 116, 114]⟩ : ByteArray) a0).bind fun t239 => (if t239 = true then ((tag_Fits.f k (⟨#[33, 111, 119, 110]⟩ : ByteArray) a0).bind fun t240 => (if t240 = true then ((tag_Fits.f k (⟨#[115, 101, 113]⟩ : ByteArray) a0).bind fun t241 => (if t241 = true then (grillelaw03_TagOne.j0 k a0 t236 true) else ((tag_Fits.f k (⟨#[109, 97, 112]⟩ : ByteArray) a0).bind fun t242 => (grillelaw03_TagOne.j0 k a0 t236 t242)))) else (grillelaw03_TagOne.j0 k a0 t236 true))) else (grillelaw03_TagOne.j0 k a0 t236 true))) else (grillelaw03_TagOne.j0 k a0 t236 true))) else (grillelaw03_TagOne.j0 k a0 t236 true))))) else (some false)) = some r := H
  have A2 := Aside0.mk A20
  clear A20
  by_cases c3 : t235 = true
  · subst c3
    have H1 : (if (a0.size : Int) > 400 then (some true) else ((tag_Resolve.f k a0).bind fun t236 => ((tag_Core.f t236).bind fun t237 => (if t237 = true then ((tag_Fits.f k t236 a0).bind fun t238 => (if t238 = true then ((tag_Fits.f k (⟨#[115, 116, 114]⟩ : ByteArray) a0).bind fun t239 => (if t239 = true then ((tag_Fits.f k (⟨#[33, 111, 119, 110]⟩ : ByteArray) a0).bind fun t240 => (if t240 = true then ((tag_Fits.f k (⟨#[115, 101, 113]⟩ : ByteArray) a0).bind fun t241 => (if t241 = true then (grillelaw03_TagOne.j0 k a0 t236 true) else ((tag_Fits.f k (⟨#[109, 97, 112]⟩ : ByteArray) a0).bind fun t242 => (grillelaw03_TagOne.j0 k a0 t236 t242)))) else (grillelaw03_TagOne.j0 k a0 t236 true))) else (grillelaw03_TagOne.j0 k a0 t236 true))) else (grillelaw03_TagOne.j0 k a0 t236 true))) else (grillelaw03_TagOne.j0 k a0 t236 true))))) = some r := by rw [if_pos rfl] at H; exact H
    clear H
    have H := H1
    clear H1
    by_cases c4 : (a0.size : Int) > 400
    · rw [if_pos c4] at H
      have c4b0 : decide (400 < (a0.size : Int)) = true := decide_eq_true c4
      have c4b1 : decide (400 < a0.size) = true := decide_eq_true (by omega)
      clear c4
      obtain rfl := Option.some.inj H
      go_enter Try.func6, Try.ntmps6
      go_wp2_with (first | ((with_reducible refine gate_callee (f := 7) rfl ?_); refine goesL_ (some 6) rfl rfl Try.func7 (by kernel_rfl) rfl #[] rfl (by (try simp only [List.map_toArray, List.map_cons, List.map_nil]); first | done | rfl | (simp only [List.length_drop, List.length_take]; rfl)) ?_; (with_reducible refine (grillelaw03_alive.calls k  true _ A2.out).mono ?_); rintro e w5 ⟨rfl, hb⟩; refine ⟨_, rfl, ?_⟩; have n0_ := Aside0.mk (below_step (by repeat (first | (with_reducible first | exact HB.out | apply below_alloc | apply pw_below_drewN | apply below_drew1) | exact HB.out)) hb); clear HB; have HB := n0_; clear n0_; (try clear hb); (try clear hb2); (try clear hk); (try clear hi)))
      go_ret
      exact ⟨by first | rfl | (simp [errW_none, errW_some] <;> rfl) | (simp [*, errW_none, errW_some] <;> rfl), by repeat (first | (with_reducible first | exact HB.out | apply below_alloc | apply pw_below_drewN | apply below_drew1) | exact HB.out)⟩
    · rw [if_neg c4] at H
      have c4b0 : decide (400 < (a0.size : Int)) = false := decide_eq_false c4
      have c4b1 : decide (400 < a0.size) = false := decide_eq_false (by omega)
      clear c4
      replace H := Option.bind_eq_some_iff.mp H
      obtain ⟨t236, A60, H⟩ := H
      replace H : ((tag_Core.f t236).bind fun t237 => (if t237 = true then ((tag_Fits.f k t236 a0).bind fun t238 => (if t238 = true then ((tag_Fits.f k (⟨#[115, 116, 114]⟩ : ByteArray) a0).bind fun t239 => (if t239 = true then ((tag_Fits.f k (⟨#[33, 111, 119, 110]⟩ : ByteArray) a0).bind fun t240 => (if t240 = true then ((tag_Fits.f k (⟨#[115, 101, 113]⟩ : ByteArray) a0).bind fun t241 => (if t241 = true then (grillelaw03_TagOne.j0 k a0 t236 true) else ((tag_Fits.f k (⟨#[109, 97, 112]⟩ : ByteArray) a0).bind fun t242 => (grillelaw03_TagOne.j0 k a0 t236 t242)))) else (grillelaw03_TagOne.j0 k a0 t236 true))) else (grillelaw03_TagOne.j0 k a0 t236 true))) else (grillelaw03_TagOne.j0 k a0 t236 true))) else (grillelaw03_TagOne.j0 k a0 t236 true))) = some r := H
      have A6 := Aside0.mk A60
      clear A60
      have HC7 := Aside0.mk H
      clear H
      go_enter Try.func6, Try.ntmps6
      go_upto_region 6 with (first | ((with_reducible refine gate_callee (f := 7) rfl ?_); refine goesL_ (some 6) rfl rfl Try.func7 (by kernel_rfl) rfl #[] rfl (by (try simp only [List.map_toArray, List.map_cons, List.map_nil]); first | done | rfl | (simp only [List.length_drop, List.length_take]; rfl)) ?_; (with_reducible refine (grillelaw03_alive.calls k  true _ A2.out).mono ?_); rintro e w8 ⟨rfl, hb⟩; refine ⟨_, rfl, ?_⟩; have n0_ := Aside0.mk (below_step (by repeat (first | (with_reducible first | exact HB.out | apply below_alloc | apply pw_below_drewN | apply below_drew1) | exact HB.out)) hb); clear HB; have HB := n0_; clear n0_; (try clear hb); (try clear hb2); (try clear hk); (try clear hi)) | ((with_reducible refine gate_callee (f := 8) rfl ?_); refine goesL_ (some 12) rfl rfl Try.func8 (by kernel_rfl) rfl #[.string a0] rfl (by (try simp only [List.map_toArray, List.map_cons, List.map_nil]); first | done | rfl | (simp only [List.length_drop, List.length_take]; rfl)) ?_; (with_reducible refine (tag_Resolve.calls k a0 t236 _ A6.out).mono ?_); rintro e w' ⟨rfl, ⟨nd, rfl⟩⟩; refine ⟨_, rfl, ?_⟩))
      (try simp only [Act.put, List.setIfInBounds_toArray, List.set_cons_zero, List.set_cons_succ])
      go_cut [39] (fun v39 wc => ∃ (kq : Nat) (x39_6 : Bool), v39 = .bool x39_6 ∧ Aside0 (grillelaw03_TagOne.j0 kq a0 t236 x39_6 = some r) ∧ Aside0 (kq ≤ k) ∧ Aside0 (Below w.heap.size w wc))
      case first =>
        have H := HC7.out
        clear HC7
        replace H := Option.bind_eq_some_iff.mp H
        obtain ⟨t237, A90, H⟩ := H
        replace H : (if t237 = true then ((tag_Fits.f k t236 a0).bind fun t238 => (if t238 = true then ((tag_Fits.f k (⟨#[115, 116, 114]⟩ : ByteArray) a0).bind fun t239 => (if t239 = true then ((tag_Fits.f k (⟨#[33, 111, 119, 110]⟩ : ByteArray) a0).bind fun t240 => (if t240 = true then ((tag_Fits.f k (⟨#[115, 101, 113]⟩ : ByteArray) a0).bind fun t241 => (if t241 = true then (grillelaw03_TagOne.j0 k a0 t236 true) else ((tag_Fits.f k (⟨#[109, 97, 112]⟩ : ByteArray) a0).bind fun t242 => (grillelaw03_TagOne.j0 k a0 t236 t242)))) else (grillelaw03_TagOne.j0 k a0 t236 true))) else (grillelaw03_TagOne.j0 k a0 t236 true))) else (grillelaw03_TagOne.j0 k a0 t236 true))) else (grillelaw03_TagOne.j0 k a0 t236 true)) = some r := H
        have A9 := Aside0.mk A90
        clear A90
        by_cases c10 : t237 = true
        · subst c10
          have H1 : ((tag_Fits.f k t236 a0).bind fun t238 => (if t238 = true then ((tag_Fits.f k (⟨#[115, 116, 114]⟩ : ByteArray) a0).bind fun t239 => (if t239 = true then ((tag_Fits.f k (⟨#[33, 111, 119, 110]⟩ : ByteArray) a0).bind fun t240 => (if t240 = true then ((tag_Fits.f k (⟨#[115, 101, 113]⟩ : ByteArray) a0).bind fun t241 => (if t241 = true then (grillelaw03_TagOne.j0 k a0 t236 true) else ((tag_Fits.f k (⟨#[109, 97, 112]⟩ : ByteArray) a0).bind fun t242 => (grillelaw03_TagOne.j0 k a0 t236 t242)))) else (grillelaw03_TagOne.j0 k a0 t236 true))) else (grillelaw03_TagOne.j0 k a0 t236 true))) else (grillelaw03_TagOne.j0 k a0 t236 true))) = some r := by rw [if_pos rfl] at H; exact H
          clear H
          have H := H1
          clear H1
          replace H := Option.bind_eq_some_iff.mp H
          obtain ⟨t238, A110, H⟩ := H
          replace H : (if t238 = true then ((tag_Fits.f k (⟨#[115, 116, 114]⟩ : ByteArray) a0).bind fun t239 => (if t239 = true then ((tag_Fits.f k (⟨#[33, 111, 119, 110]⟩ : ByteArray) a0).bind fun t240 => (if t240 = true then ((tag_Fits.f k (⟨#[115, 101, 113]⟩ : ByteArray) a0).bind fun t241 => (if t241 = true then (grillelaw03_TagOne.j0 k a0 t236 true) else ((tag_Fits.f k (⟨#[109, 97, 112]⟩ : ByteArray) a0).bind fun t242 => (grillelaw03_TagOne.j0 k a0 t236 t242)))) else (grillelaw03_TagOne.j0 k a0 t236 true))) else (grillelaw03_TagOne.j0 k a0 t236 true))) else (grillelaw03_TagOne.j0 k a0 t236 true)) = some r := H
          have A11 := Aside0.mk A110
          clear A110
          by_cases c12 : t238 = true
          · subst c12
            have H1 : ((tag_Fits.f k (⟨#[115, 116, 114]⟩ : ByteArray) a0).bind fun t239 => (if t239 = true then ((tag_Fits.f k (⟨#[33, 111, 119, 110]⟩ : ByteArray) a0).bind fun t240 => (if t240 = true then ((tag_Fits.f k (⟨#[115, 101, 113]⟩ : ByteArray) a0).bind fun t241 => (if t241 = true then (grillelaw03_TagOne.j0 k a0 t236 true) else ((tag_Fits.f k (⟨#[109, 97, 112]⟩ : ByteArray) a0).bind fun t242 => (grillelaw03_TagOne.j0 k a0 t236 t242)))) else (grillelaw03_TagOne.j0 k a0 t236 true))) else (grillelaw03_TagOne.j0 k a0 t236 true))) = some r := by rw [if_pos rfl] at H; exact H
            clear H
            have H := H1
            clear H1
            replace H := Option.bind_eq_some_iff.mp H
            obtain ⟨t239, A130, H⟩ := H
            replace H : (if t239 = true then ((tag_Fits.f k (⟨#[33, 111, 119, 110]⟩ : ByteArray) a0).bind fun t240 => (if t240 = true then ((tag_Fits.f k (⟨#[115, 101, 113]⟩ : ByteArray) a0).bind fun t241 => (if t241 = true then (grillelaw03_TagOne.j0 k a0 t236 true) else ((tag_Fits.f k (⟨#[109, 97, 112]⟩ : ByteArray) a0).bind fun t242 => (grillelaw03_TagOne.j0 k a0 t236 t242)))) else (grillelaw03_TagOne.j0 k a0 t236 true))) else (grillelaw03_TagOne.j0 k a0 t236 true)) = some r := H
            have A13 := Aside0.mk A130
            clear A130
            by_cases c14 : t239 = true
            · subst c14
              have H1 : ((tag_Fits.f k (⟨#[33, 111, 119, 110]⟩ : ByteArray) a0).bind fun t240 => (if t240 = true then ((tag_Fits.f k (⟨#[115, 101, 113]⟩ : ByteArray) a0).bind fun t241 => (if t241 = true then (grillelaw03_TagOne.j0 k a0 t236 true) else ((tag_Fits.f k (⟨#[109, 97, 112]⟩ : ByteArray) a0).bind fun t242 => (grillelaw03_TagOne.j0 k a0 t236 t242)))) else (grillelaw03_TagOne.j0 k a0 t236 true))) = some r := by rw [if_pos rfl] at H; exact H
              clear H
              have H := H1
              clear H1
              replace H := Option.bind_eq_some_iff.mp H
              obtain ⟨t240, A150, H⟩ := H
              replace H : (if t240 = true then ((tag_Fits.f k (⟨#[115, 101, 113]⟩ : ByteArray) a0).bind fun t241 => (if t241 = true then (grillelaw03_TagOne.j0 k a0 t236 true) else ((tag_Fits.f k (⟨#[109, 97, 112]⟩ : ByteArray) a0).bind fun t242 => (grillelaw03_TagOne.j0 k a0 t236 t242)))) else (grillelaw03_TagOne.j0 k a0 t236 true)) = some r := H
              have A15 := Aside0.mk A150
              clear A150
              by_cases c16 : t240 = true
              · subst c16
                have H1 : ((tag_Fits.f k (⟨#[115, 101, 113]⟩ : ByteArray) a0).bind fun t241 => (if t241 = true then (grillelaw03_TagOne.j0 k a0 t236 true) else ((tag_Fits.f k (⟨#[109, 97, 112]⟩ : ByteArray) a0).bind fun t242 => (grillelaw03_TagOne.j0 k a0 t236 t242)))) = some r := by rw [if_pos rfl] at H; exact H
                clear H
                have H := H1
                clear H1
                replace H := Option.bind_eq_some_iff.mp H
                obtain ⟨t241, A170, H⟩ := H
                replace H : (if t241 = true then (grillelaw03_TagOne.j0 k a0 t236 true) else ((tag_Fits.f k (⟨#[109, 97, 112]⟩ : ByteArray) a0).bind fun t242 => (grillelaw03_TagOne.j0 k a0 t236 t242))) = some r := H
                have A17 := Aside0.mk A170
                clear A170
                by_cases c18 : t241 = true
                · subst c18
                  have H1 : (grillelaw03_TagOne.j0 k a0 t236 true) = some r := by rw [if_pos rfl] at H; exact H
                  clear H
                  have H := H1
                  clear H1
                  have H' := Aside0.mk H
                  clear H
                  go_wp2_with (first | ((with_reducible refine gate_callee (f := 14) rfl ?_); refine goesL_ (some 14) rfl rfl Try.func14 (by kernel_rfl) rfl #[.string t236] rfl (by (try simp only [List.map_toArray, List.map_cons, List.map_nil]); first | done | rfl | (simp only [List.length_drop, List.length_take]; rfl)) ?_; (with_reducible refine (tag_Core.calls t236 true _ A9.out).mono ?_); rintro e w' ⟨rfl, ⟨nd, rfl⟩⟩; refine ⟨_, rfl, ?_⟩) | (go_at_call 10; (with_reducible refine (tag_Fits.calls k t236 a0 true _ A11.out).mono ?_); rintro e w19 ⟨rfl, hb⟩; have n0_ := Aside0.mk (below_step (by repeat (first | (with_reducible first | exact HB.out | apply below_alloc | apply pw_below_drewN | apply below_drew1) | exact HB.out)) hb); clear HB; have HB := n0_; clear n0_; (try clear hb); (try clear hb2); (try clear hk); (try clear hi)) | (go_at_call 10; (with_reducible refine (tag_Fits.calls k (⟨#[115, 116, 114]⟩ : ByteArray) a0 true _ A13.out).mono ?_); rintro e w20 ⟨rfl, hb⟩; have n0_ := Aside0.mk (below_step (by repeat (first | (with_reducible first | exact HB.out | apply below_alloc | apply pw_below_drewN | apply below_drew1) | exact HB.out)) hb); clear HB; have HB := n0_; clear n0_; (try clear hb); (try clear hb2); (try clear hk); (try clear hi)) | (go_at_call 10; (with_reducible refine (tag_Fits.calls k (⟨#[33, 111, 119, 110]⟩ : ByteArray) a0 true _ A15.out).mono ?_); rintro e w21 ⟨rfl, hb⟩; have n0_ := Aside0.mk (below_step (by repeat (first | (with_reducible first | exact HB.out | apply below_alloc | apply pw_below_drewN | apply below_drew1) | exact HB.out)) hb); clear HB; have HB := n0_; clear n0_; (try clear hb); (try clear hb2); (try clear hk); (try clear hi)) | (go_at_call 10; (with_reducible refine (tag_Fits.calls k (⟨#[115, 101, 113]⟩ : ByteArray) a0 true _ A17.out).mono ?_); rintro e w22 ⟨rfl, hb⟩; have n0_ := Aside0.mk (below_step (by repeat (first | (with_reducible first | exact HB.out | apply below_alloc | apply pw_below_drewN | apply below_drew1) | exact HB.out)) hb); clear HB; have HB := n0_; clear n0_; (try clear hb); (try clear hb2); (try clear hk); (try clear hi)))
                  go_meet
                  case rel => exact ⟨_, (true), (by first | rfl | (simp; done) | (simp [*]; done) | (simp [xbne_nil, xbeq_nil]; done)), H', ⟨by first | omega | exact Nat.le_refl _⟩, ⟨by repeat (first | (with_reducible first | exact HB.out | apply below_alloc | apply pw_below_drewN | apply below_drew1) | exact HB.out)⟩⟩
                · replace c18 := Bool.eq_false_iff.mpr c18
                  subst c18
                  have H1 : ((tag_Fits.f k (⟨#[109, 97, 112]⟩ : ByteArray) a0).bind fun t242 => (grillelaw03_TagOne.j0 k a0 t236 t242)) = some r := by rw [if_neg (show ¬ (false = true) by decide)] at H; exact H
                  clear H
                  have H := H1
                  clear H1
                  replace H := Option.bind_eq_some_iff.mp H
                  obtain ⟨t242, A230, H⟩ := H
                  replace H : (grillelaw03_TagOne.j0 k a0 t236 t242) = some r := H
                  have A23 := Aside0.mk A230
                  clear A230
                  have H' := Aside0.mk H
                  clear H
                  go_wp2_with (first | ((with_reducible refine gate_callee (f := 14) rfl ?_); refine goesL_ (some 14) rfl rfl Try.func14 (by kernel_rfl) rfl #[.string t236] rfl (by (try simp only [List.map_toArray, List.map_cons, List.map_nil]); first | done | rfl | (simp only [List.length_drop, List.length_take]; rfl)) ?_; (with_reducible refine (tag_Core.calls t236 true _ A9.out).mono ?_); rintro e w' ⟨rfl, ⟨nd, rfl⟩⟩; refine ⟨_, rfl, ?_⟩) | (go_at_call 10; (with_reducible refine (tag_Fits.calls k t236 a0 true _ A11.out).mono ?_); rintro e w24 ⟨rfl, hb⟩; have n0_ := Aside0.mk (below_step (by repeat (first | (with_reducible first | exact HB.out | apply below_alloc | apply pw_below_drewN | apply below_drew1) | exact HB.out)) hb); clear HB; have HB := n0_; clear n0_; (try clear hb); (try clear hb2); (try clear hk); (try clear hi)) | (go_at_call 10; (with_reducible refine (tag_Fits.calls k (⟨#[115, 116, 114]⟩ : ByteArray) a0 true _ A13.out).mono ?_); rintro e w25 ⟨rfl, hb⟩; have n0_ := Aside0.mk (below_step (by repeat (first | (with_reducible first | exact HB.out | apply below_alloc | apply pw_below_drewN | apply below_drew1) | exact HB.out)) hb); clear HB; have HB := n0_; clear n0_; (try clear hb); (try clear hb2); (try clear hk); (try clear hi)) | (go_at_call 10; (with_reducible refine (tag_Fits.calls k (⟨#[33, 111, 119, 110]⟩ : ByteArray) a0 true _ A15.out).mono ?_); rintro e w26 ⟨rfl, hb⟩; have n0_ := Aside0.mk (below_step (by repeat (first | (with_reducible first | exact HB.out | apply below_alloc | apply pw_below_drewN | apply below_drew1) | exact HB.out)) hb); clear HB; have HB := n0_; clear n0_; (try clear hb); (try clear hb2); (try clear hk); (try clear hi)) | (go_at_call 10; (with_reducible refine (tag_Fits.calls k (⟨#[115, 101, 113]⟩ : ByteArray) a0 false _ A17.out).mono ?_); rintro e w27 ⟨rfl, hb⟩; have n0_ := Aside0.mk (below_step (by repeat (first | (with_reducible first | exact HB.out | apply below_alloc | apply pw_below_drewN | apply below_drew1) | exact HB.out)) hb); clear HB; have HB := n0_; clear n0_; (try clear hb); (try clear hb2); (try clear hk); (try clear hi)) | (go_at_call 10; (with_reducible refine (tag_Fits.calls k (⟨#[109, 97, 112]⟩ : ByteArray) a0 t242 _ A23.out).mono ?_); rintro e w28 ⟨rfl, hb⟩; have n0_ := Aside0.mk (below_step (by repeat (first | (with_reducible first | exact HB.out | apply below_alloc | apply pw_below_drewN | apply below_drew1) | exact HB.out)) hb); clear HB; have HB := n0_; clear n0_; (try clear hb); (try clear hb2); (try clear hk); (try clear hi)))
                  go_meet
                  case rel => exact ⟨_, (t242), (by first | rfl | (simp; done) | (simp [*]; done) | (simp [xbne_nil, xbeq_nil]; done)), H', ⟨by first | omega | exact Nat.le_refl _⟩, ⟨by repeat (first | (with_reducible first | exact HB.out | apply below_alloc | apply pw_below_drewN | apply below_drew1) | exact HB.out)⟩⟩
              · replace c16 := Bool.eq_false_iff.mpr c16
                subst c16
                have H1 : (grillelaw03_TagOne.j0 k a0 t236 true) = some r := by rw [if_neg (show ¬ (false = true) by decide)] at H; exact H
                clear H
                have H := H1
                clear H1
                have H' := Aside0.mk H
                clear H
                go_wp2_with (first | ((with_reducible refine gate_callee (f := 14) rfl ?_); refine goesL_ (some 14) rfl rfl Try.func14 (by kernel_rfl) rfl #[.string t236] rfl (by (try simp only [List.map_toArray, List.map_cons, List.map_nil]); first | done | rfl | (simp only [List.length_drop, List.length_take]; rfl)) ?_; (with_reducible refine (tag_Core.calls t236 true _ A9.out).mono ?_); rintro e w' ⟨rfl, ⟨nd, rfl⟩⟩; refine ⟨_, rfl, ?_⟩) | (go_at_call 10; (with_reducible refine (tag_Fits.calls k t236 a0 true _ A11.out).mono ?_); rintro e w29 ⟨rfl, hb⟩; have n0_ := Aside0.mk (below_step (by repeat (first | (with_reducible first | exact HB.out | apply below_alloc | apply pw_below_drewN | apply below_drew1) | exact HB.out)) hb); clear HB; have HB := n0_; clear n0_; (try clear hb); (try clear hb2); (try clear hk); (try clear hi)) | (go_at_call 10; (with_reducible refine (tag_Fits.calls k (⟨#[115, 116, 114]⟩ : ByteArray) a0 true _ A13.out).mono ?_); rintro e w30 ⟨rfl, hb⟩; have n0_ := Aside0.mk (below_step (by repeat (first | (with_reducible first | exact HB.out | apply below_alloc | apply pw_below_drewN | apply below_drew1) | exact HB.out)) hb); clear HB; have HB := n0_; clear n0_; (try clear hb); (try clear hb2); (try clear hk); (try clear hi)) | (go_at_call 10; (with_reducible refine (tag_Fits.calls k (⟨#[33, 111, 119, 110]⟩ : ByteArray) a0 false _ A15.out).mono ?_); rintro e w31 ⟨rfl, hb⟩; have n0_ := Aside0.mk (below_step (by repeat (first | (with_reducible first | exact HB.out | apply below_alloc | apply pw_below_drewN | apply below_drew1) | exact HB.out)) hb); clear HB; have HB := n0_; clear n0_; (try clear hb); (try clear hb2); (try clear hk); (try clear hi)))
                go_meet
                case rel => exact ⟨_, (true), (by first | rfl | (simp; done) | (simp [*]; done) | (simp [xbne_nil, xbeq_nil]; done)), H', ⟨by first | omega | exact Nat.le_refl _⟩, ⟨by repeat (first | (with_reducible first | exact HB.out | apply below_alloc | apply pw_below_drewN | apply below_drew1) | exact HB.out)⟩⟩
            · replace c14 := Bool.eq_false_iff.mpr c14
              subst c14
              have H1 : (grillelaw03_TagOne.j0 k a0 t236 true) = some r := by rw [if_neg (show ¬ (false = true) by decide)] at H; exact H
              clear H
              have H := H1
              clear H1
              have H' := Aside0.mk H
              clear H
              go_wp2_with (first | ((with_reducible refine gate_callee (f := 14) rfl ?_); refine goesL_ (some 14) rfl rfl Try.func14 (by kernel_rfl) rfl #[.string t236] rfl (by (try simp only [List.map_toArray, List.map_cons, List.map_nil]); first | done | rfl | (simp only [List.length_drop, List.length_take]; rfl)) ?_; (with_reducible refine (tag_Core.calls t236 true _ A9.out).mono ?_); rintro e w' ⟨rfl, ⟨nd, rfl⟩⟩; refine ⟨_, rfl, ?_⟩) | (go_at_call 10; (with_reducible refine (tag_Fits.calls k t236 a0 true _ A11.out).mono ?_); rintro e w32 ⟨rfl, hb⟩; have n0_ := Aside0.mk (below_step (by repeat (first | (with_reducible first | exact HB.out | apply below_alloc | apply pw_below_drewN | apply below_drew1) | exact HB.out)) hb); clear HB; have HB := n0_; clear n0_; (try clear hb); (try clear hb2); (try clear hk); (try clear hi)) | (go_at_call 10; (with_reducible refine (tag_Fits.calls k (⟨#[115, 116, 114]⟩ : ByteArray) a0 false _ A13.out).mono ?_); rintro e w33 ⟨rfl, hb⟩; have n0_ := Aside0.mk (below_step (by repeat (first | (with_reducible first | exact HB.out | apply below_alloc | apply pw_below_drewN | apply below_drew1) | exact HB.out)) hb); clear HB; have HB := n0_; clear n0_; (try clear hb); (try clear hb2); (try clear hk); (try clear hi)))
              go_meet
              case rel => exact ⟨_, (true), (by first | rfl | (simp; done) | (simp [*]; done) | (simp [xbne_nil, xbeq_nil]; done)), H', ⟨by first | omega | exact Nat.le_refl _⟩, ⟨by repeat (first | (with_reducible first | exact HB.out | apply below_alloc | apply pw_below_drewN | apply below_drew1) | exact HB.out)⟩⟩
          · replace c12 := Bool.eq_false_iff.mpr c12
            subst c12
            have H1 : (grillelaw03_TagOne.j0 k a0 t236 true) = some r := by rw [if_neg (show ¬ (false = true) by decide)] at H; exact H
            clear H
            have H := H1
            clear H1
            have H' := Aside0.mk H
            clear H
            go_wp2_with (first | ((with_reducible refine gate_callee (f := 14) rfl ?_); refine goesL_ (some 14) rfl rfl Try.func14 (by kernel_rfl) rfl #[.string t236] rfl (by (try simp only [List.map_toArray, List.map_cons, List.map_nil]); first | done | rfl | (simp only [List.length_drop, List.length_take]; rfl)) ?_; (with_reducible refine (tag_Core.calls t236 true _ A9.out).mono ?_); rintro e w' ⟨rfl, ⟨nd, rfl⟩⟩; refine ⟨_, rfl, ?_⟩) | (go_at_call 10; (with_reducible refine (tag_Fits.calls k t236 a0 false _ A11.out).mono ?_); rintro e w34 ⟨rfl, hb⟩; have n0_ := Aside0.mk (below_step (by repeat (first | (with_reducible first | exact HB.out | apply below_alloc | apply pw_below_drewN | apply below_drew1) | exact HB.out)) hb); clear HB; have HB := n0_; clear n0_; (try clear hb); (try clear hb2); (try clear hk); (try clear hi)))
            go_meet
            case rel => exact ⟨_, (true), (by first | rfl | (simp; done) | (simp [*]; done) | (simp [xbne_nil, xbeq_nil]; done)), H', ⟨by first | omega | exact Nat.le_refl _⟩, ⟨by repeat (first | (with_reducible first | exact HB.out | apply below_alloc | apply pw_below_drewN | apply below_drew1) | exact HB.out)⟩⟩
        · replace c10 := Bool.eq_false_iff.mpr c10
          subst c10
          have H1 : (grillelaw03_TagOne.j0 k a0 t236 true) = some r := by rw [if_neg (show ¬ (false = true) by decide)] at H; exact H
          clear H
          have H := H1
          clear H1
          have H' := Aside0.mk H
          clear H
          go_wp2_with (first | ((with_reducible refine gate_callee (f := 14) rfl ?_); refine goesL_ (some 14) rfl rfl Try.func14 (by kernel_rfl) rfl #[.string t236] rfl (by (try simp only [List.map_toArray, List.map_cons, List.map_nil]); first | done | rfl | (simp only [List.length_drop, List.length_take]; rfl)) ?_; (with_reducible refine (tag_Core.calls t236 false _ A9.out).mono ?_); rintro e w' ⟨rfl, ⟨nd, rfl⟩⟩; refine ⟨_, rfl, ?_⟩))
          go_meet
          case rel => exact ⟨_, (true), (by first | rfl | (simp; done) | (simp [*]; done) | (simp [xbne_nil, xbeq_nil]; done)), H', ⟨by first | omega | exact Nat.le_refl _⟩, ⟨by repeat (first | (with_reducible first | exact HB.out | apply below_alloc | apply pw_below_drewN | apply below_drew1) | exact HB.out)⟩⟩
      case rest =>
        clear HC7
        try clear c1
        try clear p2
        try clear c3
        try clear c4
        try clear c4b0
        try clear c4b1
        try clear c6
        try clear c7
        try clear c8
        try clear c10
        try clear c12
        try clear c14
        try clear c16
        try clear c18
        obtain ⟨kq, x39_6, rfl, HA, HJ6, HB⟩ := hcut
        cases kq with
        | zero => exact absurd HA.out (by simp [grillelaw03_TagOne.j0])
        | succ kj6 =>
          have H := HA.out
          clear HA
          simp only [grillelaw03_TagOne.j0] at H
          by_cases c35 : x39_6 = true
          · subst c35
            have H1 : (some false) = some r := by rw [if_pos rfl] at H; exact H
            clear H
            have H := H1
            clear H1
            obtain rfl := Option.some.inj H
            go_wp2
            go_ret
            exact ⟨by first | rfl | (simp [errW_none, errW_some] <;> rfl) | (simp [*, errW_none, errW_some] <;> rfl), by repeat (first | (with_reducible first | exact HB.out | apply below_alloc | apply pw_below_drewN | apply below_drew1) | exact HB.out)⟩
          · replace c35 := Bool.eq_false_iff.mpr c35
            subst c35
            have H1 : ((some (([(⟨#[110, 117, 108, 108]⟩ : ByteArray), (⟨#[98, 111, 111, 108]⟩ : ByteArray), (⟨#[105, 110, 116]⟩ : ByteArray), (⟨#[102, 108, 111, 97, 116]⟩ : ByteArray)] : List ByteArray) : List ByteArray)).bind fun y243 => (grillelaw03_TagOne.l0 kj6 a0 t236 y243 (y243.length : Int) 0)) = some r := by rw [if_neg (show ¬ (false = true) by decide)] at H; exact H
            clear H
            have H := H1
            clear H1
            obtain ⟨y243, hy243⟩ : ∃ y_ : List ByteArray, y_ = (([(⟨#[110, 117, 108, 108]⟩ : ByteArray), (⟨#[98, 111, 111, 108]⟩ : ByteArray), (⟨#[105, 110, 116]⟩ : ByteArray), (⟨#[102, 108, 111, 97, 116]⟩ : ByteArray)] : List ByteArray)) := ⟨_, rfl⟩
            replace H : (grillelaw03_TagOne.l0 kj6 a0 t236 y243 (y243.length : Int) 0) = some r := by first | (rw [hy243]; with_reducible exact H) | (have H2_ := (Option.bind_some _ _).symm.trans H; rw [hy243]; with_reducible exact H2_) | (have H2_ := (Option.bind_some _ _).symm.trans H; with_reducible exact H2_) | with_reducible exact H | (rw [hy243]; exact H) | exact H
            have Ny243 := Aside0.mk hy243
            clear hy243
            have H' := Aside0.mk H
            clear H
            go_wp2_with (first | ((with_reducible refine gate_dst (N := 40) rfl ?_); refine Kd.R_lit Kd.string _ 9 ?hg (N := 40) ?hd (xs := ([(⟨#[110, 117, 108, 108]⟩ : ByteArray), (⟨#[98, 111, 111, 108]⟩ : ByteArray), (⟨#[105, 110, 116]⟩ : ByteArray), (⟨#[102, 108, 111, 97, 116]⟩ : ByteArray)] : List ByteArray)) (inner := [.string (⟨#[110, 117, 108, 108]⟩ : ByteArray), .string (⟨#[98, 111, 111, 108]⟩ : ByteArray), .string (⟨#[105, 110, 116]⟩ : ByteArray), .string (⟨#[102, 108, 111, 97, 116]⟩ : ByteArray)]) (ok := fun _ => True) (okp := fun _ => True) ?hr ?hp (fun _ hk => hk) trivial (Below.refl _ _) (Nat.le_refl _) (by simp) ?_; (case hd => rfl); (case hg => rfl); (case hr => first | (go_simp; done) | (go_simp; rfl)); (case hp => exact (Reps.one (show Kd.M Kd.string _ _ _ (⟨#[110, 117, 108, 108]⟩ : ByteArray) [.string (⟨#[110, 117, 108, 108]⟩ : ByteArray)] from rfl) (Reps.one (show Kd.M Kd.string _ _ _ (⟨#[98, 111, 111, 108]⟩ : ByteArray) [.string (⟨#[98, 111, 111, 108]⟩ : ByteArray)] from rfl) (Reps.one (show Kd.M Kd.string _ _ _ (⟨#[105, 110, 116]⟩ : ByteArray) [.string (⟨#[105, 110, 116]⟩ : ByteArray)] from rfl) (Reps.one (show Kd.M Kd.string _ _ _ (⟨#[102, 108, 111, 97, 116]⟩ : ByteArray) [.string (⟨#[102, 108, 111, 97, 116]⟩ : ByteArray)] from rfl) (Reps.none _ _)))))); intro v244 w36 ho37 hb hg_ hnew_; clear hg_ hnew_; (first | rw [← Ny243.out] at ho37 | (simp only [Int.reduceToNat] at ho37; rw [← Ny243.out] at ho37)); have n0_ := Aside0.mk (Kd.R_lower ho37 (below_size (by repeat (first | (with_reducible first | exact HB.out | apply below_alloc | apply pw_below_drewN | apply below_drew1) | exact HB.out)))); have n1_ := Aside0.mk (below_step (by repeat (first | (with_reducible first | exact HB.out | apply below_alloc | apply pw_below_drewN | apply below_drew1) | exact HB.out)) hb); clear HB; have HO245 := n0_; have HB := n1_; clear n0_ n1_; clear hb ho37; obtain ⟨Ao38, co38, eo38⟩ := Kd.R_slice HO245.out; subst eo38))
            go_loopg [42] kj6 (fun kq v42 w' => ∃ (x42_2 : Int), v42 = .int .i64 x42_2 ∧ Aside0 (grillelaw03_TagOne.l0 kq a0 t236 y243 (y243.length : Int) x42_2 = some r) ∧ Aside0 (kq ≤ kj6) ∧ Aside0 (Kd.R Kd.string 9 w' w.heap.size (fun _ => True) (.slice Ao38 y243.length co38) y243) ∧ Aside0 (Below w.heap.size w w'))
            case atStart => exact ⟨(0), (by first | rfl | (simp; done) | (simp [*]; done) | (simp [xbne_nil, xbeq_nil]; done)), H', ⟨Nat.le_refl _⟩, ⟨by (with_reducible repeat (first | apply Kd.R_alloc | apply Kd.R_drewN | apply Kd.R_drew)); exact HO245.out⟩, ⟨by repeat (first | (with_reducible first | exact HB.out | apply below_alloc | apply pw_below_drewN | apply below_drew1) | exact HB.out)⟩⟩
            case round =>
              clear H'
              try clear c1
              try clear p2
              try clear c3
              try clear c4
              try clear c4b0
              try clear c4b1
              try clear c6
              try clear c7
              try clear c8
              try clear c10
              try clear c12
              try clear c14
              try clear c16
              try clear c18
              try clear c35
              try clear p2
              obtain ⟨x42_2, rfl, HA, HK2, HO_40, HB⟩ := hrel
              cases gk with
              | zero => exact absurd HA.out (by simp [grillelaw03_TagOne.l0])
              | succ k2 =>
                have H := HA.out
                clear HA
                simp only [grillelaw03_TagOne.l0] at H
                by_cases c39 : x42_2 < (y243.length : Int)
                · rw [if_pos c39] at H
                  have c39b0 : decide (x42_2 < (y243.length : Int)) = true := decide_eq_true c39
                  clear c39
                  by_cases c40 : 0 ≤ x42_2
                  · rw [if_pos c40] at H
                    have c40b0 : decide (0 ≤ x42_2) = true := decide_eq_true c40
                    clear c40
                    by_cases c41 : x42_2 < (y243.length : Int)
                    · rw [if_pos c41] at H
                      have c41b0 : decide (x42_2 < (y243.length : Int)) = true := decide_eq_true c41
                      clear c41
                      replace H := Option.bind_eq_some_iff.mp H
                      obtain ⟨t247, A420, H⟩ := H
                      replace H : (if (rdOf ByteArray.empty y243 x42_2).toList = t236.toList then (if (t247 != true) = true then (some false) else (grillelaw03_TagOne.l0 k2 a0 t236 y243 (y243.length : Int) (wrap64 (x42_2 + 1)))) else (if (rdOf ByteArray.empty y243 x42_2).toList = ([102, 108, 111, 97, 116] : List UInt8) then (if (t247 != (t236.toList == ([105, 110, 116] : List UInt8))) = true then (some false) else (grillelaw03_TagOne.l0 k2 a0 t236 y243 (y243.length : Int) (wrap64 (x42_2 + 1)))) else (if (t247 != false) = true then (some false) else (grillelaw03_TagOne.l0 k2 a0 t236 y243 (y243.length : Int) (wrap64 (x42_2 + 1)))))) = some r := H
                      have A42 := Aside0.mk A420
                      clear A420
                      by_cases c43 : (rdOf ByteArray.empty y243 x42_2).toList = t236.toList
                      · rw [if_pos c43] at H
                        have c43b0 : ((rdOf ByteArray.empty y243 x42_2).toList == t236.toList) = true := beq_iff_eq.mpr c43
                        have c43b1 : ((rdOf ByteArray.empty y243 x42_2).toList != t236.toList) = false := bne_eq_false_iff_eq.mpr c43
                        clear c43
                        by_cases c44 : (t247 != true) = true
                        · rw [if_pos c44] at H
                          have c44b0 : (t247 != true) = true := c44
                          (try (have c44b1 : decide (t247 = true) = false := by simpa using c44))
                          (try (have c44b2 : (t247 == true) = false := by simpa using c44))
                          (try (have c44b3 : ¬ (t247 = true) := by simpa using c44))
                          clear c44
                          obtain rfl := Option.some.inj H
                          have p246 : 0 ≤ (x42_2 : Int) := of_decide_eq_true (by first | (with_reducible assumption) | assumption)
                          have q246 : x42_2 < (y243.length : Int) := of_decide_eq_true (by first | (with_reducible assumption) | assumption)
                          obtain ⟨ad246, e246, hx246_0⟩ := Kd.at_string (Kd.R_reads' HO_40.out).2.2 x42_2 p246 q246
                          cases e246
                          replace p246 := eq_true p246
                          replace q246 := eq_true q246
                          go_wp2_with (first | ((with_reducible refine gate_callee (f := 10) rfl ?_); refine goesL_ (some 48) rfl rfl Try.func10 (by kernel_rfl) rfl #[.string (rdOf ByteArray.empty y243 x42_2), .string a0] rfl (by (try simp only [List.map_toArray, List.map_cons, List.map_nil]); first | done | rfl | (simp only [List.length_drop, List.length_take]; rfl)) ?_; (with_reducible refine (tag_Fits.calls k2 (rdOf ByteArray.empty y243 x42_2) a0 t247 _ A42.out).mono ?_); rintro e w45 ⟨rfl, hb⟩; refine ⟨_, rfl, ?_⟩; have n0_ := Aside0.mk (Kd.R_below (by (with_reducible repeat (first | apply Kd.R_alloc | apply Kd.R_drewN | apply Kd.R_drew)); exact HO_40.out) hb); have n1_ := Aside0.mk (below_step (by repeat (first | (with_reducible first | exact HB.out | apply below_alloc | apply pw_below_drewN | apply below_drew1) | exact HB.out)) hb); clear HO_40; clear HB; have HO_40 := n0_; have HB := n1_; clear n0_ n1_; (try clear hb); (try clear hb2); (try clear hk); (try clear hi)))
                          go_ret
                          exact ⟨by first | rfl | (simp [errW_none, errW_some] <;> rfl) | (simp [*, errW_none, errW_some] <;> rfl), by repeat (first | (with_reducible first | exact HB.out | apply below_alloc | apply pw_below_drewN | apply below_drew1) | exact HB.out)⟩
                        · rw [if_neg c44] at H
                          have c44b0 : (t247 != true) = false := by simpa using c44
                          (try (have c44b1 : decide (t247 = true) = true := by simpa using c44))
                          (try (have c44b2 : (t247 == true) = true := by simpa using c44))
                          clear c44
                          have H' := Aside0.mk H
                          clear H
                          have p246 : 0 ≤ (x42_2 : Int) := of_decide_eq_true (by first | (with_reducible assumption) | assumption)
                          have q246 : x42_2 < (y243.length : Int) := of_decide_eq_true (by first | (with_reducible assumption) | assumption)
                          obtain ⟨ad246, e246, hx246_0⟩ := Kd.at_string (Kd.R_reads' HO_40.out).2.2 x42_2 p246 q246
                          cases e246
                          replace p246 := eq_true p246
                          replace q246 := eq_true q246
                          go_wp2_with (first | ((with_reducible refine gate_callee (f := 10) rfl ?_); refine goesL_ (some 48) rfl rfl Try.func10 (by kernel_rfl) rfl #[.string (rdOf ByteArray.empty y243 x42_2), .string a0] rfl (by (try simp only [List.map_toArray, List.map_cons, List.map_nil]); first | done | rfl | (simp only [List.length_drop, List.length_take]; rfl)) ?_; (with_reducible refine (tag_Fits.calls k2 (rdOf ByteArray.empty y243 x42_2) a0 t247 _ A42.out).mono ?_); rintro e w46 ⟨rfl, hb⟩; refine ⟨_, rfl, ?_⟩; have n0_ := Aside0.mk (Kd.R_below (by (with_reducible repeat (first | apply Kd.R_alloc | apply Kd.R_drewN | apply Kd.R_drew)); exact HO_40.out) hb); have n1_ := Aside0.mk (below_step (by repeat (first | (with_reducible first | exact HB.out | apply below_alloc | apply pw_below_drewN | apply below_drew1) | exact HB.out)) hb); clear HO_40; clear HB; have HO_40 := n0_; have HB := n1_; clear n0_ n1_; (try clear hb); (try clear hb2); (try clear hk); (try clear hi)))
                          go_roundg k2
                          case measure => have := HJ6.out; have := HK2.out; omega
                          case rel => exact ⟨(wrap64 (x42_2 + 1)), (by first | rfl | (simp; done) | (simp [*]; done) | (simp [xbne_nil, xbeq_nil]; done)), H', ⟨by have := HJ6.out; have := HK2.out; omega⟩, ⟨by (with_reducible repeat (first | apply Kd.R_alloc | apply Kd.R_drewN | apply Kd.R_drew)); exact HO_40.out⟩, ⟨by repeat (first | (with_reducible first | exact HB.out | apply below_alloc | apply pw_below_drewN | apply below_drew1) | exact HB.out)⟩⟩
                      · rw [if_neg c43] at H
                        have c43b0 : ((rdOf ByteArray.empty y243 x42_2).toList == t236.toList) = false := beq_eq_false_iff_ne.mpr c43
                        have c43b1 : ((rdOf ByteArray.empty y243 x42_2).toList != t236.toList) = true := bne_iff_ne.mpr c43
                        by_cases c47 : (rdOf ByteArray.empty y243 x42_2).toList = ([102, 108, 111, 97, 116] : List UInt8)
                        · rw [if_pos c47] at H
                          have c47b0 : ((rdOf ByteArray.empty y243 x42_2).toList == ([102, 108, 111, 97, 116] : List UInt8)) = true := beq_iff_eq.mpr c47
                          have c47b1 : ((rdOf ByteArray.empty y243 x42_2).toList != ([102, 108, 111, 97, 116] : List UInt8)) = false := bne_eq_false_iff_eq.mpr c47
                          clear c47
                          by_cases c48 : (t247 != (t236.toList == ([105, 110, 116] : List UInt8))) = true
                          · rw [if_pos c48] at H
                            have c48b0 : (t247 != (t236.toList == ([105, 110, 116] : List UInt8))) = true := c48
                            (try (have c48b1 : decide (t247 = (t236.toList == ([105, 110, 116] : List UInt8))) = false := by simpa using c48))
                            (try (have c48b2 : (t247 == (t236.toList == ([105, 110, 116] : List UInt8))) = false := by simpa using c48))
                            (try (have c48b3 : ¬ (t247 = (t236.toList == ([105, 110, 116] : List UInt8))) := by simpa using c48))
                            clear c48
                            obtain rfl := Option.some.inj H
                            have p246 : 0 ≤ (x42_2 : Int) := of_decide_eq_true (by first | (with_reducible assumption) | assumption)
                            have q246 : x42_2 < (y243.length : Int) := of_decide_eq_true (by first | (with_reducible assumption) | assumption)
                            obtain ⟨ad246, e246, hx246_0⟩ := Kd.at_string (Kd.R_reads' HO_40.out).2.2 x42_2 p246 q246
                            cases e246
                            replace p246 := eq_true p246
                            replace q246 := eq_true q246
                            go_wp2_with (first | ((with_reducible refine gate_callee (f := 10) rfl ?_); refine goesL_ (some 48) rfl rfl Try.func10 (by kernel_rfl) rfl #[.string (rdOf ByteArray.empty y243 x42_2), .string a0] rfl (by (try simp only [List.map_toArray, List.map_cons, List.map_nil]); first | done | rfl | (simp only [List.length_drop, List.length_take]; rfl)) ?_; (with_reducible refine (tag_Fits.calls k2 (rdOf ByteArray.empty y243 x42_2) a0 t247 _ A42.out).mono ?_); rintro e w49 ⟨rfl, hb⟩; refine ⟨_, rfl, ?_⟩; have n0_ := Aside0.mk (Kd.R_below (by (with_reducible repeat (first | apply Kd.R_alloc | apply Kd.R_drewN | apply Kd.R_drew)); exact HO_40.out) hb); have n1_ := Aside0.mk (below_step (by repeat (first | (with_reducible first | exact HB.out | apply below_alloc | apply pw_below_drewN | apply below_drew1) | exact HB.out)) hb); clear HO_40; clear HB; have HO_40 := n0_; have HB := n1_; clear n0_ n1_; (try clear hb); (try clear hb2); (try clear hk); (try clear hi)))
                            go_ret
                            exact ⟨by first | rfl | (simp [errW_none, errW_some] <;> rfl) | (simp [*, errW_none, errW_some] <;> rfl), by repeat (first | (with_reducible first | exact HB.out | apply below_alloc | apply pw_below_drewN | apply below_drew1) | exact HB.out)⟩
                          · rw [if_neg c48] at H
                            have c48b0 : (t247 != (t236.toList == ([105, 110, 116] : List UInt8))) = false := by simpa using c48
                            (try (have c48b1 : decide (t247 = (t236.toList == ([105, 110, 116] : List UInt8))) = true := by simpa using c48))
                            (try (have c48b2 : (t247 == (t236.toList == ([105, 110, 116] : List UInt8))) = true := by simpa using c48))
                            clear c48
                            have H' := Aside0.mk H
                            clear H
                            have p246 : 0 ≤ (x42_2 : Int) := of_decide_eq_true (by first | (with_reducible assumption) | assumption)
                            have q246 : x42_2 < (y243.length : Int) := of_decide_eq_true (by first | (with_reducible assumption) | assumption)
                            obtain ⟨ad246, e246, hx246_0⟩ := Kd.at_string (Kd.R_reads' HO_40.out).2.2 x42_2 p246 q246
                            cases e246
                            replace p246 := eq_true p246
                            replace q246 := eq_true q246
                            go_wp2_with (first | ((with_reducible refine gate_callee (f := 10) rfl ?_); refine goesL_ (some 48) rfl rfl Try.func10 (by kernel_rfl) rfl #[.string (rdOf ByteArray.empty y243 x42_2), .string a0] rfl (by (try simp only [List.map_toArray, List.map_cons, List.map_nil]); first | done | rfl | (simp only [List.length_drop, List.length_take]; rfl)) ?_; (with_reducible refine (tag_Fits.calls k2 (rdOf ByteArray.empty y243 x42_2) a0 t247 _ A42.out).mono ?_); rintro e w50 ⟨rfl, hb⟩; refine ⟨_, rfl, ?_⟩; have n0_ := Aside0.mk (Kd.R_below (by (with_reducible repeat (first | apply Kd.R_alloc | apply Kd.R_drewN | apply Kd.R_drew)); exact HO_40.out) hb); have n1_ := Aside0.mk (below_step (by repeat (first | (with_reducible first | exact HB.out | apply below_alloc | apply pw_below_drewN | apply below_drew1) | exact HB.out)) hb); clear HO_40; clear HB; have HO_40 := n0_; have HB := n1_; clear n0_ n1_; (try clear hb); (try clear hb2); (try clear hk); (try clear hi)))
                            go_roundg k2
                            case measure => have := HJ6.out; have := HK2.out; omega
                            case rel => exact ⟨(wrap64 (x42_2 + 1)), (by first | rfl | (simp; done) | (simp [*]; done) | (simp [xbne_nil, xbeq_nil]; done)), H', ⟨by have := HJ6.out; have := HK2.out; omega⟩, ⟨by (with_reducible repeat (first | apply Kd.R_alloc | apply Kd.R_drewN | apply Kd.R_drew)); exact HO_40.out⟩, ⟨by repeat (first | (with_reducible first | exact HB.out | apply below_alloc | apply pw_below_drewN | apply below_drew1) | exact HB.out)⟩⟩
                        · rw [if_neg c47] at H
                          have c47b0 : ((rdOf ByteArray.empty y243 x42_2).toList == ([102, 108, 111, 97, 116] : List UInt8)) = false := beq_eq_false_iff_ne.mpr c47
                          have c47b1 : ((rdOf ByteArray.empty y243 x42_2).toList != ([102, 108, 111, 97, 116] : List UInt8)) = true := bne_iff_ne.mpr c47
                          by_cases c51 : (t247 != false) = true
                          · rw [if_pos c51] at H
                            have c51b0 : (t247 != false) = true := c51
                            (try (have c51b1 : decide (t247 = false) = false := by simpa using c51))
                            (try (have c51b2 : (t247 == false) = false := by simpa using c51))
                            (try (have c51b3 : ¬ (t247 = false) := by simpa using c51))
                            clear c51
                            obtain rfl := Option.some.inj H
                            have p246 : 0 ≤ (x42_2 : Int) := of_decide_eq_true (by first | (with_reducible assumption) | assumption)
                            have q246 : x42_2 < (y243.length : Int) := of_decide_eq_true (by first | (with_reducible assumption) | assumption)
                            obtain ⟨ad246, e246, hx246_0⟩ := Kd.at_string (Kd.R_reads' HO_40.out).2.2 x42_2 p246 q246
                            cases e246
                            replace p246 := eq_true p246
                            replace q246 := eq_true q246
                            go_wp2_with (first | ((with_reducible refine gate_callee (f := 10) rfl ?_); refine goesL_ (some 48) rfl rfl Try.func10 (by kernel_rfl) rfl #[.string (rdOf ByteArray.empty y243 x42_2), .string a0] rfl (by (try simp only [List.map_toArray, List.map_cons, List.map_nil]); first | done | rfl | (simp only [List.length_drop, List.length_take]; rfl)) ?_; (with_reducible refine (tag_Fits.calls k2 (rdOf ByteArray.empty y243 x42_2) a0 t247 _ A42.out).mono ?_); rintro e w52 ⟨rfl, hb⟩; refine ⟨_, rfl, ?_⟩; have n0_ := Aside0.mk (Kd.R_below (by (with_reducible repeat (first | apply Kd.R_alloc | apply Kd.R_drewN | apply Kd.R_drew)); exact HO_40.out) hb); have n1_ := Aside0.mk (below_step (by repeat (first | (with_reducible first | exact HB.out | apply below_alloc | apply pw_below_drewN | apply below_drew1) | exact HB.out)) hb); clear HO_40; clear HB; have HO_40 := n0_; have HB := n1_; clear n0_ n1_; (try clear hb); (try clear hb2); (try clear hk); (try clear hi)))
                            go_ret
                            exact ⟨by first | rfl | (simp [errW_none, errW_some] <;> rfl) | (simp [*, errW_none, errW_some] <;> rfl), by repeat (first | (with_reducible first | exact HB.out | apply below_alloc | apply pw_below_drewN | apply below_drew1) | exact HB.out)⟩
                          · rw [if_neg c51] at H
                            have c51b0 : (t247 != false) = false := by simpa using c51
                            (try (have c51b1 : decide (t247 = false) = true := by simpa using c51))
                            (try (have c51b2 : (t247 == false) = true := by simpa using c51))
                            clear c51
                            have H' := Aside0.mk H
                            clear H
                            have p246 : 0 ≤ (x42_2 : Int) := of_decide_eq_true (by first | (with_reducible assumption) | assumption)
                            have q246 : x42_2 < (y243.length : Int) := of_decide_eq_true (by first | (with_reducible assumption) | assumption)
                            obtain ⟨ad246, e246, hx246_0⟩ := Kd.at_string (Kd.R_reads' HO_40.out).2.2 x42_2 p246 q246
                            cases e246
                            replace p246 := eq_true p246
                            replace q246 := eq_true q246
                            go_wp2_with (first | ((with_reducible refine gate_callee (f := 10) rfl ?_); refine goesL_ (some 48) rfl rfl Try.func10 (by kernel_rfl) rfl #[.string (rdOf ByteArray.empty y243 x42_2), .string a0] rfl (by (try simp only [List.map_toArray, List.map_cons, List.map_nil]); first | done | rfl | (simp only [List.length_drop, List.length_take]; rfl)) ?_; (with_reducible refine (tag_Fits.calls k2 (rdOf ByteArray.empty y243 x42_2) a0 t247 _ A42.out).mono ?_); rintro e w53 ⟨rfl, hb⟩; refine ⟨_, rfl, ?_⟩; have n0_ := Aside0.mk (Kd.R_below (by (with_reducible repeat (first | apply Kd.R_alloc | apply Kd.R_drewN | apply Kd.R_drew)); exact HO_40.out) hb); have n1_ := Aside0.mk (below_step (by repeat (first | (with_reducible first | exact HB.out | apply below_alloc | apply pw_below_drewN | apply below_drew1) | exact HB.out)) hb); clear HO_40; clear HB; have HO_40 := n0_; have HB := n1_; clear n0_ n1_; (try clear hb); (try clear hb2); (try clear hk); (try clear hi)))
                            go_roundg k2
                            case measure => have := HJ6.out; have := HK2.out; omega
                            case rel => exact ⟨(wrap64 (x42_2 + 1)), (by first | rfl | (simp; done) | (simp [*]; done) | (simp [xbne_nil, xbeq_nil]; done)), H', ⟨by have := HJ6.out; have := HK2.out; omega⟩, ⟨by (with_reducible repeat (first | apply Kd.R_alloc | apply Kd.R_drewN | apply Kd.R_drew)); exact HO_40.out⟩, ⟨by repeat (first | (with_reducible first | exact HB.out | apply below_alloc | apply pw_below_drewN | apply below_drew1) | exact HB.out)⟩⟩
                    · rw [if_neg c41] at H
                      exact absurd H (by simp)
                  · rw [if_neg c40] at H
                    exact absurd H (by simp)
                · rw [if_neg c39] at H
                  have c39b0 : decide (x42_2 < (y243.length : Int)) = false := decide_eq_false c39
                  clear c39
                  obtain rfl := Option.some.inj H
                  go_wp2
                  go_ret
                  exact ⟨by first | rfl | (simp [errW_none, errW_some] <;> rfl) | (simp [*, errW_none, errW_some] <;> rfl), by repeat (first | (with_reducible first | exact HB.out | apply below_alloc | apply pw_below_drewN | apply below_drew1) | exact HB.out)⟩
  · replace c3 := Bool.eq_false_iff.mpr c3
    subst c3
    have H1 : (some false) = some r := by rw [if_neg (show ¬ (false = true) by decide)] at H; exact H
    clear H
    have H := H1
    clear H1
    obtain rfl := Option.some.inj H
    go_enter Try.func6, Try.ntmps6
    go_wp2_with (first | ((with_reducible refine gate_callee (f := 7) rfl ?_); refine goesL_ (some 6) rfl rfl Try.func7 (by kernel_rfl) rfl #[] rfl (by (try simp only [List.map_toArray, List.map_cons, List.map_nil]); first | done | rfl | (simp only [List.length_drop, List.length_take]; rfl)) ?_; (with_reducible refine (grillelaw03_alive.calls k  false _ A2.out).mono ?_); rintro e w54 ⟨rfl, hb⟩; refine ⟨_, rfl, ?_⟩; have n0_ := Aside0.mk (below_step (by repeat (first | (with_reducible first | exact HB.out | apply below_alloc | apply pw_below_drewN | apply below_drew1) | exact HB.out)) hb); clear HB; have HB := n0_; clear n0_; (try clear hb); (try clear hb2); (try clear hk); (try clear hi)))
    go_ret
    exact ⟨by first | rfl | (simp [errW_none, errW_some] <;> rfl) | (simp [*, errW_none, errW_some] <;> rfl), by repeat (first | (with_reducible first | exact HB.out | apply below_alloc | apply pw_below_drewN | apply below_drew1) | exact HB.out)⟩

/-- THE ONE PURE STATEMENT of grillelaw03_TagOne: yours. -/
def grillelaw03_TagOne.Pure : Prop := ∀ (a0 : ByteArray), a0.size ≤ 140737488351232 → ∃ k, grillelaw03_TagOne.f k a0 = some true
theorem grillelaw03_TagOne.walk (P : grillelaw03_TagOne.Pure) (a0 : ByteArray) (w : World) (w0 : a0.size ≤ 140737488351232) :
    Calls Try.prog 6 #[.string a0] w fun e w' => e = .returned (.bool true) ∧ Below w.heap.size w w' := by
  obtain ⟨k, h⟩ := P a0 w0
  refine (grillelaw03_TagOne.calls k a0 true w h).mono ?_
  rintro e w' ⟨rfl, hd⟩
  exact ⟨rfl, hd⟩

end Go.Proofs.Ytmedojlhnpcniaa.X
