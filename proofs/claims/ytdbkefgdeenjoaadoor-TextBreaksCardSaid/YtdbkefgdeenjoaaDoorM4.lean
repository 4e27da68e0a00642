/- Words and walks that the row of TextBreaks needs: printed by programs, and plain laws. -/
import Derived.Test.YtdbkefgdeenjoaaDoorM1
import Derived.Test.YtdbkefgdeenjoaaDoorM2
import Derived.Test.YtdbkefgdeenjoaaDoorM3
section
namespace Go.Proofs.YtdbkefgdeenjoaaDoor.X
open Go.RowKit Go.Proofs.YtdbkefgdeenjoaaDoorW.PrintWords Go.Proofs.YtdbkefgdeenjoaaDoorW.PrintLast Go.Proofs.YtdbkefgdeenjoaaDoorW.PrintMore
attribute [local go_sem] max2_int min2_int max_two min_two max_three min_three max_four min_four
set_option linter.unusedVariables false
set_option linter.unusedSimpArgs false
mutual
def text_Runes.j0 : Nat → List Int → List Int → Bool → Bool → Option (List Int × Int)
  | 0, _, _, _, _ => none
  | k + 1, x2, x10, x11, x47 => if x47 = true then ((text_pairs.f k x10).bind fun bt204 => (text_Runes.j1 k x2 bt204.1 bt204.2)) else (text_Runes.j1 k x2 x10 x11)
def text_Runes.j1 : Nat → List Int → List Int → Bool → Option (List Int × Int)
  | 0, _, _, _ => none
  | k + 1, x2, x10, x11 => text_Runes.l0 k x2 x11 x10 (x10.length : Int) 0
def text_Runes.l0 : Nat → List Int → Bool → List Int → Int → Int → Option (List Int × Int)
  | 0, _, _, _, _, _ => none
  | k + 1, x2, x11, x53, x54, x55 => if x55 < x54 then (if 0 ≤ x55 then (if x55 < (x53.length : Int) then (if (rd x53 x55) > 1114111 then (some (([] : List Int), 6)) else ((utf8_ValidRune.f (wrap32 (rd x53 x55))).bind fun t209 => (if t209 = true then (if x2.length < 35184372088832 then (text_Runes.l0 k (x2 ++ [wrap32 (rd x53 x55)]) x11 x53 x54 (wrap64 (x55 + 1))) else (none)) else (some (([] : List Int), 6))))) else (none)) else (none)) else (if x11 = true then (some (x2, 0)) else (some (([] : List Int), 6)))
end
def text_Runes.f (k : Nat) (l0 : List Int) : Option (List Int × Int) := (text_Detect.f k l0).bind fun bt191 => ((text_wide.f bt191.1).bind fun bt193 => (if 0 ≤ bt191.2 then (if bt191.2 ≤ (l0.length : Int) then (if bt193.1 = 1 then ((text_plain.f k (l0.drop (bt191.2 : Int).toNat)).bind fun bt196 => (if bt196.2 = true then (some (bt196.1, 0)) else (some (([] : List Int), 6)))) else ((text_units.f k (l0.drop (bt191.2 : Int).toNat) bt193.1 bt193.2).bind fun bt200 => (if bt200.2 = true then (text_Runes.j0 k ([] : List Int) bt200.1 bt200.2 (bt193.1 == 2)) else (text_Runes.j0 k ([] : List Int) bt200.1 bt200.2 false)))) else (none)) else (none)))
set_option maxHeartbeats 8000000 in
set_option maxRecDepth 100000 in
theorem text_Runes.calls (k : Nat) (A0 : Option Addr) (c0 : Nat) (l0 : List Int) (r1 : List Int) (r2 : Int) (w : World) (hr0 : Kd.C (Kd.int .u8) w A0 l0.length l0) (hc0 : l0.length ≤ c0) (hT : Tabs.Holds w) (h : text_Runes.f k l0 = some (r1, r2)) :
    Calls Tryd.prog 13 #[.slice A0 l0.length c0] w fun e w' => ∃ v0_ : Value, e = .returned (.tuple #[v0_, .int .i64 r2]) ∧ Kd.R (Kd.int .i32) 21 w' w.heap.size (fun _ => True) v0_ r1 ∧ Below w.heap.size w w' := by
  have HR0 := Aside0.mk hr0
  have HC0 := Aside0.mk hc0
  clear hr0 hc0
  have HT := Aside0.mk hT
  clear hT
  have HB := Aside0.mk (Below.refl w.heap.size w)
  have H : ((text_Detect.f k l0).bind fun bt191 => ((text_wide.f bt191.1).bind fun bt193 => (if 0 ≤ bt191.2 then (if bt191.2 ≤ (l0.length : Int) then (if bt193.1 = 1 then ((text_plain.f k (l0.drop (bt191.2 : Int).toNat)).bind fun bt196 => (if bt196.2 = true then (some (bt196.1, 0)) else (some (([] : List Int), 6)))) else ((text_units.f k (l0.drop (bt191.2 : Int).toNat) bt193.1 bt193.2).bind fun bt200 => (if bt200.2 = true then (text_Runes.j0 k ([] : List Int) bt200.1 bt200.2 (bt193.1 == 2)) else (text_Runes.j0 k ([] : List Int) bt200.1 bt200.2 false)))) else (none)) else (none)))) = some (r1, r2) := h
  clear h
  replace H := Option.bind_eq_some_iff.mp H
  obtain ⟨⟨t191, t192⟩, A20, H⟩ := H
  replace H : ((text_wide.f t191).bind fun bt193 => (if 0 ≤ t192 then (if t192 ≤ (l0.length : Int) then (if bt193.1 = 1 then ((text_plain.f k (l0.drop (t192 : Int).toNat)).bind fun bt196 => (if bt196.2 = true then (some (bt196.1, 0)) else (some (([] : List Int), 6)))) else ((text_units.f k (l0.drop (t192 : Int).toNat) bt193.1 bt193.2).bind fun bt200 => (if bt200.2 = true then (text_Runes.j0 k ([] : List Int) bt200.1 bt200.2 (bt193.1 == 2)) else (text_Runes.j0 k ([] : List Int) bt200.1 bt200.2 false)))) else (none)) else (none))) = some (r1, r2) := H
  have A2 := Aside0.mk A20
  clear A20
  replace H := Option.bind_eq_some_iff.mp H
  obtain ⟨⟨t193, t194⟩, A30, H⟩ := H
  replace H : (if 0 ≤ t192 then (if t192 ≤ (l0.length : Int) then (if t193 = 1 then ((text_plain.f k (l0.drop (t192 : Int).toNat)).bind fun bt196 => (if bt196.2 = true then (some (bt196.1, 0)) else (some (([] : List Int), 6)))) else ((text_units.f k (l0.drop (t192 : Int).toNat) t193 t194).bind fun bt200 => (if bt200.2 = true then (text_Runes.j0 k ([] : List Int) bt200.1 bt200.2 (t193 == 2)) else (text_Runes.j0 k ([] : List Int) bt200.1 bt200.2 false)))) else (none)) else (none)) = some (r1, r2) := H
  have A3 := Aside0.mk A30
  clear A30
  by_cases c4 : 0 ≤ t192
  · rw [if_pos c4] at H
    have c4b0 := eq_true c4
    have c4b1 : decide (0 ≤ t192) = true := decide_eq_true c4
    clear c4
    by_cases c5 : t192 ≤ (l0.length : Int)
    · rw [if_pos c5] at H
      have c5b0 := eq_true c5
      have c5b1 : decide (t192 ≤ (l0.length : Int)) = true := decide_eq_true c5
      clear c5
      by_cases c6 : t193 = 1
      · rw [if_pos c6] at H
        have c6b0 : (t193 == 1) = true := beq_iff_eq.mpr c6
        have c6b1 : (t193 != 1) = false := bne_eq_false_iff_eq.mpr c6
        clear c6
        replace H := Option.bind_eq_some_iff.mp H
        obtain ⟨⟨t196, t199⟩, A70, H⟩ := H
        replace H : (if t199 = true then (some (t196, 0)) else (some (([] : List Int), 6))) = some (r1, r2) := H
        have A7 := Aside0.mk A70
        clear A70
        by_cases c8 : t199 = true
        · subst c8
          have H1 : (some (t196, 0)) = some (r1, r2) := by rw [if_pos rfl] at H; exact H
          clear H
          have H := H1
          clear H1
          simp only [Option.some.injEq, Prod.mk.injEq] at H
          obtain ⟨rfl, rfl⟩ := H
          go_enter Tryd.func13, Tryd.ntmps13
          go_wp2_with (first | ((with_reducible refine gate_callee (f := 11) rfl ?_); refine goesL_ (some 16) rfl rfl Tryd.func11 (by kernel_rfl) rfl #[.slice A0 l0.length c0] rfl (by (try simp only [List.map_toArray, List.map_cons, List.map_nil]); first | done | rfl | (simp only [List.length_drop, List.length_take]; rfl)) ?_; (with_reducible refine (text_Detect.calls k _ _ l0 t191 t192 _ ?side1 ?side2 A2.out).mono ?_); (case side1 => repeat (first | exact HR0.out | (with_reducible refine Kd.C_alloc ?_ _) | (with_reducible refine Kd.C_drewN ?_ _) | (with_reducible refine Kd.C_drew ?_))); (case side2 => exact HC0.out); rintro e w9 ⟨rfl, hb⟩; refine ⟨_, rfl, ?_⟩; have n0_ := Aside0.mk (below_step (by repeat (first | (with_reducible first | exact HB.out | apply below_alloc | apply pw_below_drewN | apply below_drew1) | exact HB.out)) hb); clear HB; have HB := n0_; clear n0_; (try clear hb); (try clear hb2); (try clear hk); (try clear hi)) | ((with_reducible refine gate_callee (f := 31) rfl ?_); refine goesL_ (some 21) rfl rfl Tryd.func31 (by kernel_rfl) rfl #[.int .i64 t191] rfl (by (try simp only [List.map_toArray, List.map_cons, List.map_nil]); first | done | rfl | (simp only [List.length_drop, List.length_take]; rfl)) ?_; (with_reducible refine (text_wide.calls t191 t193 t194 _ A3.out).mono ?_); rintro e w' ⟨rfl, ⟨nd, rfl⟩⟩; refine ⟨_, rfl, ?_⟩; obtain ⟨i010, hi010, _, hsz10, _⟩ := info_parts info5; obtain ⟨A10, hcut10, hA10, hC10⟩ := print_drop_of (P := Tryd.prog) (Value.int .u8) 0 22 5 .i64 Tryd.underlying22 hi010 hsz10 A0 c0 l0 t192 (of_decide_eq_true (by first | (with_reducible assumption) | assumption)) (of_decide_eq_true (by first | (with_reducible assumption) | assumption)) HC0.out; have HR195 := Aside0.mk (Kd.C_of_reads (h1 := fun _ => rfl) (hA10 _ (Kd.reads_of_C HR0.out))); have HC195 := Aside0.mk hC10; clear hA10 hC10 hi010 hsz10) | ((with_reducible refine gate_callee (f := 32) rfl ?_); refine goesL_ (some 31) rfl rfl Tryd.func32 (by kernel_rfl) rfl #[.slice A10 (l0.drop (t192 : Int).toNat).length (c0 - t192.toNat)] rfl (by (try simp only [List.map_toArray, List.map_cons, List.map_nil]); first | done | (rw [show (l0.drop (t192 : Int).toNat).length = (l0.length - t192.toNat) from List.length_drop] <;> rfl) | rfl | (simp only [List.length_drop, List.length_take]; rfl)) ?_; (with_reducible refine (text_plain.calls k (fun k_ => k_ < w.heap.size) _ _ (l0.drop (t192 : Int).toNat) t196 true _ ?side1 ?side2 A7.out).mono ?_); (case side1 => exact Kd.V_mk HC195.out (Kd.F_below (Kd.C_F (Kd.heap_int .u8) HR195.out) (by repeat (first | (with_reducible first | exact HB.out | apply below_alloc | apply pw_below_drewN | apply below_drew1) | exact HB.out)))); (case side2 => exact Tabs.Holds.below HT.out (by repeat (first | (with_reducible first | exact HB.out | apply below_alloc | apply pw_below_drewN | apply below_drew1) | exact HB.out))); rintro e w11 ⟨v197, rfl, ho0, hb⟩; refine ⟨_, rfl, ?_⟩; have n0_ := Aside0.mk (Kd.R_lower (Kd.R_mono (ok' := fun k_ => True) ho0 (fun _ hk_ => trivial)) (below_size (by repeat (first | (with_reducible first | exact HB.out | apply below_alloc | apply pw_below_drewN | apply below_drew1) | exact HB.out)))); have n1_ := Aside0.mk (below_step (by repeat (first | (with_reducible first | exact HB.out | apply below_alloc | apply pw_below_drewN | apply below_drew1) | exact HB.out)) hb); clear HB; have HO198 := n0_; have HB := n1_; clear n0_ n1_; (try clear hb); (try clear hb2); (try clear hk); (try clear hi); (try clear ho0)))
          go_ret2
          exact ⟨_, by first | rfl | (simp [errW_none, errW_some] <;> rfl) | (simp [*, errW_none, errW_some] <;> rfl), by (with_reducible repeat (first | apply Kd.R_alloc | apply Kd.R_drewN | apply Kd.R_drew)); exact HO198.out, by repeat (first | (with_reducible first | exact HB.out | apply below_alloc | apply pw_below_drewN | apply below_drew1) | exact HB.out)⟩
        · replace c8 := Bool.eq_false_iff.mpr c8
          subst c8
          have H1 : (some (([] : List Int), 6)) = some (r1, r2) := by rw [if_neg (show ¬ (false = true) by decide)] at H; exact H
          clear H
          have H := H1
          clear H1
          simp only [Option.some.injEq, Prod.mk.injEq] at H
          obtain ⟨rfl, rfl⟩ := H
          go_enter Tryd.func13, Tryd.ntmps13
          go_wp2_with (first | ((with_reducible refine gate_callee (f := 11) rfl ?_); refine goesL_ (some 16) rfl rfl Tryd.func11 (by kernel_rfl) rfl #[.slice A0 l0.length c0] rfl (by (try simp only [List.map_toArray, List.map_cons, List.map_nil]); first | done | rfl | (simp only [List.length_drop, List.length_take]; rfl)) ?_; (with_reducible refine (text_Detect.calls k _ _ l0 t191 t192 _ ?side1 ?side2 A2.out).mono ?_); (case side1 => repeat (first | exact HR0.out | (with_reducible refine Kd.C_alloc ?_ _) | (with_reducible refine Kd.C_drewN ?_ _) | (with_reducible refine Kd.C_drew ?_))); (case side2 => exact HC0.out); rintro e w12 ⟨rfl, hb⟩; refine ⟨_, rfl, ?_⟩; have n0_ := Aside0.mk (below_step (by repeat (first | (with_reducible first | exact HB.out | apply below_alloc | apply pw_below_drewN | apply below_drew1) | exact HB.out)) hb); clear HB; have HB := n0_; clear n0_; (try clear hb); (try clear hb2); (try clear hk); (try clear hi)) | ((with_reducible refine gate_callee (f := 31) rfl ?_); refine goesL_ (some 21) rfl rfl Tryd.func31 (by kernel_rfl) rfl #[.int .i64 t191] rfl (by (try simp only [List.map_toArray, List.map_cons, List.map_nil]); first | done | rfl | (simp only [List.length_drop, List.length_take]; rfl)) ?_; (with_reducible refine (text_wide.calls t191 t193 t194 _ A3.out).mono ?_); rintro e w' ⟨rfl, ⟨nd, rfl⟩⟩; refine ⟨_, rfl, ?_⟩; obtain ⟨i013, hi013, _, hsz13, _⟩ := info_parts info5; obtain ⟨A13, hcut13, hA13, hC13⟩ := print_drop_of (P := Tryd.prog) (Value.int .u8) 0 22 5 .i64 Tryd.underlying22 hi013 hsz13 A0 c0 l0 t192 (of_decide_eq_true (by first | (with_reducible assumption) | assumption)) (of_decide_eq_true (by first | (with_reducible assumption) | assumption)) HC0.out; have HR195 := Aside0.mk (Kd.C_of_reads (h1 := fun _ => rfl) (hA13 _ (Kd.reads_of_C HR0.out))); have HC195 := Aside0.mk hC13; clear hA13 hC13 hi013 hsz13) | ((with_reducible refine gate_callee (f := 32) rfl ?_); refine goesL_ (some 31) rfl rfl Tryd.func32 (by kernel_rfl) rfl #[.slice A13 (l0.drop (t192 : Int).toNat).length (c0 - t192.toNat)] rfl (by (try simp only [List.map_toArray, List.map_cons, List.map_nil]); first | done | (rw [show (l0.drop (t192 : Int).toNat).length = (l0.length - t192.toNat) from List.length_drop] <;> rfl) | rfl | (simp only [List.length_drop, List.length_take]; rfl)) ?_; (with_reducible refine (text_plain.calls k (fun k_ => k_ < w.heap.size) _ _ (l0.drop (t192 : Int).toNat) t196 false _ ?side1 ?side2 A7.out).mono ?_); (case side1 => exact Kd.V_mk HC195.out (Kd.F_below (Kd.C_F (Kd.heap_int .u8) HR195.out) (by repeat (first | (with_reducible first | exact HB.out | apply below_alloc | apply pw_below_drewN | apply below_drew1) | exact HB.out)))); (case side2 => exact Tabs.Holds.below HT.out (by repeat (first | (with_reducible first | exact HB.out | apply below_alloc | apply pw_below_drewN | apply below_drew1) | exact HB.out))); rintro e w14 ⟨v197, rfl, ho0, hb⟩; refine ⟨_, rfl, ?_⟩; have n0_ := Aside0.mk (Kd.R_lower (Kd.R_mono (ok' := fun k_ => True) ho0 (fun _ hk_ => trivial)) (below_size (by repeat (first | (with_reducible first | exact HB.out | apply below_alloc | apply pw_below_drewN | apply below_drew1) | exact HB.out)))); have n1_ := Aside0.mk (below_step (by repeat (first | (with_reducible first | exact HB.out | apply below_alloc | apply pw_below_drewN | apply below_drew1) | exact HB.out)) hb); clear HB; have HO198 := n0_; have HB := n1_; clear n0_ n1_; (try clear hb); (try clear hb2); (try clear hk); (try clear hi); (try clear ho0)))
          go_ret2
          exact ⟨_, by first | rfl | (simp [errW_none, errW_some] <;> rfl) | (simp [*, errW_none, errW_some] <;> rfl), by first | exact Kd.R_nil _ _ _ _ _ | exact Kd.N_nil _ _ _ _ _ | exact Kd.V_nil _ _ _ _ _ | exact Kd.Q_nil _ _ _ _ _ | exact Kd.S_nil _ _ _ _ _, by repeat (first | (with_reducible first | exact HB.out | apply below_alloc | apply pw_below_drewN | apply below_drew1) | exact HB.out)⟩
      · rw [if_neg c6] at H
        have c6b0 : (t193 == 1) = false := beq_eq_false_iff_ne.mpr c6
        have c6b1 : (t193 != 1) = true := bne_iff_ne.mpr c6
        replace H := Option.bind_eq_some_iff.mp H
        obtain ⟨⟨t200, t203⟩, A150, H⟩ := H
        replace H : (if t203 = true then (text_Runes.j0 k ([] : List Int) t200 t203 (t193 == 2)) else (text_Runes.j0 k ([] : List Int) t200 t203 false)) = some (r1, r2) := H
        have A15 := Aside0.mk A150
        clear A150
        have HC16 := Aside0.mk H
        clear H
        go_enter Tryd.func13, Tryd.ntmps13
        go_upto_region 10 with (first | ((with_reducible refine gate_callee (f := 11) rfl ?_); refine goesL_ (some 16) rfl rfl Tryd.func11 (by kernel_rfl) rfl #[.slice A0 l0.length c0] rfl (by (try simp only [List.map_toArray, List.map_cons, List.map_nil]); first | done | rfl | (simp only [List.length_drop, List.length_take]; rfl)) ?_; (with_reducible refine (text_Detect.calls k _ _ l0 t191 t192 _ ?side1 ?side2 A2.out).mono ?_); (case side1 => repeat (first | exact HR0.out | (with_reducible refine Kd.C_alloc ?_ _) | (with_reducible refine Kd.C_drewN ?_ _) | (with_reducible refine Kd.C_drew ?_))); (case side2 => exact HC0.out); rintro e w17 ⟨rfl, hb⟩; refine ⟨_, rfl, ?_⟩; have n0_ := Aside0.mk (below_step (by repeat (first | (with_reducible first | exact HB.out | apply below_alloc | apply pw_below_drewN | apply below_drew1) | exact HB.out)) hb); clear HB; have HB := n0_; clear n0_; (try clear hb); (try clear hb2); (try clear hk); (try clear hi)) | ((with_reducible refine gate_callee (f := 31) rfl ?_); refine goesL_ (some 21) rfl rfl Tryd.func31 (by kernel_rfl) rfl #[.int .i64 t191] rfl (by (try simp only [List.map_toArray, List.map_cons, List.map_nil]); first | done | rfl | (simp only [List.length_drop, List.length_take]; rfl)) ?_; (with_reducible refine (text_wide.calls t191 t193 t194 _ A3.out).mono ?_); rintro e w' ⟨rfl, ⟨nd, rfl⟩⟩; refine ⟨_, rfl, ?_⟩; obtain ⟨i018, hi018, _, hsz18, _⟩ := info_parts info5; obtain ⟨A18, hcut18, hA18, hC18⟩ := print_drop_of (P := Tryd.prog) (Value.int .u8) 0 22 5 .i64 Tryd.underlying22 hi018 hsz18 A0 c0 l0 t192 (of_decide_eq_true (by first | (with_reducible assumption) | assumption)) (of_decide_eq_true (by first | (with_reducible assumption) | assumption)) HC0.out; have HR195 := Aside0.mk (Kd.C_of_reads (h1 := fun _ => rfl) (hA18 _ (Kd.reads_of_C HR0.out))); have HC195 := Aside0.mk hC18; clear hA18 hC18 hi018 hsz18) | ((with_reducible refine gate_callee (f := 33) rfl ?_); refine goesL_ (some 40) rfl rfl Tryd.func33 (by kernel_rfl) rfl #[.slice A18 (l0.drop (t192 : Int).toNat).length (c0 - t192.toNat), .int .i64 t193, .bool t194] rfl (by (try simp only [List.map_toArray, List.map_cons, List.map_nil]); first | done | (rw [show (l0.drop (t192 : Int).toNat).length = (l0.length - t192.toNat) from List.length_drop] <;> rfl) | rfl | (simp only [List.length_drop, List.length_take]; rfl)) ?_; (with_reducible refine (text_units.calls k (fun k_ => k_ < w.heap.size) _ _ (l0.drop (t192 : Int).toNat) t193 t194 t200 t203 _ ?side1 A15.out).mono ?_); (case side1 => exact Kd.V_mk HC195.out (Kd.F_below (Kd.C_F (Kd.heap_int .u8) HR195.out) (by repeat (first | (with_reducible first | exact HB.out | apply below_alloc | apply pw_below_drewN | apply below_drew1) | exact HB.out)))); rintro e w19 ⟨v201, rfl, ho0, hb⟩; refine ⟨_, rfl, ?_⟩; have n0_ := Aside0.mk (Kd.R_lower (Kd.R_mono (ok' := fun k_ => True) ho0 (fun _ hk_ => trivial)) (below_size (by repeat (first | (with_reducible first | exact HB.out | apply below_alloc | apply pw_below_drewN | apply below_drew1) | exact HB.out)))); have n1_ := Aside0.mk (below_step (by repeat (first | (with_reducible first | exact HB.out | apply below_alloc | apply pw_below_drewN | apply below_drew1) | exact HB.out)) hb); clear HB; have HO202 := n0_; have HB := n1_; clear n0_ n1_; (try clear hb); (try clear hb2); (try clear hk); (try clear hi); (try clear ho0)))
        (try simp only [Act.put, List.setIfInBounds_toArray, List.set_cons_zero, List.set_cons_succ])
        go_cut [47] (fun v47 wc => ∃ (kq : Nat) (x47_15 : Bool), v47 = .bool x47_15 ∧ Aside0 (text_Runes.j0 kq ([] : List Int) t200 t203 x47_15 = some (r1, r2)) ∧ Aside0 (kq ≤ k) ∧ Aside0 (Kd.R (Kd.int .i32) 21 wc w.heap.size (fun _ => True) (.slice none 0 0) ([] : List Int)) ∧ Aside0 (Kd.R (Kd.int .u32) 66 wc w.heap.size (fun _ => True) v201 t200) ∧ Aside0 (Below w.heap.size w wc))
        case first =>
          have H := HC16.out
          clear HC16
          by_cases c20 : t203 = true
          · subst c20
            have H1 : (text_Runes.j0 k ([] : List Int) t200 true (t193 == 2)) = some (r1, r2) := by rw [if_pos rfl] at H; exact H
            clear H
            have H := H1
            clear H1
            have H' := Aside0.mk H
            clear H
            go_wp2
            go_meet
            case rel => exact ⟨_, ((t193 == 2)), (by first | rfl | (simp; done) | (simp [*]; done) | (simp [xbne_nil, xbeq_nil]; done)), H', ⟨by first | omega | exact Nat.le_refl _⟩, ⟨by first | exact Kd.R_nil _ _ _ _ _ | exact Kd.N_nil _ _ _ _ _ | exact Kd.V_nil _ _ _ _ _ | exact Kd.Q_nil _ _ _ _ _ | exact Kd.S_nil _ _ _ _ _⟩, ⟨by (with_reducible repeat (first | apply Kd.R_alloc | apply Kd.R_drewN | apply Kd.R_drew)); exact HO202.out⟩, ⟨by repeat (first | (with_reducible first | exact HB.out | apply below_alloc | apply pw_below_drewN | apply below_drew1) | exact HB.out)⟩⟩
          · replace c20 := Bool.eq_false_iff.mpr c20
            subst c20
            have H1 : (text_Runes.j0 k ([] : List Int) t200 false false) = some (r1, r2) := by rw [if_neg (show ¬ (false = true) by decide)] at H; exact H
            clear H
            have H := H1
            clear H1
            have H' := Aside0.mk H
            clear H
            go_wp2
            go_meet
            case rel => exact ⟨_, (false), (by first | rfl | (simp; done) | (simp [*]; done) | (simp [xbne_nil, xbeq_nil]; done)), H', ⟨by first | omega | exact Nat.le_refl _⟩, ⟨by first | exact Kd.R_nil _ _ _ _ _ | exact Kd.N_nil _ _ _ _ _ | exact Kd.V_nil _ _ _ _ _ | exact Kd.Q_nil _ _ _ _ _ | exact Kd.S_nil _ _ _ _ _⟩, ⟨by (with_reducible repeat (first | apply Kd.R_alloc | apply Kd.R_drewN | apply Kd.R_drew)); exact HO202.out⟩, ⟨by repeat (first | (with_reducible first | exact HB.out | apply below_alloc | apply pw_below_drewN | apply below_drew1) | exact HB.out)⟩⟩
        case rest =>
          clear HC16
          try clear c1
          try clear c2
          try clear p2
          try clear c3
          try clear c4
          try clear c4b0
          try clear c4b1
          try clear c5
          try clear c5b0
          try clear c5b1
          try clear c6
          try clear c6b0
          try clear c6b1
          try clear c8
          try clear c11
          try clear c13
          try clear c20
          obtain ⟨kq, x47_15, rfl, HA, HJ15, HO_2, HO_10, HB⟩ := hcut
          cases kq with
          | zero => exact absurd HA.out (by simp [text_Runes.j0])
          | succ kj15 =>
            have H := HA.out
            clear HA
            simp only [text_Runes.j0] at H
            have HC21 := Aside0.mk H
            clear H
            go_upto_if 47 with (fail)
            go_cut [10, 11] (fun v10 v11 wc => ∃ (kq : Nat) (x10_20 : List Int) (x11_20 : Bool), v11 = .bool x11_20 ∧ Aside0 (text_Runes.j1 kq ([] : List Int) x10_20 x11_20 = some (r1, r2)) ∧ Aside0 (kq ≤ kj15) ∧ Aside0 (Kd.R (Kd.int .i32) 21 wc w.heap.size (fun _ => True) (.slice none 0 0) ([] : List Int)) ∧ Aside0 (Kd.R (Kd.int .u32) 66 wc w.heap.size (fun _ => True) v10 x10_20) ∧ Aside0 (Below w.heap.size w wc))
            case first =>
              have H := HC21.out
              clear HC21
              by_cases c22 : x47_15 = true
              · subst c22
                have H1 : ((text_pairs.f kj15 t200).bind fun bt204 => (text_Runes.j1 kj15 ([] : List Int) bt204.1 bt204.2)) = some (r1, r2) := by rw [if_pos rfl] at H; exact H
                clear H
                have H := H1
                clear H1
                replace H := Option.bind_eq_some_iff.mp H
                obtain ⟨⟨t204, t205⟩, A230, H⟩ := H
                replace H : (text_Runes.j1 kj15 ([] : List Int) t204 t205) = some (r1, r2) := H
                have A23 := Aside0.mk A230
                clear A230
                have H' := Aside0.mk H
                clear H
                obtain ⟨Ao24, co24, eo24⟩ := Kd.R_slice HO_10.out
                subst eo24
                go_wp2_with (first | ((with_reducible refine gate_callee (f := 34) rfl ?_); refine goesL_ (some 50) rfl rfl Tryd.func34 (by kernel_rfl) rfl #[.slice Ao24 t200.length co24] rfl (by (try simp only [List.map_toArray, List.map_cons, List.map_nil]); first | done | rfl | (simp only [List.length_drop, List.length_take]; rfl)) ?_; (with_reducible refine (text_pairs.calls kj15 _ _ t200 t204 t205 _ ?side1 ?side2 A23.out).mono ?_); (case side1 => repeat (first | exact (Kd.R_reads' HO_10.out).2.2 | (with_reducible refine Kd.C_alloc ?_ _) | (with_reducible refine Kd.C_drewN ?_ _) | (with_reducible refine Kd.C_drew ?_))); (case side2 => exact (Kd.R_reads' HO_10.out).2.1); rintro e w25 ⟨v206, rfl, ho0, hb⟩; refine ⟨_, rfl, ?_⟩; have n0_ := Aside0.mk (Kd.R_below (by (with_reducible repeat (first | apply Kd.R_alloc | apply Kd.R_drewN | apply Kd.R_drew)); exact HO_2.out) hb); have n1_ := Aside0.mk (Kd.R_elder' (by (with_reducible repeat (first | apply Kd.R_alloc | apply Kd.R_drewN | apply Kd.R_drew)); exact HO_10.out) (Kd.R_base ho0) hb); have n2_ := Aside0.mk (Kd.R_lower (Kd.R_new' ho0 (Kd.R_lt (by (with_reducible repeat (first | apply Kd.R_alloc | apply Kd.R_drewN | apply Kd.R_drew)); exact HO_10.out))) (below_size (by repeat (first | (with_reducible first | exact HB.out | apply below_alloc | apply pw_below_drewN | apply below_drew1) | exact HB.out)))); have n3_ := Aside0.mk (below_step (by repeat (first | (with_reducible first | exact HB.out | apply below_alloc | apply pw_below_drewN | apply below_drew1) | exact HB.out)) hb); clear HO_2; clear HO_10; clear HB; have HO_2 := n0_; have HO_10 := n1_; have HO207 := n2_; have HB := n3_; clear n0_ n1_ n2_ n3_; (try clear hb); (try clear hb2); (try clear hk); (try clear hi); (try clear ho0)))
                go_meet
                case rel => exact ⟨_, (t204), (t205), (by first | rfl | (simp; done) | (simp [*]; done) | (simp [xbne_nil, xbeq_nil]; done)), H', ⟨by have := HJ15.out; first | omega | exact Nat.le_refl _⟩, ⟨by (with_reducible repeat (first | apply Kd.R_alloc | apply Kd.R_drewN | apply Kd.R_drew)); exact HO_2.out⟩, ⟨by (with_reducible repeat (first | apply Kd.R_alloc | apply Kd.R_drewN | apply Kd.R_drew)); exact Kd.R_mono HO207.out (fun _ hk => trivial)⟩, ⟨by repeat (first | (with_reducible first | exact HB.out | apply below_alloc | apply pw_below_drewN | apply below_drew1) | exact HB.out)⟩⟩
              · replace c22 := Bool.eq_false_iff.mpr c22
                subst c22
                have H1 : (text_Runes.j1 kj15 ([] : List Int) t200 t203) = some (r1, r2) := by rw [if_neg (show ¬ (false = true) by decide)] at H; exact H
                clear H
                have H := H1
                clear H1
                have H' := Aside0.mk H
                clear H
                go_wp2
                go_meet
                case rel => exact ⟨_, (t200), (t203), (by first | rfl | (simp; done) | (simp [*]; done) | (simp [xbne_nil, xbeq_nil]; done)), H', ⟨by have := HJ15.out; first | omega | exact Nat.le_refl _⟩, ⟨by (with_reducible repeat (first | apply Kd.R_alloc | apply Kd.R_drewN | apply Kd.R_drew)); exact HO_2.out⟩, ⟨by (with_reducible repeat (first | apply Kd.R_alloc | apply Kd.R_drewN | apply Kd.R_drew)); exact HO_10.out⟩, ⟨by repeat (first | (with_reducible first | exact HB.out | apply below_alloc | apply pw_below_drewN | apply below_drew1) | exact HB.out)⟩⟩
            case rest =>
              clear HC21
              try clear c1
              try clear c2
              try clear p2
              try clear c3
              try clear c4
              try clear c4b0
              try clear c4b1
              try clear c5
              try clear c5b0
              try clear c5b1
              try clear c6
              try clear c6b0
              try clear c6b1
              try clear c8
              try clear c11
              try clear c13
              try clear c20
              try clear c22
              try clear p2
              obtain ⟨kq, x10_20, x11_20, rfl, HA, HJ20, HO_2, HO_10, HB⟩ := hcut
              cases kq with
              | zero => exact absurd HA.out (by simp [text_Runes.j1])
              | succ kj20 =>
                have H := HA.out
                clear HA
                simp only [text_Runes.j1] at H
                have H' := Aside0.mk H
                clear H
                obtain ⟨Ao26, co26, eo26⟩ := Kd.R_slice HO_10.out
                subst eo26
                go_wp2
                go_loopg [2, 55] kj20 (fun kq v2 v55 w' => ∃ (x2_3 : List Int) (x55_3 : Int), v55 = .int .i64 x55_3 ∧ Aside0 (text_Runes.l0 kq x2_3 x11_20 x10_20 (x10_20.length : Int) x55_3 = some (r1, r2)) ∧ Aside0 (kq ≤ kj20) ∧ Aside0 (Kd.R (Kd.int .i32) 21 w' w.heap.size (fun _ => True) v2 x2_3) ∧ Aside0 (Kd.R (Kd.int .u32) 66 w' w.heap.size (fun _ => True) (.slice Ao26 x10_20.length co26) x10_20) ∧ Aside0 (Below w.heap.size w w'))
                case atStart => exact ⟨(([] : List Int)), (0), (by first | rfl | (simp; done) | (simp [*]; done) | (simp [xbne_nil, xbeq_nil]; done)), H', ⟨Nat.le_refl _⟩, ⟨by (with_reducible repeat (first | apply Kd.R_alloc | apply Kd.R_drewN | apply Kd.R_drew)); exact HO_2.out⟩, ⟨by (with_reducible repeat (first | apply Kd.R_alloc | apply Kd.R_drewN | apply Kd.R_drew)); exact HO_10.out⟩, ⟨by repeat (first | (with_reducible first | exact HB.out | apply below_alloc | apply pw_below_drewN | apply below_drew1) | exact HB.out)⟩⟩
                case round =>
                  clear H'
                  try clear c1
                  try clear c2
                  try clear p2
                  try clear c3
                  try clear c4
                  try clear c4b0
                  try clear c4b1
                  try clear c5
                  try clear c5b0
                  try clear c5b1
                  try clear c6
                  try clear c6b0
                  try clear c6b1
                  try clear c8
                  try clear c11
                  try clear c13
                  try clear c20
                  try clear c22
                  try clear p2
                  obtain ⟨x2_3, x55_3, rfl, HA, HK3, HO_2, HO_53, HB⟩ := hrel
                  cases gk with
                  | zero => exact absurd HA.out (by simp [text_Runes.l0])
                  | succ k3 =>
                    have H := HA.out
                    clear HA
                    simp only [text_Runes.l0] at H
                    by_cases c27 : x55_3 < (x10_20.length : Int)
                    · rw [if_pos c27] at H
                      have c27b0 : decide (x55_3 < (x10_20.length : Int)) = true := decide_eq_true c27
                      clear c27
                      by_cases c28 : 0 ≤ x55_3
                      · rw [if_pos c28] at H
                        have c28b0 : decide (0 ≤ x55_3) = true := decide_eq_true c28
                        clear c28
                        by_cases c29 : x55_3 < (x10_20.length : Int)
                        · rw [if_pos c29] at H
                          have c29b0 : decide (x55_3 < (x10_20.length : Int)) = true := decide_eq_true c29
                          clear c29
                          by_cases c30 : (rd x10_20 x55_3) > 1114111
                          · rw [if_pos c30] at H
                            have c30b0 : decide (1114111 < (rd x10_20 x55_3)) = true := decide_eq_true c30
                            clear c30
                            simp only [Option.some.injEq, Prod.mk.injEq] at H
                            obtain ⟨rfl, rfl⟩ := H
                            have p208 : 0 ≤ (x55_3 : Int) := of_decide_eq_true (by first | (with_reducible assumption) | assumption)
                            have q208 : x55_3 < (x10_20.length : Int) := of_decide_eq_true (by first | (with_reducible assumption) | assumption)
                            obtain ⟨ad208, e208, hx208_0⟩ := Kd.at_int (Kd.R_reads' HO_53.out).2.2 x55_3 p208 q208
                            cases e208
                            replace p208 := eq_true p208
                            replace q208 := eq_true q208
                            go_wp2
                            go_ret2
                            exact ⟨_, by first | rfl | (simp [errW_none, errW_some] <;> rfl) | (simp [*, errW_none, errW_some] <;> rfl), by first | exact Kd.R_nil _ _ _ _ _ | exact Kd.N_nil _ _ _ _ _ | exact Kd.V_nil _ _ _ _ _ | exact Kd.Q_nil _ _ _ _ _ | exact Kd.S_nil _ _ _ _ _, by repeat (first | (with_reducible first | exact HB.out | apply below_alloc | apply pw_below_drewN | apply below_drew1) | exact HB.out)⟩
                          · rw [if_neg c30] at H
                            have c30b0 : decide (1114111 < (rd x10_20 x55_3)) = false := decide_eq_false c30
                            clear c30
                            replace H := Option.bind_eq_some_iff.mp H
                            obtain ⟨t209, A310, H⟩ := H
                            replace H : (if t209 = true then (if x2_3.length < 35184372088832 then (text_Runes.l0 k3 (x2_3 ++ [wrap32 (rd x10_20 x55_3)]) x11_20 x10_20 (x10_20.length : Int) (wrap64 (x55_3 + 1))) else (none)) else (some (([] : List Int), 6))) = some (r1, r2) := H
                            have A31 := Aside0.mk A310
                            clear A310
                            by_cases c32 : t209 = true
                            · subst c32
                              have H1 : (if x2_3.length < 35184372088832 then (text_Runes.l0 k3 (x2_3 ++ [wrap32 (rd x10_20 x55_3)]) x11_20 x10_20 (x10_20.length : Int) (wrap64 (x55_3 + 1))) else (none)) = some (r1, r2) := by rw [if_pos rfl] at H; exact H
                              clear H
                              have H := H1
                              clear H1
                              by_cases c33 : x2_3.length < 35184372088832
                              · rw [if_pos c33] at H
                                have LMc33 := Aside0.mk c33
                                clear c33
                                obtain ⟨y210, hy210⟩ : ∃ y_ : List Int, y_ = (x2_3 ++ [wrap32 (rd x10_20 x55_3)]) := ⟨_, rfl⟩
                                replace H : (text_Runes.l0 k3 y210 x11_20 x10_20 (x10_20.length : Int) (wrap64 (x55_3 + 1))) = some (r1, r2) := by first | (rw [hy210]; with_reducible exact H) | (have H2_ := (Option.bind_some _ _).symm.trans H; rw [hy210]; with_reducible exact H2_) | (have H2_ := (Option.bind_some _ _).symm.trans H; with_reducible exact H2_) | with_reducible exact H | (rw [hy210]; exact H) | exact H
                                have Ny210 := Aside0.mk hy210
                                clear hy210
                                have H' := Aside0.mk H
                                clear H
                                have p208 : 0 ≤ (x55_3 : Int) := of_decide_eq_true (by first | (with_reducible assumption) | assumption)
                                have q208 : x55_3 < (x10_20.length : Int) := of_decide_eq_true (by first | (with_reducible assumption) | assumption)
                                obtain ⟨ad208, e208, hx208_0⟩ := Kd.at_int (Kd.R_reads' HO_53.out).2.2 x55_3 p208 q208
                                cases e208
                                replace p208 := eq_true p208
                                replace q208 := eq_true q208
                                go_wp2_with (first | (go_at_call 35; (with_reducible refine (utf8_ValidRune.calls (wrap32 (rd x10_20 x55_3)) true _ A31.out).mono ?_); rintro e w' ⟨rfl, ⟨nd, rfl⟩⟩) | ((with_reducible refine gate_builtin (b := .append) (xs := #[.tmp 67, .tmp 70]) rfl ?_); at_builtin; refine Kd.R_append (Kd.int .i32) (w0 := w) w.heap.size rfl (.tmp 67) (.tmp 70) 26 21 (.int .i32 0) 4 rfl Tryd.underlying26 info21 rfl (by decide) (by omega) u2 x2_3 (wrap32 (rd x10_20 x55_3)) [.int .i32 (wrap32 (rd x10_20 x55_3))] (fun _ => True) (fun _ => False) rfl rfl ?aP (fun _ hk => hk.elim) ?aF ?aO ?aB ?aS ?aL ?_; (case aP => exact rfl); (case aB => exact (by repeat (first | (with_reducible first | exact HB.out | apply below_alloc | apply pw_below_drewN | apply below_drew1) | exact HB.out))); (case aF => exact (fun _ _ => trivial)); (case aO => exact (by (with_reducible repeat (first | apply Kd.R_alloc | apply Kd.R_drewN | apply Kd.R_drew)); exact HO_2.out)); (case aS => exact (below_size (by repeat (first | (with_reducible first | exact HB.out | apply below_alloc | apply pw_below_drewN | apply below_drew1) | exact HB.out)))); (case aL => have := LMc33.out; omega); intro v211 w34 ho hb hg hat; rw [← Ny210.out] at ho; have n0_ := Aside0.mk (Kd.R_over' (by (with_reducible repeat (first | apply Kd.R_alloc | apply Kd.R_drewN | apply Kd.R_drew)); exact HO_53.out) (Kd.R_typed (by (with_reducible repeat (first | apply Kd.R_alloc | apply Kd.R_drewN | apply Kd.R_drew)); exact HO_2.out)) (by decide) hg); have n1_ := Aside0.mk (hb); have n2_ := Aside0.mk (ho); clear HO_53; clear HB; clear HO_2; have HO_53 := n0_; have HB := n1_; have HO212 := n2_; clear n0_ n1_ n2_; clear ho hb hg hat))
                                go_roundg k3
                                case measure => have := HJ15.out; have := HJ20.out; have := HK3.out; omega
                                case rel => exact ⟨(y210), (wrap64 (x55_3 + 1)), (by first | rfl | (simp; done) | (simp [*]; done) | (simp [xbne_nil, xbeq_nil]; done)), H', ⟨by have := HJ15.out; have := HJ20.out; have := HK3.out; omega⟩, ⟨by (with_reducible repeat (first | apply Kd.R_alloc | apply Kd.R_drewN | apply Kd.R_drew)); exact HO212.out⟩, ⟨by (with_reducible repeat (first | apply Kd.R_alloc | apply Kd.R_drewN | apply Kd.R_drew)); exact HO_53.out⟩, ⟨by repeat (first | (with_reducible first | exact HB.out | apply below_alloc | apply pw_below_drewN | apply below_drew1) | exact HB.out)⟩⟩
                              · rw [if_neg c33] at H
                                exact absurd H (by simp)
                            · replace c32 := Bool.eq_false_iff.mpr c32
                              subst c32
                              have H1 : (some (([] : List Int), 6)) = some (r1, r2) := by rw [if_neg (show ¬ (false = true) by decide)] at H; exact H
                              clear H
                              have H := H1
                              clear H1
                              simp only [Option.some.injEq, Prod.mk.injEq] at H
                              obtain ⟨rfl, rfl⟩ := H
                              have p208 : 0 ≤ (x55_3 : Int) := of_decide_eq_true (by first | (with_reducible assumption) | assumption)
                              have q208 : x55_3 < (x10_20.length : Int) := of_decide_eq_true (by first | (with_reducible assumption) | assumption)
                              obtain ⟨ad208, e208, hx208_0⟩ := Kd.at_int (Kd.R_reads' HO_53.out).2.2 x55_3 p208 q208
                              cases e208
                              replace p208 := eq_true p208
                              replace q208 := eq_true q208
                              go_wp2_with (first | (go_at_call 35; (with_reducible refine (utf8_ValidRune.calls (wrap32 (rd x10_20 x55_3)) false _ A31.out).mono ?_); rintro e w' ⟨rfl, ⟨nd, rfl⟩⟩))
                              go_ret2
                              exact ⟨_, by first | rfl | (simp [errW_none, errW_some] <;> rfl) | (simp [*, errW_none, errW_some] <;> rfl), by first | exact Kd.R_nil _ _ _ _ _ | exact Kd.N_nil _ _ _ _ _ | exact Kd.V_nil _ _ _ _ _ | exact Kd.Q_nil _ _ _ _ _ | exact Kd.S_nil _ _ _ _ _, by repeat (first | (with_reducible first | exact HB.out | apply below_alloc | apply pw_below_drewN | apply below_drew1) | exact HB.out)⟩
                        · rw [if_neg c29] at H
                          exact absurd H (by simp)
                      · rw [if_neg c28] at H
                        exact absurd H (by simp)
                    · rw [if_neg c27] at H
                      have c27b0 : decide (x55_3 < (x10_20.length : Int)) = false := decide_eq_false c27
                      clear c27
                      by_cases c35 : x11_20 = true
                      · subst c35
                        have H1 : (some (x2_3, 0)) = some (r1, r2) := by rw [if_pos rfl] at H; exact H
                        clear H
                        have H := H1
                        clear H1
                        simp only [Option.some.injEq, Prod.mk.injEq] at H
                        obtain ⟨rfl, rfl⟩ := H
                        go_wp2
                        go_ret2
                        exact ⟨_, by first | rfl | (simp [errW_none, errW_some] <;> rfl) | (simp [*, errW_none, errW_some] <;> rfl), by (with_reducible repeat (first | apply Kd.R_alloc | apply Kd.R_drewN | apply Kd.R_drew)); exact HO_2.out, by repeat (first | (with_reducible first | exact HB.out | apply below_alloc | apply pw_below_drewN | apply below_drew1) | exact HB.out)⟩
                      · replace c35 := Bool.eq_false_iff.mpr c35
                        subst c35
                        have H1 : (some (([] : List Int), 6)) = some (r1, r2) := by rw [if_neg (show ¬ (false = true) by decide)] at H; exact H
                        clear H
                        have H := H1
                        clear H1
                        simp only [Option.some.injEq, Prod.mk.injEq] at H
                        obtain ⟨rfl, rfl⟩ := H
                        go_wp2
                        go_ret2
                        exact ⟨_, by first | rfl | (simp [errW_none, errW_some] <;> rfl) | (simp [*, errW_none, errW_some] <;> rfl), by first | exact Kd.R_nil _ _ _ _ _ | exact Kd.N_nil _ _ _ _ _ | exact Kd.V_nil _ _ _ _ _ | exact Kd.Q_nil _ _ _ _ _ | exact Kd.S_nil _ _ _ _ _, by repeat (first | (with_reducible first | exact HB.out | apply below_alloc | apply pw_below_drewN | apply below_drew1) | exact HB.out)⟩
    · rw [if_neg c5] at H
      exact absurd H (by simp)
  · rw [if_neg c4] at H
    exact absurd H (by simp)
end Go.Proofs.YtdbkefgdeenjoaaDoor.X
end
section
namespace Go.Proofs.YtdbkefgdeenjoaaDoor.X
open Go.RowKit Go.Proofs.YtdbkefgdeenjoaaDoorW.PrintWords Go.Proofs.YtdbkefgdeenjoaaDoorW.PrintLast Go.Proofs.YtdbkefgdeenjoaaDoorW.PrintMore
attribute [local go_sem] max2_int min2_int max_two min_two max_three min_three max_four min_four
set_option linter.unusedVariables false
set_option linter.unusedSimpArgs false
def text_May.f (a0 : Int) : Option (Bool) := if a0 = 9 then (some true) else (if a0 = 10 then (some true) else (if a0 = 13 then (some true) else (if a0 = 133 then (some true) else (if a0 = 65279 then (some false) else (if a0 = 65534 then (some false) else (if a0 = 65535 then (some false) else (if a0 ≥ 32 then (if a0 < 127 then (some true) else (if a0 ≥ 160 then ((utf8_ValidRune.f a0).bind fun t213 => (some t213)) else (some false))) else (if a0 ≥ 160 then ((utf8_ValidRune.f a0).bind fun t214 => (some t214)) else (some false)))))))))
set_option maxHeartbeats 8000000 in
set_option maxRecDepth 100000 in
theorem text_May.calls (a0 : Int) (r : Bool) (w : World) (h : text_May.f a0 = some r) :
    Calls Tryd.prog 23 #[.int .i32 a0] w fun e w' => e = .returned (.bool r) ∧ Drawn0 w w' := by
  have H : (if a0 = 9 then (some true) else (if a0 = 10 then (some true) else (if a0 = 13 then (some true) else (if a0 = 133 then (some true) else (if a0 = 65279 then (some false) else (if a0 = 65534 then (some false) else (if a0 = 65535 then (some false) else (if a0 ≥ 32 then (if a0 < 127 then (some true) else (if a0 ≥ 160 then ((utf8_ValidRune.f a0).bind fun t213 => (some t213)) else (some false))) else (if a0 ≥ 160 then ((utf8_ValidRune.f a0).bind fun t214 => (some t214)) else (some false)))))))))) = some r := h
  clear h
  by_cases c2 : a0 = 9
  · rw [if_pos c2] at H
    have c2b0 : (a0 == 9) = true := beq_iff_eq.mpr c2
    have c2b1 : (a0 != 9) = false := bne_eq_false_iff_eq.mpr c2
    clear c2
    obtain rfl := Option.some.inj H
    go_enter Tryd.func23, Tryd.ntmps23
    go_wp2
    go_ret
    exact ⟨by first | rfl | (simp; done) | (simp [*]; done) | (simp [xbne_nil, xbeq_nil]; done), by repeat (first | exact Drawn0.refl _ | apply Drawn0.step)⟩
  · rw [if_neg c2] at H
    have c2b0 : (a0 == 9) = false := beq_eq_false_iff_ne.mpr c2
    have c2b1 : (a0 != 9) = true := bne_iff_ne.mpr c2
    by_cases c3 : a0 = 10
    · rw [if_pos c3] at H
      have c3b0 : (a0 == 10) = true := beq_iff_eq.mpr c3
      have c3b1 : (a0 != 10) = false := bne_eq_false_iff_eq.mpr c3
      clear c3
      obtain rfl := Option.some.inj H
      go_enter Tryd.func23, Tryd.ntmps23
      go_wp2
      go_ret
      exact ⟨by first | rfl | (simp; done) | (simp [*]; done) | (simp [xbne_nil, xbeq_nil]; done), by repeat (first | exact Drawn0.refl _ | apply Drawn0.step)⟩
    · rw [if_neg c3] at H
      have c3b0 : (a0 == 10) = false := beq_eq_false_iff_ne.mpr c3
      have c3b1 : (a0 != 10) = true := bne_iff_ne.mpr c3
      by_cases c4 : a0 = 13
      · rw [if_pos c4] at H
        have c4b0 : (a0 == 13) = true := beq_iff_eq.mpr c4
        have c4b1 : (a0 != 13) = false := bne_eq_false_iff_eq.mpr c4
        clear c4
        obtain rfl := Option.some.inj H
        go_enter Tryd.func23, Tryd.ntmps23
        go_wp2
        go_ret
        exact ⟨by first | rfl | (simp; done) | (simp [*]; done) | (simp [xbne_nil, xbeq_nil]; done), by repeat (first | exact Drawn0.refl _ | apply Drawn0.step)⟩
      · rw [if_neg c4] at H
        have c4b0 : (a0 == 13) = false := beq_eq_false_iff_ne.mpr c4
        have c4b1 : (a0 != 13) = true := bne_iff_ne.mpr c4
        by_cases c5 : a0 = 133
        · rw [if_pos c5] at H
          have c5b0 : (a0 == 133) = true := beq_iff_eq.mpr c5
          have c5b1 : (a0 != 133) = false := bne_eq_false_iff_eq.mpr c5
          clear c5
          obtain rfl := Option.some.inj H
          go_enter Tryd.func23, Tryd.ntmps23
          go_wp2
          go_ret
          exact ⟨by first | rfl | (simp; done) | (simp [*]; done) | (simp [xbne_nil, xbeq_nil]; done), by repeat (first | exact Drawn0.refl _ | apply Drawn0.step)⟩
        · rw [if_neg c5] at H
          have c5b0 : (a0 == 133) = false := beq_eq_false_iff_ne.mpr c5
          have c5b1 : (a0 != 133) = true := bne_iff_ne.mpr c5
          by_cases c6 : a0 = 65279
          · rw [if_pos c6] at H
            have c6b0 : (a0 == 65279) = true := beq_iff_eq.mpr c6
            have c6b1 : (a0 != 65279) = false := bne_eq_false_iff_eq.mpr c6
            clear c6
            obtain rfl := Option.some.inj H
            go_enter Tryd.func23, Tryd.ntmps23
            go_wp2
            go_ret
            exact ⟨by first | rfl | (simp; done) | (simp [*]; done) | (simp [xbne_nil, xbeq_nil]; done), by repeat (first | exact Drawn0.refl _ | apply Drawn0.step)⟩
          · rw [if_neg c6] at H
            have c6b0 : (a0 == 65279) = false := beq_eq_false_iff_ne.mpr c6
            have c6b1 : (a0 != 65279) = true := bne_iff_ne.mpr c6
            by_cases c7 : a0 = 65534
            · rw [if_pos c7] at H
              have c7b0 : (a0 == 65534) = true := beq_iff_eq.mpr c7
              have c7b1 : (a0 != 65534) = false := bne_eq_false_iff_eq.mpr c7
              clear c7
              obtain rfl := Option.some.inj H
              go_enter Tryd.func23, Tryd.ntmps23
              go_wp2
              go_ret
              exact ⟨by first | rfl | (simp; done) | (simp [*]; done) | (simp [xbne_nil, xbeq_nil]; done), by repeat (first | exact Drawn0.refl _ | apply Drawn0.step)⟩
            · rw [if_neg c7] at H
              have c7b0 : (a0 == 65534) = false := beq_eq_false_iff_ne.mpr c7
              have c7b1 : (a0 != 65534) = true := bne_iff_ne.mpr c7
              by_cases c8 : a0 = 65535
              · rw [if_pos c8] at H
                have c8b0 : (a0 == 65535) = true := beq_iff_eq.mpr c8
                have c8b1 : (a0 != 65535) = false := bne_eq_false_iff_eq.mpr c8
                clear c8
                obtain rfl := Option.some.inj H
                go_enter Tryd.func23, Tryd.ntmps23
                go_wp2
                go_ret
                exact ⟨by first | rfl | (simp; done) | (simp [*]; done) | (simp [xbne_nil, xbeq_nil]; done), by repeat (first | exact Drawn0.refl _ | apply Drawn0.step)⟩
              · rw [if_neg c8] at H
                have c8b0 : (a0 == 65535) = false := beq_eq_false_iff_ne.mpr c8
                have c8b1 : (a0 != 65535) = true := bne_iff_ne.mpr c8
                by_cases c9 : a0 ≥ 32
                · rw [if_pos c9] at H
                  have c9b0 : decide (32 ≤ a0) = true := decide_eq_true c9
                  clear c9
                  by_cases c10 : a0 < 127
                  · rw [if_pos c10] at H
                    have c10b0 : decide (a0 < 127) = true := decide_eq_true c10
                    clear c10
                    obtain rfl := Option.some.inj H
                    go_enter Tryd.func23, Tryd.ntmps23
                    go_wp2
                    go_ret
                    exact ⟨by first | rfl | (simp; done) | (simp [*]; done) | (simp [xbne_nil, xbeq_nil]; done), by repeat (first | exact Drawn0.refl _ | apply Drawn0.step)⟩
                  · rw [if_neg c10] at H
                    have c10b0 : decide (a0 < 127) = false := decide_eq_false c10
                    clear c10
                    by_cases c11 : a0 ≥ 160
                    · rw [if_pos c11] at H
                      have c11b0 : decide (160 ≤ a0) = true := decide_eq_true c11
                      clear c11
                      replace H := Option.bind_eq_some_iff.mp H
                      obtain ⟨t213, A120, H⟩ := H
                      replace H : (some t213) = some r := H
                      have A12 := Aside0.mk A120
                      clear A120
                      obtain rfl := Option.some.inj H
                      go_enter Tryd.func23, Tryd.ntmps23
                      go_wp2_with (first | (go_at_call 35; (with_reducible refine (utf8_ValidRune.calls a0 t213 _ A12.out).mono ?_); rintro e w' ⟨rfl, ⟨nd, rfl⟩⟩))
                      go_ret
                      exact ⟨by first | rfl | (simp; done) | (simp [*]; done) | (simp [xbne_nil, xbeq_nil]; done), by repeat (first | exact Drawn0.refl _ | apply Drawn0.step)⟩
                    · rw [if_neg c11] at H
                      have c11b0 : decide (160 ≤ a0) = false := decide_eq_false c11
                      clear c11
                      obtain rfl := Option.some.inj H
                      go_enter Tryd.func23, Tryd.ntmps23
                      go_wp2
                      go_ret
                      exact ⟨by first | rfl | (simp; done) | (simp [*]; done) | (simp [xbne_nil, xbeq_nil]; done), by repeat (first | exact Drawn0.refl _ | apply Drawn0.step)⟩
                · rw [if_neg c9] at H
                  have c9b0 : decide (32 ≤ a0) = false := decide_eq_false c9
                  clear c9
                  by_cases c13 : a0 ≥ 160
                  · rw [if_pos c13] at H
                    have c13b0 : decide (160 ≤ a0) = true := decide_eq_true c13
                    clear c13
                    replace H := Option.bind_eq_some_iff.mp H
                    obtain ⟨t214, A140, H⟩ := H
                    replace H : (some t214) = some r := H
                    have A14 := Aside0.mk A140
                    clear A140
                    obtain rfl := Option.some.inj H
                    go_enter Tryd.func23, Tryd.ntmps23
                    go_wp2_with (first | (go_at_call 35; (with_reducible refine (utf8_ValidRune.calls a0 t214 _ A14.out).mono ?_); rintro e w' ⟨rfl, ⟨nd, rfl⟩⟩))
                    go_ret
                    exact ⟨by first | rfl | (simp; done) | (simp [*]; done) | (simp [xbne_nil, xbeq_nil]; done), by repeat (first | exact Drawn0.refl _ | apply Drawn0.step)⟩
                  · rw [if_neg c13] at H
                    have c13b0 : decide (160 ≤ a0) = false := decide_eq_false c13
                    clear c13
                    obtain rfl := Option.some.inj H
                    go_enter Tryd.func23, Tryd.ntmps23
                    go_wp2
                    go_ret
                    exact ⟨by first | rfl | (simp; done) | (simp [*]; done) | (simp [xbne_nil, xbeq_nil]; done), by repeat (first | exact Drawn0.refl _ | apply Drawn0.step)⟩
def text_Clean.go : List Int → List UInt8 → Option (ByteArray × Int)
  | [], out => some ((⟨out.toArray⟩ : ByteArray), 0)
  | r :: t, out => (text_May.f r).bind fun m => (if m = true then (if r = 13 then (if t.head? = some 10 then text_Clean.go t out else text_Clean.go t (out ++ [10])) else (if -2147483648 ≤ r ∧ r ≤ 2147483647 then text_Clean.go t (out ++ Lib.encodeRune r) else none)) else some ((⟨#[]⟩ : ByteArray), 7))
def text_Clean.f (l0 : List Int) : Option (ByteArray × Int) := if l0.length ≤ 4294967296 then text_Clean.go l0 [] else none
theorem text_Clean.rd_drop (l : List Int) (i : Int) (h0 : 0 ≤ i) (h1 : i < (l.length : Int)) : l.drop i.toNat = rd l i :: l.drop (i + 1).toNat := by
  have hl : i.toNat < l.length := by omega
  rw [List.drop_eq_getElem_cons hl, show (i + 1).toNat = i.toNat + 1 from by omega]
  unfold rd
  rw [List.getD_eq_getElem?_getD, List.getElem?_eq_getElem hl]; rfl
theorem text_Clean.bld_drewN {T e : TypeId} {B b : Nat} {bs : List Value} {w : World} (h : Lib.IsBuilderF T e B b bs w) (n : Nat) : Lib.IsBuilderF T e B b bs (w.drewN n) := h
set_option maxHeartbeats 4000000 in
set_option maxRecDepth 100000 in
theorem text_Clean.calls (A0 : Option Addr) (c0 : Nat) (l0 : List Int) (r1 : ByteArray) (r2 : Int) (w : World) (hr0 : Kd.C (Kd.int .i32) w A0 l0.length l0) (_hc0 : l0.length ≤ c0) (h : text_Clean.f l0 = some (r1, r2)) :
    Calls Tryd.prog 21 #[.slice A0 l0.length c0] w fun e w' => e = .returned (.tuple #[.string r1, .int .i64 r2]) ∧ Below w.heap.size w w' := by
  unfold text_Clean.f at h
  by_cases hlen : l0.length ≤ 4294967296
  case neg => rw [if_neg hlen] at h; cases h
  rw [if_pos hlen] at h
  have HR0 := Aside0.mk hr0
  have HL := Aside0.mk hlen
  have HG := Aside0.mk h
  clear hr0 hlen h
  have hnew : Aside0 (Lib.IsBuilderF 78 5 w.heap.size w.heap.size (Lib.byteCells []) (w.alloc (.cells #[.pointer none, .slice none 0 0] 78))) := ⟨Lib.IsBuilderF.of (Lib.fresh_isBuilder 78 5 w)⟩
  go_enter Tryd.func21, Tryd.ntmps21
  go_wp2
  go_loopw [9] (fun v9 wr => ∃ (i : Int) (out : List UInt8), v9 = .int .i64 i ∧ Aside0 (0 ≤ i ∧ i ≤ (l0.length : Int)) ∧ Aside0 (text_Clean.go (l0.drop i.toNat) out = some (r1, r2)) ∧ Aside0 ((out.length : Int) ≤ 4 * i) ∧ Aside0 (Lib.IsBuilderF 78 5 w.heap.size w.heap.size (Lib.byteCells out) wr) ∧ Aside0 (Below w.heap.size w wr)) (fun v9 _ => l0.length - (intOf v9).toNat)
  case atStart => exact ⟨0, [], rfl, ⟨by omega⟩, HG, ⟨by simp⟩, hnew, ⟨(Below.refl _ _).alloc (Nat.le_refl _) _⟩⟩
  case round =>
    obtain ⟨i, out, rfl, HI, HA, HO, HBl, HB⟩ := hrel
    by_cases c2 : i < (l0.length : Int)
    · have c2b0 : decide (i < (l0.length : Int)) = true := decide_eq_true c2
      have hd := text_Clean.rd_drop l0 i HI.out.1 c2
      have H := HA.out
      rw [hd] at H
      clear HA hd
      simp only [text_Clean.go] at H
      obtain ⟨m, A20, H⟩ := Option.bind_eq_some_iff.mp H
      have A2 := Aside0.mk A20
      clear A20
      have p4 := HI.out.1
      obtain ⟨ad4, e4, hx4⟩ := Kd.at_int HR0.out i p4 c2
      cases e4
      replace hx4 := (HB.out.cell (World.block_lt_of_cell? w _ hx4)).trans hx4
      have hn1 : Aside0 (wrap64 (i + 1) = i + 1) := ⟨by have := HL.out; unfold wrap64; omega⟩
      have p4b : (0 ≤ i) = True := eq_true p4
      have q4b : (i < (l0.length : Int)) = True := eq_true c2
      have HI2 := Aside0.mk c2
      clear p4
      cases m with
      | false =>
        rw [if_neg (by decide)] at H
        simp only [Option.some.injEq, Prod.mk.injEq] at H
        obtain ⟨rfl, rfl⟩ := H
        go_wp2_with (go_at_call 23; (with_reducible refine (text_May.calls _ false _ A2.out).mono ?_); rintro e w' ⟨rfl, ⟨nd, rfl⟩⟩)
        go_ret2
        exact ⟨rfl, pw_below_drewN HB.out _⟩
      | true =>
        rw [if_pos rfl] at H
        by_cases c5 : rd l0 i = 13
        · rw [if_pos c5] at H
          have c5b0 : (rd l0 i == 13) = true := beq_iff_eq.mpr c5
          have C5 := Aside0.mk c5
          clear c5
          by_cases c6 : i + 1 < (l0.length : Int)
          · have c6b0 : decide (wrap64 (i + 1) < (l0.length : Int)) = true := by rw [hn1.out]; exact decide_eq_true c6
            obtain ⟨ad7, e7, hx7⟩ := Kd.at_int HR0.out (i + 1) (by have := HI.out; omega) c6
            cases e7
            replace hx7 := (HB.out.cell (World.block_lt_of_cell? w _ hx7)).trans hx7
            rw [show (i + 1).toNat = (wrap64 (i + 1)).toNat from by rw [hn1.out]] at hx7
            have hh : (l0.drop (i + 1).toNat).head? = some (rd l0 (i + 1)) := by rw [text_Clean.rd_drop l0 (i + 1) (by have := HI.out; omega) c6]; rfl
            rw [hh] at H
            have p7b : (0 ≤ wrap64 (i + 1)) = True := eq_true (by rw [hn1.out]; have := HI.out; omega)
            have q7b : (wrap64 (i + 1) < (l0.length : Int)) = True := eq_true (by rw [hn1.out]; exact c6)
            clear hh c6
            by_cases c8 : rd l0 (i + 1) = 10
            · rw [if_pos (by rw [c8])] at H
              have c8b0 : (rd l0 (i + 1) == 10) = true := beq_iff_eq.mpr c8
              have H' := Aside0.mk H
              clear H c8
              go_wp2_with (go_at_call 23; (with_reducible refine (text_May.calls _ true _ A2.out).mono ?_); rintro e w' ⟨rfl, ⟨nd, rfl⟩⟩)
              go_roundw
              case rel => exact ⟨wrap64 (i + 1), out, rfl, ⟨by rw [hn1.out]; have := HI.out; have := HI2.out; omega⟩, by rw [hn1.out]; exact H', ⟨by rw [hn1.out]; have := HO.out; omega⟩, HBl, ⟨pw_below_drewN HB.out _⟩⟩
              case measure => simp only [intOf]; rw [hn1.out]; have := HI.out; have := HI2.out; omega
            · rw [if_neg (by intro e; exact c8 (Option.some.inj e))] at H
              have c8b0 : (rd l0 (i + 1) == 10) = false := beq_eq_false_iff_ne.mpr c8
              clear c8
              have H' := Aside0.mk H
              clear H
              go_wp2_with (go_at_call 23; (with_reducible refine (text_May.calls _ true _ A2.out).mono ?_); rintro e w' ⟨rfl, ⟨nd, rfl⟩⟩)
              have hlen' : (Lib.byteCells out).length + 4 ≤ 140737488355328 := by rw [Lib.byteCells_length]; have := HO.out; have := HI.out; have := HL.out; omega
              have hsz' : w.heap.size ≤ (wr.drewN nd).heap.size := HB.out.size
              refine (Bld.byte w.heap.size w.heap.size (Lib.byteCells out) 10 (wr.drewN nd) (text_Clean.bld_drewN HBl.out nd) (by omega) hsz').mono ?_
              rintro e w' ⟨rfl, hbl', hb'⟩
              go_wp2
              go_roundw
              case rel => exact ⟨wrap64 (i + 1), out ++ [10], rfl, ⟨by rw [hn1.out]; have := HI.out; have := HI2.out; omega⟩, by rw [hn1.out]; exact H', ⟨by rw [hn1.out, List.length_append]; have := HO.out; simp; omega⟩, ⟨by rw [Lib.byteCells_append]; exact Or.inr hbl'⟩, ⟨(pw_below_drewN HB.out _).trans hb'⟩⟩
              case measure => simp only [intOf]; rw [hn1.out]; have := HI.out; have := HI2.out; omega
          · have c6b0 : decide (wrap64 (i + 1) < (l0.length : Int)) = false := by rw [hn1.out]; exact decide_eq_false c6
            have hdn : Aside0 (l0.drop (i + 1).toNat = []) := ⟨List.drop_eq_nil_of_le (show l0.length ≤ (i + 1).toNat from by have := HI.out; omega)⟩
            rw [hdn.out] at H
            rw [if_neg (by simp)] at H
            clear c6
            have H' := Aside0.mk H
            clear H
            go_wp2_with (go_at_call 23; (with_reducible refine (text_May.calls _ true _ A2.out).mono ?_); rintro e w' ⟨rfl, ⟨nd, rfl⟩⟩)
            have hlen' : (Lib.byteCells out).length + 4 ≤ 140737488355328 := by rw [Lib.byteCells_length]; have := HO.out; have := HI.out; have := HL.out; omega
            have hsz' : w.heap.size ≤ (wr.drewN nd).heap.size := HB.out.size
            refine (Bld.byte w.heap.size w.heap.size (Lib.byteCells out) 10 (wr.drewN nd) (text_Clean.bld_drewN HBl.out nd) (by omega) hsz').mono ?_
            rintro e w' ⟨rfl, hbl', hb'⟩
            go_wp2
            go_roundw
            case rel => exact ⟨wrap64 (i + 1), out ++ [10], rfl, ⟨by rw [hn1.out]; have := HI.out; have := HI2.out; omega⟩, by rw [hn1.out, hdn.out]; exact H', ⟨by rw [hn1.out, List.length_append]; have := HO.out; simp; omega⟩, ⟨by rw [Lib.byteCells_append]; exact Or.inr hbl'⟩, ⟨(pw_below_drewN HB.out _).trans hb'⟩⟩
            case measure => simp only [intOf]; rw [hn1.out]; have := HI.out; have := HI2.out; omega
        · rw [if_neg c5] at H
          have c5b0 : (rd l0 i == 13) = false := beq_eq_false_iff_ne.mpr c5
          clear c5
          by_cases c9 : -2147483648 ≤ rd l0 i ∧ rd l0 i ≤ 2147483647
          · rw [if_pos c9] at H
            have H' := Aside0.mk H
            have C9 := Aside0.mk c9
            clear H c9
            go_wp2_with (go_at_call 23; (with_reducible refine (text_May.calls _ true _ A2.out).mono ?_); rintro e w' ⟨rfl, ⟨nd, rfl⟩⟩)
            have hlen' : (Lib.byteCells out).length + 4 ≤ 140737488355328 := by rw [Lib.byteCells_length]; have := HO.out; have := HI.out; have := HL.out; omega
            have hsz' : w.heap.size ≤ (wr.drewN nd).heap.size := HB.out.size
            refine (Bld.rune w.heap.size w.heap.size (Lib.byteCells out) (rd l0 i) C9.out.1 C9.out.2 (wr.drewN nd) (text_Clean.bld_drewN HBl.out nd) hlen' hsz').mono ?_
            rintro e w' ⟨rfl, hbl', hb'⟩
            go_wp2
            go_roundw
            case rel => exact ⟨wrap64 (i + 1), out ++ Lib.encodeRune (rd l0 i), rfl, ⟨by rw [hn1.out]; have := HI.out; have := HI2.out; omega⟩, by rw [hn1.out]; exact H', ⟨by rw [hn1.out, List.length_append]; have := HO.out; have h4 := (Lib.runeCells_le (rd l0 i)).2; rw [Lib.runeCells_length] at h4; omega⟩, ⟨by rw [Lib.byteCells_append, Lib.byteCells_encodeRune]; exact Or.inr hbl'⟩, ⟨(pw_below_drewN HB.out _).trans hb'⟩⟩
            case measure => simp only [intOf]; rw [hn1.out]; have := HI.out; have := HI2.out; omega
          · rw [if_neg c9] at H; cases H
    · have c2b0 : decide (i < (l0.length : Int)) = false := decide_eq_false c2
      have H := HA.out
      rw [List.drop_eq_nil_of_le (by have := HI.out; omega)] at H
      simp only [text_Clean.go, Option.some.injEq, Prod.mk.injEq] at H
      obtain ⟨rfl, rfl⟩ := H
      clear HA c2
      go_wp2_with (go_at_call 46; (with_reducible refine (Tryd.Builder_String_any_f _ _ out _ HBl.out (by have := HB.out.size; omega)).mono ?_); rintro e w' ⟨rfl, hbs, hb'⟩)
      go_ret2
      exact ⟨rfl, HB.out.trans hb'⟩
end Go.Proofs.YtdbkefgdeenjoaaDoor.X
end
section
namespace Go.Proofs.YtdbkefgdeenjoaaDoor.X
open Go.RowKit Go.Proofs.YtdbkefgdeenjoaaDoorW.PrintWords Go.Proofs.YtdbkefgdeenjoaaDoorW.PrintLast Go.Proofs.YtdbkefgdeenjoaaDoorW.PrintMore
attribute [local go_sem] max2_int min2_int max_two min_two max_three min_three max_four min_four
set_option linter.unusedVariables false
set_option linter.unusedSimpArgs false
def text_Decode.f (k : Nat) (l0 : List Int) : Option (ByteArray × Int) := (text_Runes.f k l0).bind fun bt215 => (if bt215.2 = 0 then ((text_Clean.f bt215.1).bind fun bt219 => (some (bt219.1, bt219.2))) else (some ((⟨#[]⟩ : ByteArray), bt215.2)))
set_option maxHeartbeats 8000000 in
set_option maxRecDepth 100000 in
theorem text_Decode.calls (k : Nat) (A0 : Option Addr) (c0 : Nat) (l0 : List Int) (r1 : ByteArray) (r2 : Int) (w : World) (hr0 : Kd.C (Kd.int .u8) w A0 l0.length l0) (hc0 : l0.length ≤ c0) (hT : Tabs.Holds w) (h : text_Decode.f k l0 = some (r1, r2)) :
    Calls Tryd.prog 15 #[.slice A0 l0.length c0] w fun e w' => e = .returned (.tuple #[.string r1, .int .i64 r2]) ∧ Below w.heap.size w w' := by
  have HR0 := Aside0.mk hr0
  have HC0 := Aside0.mk hc0
  clear hr0 hc0
  have HT := Aside0.mk hT
  clear hT
  have HB := Aside0.mk (Below.refl w.heap.size w)
  have H : ((text_Runes.f k l0).bind fun bt215 => (if bt215.2 = 0 then ((text_Clean.f bt215.1).bind fun bt219 => (some (bt219.1, bt219.2))) else (some ((⟨#[]⟩ : ByteArray), bt215.2)))) = some (r1, r2) := h
  clear h
  replace H := Option.bind_eq_some_iff.mp H
  obtain ⟨⟨t215, t216⟩, A20, H⟩ := H
  replace H : (if t216 = 0 then ((text_Clean.f t215).bind fun bt219 => (some (bt219.1, bt219.2))) else (some ((⟨#[]⟩ : ByteArray), t216))) = some (r1, r2) := H
  have A2 := Aside0.mk A20
  clear A20
  by_cases c3 : t216 = 0
  · rw [if_pos c3] at H
    have c3b0 : (t216 == 0) = true := beq_iff_eq.mpr c3
    have c3b1 : (t216 != 0) = false := bne_eq_false_iff_eq.mpr c3
    clear c3
    replace H := Option.bind_eq_some_iff.mp H
    obtain ⟨⟨t219, t220⟩, A40, H⟩ := H
    replace H : (some (t219, t220)) = some (r1, r2) := H
    have A4 := Aside0.mk A40
    clear A40
    simp only [Option.some.injEq, Prod.mk.injEq] at H
    obtain ⟨rfl, rfl⟩ := H
    go_enter Tryd.func15, Tryd.ntmps15
    go_wp2_with (first | ((with_reducible refine gate_callee (f := 13) rfl ?_); refine goesL_ (some 8) rfl rfl Tryd.func13 (by kernel_rfl) rfl #[.slice A0 l0.length c0] rfl (by (try simp only [List.map_toArray, List.map_cons, List.map_nil]); first | done | rfl | (simp only [List.length_drop, List.length_take]; rfl)) ?_; (with_reducible refine (text_Runes.calls k _ _ l0 t215 t216 _ ?side1 ?side2 ?side3 A2.out).mono ?_); (case side1 => repeat (first | exact HR0.out | (with_reducible refine Kd.C_alloc ?_ _) | (with_reducible refine Kd.C_drewN ?_ _) | (with_reducible refine Kd.C_drew ?_))); (case side2 => exact HC0.out); (case side3 => exact Tabs.Holds.below HT.out (by repeat (first | (with_reducible first | exact HB.out | apply below_alloc | apply pw_below_drewN | apply below_drew1) | exact HB.out))); rintro e w5 ⟨v217, rfl, ho0, hb⟩; refine ⟨_, rfl, ?_⟩; have n0_ := Aside0.mk (Kd.R_lower ho0 (below_size (by repeat (first | (with_reducible first | exact HB.out | apply below_alloc | apply pw_below_drewN | apply below_drew1) | exact HB.out)))); have n1_ := Aside0.mk (below_step (by repeat (first | (with_reducible first | exact HB.out | apply below_alloc | apply pw_below_drewN | apply below_drew1) | exact HB.out)) hb); clear HB; have HO218 := n0_; have HB := n1_; clear n0_ n1_; (try clear hb); (try clear hb2); (try clear hk); (try clear hi); (try clear ho0); obtain ⟨Ao6, co6, eo6⟩ := Kd.R_slice HO218.out; subst eo6) | ((with_reducible refine gate_callee (f := 21) rfl ?_); refine goesL_ (some 15) rfl rfl Tryd.func21 (by kernel_rfl) rfl #[.slice Ao6 t215.length co6] rfl (by (try simp only [List.map_toArray, List.map_cons, List.map_nil]); first | done | rfl | (simp only [List.length_drop, List.length_take]; rfl)) ?_; (with_reducible refine (text_Clean.calls _ _ t215 t219 t220 _ ?side1 ?side2 A4.out).mono ?_); (case side1 => repeat (first | exact (Kd.R_reads' HO218.out).2.2 | (with_reducible refine Kd.C_alloc ?_ _) | (with_reducible refine Kd.C_drewN ?_ _) | (with_reducible refine Kd.C_drew ?_))); (case side2 => exact (Kd.R_reads' HO218.out).2.1); rintro e w7 ⟨rfl, hb⟩; refine ⟨_, rfl, ?_⟩; have n0_ := Aside0.mk (Kd.R_below (by (with_reducible repeat (first | apply Kd.R_alloc | apply Kd.R_drewN | apply Kd.R_drew)); exact HO218.out) hb); have n1_ := Aside0.mk (below_step (by repeat (first | (with_reducible first | exact HB.out | apply below_alloc | apply pw_below_drewN | apply below_drew1) | exact HB.out)) hb); clear HO218; clear HB; have HO218 := n0_; have HB := n1_; clear n0_ n1_; (try clear hb); (try clear hb2); (try clear hk); (try clear hi)))
    go_ret2
    exact ⟨by first | rfl | (simp [errW_none, errW_some] <;> rfl) | (simp [*, errW_none, errW_some] <;> rfl), by repeat (first | (with_reducible first | exact HB.out | apply below_alloc | apply pw_below_drewN | apply below_drew1) | exact HB.out)⟩
  · rw [if_neg c3] at H
    have c3b0 : (t216 == 0) = false := beq_eq_false_iff_ne.mpr c3
    have c3b1 : (t216 != 0) = true := bne_iff_ne.mpr c3
    simp only [Option.some.injEq, Prod.mk.injEq] at H
    obtain ⟨rfl, rfl⟩ := H
    go_enter Tryd.func15, Tryd.ntmps15
    go_wp2_with (first | ((with_reducible refine gate_callee (f := 13) rfl ?_); refine goesL_ (some 8) rfl rfl Tryd.func13 (by kernel_rfl) rfl #[.slice A0 l0.length c0] rfl (by (try simp only [List.map_toArray, List.map_cons, List.map_nil]); first | done | rfl | (simp only [List.length_drop, List.length_take]; rfl)) ?_; (with_reducible refine (text_Runes.calls k _ _ l0 t215 t216 _ ?side1 ?side2 ?side3 A2.out).mono ?_); (case side1 => repeat (first | exact HR0.out | (with_reducible refine Kd.C_alloc ?_ _) | (with_reducible refine Kd.C_drewN ?_ _) | (with_reducible refine Kd.C_drew ?_))); (case side2 => exact HC0.out); (case side3 => exact Tabs.Holds.below HT.out (by repeat (first | (with_reducible first | exact HB.out | apply below_alloc | apply pw_below_drewN | apply below_drew1) | exact HB.out))); rintro e w8 ⟨v217, rfl, ho0, hb⟩; refine ⟨_, rfl, ?_⟩; have n0_ := Aside0.mk (Kd.R_lower ho0 (below_size (by repeat (first | (with_reducible first | exact HB.out | apply below_alloc | apply pw_below_drewN | apply below_drew1) | exact HB.out)))); have n1_ := Aside0.mk (below_step (by repeat (first | (with_reducible first | exact HB.out | apply below_alloc | apply pw_below_drewN | apply below_drew1) | exact HB.out)) hb); clear HB; have HO218 := n0_; have HB := n1_; clear n0_ n1_; (try clear hb); (try clear hb2); (try clear hk); (try clear hi); (try clear ho0)))
    go_ret2
    exact ⟨by first | rfl | (simp [errW_none, errW_some] <;> rfl) | (simp [*, errW_none, errW_some] <;> rfl), by repeat (first | (with_reducible first | exact HB.out | apply below_alloc | apply pw_below_drewN | apply below_drew1) | exact HB.out)⟩
def text_unit.l0 : Nat → List Int → Int → Int → Bool → Int → Int → Option (List Int)
  | 0, _, _, _, _, _, _ => none
  | k + 1, x0, x1, x2, x3, x11, x12 => if x12 < x11 then (if x3 = true then (if 0 ≤ (wrap64 (8 * (wrap64 ((wrap64 (x2 - 1)) - x12)))) then (if x0.length < 140737488355328 then (text_unit.l0 k (x0 ++ [(shr .i32 x1 (wrap64 (8 * (wrap64 ((wrap64 (x2 - 1)) - x12))))) % 256]) x1 x2 x3 x11 (wrap64 (x12 + 1))) else (none)) else (none)) else (if 0 ≤ (wrap64 (8 * x12)) then (if x0.length < 140737488355328 then (text_unit.l0 k (x0 ++ [(shr .i32 x1 (wrap64 (8 * x12))) % 256]) x1 x2 x3 x11 (wrap64 (x12 + 1))) else (none)) else (none))) else (some x0)
def text_unit.f (k : Nat) (l0 : List Int) (a1 : Int) (a2 : Int) (a3 : Bool) : Option (List Int) := text_unit.l0 k l0 a1 a2 a3 a2 0
set_option maxHeartbeats 8000000 in
set_option maxRecDepth 100000 in
theorem text_unit.calls (k : Nat) (P0_ : Nat → Prop) (u9000_ : Value) (l0 : List Int) (a1 : Int) (a2 : Int) (a3 : Bool) (r : List Int) (w0 w : World) (hB : Below w0.heap.size w0 w) (ho0 : Kd.R (Kd.int .u8) 5 w w0.heap.size P0_ u9000_ l0) (h : text_unit.f k l0 a1 a2 a3 = some r) :
    Calls Tryd.prog 42 #[u9000_, .int .i32 a1, .int .i64 a2, .bool a3] w fun e w' => ∃ v0_ : Value, e = .returned (v0_) ∧ Kd.R (Kd.int .u8) 5 w' w0.heap.size (fun k_ => (P0_ k_ ∨ w.heap.size ≤ k_)) v0_ r ∧ Below w0.heap.size w0 w' ∧ Kept w w' (fun k_ => P0_ k_) := by
  have HO0 := Aside0.mk (show Kd.R (Kd.int .u8) 5 w w0.heap.size (fun k_ => (P0_ k_ ∨ w.heap.size ≤ k_)) u9000_ l0 from Kd.R_mono ho0 (fun k_ hk => (.inl hk)))
  have HK := Aside0.mk (Kept.refl w (fun k_ => P0_ k_))
  have HW0 := Aside0.mk hB.size
  have HB := Aside0.mk hB
  clear hB
  have H : (text_unit.l0 k l0 a1 a2 a3 a2 0) = some r := h
  clear h
  have H' := Aside0.mk H
  clear H
  go_enter Tryd.func42, Tryd.ntmps42
  go_wp2
  go_loopg [0, 12] k (fun kq v0 v12 w' => ∃ (x0_1 : List Int) (x12_1 : Int), v12 = .int .i64 x12_1 ∧ Aside0 (text_unit.l0 kq x0_1 a1 a2 a3 a2 x12_1 = some r) ∧ Aside0 (kq ≤ k) ∧ Aside0 (Kd.R (Kd.int .u8) 5 w' w0.heap.size (fun k_ => (P0_ k_ ∨ w.heap.size ≤ k_)) v0 x0_1) ∧ Aside0 (Kept w w' (fun k_ => P0_ k_)) ∧ Aside0 (Below w0.heap.size w0 w'))
  case atStart => exact ⟨(l0), (0), (by first | rfl | (simp; done) | (simp [*]; done) | (simp [xbne_nil, xbeq_nil]; done)), H', ⟨Nat.le_refl _⟩, ⟨by (with_reducible repeat (first | apply Kd.R_alloc | apply Kd.R_drewN | apply Kd.R_drew)); exact HO0.out⟩, ⟨by repeat (first | (with_reducible first | exact HK.out | apply Kept.alloc | apply Kept.drewN | apply Kept.drew) | exact HK.out)⟩, ⟨by repeat (first | (with_reducible first | exact HB.out | apply below_alloc | apply pw_below_drewN | apply below_drew1) | exact HB.out)⟩⟩
  case round =>
    clear H'
    try clear p2
    try clear c4
    obtain ⟨x0_1, x12_1, rfl, HA, HK1, HO_0, HK, HB⟩ := hrel
    cases gk with
    | zero => exact absurd HA.out (by simp [text_unit.l0])
    | succ k1 =>
      have H := HA.out
      clear HA
      simp only [text_unit.l0] at H
      by_cases c5 : x12_1 < a2
      · rw [if_pos c5] at H
        have c5b0 : decide (x12_1 < a2) = true := decide_eq_true c5
        clear c5
        by_cases c6 : a3 = true
        · subst c6
          have H1 : (if 0 ≤ (wrap64 (8 * (wrap64 ((wrap64 (a2 - 1)) - x12_1)))) then (if x0_1.length < 140737488355328 then (text_unit.l0 k1 (x0_1 ++ [(shr .i32 a1 (wrap64 (8 * (wrap64 ((wrap64 (a2 - 1)) - x12_1))))) % 256]) a1 a2 true a2 (wrap64 (x12_1 + 1))) else (none)) else (none)) = some r := by rw [if_pos rfl] at H; exact H
          clear H
          have H := H1
          clear H1
          obtain ⟨ji7, hji7⟩ : ∃ j_ : Int, (wrap64 (8 * (wrap64 ((wrap64 (a2 - 1)) - x12_1)))) = j_ := ⟨_, rfl⟩
          replace H : (if 0 ≤ (ji7) then (if x0_1.length < 140737488355328 then (text_unit.l0 k1 (x0_1 ++ [(shr .i32 a1 (ji7)) % 256]) a1 a2 true a2 (wrap64 (x12_1 + 1))) else (none)) else (none)) = some r := by first | (rw [hji7] at H; exact H) | (simp only [hji7] at H ⊢; exact H)
          have hji7w : (IntKind.i64.wrap (8 * (wrap64 ((wrap64 (a2 - 1)) - x12_1)))) = ji7 := (i64_w _).trans hji7
          by_cases c8 : 0 ≤ (ji7)
          · rw [if_pos c8] at H
            have c8b0 := eq_true c8
            have c8b1 : decide (0 ≤ (ji7)) = true := decide_eq_true c8
            clear c8
            obtain ⟨ji9, hji9⟩ : ∃ j_ : Int, (shr .i32 a1 (ji7)) = j_ := ⟨_, rfl⟩
            replace H : (if x0_1.length < 140737488355328 then (text_unit.l0 k1 (x0_1 ++ [(ji9) % 256]) a1 a2 true a2 (wrap64 (x12_1 + 1))) else (none)) = some r := by first | (rw [hji9] at H; exact H) | (simp only [hji9] at H ⊢; exact H)
            have hji9_ : (a1 / 2 ^ min (ji7).toNat 32) = ji9 := hji9
            have hji9z : (ji7) ≤ 32 → (a1 / 2 ^ (ji7).toNat) = ji9 := shr_small hji9
            by_cases c10 : x0_1.length < 140737488355328
            · rw [if_pos c10] at H
              have LMc10 := Aside0.mk c10
              clear c10
              obtain ⟨y221, hy221⟩ : ∃ y_ : List Int, y_ = (x0_1 ++ [(ji9) % 256]) := ⟨_, rfl⟩
              replace H : (text_unit.l0 k1 y221 a1 a2 true a2 (wrap64 (x12_1 + 1))) = some r := by first | (rw [hy221]; with_reducible exact H) | (have H2_ := (Option.bind_some _ _).symm.trans H; rw [hy221]; with_reducible exact H2_) | (have H2_ := (Option.bind_some _ _).symm.trans H; with_reducible exact H2_) | with_reducible exact H | (rw [hy221]; exact H) | exact H
              have Ny221 := Aside0.mk hy221
              clear hy221
              have H' := Aside0.mk H
              clear H
              go_wp2_with (first | ((with_reducible refine gate_builtin (b := .append) (xs := #[.tmp 23, .tmp 28]) rfl ?_); at_builtin; refine Kd.R_append (Kd.int .u8) (w0 := w0) w0.heap.size rfl (.tmp 23) (.tmp 28) 22 5 (.int .u8 0) 1 rfl Tryd.underlying22 info5 rfl (by decide) (by omega) u0 x0_1 ((ji9) % 256) [.int .u8 ((ji9) % 256)] (fun k_ => (P0_ k_ ∨ w.heap.size ≤ k_)) (fun _ => False) rfl rfl ?aP (fun _ hk => hk.elim) ?aF ?aO ?aB ?aS ?aL ?_; (case aP => exact rfl); (case aB => exact (by repeat (first | (with_reducible first | exact HB.out | apply below_alloc | apply pw_below_drewN | apply below_drew1) | exact HB.out))); (case aF => exact (fun k_ hk => (.inr (Nat.le_trans (by first | exact HK.out.1 | exact (show Kept w _ (fun k_ => P0_ k_) from by repeat (first | (with_reducible first | exact HK.out | apply Kept.alloc | apply Kept.drewN | apply Kept.drew) | exact HK.out)).1) hk)))); (case aO => exact (by (with_reducible repeat (first | apply Kd.R_alloc | apply Kd.R_drewN | apply Kd.R_drew)); exact HO_0.out)); (case aS => exact (below_size (by repeat (first | (with_reducible first | exact HB.out | apply below_alloc | apply pw_below_drewN | apply below_drew1) | exact HB.out)))); (case aL => have := LMc10.out; omega); intro v222 w11 ho hb hg hat; rw [← Ny221.out] at ho; have n0_ := Aside0.mk (hb); have n1_ := Aside0.mk (Kept.of_grown (S := (fun k_ => P0_ k_)) hg (by repeat (first | (with_reducible first | exact HK.out | apply Kept.alloc | apply Kept.drewN | apply Kept.drew) | exact HK.out)) (fun k_ e_ => (HO_0.out.1 k_ e_))); have n2_ := Aside0.mk (ho); clear HB; clear HK; clear HO_0; have HB := n0_; have HK := n1_; have HO223 := n2_; clear n0_ n1_ n2_; clear ho hb hg hat))
              go_roundg k1
              case measure => have := HK1.out; omega
              case rel => exact ⟨(y221), (wrap64 (x12_1 + 1)), (by first | rfl | (simp; done) | (simp [*]; done) | (simp [xbne_nil, xbeq_nil]; done)), H', ⟨by have := HK1.out; omega⟩, ⟨by (with_reducible repeat (first | apply Kd.R_alloc | apply Kd.R_drewN | apply Kd.R_drew)); exact HO223.out⟩, ⟨by repeat (first | (with_reducible first | exact HK.out | apply Kept.alloc | apply Kept.drewN | apply Kept.drew) | exact HK.out)⟩, ⟨by repeat (first | (with_reducible first | exact HB.out | apply below_alloc | apply pw_below_drewN | apply below_drew1) | exact HB.out)⟩⟩
            · rw [if_neg c10] at H
              exact absurd H (by simp)
          · rw [if_neg c8] at H
            exact absurd H (by simp)
        · replace c6 := Bool.eq_false_iff.mpr c6
          subst c6
          have H1 : (if 0 ≤ (wrap64 (8 * x12_1)) then (if x0_1.length < 140737488355328 then (text_unit.l0 k1 (x0_1 ++ [(shr .i32 a1 (wrap64 (8 * x12_1))) % 256]) a1 a2 false a2 (wrap64 (x12_1 + 1))) else (none)) else (none)) = some r := by rw [if_neg (show ¬ (false = true) by decide)] at H; exact H
          clear H
          have H := H1
          clear H1
          obtain ⟨ji12, hji12⟩ : ∃ j_ : Int, (wrap64 (8 * x12_1)) = j_ := ⟨_, rfl⟩
          replace H : (if 0 ≤ (ji12) then (if x0_1.length < 140737488355328 then (text_unit.l0 k1 (x0_1 ++ [(shr .i32 a1 (ji12)) % 256]) a1 a2 false a2 (wrap64 (x12_1 + 1))) else (none)) else (none)) = some r := by first | (rw [hji12] at H; exact H) | (simp only [hji12] at H ⊢; exact H)
          have hji12w : (IntKind.i64.wrap (8 * x12_1)) = ji12 := (i64_w _).trans hji12
          by_cases c13 : 0 ≤ (ji12)
          · rw [if_pos c13] at H
            have c13b0 := eq_true c13
            have c13b1 : decide (0 ≤ (ji12)) = true := decide_eq_true c13
            clear c13
            obtain ⟨ji14, hji14⟩ : ∃ j_ : Int, (shr .i32 a1 (ji12)) = j_ := ⟨_, rfl⟩
            replace H : (if x0_1.length < 140737488355328 then (text_unit.l0 k1 (x0_1 ++ [(ji14) % 256]) a1 a2 false a2 (wrap64 (x12_1 + 1))) else (none)) = some r := by first | (rw [hji14] at H; exact H) | (simp only [hji14] at H ⊢; exact H)
            have hji14_ : (a1 / 2 ^ min (ji12).toNat 32) = ji14 := hji14
            have hji14z : (ji12) ≤ 32 → (a1 / 2 ^ (ji12).toNat) = ji14 := shr_small hji14
            by_cases c15 : x0_1.length < 140737488355328
            · rw [if_pos c15] at H
              have LMc15 := Aside0.mk c15
              clear c15
              obtain ⟨y224, hy224⟩ : ∃ y_ : List Int, y_ = (x0_1 ++ [(ji14) % 256]) := ⟨_, rfl⟩
              replace H : (text_unit.l0 k1 y224 a1 a2 false a2 (wrap64 (x12_1 + 1))) = some r := by first | (rw [hy224]; with_reducible exact H) | (have H2_ := (Option.bind_some _ _).symm.trans H; rw [hy224]; with_reducible exact H2_) | (have H2_ := (Option.bind_some _ _).symm.trans H; with_reducible exact H2_) | with_reducible exact H | (rw [hy224]; exact H) | exact H
              have Ny224 := Aside0.mk hy224
              clear hy224
              have H' := Aside0.mk H
              clear H
              go_wp2_with (first | ((with_reducible refine gate_builtin (b := .append) (xs := #[.tmp 23, .tmp 28]) rfl ?_); at_builtin; refine Kd.R_append (Kd.int .u8) (w0 := w0) w0.heap.size rfl (.tmp 23) (.tmp 28) 22 5 (.int .u8 0) 1 rfl Tryd.underlying22 info5 rfl (by decide) (by omega) u0 x0_1 ((ji14) % 256) [.int .u8 ((ji14) % 256)] (fun k_ => (P0_ k_ ∨ w.heap.size ≤ k_)) (fun _ => False) rfl rfl ?aP (fun _ hk => hk.elim) ?aF ?aO ?aB ?aS ?aL ?_; (case aP => exact rfl); (case aB => exact (by repeat (first | (with_reducible first | exact HB.out | apply below_alloc | apply pw_below_drewN | apply below_drew1) | exact HB.out))); (case aF => exact (fun k_ hk => (.inr (Nat.le_trans (by first | exact HK.out.1 | exact (show Kept w _ (fun k_ => P0_ k_) from by repeat (first | (with_reducible first | exact HK.out | apply Kept.alloc | apply Kept.drewN | apply Kept.drew) | exact HK.out)).1) hk)))); (case aO => exact (by (with_reducible repeat (first | apply Kd.R_alloc | apply Kd.R_drewN | apply Kd.R_drew)); exact HO_0.out)); (case aS => exact (below_size (by repeat (first | (with_reducible first | exact HB.out | apply below_alloc | apply pw_below_drewN | apply below_drew1) | exact HB.out)))); (case aL => have := LMc15.out; omega); intro v225 w16 ho hb hg hat; rw [← Ny224.out] at ho; have n0_ := Aside0.mk (hb); have n1_ := Aside0.mk (Kept.of_grown (S := (fun k_ => P0_ k_)) hg (by repeat (first | (with_reducible first | exact HK.out | apply Kept.alloc | apply Kept.drewN | apply Kept.drew) | exact HK.out)) (fun k_ e_ => (HO_0.out.1 k_ e_))); have n2_ := Aside0.mk (ho); clear HB; clear HK; clear HO_0; have HB := n0_; have HK := n1_; have HO226 := n2_; clear n0_ n1_ n2_; clear ho hb hg hat))
              go_roundg k1
              case measure => have := HK1.out; omega
              case rel => exact ⟨(y224), (wrap64 (x12_1 + 1)), (by first | rfl | (simp; done) | (simp [*]; done) | (simp [xbne_nil, xbeq_nil]; done)), H', ⟨by have := HK1.out; omega⟩, ⟨by (with_reducible repeat (first | apply Kd.R_alloc | apply Kd.R_drewN | apply Kd.R_drew)); exact HO226.out⟩, ⟨by repeat (first | (with_reducible first | exact HK.out | apply Kept.alloc | apply Kept.drewN | apply Kept.drew) | exact HK.out)⟩, ⟨by repeat (first | (with_reducible first | exact HB.out | apply below_alloc | apply pw_below_drewN | apply below_drew1) | exact HB.out)⟩⟩
            · rw [if_neg c15] at H
              exact absurd H (by simp)
          · rw [if_neg c13] at H
            exact absurd H (by simp)
      · rw [if_neg c5] at H
        have c5b0 : decide (x12_1 < a2) = false := decide_eq_false c5
        clear c5
        obtain rfl := Option.some.inj H
        go_wp2
        go_ret
        exact ⟨_, by first | rfl | (simp [errW_none, errW_some] <;> rfl) | (simp [*, errW_none, errW_some] <;> rfl), by (with_reducible repeat (first | apply Kd.R_alloc | apply Kd.R_drewN | apply Kd.R_drew)); exact HO_0.out, by repeat (first | (with_reducible first | exact HB.out | apply below_alloc | apply pw_below_drewN | apply below_drew1) | exact HB.out), by repeat (first | (with_reducible first | exact HK.out | apply Kept.alloc | apply Kept.drewN | apply Kept.drew) | exact HK.out)⟩
end Go.Proofs.YtdbkefgdeenjoaaDoor.X
end
section
namespace Go.Proofs.YtdbkefgdeenjoaaDoor.X
open Go.RowKit Go.Proofs.YtdbkefgdeenjoaaDoorW.PrintWords Go.Proofs.YtdbkefgdeenjoaaDoorW.PrintLast Go.Proofs.YtdbkefgdeenjoaaDoorW.PrintMore
attribute [local go_sem] max2_int min2_int max_two min_two max_three min_three max_four min_four
set_option linter.unusedVariables false
set_option linter.unusedSimpArgs false
def text_Encode.put (lb : List Int) (r size : Int) (big : Bool) : Option (List Int) :=
  if size = 1 then (if lb.length + 4 ≤ 140737488355328 then some (lb ++ Lib.encodeRuneZ r) else none)
  else if size = 2 then (if r ≥ 65536 then (text_unit.f 5 lb (wrap32 (55296 + (wrap32 (r - 65536)) / 1024)) size big).bind fun l1 => text_unit.f 5 l1 (wrap32 (56320 + Go.bits .and .i32 (wrap32 (r - 65536)) 1023)) size big else text_unit.f 5 lb r size big)
  else text_unit.f 5 lb r size big
def text_Encode.go (size : Int) (big : Bool) : List Int → List Int → Option (List Int × Int)
  | [], b => some (b, 0)
  | r :: t, b => (utf8_ValidRune.f r).bind fun m => (if m = true then (text_Encode.put b r size big).bind fun b' => text_Encode.go size big t b' else some ([], 6))
def text_Encode.f (l0 : List Int) (a1 : Int) : Option (List Int × Int) :=
  if a1 < 0 then some ([], 2) else if 4 < a1 then some ([], 2) else if l0.length ≤ 4294967296 then (text_wide.f a1).bind fun sg => (text_Encode.put [] 65279 sg.1 sg.2).bind fun b => text_Encode.go sg.1 sg.2 l0 b else none
def text_Encode.Box (w : World) (gs gb gg : Nat) (vb : Value) (size : Int) (big : Bool) : Prop :=
  w.heap[gs]? = some (.cells #[.int .i64 size] 3 (0, 0)) ∧ w.heap[gb]? = some (.cells #[vb] 22 (0, 0)) ∧ w.heap[gg]? = some (.cells #[.bool big] 4 (0, 0))
theorem text_Encode.apart {w : World} {base gs gb gg : Nat} {P : Nat → Prop} {vb v : Value} {size : Int} {big : Bool} {l : List Int} (hx : text_Encode.Box w gs gb gg vb size big) (h : Kd.R (Kd.int .u8) 5 w base P v l) :
    Kd.R (Kd.int .u8) 5 w base (fun k => k ≠ gs ∧ k ≠ gb ∧ k ≠ gg) v l := by
  have h1 := Kd.R_types h hx.1 (by decide)
  have h2 := Kd.R_types h1 hx.2.1 (by decide)
  have h3 := Kd.R_types h2 hx.2.2 (by decide)
  exact Kd.R_mono h3 (fun k hk => ⟨hk.1.1.2, hk.1.2, hk.2⟩)
theorem text_Encode.ne {w : World} {gs gb gg : Nat} {vb : Value} {size : Int} {big : Bool} (hx : text_Encode.Box w gs gb gg vb size big) : gs ≠ gb ∧ gs ≠ gg ∧ gb ≠ gg := by
  refine ⟨?_, ?_, ?_⟩
  · rintro rfl; have := hx.1.symm.trans hx.2.1; injection this with this; injection this with _ e _; cases e
  · rintro rfl; have := hx.1.symm.trans hx.2.2; injection this with this; injection this with _ e _; cases e
  · rintro rfl; have := hx.2.1.symm.trans hx.2.2; injection this with this; injection this with _ e _; cases e
theorem text_Encode.boxes {w w' : World} {gs gb gg : Nat} {vb : Value} {size : Int} {big : Bool} (hx : text_Encode.Box w gs gb gg vb size big) (hk : Kept w w' (fun k => k ≠ gs ∧ k ≠ gb ∧ k ≠ gg)) : text_Encode.Box w' gs gb gg vb size big :=
  ⟨blk_kept hx.1 hk (fun h => h.1 rfl), blk_kept hx.2.1 hk (fun h => h.2.1 rfl), blk_kept hx.2.2 hk (fun h => h.2.2 rfl)⟩
theorem text_Encode.stored {w : World} {gs gb gg : Nat} {vb : Value} {size : Int} {big : Bool} (hx : text_Encode.Box w gs gb gg vb size big) (v : Value) : text_Encode.Box (w.setCell ⟨gb, 0, none⟩ v) gs gb gg v size big := by
  obtain ⟨h1, h2, h3⟩ := text_Encode.ne hx
  exact ⟨blk_far hx.1 (p := ⟨gb, 0, none⟩) h1 v, blk_put hx.2.1 0 v rfl, blk_far hx.2.2 (p := ⟨gb, 0, none⟩) (fun e => h3 e.symm) v⟩
theorem text_Encode.after {w0 w w' : World} {gs gb gg : Nat} {vb v' : Value} {size : Int} {big : Bool} {l : List Int} {P : Nat → Prop} (hge : w0.heap.size ≤ gb) (hx : text_Encode.Box w gs gb gg vb size big)
    (hR : Kd.R (Kd.int .u8) 5 w' w0.heap.size P v' l) (hB : Below w0.heap.size w0 w') (hk : Kept w w' (fun k => k ≠ gs ∧ k ≠ gb ∧ k ≠ gg)) :
    text_Encode.Box (w'.setCell ⟨gb, 0, none⟩ v') gs gb gg v' size big ∧ Kd.R (Kd.int .u8) 5 (w'.setCell ⟨gb, 0, none⟩ v') w0.heap.size (fun _ => True) v' l ∧ Below w0.heap.size w0 (w'.setCell ⟨gb, 0, none⟩ v') := by
  have hb := text_Encode.boxes hx hk
  refine ⟨text_Encode.stored hb v', ?_, hB.setCell (p := ⟨gb, 0, none⟩) hge _⟩
  exact Kd.R_mono (Kd.R_far (text_Encode.apart hb hR) (p := ⟨gb, 0, none⟩) (fun k hk => hk.2.1) v') (fun _ _ => trivial)
theorem text_Encode.rune (P0_ : Nat → Prop) (u : Value) (l0 : List Int) (a1 : Int) (w0 w : World) (hB : Below w0.heap.size w0 w) (ho : Kd.R (Kd.int .u8) 5 w w0.heap.size P0_ u l0) (h0 : -2147483648 ≤ a1) (h1 : a1 ≤ 2147483647) (hlen : l0.length + 4 ≤ 140737488355328) :
    Calls Tryd.prog 41 #[u, .int .i32 a1] w fun e w' => ∃ v0_ : Value, e = .returned (v0_) ∧ Kd.R (Kd.int .u8) 5 w' w0.heap.size (fun _ => True) v0_ (l0 ++ Lib.encodeRuneZ a1) ∧ Below w0.heap.size w0 w' ∧ Kept w w' (fun k_ => P0_ k_) := by
  have ho1 := Kd.own_of_R ho
  have hP := ho.1
  refine (Any.utf8_AppendRune_plain Tryd.lays242 (by kernel_rfl) w0.heap.size u l0.length _ a1 h0 h1 w ho1 hlen hB.size).mono ?_
  rintro e w' ⟨v', rfl, hown, o, hg⟩
  have hbase : ∀ k, u.ownBlock = some k → w0.heap.size ≤ k := fun k hk => own_base ho1 k hk
  refine ⟨v', rfl, Kd.R_of_own ?_ (fun _ _ => trivial), ?_, ?_⟩
  · have e1 : encs (fun x => Value.int .u8 x) (l0 ++ Lib.encodeRuneZ a1) = encs (fun x => Value.int .u8 x) l0 ++ Lib.runeCells a1 := by simp [encs, Lib.runeCells]
    have e2 : (l0 ++ Lib.encodeRuneZ a1).length = l0.length + (Lib.runeCells a1).length := by simp [Lib.runeCells]
    rw [e2]
    exact e1 ▸ hown
  · exact (hB.alloc hB.size o).grown hg (by have := hB.size; rw [World.size_alloc]; omega) hbase
  · exact Kept.of_grown hg ((Kept.refl w _).alloc o) (fun k hk => .inl (hP k hk))
theorem text_Encode.slice {w : World} {base : Nat} {P : Nat → Prop} {v : Value} {l : List Int} (h : Kd.R (Kd.int .u8) 5 w base P v l) : ∃ A n c, v = .slice A n c := by
  obtain ⟨A, c, e⟩ := own_slice (Kd.own_of_R h); exact ⟨A, _, c, e⟩
set_option maxHeartbeats 4000000 in
set_option maxRecDepth 100000 in
theorem text_Encode.put_calls (gs gb gg : Nat) (vb : Value) (lb : List Int) (r size : Int) (big : Bool) (lb' : List Int) (w0 w : World) (hB : Below w0.heap.size w0 w) (hge : w0.heap.size ≤ gb) (hx : text_Encode.Box w gs gb gg vb size big)
    (ho : Kd.R (Kd.int .u8) 5 w w0.heap.size (fun _ => True) vb lb) (hr0 : -2147483648 ≤ r) (hr1 : r ≤ 2147483647) (h : text_Encode.put lb r size big = some lb') :
    Calls Tryd.prog 40 #[.int .i32 r, .pointer (some ⟨gs, 0, none⟩), .pointer (some ⟨gb, 0, none⟩), .pointer (some ⟨gg, 0, none⟩)] w fun e w' => e = .returned (.tuple #[]) ∧ ∃ vb', text_Encode.Box w' gs gb gg vb' size big ∧ Kd.R (Kd.int .u8) 5 w' w0.heap.size (fun _ => True) vb' lb' ∧ Below w0.heap.size w0 w' := by
  have hap := text_Encode.apart hx ho
  have cs : w.cell? ⟨gs, 0, none⟩ = some (.int .i64 size) := blk_cell hx.1 0
  have cb : w.cell? ⟨gb, 0, none⟩ = some vb := blk_cell hx.2.1 0
  have cg : w.cell? ⟨gg, 0, none⟩ = some (.bool big) := blk_cell hx.2.2 0
  unfold text_Encode.put at h
  by_cases h1 : size = 1
  · rw [if_pos h1] at h
    have f1 : (size == 1) = true := beq_iff_eq.mpr h1
    by_cases h4 : lb.length + 4 ≤ 140737488355328
    case neg => rw [if_neg h4] at h; cases h
    rw [if_pos h4] at h
    obtain rfl := Option.some.inj h
    have HC := text_Encode.rune _ vb lb r w0 w hB hap hr0 hr1 h4
    have S1 := Aside0.mk h1
    clear h1 h
    have HX := Aside0.mk hx
    clear hx
    go_enter Tryd.func40, Tryd.ntmps40
    go_wp2_with fail
    refine HC.mono ?_
    rintro e w' ⟨v', rfl, hR, hB', hk⟩
    have hbx := text_Encode.boxes HX.out hk
    have cb' : w'.cell? ⟨gb, 0, none⟩ = some vb := blk_cell hbx.2.1 0
    have fb' : w'.frozen? ⟨gb, 0, none⟩ = false := blk_frozen hbx.2.1 0
    have HA := Aside0.mk (text_Encode.after hge HX.out hR hB' hk)
    obtain ⟨A', n', c', rfl⟩ := text_Encode.slice hR
    clear hbx hR hB' hk
    go_wp2
    go_end0
    exact ⟨rfl, _, HA.out⟩
  · rw [if_neg h1] at h
    have f1 : (size == 1) = false := beq_eq_false_iff_ne.mpr h1
    by_cases h2 : size = 2
    · rw [if_pos h2] at h
      have f2 : (size == 2) = true := beq_iff_eq.mpr h2
      by_cases h3 : r ≥ 65536
      · rw [if_pos h3] at h
        have f3 : decide (65536 ≤ r) = true := decide_eq_true h3
        obtain ⟨l1, e1, h⟩ := Option.bind_eq_some_iff.mp h
        have HC := text_unit.calls 5 _ vb lb _ size big l1 w0 w hB hap e1
        have S1 := Aside0.mk (And.intro h1 (And.intro h2 (And.intro h3 h)))
        clear h1 h2 h3 h e1
        have HX := Aside0.mk hx
        clear hx
        go_enter Tryd.func40, Tryd.ntmps40
        go_wp2_with fail
        refine HC.mono ?_
        rintro e w' ⟨v', rfl, hR, hB', hk⟩
        have hbx := text_Encode.boxes HX.out hk
        have fb' : w'.frozen? ⟨gb, 0, none⟩ = false := blk_frozen hbx.2.1 0
        have cb' : w'.cell? ⟨gb, 0, none⟩ = some vb := blk_cell hbx.2.1 0
        have HA := text_Encode.after hge HX.out hR hB' hk
        obtain ⟨A', n', c', rfl⟩ := text_Encode.slice hR
        have dx := HA.1
        have ds : (w'.setCell ⟨gb, 0, none⟩ (.slice A' n' c')).cell? ⟨gs, 0, none⟩ = some (.int .i64 size) := blk_cell dx.1 0
        have db : (w'.setCell ⟨gb, 0, none⟩ (.slice A' n' c')).cell? ⟨gb, 0, none⟩ = some (.slice A' n' c') := blk_cell dx.2.1 0
        have dg : (w'.setCell ⟨gb, 0, none⟩ (.slice A' n' c')).cell? ⟨gg, 0, none⟩ = some (.bool big) := blk_cell dx.2.2 0
        have HD := text_unit.calls 5 _ _ l1 _ size big lb' w0 _ HA.2.2 (text_Encode.apart dx HA.2.1) S1.out.2.2.2
        have HY := Aside0.mk dx
        clear hbx hR hB' hk HA dx S1
        go_wp2_with fail
        refine HD.mono ?_
        rintro e w2 ⟨v2, rfl, hR2, hB2, hk2⟩
        have hbx2 := text_Encode.boxes HY.out hk2
        have fb2 : w2.frozen? ⟨gb, 0, none⟩ = false := blk_frozen hbx2.2.1 0
        have cb2 : w2.cell? ⟨gb, 0, none⟩ = some _ := blk_cell hbx2.2.1 0
        have HA2 := Aside0.mk (text_Encode.after hge HY.out hR2 hB2 hk2)
        obtain ⟨A2, n2, c2, rfl⟩ := text_Encode.slice hR2
        clear hbx2 hR2 hB2 hk2
        go_wp2
        go_end0
        exact ⟨rfl, _, HA2.out⟩
      · rw [if_neg h3] at h
        have f3 : decide (65536 ≤ r) = false := decide_eq_false h3
        have HC := text_unit.calls 5 _ vb lb _ size big lb' w0 w hB hap h
        have S1 := Aside0.mk (And.intro h1 (And.intro h2 h3))
        clear h1 h2 h3 h
        have HX := Aside0.mk hx
        clear hx
        go_enter Tryd.func40, Tryd.ntmps40
        go_wp2_with fail
        refine HC.mono ?_
        rintro e w' ⟨v', rfl, hR, hB', hk⟩
        have hbx := text_Encode.boxes HX.out hk
        have cb' : w'.cell? ⟨gb, 0, none⟩ = some vb := blk_cell hbx.2.1 0
        have fb' : w'.frozen? ⟨gb, 0, none⟩ = false := blk_frozen hbx.2.1 0
        have HA := Aside0.mk (text_Encode.after hge HX.out hR hB' hk)
        obtain ⟨A', n', c', rfl⟩ := text_Encode.slice hR
        clear hbx hR hB' hk
        go_wp2
        go_end0
        exact ⟨rfl, _, HA.out⟩
    · rw [if_neg h2] at h
      have f2 : (size == 2) = false := beq_eq_false_iff_ne.mpr h2
      have HC := text_unit.calls 5 _ vb lb _ size big lb' w0 w hB hap h
      have S1 := Aside0.mk (And.intro h1 h2)
      clear h1 h2 h
      have HX := Aside0.mk hx
      clear hx
      go_enter Tryd.func40, Tryd.ntmps40
      go_wp2_with fail
      refine HC.mono ?_
      rintro e w' ⟨v', rfl, hR, hB', hk⟩
      have hbx := text_Encode.boxes HX.out hk
      have cb' : w'.cell? ⟨gb, 0, none⟩ = some vb := blk_cell hbx.2.1 0
      have fb' : w'.frozen? ⟨gb, 0, none⟩ = false := blk_frozen hbx.2.1 0
      have HA := Aside0.mk (text_Encode.after hge HX.out hR hB' hk)
      obtain ⟨A', n', c', rfl⟩ := text_Encode.slice hR
      clear hbx hR hB' hk
      go_wp2
      go_end0
      exact ⟨rfl, _, HA.out⟩
theorem text_Encode.valid (a0 : Int) (h : utf8_ValidRune.f a0 = some true) : 0 ≤ a0 ∧ a0 ≤ 1114111 := by
  unfold utf8_ValidRune.f at h
  repeat' split at h
  all_goals first | omega | (simp at h)
theorem text_Encode.rd_drop (l : List Int) (i : Int) (h0 : 0 ≤ i) (h1 : i < (l.length : Int)) : l.drop i.toNat = rd l i :: l.drop (i + 1).toNat := by
  have hl : i.toNat < l.length := by omega
  rw [List.drop_eq_getElem_cons hl, show (i + 1).toNat = i.toNat + 1 from by omega]
  unfold rd
  rw [List.getD_eq_getElem?_getD, List.getElem?_eq_getElem hl]; rfl
theorem text_Encode.res (tmps : Array Value) (w : World) (a : Addr) (v : Value) (h4 : tmps.getD 4 undef = .pointer (some a)) (hc : w.cell? a = some v) : (results Tryd.f19 tmps).run Tryd.prog w = .ok (.tuple #[v, tmps.getD 5 undef]) w := by
  rw [results_cell_tmp rfl, h4]
  have a22 := Tryd.isAgg22
  simp [asAddr, Result.andThen, loadVar, a22, hc]
set_option maxHeartbeats 4000000 in
set_option maxRecDepth 100000 in
theorem text_Encode.calls (A0 : Option Addr) (c0 : Nat) (l0 : List Int) (a1 : Int) (r1 : List Int) (r2 : Int) (w : World) (hr0 : Kd.C (Kd.int .i32) w A0 l0.length l0) (_hc0 : l0.length ≤ c0) (h : text_Encode.f l0 a1 = some (r1, r2)) :
    Calls Tryd.prog 19 #[.slice A0 l0.length c0, .int .i64 a1] w fun e w' => ∃ v0_ : Value, e = .returned (.tuple #[v0_, .int .i64 r2]) ∧ Kd.R (Kd.int .u8) 5 w' w.heap.size (fun _ => True) v0_ r1 ∧ Below w.heap.size w w' := by
  unfold text_Encode.f at h
  by_cases n0 : a1 < 0
  · rw [if_pos n0] at h
    have n0b : decide (a1 < 0) = true := decide_eq_true n0
    simp only [Option.some.injEq, Prod.mk.injEq] at h
    obtain ⟨rfl, rfl⟩ := h
    clear n0
    go_enter Tryd.func19, Tryd.ntmps19
    go_wp2
    (try simp only [Exit.inBlock, Exit.then])
    refine bodyPost_ret (text_Encode.res _ _ _ (.slice none 0 0) rfl ?_) rfl ⟨_, rfl, ?_, ?_⟩
    · exact blk_cell (blk_new _ _) 0
    · exact Kd.R_of_own (own_nil _ _ _ _) (fun _ h => by cases h)
    · repeat (first | exact Below.refl _ _ | (refine Below.setCell ?_ (by simp) _) | apply below_alloc | apply below_drew1)
  rw [if_neg n0] at h
  have n0b : decide (a1 < 0) = false := decide_eq_false n0
  by_cases n4 : 4 < a1
  · rw [if_pos n4] at h
    have n4b : decide (4 < a1) = true := decide_eq_true n4
    simp only [Option.some.injEq, Prod.mk.injEq] at h
    obtain ⟨rfl, rfl⟩ := h
    clear n0 n4
    go_enter Tryd.func19, Tryd.ntmps19
    go_wp2
    (try simp only [Exit.inBlock, Exit.then])
    refine bodyPost_ret (text_Encode.res _ _ _ (.slice none 0 0) rfl ?_) rfl ⟨_, rfl, ?_, ?_⟩
    · exact blk_cell (blk_new _ _) 0
    · exact Kd.R_of_own (own_nil _ _ _ _) (fun _ h => by cases h)
    · repeat (first | exact Below.refl _ _ | (refine Below.setCell ?_ (by simp) _) | apply below_alloc | apply below_drew1)
  rw [if_neg n4] at h
  have n4b : decide (4 < a1) = false := decide_eq_false n4
  by_cases hlen : l0.length ≤ 4294967296
  case neg => rw [if_neg hlen] at h; cases h
  rw [if_pos hlen] at h
  obtain ⟨⟨size, big⟩, hw, h⟩ := Option.bind_eq_some_iff.mp h
  obtain ⟨b0, hp, h⟩ := Option.bind_eq_some_iff.mp h
  simp only at hp h
  have HC := text_wide.calls a1 size big
  have HR0 := Aside0.mk hr0
  have HL := Aside0.mk hlen
  have HG := Aside0.mk h
  have HP := Aside0.mk hp
  have HW := Aside0.mk hw
  clear hr0 hlen h hp hw n0 n4
  go_enter Tryd.func19, Tryd.ntmps19
  go_wp2_with fail
  refine (HC _ HW.out).mono ?_
  rintro e w' ⟨rfl, ⟨nd, rfl⟩⟩
  go_wp2_with fail
  have hbx0 : text_Encode.Box ((((w.alloc (.cells #[.slice none 0 0] 22)).drewN nd).alloc (.cells #[.int .i64 size] 3)).alloc (.cells #[.bool big] 4)) (w.heap.size + 1) w.heap.size (w.heap.size + 1 + 1) (.slice none 0 0) size big := by
    have z1 : ((w.alloc (.cells #[.slice none 0 0] 22)).drewN nd).heap.size = w.heap.size + 1 := World.size_alloc _ _
    have z2 : (((w.alloc (.cells #[.slice none 0 0] 22)).drewN nd).alloc (.cells #[.int .i64 size] 3)).heap.size = w.heap.size + 1 + 1 := by rw [World.size_alloc, z1]
    have n1 := blk_new ((w.alloc (.cells #[.slice none 0 0] 22)).drewN nd) (.cells #[.int .i64 size] 3)
    have n2 := blk_new (((w.alloc (.cells #[.slice none 0 0] 22)).drewN nd).alloc (.cells #[.int .i64 size] 3)) (.cells #[.bool big] 4)
    rw [z1] at n1
    rw [z2] at n2
    exact ⟨blk_alloc n1 _, blk_alloc (blk_alloc (blk_drewN (blk_new w _) nd) _) _, n2⟩
  have hB0 : Below w.heap.size w ((((w.alloc (.cells #[.slice none 0 0] 22)).drewN nd).alloc (.cells #[.int .i64 size] 3)).alloc (.cells #[.bool big] 4)) := by
    repeat (first | exact Below.refl _ _ | apply below_alloc | apply pw_below_drewN)
  refine (text_Encode.put_calls _ _ _ _ [] 65279 size big b0 w _ hB0 (Nat.le_refl _) hbx0 (Kd.R_of_own (own_nil _ _ _ _) (fun _ h => by cases h)) (by decide) (by decide) HP.out).mono ?_
  rintro e w1 ⟨rfl, vb1, hbx1, hR1, hB1⟩
  have HX1 := Aside0.mk hbx1
  have HR1 := Aside0.mk hR1
  have HB1 := Aside0.mk hB1
  clear hbx0 hB0 hbx1 hR1 hB1 HP HW HC h
  go_wp2
  go_loopw [27] (fun v27 wr => ∃ (i : Int) (out : List Int) (vb : Value), v27 = .int .i64 i ∧ Aside0 (0 ≤ i ∧ i ≤ (l0.length : Int)) ∧ Aside0 (text_Encode.go size big (l0.drop i.toNat) out = some (r1, r2)) ∧ Aside0 (text_Encode.Box wr (w.heap.size + 1) w.heap.size (w.heap.size + 1 + 1) vb size big) ∧ Aside0 (Kd.R (Kd.int .u8) 5 wr w.heap.size (fun _ => True) vb out) ∧ Aside0 (Below w.heap.size w wr)) (fun v27 _ => l0.length - (intOf v27).toNat)
  case atStart => exact ⟨0, b0, vb1, rfl, ⟨by omega⟩, HG, HX1, HR1, HB1⟩
  case round =>
    obtain ⟨i, out, vb, rfl, HI, HA, HX, HR, HB⟩ := hrel
    by_cases c2 : i < (l0.length : Int)
    · have c2b0 : decide (i < (l0.length : Int)) = true := decide_eq_true c2
      have hd := text_Encode.rd_drop l0 i HI.out.1 c2
      have H := HA.out
      rw [hd] at H
      clear HA hd
      simp only [text_Encode.go] at H
      obtain ⟨m, A20, H⟩ := Option.bind_eq_some_iff.mp H
      have A2 := Aside0.mk A20
      clear A20
      have p4 := HI.out.1
      obtain ⟨ad4, e4, hx4⟩ := Kd.at_int HR0.out i p4 c2
      cases e4
      replace hx4 := (HB.out.cell (World.block_lt_of_cell? w _ hx4)).trans hx4
      have hn1 : Aside0 (wrap64 (i + 1) = i + 1) := ⟨by have := HL.out; unfold wrap64; omega⟩
      have p4b : (0 ≤ i) = True := eq_true p4
      have q4b : (i < (l0.length : Int)) = True := eq_true c2
      have HI2 := Aside0.mk c2
      clear p4
      cases m with
      | false =>
        rw [if_neg (by decide)] at H
        simp only [Option.some.injEq, Prod.mk.injEq] at H
        obtain ⟨rfl, rfl⟩ := H
        have fb : wr.frozen? ⟨w.heap.size, 0, none⟩ = false := blk_frozen HX.out.2.1 0
        have cb : wr.cell? ⟨w.heap.size, 0, none⟩ = some vb := blk_cell HX.out.2.1 0
        go_wp2_with (go_at_call 35; (with_reducible refine (utf8_ValidRune.calls _ false _ A2.out).mono ?_); rintro e w' ⟨rfl, ⟨nd, rfl⟩⟩)
        (try simp only [Exit.inBlock, Exit.then])
        refine bodyPost_ret (text_Encode.res _ _ _ (.slice none 0 0) rfl ?_) rfl ⟨_, rfl, ?_, ?_⟩
        · exact blk_cell (text_Encode.stored (w := wr.drewN nd) HX.out (.slice none 0 0)).2.1 0
        · exact Kd.R_of_own (own_nil _ _ _ _) (fun _ h => by cases h)
        · exact (pw_below_drewN HB.out _).setCell (p := ⟨w.heap.size, 0, none⟩) (Nat.le_refl _) _
      | true =>
        rw [if_pos rfl] at H
        obtain ⟨b1, hp1, H⟩ := Option.bind_eq_some_iff.mp H
        have H' := Aside0.mk H
        have HP1 := Aside0.mk hp1
        clear H hp1
        have hv := Aside0.mk (text_Encode.valid _ A2.out)
        go_wp2_with (go_at_call 35; (with_reducible refine (utf8_ValidRune.calls _ true _ A2.out).mono ?_); rintro e w' ⟨rfl, ⟨nd, rfl⟩⟩)
        refine (text_Encode.put_calls _ _ _ vb out _ size big b1 w (wr.drewN nd) (pw_below_drewN HB.out _) (Nat.le_refl _) HX.out (Kd.R_drewN HR.out _) (by have := hv.out; omega) (by have := hv.out; omega) HP1.out).mono ?_
        rintro e w2 ⟨rfl, vb2, hbx2, hR2, hB2⟩
        have HX2 := Aside0.mk hbx2
        have HR2 := Aside0.mk hR2
        have HB2 := Aside0.mk hB2
        clear hbx2 hR2 hB2
        go_wp2
        go_roundw
        case rel => exact ⟨wrap64 (i + 1), b1, vb2, rfl, ⟨by rw [hn1.out]; have := HI.out; have := HI2.out; omega⟩, by rw [hn1.out]; exact H', HX2, HR2, HB2⟩
        case measure => simp only [intOf]; rw [hn1.out]; have := HI.out; have := HI2.out; omega
    · have c2b0 : decide (i < (l0.length : Int)) = false := decide_eq_false c2
      have H := HA.out
      rw [List.drop_eq_nil_of_le (by have := HI.out; omega)] at H
      simp only [text_Encode.go, Option.some.injEq, Prod.mk.injEq] at H
      obtain ⟨rfl, rfl⟩ := H
      have fb : wr.frozen? ⟨w.heap.size, 0, none⟩ = false := blk_frozen HX.out.2.1 0
      have cb : wr.cell? ⟨w.heap.size, 0, none⟩ = some vb := blk_cell HX.out.2.1 0
      obtain ⟨A', n', c', rfl⟩ := text_Encode.slice HR.out
      clear HA c2
      go_wp2
      (try simp only [Exit.inBlock, Exit.then])
      have HF := text_Encode.after (w' := wr) (Nat.le_refl _) HX.out HR.out HB.out (Kept.refl _ _)
      refine bodyPost_ret (text_Encode.res _ _ _ _ rfl ?_) rfl ⟨_, rfl, HF.2.1, HF.2.2⟩
      exact blk_cell HF.1.2.1 0
end Go.Proofs.YtdbkefgdeenjoaaDoor.X
end
