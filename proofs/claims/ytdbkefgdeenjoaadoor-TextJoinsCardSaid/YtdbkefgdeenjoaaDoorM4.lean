/- Words and walks that the row of TextJoins needs: printed by programs, and plain laws. -/
import Derived.Test.YtdbkefgdeenjoaaDoorM1
import Derived.Test.YtdbkefgdeenjoaaDoorM3
import Derived.Test.YtdbkefgdeenjoaaDoorM2
section
namespace Go.Proofs.YtdbkefgdeenjoaaDoor.X
open Go.RowKit Go.Proofs.YtdbkefgdeenjoaaDoorW.PrintWords Go.Proofs.YtdbkefgdeenjoaaDoorW.PrintLast Go.Proofs.YtdbkefgdeenjoaaDoorW.PrintMore
attribute [local go_sem] max2_int min2_int max_two min_two max_three min_three max_four min_four
set_option linter.unusedVariables false
set_option linter.unusedSimpArgs false
def text_Decode.f (k : Nat) (l0 : List Int) : Option (ByteArray × Int) := (text_Runes.f k l0).bind fun bt215 => (if bt215.2 = 0 then ((text_Clean.f bt215.1).bind fun bt219 => (some (bt219.1, bt219.2))) else (some ((⟨#[]⟩ : ByteArray), bt215.2)))
set_option maxHeartbeats 8000000 in
set_option maxRecDepth 100000 in
theorem text_Decode.calls (k : Nat) (A0 : Option Addr) (c0 : Nat) (l0 : List Int) (r1 : ByteArray) (r2 : Int) (w : World) (hr0 : Kd.C (Kd.int .u8) w A0 l0.length l0) (hc0 : l0.length ≤ c0) (hT : Tabs.Holds w) (h : text_Decode.f k l0 = some (r1, r2)) :
    Calls Tryd.prog 15 #[.slice A0 l0.length c0] w fun e w' => e = .returned (.tuple #[.string r1, .int .i64 r2]) ∧ Below w.heap.size w w' := by
  have HR0 := Aside0.mk hr0
  have HC0 := Aside0.mk hc0
  clear hr0 hc0
  have HT := Aside0.mk hT
  clear hT
  have HB := Aside0.mk (Below.refl w.heap.size w)
  have H : ((text_Runes.f k l0).bind fun bt215 => (if bt215.2 = 0 then ((text_Clean.f bt215.1).bind fun bt219 => (some (bt219.1, bt219.2))) else (some ((⟨#[]⟩ : ByteArray), bt215.2)))) = some (r1, r2) := h
  clear h
  replace H := Option.bind_eq_some_iff.mp H
  obtain ⟨⟨t215, t216⟩, A20, H⟩ := H
  replace H : (if t216 = 0 then ((text_Clean.f t215).bind fun bt219 => (some (bt219.1, bt219.2))) else (some ((⟨#[]⟩ : ByteArray), t216))) = some (r1, r2) := H
  have A2 := Aside0.mk A20
  clear A20
  by_cases c3 : t216 = 0
  · rw [if_pos c3] at H
    have c3b0 : (t216 == 0) = true := beq_iff_eq.mpr c3
    have c3b1 : (t216 != 0) = false := bne_eq_false_iff_eq.mpr c3
    clear c3
    replace H := Option.bind_eq_some_iff.mp H
    obtain ⟨⟨t219, t220⟩, A40, H⟩ := H
    replace H : (some (t219, t220)) = some (r1, r2) := H
    have A4 := Aside0.mk A40
    clear A40
    simp only [Option.some.injEq, Prod.mk.injEq] at H
    obtain ⟨rfl, rfl⟩ := H
    go_enter Tryd.func15, Tryd.ntmps15
    go_wp2_with (first | ((with_reducible refine gate_callee (f := 13) rfl ?_); refine goesL_ (some 8) rfl rfl Tryd.func13 (by kernel_rfl) rfl #[.slice A0 l0.length c0] rfl (by (try simp only [List.map_toArray, List.map_cons, List.map_nil]); first | done | rfl | (simp only [List.length_drop, List.length_take]; rfl)) ?_; (with_reducible refine (text_Runes.calls k _ _ l0 t215 t216 _ ?side1 ?side2 ?side3 A2.out).mono ?_); (case side1 => repeat (first | exact HR0.out | (with_reducible refine Kd.C_alloc ?_ _) | (with_reducible refine Kd.C_drewN ?_ _) | (with_reducible refine Kd.C_drew ?_))); (case side2 => exact HC0.out); (case side3 => exact Tabs.Holds.below HT.out (by repeat (first | (with_reducible first | exact HB.out | apply below_alloc | apply pw_below_drewN | apply below_drew1) | exact HB.out))); rintro e w5 ⟨v217, rfl, ho0, hb⟩; refine ⟨_, rfl, ?_⟩; have n0_ := Aside0.mk (Kd.R_lower ho0 (below_size (by repeat (first | (with_reducible first | exact HB.out | apply below_alloc | apply pw_below_drewN | apply below_drew1) | exact HB.out)))); have n1_ := Aside0.mk (below_step (by repeat (first | (with_reducible first | exact HB.out | apply below_alloc | apply pw_below_drewN | apply below_drew1) | exact HB.out)) hb); clear HB; have HO218 := n0_; have HB := n1_; clear n0_ n1_; (try clear hb); (try clear hb2); (try clear hk); (try clear hi); (try clear ho0); obtain ⟨Ao6, co6, eo6⟩ := Kd.R_slice HO218.out; subst eo6) | ((with_reducible refine gate_callee (f := 21) rfl ?_); refine goesL_ (some 15) rfl rfl Tryd.func21 (by kernel_rfl) rfl #[.slice Ao6 t215.length co6] rfl (by (try simp only [List.map_toArray, List.map_cons, List.map_nil]); first | done | rfl | (simp only [List.length_drop, List.length_take]; rfl)) ?_; (with_reducible refine (text_Clean.calls _ _ t215 t219 t220 _ ?side1 ?side2 A4.out).mono ?_); (case side1 => repeat (first | exact (Kd.R_reads' HO218.out).2.2 | (with_reducible refine Kd.C_alloc ?_ _) | (with_reducible refine Kd.C_drewN ?_ _) | (with_reducible refine Kd.C_drew ?_))); (case side2 => exact (Kd.R_reads' HO218.out).2.1); rintro e w7 ⟨rfl, hb⟩; refine ⟨_, rfl, ?_⟩; have n0_ := Aside0.mk (Kd.R_below (by (with_reducible repeat (first | apply Kd.R_alloc | apply Kd.R_drewN | apply Kd.R_drew)); exact HO218.out) hb); have n1_ := Aside0.mk (below_step (by repeat (first | (with_reducible first | exact HB.out | apply below_alloc | apply pw_below_drewN | apply below_drew1) | exact HB.out)) hb); clear HO218; clear HB; have HO218 := n0_; have HB := n1_; clear n0_ n1_; (try clear hb); (try clear hb2); (try clear hk); (try clear hi)))
    go_ret2
    exact ⟨by first | rfl | (simp [errW_none, errW_some] <;> rfl) | (simp [*, errW_none, errW_some] <;> rfl), by repeat (first | (with_reducible first | exact HB.out | apply below_alloc | apply pw_below_drewN | apply below_drew1) | exact HB.out)⟩
  · rw [if_neg c3] at H
    have c3b0 : (t216 == 0) = false := beq_eq_false_iff_ne.mpr c3
    have c3b1 : (t216 != 0) = true := bne_iff_ne.mpr c3
    simp only [Option.some.injEq, Prod.mk.injEq] at H
    obtain ⟨rfl, rfl⟩ := H
    go_enter Tryd.func15, Tryd.ntmps15
    go_wp2_with (first | ((with_reducible refine gate_callee (f := 13) rfl ?_); refine goesL_ (some 8) rfl rfl Tryd.func13 (by kernel_rfl) rfl #[.slice A0 l0.length c0] rfl (by (try simp only [List.map_toArray, List.map_cons, List.map_nil]); first | done | rfl | (simp only [List.length_drop, List.length_take]; rfl)) ?_; (with_reducible refine (text_Runes.calls k _ _ l0 t215 t216 _ ?side1 ?side2 ?side3 A2.out).mono ?_); (case side1 => repeat (first | exact HR0.out | (with_reducible refine Kd.C_alloc ?_ _) | (with_reducible refine Kd.C_drewN ?_ _) | (with_reducible refine Kd.C_drew ?_))); (case side2 => exact HC0.out); (case side3 => exact Tabs.Holds.below HT.out (by repeat (first | (with_reducible first | exact HB.out | apply below_alloc | apply pw_below_drewN | apply below_drew1) | exact HB.out))); rintro e w8 ⟨v217, rfl, ho0, hb⟩; refine ⟨_, rfl, ?_⟩; have n0_ := Aside0.mk (Kd.R_lower ho0 (below_size (by repeat (first | (with_reducible first | exact HB.out | apply below_alloc | apply pw_below_drewN | apply below_drew1) | exact HB.out)))); have n1_ := Aside0.mk (below_step (by repeat (first | (with_reducible first | exact HB.out | apply below_alloc | apply pw_below_drewN | apply below_drew1) | exact HB.out)) hb); clear HB; have HO218 := n0_; have HB := n1_; clear n0_ n1_; (try clear hb); (try clear hb2); (try clear hk); (try clear hi); (try clear ho0)))
    go_ret2
    exact ⟨by first | rfl | (simp [errW_none, errW_some] <;> rfl) | (simp [*, errW_none, errW_some] <;> rfl), by repeat (first | (with_reducible first | exact HB.out | apply below_alloc | apply pw_below_drewN | apply below_drew1) | exact HB.out)⟩
def text_unit.l0 : Nat → List Int → Int → Int → Bool → Int → Int → Option (List Int)
  | 0, _, _, _, _, _, _ => none
  | k + 1, x0, x1, x2, x3, x11, x12 => if x12 < x11 then (if x3 = true then (if 0 ≤ (wrap64 (8 * (wrap64 ((wrap64 (x2 - 1)) - x12)))) then (if x0.length < 140737488355328 then (text_unit.l0 k (x0 ++ [(shr .i32 x1 (wrap64 (8 * (wrap64 ((wrap64 (x2 - 1)) - x12))))) % 256]) x1 x2 x3 x11 (wrap64 (x12 + 1))) else (none)) else (none)) else (if 0 ≤ (wrap64 (8 * x12)) then (if x0.length < 140737488355328 then (text_unit.l0 k (x0 ++ [(shr .i32 x1 (wrap64 (8 * x12))) % 256]) x1 x2 x3 x11 (wrap64 (x12 + 1))) else (none)) else (none))) else (some x0)
def text_unit.f (k : Nat) (l0 : List Int) (a1 : Int) (a2 : Int) (a3 : Bool) : Option (List Int) := text_unit.l0 k l0 a1 a2 a3 a2 0
set_option maxHeartbeats 8000000 in
set_option maxRecDepth 100000 in
theorem text_unit.calls (k : Nat) (P0_ : Nat → Prop) (u9000_ : Value) (l0 : List Int) (a1 : Int) (a2 : Int) (a3 : Bool) (r : List Int) (w0 w : World) (hB : Below w0.heap.size w0 w) (ho0 : Kd.R (Kd.int .u8) 5 w w0.heap.size P0_ u9000_ l0) (h : text_unit.f k l0 a1 a2 a3 = some r) :
    Calls Tryd.prog 42 #[u9000_, .int .i32 a1, .int .i64 a2, .bool a3] w fun e w' => ∃ v0_ : Value, e = .returned (v0_) ∧ Kd.R (Kd.int .u8) 5 w' w0.heap.size (fun k_ => (P0_ k_ ∨ w.heap.size ≤ k_)) v0_ r ∧ Below w0.heap.size w0 w' ∧ Kept w w' (fun k_ => P0_ k_) := by
  have HO0 := Aside0.mk (show Kd.R (Kd.int .u8) 5 w w0.heap.size (fun k_ => (P0_ k_ ∨ w.heap.size ≤ k_)) u9000_ l0 from Kd.R_mono ho0 (fun k_ hk => (.inl hk)))
  have HK := Aside0.mk (Kept.refl w (fun k_ => P0_ k_))
  have HW0 := Aside0.mk hB.size
  have HB := Aside0.mk hB
  clear hB
  have H : (text_unit.l0 k l0 a1 a2 a3 a2 0) = some r := h
  clear h
  have H' := Aside0.mk H
  clear H
  go_enter Tryd.func42, Tryd.ntmps42
  go_wp2
  go_loopg [0, 12] k (fun kq v0 v12 w' => ∃ (x0_1 : List Int) (x12_1 : Int), v12 = .int .i64 x12_1 ∧ Aside0 (text_unit.l0 kq x0_1 a1 a2 a3 a2 x12_1 = some r) ∧ Aside0 (kq ≤ k) ∧ Aside0 (Kd.R (Kd.int .u8) 5 w' w0.heap.size (fun k_ => (P0_ k_ ∨ w.heap.size ≤ k_)) v0 x0_1) ∧ Aside0 (Kept w w' (fun k_ => P0_ k_)) ∧ Aside0 (Below w0.heap.size w0 w'))
  case atStart => exact ⟨(l0), (0), (by first | rfl | (simp; done) | (simp [*]; done) | (simp [xbne_nil, xbeq_nil]; done)), H', ⟨Nat.le_refl _⟩, ⟨by (with_reducible repeat (first | apply Kd.R_alloc | apply Kd.R_drewN | apply Kd.R_drew)); exact HO0.out⟩, ⟨by repeat (first | (with_reducible first | exact HK.out | apply Kept.alloc | apply Kept.drewN | apply Kept.drew) | exact HK.out)⟩, ⟨by repeat (first | (with_reducible first | exact HB.out | apply below_alloc | apply pw_below_drewN | apply below_drew1) | exact HB.out)⟩⟩
  case round =>
    clear H'
    try clear p2
    try clear c4
    obtain ⟨x0_1, x12_1, rfl, HA, HK1, HO_0, HK, HB⟩ := hrel
    cases gk with
    | zero => exact absurd HA.out (by simp [text_unit.l0])
    | succ k1 =>
      have H := HA.out
      clear HA
      simp only [text_unit.l0] at H
      by_cases c5 : x12_1 < a2
      · rw [if_pos c5] at H
        have c5b0 : decide (x12_1 < a2) = true := decide_eq_true c5
        clear c5
        by_cases c6 : a3 = true
        · subst c6
          have H1 : (if 0 ≤ (wrap64 (8 * (wrap64 ((wrap64 (a2 - 1)) - x12_1)))) then (if x0_1.length < 140737488355328 then (text_unit.l0 k1 (x0_1 ++ [(shr .i32 a1 (wrap64 (8 * (wrap64 ((wrap64 (a2 - 1)) - x12_1))))) % 256]) a1 a2 true a2 (wrap64 (x12_1 + 1))) else (none)) else (none)) = some r := by rw [if_pos rfl] at H; exact H
          clear H
          have H := H1
          clear H1
          obtain ⟨ji7, hji7⟩ : ∃ j_ : Int, (wrap64 (8 * (wrap64 ((wrap64 (a2 - 1)) - x12_1)))) = j_ := ⟨_, rfl⟩
          replace H : (if 0 ≤ (ji7) then (if x0_1.length < 140737488355328 then (text_unit.l0 k1 (x0_1 ++ [(shr .i32 a1 (ji7)) % 256]) a1 a2 true a2 (wrap64 (x12_1 + 1))) else (none)) else (none)) = some r := by first | (rw [hji7] at H; exact H) | (simp only [hji7] at H ⊢; exact H)
          have hji7w : (IntKind.i64.wrap (8 * (wrap64 ((wrap64 (a2 - 1)) - x12_1)))) = ji7 := (i64_w _).trans hji7
          by_cases c8 : 0 ≤ (ji7)
          · rw [if_pos c8] at H
            have c8b0 := eq_true c8
            have c8b1 : decide (0 ≤ (ji7)) = true := decide_eq_true c8
            clear c8
            obtain ⟨ji9, hji9⟩ : ∃ j_ : Int, (shr .i32 a1 (ji7)) = j_ := ⟨_, rfl⟩
            replace H : (if x0_1.length < 140737488355328 then (text_unit.l0 k1 (x0_1 ++ [(ji9) % 256]) a1 a2 true a2 (wrap64 (x12_1 + 1))) else (none)) = some r := by first | (rw [hji9] at H; exact H) | (simp only [hji9] at H ⊢; exact H)
            have hji9_ : (a1 / 2 ^ min (ji7).toNat 32) = ji9 := hji9
            have hji9z : (ji7) ≤ 32 → (a1 / 2 ^ (ji7).toNat) = ji9 := shr_small hji9
            by_cases c10 : x0_1.length < 140737488355328
            · rw [if_pos c10] at H
              have LMc10 := Aside0.mk c10
              clear c10
              obtain ⟨y221, hy221⟩ : ∃ y_ : List Int, y_ = (x0_1 ++ [(ji9) % 256]) := ⟨_, rfl⟩
              replace H : (text_unit.l0 k1 y221 a1 a2 true a2 (wrap64 (x12_1 + 1))) = some r := by first | (rw [hy221]; with_reducible exact H) | (have H2_ := (Option.bind_some _ _).symm.trans H; rw [hy221]; with_reducible exact H2_) | (have H2_ := (Option.bind_some _ _).symm.trans H; with_reducible exact H2_) | with_reducible exact H | (rw [hy221]; exact H) | exact H
              have Ny221 := Aside0.mk hy221
              clear hy221
              have H' := Aside0.mk H
              clear H
              go_wp2_with (first | ((with_reducible refine gate_builtin (b := .append) (xs := #[.tmp 23, .tmp 28]) rfl ?_); at_builtin; refine Kd.R_append (Kd.int .u8) (w0 := w0) w0.heap.size rfl (.tmp 23) (.tmp 28) 22 5 (.int .u8 0) 1 rfl Tryd.underlying22 info5 rfl (by decide) (by omega) u0 x0_1 ((ji9) % 256) [.int .u8 ((ji9) % 256)] (fun k_ => (P0_ k_ ∨ w.heap.size ≤ k_)) (fun _ => False) rfl rfl ?aP (fun _ hk => hk.elim) ?aF ?aO ?aB ?aS ?aL ?_; (case aP => exact rfl); (case aB => exact (by repeat (first | (with_reducible first | exact HB.out | apply below_alloc | apply pw_below_drewN | apply below_drew1) | exact HB.out))); (case aF => exact (fun k_ hk => (.inr (Nat.le_trans (by first | exact HK.out.1 | exact (show Kept w _ (fun k_ => P0_ k_) from by repeat (first | (with_reducible first | exact HK.out | apply Kept.alloc | apply Kept.drewN | apply Kept.drew) | exact HK.out)).1) hk)))); (case aO => exact (by (with_reducible repeat (first | apply Kd.R_alloc | apply Kd.R_drewN | apply Kd.R_drew)); exact HO_0.out)); (case aS => exact (below_size (by repeat (first | (with_reducible first | exact HB.out | apply below_alloc | apply pw_below_drewN | apply below_drew1) | exact HB.out)))); (case aL => have := LMc10.out; omega); intro v222 w11 ho hb hg hat; rw [← Ny221.out] at ho; have n0_ := Aside0.mk (hb); have n1_ := Aside0.mk (Kept.of_grown (S := (fun k_ => P0_ k_)) hg (by repeat (first | (with_reducible first | exact HK.out | apply Kept.alloc | apply Kept.drewN | apply Kept.drew) | exact HK.out)) (fun k_ e_ => (HO_0.out.1 k_ e_))); have n2_ := Aside0.mk (ho); clear HB; clear HK; clear HO_0; have HB := n0_; have HK := n1_; have HO223 := n2_; clear n0_ n1_ n2_; clear ho hb hg hat))
              go_roundg k1
              case measure => have := HK1.out; omega
              case rel => exact ⟨(y221), (wrap64 (x12_1 + 1)), (by first | rfl | (simp; done) | (simp [*]; done) | (simp [xbne_nil, xbeq_nil]; done)), H', ⟨by have := HK1.out; omega⟩, ⟨by (with_reducible repeat (first | apply Kd.R_alloc | apply Kd.R_drewN | apply Kd.R_drew)); exact HO223.out⟩, ⟨by repeat (first | (with_reducible first | exact HK.out | apply Kept.alloc | apply Kept.drewN | apply Kept.drew) | exact HK.out)⟩, ⟨by repeat (first | (with_reducible first | exact HB.out | apply below_alloc | apply pw_below_drewN | apply below_drew1) | exact HB.out)⟩⟩
            · rw [if_neg c10] at H
              exact absurd H (by simp)
          · rw [if_neg c8] at H
            exact absurd H (by simp)
        · replace c6 := Bool.eq_false_iff.mpr c6
          subst c6
          have H1 : (if 0 ≤ (wrap64 (8 * x12_1)) then (if x0_1.length < 140737488355328 then (text_unit.l0 k1 (x0_1 ++ [(shr .i32 a1 (wrap64 (8 * x12_1))) % 256]) a1 a2 false a2 (wrap64 (x12_1 + 1))) else (none)) else (none)) = some r := by rw [if_neg (show ¬ (false = true) by decide)] at H; exact H
          clear H
          have H := H1
          clear H1
          obtain ⟨ji12, hji12⟩ : ∃ j_ : Int, (wrap64 (8 * x12_1)) = j_ := ⟨_, rfl⟩
          replace H : (if 0 ≤ (ji12) then (if x0_1.length < 140737488355328 then (text_unit.l0 k1 (x0_1 ++ [(shr .i32 a1 (ji12)) % 256]) a1 a2 false a2 (wrap64 (x12_1 + 1))) else (none)) else (none)) = some r := by first | (rw [hji12] at H; exact H) | (simp only [hji12] at H ⊢; exact H)
          have hji12w : (IntKind.i64.wrap (8 * x12_1)) = ji12 := (i64_w _).trans hji12
          by_cases c13 : 0 ≤ (ji12)
          · rw [if_pos c13] at H
            have c13b0 := eq_true c13
            have c13b1 : decide (0 ≤ (ji12)) = true := decide_eq_true c13
            clear c13
            obtain ⟨ji14, hji14⟩ : ∃ j_ : Int, (shr .i32 a1 (ji12)) = j_ := ⟨_, rfl⟩
            replace H : (if x0_1.length < 140737488355328 then (text_unit.l0 k1 (x0_1 ++ [(ji14) % 256]) a1 a2 false a2 (wrap64 (x12_1 + 1))) else (none)) = some r := by first | (rw [hji14] at H; exact H) | (simp only [hji14] at H ⊢; exact H)
            have hji14_ : (a1 / 2 ^ min (ji12).toNat 32) = ji14 := hji14
            have hji14z : (ji12) ≤ 32 → (a1 / 2 ^ (ji12).toNat) = ji14 := shr_small hji14
            by_cases c15 : x0_1.length < 140737488355328
            · rw [if_pos c15] at H
              have LMc15 := Aside0.mk c15
              clear c15
              obtain ⟨y224, hy224⟩ : ∃ y_ : List Int, y_ = (x0_1 ++ [(ji14) % 256]) := ⟨_, rfl⟩
              replace H : (text_unit.l0 k1 y224 a1 a2 false a2 (wrap64 (x12_1 + 1))) = some r := by first | (rw [hy224]; with_reducible exact H) | (have H2_ := (Option.bind_some _ _).symm.trans H; rw [hy224]; with_reducible exact H2_) | (have H2_ := (Option.bind_some _ _).symm.trans H; with_reducible exact H2_) | with_reducible exact H | (rw [hy224]; exact H) | exact H
              have Ny224 := Aside0.mk hy224
              clear hy224
              have H' := Aside0.mk H
              clear H
              go_wp2_with (first | ((with_reducible refine gate_builtin (b := .append) (xs := #[.tmp 23, .tmp 28]) rfl ?_); at_builtin; refine Kd.R_append (Kd.int .u8) (w0 := w0) w0.heap.size rfl (.tmp 23) (.tmp 28) 22 5 (.int .u8 0) 1 rfl Tryd.underlying22 info5 rfl (by decide) (by omega) u0 x0_1 ((ji14) % 256) [.int .u8 ((ji14) % 256)] (fun k_ => (P0_ k_ ∨ w.heap.size ≤ k_)) (fun _ => False) rfl rfl ?aP (fun _ hk => hk.elim) ?aF ?aO ?aB ?aS ?aL ?_; (case aP => exact rfl); (case aB => exact (by repeat (first | (with_reducible first | exact HB.out | apply below_alloc | apply pw_below_drewN | apply below_drew1) | exact HB.out))); (case aF => exact (fun k_ hk => (.inr (Nat.le_trans (by first | exact HK.out.1 | exact (show Kept w _ (fun k_ => P0_ k_) from by repeat (first | (with_reducible first | exact HK.out | apply Kept.alloc | apply Kept.drewN | apply Kept.drew) | exact HK.out)).1) hk)))); (case aO => exact (by (with_reducible repeat (first | apply Kd.R_alloc | apply Kd.R_drewN | apply Kd.R_drew)); exact HO_0.out)); (case aS => exact (below_size (by repeat (first | (with_reducible first | exact HB.out | apply below_alloc | apply pw_below_drewN | apply below_drew1) | exact HB.out)))); (case aL => have := LMc15.out; omega); intro v225 w16 ho hb hg hat; rw [← Ny224.out] at ho; have n0_ := Aside0.mk (hb); have n1_ := Aside0.mk (Kept.of_grown (S := (fun k_ => P0_ k_)) hg (by repeat (first | (with_reducible first | exact HK.out | apply Kept.alloc | apply Kept.drewN | apply Kept.drew) | exact HK.out)) (fun k_ e_ => (HO_0.out.1 k_ e_))); have n2_ := Aside0.mk (ho); clear HB; clear HK; clear HO_0; have HB := n0_; have HK := n1_; have HO226 := n2_; clear n0_ n1_ n2_; clear ho hb hg hat))
              go_roundg k1
              case measure => have := HK1.out; omega
              case rel => exact ⟨(y224), (wrap64 (x12_1 + 1)), (by first | rfl | (simp; done) | (simp [*]; done) | (simp [xbne_nil, xbeq_nil]; done)), H', ⟨by have := HK1.out; omega⟩, ⟨by (with_reducible repeat (first | apply Kd.R_alloc | apply Kd.R_drewN | apply Kd.R_drew)); exact HO226.out⟩, ⟨by repeat (first | (with_reducible first | exact HK.out | apply Kept.alloc | apply Kept.drewN | apply Kept.drew) | exact HK.out)⟩, ⟨by repeat (first | (with_reducible first | exact HB.out | apply below_alloc | apply pw_below_drewN | apply below_drew1) | exact HB.out)⟩⟩
            · rw [if_neg c15] at H
              exact absurd H (by simp)
          · rw [if_neg c13] at H
            exact absurd H (by simp)
      · rw [if_neg c5] at H
        have c5b0 : decide (x12_1 < a2) = false := decide_eq_false c5
        clear c5
        obtain rfl := Option.some.inj H
        go_wp2
        go_ret
        exact ⟨_, by first | rfl | (simp [errW_none, errW_some] <;> rfl) | (simp [*, errW_none, errW_some] <;> rfl), by (with_reducible repeat (first | apply Kd.R_alloc | apply Kd.R_drewN | apply Kd.R_drew)); exact HO_0.out, by repeat (first | (with_reducible first | exact HB.out | apply below_alloc | apply pw_below_drewN | apply below_drew1) | exact HB.out), by repeat (first | (with_reducible first | exact HK.out | apply Kept.alloc | apply Kept.drewN | apply Kept.drew) | exact HK.out)⟩
end Go.Proofs.YtdbkefgdeenjoaaDoor.X
end
section
namespace Go.Proofs.YtdbkefgdeenjoaaDoor.X
open Go.RowKit Go.Proofs.YtdbkefgdeenjoaaDoorW.PrintWords Go.Proofs.YtdbkefgdeenjoaaDoorW.PrintLast Go.Proofs.YtdbkefgdeenjoaaDoorW.PrintMore
attribute [local go_sem] max2_int min2_int max_two min_two max_three min_three max_four min_four
set_option linter.unusedVariables false
set_option linter.unusedSimpArgs false
def text_Encode.put (lb : List Int) (r size : Int) (big : Bool) : Option (List Int) :=
  if size = 1 then (if lb.length + 4 ≤ 140737488355328 then some (lb ++ Lib.encodeRuneZ r) else none)
  else if size = 2 then (if r ≥ 65536 then (text_unit.f 5 lb (wrap32 (55296 + (wrap32 (r - 65536)) / 1024)) size big).bind fun l1 => text_unit.f 5 l1 (wrap32 (56320 + Go.bits .and .i32 (wrap32 (r - 65536)) 1023)) size big else text_unit.f 5 lb r size big)
  else text_unit.f 5 lb r size big
def text_Encode.go (size : Int) (big : Bool) : List Int → List Int → Option (List Int × Int)
  | [], b => some (b, 0)
  | r :: t, b => (utf8_ValidRune.f r).bind fun m => (if m = true then (text_Encode.put b r size big).bind fun b' => text_Encode.go size big t b' else some ([], 6))
def text_Encode.f (l0 : List Int) (a1 : Int) : Option (List Int × Int) :=
  if a1 < 0 then some ([], 2) else if 4 < a1 then some ([], 2) else if l0.length ≤ 4294967296 then (text_wide.f a1).bind fun sg => (text_Encode.put [] 65279 sg.1 sg.2).bind fun b => text_Encode.go sg.1 sg.2 l0 b else none
def text_Encode.Box (w : World) (gs gb gg : Nat) (vb : Value) (size : Int) (big : Bool) : Prop :=
  w.heap[gs]? = some (.cells #[.int .i64 size] 3 (0, 0)) ∧ w.heap[gb]? = some (.cells #[vb] 22 (0, 0)) ∧ w.heap[gg]? = some (.cells #[.bool big] 4 (0, 0))
theorem text_Encode.apart {w : World} {base gs gb gg : Nat} {P : Nat → Prop} {vb v : Value} {size : Int} {big : Bool} {l : List Int} (hx : text_Encode.Box w gs gb gg vb size big) (h : Kd.R (Kd.int .u8) 5 w base P v l) :
    Kd.R (Kd.int .u8) 5 w base (fun k => k ≠ gs ∧ k ≠ gb ∧ k ≠ gg) v l := by
  have h1 := Kd.R_types h hx.1 (by decide)
  have h2 := Kd.R_types h1 hx.2.1 (by decide)
  have h3 := Kd.R_types h2 hx.2.2 (by decide)
  exact Kd.R_mono h3 (fun k hk => ⟨hk.1.1.2, hk.1.2, hk.2⟩)
theorem text_Encode.ne {w : World} {gs gb gg : Nat} {vb : Value} {size : Int} {big : Bool} (hx : text_Encode.Box w gs gb gg vb size big) : gs ≠ gb ∧ gs ≠ gg ∧ gb ≠ gg := by
  refine ⟨?_, ?_, ?_⟩
  · rintro rfl; have := hx.1.symm.trans hx.2.1; injection this with this; injection this with _ e _; cases e
  · rintro rfl; have := hx.1.symm.trans hx.2.2; injection this with this; injection this with _ e _; cases e
  · rintro rfl; have := hx.2.1.symm.trans hx.2.2; injection this with this; injection this with _ e _; cases e
theorem text_Encode.boxes {w w' : World} {gs gb gg : Nat} {vb : Value} {size : Int} {big : Bool} (hx : text_Encode.Box w gs gb gg vb size big) (hk : Kept w w' (fun k => k ≠ gs ∧ k ≠ gb ∧ k ≠ gg)) : text_Encode.Box w' gs gb gg vb size big :=
  ⟨blk_kept hx.1 hk (fun h => h.1 rfl), blk_kept hx.2.1 hk (fun h => h.2.1 rfl), blk_kept hx.2.2 hk (fun h => h.2.2 rfl)⟩
theorem text_Encode.stored {w : World} {gs gb gg : Nat} {vb : Value} {size : Int} {big : Bool} (hx : text_Encode.Box w gs gb gg vb size big) (v : Value) : text_Encode.Box (w.setCell ⟨gb, 0, none⟩ v) gs gb gg v size big := by
  obtain ⟨h1, h2, h3⟩ := text_Encode.ne hx
  exact ⟨blk_far hx.1 (p := ⟨gb, 0, none⟩) h1 v, blk_put hx.2.1 0 v rfl, blk_far hx.2.2 (p := ⟨gb, 0, none⟩) (fun e => h3 e.symm) v⟩
theorem text_Encode.after {w0 w w' : World} {gs gb gg : Nat} {vb v' : Value} {size : Int} {big : Bool} {l : List Int} {P : Nat → Prop} (hge : w0.heap.size ≤ gb) (hx : text_Encode.Box w gs gb gg vb size big)
    (hR : Kd.R (Kd.int .u8) 5 w' w0.heap.size P v' l) (hB : Below w0.heap.size w0 w') (hk : Kept w w' (fun k => k ≠ gs ∧ k ≠ gb ∧ k ≠ gg)) :
    text_Encode.Box (w'.setCell ⟨gb, 0, none⟩ v') gs gb gg v' size big ∧ Kd.R (Kd.int .u8) 5 (w'.setCell ⟨gb, 0, none⟩ v') w0.heap.size (fun _ => True) v' l ∧ Below w0.heap.size w0 (w'.setCell ⟨gb, 0, none⟩ v') := by
  have hb := text_Encode.boxes hx hk
  refine ⟨text_Encode.stored hb v', ?_, hB.setCell (p := ⟨gb, 0, none⟩) hge _⟩
  exact Kd.R_mono (Kd.R_far (text_Encode.apart hb hR) (p := ⟨gb, 0, none⟩) (fun k hk => hk.2.1) v') (fun _ _ => trivial)
theorem text_Encode.rune (P0_ : Nat → Prop) (u : Value) (l0 : List Int) (a1 : Int) (w0 w : World) (hB : Below w0.heap.size w0 w) (ho : Kd.R (Kd.int .u8) 5 w w0.heap.size P0_ u l0) (h0 : -2147483648 ≤ a1) (h1 : a1 ≤ 2147483647) (hlen : l0.length + 4 ≤ 140737488355328) :
    Calls Tryd.prog 41 #[u, .int .i32 a1] w fun e w' => ∃ v0_ : Value, e = .returned (v0_) ∧ Kd.R (Kd.int .u8) 5 w' w0.heap.size (fun _ => True) v0_ (l0 ++ Lib.encodeRuneZ a1) ∧ Below w0.heap.size w0 w' ∧ Kept w w' (fun k_ => P0_ k_) := by
  have ho1 := Kd.own_of_R ho
  have hP := ho.1
  refine (Any.utf8_AppendRune_plain Tryd.lays242 (by kernel_rfl) w0.heap.size u l0.length _ a1 h0 h1 w ho1 hlen hB.size).mono ?_
  rintro e w' ⟨v', rfl, hown, o, hg⟩
  have hbase : ∀ k, u.ownBlock = some k → w0.heap.size ≤ k := fun k hk => own_base ho1 k hk
  refine ⟨v', rfl, Kd.R_of_own ?_ (fun _ _ => trivial), ?_, ?_⟩
  · have e1 : encs (fun x => Value.int .u8 x) (l0 ++ Lib.encodeRuneZ a1) = encs (fun x => Value.int .u8 x) l0 ++ Lib.runeCells a1 := by simp [encs, Lib.runeCells]
    have e2 : (l0 ++ Lib.encodeRuneZ a1).length = l0.length + (Lib.runeCells a1).length := by simp [Lib.runeCells]
    rw [e2]
    exact e1 ▸ hown
  · exact (hB.alloc hB.size o).grown hg (by have := hB.size; rw [World.size_alloc]; omega) hbase
  · exact Kept.of_grown hg ((Kept.refl w _).alloc o) (fun k hk => .inl (hP k hk))
theorem text_Encode.slice {w : World} {base : Nat} {P : Nat → Prop} {v : Value} {l : List Int} (h : Kd.R (Kd.int .u8) 5 w base P v l) : ∃ A n c, v = .slice A n c := by
  obtain ⟨A, c, e⟩ := own_slice (Kd.own_of_R h); exact ⟨A, _, c, e⟩
set_option maxHeartbeats 4000000 in
set_option maxRecDepth 100000 in
theorem text_Encode.put_calls (gs gb gg : Nat) (vb : Value) (lb : List Int) (r size : Int) (big : Bool) (lb' : List Int) (w0 w : World) (hB : Below w0.heap.size w0 w) (hge : w0.heap.size ≤ gb) (hx : text_Encode.Box w gs gb gg vb size big)
    (ho : Kd.R (Kd.int .u8) 5 w w0.heap.size (fun _ => True) vb lb) (hr0 : -2147483648 ≤ r) (hr1 : r ≤ 2147483647) (h : text_Encode.put lb r size big = some lb') :
    Calls Tryd.prog 40 #[.int .i32 r, .pointer (some ⟨gs, 0, none⟩), .pointer (some ⟨gb, 0, none⟩), .pointer (some ⟨gg, 0, none⟩)] w fun e w' => e = .returned (.tuple #[]) ∧ ∃ vb', text_Encode.Box w' gs gb gg vb' size big ∧ Kd.R (Kd.int .u8) 5 w' w0.heap.size (fun _ => True) vb' lb' ∧ Below w0.heap.size w0 w' := by
  have hap := text_Encode.apart hx ho
  have cs : w.cell? ⟨gs, 0, none⟩ = some (.int .i64 size) := blk_cell hx.1 0
  have cb : w.cell? ⟨gb, 0, none⟩ = some vb := blk_cell hx.2.1 0
  have cg : w.cell? ⟨gg, 0, none⟩ = some (.bool big) := blk_cell hx.2.2 0
  unfold text_Encode.put at h
  by_cases h1 : size = 1
  · rw [if_pos h1] at h
    have f1 : (size == 1) = true := beq_iff_eq.mpr h1
    by_cases h4 : lb.length + 4 ≤ 140737488355328
    case neg => rw [if_neg h4] at h; cases h
    rw [if_pos h4] at h
    obtain rfl := Option.some.inj h
    have HC := text_Encode.rune _ vb lb r w0 w hB hap hr0 hr1 h4
    have S1 := Aside0.mk h1
    clear h1 h
    have HX := Aside0.mk hx
    clear hx
    go_enter Tryd.func40, Tryd.ntmps40
    go_wp2_with fail
    refine HC.mono ?_
    rintro e w' ⟨v', rfl, hR, hB', hk⟩
    have hbx := text_Encode.boxes HX.out hk
    have cb' : w'.cell? ⟨gb, 0, none⟩ = some vb := blk_cell hbx.2.1 0
    have fb' : w'.frozen? ⟨gb, 0, none⟩ = false := blk_frozen hbx.2.1 0
    have HA := Aside0.mk (text_Encode.after hge HX.out hR hB' hk)
    obtain ⟨A', n', c', rfl⟩ := text_Encode.slice hR
    clear hbx hR hB' hk
    go_wp2
    go_end0
    exact ⟨rfl, _, HA.out⟩
  · rw [if_neg h1] at h
    have f1 : (size == 1) = false := beq_eq_false_iff_ne.mpr h1
    by_cases h2 : size = 2
    · rw [if_pos h2] at h
      have f2 : (size == 2) = true := beq_iff_eq.mpr h2
      by_cases h3 : r ≥ 65536
      · rw [if_pos h3] at h
        have f3 : decide (65536 ≤ r) = true := decide_eq_true h3
        obtain ⟨l1, e1, h⟩ := Option.bind_eq_some_iff.mp h
        have HC := text_unit.calls 5 _ vb lb _ size big l1 w0 w hB hap e1
        have S1 := Aside0.mk (And.intro h1 (And.intro h2 (And.intro h3 h)))
        clear h1 h2 h3 h e1
        have HX := Aside0.mk hx
        clear hx
        go_enter Tryd.func40, Tryd.ntmps40
        go_wp2_with fail
        refine HC.mono ?_
        rintro e w' ⟨v', rfl, hR, hB', hk⟩
        have hbx := text_Encode.boxes HX.out hk
        have fb' : w'.frozen? ⟨gb, 0, none⟩ = false := blk_frozen hbx.2.1 0
        have cb' : w'.cell? ⟨gb, 0, none⟩ = some vb := blk_cell hbx.2.1 0
        have HA := text_Encode.after hge HX.out hR hB' hk
        obtain ⟨A', n', c', rfl⟩ := text_Encode.slice hR
        have dx := HA.1
        have ds : (w'.setCell ⟨gb, 0, none⟩ (.slice A' n' c')).cell? ⟨gs, 0, none⟩ = some (.int .i64 size) := blk_cell dx.1 0
        have db : (w'.setCell ⟨gb, 0, none⟩ (.slice A' n' c')).cell? ⟨gb, 0, none⟩ = some (.slice A' n' c') := blk_cell dx.2.1 0
        have dg : (w'.setCell ⟨gb, 0, none⟩ (.slice A' n' c')).cell? ⟨gg, 0, none⟩ = some (.bool big) := blk_cell dx.2.2 0
        have HD := text_unit.calls 5 _ _ l1 _ size big lb' w0 _ HA.2.2 (text_Encode.apart dx HA.2.1) S1.out.2.2.2
        have HY := Aside0.mk dx
        clear hbx hR hB' hk HA dx S1
        go_wp2_with fail
        refine HD.mono ?_
        rintro e w2 ⟨v2, rfl, hR2, hB2, hk2⟩
        have hbx2 := text_Encode.boxes HY.out hk2
        have fb2 : w2.frozen? ⟨gb, 0, none⟩ = false := blk_frozen hbx2.2.1 0
        have cb2 : w2.cell? ⟨gb, 0, none⟩ = some _ := blk_cell hbx2.2.1 0
        have HA2 := Aside0.mk (text_Encode.after hge HY.out hR2 hB2 hk2)
        obtain ⟨A2, n2, c2, rfl⟩ := text_Encode.slice hR2
        clear hbx2 hR2 hB2 hk2
        go_wp2
        go_end0
        exact ⟨rfl, _, HA2.out⟩
      · rw [if_neg h3] at h
        have f3 : decide (65536 ≤ r) = false := decide_eq_false h3
        have HC := text_unit.calls 5 _ vb lb _ size big lb' w0 w hB hap h
        have S1 := Aside0.mk (And.intro h1 (And.intro h2 h3))
        clear h1 h2 h3 h
        have HX := Aside0.mk hx
        clear hx
        go_enter Tryd.func40, Tryd.ntmps40
        go_wp2_with fail
        refine HC.mono ?_
        rintro e w' ⟨v', rfl, hR, hB', hk⟩
        have hbx := text_Encode.boxes HX.out hk
        have cb' : w'.cell? ⟨gb, 0, none⟩ = some vb := blk_cell hbx.2.1 0
        have fb' : w'.frozen? ⟨gb, 0, none⟩ = false := blk_frozen hbx.2.1 0
        have HA := Aside0.mk (text_Encode.after hge HX.out hR hB' hk)
        obtain ⟨A', n', c', rfl⟩ := text_Encode.slice hR
        clear hbx hR hB' hk
        go_wp2
        go_end0
        exact ⟨rfl, _, HA.out⟩
    · rw [if_neg h2] at h
      have f2 : (size == 2) = false := beq_eq_false_iff_ne.mpr h2
      have HC := text_unit.calls 5 _ vb lb _ size big lb' w0 w hB hap h
      have S1 := Aside0.mk (And.intro h1 h2)
      clear h1 h2 h
      have HX := Aside0.mk hx
      clear hx
      go_enter Tryd.func40, Tryd.ntmps40
      go_wp2_with fail
      refine HC.mono ?_
      rintro e w' ⟨v', rfl, hR, hB', hk⟩
      have hbx := text_Encode.boxes HX.out hk
      have cb' : w'.cell? ⟨gb, 0, none⟩ = some vb := blk_cell hbx.2.1 0
      have fb' : w'.frozen? ⟨gb, 0, none⟩ = false := blk_frozen hbx.2.1 0
      have HA := Aside0.mk (text_Encode.after hge HX.out hR hB' hk)
      obtain ⟨A', n', c', rfl⟩ := text_Encode.slice hR
      clear hbx hR hB' hk
      go_wp2
      go_end0
      exact ⟨rfl, _, HA.out⟩
theorem text_Encode.valid (a0 : Int) (h : utf8_ValidRune.f a0 = some true) : 0 ≤ a0 ∧ a0 ≤ 1114111 := by
  unfold utf8_ValidRune.f at h
  repeat' split at h
  all_goals first | omega | (simp at h)
theorem text_Encode.rd_drop (l : List Int) (i : Int) (h0 : 0 ≤ i) (h1 : i < (l.length : Int)) : l.drop i.toNat = rd l i :: l.drop (i + 1).toNat := by
  have hl : i.toNat < l.length := by omega
  rw [List.drop_eq_getElem_cons hl, show (i + 1).toNat = i.toNat + 1 from by omega]
  unfold rd
  rw [List.getD_eq_getElem?_getD, List.getElem?_eq_getElem hl]; rfl
theorem text_Encode.res (tmps : Array Value) (w : World) (a : Addr) (v : Value) (h4 : tmps.getD 4 undef = .pointer (some a)) (hc : w.cell? a = some v) : (results Tryd.f19 tmps).run Tryd.prog w = .ok (.tuple #[v, tmps.getD 5 undef]) w := by
  rw [results_cell_tmp rfl, h4]
  have a22 := Tryd.isAgg22
  simp [asAddr, Result.andThen, loadVar, a22, hc]
set_option maxHeartbeats 4000000 in
set_option maxRecDepth 100000 in
theorem text_Encode.calls (A0 : Option Addr) (c0 : Nat) (l0 : List Int) (a1 : Int) (r1 : List Int) (r2 : Int) (w : World) (hr0 : Kd.C (Kd.int .i32) w A0 l0.length l0) (_hc0 : l0.length ≤ c0) (h : text_Encode.f l0 a1 = some (r1, r2)) :
    Calls Tryd.prog 19 #[.slice A0 l0.length c0, .int .i64 a1] w fun e w' => ∃ v0_ : Value, e = .returned (.tuple #[v0_, .int .i64 r2]) ∧ Kd.R (Kd.int .u8) 5 w' w.heap.size (fun _ => True) v0_ r1 ∧ Below w.heap.size w w' := by
  unfold text_Encode.f at h
  by_cases n0 : a1 < 0
  · rw [if_pos n0] at h
    have n0b : decide (a1 < 0) = true := decide_eq_true n0
    simp only [Option.some.injEq, Prod.mk.injEq] at h
    obtain ⟨rfl, rfl⟩ := h
    clear n0
    go_enter Tryd.func19, Tryd.ntmps19
    go_wp2
    (try simp only [Exit.inBlock, Exit.then])
    refine bodyPost_ret (text_Encode.res _ _ _ (.slice none 0 0) rfl ?_) rfl ⟨_, rfl, ?_, ?_⟩
    · exact blk_cell (blk_new _ _) 0
    · exact Kd.R_of_own (own_nil _ _ _ _) (fun _ h => by cases h)
    · repeat (first | exact Below.refl _ _ | (refine Below.setCell ?_ (by simp) _) | apply below_alloc | apply below_drew1)
  rw [if_neg n0] at h
  have n0b : decide (a1 < 0) = false := decide_eq_false n0
  by_cases n4 : 4 < a1
  · rw [if_pos n4] at h
    have n4b : decide (4 < a1) = true := decide_eq_true n4
    simp only [Option.some.injEq, Prod.mk.injEq] at h
    obtain ⟨rfl, rfl⟩ := h
    clear n0 n4
    go_enter Tryd.func19, Tryd.ntmps19
    go_wp2
    (try simp only [Exit.inBlock, Exit.then])
    refine bodyPost_ret (text_Encode.res _ _ _ (.slice none 0 0) rfl ?_) rfl ⟨_, rfl, ?_, ?_⟩
    · exact blk_cell (blk_new _ _) 0
    · exact Kd.R_of_own (own_nil _ _ _ _) (fun _ h => by cases h)
    · repeat (first | exact Below.refl _ _ | (refine Below.setCell ?_ (by simp) _) | apply below_alloc | apply below_drew1)
  rw [if_neg n4] at h
  have n4b : decide (4 < a1) = false := decide_eq_false n4
  by_cases hlen : l0.length ≤ 4294967296
  case neg => rw [if_neg hlen] at h; cases h
  rw [if_pos hlen] at h
  obtain ⟨⟨size, big⟩, hw, h⟩ := Option.bind_eq_some_iff.mp h
  obtain ⟨b0, hp, h⟩ := Option.bind_eq_some_iff.mp h
  simp only at hp h
  have HC := text_wide.calls a1 size big
  have HR0 := Aside0.mk hr0
  have HL := Aside0.mk hlen
  have HG := Aside0.mk h
  have HP := Aside0.mk hp
  have HW := Aside0.mk hw
  clear hr0 hlen h hp hw n0 n4
  go_enter Tryd.func19, Tryd.ntmps19
  go_wp2_with fail
  refine (HC _ HW.out).mono ?_
  rintro e w' ⟨rfl, ⟨nd, rfl⟩⟩
  go_wp2_with fail
  have hbx0 : text_Encode.Box ((((w.alloc (.cells #[.slice none 0 0] 22)).drewN nd).alloc (.cells #[.int .i64 size] 3)).alloc (.cells #[.bool big] 4)) (w.heap.size + 1) w.heap.size (w.heap.size + 1 + 1) (.slice none 0 0) size big := by
    have z1 : ((w.alloc (.cells #[.slice none 0 0] 22)).drewN nd).heap.size = w.heap.size + 1 := World.size_alloc _ _
    have z2 : (((w.alloc (.cells #[.slice none 0 0] 22)).drewN nd).alloc (.cells #[.int .i64 size] 3)).heap.size = w.heap.size + 1 + 1 := by rw [World.size_alloc, z1]
    have n1 := blk_new ((w.alloc (.cells #[.slice none 0 0] 22)).drewN nd) (.cells #[.int .i64 size] 3)
    have n2 := blk_new (((w.alloc (.cells #[.slice none 0 0] 22)).drewN nd).alloc (.cells #[.int .i64 size] 3)) (.cells #[.bool big] 4)
    rw [z1] at n1
    rw [z2] at n2
    exact ⟨blk_alloc n1 _, blk_alloc (blk_alloc (blk_drewN (blk_new w _) nd) _) _, n2⟩
  have hB0 : Below w.heap.size w ((((w.alloc (.cells #[.slice none 0 0] 22)).drewN nd).alloc (.cells #[.int .i64 size] 3)).alloc (.cells #[.bool big] 4)) := by
    repeat (first | exact Below.refl _ _ | apply below_alloc | apply pw_below_drewN)
  refine (text_Encode.put_calls _ _ _ _ [] 65279 size big b0 w _ hB0 (Nat.le_refl _) hbx0 (Kd.R_of_own (own_nil _ _ _ _) (fun _ h => by cases h)) (by decide) (by decide) HP.out).mono ?_
  rintro e w1 ⟨rfl, vb1, hbx1, hR1, hB1⟩
  have HX1 := Aside0.mk hbx1
  have HR1 := Aside0.mk hR1
  have HB1 := Aside0.mk hB1
  clear hbx0 hB0 hbx1 hR1 hB1 HP HW HC h
  go_wp2
  go_loopw [27] (fun v27 wr => ∃ (i : Int) (out : List Int) (vb : Value), v27 = .int .i64 i ∧ Aside0 (0 ≤ i ∧ i ≤ (l0.length : Int)) ∧ Aside0 (text_Encode.go size big (l0.drop i.toNat) out = some (r1, r2)) ∧ Aside0 (text_Encode.Box wr (w.heap.size + 1) w.heap.size (w.heap.size + 1 + 1) vb size big) ∧ Aside0 (Kd.R (Kd.int .u8) 5 wr w.heap.size (fun _ => True) vb out) ∧ Aside0 (Below w.heap.size w wr)) (fun v27 _ => l0.length - (intOf v27).toNat)
  case atStart => exact ⟨0, b0, vb1, rfl, ⟨by omega⟩, HG, HX1, HR1, HB1⟩
  case round =>
    obtain ⟨i, out, vb, rfl, HI, HA, HX, HR, HB⟩ := hrel
    by_cases c2 : i < (l0.length : Int)
    · have c2b0 : decide (i < (l0.length : Int)) = true := decide_eq_true c2
      have hd := text_Encode.rd_drop l0 i HI.out.1 c2
      have H := HA.out
      rw [hd] at H
      clear HA hd
      simp only [text_Encode.go] at H
      obtain ⟨m, A20, H⟩ := Option.bind_eq_some_iff.mp H
      have A2 := Aside0.mk A20
      clear A20
      have p4 := HI.out.1
      obtain ⟨ad4, e4, hx4⟩ := Kd.at_int HR0.out i p4 c2
      cases e4
      replace hx4 := (HB.out.cell (World.block_lt_of_cell? w _ hx4)).trans hx4
      have hn1 : Aside0 (wrap64 (i + 1) = i + 1) := ⟨by have := HL.out; unfold wrap64; omega⟩
      have p4b : (0 ≤ i) = True := eq_true p4
      have q4b : (i < (l0.length : Int)) = True := eq_true c2
      have HI2 := Aside0.mk c2
      clear p4
      cases m with
      | false =>
        rw [if_neg (by decide)] at H
        simp only [Option.some.injEq, Prod.mk.injEq] at H
        obtain ⟨rfl, rfl⟩ := H
        have fb : wr.frozen? ⟨w.heap.size, 0, none⟩ = false := blk_frozen HX.out.2.1 0
        have cb : wr.cell? ⟨w.heap.size, 0, none⟩ = some vb := blk_cell HX.out.2.1 0
        go_wp2_with (go_at_call 35; (with_reducible refine (utf8_ValidRune.calls _ false _ A2.out).mono ?_); rintro e w' ⟨rfl, ⟨nd, rfl⟩⟩)
        (try simp only [Exit.inBlock, Exit.then])
        refine bodyPost_ret (text_Encode.res _ _ _ (.slice none 0 0) rfl ?_) rfl ⟨_, rfl, ?_, ?_⟩
        · exact blk_cell (text_Encode.stored (w := wr.drewN nd) HX.out (.slice none 0 0)).2.1 0
        · exact Kd.R_of_own (own_nil _ _ _ _) (fun _ h => by cases h)
        · exact (pw_below_drewN HB.out _).setCell (p := ⟨w.heap.size, 0, none⟩) (Nat.le_refl _) _
      | true =>
        rw [if_pos rfl] at H
        obtain ⟨b1, hp1, H⟩ := Option.bind_eq_some_iff.mp H
        have H' := Aside0.mk H
        have HP1 := Aside0.mk hp1
        clear H hp1
        have hv := Aside0.mk (text_Encode.valid _ A2.out)
        go_wp2_with (go_at_call 35; (with_reducible refine (utf8_ValidRune.calls _ true _ A2.out).mono ?_); rintro e w' ⟨rfl, ⟨nd, rfl⟩⟩)
        refine (text_Encode.put_calls _ _ _ vb out _ size big b1 w (wr.drewN nd) (pw_below_drewN HB.out _) (Nat.le_refl _) HX.out (Kd.R_drewN HR.out _) (by have := hv.out; omega) (by have := hv.out; omega) HP1.out).mono ?_
        rintro e w2 ⟨rfl, vb2, hbx2, hR2, hB2⟩
        have HX2 := Aside0.mk hbx2
        have HR2 := Aside0.mk hR2
        have HB2 := Aside0.mk hB2
        clear hbx2 hR2 hB2
        go_wp2
        go_roundw
        case rel => exact ⟨wrap64 (i + 1), b1, vb2, rfl, ⟨by rw [hn1.out]; have := HI.out; have := HI2.out; omega⟩, by rw [hn1.out]; exact H', HX2, HR2, HB2⟩
        case measure => simp only [intOf]; rw [hn1.out]; have := HI.out; have := HI2.out; omega
    · have c2b0 : decide (i < (l0.length : Int)) = false := decide_eq_false c2
      have H := HA.out
      rw [List.drop_eq_nil_of_le (by have := HI.out; omega)] at H
      simp only [text_Encode.go, Option.some.injEq, Prod.mk.injEq] at H
      obtain ⟨rfl, rfl⟩ := H
      have fb : wr.frozen? ⟨w.heap.size, 0, none⟩ = false := blk_frozen HX.out.2.1 0
      have cb : wr.cell? ⟨w.heap.size, 0, none⟩ = some vb := blk_cell HX.out.2.1 0
      obtain ⟨A', n', c', rfl⟩ := text_Encode.slice HR.out
      clear HA c2
      go_wp2
      (try simp only [Exit.inBlock, Exit.then])
      have HF := text_Encode.after (w' := wr) (Nat.le_refl _) HX.out HR.out HB.out (Kept.refl _ _)
      refine bodyPost_ret (text_Encode.res _ _ _ _ rfl ?_) rfl ⟨_, rfl, HF.2.1, HF.2.2⟩
      exact blk_cell HF.1.2.1 0
end Go.Proofs.YtdbkefgdeenjoaaDoor.X
end
section
namespace Go.Proofs.YtdbkefgdeenjoaaDoor.X
open Go.RowKit Go.Proofs.YtdbkefgdeenjoaaDoorW.PrintWords Go.Proofs.YtdbkefgdeenjoaaDoorW.PrintLast Go.Proofs.YtdbkefgdeenjoaaDoorW.PrintMore
attribute [local go_sem] max2_int min2_int max_two min_two max_three min_three max_four min_four
set_option linter.unusedVariables false
set_option linter.unusedSimpArgs false
def slices_Equal_byte_byte.l0 : Nat → List Int → List Int → Int → Int → Option (Bool)
  | 0, _, _, _, _ => none
  | k + 1, x0, x1, x12, x13 => if x13 < x12 then (if 0 ≤ x13 then (if x13 < (x0.length : Int) then (if x13 < (x1.length : Int) then (if (rd x0 x13) = (rd x1 x13) then (slices_Equal_byte_byte.l0 k x0 x1 x12 (wrap64 (x13 + 1))) else (some false)) else (none)) else (none)) else (none)) else (some true)
def slices_Equal_byte_byte.f (k : Nat) (l0 : List Int) (l1 : List Int) : Option (Bool) := if (l0.length : Int) = (l1.length : Int) then (slices_Equal_byte_byte.l0 k l0 l1 (l0.length : Int) 0) else (some false)
set_option maxHeartbeats 8000000 in
set_option maxRecDepth 100000 in
theorem slices_Equal_byte_byte.calls (k : Nat) (A0 : Option Addr) (c0 : Nat) (l0 : List Int) (A1 : Option Addr) (c1 : Nat) (l1 : List Int) (r : Bool) (w : World) (hr0 : Kd.C (Kd.int .u8) w A0 l0.length l0) (hc0 : l0.length ≤ c0) (hr1 : Kd.C (Kd.int .u8) w A1 l1.length l1) (hc1 : l1.length ≤ c1) (h : slices_Equal_byte_byte.f k l0 l1 = some r) :
    Calls Tryd.prog 25 #[.slice A0 l0.length c0, .slice A1 l1.length c1] w fun e w' => e = .returned (.bool r) ∧ Drawn0 w w' := by
  have HR0 := Aside0.mk hr0
  have HC0 := Aside0.mk hc0
  clear hr0 hc0
  have HR1 := Aside0.mk hr1
  have HC1 := Aside0.mk hc1
  clear hr1 hc1
  have H : (if (l0.length : Int) = (l1.length : Int) then (slices_Equal_byte_byte.l0 k l0 l1 (l0.length : Int) 0) else (some false)) = some r := h
  clear h
  by_cases c3 : (l0.length : Int) = (l1.length : Int)
  · rw [if_pos c3] at H
    have c3b0 : ((l0.length : Int) == (l1.length : Int)) = true := beq_iff_eq.mpr c3
    have c3b1 : ((l0.length : Int) != (l1.length : Int)) = false := bne_eq_false_iff_eq.mpr c3
    have c3b2 : (l0.length == l1.length) = true := by first | simpa using c3 | (simp at c3 ⊢; omega)
    clear c3
    have H' := Aside0.mk H
    clear H
    go_enter Tryd.func25, Tryd.ntmps25
    go_wp2
    repeat (go_quiet (fail); try go_wp2)
    go_loopg [13] k (fun kq v13 w' => ∃ (x13_1 : Int), v13 = .int .i64 x13_1 ∧ Aside0 (slices_Equal_byte_byte.l0 kq l0 l1 (l0.length : Int) x13_1 = some r) ∧ Aside0 (kq ≤ k) ∧ Drawn0 w w')
    case atStart => exact ⟨(0), (by first | rfl | (simp; done) | (simp [*]; done) | (simp [xbne_nil, xbeq_nil]; done)), H', ⟨Nat.le_refl _⟩, by repeat (first | exact Drawn0.refl _ | apply Drawn0.step)⟩
    case round =>
      clear H'
      try clear c1
      try clear c2
      try clear p2
      try clear c3
      try clear c3b0
      try clear c3b1
      try clear c3b2
      obtain ⟨x13_1, rfl, HA, HK1, ⟨m1, rfl⟩⟩ := hrel
      cases gk with
      | zero => exact absurd HA.out (by simp [slices_Equal_byte_byte.l0])
      | succ k1 =>
        have H := HA.out
        clear HA
        simp only [slices_Equal_byte_byte.l0] at H
        by_cases c4 : x13_1 < (l0.length : Int)
        · rw [if_pos c4] at H
          have c4b0 : decide (x13_1 < (l0.length : Int)) = true := decide_eq_true c4
          clear c4
          by_cases c5 : 0 ≤ x13_1
          · rw [if_pos c5] at H
            have c5b0 : decide (0 ≤ x13_1) = true := decide_eq_true c5
            clear c5
            by_cases c6 : x13_1 < (l0.length : Int)
            · rw [if_pos c6] at H
              have c6b0 : decide (x13_1 < (l0.length : Int)) = true := decide_eq_true c6
              clear c6
              by_cases c7 : x13_1 < (l1.length : Int)
              · rw [if_pos c7] at H
                have c7b0 : decide (x13_1 < (l1.length : Int)) = true := decide_eq_true c7
                clear c7
                by_cases c8 : (rd l0 x13_1) = (rd l1 x13_1)
                · rw [if_pos c8] at H
                  have c8b0 : ((rd l0 x13_1) == (rd l1 x13_1)) = true := beq_iff_eq.mpr c8
                  have c8b1 : ((rd l0 x13_1) != (rd l1 x13_1)) = false := bne_eq_false_iff_eq.mpr c8
                  clear c8
                  have H' := Aside0.mk H
                  clear H
                  have p227 : 0 ≤ (x13_1 : Int) := of_decide_eq_true (by first | (with_reducible assumption) | assumption)
                  have q227 : x13_1 < (l0.length : Int) := of_decide_eq_true (by first | (with_reducible assumption) | assumption)
                  obtain ⟨ad227, e227, hx227_0⟩ := Kd.at_int HR0.out x13_1 p227 q227
                  cases e227
                  replace p227 := eq_true p227
                  replace q227 := eq_true q227
                  have p228 : 0 ≤ (x13_1 : Int) := of_decide_eq_true (by first | (with_reducible assumption) | assumption)
                  have q228 : x13_1 < (l1.length : Int) := of_decide_eq_true (by first | (with_reducible assumption) | assumption)
                  obtain ⟨ad228, e228, hx228_0⟩ := Kd.at_int HR1.out x13_1 p228 q228
                  cases e228
                  replace p228 := eq_true p228
                  replace q228 := eq_true q228
                  go_wp2
                  repeat (go_quiet (fail); try go_wp2)
                  go_roundg k1
                  case measure => have := HK1.out; omega
                  case rel => exact ⟨(wrap64 (x13_1 + 1)), (by first | rfl | (simp; done) | (simp [*]; done) | (simp [xbne_nil, xbeq_nil]; done)), H', ⟨by have := HK1.out; omega⟩, by repeat (first | exact Drawn0.refl _ | apply Drawn0.step)⟩
                · rw [if_neg c8] at H
                  have c8b0 : ((rd l0 x13_1) == (rd l1 x13_1)) = false := beq_eq_false_iff_ne.mpr c8
                  have c8b1 : ((rd l0 x13_1) != (rd l1 x13_1)) = true := bne_iff_ne.mpr c8
                  obtain rfl := Option.some.inj H
                  have p227 : 0 ≤ (x13_1 : Int) := of_decide_eq_true (by first | (with_reducible assumption) | assumption)
                  have q227 : x13_1 < (l0.length : Int) := of_decide_eq_true (by first | (with_reducible assumption) | assumption)
                  obtain ⟨ad227, e227, hx227_0⟩ := Kd.at_int HR0.out x13_1 p227 q227
                  cases e227
                  replace p227 := eq_true p227
                  replace q227 := eq_true q227
                  have p228 : 0 ≤ (x13_1 : Int) := of_decide_eq_true (by first | (with_reducible assumption) | assumption)
                  have q228 : x13_1 < (l1.length : Int) := of_decide_eq_true (by first | (with_reducible assumption) | assumption)
                  obtain ⟨ad228, e228, hx228_0⟩ := Kd.at_int HR1.out x13_1 p228 q228
                  cases e228
                  replace p228 := eq_true p228
                  replace q228 := eq_true q228
                  go_wp2
                  repeat (go_quiet (fail); try go_wp2)
                  go_ret
                  exact ⟨by first | rfl | (simp; done) | (simp [*]; done) | (simp [xbne_nil, xbeq_nil]; done), by repeat (first | exact Drawn0.refl _ | apply Drawn0.step)⟩
              · rw [if_neg c7] at H
                exact absurd H (by simp)
            · rw [if_neg c6] at H
              exact absurd H (by simp)
          · rw [if_neg c5] at H
            exact absurd H (by simp)
        · rw [if_neg c4] at H
          have c4b0 : decide (x13_1 < (l0.length : Int)) = false := decide_eq_false c4
          clear c4
          obtain rfl := Option.some.inj H
          go_wp2
          repeat (go_quiet (fail); try go_wp2)
          go_ret
          exact ⟨by first | rfl | (simp; done) | (simp [*]; done) | (simp [xbne_nil, xbeq_nil]; done), by repeat (first | exact Drawn0.refl _ | apply Drawn0.step)⟩
  · rw [if_neg c3] at H
    have c3b0 : ((l0.length : Int) == (l1.length : Int)) = false := beq_eq_false_iff_ne.mpr c3
    have c3b1 : ((l0.length : Int) != (l1.length : Int)) = true := bne_iff_ne.mpr c3
    have c3b2 : (l0.length == l1.length) = false := by first | simpa using c3 | (simp at c3 ⊢; omega)
    obtain rfl := Option.some.inj H
    go_enter Tryd.func25, Tryd.ntmps25
    go_wp2
    repeat (go_quiet (fail); try go_wp2)
    go_ret
    exact ⟨by first | rfl | (simp; done) | (simp [*]; done) | (simp [xbne_nil, xbeq_nil]; done), by repeat (first | exact Drawn0.refl _ | apply Drawn0.step)⟩
def grillelaw01_alive.f : Option Bool := some true
theorem grillelaw01_alive.s1 : text_Runes.f 9 [254, 255, 0, 97] = some ([97], 0) := by decide +kernel
theorem grillelaw01_alive.s2 : text_Decode.f 9 [97, 13, 10, 98, 13] = some ((⟨#[97, 10, 98, 10]⟩ : ByteArray), 0) := by rfl
theorem grillelaw01_alive.s3 : text_Decode.f 9 [128] = some ((⟨#[]⟩ : ByteArray), 6) := by rfl
theorem grillelaw01_alive.s4 : text_Encode.f [97] 1 = some ([255, 254, 97, 0], 0) := by decide +kernel
theorem grillelaw01_alive.s5 : text_Detect.f 9 [255, 254, 0, 0] = some (3, 4) := by decide +kernel
theorem grillelaw01_alive.s6 : slices_Equal_byte_byte.f 9 [255, 254, 97, 0] [255, 254, 97, 0] = some true := by decide +kernel
theorem grillelaw01_alive.s7 : text_May.f 97 = some true := by decide +kernel
theorem grillelaw01_alive.s8 : text_May.f 0 = some false := by decide +kernel
theorem grillelaw01_alive.row {w : World} {g : Nat} {k : IntKind} {t : TypeId} {fr : Nat × Nat} (xs : List Int) (h : w.heap[g]? = some (.cells (nums k xs).toArray t fr)) (hl : xs.length ≤ 4096) : Kd.C (Kd.int k) w (some ⟨g, 0, none⟩) xs.length xs := by
  refine Kd.C_of_reads (d := 0) ⟨rfl, by omega, fun _ => ⟨_, rfl, fun j hj => ?_⟩⟩
  have e : (⟨g, 0, none⟩ : Addr).add j = ⟨g, j, none⟩ := by cases j with
    | zero => rfl
    | succ j => simp [Addr.add]
  rw [e, cell_of_row w g j _ t fr h]
  simp [nums, List.getElem?_eq_getElem hj, List.getD_eq_getElem?_getD]
  done
set_option maxHeartbeats 4000000 in
set_option maxRecDepth 100000 in
theorem grillelaw01_alive.calls (r : Bool) (w : World) (hT : Tabs.Holds w) (h : grillelaw01_alive.f = some r) :
    Calls Tryd.prog 10 #[] w fun e w' => e = .returned (.bool r) ∧ Below w.heap.size w w' := by
  obtain rfl : true = r := Option.some.inj h
  clear h
  have HT := Aside0.mk hT
  clear hT
  go_enter Tryd.func10, Tryd.ntmps10
  go_wp2_with fail
  have b0 : Below w.heap.size w (w.alloc (.cells #[.int .u8 254, .int .u8 255, .int .u8 0, .int .u8 97] 5)) := below_alloc (Below.refl _ _) _
  refine (text_Runes.calls 9 _ 4 [254, 255, 0, 97] [97] 0 _ (grillelaw01_alive.row _ (blk_new w _) (by decide)) (by decide) (HT.out.below b0) grillelaw01_alive.s1).mono ?_
  rintro e w1 ⟨v1, rfl, hR1, hb1⟩
  obtain ⟨A1, c1, rfl, hc1, hC1⟩ := Kd.R_reads hR1
  have B1 := Aside0.mk (below_step b0 hb1)
  have C1 := Aside0.mk hC1
  clear b0 hb1 hR1 hC1
  go_wp2_with fail
  rw [Lib.run_convert_bytes_const w1 22 5 #[.int .u8 97, .int .u8 13, .int .u8 10, .int .u8 98, .int .u8 13] 5 5 Tryd.underlying22 Tryd.underlying5]
  go_wp2_with fail
  have b1 : Below w.heap.size w (w1.alloc (.cells #[.int .u8 97, .int .u8 13, .int .u8 10, .int .u8 98, .int .u8 13] 5 (5, 6))) := below_alloc B1.out _
  refine (text_Decode.calls 9 _ 5 [97, 13, 10, 98, 13] (⟨#[97, 10, 98, 10]⟩ : ByteArray) 0 _ (grillelaw01_alive.row _ (blk_new w1 _) (by decide)) (by decide) (HT.out.below b1) grillelaw01_alive.s2).mono ?_
  rintro e w2 ⟨rfl, hb2⟩
  have B2 := Aside0.mk (below_step b1 hb2)
  have C2 := Aside0.mk (Kd.C_below (Kd.C_alloc C1.out _) hb2)
  clear b1 hb2 C1 B1
  go_wp2_with fail
  have b2 : Below w.heap.size w (w2.alloc (.cells #[.int .u8 128] 5)) := below_alloc B2.out _
  refine (text_Decode.calls 9 _ 1 [128] (⟨#[]⟩ : ByteArray) 6 _ (grillelaw01_alive.row _ (blk_new w2 _) (by decide)) (by decide) (HT.out.below b2) grillelaw01_alive.s3).mono ?_
  rintro e w3 ⟨rfl, hb3⟩
  have B3 := Aside0.mk (below_step b2 hb3)
  have C3 := Aside0.mk (Kd.C_below (Kd.C_alloc C2.out _) hb3)
  clear b2 hb3 C2 B2
  go_wp2_with fail
  have b3 : Below w.heap.size w (w3.alloc (.cells #[.int .i32 97] 21)) := below_alloc B3.out _
  refine (text_Encode.calls _ 1 [97] 1 [255, 254, 97, 0] 0 _ (grillelaw01_alive.row _ (blk_new w3 _) (by decide)) (by decide) grillelaw01_alive.s4).mono ?_
  rintro e w4 ⟨v4, rfl, hR4, hb4⟩
  obtain ⟨A4, c4, rfl, hc4, hC4⟩ := Kd.R_reads hR4
  have B4 := Aside0.mk (below_step b3 hb4)
  have C4 := Aside0.mk (Kd.C_below (Kd.C_alloc C3.out _) hb4)
  have D4 := Aside0.mk hC4
  clear b3 hb4 C3 B3 hC4 hR4
  go_wp2_with fail
  have b4 : Below w.heap.size w (w4.alloc (.cells #[.int .u8 255, .int .u8 254, .int .u8 0, .int .u8 0] 5)) := below_alloc B4.out _
  refine (text_Detect.calls 9 _ 4 [255, 254, 0, 0] 3 4 _ (grillelaw01_alive.row _ (blk_new w4 _) (by decide)) (by decide) grillelaw01_alive.s5).mono ?_
  rintro e w5 ⟨rfl, hb5⟩
  have B5 := Aside0.mk (below_step b4 hb5)
  have C5 := Aside0.mk (Kd.C_below (Kd.C_alloc C4.out _) hb5)
  have D5 := Aside0.mk (Kd.C_below (Kd.C_alloc D4.out _) hb5)
  clear b4 hb5 C4 D4 B4
  obtain ⟨ad5, rfl, hx5⟩ := Kd.at_int C5.out 0 (by decide) (by decide)
  have e5 : w5.cell? ad5 = some (.int .i32 97) := by simpa [Addr.add, rd] using hx5
  clear hx5
  go_wp2_with fail
  have b5 : Below w.heap.size w (w5.alloc (.cells #[.int .u8 255, .int .u8 254, .int .u8 97, .int .u8 0] 5)) := below_alloc B5.out _
  refine (slices_Equal_byte_byte.calls 9 _ c4 [255, 254, 97, 0] _ 4 [255, 254, 97, 0] true _ (Kd.C_alloc D5.out _) hc4 (grillelaw01_alive.row _ (blk_new w5 _) (by decide)) (by decide) grillelaw01_alive.s6).mono ?_
  rintro e w6 ⟨rfl, ⟨n6, rfl⟩⟩
  have B6 := Aside0.mk b5
  clear b5 C5 D5 B5
  go_wp2_with fail
  refine (text_May.calls 97 true _ grillelaw01_alive.s7).mono ?_
  rintro e w7 ⟨rfl, ⟨n7, rfl⟩⟩
  go_wp2_with fail
  refine (text_May.calls 0 false _ grillelaw01_alive.s8).mono ?_
  rintro e w8 ⟨rfl, ⟨n8, rfl⟩⟩
  go_wp2
  go_ret
  exact ⟨rfl, pw_below_drewN B6.out _⟩
end Go.Proofs.YtdbkefgdeenjoaaDoor.X
end
section
namespace Go.Proofs.YtdbkefgdeenjoaaDoor.X
open Go.RowKit Go.Proofs.YtdbkefgdeenjoaaDoorW.PrintWords Go.Proofs.YtdbkefgdeenjoaaDoorW.PrintLast Go.Proofs.YtdbkefgdeenjoaaDoorW.PrintMore
attribute [local go_sem] max2_int min2_int max_two min_two max_three min_three max_four min_four
set_option linter.unusedVariables false
set_option linter.unusedSimpArgs false
def slices_Clone_int32_int32.f (l0 : List Int) : Option (List Int) := (some (([] : List Int) : List Int)).bind fun y229 => (if y229.length + l0.length < 35184372088832 then (some (y229 ++ l0)) else (none))
theorem slices_Clone_int32_int32.isnilIn {P : Program} (w : World) (d : Nat) (t e : TypeId) (a : Option Addr) (l c : Nat) (h : P.underlying t = some (.slice e)) : (Go.Op.equalIn (d + 1) t (.slice a l c) (.slice none 0 0)).run P w = .ok a.isNone w := by
  cases a <;> simp [Go.Op.equalIn, Go.run_underlying h]
theorem slices_Clone_int32_int32.isnil {P : Program} (w : World) (t e : TypeId) (a : Option Addr) (l c : Nat) (h : P.underlying t = some (.slice e)) : (Go.binOp .eql t (.slice a l c) (.slice none 0 0)).run P w = .ok (.bool a.isNone) w := by
  have e1 : (Go.Op.equal t (.slice a l c) (.slice none 0 0)).run P w = .ok a.isNone w := slices_Clone_int32_int32.isnilIn w 9999 t e a l c h
  simp only [Go.binOp]
  simp [e1]
attribute [local go_sem] slices_Clone_int32_int32.isnil
set_option maxHeartbeats 8000000 in
set_option maxRecDepth 100000 in
theorem slices_Clone_int32_int32.calls (A0 : Option Addr) (c0 : Nat) (l0 : List Int) (r : List Int) (w : World) (hr0 : Kd.C (Kd.int .i32) w A0 l0.length l0) (hc0 : l0.length ≤ c0) (h : slices_Clone_int32_int32.f l0 = some r) :
    Calls Tryd.prog 27 #[.slice A0 l0.length c0] w fun e w' => ∃ v0_ : Value, e = .returned (v0_) ∧ Kd.R (Kd.int .i32) 21 w' w.heap.size (fun _ => True) v0_ r ∧ Below w.heap.size w w' := by
  cases A0 with
  | none =>
    have hz : l0 = [] := by
      cases l0 with
      | nil => rfl
      | cons a t => obtain ⟨ad, e_, _⟩ := Kd.at_int hr0 0 (by decide) (by simp); cases e_
    subst hz
    obtain rfl : ([] : List Int) = r := by simpa [slices_Clone_int32_int32.f] using h
    go_enter Tryd.func27, Tryd.ntmps27
    go_wp2
    go_ret
    exact ⟨_, rfl, Kd.R_nil _ _ _ _ _, Below.refl _ _⟩
  | some A0 =>
    have HR0 := Aside0.mk hr0
    have HC0 := Aside0.mk hc0
    clear hr0 hc0
    have HB := Aside0.mk (Below.refl w.heap.size w)
    have H : ((some (([] : List Int) : List Int)).bind fun y229 => (if y229.length + l0.length < 35184372088832 then (some (y229 ++ l0)) else (none))) = some r := h
    clear h
    obtain ⟨y229, hy229⟩ : ∃ y_ : List Int, y_ = (([] : List Int)) := ⟨_, rfl⟩
    replace H : (if y229.length + l0.length < 35184372088832 then (some (y229 ++ l0)) else (none)) = some r := by first | (rw [hy229]; with_reducible exact H) | (have H2_ := (Option.bind_some _ _).symm.trans H; rw [hy229]; with_reducible exact H2_) | (have H2_ := (Option.bind_some _ _).symm.trans H; with_reducible exact H2_) | with_reducible exact H | (rw [hy229]; exact H) | exact H
    have Ny229 := Aside0.mk hy229
    clear hy229
    by_cases c2 : y229.length + l0.length < 35184372088832
    · rw [if_pos c2] at H
      have LMc2 := Aside0.mk c2
      clear c2
      obtain ⟨y232, hy232⟩ : ∃ y_ : List Int, y_ = (y229 ++ l0) := ⟨_, rfl⟩
      replace H : (some y232) = some r := by first | (rw [hy232]; with_reducible exact H) | (have H2_ := (Option.bind_some _ _).symm.trans H; rw [hy232]; with_reducible exact H2_) | (have H2_ := (Option.bind_some _ _).symm.trans H; with_reducible exact H2_) | with_reducible exact H | (rw [hy232]; exact H) | exact H
      have Ny232 := Aside0.mk hy232
      clear hy232
      obtain rfl := Option.some.inj H
      go_enter Tryd.func27, Tryd.ntmps27
      go_wp2_with (first | ((with_reducible refine gate_dst (N := 5) rfl ?_); refine Kd.R_lit (Kd.int .i32) _ 21 ?hg (N := 5) ?hd (xs := ([] : List Int)) (inner := []) (ok := fun _ => True) (okp := fun _ => True) ?hr ?hp (fun _ hk => hk) trivial (Below.refl _ _) (Nat.le_refl _) (by simp) ?_; (case hd => rfl); (case hg => rfl); (case hr => first | (go_simp; done) | (go_simp; rfl)); (case hp => exact (Reps.none _ _)); intro v230 w3 ho4 hb hg_ hnew_; clear hg_ hnew_; (first | rw [← Ny229.out] at ho4 | (simp only [Int.reduceToNat] at ho4; rw [← Ny229.out] at ho4)); have n0_ := Aside0.mk (Kd.R_lower ho4 (below_size (by repeat (first | (with_reducible first | exact HB.out | apply below_alloc | apply pw_below_drewN | apply below_drew1) | exact HB.out)))); have n1_ := Aside0.mk (below_step (by repeat (first | (with_reducible first | exact HB.out | apply below_alloc | apply pw_below_drewN | apply below_drew1) | exact HB.out)) hb); clear HB; have HO231 := n0_; have HB := n1_; clear n0_ n1_; clear hb ho4) | ((with_reducible refine gate_builtin (b := .append) (xs := #[.tmp 5, .tmp 6]) rfl ?_); at_builtin; refine Kd.R_append_rows (Kd.int .i32) (w0 := w) w.heap.size rfl (.tmp 5) (.tmp 6) 26 21 (.int .i32 0) 4 rfl Tryd.underlying26 info21 rfl (by decide) (by omega) v230 y229 l0 _ _ _ (fun _ => True) (fun _ => False) rfl rfl ?aO ?aR (fun _ _ h => h) (fun _ h => h.elim) ?aF ?aB ?aS ?aL ?_; (case aR => repeat (first | exact (Kd.C_below HR0.out HB.out) | (with_reducible refine Kd.C_alloc ?_ _) | (with_reducible refine Kd.C_drewN ?_ _) | (with_reducible refine Kd.C_drew ?_))); (case aB => exact (by repeat (first | (with_reducible first | exact HB.out | apply below_alloc | apply pw_below_drewN | apply below_drew1) | exact HB.out))); (case aF => exact (fun _ _ => trivial)); (case aO => exact (by (with_reducible repeat (first | apply Kd.R_alloc | apply Kd.R_drewN | apply Kd.R_drew)); exact HO231.out)); (case aS => exact (below_size (by repeat (first | (with_reducible first | exact HB.out | apply below_alloc | apply pw_below_drewN | apply below_drew1) | exact HB.out)))); (case aL => have := LMc2.out; omega); intro v233 w5 ho hb hg hat; rw [← Ny232.out] at ho; have n0_ := Aside0.mk (hb); have n1_ := Aside0.mk (ho); clear HB; clear HO231; have HB := n0_; have HO234 := n1_; clear n0_ n1_; clear ho hb hg hat))
      go_ret
      exact ⟨_, by first | rfl | (simp [errW_none, errW_some] <;> rfl) | (simp [*, errW_none, errW_some] <;> rfl), by (with_reducible repeat (first | apply Kd.R_alloc | apply Kd.R_drewN | apply Kd.R_drew)); exact HO234.out, by repeat (first | (with_reducible first | exact HB.out | apply below_alloc | apply pw_below_drewN | apply below_drew1) | exact HB.out)⟩
    · rw [if_neg c2] at H
      exact absurd H (by simp)
end Go.Proofs.YtdbkefgdeenjoaaDoor.X
end
