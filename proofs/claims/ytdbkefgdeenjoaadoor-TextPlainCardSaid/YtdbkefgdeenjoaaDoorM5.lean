/- Words and walks that the row of TextPlain needs: printed by programs, and plain laws. -/
import Derived.Test.YtdbkefgdeenjoaaDoorM1
import Derived.Test.YtdbkefgdeenjoaaDoorM2
import Derived.Test.YtdbkefgdeenjoaaDoorM4
import Derived.Test.YtdbkefgdeenjoaaDoorM3
import Derived.Lib.DecodeN
import Derived.Test.YtdbkefgdeenjoaaDoorM0
import Derived.Test.YtdbkefgdeenjoaaDoorRows
import Derived.Lib.LaidU8T
import Derived.PinnedBridge
section
namespace Go.Proofs.YtdbkefgdeenjoaaDoor.X
open Go.RowKit Go.Proofs.YtdbkefgdeenjoaaDoorW.PrintWords Go.Proofs.YtdbkefgdeenjoaaDoorW.PrintLast Go.Proofs.YtdbkefgdeenjoaaDoorW.PrintMore
attribute [local go_sem] max2_int min2_int max_two min_two max_three min_three max_four min_four
set_option linter.unusedVariables false
set_option linter.unusedSimpArgs false
def slices_Equal_byte_byte.l0 : Nat → List Int → List Int → Int → Int → Option (Bool)
  | 0, _, _, _, _ => none
  | k + 1, x0, x1, x12, x13 => if x13 < x12 then (if 0 ≤ x13 then (if x13 < (x0.length : Int) then (if x13 < (x1.length : Int) then (if (rd x0 x13) = (rd x1 x13) then (slices_Equal_byte_byte.l0 k x0 x1 x12 (wrap64 (x13 + 1))) else (some false)) else (none)) else (none)) else (none)) else (some true)
def slices_Equal_byte_byte.f (k : Nat) (l0 : List Int) (l1 : List Int) : Option (Bool) := if (l0.length : Int) = (l1.length : Int) then (slices_Equal_byte_byte.l0 k l0 l1 (l0.length : Int) 0) else (some false)
set_option maxHeartbeats 8000000 in
set_option maxRecDepth 100000 in
theorem slices_Equal_byte_byte.calls (k : Nat) (A0 : Option Addr) (c0 : Nat) (l0 : List Int) (A1 : Option Addr) (c1 : Nat) (l1 : List Int) (r : Bool) (w : World) (hr0 : Kd.C (Kd.int .u8) w A0 l0.length l0) (hc0 : l0.length ≤ c0) (hr1 : Kd.C (Kd.int .u8) w A1 l1.length l1) (hc1 : l1.length ≤ c1) (h : slices_Equal_byte_byte.f k l0 l1 = some r) :
    Calls Tryd.prog 25 #[.slice A0 l0.length c0, .slice A1 l1.length c1] w fun e w' => e = .returned (.bool r) ∧ Drawn0 w w' := by
  have HR0 := Aside0.mk hr0
  have HC0 := Aside0.mk hc0
  clear hr0 hc0
  have HR1 := Aside0.mk hr1
  have HC1 := Aside0.mk hc1
  clear hr1 hc1
  have H : (if (l0.length : Int) = (l1.length : Int) then (slices_Equal_byte_byte.l0 k l0 l1 (l0.length : Int) 0) else (some false)) = some r := h
  clear h
  by_cases c3 : (l0.length : Int) = (l1.length : Int)
  · rw [if_pos c3] at H
    have c3b0 : ((l0.length : Int) == (l1.length : Int)) = true := beq_iff_eq.mpr c3
    have c3b1 : ((l0.length : Int) != (l1.length : Int)) = false := bne_eq_false_iff_eq.mpr c3
    have c3b2 : (l0.length == l1.length) = true := by first | simpa using c3 | (simp at c3 ⊢; omega)
    clear c3
    have H' := Aside0.mk H
    clear H
    go_enter Tryd.func25, Tryd.ntmps25
    go_wp2
    repeat (go_quiet (fail); try go_wp2)
    go_loopg [13] k (fun kq v13 w' => ∃ (x13_1 : Int), v13 = .int .i64 x13_1 ∧ Aside0 (slices_Equal_byte_byte.l0 kq l0 l1 (l0.length : Int) x13_1 = some r) ∧ Aside0 (kq ≤ k) ∧ Drawn0 w w')
    case atStart => exact ⟨(0), (by first | rfl | (simp; done) | (simp [*]; done) | (simp [xbne_nil, xbeq_nil]; done)), H', ⟨Nat.le_refl _⟩, by repeat (first | exact Drawn0.refl _ | apply Drawn0.step)⟩
    case round =>
      clear H'
      try clear c1
      try clear c2
      try clear p2
      try clear c3
      try clear c3b0
      try clear c3b1
      try clear c3b2
      obtain ⟨x13_1, rfl, HA, HK1, ⟨m1, rfl⟩⟩ := hrel
      cases gk with
      | zero => exact absurd HA.out (by simp [slices_Equal_byte_byte.l0])
      | succ k1 =>
        have H := HA.out
        clear HA
        simp only [slices_Equal_byte_byte.l0] at H
        by_cases c4 : x13_1 < (l0.length : Int)
        · rw [if_pos c4] at H
          have c4b0 : decide (x13_1 < (l0.length : Int)) = true := decide_eq_true c4
          clear c4
          by_cases c5 : 0 ≤ x13_1
          · rw [if_pos c5] at H
            have c5b0 : decide (0 ≤ x13_1) = true := decide_eq_true c5
            clear c5
            by_cases c6 : x13_1 < (l0.length : Int)
            · rw [if_pos c6] at H
              have c6b0 : decide (x13_1 < (l0.length : Int)) = true := decide_eq_true c6
              clear c6
              by_cases c7 : x13_1 < (l1.length : Int)
              · rw [if_pos c7] at H
                have c7b0 : decide (x13_1 < (l1.length : Int)) = true := decide_eq_true c7
                clear c7
                by_cases c8 : (rd l0 x13_1) = (rd l1 x13_1)
                · rw [if_pos c8] at H
                  have c8b0 : ((rd l0 x13_1) == (rd l1 x13_1)) = true := beq_iff_eq.mpr c8
                  have c8b1 : ((rd l0 x13_1) != (rd l1 x13_1)) = false := bne_eq_false_iff_eq.mpr c8
                  clear c8
                  have H' := Aside0.mk H
                  clear H
                  have p227 : 0 ≤ (x13_1 : Int) := of_decide_eq_true (by first | (with_reducible assumption) | assumption)
                  have q227 : x13_1 < (l0.length : Int) := of_decide_eq_true (by first | (with_reducible assumption) | assumption)
                  obtain ⟨ad227, e227, hx227_0⟩ := Kd.at_int HR0.out x13_1 p227 q227
                  cases e227
                  replace p227 := eq_true p227
                  replace q227 := eq_true q227
                  have p228 : 0 ≤ (x13_1 : Int) := of_decide_eq_true (by first | (with_reducible assumption) | assumption)
                  have q228 : x13_1 < (l1.length : Int) := of_decide_eq_true (by first | (with_reducible assumption) | assumption)
                  obtain ⟨ad228, e228, hx228_0⟩ := Kd.at_int HR1.out x13_1 p228 q228
                  cases e228
                  replace p228 := eq_true p228
                  replace q228 := eq_true q228
                  go_wp2
                  repeat (go_quiet (fail); try go_wp2)
                  go_roundg k1
                  case measure => have := HK1.out; omega
                  case rel => exact ⟨(wrap64 (x13_1 + 1)), (by first | rfl | (simp; done) | (simp [*]; done) | (simp [xbne_nil, xbeq_nil]; done)), H', ⟨by have := HK1.out; omega⟩, by repeat (first | exact Drawn0.refl _ | apply Drawn0.step)⟩
                · rw [if_neg c8] at H
                  have c8b0 : ((rd l0 x13_1) == (rd l1 x13_1)) = false := beq_eq_false_iff_ne.mpr c8
                  have c8b1 : ((rd l0 x13_1) != (rd l1 x13_1)) = true := bne_iff_ne.mpr c8
                  obtain rfl := Option.some.inj H
                  have p227 : 0 ≤ (x13_1 : Int) := of_decide_eq_true (by first | (with_reducible assumption) | assumption)
                  have q227 : x13_1 < (l0.length : Int) := of_decide_eq_true (by first | (with_reducible assumption) | assumption)
                  obtain ⟨ad227, e227, hx227_0⟩ := Kd.at_int HR0.out x13_1 p227 q227
                  cases e227
                  replace p227 := eq_true p227
                  replace q227 := eq_true q227
                  have p228 : 0 ≤ (x13_1 : Int) := of_decide_eq_true (by first | (with_reducible assumption) | assumption)
                  have q228 : x13_1 < (l1.length : Int) := of_decide_eq_true (by first | (with_reducible assumption) | assumption)
                  obtain ⟨ad228, e228, hx228_0⟩ := Kd.at_int HR1.out x13_1 p228 q228
                  cases e228
                  replace p228 := eq_true p228
                  replace q228 := eq_true q228
                  go_wp2
                  repeat (go_quiet (fail); try go_wp2)
                  go_ret
                  exact ⟨by first | rfl | (simp; done) | (simp [*]; done) | (simp [xbne_nil, xbeq_nil]; done), by repeat (first | exact Drawn0.refl _ | apply Drawn0.step)⟩
              · rw [if_neg c7] at H
                exact absurd H (by simp)
            · rw [if_neg c6] at H
              exact absurd H (by simp)
          · rw [if_neg c5] at H
            exact absurd H (by simp)
        · rw [if_neg c4] at H
          have c4b0 : decide (x13_1 < (l0.length : Int)) = false := decide_eq_false c4
          clear c4
          obtain rfl := Option.some.inj H
          go_wp2
          repeat (go_quiet (fail); try go_wp2)
          go_ret
          exact ⟨by first | rfl | (simp; done) | (simp [*]; done) | (simp [xbne_nil, xbeq_nil]; done), by repeat (first | exact Drawn0.refl _ | apply Drawn0.step)⟩
  · rw [if_neg c3] at H
    have c3b0 : ((l0.length : Int) == (l1.length : Int)) = false := beq_eq_false_iff_ne.mpr c3
    have c3b1 : ((l0.length : Int) != (l1.length : Int)) = true := bne_iff_ne.mpr c3
    have c3b2 : (l0.length == l1.length) = false := by first | simpa using c3 | (simp at c3 ⊢; omega)
    obtain rfl := Option.some.inj H
    go_enter Tryd.func25, Tryd.ntmps25
    go_wp2
    repeat (go_quiet (fail); try go_wp2)
    go_ret
    exact ⟨by first | rfl | (simp; done) | (simp [*]; done) | (simp [xbne_nil, xbeq_nil]; done), by repeat (first | exact Drawn0.refl _ | apply Drawn0.step)⟩
def grillelaw01_alive.f : Option Bool := some true
theorem grillelaw01_alive.s1 : text_Runes.f 9 [254, 255, 0, 97] = some ([97], 0) := by decide +kernel
theorem grillelaw01_alive.s2 : text_Decode.f 9 [97, 13, 10, 98, 13] = some ((⟨#[97, 10, 98, 10]⟩ : ByteArray), 0) := by rfl
theorem grillelaw01_alive.s3 : text_Decode.f 9 [128] = some ((⟨#[]⟩ : ByteArray), 6) := by rfl
theorem grillelaw01_alive.s4 : text_Encode.f [97] 1 = some ([255, 254, 97, 0], 0) := by decide +kernel
theorem grillelaw01_alive.s5 : text_Detect.f 9 [255, 254, 0, 0] = some (3, 4) := by decide +kernel
theorem grillelaw01_alive.s6 : slices_Equal_byte_byte.f 9 [255, 254, 97, 0] [255, 254, 97, 0] = some true := by decide +kernel
theorem grillelaw01_alive.s7 : text_May.f 97 = some true := by decide +kernel
theorem grillelaw01_alive.s8 : text_May.f 0 = some false := by decide +kernel
theorem grillelaw01_alive.row {w : World} {g : Nat} {k : IntKind} {t : TypeId} {fr : Nat × Nat} (xs : List Int) (h : w.heap[g]? = some (.cells (nums k xs).toArray t fr)) (hl : xs.length ≤ 4096) : Kd.C (Kd.int k) w (some ⟨g, 0, none⟩) xs.length xs := by
  refine Kd.C_of_reads (d := 0) ⟨rfl, by omega, fun _ => ⟨_, rfl, fun j hj => ?_⟩⟩
  have e : (⟨g, 0, none⟩ : Addr).add j = ⟨g, j, none⟩ := by cases j with
    | zero => rfl
    | succ j => simp [Addr.add]
  rw [e, cell_of_row w g j _ t fr h]
  simp [nums, List.getElem?_eq_getElem hj, List.getD_eq_getElem?_getD]
  done
set_option maxHeartbeats 4000000 in
set_option maxRecDepth 100000 in
theorem grillelaw01_alive.calls (r : Bool) (w : World) (hT : Tabs.Holds w) (h : grillelaw01_alive.f = some r) :
    Calls Tryd.prog 10 #[] w fun e w' => e = .returned (.bool r) ∧ Below w.heap.size w w' := by
  obtain rfl : true = r := Option.some.inj h
  clear h
  have HT := Aside0.mk hT
  clear hT
  go_enter Tryd.func10, Tryd.ntmps10
  go_wp2_with fail
  have b0 : Below w.heap.size w (w.alloc (.cells #[.int .u8 254, .int .u8 255, .int .u8 0, .int .u8 97] 5)) := below_alloc (Below.refl _ _) _
  refine (text_Runes.calls 9 _ 4 [254, 255, 0, 97] [97] 0 _ (grillelaw01_alive.row _ (blk_new w _) (by decide)) (by decide) (HT.out.below b0) grillelaw01_alive.s1).mono ?_
  rintro e w1 ⟨v1, rfl, hR1, hb1⟩
  obtain ⟨A1, c1, rfl, hc1, hC1⟩ := Kd.R_reads hR1
  have B1 := Aside0.mk (below_step b0 hb1)
  have C1 := Aside0.mk hC1
  clear b0 hb1 hR1 hC1
  go_wp2_with fail
  rw [Lib.run_convert_bytes_const w1 22 5 #[.int .u8 97, .int .u8 13, .int .u8 10, .int .u8 98, .int .u8 13] 5 5 Tryd.underlying22 Tryd.underlying5]
  go_wp2_with fail
  have b1 : Below w.heap.size w (w1.alloc (.cells #[.int .u8 97, .int .u8 13, .int .u8 10, .int .u8 98, .int .u8 13] 5 (5, 6))) := below_alloc B1.out _
  refine (text_Decode.calls 9 _ 5 [97, 13, 10, 98, 13] (⟨#[97, 10, 98, 10]⟩ : ByteArray) 0 _ (grillelaw01_alive.row _ (blk_new w1 _) (by decide)) (by decide) (HT.out.below b1) grillelaw01_alive.s2).mono ?_
  rintro e w2 ⟨rfl, hb2⟩
  have B2 := Aside0.mk (below_step b1 hb2)
  have C2 := Aside0.mk (Kd.C_below (Kd.C_alloc C1.out _) hb2)
  clear b1 hb2 C1 B1
  go_wp2_with fail
  have b2 : Below w.heap.size w (w2.alloc (.cells #[.int .u8 128] 5)) := below_alloc B2.out _
  refine (text_Decode.calls 9 _ 1 [128] (⟨#[]⟩ : ByteArray) 6 _ (grillelaw01_alive.row _ (blk_new w2 _) (by decide)) (by decide) (HT.out.below b2) grillelaw01_alive.s3).mono ?_
  rintro e w3 ⟨rfl, hb3⟩
  have B3 := Aside0.mk (below_step b2 hb3)
  have C3 := Aside0.mk (Kd.C_below (Kd.C_alloc C2.out _) hb3)
  clear b2 hb3 C2 B2
  go_wp2_with fail
  have b3 : Below w.heap.size w (w3.alloc (.cells #[.int .i32 97] 21)) := below_alloc B3.out _
  refine (text_Encode.calls _ 1 [97] 1 [255, 254, 97, 0] 0 _ (grillelaw01_alive.row _ (blk_new w3 _) (by decide)) (by decide) grillelaw01_alive.s4).mono ?_
  rintro e w4 ⟨v4, rfl, hR4, hb4⟩
  obtain ⟨A4, c4, rfl, hc4, hC4⟩ := Kd.R_reads hR4
  have B4 := Aside0.mk (below_step b3 hb4)
  have C4 := Aside0.mk (Kd.C_below (Kd.C_alloc C3.out _) hb4)
  have D4 := Aside0.mk hC4
  clear b3 hb4 C3 B3 hC4 hR4
  go_wp2_with fail
  have b4 : Below w.heap.size w (w4.alloc (.cells #[.int .u8 255, .int .u8 254, .int .u8 0, .int .u8 0] 5)) := below_alloc B4.out _
  refine (text_Detect.calls 9 _ 4 [255, 254, 0, 0] 3 4 _ (grillelaw01_alive.row _ (blk_new w4 _) (by decide)) (by decide) grillelaw01_alive.s5).mono ?_
  rintro e w5 ⟨rfl, hb5⟩
  have B5 := Aside0.mk (below_step b4 hb5)
  have C5 := Aside0.mk (Kd.C_below (Kd.C_alloc C4.out _) hb5)
  have D5 := Aside0.mk (Kd.C_below (Kd.C_alloc D4.out _) hb5)
  clear b4 hb5 C4 D4 B4
  obtain ⟨ad5, rfl, hx5⟩ := Kd.at_int C5.out 0 (by decide) (by decide)
  have e5 : w5.cell? ad5 = some (.int .i32 97) := by simpa [Addr.add, rd] using hx5
  clear hx5
  go_wp2_with fail
  have b5 : Below w.heap.size w (w5.alloc (.cells #[.int .u8 255, .int .u8 254, .int .u8 97, .int .u8 0] 5)) := below_alloc B5.out _
  refine (slices_Equal_byte_byte.calls 9 _ c4 [255, 254, 97, 0] _ 4 [255, 254, 97, 0] true _ (Kd.C_alloc D5.out _) hc4 (grillelaw01_alive.row _ (blk_new w5 _) (by decide)) (by decide) grillelaw01_alive.s6).mono ?_
  rintro e w6 ⟨rfl, ⟨n6, rfl⟩⟩
  have B6 := Aside0.mk b5
  clear b5 C5 D5 B5
  go_wp2_with fail
  refine (text_May.calls 97 true _ grillelaw01_alive.s7).mono ?_
  rintro e w7 ⟨rfl, ⟨n7, rfl⟩⟩
  go_wp2_with fail
  refine (text_May.calls 0 false _ grillelaw01_alive.s8).mono ?_
  rintro e w8 ⟨rfl, ⟨n8, rfl⟩⟩
  go_wp2
  go_ret
  exact ⟨rfl, pw_below_drewN B6.out _⟩
end Go.Proofs.YtdbkefgdeenjoaaDoor.X
end
section
namespace Go.Proofs.YtdbkefgdeenjoaaDoor.X
open Go.RowKit Go.Proofs.YtdbkefgdeenjoaaDoorW.PrintWords Go.Proofs.YtdbkefgdeenjoaaDoorW.PrintLast Go.Proofs.YtdbkefgdeenjoaaDoorW.PrintMore
attribute [local go_sem] max2_int min2_int max_two min_two max_three min_three max_four min_four
set_option linter.unusedVariables false
set_option linter.unusedSimpArgs false
def grillelaw01_TextPlain.l0 : Nat → ByteArray → Int → Int → Option (Bool)
  | 0, _, _, _ => none
  | k + 1, x0, x14, x15 => if x15 < x14 then (if 0 ≤ x15 then (if x15 < (x0.size : Int) then (if (bt x0 x15) = 10 then (grillelaw01_TextPlain.l0 k x0 x14 (wrap64 (x15 + 1))) else (if (bt x0 x15) < 32 then (some true) else (if (bt x0 x15) > 126 then (some true) else (grillelaw01_TextPlain.l0 k x0 x14 (wrap64 (x15 + 1)))))) else (none)) else (none)) else ((text_Detect.f k (bytesOf x0)).bind fun bt230 => ((text_Decode.f k (bytesOf x0)).bind fun bt232 => (if bt230.1 = 0 then (if bt230.2 = 0 then (if bt232.1.toList = x0.toList then (some (bt232.2 == 0)) else (some false)) else (some false)) else (some false))))
def grillelaw01_TextPlain.f (k : Nat) (a0 : ByteArray) : Option (Bool) := (grillelaw01_alive.f).bind fun t229 => (if t229 = true then (if (a0.size : Int) > 2000 then (some true) else (grillelaw01_TextPlain.l0 k a0 (a0.size : Int) 0)) else (some false))
theorem grillelaw01_TextPlain.mono_l : ∀ k, (∀ y0 y1 y2, LeO (grillelaw01_TextPlain.l0 k y0 y1 y2) (grillelaw01_TextPlain.l0 (k + 1) y0 y1 y2))
  | 0 => fun _ _ _ r h => by simp [grillelaw01_TextPlain.l0] at h
  | k + 1 => by
    have ih0 := grillelaw01_TextPlain.mono_l k
    · intro y0 y1 y2
      unfold grillelaw01_TextPlain.l0
      repeat' first
      | (with_reducible exact ih0 _ _ _)
      | (with_reducible exact text_Decode.mono _ _)
      | (with_reducible exact text_Detect.mono _ _)
      | (with_reducible exact LeO.refl _)
      | (with_reducible exact LeO.none _)
      | (with_reducible refine LeO.ite ?_ ?_)
      | (with_reducible refine LeO.bind ?_ (fun _ => ?_))
      | exact ih0 _ _ _
      | exact text_Decode.mono _ _
      | exact text_Detect.mono _ _
      | exact LeO.none _
      | refine LeO.ite ?_ ?_
      | refine LeO.bind ?_ (fun _ => ?_)
theorem grillelaw01_TextPlain.mono : ∀ a0 k, LeO (grillelaw01_TextPlain.f k a0) (grillelaw01_TextPlain.f (k + 1) a0) := by
  intro a0 k
  have ih0 := grillelaw01_TextPlain.mono_l k
  unfold grillelaw01_TextPlain.f
  repeat' first
      | (with_reducible exact ih0 _ _ _)
      | (with_reducible exact text_Decode.mono _ _)
      | (with_reducible exact text_Detect.mono _ _)
      | (with_reducible exact LeO.refl _)
      | (with_reducible exact LeO.none _)
      | (with_reducible refine LeO.ite ?_ ?_)
      | (with_reducible refine LeO.bind ?_ (fun _ => ?_))
      | exact ih0 _ _ _
      | exact text_Decode.mono _ _
      | exact text_Detect.mono _ _
      | exact LeO.none _
      | refine LeO.ite ?_ ?_
      | refine LeO.bind ?_ (fun _ => ?_)
set_option maxHeartbeats 8000000 in
set_option maxRecDepth 100000 in
theorem grillelaw01_TextPlain.calls (k : Nat) (a0 : ByteArray) (r : Bool) (w : World) (hT : Tabs.Holds w) (h : grillelaw01_TextPlain.f k a0 = some r) :
    Calls Tryd.prog 8 #[.string a0] w fun e w' => e = .returned (.bool r) ∧ Below w.heap.size w w' := by
  have HT := Aside0.mk hT
  clear hT
  have HB := Aside0.mk (Below.refl w.heap.size w)
  have H : ((grillelaw01_alive.f).bind fun t229 => (if t229 = true then (if (a0.size : Int) > 2000 then (some true) else (grillelaw01_TextPlain.l0 k a0 (a0.size : Int) 0)) else (some false))) = some r := h
  clear h
  replace H := Option.bind_eq_some_iff.mp H
  obtain ⟨t229, A20, H⟩ := H
  replace H : (if t229 = true then (if (a0.size : Int) > 2000 then (some true) else (grillelaw01_TextPlain.l0 k a0 (a0.size : Int) 0)) else (some false)) = some r := H
  have A2 := Aside0.mk A20
  clear A20
  by_cases c3 : t229 = true
  · subst c3
    have H1 : (if (a0.size : Int) > 2000 then (some true) else (grillelaw01_TextPlain.l0 k a0 (a0.size : Int) 0)) = some r := by rw [if_pos rfl] at H; exact H
    clear H
    have H := H1
    clear H1
    by_cases c4 : (a0.size : Int) > 2000
    · rw [if_pos c4] at H
      have c4b0 : decide (2000 < (a0.size : Int)) = true := decide_eq_true c4
      have c4b1 : decide (2000 < a0.size) = true := decide_eq_true (by omega)
      clear c4
      obtain rfl := Option.some.inj H
      go_enter Tryd.func8, Tryd.ntmps8
      go_wp2_with (first | ((with_reducible refine gate_callee (f := 10) rfl ?_); refine goesL_ (some 8) rfl rfl Tryd.func10 (by kernel_rfl) rfl #[] rfl (by (try simp only [List.map_toArray, List.map_cons, List.map_nil]); first | done | rfl | (simp only [List.length_drop, List.length_take]; rfl)) ?_; (with_reducible refine (grillelaw01_alive.calls  true _ ?side1 A2.out).mono ?_); (case side1 => exact Tabs.Holds.below HT.out (by repeat (first | (with_reducible first | exact HB.out | apply below_alloc | apply pw_below_drewN | apply below_drew1) | exact HB.out))); rintro e w5 ⟨rfl, hb⟩; refine ⟨_, rfl, ?_⟩; have n0_ := Aside0.mk (below_step (by repeat (first | (with_reducible first | exact HB.out | apply below_alloc | apply pw_below_drewN | apply below_drew1) | exact HB.out)) hb); clear HB; have HB := n0_; clear n0_; (try clear hb); (try clear hb2); (try clear hk); (try clear hi)))
      go_ret
      exact ⟨by first | rfl | (simp [errW_none, errW_some] <;> rfl) | (simp [*, errW_none, errW_some] <;> rfl), by repeat (first | (with_reducible first | exact HB.out | apply below_alloc | apply pw_below_drewN | apply below_drew1) | exact HB.out)⟩
    · rw [if_neg c4] at H
      have HL := Aside0.mk (show a0.size ≤ maxLen by unfold maxLen; omega)
      have c4b0 : decide (2000 < (a0.size : Int)) = false := decide_eq_false c4
      have c4b1 : decide (2000 < a0.size) = false := decide_eq_false (by omega)
      clear c4
      have H' := Aside0.mk H
      clear H
      go_enter Tryd.func8, Tryd.ntmps8
      go_wp2_with (first | ((with_reducible refine gate_callee (f := 10) rfl ?_); refine goesL_ (some 8) rfl rfl Tryd.func10 (by kernel_rfl) rfl #[] rfl (by (try simp only [List.map_toArray, List.map_cons, List.map_nil]); first | done | rfl | (simp only [List.length_drop, List.length_take]; rfl)) ?_; (with_reducible refine (grillelaw01_alive.calls  true _ ?side1 A2.out).mono ?_); (case side1 => exact Tabs.Holds.below HT.out (by repeat (first | (with_reducible first | exact HB.out | apply below_alloc | apply pw_below_drewN | apply below_drew1) | exact HB.out))); rintro e w6 ⟨rfl, hb⟩; refine ⟨_, rfl, ?_⟩; have n0_ := Aside0.mk (below_step (by repeat (first | (with_reducible first | exact HB.out | apply below_alloc | apply pw_below_drewN | apply below_drew1) | exact HB.out)) hb); clear HB; have HB := n0_; clear n0_; (try clear hb); (try clear hb2); (try clear hk); (try clear hi)))
      go_loopg [15] k (fun kq v15 w' => ∃ (x15_1 : Int), v15 = .int .i64 x15_1 ∧ Aside0 (grillelaw01_TextPlain.l0 kq a0 (a0.size : Int) x15_1 = some r) ∧ Aside0 (kq ≤ k) ∧ Aside0 (Below w.heap.size w w'))
      case atStart => exact ⟨(0), (by first | rfl | (simp; done) | (simp [*]; done) | (simp [xbne_nil, xbeq_nil]; done)), H', ⟨Nat.le_refl _⟩, ⟨by repeat (first | (with_reducible first | exact HB.out | apply below_alloc | apply pw_below_drewN | apply below_drew1) | exact HB.out)⟩⟩
      case round =>
        clear H'
        try clear c1
        try clear p2
        try clear c3
        try clear c4
        try clear c4b0
        try clear c4b1
        obtain ⟨x15_1, rfl, HA, HK1, HB⟩ := hrel
        cases gk with
        | zero => exact absurd HA.out (by simp [grillelaw01_TextPlain.l0])
        | succ k1 =>
          have H := HA.out
          clear HA
          simp only [grillelaw01_TextPlain.l0] at H
          by_cases c7 : x15_1 < (a0.size : Int)
          · rw [if_pos c7] at H
            have c7b0 : decide (x15_1 < (a0.size : Int)) = true := decide_eq_true c7
            clear c7
            by_cases c8 : 0 ≤ x15_1
            · rw [if_pos c8] at H
              have c8b0 : decide (0 ≤ x15_1) = true := decide_eq_true c8
              clear c8
              by_cases c9 : x15_1 < (a0.size : Int)
              · rw [if_pos c9] at H
                have c9b0 : decide (x15_1 < (a0.size : Int)) = true := decide_eq_true c9
                clear c9
                by_cases c11 : (bt a0 x15_1) = 10
                · rw [if_pos c11] at H
                  have c11b0 : ((bt a0 x15_1) == 10) = true := beq_iff_eq.mpr c11
                  have c11b1 : ((bt a0 x15_1) != 10) = false := bne_eq_false_iff_eq.mpr c11
                  clear c11
                  have H' := Aside0.mk H
                  clear H
                  have p10 : 0 ≤ (x15_1 : Int) := of_decide_eq_true (by first | (with_reducible assumption) | assumption)
                  have q10 : x15_1 < (a0.size : Int) := of_decide_eq_true (by first | (with_reducible assumption) | assumption)
                  have hx10 := bt_at a0 x15_1
                  replace p10 := eq_true p10
                  replace q10 := eq_true q10
                  go_wp2
                  go_roundg k1
                  case measure => have := HK1.out; omega
                  case rel => exact ⟨(wrap64 (x15_1 + 1)), (by first | rfl | (simp; done) | (simp [*]; done) | (simp [xbne_nil, xbeq_nil]; done)), H', ⟨by have := HK1.out; omega⟩, ⟨by repeat (first | (with_reducible first | exact HB.out | apply below_alloc | apply pw_below_drewN | apply below_drew1) | exact HB.out)⟩⟩
                · rw [if_neg c11] at H
                  have c11b0 : ((bt a0 x15_1) == 10) = false := beq_eq_false_iff_ne.mpr c11
                  have c11b1 : ((bt a0 x15_1) != 10) = true := bne_iff_ne.mpr c11
                  by_cases c13 : (bt a0 x15_1) < 32
                  · rw [if_pos c13] at H
                    have c13b0 : decide ((bt a0 x15_1) < 32) = true := decide_eq_true c13
                    clear c13
                    obtain rfl := Option.some.inj H
                    have p10 : 0 ≤ (x15_1 : Int) := of_decide_eq_true (by first | (with_reducible assumption) | assumption)
                    have q10 : x15_1 < (a0.size : Int) := of_decide_eq_true (by first | (with_reducible assumption) | assumption)
                    have hx10 := bt_at a0 x15_1
                    replace p10 := eq_true p10
                    replace q10 := eq_true q10
                    have p12 : 0 ≤ (x15_1 : Int) := of_decide_eq_true (by first | (with_reducible assumption) | assumption)
                    have q12 : x15_1 < (a0.size : Int) := of_decide_eq_true (by first | (with_reducible assumption) | assumption)
                    have hx12 := bt_at a0 x15_1
                    replace p12 := eq_true p12
                    replace q12 := eq_true q12
                    go_wp2
                    go_ret
                    exact ⟨by first | rfl | (simp [errW_none, errW_some] <;> rfl) | (simp [*, errW_none, errW_some] <;> rfl), by repeat (first | (with_reducible first | exact HB.out | apply below_alloc | apply pw_below_drewN | apply below_drew1) | exact HB.out)⟩
                  · rw [if_neg c13] at H
                    have c13b0 : decide ((bt a0 x15_1) < 32) = false := decide_eq_false c13
                    clear c13
                    by_cases c15 : (bt a0 x15_1) > 126
                    · rw [if_pos c15] at H
                      have c15b0 : decide (126 < (bt a0 x15_1)) = true := decide_eq_true c15
                      clear c15
                      obtain rfl := Option.some.inj H
                      have p10 : 0 ≤ (x15_1 : Int) := of_decide_eq_true (by first | (with_reducible assumption) | assumption)
                      have q10 : x15_1 < (a0.size : Int) := of_decide_eq_true (by first | (with_reducible assumption) | assumption)
                      have hx10 := bt_at a0 x15_1
                      replace p10 := eq_true p10
                      replace q10 := eq_true q10
                      have p12 : 0 ≤ (x15_1 : Int) := of_decide_eq_true (by first | (with_reducible assumption) | assumption)
                      have q12 : x15_1 < (a0.size : Int) := of_decide_eq_true (by first | (with_reducible assumption) | assumption)
                      have hx12 := bt_at a0 x15_1
                      replace p12 := eq_true p12
                      replace q12 := eq_true q12
                      have p14 : 0 ≤ (x15_1 : Int) := of_decide_eq_true (by first | (with_reducible assumption) | assumption)
                      have q14 : x15_1 < (a0.size : Int) := of_decide_eq_true (by first | (with_reducible assumption) | assumption)
                      have hx14 := bt_at a0 x15_1
                      replace p14 := eq_true p14
                      replace q14 := eq_true q14
                      go_wp2
                      go_ret
                      exact ⟨by first | rfl | (simp [errW_none, errW_some] <;> rfl) | (simp [*, errW_none, errW_some] <;> rfl), by repeat (first | (with_reducible first | exact HB.out | apply below_alloc | apply pw_below_drewN | apply below_drew1) | exact HB.out)⟩
                    · rw [if_neg c15] at H
                      have c15b0 : decide (126 < (bt a0 x15_1)) = false := decide_eq_false c15
                      clear c15
                      have H' := Aside0.mk H
                      clear H
                      have p10 : 0 ≤ (x15_1 : Int) := of_decide_eq_true (by first | (with_reducible assumption) | assumption)
                      have q10 : x15_1 < (a0.size : Int) := of_decide_eq_true (by first | (with_reducible assumption) | assumption)
                      have hx10 := bt_at a0 x15_1
                      replace p10 := eq_true p10
                      replace q10 := eq_true q10
                      have p12 : 0 ≤ (x15_1 : Int) := of_decide_eq_true (by first | (with_reducible assumption) | assumption)
                      have q12 : x15_1 < (a0.size : Int) := of_decide_eq_true (by first | (with_reducible assumption) | assumption)
                      have hx12 := bt_at a0 x15_1
                      replace p12 := eq_true p12
                      replace q12 := eq_true q12
                      have p14 : 0 ≤ (x15_1 : Int) := of_decide_eq_true (by first | (with_reducible assumption) | assumption)
                      have q14 : x15_1 < (a0.size : Int) := of_decide_eq_true (by first | (with_reducible assumption) | assumption)
                      have hx14 := bt_at a0 x15_1
                      replace p14 := eq_true p14
                      replace q14 := eq_true q14
                      go_wp2
                      go_roundg k1
                      case measure => have := HK1.out; omega
                      case rel => exact ⟨(wrap64 (x15_1 + 1)), (by first | rfl | (simp; done) | (simp [*]; done) | (simp [xbne_nil, xbeq_nil]; done)), H', ⟨by have := HK1.out; omega⟩, ⟨by repeat (first | (with_reducible first | exact HB.out | apply below_alloc | apply pw_below_drewN | apply below_drew1) | exact HB.out)⟩⟩
              · rw [if_neg c9] at H
                exact absurd H (by simp)
            · rw [if_neg c8] at H
              exact absurd H (by simp)
          · rw [if_neg c7] at H
            have c7b0 : decide (x15_1 < (a0.size : Int)) = false := decide_eq_false c7
            clear c7
            replace H := Option.bind_eq_some_iff.mp H
            obtain ⟨⟨t230, t231⟩, A160, H⟩ := H
            replace H : ((text_Decode.f k1 (bytesOf a0)).bind fun bt232 => (if t230 = 0 then (if t231 = 0 then (if bt232.1.toList = a0.toList then (some (bt232.2 == 0)) else (some false)) else (some false)) else (some false))) = some r := H
            have A16 := Aside0.mk A160
            clear A160
            replace H := Option.bind_eq_some_iff.mp H
            obtain ⟨⟨t232, t233⟩, A170, H⟩ := H
            replace H : (if t230 = 0 then (if t231 = 0 then (if t232.toList = a0.toList then (some (t233 == 0)) else (some false)) else (some false)) else (some false)) = some r := H
            have A17 := Aside0.mk A170
            clear A170
            by_cases c18 : t230 = 0
            · rw [if_pos c18] at H
              have c18b0 : (t230 == 0) = true := beq_iff_eq.mpr c18
              have c18b1 : (t230 != 0) = false := bne_eq_false_iff_eq.mpr c18
              clear c18
              by_cases c19 : t231 = 0
              · rw [if_pos c19] at H
                have c19b0 : (t231 == 0) = true := beq_iff_eq.mpr c19
                have c19b1 : (t231 != 0) = false := bne_eq_false_iff_eq.mpr c19
                clear c19
                by_cases c20 : t232.toList = a0.toList
                · rw [if_pos c20] at H
                  have c20b0 : (t232.toList == a0.toList) = true := beq_iff_eq.mpr c20
                  have c20b1 : (t232.toList != a0.toList) = false := bne_eq_false_iff_eq.mpr c20
                  clear c20
                  obtain rfl := Option.some.inj H
                  go_wp2_with (first | ((with_reducible refine gate_dst (N := 37) rfl ?_); refine conv8_ (some 37) rfl rfl 9 22 5 (.tmp 36) a0 rfl rfl Tryd.underlying9 Tryd.underlying22 Tryd.underlying5 HL.out ?_; intro c37 w37 hl37 hC37 hb; have HC37 := Aside0.mk hC37; have HL37 := Aside0.mk hl37; clear hl37 hC37; have n0_ := Aside0.mk (below_step (by repeat (first | (with_reducible first | exact HB.out | apply below_alloc | apply pw_below_drewN | apply below_drew1) | exact HB.out)) hb); clear HB; have HB := n0_; clear n0_ hb) | ((with_reducible refine gate_dst (N := 43) rfl ?_); refine conv8_ (some 43) rfl rfl 9 22 5 (.tmp 42) a0 rfl rfl Tryd.underlying9 Tryd.underlying22 Tryd.underlying5 HL.out ?_; intro c43 w43 hl43 hC43 hb; have HC43 := Aside0.mk hC43; have HL43 := Aside0.mk hl43; clear hl43 hC43; have n0_ := Aside0.mk (below_step (by repeat (first | (with_reducible first | exact HB.out | apply below_alloc | apply pw_below_drewN | apply below_drew1) | exact HB.out)) hb); clear HB; have HB := n0_; clear n0_ hb) | ((with_reducible refine gate_callee (f := 11) rfl ?_); refine goesL_ (some 38) rfl rfl Tryd.func11 (by kernel_rfl) rfl #[.slice (some ⟨_, 0, none⟩) (bytesOf a0).length c37] rfl (by (try simp only [List.map_toArray, List.map_cons, List.map_nil]); first | done | rfl | (simp only [List.length_drop, List.length_take]; rfl)) ?_; (refine (text_Detect.calls k1 _ _ (bytesOf a0) t230 t231 _ ?side1 ?side2 A16.out).mono ?_); (case side1 => exact HC37.out); (case side2 => exact HL37.out); rintro e w21 ⟨rfl, hb⟩; refine ⟨_, rfl, ?_⟩; have n0_ := Aside0.mk (below_step (by repeat (first | (with_reducible first | exact HB.out | apply below_alloc | apply pw_below_drewN | apply below_drew1) | exact HB.out)) hb); clear HB; have HB := n0_; clear n0_; (try clear hb); (try clear hb2); (try clear hk); (try clear hi)) | ((with_reducible refine gate_callee (f := 15) rfl ?_); refine goesL_ (some 44) rfl rfl Tryd.func15 (by kernel_rfl) rfl #[.slice (some ⟨_, 0, none⟩) (bytesOf a0).length c43] rfl (by (try simp only [List.map_toArray, List.map_cons, List.map_nil]); first | done | rfl | (simp only [List.length_drop, List.length_take]; rfl)) ?_; (refine (text_Decode.calls k1 _ _ (bytesOf a0) t232 t233 _ ?side1 ?side2 ?side3 A17.out).mono ?_); (case side1 => exact HC43.out); (case side2 => exact HL43.out); (case side3 => exact Tabs.Holds.below HT.out (by repeat (first | (with_reducible first | exact HB.out | apply below_alloc | apply pw_below_drewN | apply below_drew1) | exact HB.out))); rintro e w22 ⟨rfl, hb⟩; refine ⟨_, rfl, ?_⟩; have n0_ := Aside0.mk (below_step (by repeat (first | (with_reducible first | exact HB.out | apply below_alloc | apply pw_below_drewN | apply below_drew1) | exact HB.out)) hb); clear HB; have HB := n0_; clear n0_; (try clear hb); (try clear hb2); (try clear hk); (try clear hi)))
                  go_ret
                  exact ⟨by first | rfl | (simp [errW_none, errW_some] <;> rfl) | (simp [*, errW_none, errW_some] <;> rfl), by repeat (first | (with_reducible first | exact HB.out | apply below_alloc | apply pw_below_drewN | apply below_drew1) | exact HB.out)⟩
                · rw [if_neg c20] at H
                  have c20b0 : (t232.toList == a0.toList) = false := beq_eq_false_iff_ne.mpr c20
                  have c20b1 : (t232.toList != a0.toList) = true := bne_iff_ne.mpr c20
                  obtain rfl := Option.some.inj H
                  go_wp2_with (first | ((with_reducible refine gate_dst (N := 37) rfl ?_); refine conv8_ (some 37) rfl rfl 9 22 5 (.tmp 36) a0 rfl rfl Tryd.underlying9 Tryd.underlying22 Tryd.underlying5 HL.out ?_; intro c37 w37 hl37 hC37 hb; have HC37 := Aside0.mk hC37; have HL37 := Aside0.mk hl37; clear hl37 hC37; have n0_ := Aside0.mk (below_step (by repeat (first | (with_reducible first | exact HB.out | apply below_alloc | apply pw_below_drewN | apply below_drew1) | exact HB.out)) hb); clear HB; have HB := n0_; clear n0_ hb) | ((with_reducible refine gate_dst (N := 43) rfl ?_); refine conv8_ (some 43) rfl rfl 9 22 5 (.tmp 42) a0 rfl rfl Tryd.underlying9 Tryd.underlying22 Tryd.underlying5 HL.out ?_; intro c43 w43 hl43 hC43 hb; have HC43 := Aside0.mk hC43; have HL43 := Aside0.mk hl43; clear hl43 hC43; have n0_ := Aside0.mk (below_step (by repeat (first | (with_reducible first | exact HB.out | apply below_alloc | apply pw_below_drewN | apply below_drew1) | exact HB.out)) hb); clear HB; have HB := n0_; clear n0_ hb) | ((with_reducible refine gate_callee (f := 11) rfl ?_); refine goesL_ (some 38) rfl rfl Tryd.func11 (by kernel_rfl) rfl #[.slice (some ⟨_, 0, none⟩) (bytesOf a0).length c37] rfl (by (try simp only [List.map_toArray, List.map_cons, List.map_nil]); first | done | rfl | (simp only [List.length_drop, List.length_take]; rfl)) ?_; (refine (text_Detect.calls k1 _ _ (bytesOf a0) t230 t231 _ ?side1 ?side2 A16.out).mono ?_); (case side1 => exact HC37.out); (case side2 => exact HL37.out); rintro e w23 ⟨rfl, hb⟩; refine ⟨_, rfl, ?_⟩; have n0_ := Aside0.mk (below_step (by repeat (first | (with_reducible first | exact HB.out | apply below_alloc | apply pw_below_drewN | apply below_drew1) | exact HB.out)) hb); clear HB; have HB := n0_; clear n0_; (try clear hb); (try clear hb2); (try clear hk); (try clear hi)) | ((with_reducible refine gate_callee (f := 15) rfl ?_); refine goesL_ (some 44) rfl rfl Tryd.func15 (by kernel_rfl) rfl #[.slice (some ⟨_, 0, none⟩) (bytesOf a0).length c43] rfl (by (try simp only [List.map_toArray, List.map_cons, List.map_nil]); first | done | rfl | (simp only [List.length_drop, List.length_take]; rfl)) ?_; (refine (text_Decode.calls k1 _ _ (bytesOf a0) t232 t233 _ ?side1 ?side2 ?side3 A17.out).mono ?_); (case side1 => exact HC43.out); (case side2 => exact HL43.out); (case side3 => exact Tabs.Holds.below HT.out (by repeat (first | (with_reducible first | exact HB.out | apply below_alloc | apply pw_below_drewN | apply below_drew1) | exact HB.out))); rintro e w24 ⟨rfl, hb⟩; refine ⟨_, rfl, ?_⟩; have n0_ := Aside0.mk (below_step (by repeat (first | (with_reducible first | exact HB.out | apply below_alloc | apply pw_below_drewN | apply below_drew1) | exact HB.out)) hb); clear HB; have HB := n0_; clear n0_; (try clear hb); (try clear hb2); (try clear hk); (try clear hi)))
                  go_ret
                  exact ⟨by first | rfl | (simp [errW_none, errW_some] <;> rfl) | (simp [*, errW_none, errW_some] <;> rfl), by repeat (first | (with_reducible first | exact HB.out | apply below_alloc | apply pw_below_drewN | apply below_drew1) | exact HB.out)⟩
              · rw [if_neg c19] at H
                have c19b0 : (t231 == 0) = false := beq_eq_false_iff_ne.mpr c19
                have c19b1 : (t231 != 0) = true := bne_iff_ne.mpr c19
                obtain rfl := Option.some.inj H
                go_wp2_with (first | ((with_reducible refine gate_dst (N := 37) rfl ?_); refine conv8_ (some 37) rfl rfl 9 22 5 (.tmp 36) a0 rfl rfl Tryd.underlying9 Tryd.underlying22 Tryd.underlying5 HL.out ?_; intro c37 w37 hl37 hC37 hb; have HC37 := Aside0.mk hC37; have HL37 := Aside0.mk hl37; clear hl37 hC37; have n0_ := Aside0.mk (below_step (by repeat (first | (with_reducible first | exact HB.out | apply below_alloc | apply pw_below_drewN | apply below_drew1) | exact HB.out)) hb); clear HB; have HB := n0_; clear n0_ hb) | ((with_reducible refine gate_dst (N := 43) rfl ?_); refine conv8_ (some 43) rfl rfl 9 22 5 (.tmp 42) a0 rfl rfl Tryd.underlying9 Tryd.underlying22 Tryd.underlying5 HL.out ?_; intro c43 w43 hl43 hC43 hb; have HC43 := Aside0.mk hC43; have HL43 := Aside0.mk hl43; clear hl43 hC43; have n0_ := Aside0.mk (below_step (by repeat (first | (with_reducible first | exact HB.out | apply below_alloc | apply pw_below_drewN | apply below_drew1) | exact HB.out)) hb); clear HB; have HB := n0_; clear n0_ hb) | ((with_reducible refine gate_callee (f := 11) rfl ?_); refine goesL_ (some 38) rfl rfl Tryd.func11 (by kernel_rfl) rfl #[.slice (some ⟨_, 0, none⟩) (bytesOf a0).length c37] rfl (by (try simp only [List.map_toArray, List.map_cons, List.map_nil]); first | done | rfl | (simp only [List.length_drop, List.length_take]; rfl)) ?_; (refine (text_Detect.calls k1 _ _ (bytesOf a0) t230 t231 _ ?side1 ?side2 A16.out).mono ?_); (case side1 => exact HC37.out); (case side2 => exact HL37.out); rintro e w25 ⟨rfl, hb⟩; refine ⟨_, rfl, ?_⟩; have n0_ := Aside0.mk (below_step (by repeat (first | (with_reducible first | exact HB.out | apply below_alloc | apply pw_below_drewN | apply below_drew1) | exact HB.out)) hb); clear HB; have HB := n0_; clear n0_; (try clear hb); (try clear hb2); (try clear hk); (try clear hi)) | ((with_reducible refine gate_callee (f := 15) rfl ?_); refine goesL_ (some 44) rfl rfl Tryd.func15 (by kernel_rfl) rfl #[.slice (some ⟨_, 0, none⟩) (bytesOf a0).length c43] rfl (by (try simp only [List.map_toArray, List.map_cons, List.map_nil]); first | done | rfl | (simp only [List.length_drop, List.length_take]; rfl)) ?_; (refine (text_Decode.calls k1 _ _ (bytesOf a0) t232 t233 _ ?side1 ?side2 ?side3 A17.out).mono ?_); (case side1 => exact HC43.out); (case side2 => exact HL43.out); (case side3 => exact Tabs.Holds.below HT.out (by repeat (first | (with_reducible first | exact HB.out | apply below_alloc | apply pw_below_drewN | apply below_drew1) | exact HB.out))); rintro e w26 ⟨rfl, hb⟩; refine ⟨_, rfl, ?_⟩; have n0_ := Aside0.mk (below_step (by repeat (first | (with_reducible first | exact HB.out | apply below_alloc | apply pw_below_drewN | apply below_drew1) | exact HB.out)) hb); clear HB; have HB := n0_; clear n0_; (try clear hb); (try clear hb2); (try clear hk); (try clear hi)))
                go_ret
                exact ⟨by first | rfl | (simp [errW_none, errW_some] <;> rfl) | (simp [*, errW_none, errW_some] <;> rfl), by repeat (first | (with_reducible first | exact HB.out | apply below_alloc | apply pw_below_drewN | apply below_drew1) | exact HB.out)⟩
            · rw [if_neg c18] at H
              have c18b0 : (t230 == 0) = false := beq_eq_false_iff_ne.mpr c18
              have c18b1 : (t230 != 0) = true := bne_iff_ne.mpr c18
              obtain rfl := Option.some.inj H
              go_wp2_with (first | ((with_reducible refine gate_dst (N := 37) rfl ?_); refine conv8_ (some 37) rfl rfl 9 22 5 (.tmp 36) a0 rfl rfl Tryd.underlying9 Tryd.underlying22 Tryd.underlying5 HL.out ?_; intro c37 w37 hl37 hC37 hb; have HC37 := Aside0.mk hC37; have HL37 := Aside0.mk hl37; clear hl37 hC37; have n0_ := Aside0.mk (below_step (by repeat (first | (with_reducible first | exact HB.out | apply below_alloc | apply pw_below_drewN | apply below_drew1) | exact HB.out)) hb); clear HB; have HB := n0_; clear n0_ hb) | ((with_reducible refine gate_dst (N := 43) rfl ?_); refine conv8_ (some 43) rfl rfl 9 22 5 (.tmp 42) a0 rfl rfl Tryd.underlying9 Tryd.underlying22 Tryd.underlying5 HL.out ?_; intro c43 w43 hl43 hC43 hb; have HC43 := Aside0.mk hC43; have HL43 := Aside0.mk hl43; clear hl43 hC43; have n0_ := Aside0.mk (below_step (by repeat (first | (with_reducible first | exact HB.out | apply below_alloc | apply pw_below_drewN | apply below_drew1) | exact HB.out)) hb); clear HB; have HB := n0_; clear n0_ hb) | ((with_reducible refine gate_callee (f := 11) rfl ?_); refine goesL_ (some 38) rfl rfl Tryd.func11 (by kernel_rfl) rfl #[.slice (some ⟨_, 0, none⟩) (bytesOf a0).length c37] rfl (by (try simp only [List.map_toArray, List.map_cons, List.map_nil]); first | done | rfl | (simp only [List.length_drop, List.length_take]; rfl)) ?_; (refine (text_Detect.calls k1 _ _ (bytesOf a0) t230 t231 _ ?side1 ?side2 A16.out).mono ?_); (case side1 => exact HC37.out); (case side2 => exact HL37.out); rintro e w27 ⟨rfl, hb⟩; refine ⟨_, rfl, ?_⟩; have n0_ := Aside0.mk (below_step (by repeat (first | (with_reducible first | exact HB.out | apply below_alloc | apply pw_below_drewN | apply below_drew1) | exact HB.out)) hb); clear HB; have HB := n0_; clear n0_; (try clear hb); (try clear hb2); (try clear hk); (try clear hi)) | ((with_reducible refine gate_callee (f := 15) rfl ?_); refine goesL_ (some 44) rfl rfl Tryd.func15 (by kernel_rfl) rfl #[.slice (some ⟨_, 0, none⟩) (bytesOf a0).length c43] rfl (by (try simp only [List.map_toArray, List.map_cons, List.map_nil]); first | done | rfl | (simp only [List.length_drop, List.length_take]; rfl)) ?_; (refine (text_Decode.calls k1 _ _ (bytesOf a0) t232 t233 _ ?side1 ?side2 ?side3 A17.out).mono ?_); (case side1 => exact HC43.out); (case side2 => exact HL43.out); (case side3 => exact Tabs.Holds.below HT.out (by repeat (first | (with_reducible first | exact HB.out | apply below_alloc | apply pw_below_drewN | apply below_drew1) | exact HB.out))); rintro e w28 ⟨rfl, hb⟩; refine ⟨_, rfl, ?_⟩; have n0_ := Aside0.mk (below_step (by repeat (first | (with_reducible first | exact HB.out | apply below_alloc | apply pw_below_drewN | apply below_drew1) | exact HB.out)) hb); clear HB; have HB := n0_; clear n0_; (try clear hb); (try clear hb2); (try clear hk); (try clear hi)))
              go_ret
              exact ⟨by first | rfl | (simp [errW_none, errW_some] <;> rfl) | (simp [*, errW_none, errW_some] <;> rfl), by repeat (first | (with_reducible first | exact HB.out | apply below_alloc | apply pw_below_drewN | apply below_drew1) | exact HB.out)⟩
  · replace c3 := Bool.eq_false_iff.mpr c3
    subst c3
    have H1 : (some false) = some r := by rw [if_neg (show ¬ (false = true) by decide)] at H; exact H
    clear H
    have H := H1
    clear H1
    obtain rfl := Option.some.inj H
    go_enter Tryd.func8, Tryd.ntmps8
    go_wp2_with (first | ((with_reducible refine gate_callee (f := 10) rfl ?_); refine goesL_ (some 8) rfl rfl Tryd.func10 (by kernel_rfl) rfl #[] rfl (by (try simp only [List.map_toArray, List.map_cons, List.map_nil]); first | done | rfl | (simp only [List.length_drop, List.length_take]; rfl)) ?_; (with_reducible refine (grillelaw01_alive.calls  false _ ?side1 A2.out).mono ?_); (case side1 => exact Tabs.Holds.below HT.out (by repeat (first | (with_reducible first | exact HB.out | apply below_alloc | apply pw_below_drewN | apply below_drew1) | exact HB.out))); rintro e w29 ⟨rfl, hb⟩; refine ⟨_, rfl, ?_⟩; have n0_ := Aside0.mk (below_step (by repeat (first | (with_reducible first | exact HB.out | apply below_alloc | apply pw_below_drewN | apply below_drew1) | exact HB.out)) hb); clear HB; have HB := n0_; clear n0_; (try clear hb); (try clear hb2); (try clear hk); (try clear hi)))
    go_ret
    exact ⟨by first | rfl | (simp [errW_none, errW_some] <;> rfl) | (simp [*, errW_none, errW_some] <;> rfl), by repeat (first | (with_reducible first | exact HB.out | apply below_alloc | apply pw_below_drewN | apply below_drew1) | exact HB.out)⟩
def grillelaw01_TextPlain.Pure : Prop := ∀ (a0 : ByteArray), a0.size ≤ 140737488351232 → ∃ k, grillelaw01_TextPlain.f k a0 = some true
theorem grillelaw01_TextPlain.walk (P : grillelaw01_TextPlain.Pure) (a0 : ByteArray) (w : World) (w0 : a0.size ≤ 140737488351232) (hT : Tabs.Holds w) :
    Calls Tryd.prog 8 #[.string a0] w fun e w' => e = .returned (.bool true) ∧ Below w.heap.size w w' := by
  obtain ⟨k, h⟩ := P a0 w0
  refine (grillelaw01_TextPlain.calls k a0 true w hT h).mono ?_
  rintro e w' ⟨rfl, hd⟩
  exact ⟨rfl, hd⟩
end Go.Proofs.YtdbkefgdeenjoaaDoor.X
end
section
namespace Go.Proofs.YtdbkefgdeenjoaaDoor.Plain
set_option linter.unusedVariables false
set_option linter.unusedSimpArgs false
variable {α β : Type}
def Ev (g : Nat → Option α) (v : α) : Prop := ∃ K, ∀ k, K ≤ k → g k = some v
theorem Ev.ex {g : Nat → Option α} {v : α} (h : Ev g v) : ∃ k, g k = some v := let ⟨K, hk⟩ := h; ⟨K, hk K (Nat.le_refl _)⟩
theorem Ev.all {g : Nat → Option α} {v : α} (h : ∀ k, g k = some v) : Ev g v := ⟨0, fun k _ => h k⟩
theorem Ev.val (v : α) : Ev (fun _ => some v) v := ⟨0, fun _ _ => rfl⟩
theorem Ev.eq {g : Nat → Option α} {v u : α} (h : Ev g v) (e : v = u) : Ev g u := e ▸ h
theorem Ev.congr {f g : Nat → Option α} {v : α} (h : Ev g v) (e : ∀ k, f k = g k) : Ev f v := let ⟨K, hk⟩ := h; ⟨K, fun k hK => (e k).trans (hk k hK)⟩
theorem Ev.one {c : Option α} {v : α} (h : c = some v) : Ev (fun _ => c) v := ⟨0, fun _ _ => h⟩
theorem Ev.succ {g : Nat → Option α} {v : α} (h : Ev (fun k => g (k + 1)) v) : Ev g v := by
  obtain ⟨K, hk⟩ := h
  refine ⟨K + 1, fun k hK => ?_⟩
  obtain ⟨m, rfl⟩ : ∃ m, k = m + 1 := ⟨k - 1, by omega⟩
  exact hk m (by omega)
theorem Ev.bind {f : Nat → Option α} {g : Nat → α → Option β} {a : α} {b : β} (hf : Ev f a) (hg : Ev (fun k => g k a) b) : Ev (fun k => (f k).bind (g k)) b := by
  obtain ⟨K, hk⟩ := hf
  obtain ⟨L, hl⟩ := hg
  refine ⟨max K L, fun k h => ?_⟩
  show (f k).bind (g k) = _
  rw [hk k (by omega)]
  exact hl k (by omega)
theorem Ev.pos {c : Prop} [Decidable c] {f g : Nat → Option α} {v : α} (hc : c) (h : Ev f v) : Ev (fun k => if c then f k else g k) v := h.congr (fun k => if_pos hc)
theorem Ev.neg {c : Prop} [Decidable c] {f g : Nat → Option α} {v : α} (hc : ¬ c) (h : Ev g v) : Ev (fun k => if c then f k else g k) v := h.congr (fun k => if_neg hc)
theorem Ev.ite {c : Prop} [Decidable c] {f g : Nat → Option α} {v u : α} (h : c → Ev f v) (h' : ¬ c → Ev g u) : Ev (fun k => if c then f k else g k) (if c then v else u) := by
  by_cases hc : c
  · rw [if_pos hc]; exact Ev.pos hc (h hc)
  · rw [if_neg hc]; exact Ev.neg hc (h' hc)
end Go.Proofs.YtdbkefgdeenjoaaDoor.Plain
end
section
namespace Go.Proofs.YtdbkefgdeenjoaaDoor.Plain
set_option linter.unusedVariables false
set_option linter.unusedSimpArgs false
open Go.RowKit Go.Proofs.YtdbkefgdeenjoaaDoor.X Go.Proofs.YtdbkefgdeenjoaaDoorW.PrintWords Go.Proofs.YtdbkefgdeenjoaaDoorW.PrintLast Go.Proofs.YtdbkefgdeenjoaaDoorW.PrintMore
def u2 (r : Int) (big : Bool) : List Int := if big then [r / 256 % 256, r % 256] else [r % 256, r / 256 % 256]
def u4 (r : Int) (big : Bool) : List Int := if big then [r / 16777216 % 256, r / 65536 % 256, r / 256 % 256, r % 256] else [r % 256, r / 256 % 256, r / 65536 % 256, r / 16777216 % 256]
def enc1 (size : Int) (big : Bool) (r : Int) : List Int :=
  if size = 1 then Lib.encodeRuneZ r else if size = 2 then (if 65536 ≤ r then u2 (55296 + (r - 65536) / 1024) big ++ u2 (56320 + (r - 65536) % 1024) big else u2 r big) else u4 r big
theorem w64 (n : Int) (h0 : -9223372036854775808 ≤ n) (h1 : n ≤ 9223372036854775807) : wrap64 n = n := by unfold wrap64; omega
def ok (r : Int) : Prop := 0 ≤ r ∧ r ≤ 1114111 ∧ ¬ (55296 ≤ r ∧ r ≤ 57343)
instance (r : Int) : Decidable (ok r) := by unfold ok; infer_instance
theorem valid_eq (r : Int) : utf8_ValidRune.f r = some (decide (ok r)) := by
  unfold utf8_ValidRune.f ok
  repeat' split
  all_goals (simp only [Option.some.injEq]; symm; simp; omega)
def sizeOf (code : Int) : Int := if code = 2 ∨ code = 1 then 2 else if code = 4 ∨ code = 3 then 4 else 1
def bigOf (code : Int) : Bool := decide (code = 2 ∨ code = 4)
theorem wide_eq (code : Int) : text_wide.f code = some (sizeOf code, bigOf code) := by
  unfold text_wide.f sizeOf bigOf
  repeat' split
  all_goals simp_all
theorem sizes (code : Int) : sizeOf code = 1 ∨ sizeOf code = 2 ∨ sizeOf code = 4 := by
  unfold sizeOf
  split
  · simp
  · split <;> simp
end Go.Proofs.YtdbkefgdeenjoaaDoor.Plain
end
section
namespace Go.Proofs.YtdbkefgdeenjoaaDoor.Plain
set_option linter.unusedVariables false
set_option linter.unusedSimpArgs false
open Go.RowKit Go.Proofs.YtdbkefgdeenjoaaDoor.X Go.Proofs.YtdbkefgdeenjoaaDoorW.PrintWords Go.Proofs.YtdbkefgdeenjoaaDoorW.PrintLast Go.Proofs.YtdbkefgdeenjoaaDoorW.PrintMore
def pre : List Int → List Int → Bool
  | [], _ => true
  | _ :: _, [] => false
  | x :: r, y :: b => y == x && pre r b
theorem w64' (n : Nat) (h : n < 4611686018427387904) : wrap64 ((n : Int) + 1) = ((n + 1 : Nat) : Int) := by unfold wrap64; omega
theorem rd_nat (l : List Int) (i : Nat) (h : i < l.length) : rd l (i : Int) = l[i] := by
  unfold rd
  rw [List.getD_eq_getElem?_getD, show ((i : Int)).toNat = i from by omega, List.getElem?_eq_getElem h]
  rfl
theorem drop_nat (l : List Int) (i : Nat) (h : i < l.length) : l.drop i = rd l (i : Int) :: l.drop (i + 1) := by
  rw [rd_nat l i h]; exact List.drop_eq_getElem_cons h
theorem at_eq (b : List Int) (i : Nat) : text_at.f b (i : Int) = some (if i < b.length then (rd b (i : Int), true) else (0, false)) := by
  unfold text_at.f
  by_cases h : i < b.length
  · rw [if_neg (by omega), if_pos (by omega), if_pos (by omega), if_pos h]
  · rw [if_pos (by omega), if_neg h]
theorem begins_loop (b row : List Int) (hl : row.length < 4611686018427387904) : ∀ (n i : Nat), i + n = row.length → Ev (fun k => text_begins.l0 k b row (row.length : Int) (i : Int)) (pre (row.drop i) (b.drop i))
  | 0, i, h => by
    refine Ev.succ ?_
    simp only [text_begins.l0]
    refine Ev.neg (by omega) ?_
    rw [List.drop_eq_nil_of_le (by omega)]
    exact Ev.val _
  | n + 1, i, h => by
    refine Ev.succ ?_
    simp only [text_begins.l0]
    refine Ev.pos (by omega) (Ev.pos (by omega) (Ev.pos (by omega) ?_))
    rw [at_eq]
    simp only [Option.bind_some]
    rw [drop_nat row i (by omega)]
    by_cases hb : i < b.length
    · rw [if_pos hb, drop_nat b i hb]
      refine Ev.pos rfl ?_
      by_cases he : rd b (i : Int) = rd row (i : Int)
      · refine Ev.pos he ?_
        rw [w64' i (by omega)]
        refine (begins_loop b row hl n (i + 1) (by omega)).eq ?_
        simp [pre, he]
      · refine Ev.neg he ?_
        refine (Ev.val _).eq ?_
        simp [pre, he]
    · have hd : b.drop i = [] := List.drop_eq_nil_of_le (by omega)
      rw [if_neg hb, hd]
      refine Ev.neg (by simp) ?_
      exact (Ev.val false).eq rfl
theorem begins_eq (b row : List Int) (hl : row.length < 4611686018427387904) : Ev (fun k => text_begins.f k b row) (pre row b) := by
  simp only [text_begins.f]
  exact (begins_loop b row hl row.length 0 (by omega)).eq (by simp)
def nz (b : List Int) (i : Nat) : Bool := decide (i < b.length) && rd b (i : Int) != 0
theorem some_eq (b : List Int) (i : Nat) : text_some.f b (i : Int) = some (nz b i) := by
  unfold text_some.f nz
  rw [at_eq]
  by_cases h : i < b.length <;> simp [h]
def detect3 (b : List Int) : Int × Int := if (nz b 0 && pre [0] (b.drop 1)) = true then (1, 0) else if pre [239, 187, 191] b = true then (0, 3) else (0, 0)
def detect2 (b : List Int) : Int × Int := if (pre [0] b && nz b 1) = true then (2, 0) else if pre [255, 254] b = true then (1, 2) else detect3 b
def detect1 (b : List Int) : Int × Int := if (nz b 0 && pre [0, 0, 0] (b.drop 1)) = true then (3, 0) else if pre [254, 255] b = true then (2, 2) else detect2 b
def detect (b : List Int) : Int × Int := if pre [0, 0, 254, 255] b = true then (4, 4) else if (pre [0, 0, 0] b && nz b 3) = true then (4, 0) else if pre [255, 254, 0, 0] b = true then (3, 4) else detect1 b
theorem j3_eq (b : List Int) (x : Bool) : Ev (fun k => text_Detect.j3 k b 0 x) (if x = true then (1, 0) else if pre [239, 187, 191] b = true then (0, 3) else (0, 0)) := by
  refine Ev.succ ?_
  simp only [text_Detect.j3]
  refine Ev.ite (fun _ => Ev.val _) (fun _ => ?_)
  refine Ev.bind (begins_eq _ _ (by decide)) ?_
  exact Ev.ite (fun _ => Ev.val _) (fun _ => Ev.val _)
theorem j2_eq (b : List Int) (x : Bool) : Ev (fun k => text_Detect.j2 k b 0 x) (if x = true then (2, 0) else if pre [255, 254] b = true then (1, 2) else detect3 b) := by
  refine Ev.succ ?_
  simp only [text_Detect.j2]
  refine Ev.ite (fun _ => Ev.val _) (fun _ => ?_)
  refine Ev.bind (begins_eq _ _ (by decide)) ?_
  refine Ev.ite (fun _ => Ev.val _) (fun _ => ?_)
  rw [show text_some.f b 0 = some (nz b 0) from some_eq b 0]
  simp only [Option.bind_some]
  unfold detect3
  by_cases h0 : nz b 0 = true
  · refine Ev.pos h0 ?_
    by_cases h1 : (b.length : Int) > 1
    · refine Ev.pos h1 (Ev.pos (by omega) (Ev.bind (begins_eq _ _ (by decide)) ?_))
      exact (j3_eq b _).eq (by simp [h0])
    · refine Ev.neg h1 ((j3_eq b _).eq ?_)
      rw [List.drop_eq_nil_of_le (by omega)]
      simp [pre]
  · refine Ev.neg h0 ((j3_eq b _).eq ?_)
    simp [h0]
theorem j1_eq (b : List Int) (x : Bool) : Ev (fun k => text_Detect.j1 k b 0 x) (if x = true then (3, 0) else if pre [254, 255] b = true then (2, 2) else detect2 b) := by
  refine Ev.succ ?_
  simp only [text_Detect.j1]
  refine Ev.ite (fun _ => Ev.val _) (fun _ => ?_)
  refine Ev.bind (begins_eq _ _ (by decide)) ?_
  refine Ev.ite (fun _ => Ev.val _) (fun _ => ?_)
  refine Ev.bind (begins_eq _ _ (by decide)) ?_
  rw [show text_some.f b 1 = some (nz b 1) from some_eq b 1]
  simp only [Option.bind_some]
  unfold detect2
  by_cases h0 : pre [0] b = true
  · refine Ev.pos h0 ((j2_eq b _).eq ?_)
    simp [h0]
  · refine Ev.neg h0 ((j2_eq b _).eq ?_)
    simp [h0]
theorem j0_eq (b : List Int) (x : Bool) : Ev (fun k => text_Detect.j0 k b 0 x) (if x = true then (4, 0) else if pre [255, 254, 0, 0] b = true then (3, 4) else detect1 b) := by
  refine Ev.succ ?_
  simp only [text_Detect.j0]
  refine Ev.ite (fun _ => Ev.val _) (fun _ => ?_)
  refine Ev.bind (begins_eq _ _ (by decide)) ?_
  refine Ev.ite (fun _ => Ev.val _) (fun _ => ?_)
  rw [show text_some.f b 0 = some (nz b 0) from some_eq b 0]
  simp only [Option.bind_some]
  unfold detect1
  by_cases h0 : nz b 0 = true
  · refine Ev.pos h0 ?_
    by_cases h1 : (b.length : Int) > 3
    · refine Ev.pos h1 (Ev.pos (by omega) (Ev.bind (begins_eq _ _ (by decide)) ?_))
      exact (j1_eq b _).eq (by simp [h0])
    · refine Ev.neg h1 ((j1_eq b _).eq ?_)
      have : pre [0, 0, 0] (b.drop 1) = false := by
        match b, h1 with
        | [], _ => rfl
        | [_], _ => rfl
        | [_, _], _ => simp [pre]
        | [_, _, _], _ => simp [pre]
        | _ :: _ :: _ :: _ :: _, h1 => exact absurd (by simp only [List.length_cons]; omega) h1
      rw [this]
      simp
  · refine Ev.neg h0 ((j1_eq b _).eq ?_)
    simp [h0]
theorem detect_eq (b : List Int) : Ev (fun k => text_Detect.f k b) (detect b) := by
  simp only [text_Detect.f]
  refine Ev.bind (begins_eq _ _ (by decide)) ?_
  unfold detect
  refine Ev.ite (fun _ => Ev.val _) (fun _ => ?_)
  refine Ev.bind (begins_eq _ _ (by decide)) ?_
  rw [show text_some.f b 3 = some (nz b 3) from some_eq b 3]
  simp only [Option.bind_some]
  by_cases h0 : pre [0, 0, 0] b = true
  · refine Ev.pos h0 ((j0_eq b _).eq ?_)
    simp [h0]
  · refine Ev.neg h0 ((j0_eq b _).eq ?_)
    simp [h0]
end Go.Proofs.YtdbkefgdeenjoaaDoor.Plain
end
section
namespace Go.Proofs.YtdbkefgdeenjoaaDoor.Plain
set_option linter.unusedVariables false
set_option linter.unusedSimpArgs false
open Go.RowKit Go.Proofs.YtdbkefgdeenjoaaDoor.X Go.Proofs.YtdbkefgdeenjoaaDoorW.PrintWords Go.Proofs.YtdbkefgdeenjoaaDoorW.PrintLast Go.Proofs.YtdbkefgdeenjoaaDoorW.PrintMore
def body (code : Int) (l : List Int) : List Int := l.flatMap (enc1 (sizeOf code) (bigOf code))
end Go.Proofs.YtdbkefgdeenjoaaDoor.Plain
end
section
namespace Go.Proofs.YtdbkefgdeenjoaaDoor.Plain
set_option linter.unusedVariables false
set_option linter.unusedSimpArgs false
open Go.RowKit Go.Proofs.YtdbkefgdeenjoaaDoor.X Go.Proofs.YtdbkefgdeenjoaaDoorW.PrintWords Go.Proofs.YtdbkefgdeenjoaaDoorW.PrintLast Go.Proofs.YtdbkefgdeenjoaaDoorW.PrintMore
def Bts (l : List Int) : Prop := ∀ x ∈ l, 0 ≤ x ∧ x < 256
theorem u32_bits (n m : Nat) (hn : n < 4294967296) (hm : m < 4294967296) : Go.bits .or .u32 (n : Int) (m : Int) = ((n ||| m : Nat) : Int) := by
  unfold Go.bits
  have hx : (BitVec.ofInt IntKind.u32.bits (n : Int) ||| BitVec.ofInt IntKind.u32.bits (m : Int)).toNat = n ||| m := by
    show (BitVec.ofInt 32 (n : Int) ||| BitVec.ofInt 32 (m : Int)).toNat = n ||| m
    rw [BitVec.toNat_or]
    have h3 : (BitVec.ofInt 32 (n : Int)).toNat = n := by simp [BitVec.toNat_ofInt]; omega
    have h4 : (BitVec.ofInt 32 (m : Int)).toNat = m := by simp [BitVec.toNat_ofInt]; omega
    rw [h3, h4]
  simp only [hx]
  have hlt : n ||| m < 4294967296 := Nat.or_lt_two_pow (n := 32) hn hm
  show ((n ||| m : Nat) : Int) % 4294967296 = _
  omega
theorem or_high (i a m : Nat) (h : m < 2 ^ i) (hn : 2 ^ i * a + m < 4294967296) : Go.bits .or .u32 ((2 ^ i * a : Nat) : Int) (m : Int) = ((2 ^ i * a + m : Nat) : Int) := by
  rw [u32_bits _ _ (by omega) (by omega), ← Nat.two_pow_add_eq_or_of_lt h]
theorem or_low (i a m : Nat) (h : m < 2 ^ i) (hn : 2 ^ i * a + m < 4294967296) : Go.bits .or .u32 (m : Int) ((2 ^ i * a : Nat) : Int) = ((2 ^ i * a + m : Nat) : Int) := by
  rw [u32_bits _ _ (by omega) (by omega), Nat.or_comm, ← Nat.two_pow_add_eq_or_of_lt h]
theorem or_big (x c : Int) (hx : 0 ≤ x) (hx1 : x < 16777216) (hc : 0 ≤ c) (hc1 : c < 256) : Go.bits .or .u32 ((x * 256) % 4294967296) (c % 4294967296) = x * 256 + c := by
  obtain ⟨a, rfl⟩ : ∃ a : Nat, x = (a : Int) := ⟨x.toNat, by omega⟩
  obtain ⟨m, rfl⟩ : ∃ m : Nat, c = (m : Int) := ⟨c.toNat, by omega⟩
  have h := or_high 8 a m (by omega) (by omega)
  rw [show ((a : Int) * 256) % 4294967296 = ((2 ^ 8 * a : Nat) : Int) by omega, show (m : Int) % 4294967296 = (m : Int) by omega, h]
  omega
theorem or_little (x c : Int) (i : Nat) (hi : i ≤ 3) (hx : 0 ≤ x) (hx1 : x < 2 ^ (8 * i)) (hc : 0 ≤ c) (hc1 : c < 256) : Go.bits .or .u32 x (shl .u32 (c % 4294967296) (wrap64 (8 * (i : Int)))) = x + c * 2 ^ (8 * i) := by
  obtain ⟨a, rfl⟩ : ∃ a : Nat, x = (a : Int) := ⟨x.toNat, by omega⟩
  obtain ⟨m, rfl⟩ : ∃ m : Nat, c = (m : Int) := ⟨c.toNat, by omega⟩
  have hi4 : i = 0 ∨ i = 1 ∨ i = 2 ∨ i = 3 := by omega
  have e0 : (m : Int) % 4294967296 = (m : Int) := by omega
  rw [e0, w64 _ (by omega) (by omega)]
  rcases hi4 with rfl | rfl | rfl | rfl
  · have h := or_low 0 m a (by simp at hx1 ⊢; omega) (by simp at hx1 ⊢; omega)
    have e : shl .u32 (m : Int) (8 * ((0 : Nat) : Int)) = ((2 ^ 0 * m : Nat) : Int) := by
      show ((m : Int) * 1) % 4294967296 = _
      omega
    rw [e, h]; simp; omega
  · have h := or_low 8 m a (by simp at hx1 ⊢; omega) (by simp at hx1 ⊢; omega)
    have e : shl .u32 (m : Int) (8 * ((1 : Nat) : Int)) = ((2 ^ 8 * m : Nat) : Int) := by
      show ((m : Int) * 256) % 4294967296 = _
      omega
    rw [e, h]; simp; omega
  · have h := or_low 16 m a (by simp at hx1 ⊢; omega) (by simp at hx1 ⊢; omega)
    have e : shl .u32 (m : Int) (8 * ((2 : Nat) : Int)) = ((2 ^ 16 * m : Nat) : Int) := by
      show ((m : Int) * 65536) % 4294967296 = _
      omega
    rw [e, h]; simp; omega
  · have h := or_low 24 m a (by simp at hx1 ⊢; omega) (by simp at hx1 ⊢; omega)
    have e : shl .u32 (m : Int) (8 * ((3 : Nat) : Int)) = ((2 ^ 24 * m : Nat) : Int) := by
      show ((m : Int) * 16777216) % 4294967296 = _
      omega
    rw [e, h]; simp; omega
end Go.Proofs.YtdbkefgdeenjoaaDoor.Plain
end
section
namespace Go.Proofs.YtdbkefgdeenjoaaDoor.Plain
set_option linter.unusedVariables false
set_option linter.unusedSimpArgs false
open Go.RowKit Go.Proofs.YtdbkefgdeenjoaaDoor.X Go.Proofs.YtdbkefgdeenjoaaDoorW.PrintWords Go.Proofs.YtdbkefgdeenjoaaDoorW.PrintLast Go.Proofs.YtdbkefgdeenjoaaDoorW.PrintMore
def I32 (l : List Int) : Prop := ∀ x ∈ l, -2147483648 ≤ x ∧ x ≤ 2147483647
theorem rd_mem (l : List Int) (i : Nat) (h : i < l.length) : rd l (i : Int) ∈ l := by rw [rd_nat l i h]; exact List.getElem_mem h
theorem take_succ (l : List Int) (i : Nat) (h : i < l.length) : l.take (i + 1) = l.take i ++ [rd l (i : Int)] := by
  rw [rd_nat l i h]; exact (List.take_append_getElem h).symm
def may (r : Int) : Bool := decide (r = 9 ∨ r = 10 ∨ r = 13 ∨ r = 133 ∨ (32 ≤ r ∧ r < 127) ∨ (160 ≤ r ∧ ok r ∧ r ≠ 65279 ∧ r ≠ 65534 ∧ r ≠ 65535))
theorem may_eq (r : Int) : text_May.f r = some (may r) := by
  unfold text_May.f may
  rw [valid_eq]
  simp only [Option.bind_some]
  repeat' split
  all_goals (refine congrArg some (Bool.eq_iff_iff.mpr ?_); simp only [decide_eq_true_eq, bne_iff_ne, ne_eq, eq_self, Bool.false_eq_true, true_iff, false_iff, not_true_eq_false] at *; (try simp only [ok] at *); omega)
end Go.Proofs.YtdbkefgdeenjoaaDoor.Plain
end
section
namespace Go.Proofs.YtdbkefgdeenjoaaDoor.Plain
set_option linter.unusedVariables false
set_option linter.unusedSimpArgs false
open Go.RowKit Go.Proofs.YtdbkefgdeenjoaaDoor.X Go.Proofs.YtdbkefgdeenjoaaDoorW.PrintWords Go.Proofs.YtdbkefgdeenjoaaDoorW.PrintLast Go.Proofs.YtdbkefgdeenjoaaDoorW.PrintMore
def cl : List Int → List Int
  | [] => []
  | r :: t => if r = 13 then (if t.head? = some 10 then cl t else 10 :: cl t) else Lib.encodeRuneZ r ++ cl t
def str (l : List Int) : ByteArray := ⟨(l.map fun x => UInt8.ofNat x.toNat).toArray⟩
def cleaned (l : List Int) : ByteArray × Int := if ∀ r ∈ l, may r = true then (str (cl l), 0) else ((⟨#[]⟩ : ByteArray), 7)
theorem clean_go : ∀ (l : List Int) (out : List UInt8), I32 l → text_Clean.go l out = some (if ∀ r ∈ l, may r = true then ((⟨(out ++ (cl l).map fun x => UInt8.ofNat x.toNat).toArray⟩ : ByteArray), 0) else ((⟨#[]⟩ : ByteArray), 7))
  | [], out, _ => by simp [text_Clean.go, cl]
  | r :: t, out, hw => by
    have ht : I32 t := fun x hx => hw x (List.mem_cons_of_mem _ hx)
    have hr := hw r (List.mem_cons_self)
    unfold text_Clean.go
    rw [may_eq]
    simp only [Option.bind_some]
    by_cases hm : may r = true
    · rw [if_pos hm]
      have e : (∀ x ∈ r :: t, may x = true) ↔ ∀ x ∈ t, may x = true := by simp [hm]
      simp only [e]
      by_cases h13 : r = 13
      · rw [if_pos h13]
        by_cases h10 : t.head? = some 10
        · rw [if_pos h10, clean_go t out ht]
          simp [cl, h13, h10]
        · rw [if_neg h10, clean_go t _ ht]
          simp [cl, h13, h10]
      · rw [if_neg h13, if_pos hr, clean_go t _ ht]
        simp [cl, h13, Lib.encodeRune]
    · rw [if_neg hm]
      rw [if_neg (fun h => hm (h r List.mem_cons_self))]
theorem clean_eq (l : List Int) (hl : l.length ≤ 4294967296) (hw : I32 l) : text_Clean.f l = some (cleaned l) := by
  unfold text_Clean.f cleaned str
  rw [if_pos hl, clean_go l [] hw]
  simp
end Go.Proofs.YtdbkefgdeenjoaaDoor.Plain
end
section
namespace Go.Proofs.YtdbkefgdeenjoaaDoor.Plain
set_option linter.unusedVariables false
set_option linter.unusedSimpArgs false
open Go.RowKit Go.Proofs.YtdbkefgdeenjoaaDoor.X Go.Proofs.YtdbkefgdeenjoaaDoorW.PrintWords Go.Proofs.YtdbkefgdeenjoaaDoorW.PrintLast Go.Proofs.YtdbkefgdeenjoaaDoorW.PrintMore
def decI (n b0 b1 b2 b3 : Int) : Option (Int × Nat) :=
  if b0 < 128 then some (b0, 1)
  else if b0 / 32 = 6 ∧ 1 < n ∧ b1 / 64 = 2 then
    (if 128 ≤ b0 % 32 * 64 + b1 % 64 then some (b0 % 32 * 64 + b1 % 64, 2) else none)
  else if b0 / 16 = 14 ∧ (1 < n ∧ b1 / 64 = 2) ∧ (2 < n ∧ b2 / 64 = 2) then
    (if 2048 ≤ b0 % 16 * 4096 + b1 % 64 * 64 + b2 % 64 ∧ ok (b0 % 16 * 4096 + b1 % 64 * 64 + b2 % 64) then some (b0 % 16 * 4096 + b1 % 64 * 64 + b2 % 64, 3) else none)
  else if b0 / 8 = 30 ∧ (1 < n ∧ b1 / 64 = 2) ∧ (2 < n ∧ b2 / 64 = 2) ∧ (3 < n ∧ b3 / 64 = 2) then
    (if 65536 ≤ b0 % 8 * 262144 + b1 % 64 * 4096 + b2 % 64 * 64 + b3 % 64 ∧ ok (b0 % 8 * 262144 + b1 % 64 * 4096 + b2 % 64 * 64 + b3 % 64) then some (b0 % 8 * 262144 + b1 % 64 * 4096 + b2 % 64 * 64 + b3 % 64, 4) else none)
  else none
def dec1 (b : List Int) : Option (Int × Nat) := decI b.length (rd b 0) (rd b 1) (rd b 2) (rd b 3)
theorem decN (n b0 b1 b2 b3 : Nat) (h0 : b0 < 256) : Lib.decodeN n b0 b1 b2 b3 = match decI n b0 b1 b2 b3 with | some p => (p.1.toNat, p.2) | none => (65533, 1) := by
  unfold Lib.decodeN decI
  by_cases c1 : b0 < 128
  · have C1 : (b0 : Int) < 128 := by omega
    rw [if_pos c1, if_pos C1]
    simp
  have C1 : ¬ (b0 : Int) < 128 := by omega
  rw [if_neg c1, if_neg C1]
  by_cases c2 : b0 / 32 = 6 ∧ (1 < n ∧ b1 / 64 = 2)
  · have C2 : (b0 : Int) / 32 = 6 ∧ 1 < (n : Int) ∧ (b1 : Int) / 64 = 2 := by omega
    rw [if_pos c2, if_pos C2]
    by_cases d : b0 % 32 * 64 + b1 % 64 ≥ 128
    · have D : 128 ≤ (b0 : Int) % 32 * 64 + (b1 : Int) % 64 := by omega
      rw [if_pos d, if_pos D]
      simp only [Prod.mk.injEq, and_true]
      omega
    · have D : ¬ 128 ≤ (b0 : Int) % 32 * 64 + (b1 : Int) % 64 := by omega
      rw [if_neg d, if_neg D]
  have C2 : ¬ ((b0 : Int) / 32 = 6 ∧ 1 < (n : Int) ∧ (b1 : Int) / 64 = 2) := by omega
  rw [if_neg c2, if_neg C2]
  by_cases c3 : b0 / 16 = 14 ∧ (1 < n ∧ b1 / 64 = 2) ∧ (2 < n ∧ b2 / 64 = 2)
  · have C3 : (b0 : Int) / 16 = 14 ∧ (1 < (n : Int) ∧ (b1 : Int) / 64 = 2) ∧ (2 < (n : Int) ∧ (b2 : Int) / 64 = 2) := by omega
    rw [if_pos c3, if_pos C3]
    by_cases d : b0 % 16 * 4096 + b1 % 64 * 64 + b2 % 64 ≥ 2048 ∧ (b0 % 16 * 4096 + b1 % 64 * 64 + b2 % 64 < 55296 ∨ (57344 ≤ b0 % 16 * 4096 + b1 % 64 * 64 + b2 % 64 ∧ b0 % 16 * 4096 + b1 % 64 * 64 + b2 % 64 ≤ 1114111))
    · have D : 2048 ≤ (b0 : Int) % 16 * 4096 + (b1 : Int) % 64 * 64 + (b2 : Int) % 64 ∧ ok ((b0 : Int) % 16 * 4096 + (b1 : Int) % 64 * 64 + (b2 : Int) % 64) := by unfold ok; omega
      rw [if_pos d, if_pos D]
      simp only [Prod.mk.injEq, and_true]
      omega
    · have D : ¬ (2048 ≤ (b0 : Int) % 16 * 4096 + (b1 : Int) % 64 * 64 + (b2 : Int) % 64 ∧ ok ((b0 : Int) % 16 * 4096 + (b1 : Int) % 64 * 64 + (b2 : Int) % 64)) := by unfold ok; omega
      rw [if_neg d, if_neg D]
  have C3 : ¬ ((b0 : Int) / 16 = 14 ∧ (1 < (n : Int) ∧ (b1 : Int) / 64 = 2) ∧ (2 < (n : Int) ∧ (b2 : Int) / 64 = 2)) := by omega
  rw [if_neg c3, if_neg C3]
  by_cases c4 : b0 / 8 = 30 ∧ (1 < n ∧ b1 / 64 = 2) ∧ (2 < n ∧ b2 / 64 = 2) ∧ (3 < n ∧ b3 / 64 = 2)
  · have C4 : (b0 : Int) / 8 = 30 ∧ (1 < (n : Int) ∧ (b1 : Int) / 64 = 2) ∧ (2 < (n : Int) ∧ (b2 : Int) / 64 = 2) ∧ (3 < (n : Int) ∧ (b3 : Int) / 64 = 2) := by omega
    rw [if_pos c4, if_pos C4]
    by_cases d : b0 % 8 * 262144 + b1 % 64 * 4096 + b2 % 64 * 64 + b3 % 64 ≥ 65536 ∧ (b0 % 8 * 262144 + b1 % 64 * 4096 + b2 % 64 * 64 + b3 % 64 < 55296 ∨ (57344 ≤ b0 % 8 * 262144 + b1 % 64 * 4096 + b2 % 64 * 64 + b3 % 64 ∧ b0 % 8 * 262144 + b1 % 64 * 4096 + b2 % 64 * 64 + b3 % 64 ≤ 1114111))
    · have D : 65536 ≤ (b0 : Int) % 8 * 262144 + (b1 : Int) % 64 * 4096 + (b2 : Int) % 64 * 64 + (b3 : Int) % 64 ∧ ok ((b0 : Int) % 8 * 262144 + (b1 : Int) % 64 * 4096 + (b2 : Int) % 64 * 64 + (b3 : Int) % 64) := by unfold ok; omega
      rw [if_pos d, if_pos D]
      simp only [Prod.mk.injEq, and_true]
      omega
    · have D : ¬ (65536 ≤ (b0 : Int) % 8 * 262144 + (b1 : Int) % 64 * 4096 + (b2 : Int) % 64 * 64 + (b3 : Int) % 64 ∧ ok ((b0 : Int) % 8 * 262144 + (b1 : Int) % 64 * 4096 + (b2 : Int) % 64 * 64 + (b3 : Int) % 64)) := by unfold ok; omega
      rw [if_neg d, if_neg D]
  have C4 : ¬ ((b0 : Int) / 8 = 30 ∧ (1 < (n : Int) ∧ (b1 : Int) / 64 = 2) ∧ (2 < (n : Int) ∧ (b2 : Int) / 64 = 2) ∧ (3 < (n : Int) ∧ (b3 : Int) / 64 = 2)) := by omega
  rw [if_neg c4, if_neg C4]
theorem decI_ok (n b0 b1 b2 b3 r : Int) (w : Nat) (h0 : 0 ≤ b0) (h : decI n b0 b1 b2 b3 = some (r, w)) : ok r ∧ 1 ≤ w ∧ w ≤ 4 ∧ ((w : Int) ≤ n ∨ w = 1) ∧ ¬ (r = 65533 ∧ w < 2) := by
  unfold decI at h
  repeat' split at h
  all_goals (first | (cases h; done) | (simp only [Option.some.injEq, Prod.mk.injEq] at h; obtain ⟨rfl, rfl⟩ := h; unfold ok at *; omega))
theorem rd_bts {b : List Int} (hb : Bts b) (i : Nat) : 0 ≤ rd b (i : Int) ∧ rd b (i : Int) < 256 := by
  by_cases h : i < b.length
  · exact hb _ (rd_mem b i h)
  · unfold rd
    rw [List.getD_eq_getElem?_getD, show ((i : Int)).toNat = i from by omega, List.getElem?_eq_none (by omega)]
    decide
theorem str_size (b : List Int) : (str b).size = b.length := by unfold str; simp [ByteArray.size]
theorem str_get {b : List Int} (hb : Bts b) (i : Nat) : ((str b).get! i).toNat = (rd b (i : Int)).toNat := by
  obtain ⟨h0, h1⟩ := rd_bts hb i
  by_cases h : i < b.length
  · have hj2 : i < (b.map fun x => UInt8.ofNat x.toNat).toArray.size := by simpa using h
    have : (str b).get! i = UInt8.ofNat (rd b (i : Int)).toNat := by
      show ((b.map fun x => UInt8.ofNat x.toNat).toArray)[i]! = _
      rw [getElem!_pos _ i hj2, rd_nat b i h]; simp
    rw [this, UInt8.toNat_ofNat']
    omega
  · have hj2 : ¬ i < (b.map fun x => UInt8.ofNat x.toNat).toArray.size := by simpa using h
    have : (str b).get! i = 0 := by
      show ((b.map fun x => UInt8.ofNat x.toNat).toArray)[i]! = _
      rw [getElem!_neg _ i hj2]; rfl
    rw [this]
    unfold rd
    rw [List.getD_eq_getElem?_getD, show ((i : Int)).toNat = i from by omega, List.getElem?_eq_none (by omega)]
    rfl
theorem decode_str {b : List Int} (hb : Bts b) (hn : b ≠ []) : Lib.decodeGo (str b) = match dec1 b with | some p => (p.1.toNat, p.2) | none => (65533, 1) := by
  have hp : 0 < b.length := List.length_pos_iff.mpr hn
  have e0 := str_get hb 0
  have e1 := str_get hb 1
  have e2 := str_get hb 2
  have e3 := str_get hb 3
  obtain ⟨x0, y0⟩ := rd_bts hb 0
  obtain ⟨x1, y1⟩ := rd_bts hb 1
  obtain ⟨x2, y2⟩ := rd_bts hb 2
  obtain ⟨x3, y3⟩ := rd_bts hb 3
  unfold Lib.decodeGo
  rw [if_neg (by rw [str_size]; omega), Lib.decode_at, str_size, e0, show 0 + 1 = 1 from rfl, show 0 + 2 = 2 from rfl, show 0 + 3 = 3 from rfl, e1, e2, e3, decN _ _ _ _ _ (by omega)]
  unfold dec1
  rw [Int.toNat_of_nonneg x0, Int.toNat_of_nonneg x1, Int.toNat_of_nonneg x2, Int.toNat_of_nonneg x3]
  rfl
def plainL : Nat → List Int → Option (List Int)
  | _, [] => some []
  | 0, _ :: _ => none
  | n + 1, a :: t => (dec1 (a :: t)).bind fun p => (plainL n ((a :: t).drop p.2)).map (p.1 :: ·)
theorem plainL_ok : ∀ (n : Nat) (b l : List Int), Bts b → plainL n b = some l → ∀ r ∈ l, ok r
  | _, [], l, hb, h => by simp [plainL] at h; subst h; simp
  | 0, _ :: _, l, hb, h => by simp [plainL] at h
  | n + 1, a :: t, l, hb, h => by
    unfold plainL at h
    cases hd : dec1 (a :: t) with
    | none => rw [hd] at h; cases h
    | some p =>
      rw [hd] at h
      simp only [Option.bind_some] at h
      cases he : plainL n ((a :: t).drop p.2) with
      | none => rw [he] at h; cases h
      | some m =>
        rw [he] at h
        simp only [Option.map_some, Option.some.injEq] at h
        subst h
        intro r hr
        rcases List.mem_cons.mp hr with rfl | hr
        · exact (decI_ok _ _ _ _ _ _ p.2 (rd_bts hb 0).1 hd).1
        · exact plainL_ok n _ m (fun x hx => hb x (List.mem_of_mem_drop hx)) he r hr
end Go.Proofs.YtdbkefgdeenjoaaDoor.Plain
end
section
namespace Go.Proofs.YtdbkefgdeenjoaaDoor.Plain
set_option linter.unusedVariables false
set_option linter.unusedSimpArgs false
open Go.RowKit Go.Proofs.YtdbkefgdeenjoaaDoor.X Go.Proofs.YtdbkefgdeenjoaaDoorW.PrintWords Go.Proofs.YtdbkefgdeenjoaaDoorW.PrintLast Go.Proofs.YtdbkefgdeenjoaaDoorW.PrintMore
def us2 (big : Bool) : List Int → List Int
  | a :: b :: t => (if big = true then a * 256 + b else a + b * 256) :: us2 big t
  | _ => []
def us4 (big : Bool) : List Int → List Int
  | a :: b :: c :: d :: t => (if big = true then ((a * 256 + b) * 256 + c) * 256 + d else a + b * 256 + c * 65536 + d * 16777216) :: us4 big t
  | _ => []
theorem units_step (x0 row out : List Int) (s : Int) (big : Bool) (x : Int) (i : Nat) (v : List Int × Bool) (hi : i < row.length) (h3 : row.length ≤ 4) (hb : Bts row) (hx : 0 ≤ x) (hx1 : x < 2 ^ (8 * i))
    (h : Ev (fun k => text_units.l1 k x0 s big out (if big = true then x * 256 + rd row (i : Int) else x + rd row (i : Int) * 2 ^ (8 * i)) row (row.length : Int) ((i + 1 : Nat) : Int)) v) : Ev (fun k => text_units.l1 k x0 s big out x row (row.length : Int) (i : Int)) v := by
  obtain ⟨c0, c1⟩ := hb (rd row (i : Int)) (by rw [rd_nat row i hi]; exact List.getElem_mem hi)
  refine Ev.succ ?_
  simp only [text_units.l1]
  refine Ev.pos (by omega) (Ev.pos (by omega) (Ev.pos (by omega) ?_))
  rw [w64' i (by omega)]
  have hi4 : i = 0 ∨ i = 1 ∨ i = 2 ∨ i = 3 := by omega
  have hx2 : x < 16777216 := by rcases hi4 with rfl | rfl | rfl | rfl <;> simp at hx1 <;> omega
  cases big
  · refine Ev.neg (by decide) (Ev.pos ?_ ?_)
    · rw [w64 _ (by omega) (by omega)]; omega
    · rw [or_little x _ i (by omega) hx hx1 c0 c1]
      simpa using h
  · refine Ev.pos rfl ?_
    rw [or_big x _ hx hx2 c0 c1]
    simpa using h
theorem units_end (x0 row out : List Int) (s : Nat) (big : Bool) (x : Int) (v : List Int × Bool) (hs : s ≤ x0.length) (ho : out.length < 35184372088832)
    (h : Ev (fun k => text_units.l0 k (x0.drop s) (s : Int) big (out ++ [x])) v) : Ev (fun k => text_units.l1 k x0 (s : Int) big out x row (row.length : Int) (row.length : Int)) v := by
  refine Ev.succ ?_
  simp only [text_units.l1]
  refine Ev.neg (by omega) (Ev.pos ho (Ev.pos (by omega) (Ev.pos (by omega) ?_)))
  simpa using h
theorem units_nil (s : Int) (big : Bool) (out : List Int) : Ev (fun k => text_units.l0 k [] s big out) (out, true) := by
  refine Ev.succ ?_
  simp only [text_units.l0]
  exact Ev.neg (by simp) (Ev.val _)
theorem units2 (big : Bool) : ∀ (n : Nat) (b out : List Int), b.length = 2 * n → out.length + n ≤ 4294967296 → Bts b → Ev (fun k => text_units.l0 k b 2 big out) (out ++ us2 big b, true)
  | 0, [], out, _, _, _ => (units_nil 2 big out).eq (by simp [us2])
  | 0, _ :: _, out, h, _, _ => by simp at h
  | n + 1, [], out, h, _, _ => by simp at h
  | n + 1, [_], out, h, _, _ => by simp at h; omega
  | n + 1, a :: b :: t, out, h, ho, hb => by
    have hr : Bts [a, b] := fun x hx => hb x (by simp at hx ⊢; omega)
    have ht : Bts t := fun x hx => hb x (by simp [hx])
    have ha := hb a (by simp)
    refine Ev.succ ?_
    simp only [text_units.l0]
    refine Ev.pos (by simp; omega) (Ev.pos (by decide) (Ev.pos (by simp; omega) (Ev.bind (Ev.val _) ?_)))
    show Ev (fun k => text_units.l1 k (a :: b :: t) 2 big out 0 [a, b] (([a, b] : List Int).length : Int) ((0 : Nat) : Int)) _
    refine units_step _ [a, b] out 2 big 0 0 _ (by simp) (by simp) hr (by decide) (by decide) ?_
    refine units_step _ [a, b] out 2 big _ 1 _ (by simp) (by simp) hr (by cases big <;> simp [rd] <;> omega) (by cases big <;> simp [rd] <;> omega) ?_
    refine units_end (a :: b :: t) [a, b] out 2 big _ _ (by simp) (by omega) ?_
    refine (units2 big n t _ (by simp at h; omega) (by simp; omega) ht).eq ?_
    cases big <;> simp [us2, rd]
theorem units4 (big : Bool) : ∀ (n : Nat) (b out : List Int), b.length = 4 * n → out.length + n ≤ 4294967296 → Bts b → Ev (fun k => text_units.l0 k b 4 big out) (out ++ us4 big b, true)
  | 0, [], out, _, _, _ => (units_nil 4 big out).eq (by simp [us4])
  | 0, _ :: _, out, h, _, _ => by simp at h
  | n + 1, [], out, h, _, _ => by simp at h
  | n + 1, [_], out, h, _, _ => by simp at h; omega
  | n + 1, [_, _], out, h, _, _ => by simp at h; omega
  | n + 1, [_, _, _], out, h, _, _ => by simp at h; omega
  | n + 1, a :: b :: c :: d :: t, out, h, ho, hb => by
    have hr : Bts [a, b, c, d] := fun x hx => hb x (by simp at hx ⊢; omega)
    have ht : Bts t := fun x hx => hb x (by simp [hx])
    have ha := hb a (by simp)
    have hb1 := hb b (by simp)
    have hc := hb c (by simp)
    refine Ev.succ ?_
    simp only [text_units.l0]
    refine Ev.pos (by simp; omega) (Ev.pos (by decide) (Ev.pos (by simp; omega) (Ev.bind (Ev.val _) ?_)))
    show Ev (fun k => text_units.l1 k (a :: b :: c :: d :: t) 4 big out 0 [a, b, c, d] (([a, b, c, d] : List Int).length : Int) ((0 : Nat) : Int)) _
    refine units_step _ [a, b, c, d] out 4 big 0 0 _ (by simp) (by simp) hr (by decide) (by decide) ?_
    refine units_step _ [a, b, c, d] out 4 big _ 1 _ (by simp) (by simp) hr (by cases big <;> simp [rd] <;> omega) (by cases big <;> simp [rd] <;> omega) ?_
    refine units_step _ [a, b, c, d] out 4 big _ 2 _ (by simp) (by simp) hr (by cases big <;> simp [rd] <;> omega) (by cases big <;> simp [rd] <;> omega) ?_
    refine units_step _ [a, b, c, d] out 4 big _ 3 _ (by simp) (by simp) hr (by cases big <;> simp [rd] <;> omega) (by cases big <;> simp [rd] <;> omega) ?_
    refine units_end (a :: b :: c :: d :: t) [a, b, c, d] out 4 big _ _ (by simp) (by omega) ?_
    refine (units4 big n t _ (by simp at h; omega) (by simp; omega) ht).eq ?_
    cases big <;> simp [us4, rd]
def us (size : Int) (big : Bool) (b : List Int) : List Int := if size = 2 then us2 big b else us4 big b
theorem units_eq (size : Int) (big : Bool) (b : List Int) (hs : size = 2 ∨ size = 4) (hl : b.length ≤ 4294967296) (hb : Bts b) :
    Ev (fun k => text_units.f k b size big) (if (b.length : Int) % size = 0 then (us size big b, true) else ([], false)) := by
  simp only [text_units.f]
  rcases hs with rfl | rfl
  · refine Ev.neg (by decide) (Ev.ite (fun h => ?_) (fun _ => Ev.val _))
    exact (units2 big (b.length / 2) b [] (by omega) (by simp; omega) hb).eq (by simp [us])
  · refine Ev.neg (by decide) (Ev.ite (fun h => ?_) (fun _ => Ev.val _))
    exact (units4 big (b.length / 4) b [] (by omega) (by simp; omega) hb).eq (by simp [us])
end Go.Proofs.YtdbkefgdeenjoaaDoor.Plain
end
section
namespace Go.Proofs.YtdbkefgdeenjoaaDoor.Plain
set_option linter.unusedVariables false
set_option linter.unusedSimpArgs false
open Go.RowKit Go.Proofs.YtdbkefgdeenjoaaDoor.X Go.Proofs.YtdbkefgdeenjoaaDoorW.PrintWords Go.Proofs.YtdbkefgdeenjoaaDoorW.PrintLast Go.Proofs.YtdbkefgdeenjoaaDoorW.PrintMore
theorem dec_eq {b : List Int} (hb : Bts b) (hn : b ≠ []) : utf8_DecodeRune.f b = some (match dec1 b with | some p => (p.1, (p.2 : Int)) | none => (65533, 1)) := by
  unfold utf8_DecodeRune.f
  rw [if_pos ⟨hn, fun x hx => ⟨(hb x hx).1, by have := (hb x hx).2; omega⟩⟩]
  rw [show utf8_DecodeRune.bytes b = str b from rfl, decode_str hb hn]
  cases hd : dec1 b with
  | none => rfl
  | some p =>
    have := (decI_ok _ _ _ _ _ p.1 p.2 (rd_bts hb 0).1 hd).1.1
    show some (((p.1.toNat : Nat) : Int), _) = _
    rw [Int.toNat_of_nonneg this]
def res (out : List Int) : Option (List Int) → List Int × Bool
  | some l => (out ++ l, true)
  | none => ([], false)
theorem res_map (out : List Int) (r : Int) (o : Option (List Int)) : res (out ++ [r]) o = res out (o.map (r :: ·)) := by
  cases o <;> simp [res]
theorem dec1_le {b : List Int} (hb : Bts b) (hn : b ≠ []) {r : Int} {w : Nat} (h : dec1 b = some (r, w)) : 1 ≤ w ∧ w ≤ b.length := by
  have := decI_ok _ _ _ _ _ r w (rd_bts hb 0).1 h
  have hp : 0 < b.length := List.length_pos_iff.mpr hn
  omega
theorem bts_drop {b : List Int} (hb : Bts b) (n : Nat) : Bts (b.drop n) := fun x hx => hb x (List.mem_of_mem_drop hx)
theorem plain_loop : ∀ (n : Nat) (b out : List Int), b.length ≤ n → Bts b → out.length + b.length ≤ 4294967296 → Ev (fun k => text_plain.l0 k b out) (res out (plainL n b))
  | n, [], out, _, _, _ => by
    refine Ev.succ ?_
    simp only [text_plain.l0]
    refine Ev.neg (by simp) ((Ev.val _).eq ?_)
    cases n <;> simp [plainL, res]
  | 0, _ :: _, out, h, _, _ => by simp at h
  | n + 1, a :: t, out, h, hb, ho => by
    refine Ev.succ ?_
    simp only [text_plain.l0]
    refine Ev.pos (by simp) ?_
    refine Ev.bind (Ev.one (dec_eq hb (by simp))) ?_
    have hun : plainL (n + 1) (a :: t) = (dec1 (a :: t)).bind fun p => (plainL n ((a :: t).drop p.2)).map (p.1 :: ·) := rfl
    rw [hun]
    cases hd : dec1 (a :: t) with
    | none => exact Ev.pos rfl (Ev.pos (by decide) ((Ev.val _).eq rfl))
    | some p =>
      obtain ⟨r, w⟩ := p
      obtain ⟨h1, h2⟩ := dec1_le hb (by simp) hd
      have hk := (decI_ok _ _ _ _ _ r w (rd_bts hb 0).1 hd).2.2.2.2
      have step : Ev (fun k => text_plain.l0 k ((a :: t).drop ((w : Int)).toNat) (out ++ [r])) (res out ((plainL n ((a :: t).drop w)).map (r :: ·))) := by
        rw [show ((w : Int)).toNat = w from by omega, ← res_map]
        exact plain_loop n _ _ (by rw [List.length_drop]; simp at h ⊢; omega) (bts_drop hb w) (by rw [List.length_append, List.length_drop]; simp at ho ⊢; omega)
      have all : Ev (fun k => if out.length < 35184372088832 then (if 0 ≤ (w : Int) then (if (w : Int) ≤ ((a :: t).length : Int) then text_plain.l0 k ((a :: t).drop ((w : Int)).toNat) (out ++ [r]) else none) else none) else none) (res out ((plainL n ((a :: t).drop w)).map (r :: ·))) :=
        Ev.pos (by omega) (Ev.pos (by omega) (Ev.pos (by omega) step))
      show Ev _ (res out ((plainL n ((a :: t).drop w)).map (r :: ·)))
      by_cases hr : r = 65533
      · exact Ev.pos hr (Ev.neg (by show ¬ (w : Int) < 2; omega) all)
      · exact Ev.neg hr all
theorem plain_eq (b : List Int) (hb : Bts b) (hl : b.length ≤ 4294967296) : Ev (fun k => text_plain.f k b) (res [] (plainL b.length b)) := by
  simp only [text_plain.f]
  exact plain_loop b.length b [] (by omega) hb (by simpa using hl)
def prs : List Int → Option (List Int)
  | [] => some []
  | [n] => if 55296 ≤ n ∧ n < 57344 then none else some [n]
  | n :: m :: u => if 56320 ≤ n ∧ n < 57344 then none else if 55296 ≤ n ∧ n < 56320 then (if 56320 ≤ m ∧ m < 57344 then (prs u).map ((65536 + (n - 55296) * 1024 + (m - 56320)) :: ·) else none) else (prs (m :: u)).map (n :: ·)
theorem prs_second (n : Int) (t : List Int) (h : 56320 ≤ n ∧ n < 57344) : prs (n :: t) = none := by
  cases t with
  | nil => simp only [prs]; rw [if_pos (by omega)]
  | cons m u => simp only [prs]; rw [if_pos h]
theorem prs_other (n : Int) (t : List Int) (h : ¬ (55296 ≤ n ∧ n < 57344)) : prs (n :: t) = (prs t).map (n :: ·) := by
  cases t with
  | nil => simp only [prs]; rw [if_neg h]; rfl
  | cons m u => simp only [prs]; rw [if_neg (by omega), if_neg (by omega)]
theorem prs_pair (n m : Int) (t : List Int) (h : 55296 ≤ n ∧ n < 56320) (h' : 56320 ≤ m ∧ m < 57344) : prs (n :: m :: t) = (prs t).map ((65536 + (n - 55296) * 1024 + (m - 56320)) :: ·) := by
  simp only [prs]; rw [if_neg (by omega), if_pos h, if_pos h']
theorem prs_alone (n m : Int) (t : List Int) (h : 55296 ≤ n ∧ n < 56320) (h' : ¬ (56320 ≤ m ∧ m < 57344)) : prs (n :: m :: t) = none := by
  simp only [prs]; rw [if_neg (by omega), if_pos h, if_neg h']
theorem prs_last (n : Int) (h : 55296 ≤ n ∧ n < 56320) : prs [n] = none := by
  simp only [prs]; rw [if_pos (by omega)]
theorem map_app (out : List Int) (c : Int) (o : Option (List Int)) : o.map (fun q => (out ++ [c]) ++ q) = (o.map (c :: ·)).map (out ++ ·) := by
  cases o <;> simp
def pend (high : Int) : List Int := if high = 0 then [] else [high]
theorem pairs_loop (l : List Int) (hl : l.length ≤ 4294967296) (hw : ∀ x ∈ l, 0 ≤ x ∧ x < 65536) : ∀ (n i : Nat) (out : List Int) (high : Int), i + n = l.length → out.length ≤ i → (∀ x ∈ out, 0 ≤ x) → (high = 0 ∨ (55296 ≤ high ∧ high < 56320)) →
    ∃ p, Ev (fun k => text_pairs.l0 k out high l (l.length : Int) (i : Int)) p ∧ p.1.length ≤ l.length ∧ (∀ x ∈ p.1, 0 ≤ x) ∧ (prs (pend high ++ l.drop i)).map (out ++ ·) = if p.2 = true then some p.1 else none := by
  intro n
  induction n with
  | zero =>
    intro i out high h ho hx hh
    refine ⟨(out, high == 0), ?_, (by show out.length ≤ l.length; omega), hx, ?_⟩
    · refine Ev.succ ?_
      simp only [text_pairs.l0]
      exact Ev.neg (by omega) (Ev.val _)
    · rw [List.drop_eq_nil_of_le (by omega)]
      rcases hh with rfl | hh
      · simp [pend, prs]
      · have : high ≠ 0 := by omega
        rw [pend, if_neg this, List.append_nil, prs_last high hh]
        simp [this]
  | succ n ih =>
    intro i out high h ho hx hh
    obtain ⟨a, ea⟩ : ∃ a, rd l (i : Int) = a := ⟨_, rfl⟩
    have hc := hw _ (rd_mem l i (by omega))
    rw [ea] at hc
    have hd : l.drop i = a :: l.drop (i + 1) := by rw [← ea]; exact drop_nat l i (by omega)
    have hj : ∃ p, Ev (fun k => text_pairs.j1 k out high a (decide (56320 ≤ a ∧ a < 57344)) l (l.length : Int) (i : Int)) p ∧ p.1.length ≤ l.length ∧ (∀ x ∈ p.1, 0 ≤ x) ∧ (prs (pend high ++ l.drop i)).map (out ++ ·) = if p.2 = true then some p.1 else none := by
      have ei : wrap64 ((i : Int) + 1) = ((i + 1 : Nat) : Int) := w64' i (by omega)
      by_cases hs : 56320 ≤ a ∧ a < 57344
      · rw [show decide (56320 ≤ a ∧ a < 57344) = true from decide_eq_true hs]
        rcases hh with rfl | hh
        · refine ⟨([], false), ?_, by simp, by simp, ?_⟩
          · refine Ev.succ ?_
            simp only [text_pairs.j1]
            exact Ev.pos (by decide) (Ev.val _)
          · rw [hd, pend, if_pos rfl, List.nil_append, prs_second a _ hs]; rfl
        · have hn : high ≠ 0 := by omega
          have ec : ((65536 + (((high - 55296) % 4294967296) * 1024)) + (a - 56320)) % 4294967296 = 65536 + (high - 55296) * 1024 + (a - 56320) := by omega
          obtain ⟨p, h1, h2, h3, h4⟩ := ih (i + 1) (out ++ [65536 + (high - 55296) * 1024 + (a - 56320)]) 0 (by omega) (by rw [List.length_append]; simp; omega) (by
            intro x hxx
            rcases List.mem_append.mp hxx with hq | hq
            · exact hx x hq
            · obtain rfl := List.mem_singleton.mp hq; omega) (.inl rfl)
          refine ⟨p, ?_, h2, h3, ?_⟩
          · refine Ev.succ ?_
            simp only [text_pairs.j1]
            refine Ev.neg (by simp [hn]) (Ev.pos (by simp) (Ev.pos (by omega) ?_))
            rw [ec, ei]
            exact h1
          · rw [hd, pend, if_neg hn, List.cons_append, List.nil_append, prs_pair _ _ _ hh hs, ← h4, pend, if_pos rfl, List.nil_append, map_app]
      · rw [show decide (56320 ≤ a ∧ a < 57344) = false from decide_eq_false hs]
        rcases hh with rfl | hh
        · by_cases hg : 55296 ≤ a ∧ a < 56320
          · obtain ⟨p, h1, h2, h3, h4⟩ := ih (i + 1) out a (by omega) (by omega) hx (.inr hg)
            refine ⟨p, ?_, h2, h3, ?_⟩
            · refine Ev.succ ?_
              simp only [text_pairs.j1]
              refine Ev.neg (by decide) (Ev.neg (by decide) (Ev.pos (by omega) (Ev.pos (by omega) ?_)))
              rw [ei]
              exact h1
            · rw [hd, pend, if_pos rfl, List.nil_append, ← h4, pend, if_neg (by omega)]; rfl
          · obtain ⟨p, h1, h2, h3, h4⟩ := ih (i + 1) (out ++ [a]) 0 (by omega) (by rw [List.length_append]; simp; omega) (by
              intro x hxx
              rcases List.mem_append.mp hxx with hq | hq
              · exact hx x hq
              · obtain rfl := List.mem_singleton.mp hq; omega) (.inl rfl)
            refine ⟨p, ?_, h2, h3, ?_⟩
            · refine Ev.succ ?_
              simp only [text_pairs.j1]
              refine Ev.neg (by decide) (Ev.neg (by decide) ?_)
              by_cases hg1 : a ≥ 55296
              · refine Ev.pos hg1 (Ev.neg (by omega) (Ev.pos (by omega) ?_))
                rw [ei]; exact h1
              · refine Ev.neg hg1 (Ev.pos (by omega) ?_)
                rw [ei]; exact h1
            · rw [hd, pend, if_pos rfl, List.nil_append, prs_other a _ (by omega), ← h4, pend, if_pos rfl, List.nil_append, map_app]
        · have hn : high ≠ 0 := by omega
          refine ⟨([], false), ?_, by simp, by simp, ?_⟩
          · refine Ev.succ ?_
            simp only [text_pairs.j1]
            exact Ev.pos (by simp [hn]) (Ev.val _)
          · rw [hd, pend, if_neg hn, List.cons_append, List.nil_append, prs_alone _ _ _ hh hs]; rfl
    obtain ⟨p, h1, h2⟩ := hj
    refine ⟨p, ?_, h2⟩
    refine Ev.succ ?_
    simp only [text_pairs.l0]
    refine Ev.pos (by omega) (Ev.pos (by omega) (Ev.pos (by omega) ?_))
    rw [ea]
    by_cases hs : a ≥ 56320
    · refine Ev.pos hs ?_
      rw [show decide (a < 57344) = decide (56320 ≤ a ∧ a < 57344) from decide_eq_decide.mpr (by omega)]
      exact h1
    · refine Ev.neg hs ?_
      rw [show decide (56320 ≤ a ∧ a < 57344) = false from decide_eq_false (by omega)] at h1
      exact h1
theorem pairs_eq (l : List Int) (hl : l.length ≤ 4294967296) (hw : ∀ x ∈ l, 0 ≤ x ∧ x < 65536) :
    ∃ p, Ev (fun k => text_pairs.f k l) p ∧ p.1.length ≤ l.length ∧ (∀ x ∈ p.1, 0 ≤ x) ∧ prs l = if p.2 = true then some p.1 else none := by
  obtain ⟨p, h1, h2, h3, h4⟩ := pairs_loop l hl hw l.length 0 [] 0 (by omega) (by simp) (by simp) (.inl rfl)
  refine ⟨p, ?_, h2, h3, ?_⟩
  · simp only [text_pairs.f]
    exact h1
  · rw [← h4, pend, if_pos rfl, List.nil_append, List.drop_zero]
    cases prs l <;> simp
def okAll : Option (List Int) → List Int × Int
  | some l => if ∀ r ∈ l, ok r then (l, 0) else ([], 6)
  | none => ([], 6)
theorem runes_loop (l : List Int) (is : Bool) (hl : l.length ≤ 4294967296) (hw : ∀ x ∈ l, 0 ≤ x) : ∀ (n i : Nat), i + n = l.length →
    Ev (fun k => text_Runes.l0 k (l.take i) is l (l.length : Int) (i : Int)) (if (∀ r ∈ l.drop i, ok r) ∧ is = true then (l, 0) else ([], 6))
  | 0, i, h => by
    refine Ev.succ ?_
    simp only [text_Runes.l0]
    refine Ev.neg (by omega) ?_
    rw [List.drop_eq_nil_of_le (by omega), List.take_of_length_le (by omega)]
    cases is
    · refine Ev.neg (by decide) ((Ev.val _).eq (by simp))
    · refine Ev.pos rfl ((Ev.val _).eq (by simp))
  | n + 1, i, h => by
    refine Ev.succ ?_
    simp only [text_Runes.l0]
    refine Ev.pos (by omega) (Ev.pos (by omega) (Ev.pos (by omega) ?_))
    have h0 := hw _ (rd_mem l i (by omega))
    have hd := drop_nat l i (by omega)
    by_cases hg : rd l (i : Int) > 1114111
    · refine Ev.pos hg ((Ev.val _).eq ?_)
      rw [if_neg]
      rintro ⟨hq, _⟩
      have := hq _ (by rw [hd]; exact List.mem_cons_self)
      unfold ok at this
      omega
    · refine Ev.neg hg ?_
      have ew : wrap32 (rd l (i : Int)) = rd l (i : Int) := by unfold wrap32; omega
      rw [ew]
      refine Ev.bind (Ev.one (valid_eq _)) ?_
      by_cases hk : ok (rd l (i : Int))
      · refine Ev.pos (by simp [hk]) (Ev.pos (by rw [List.length_take]; omega) ?_)
        rw [← take_succ l i (by omega), w64' i (by omega)]
        refine (runes_loop l is hl hw n (i + 1) (by omega)).eq ?_
        have e : (∀ x ∈ l.drop i, ok x) ↔ ∀ x ∈ l.drop (i + 1), ok x := by rw [hd]; simp [hk]
        simp only [e]
      · refine Ev.neg (by simp [hk]) ((Ev.val _).eq ?_)
        rw [if_neg]
        rintro ⟨hq, _⟩
        exact hk (hq _ (by rw [hd]; exact List.mem_cons_self))
theorem runes_j1 (l : List Int) (is : Bool) (hl : l.length ≤ 4294967296) (hw : ∀ x ∈ l, 0 ≤ x) : Ev (fun k => text_Runes.j1 k [] l is) (okAll (if is = true then some l else none)) := by
  refine Ev.succ ?_
  simp only [text_Runes.j1]
  refine (runes_loop l is hl hw l.length 0 (by omega)).eq ?_
  cases is <;> simp [okAll]
theorem us2_length (big : Bool) : ∀ b : List Int, (us2 big b).length ≤ b.length
  | [] => by simp [us2]
  | [_] => by simp [us2]
  | a :: b :: t => by have := us2_length big t; simp [us2]; omega
theorem us4_length (big : Bool) : ∀ b : List Int, (us4 big b).length ≤ b.length
  | [] => by simp [us4]
  | [_] => by simp [us4]
  | [_, _] => by simp [us4]
  | [_, _, _] => by simp [us4]
  | a :: b :: c :: d :: t => by have := us4_length big t; simp [us4]; omega
theorem us2_mem (big : Bool) : ∀ b : List Int, Bts b → ∀ x ∈ us2 big b, 0 ≤ x ∧ x < 65536
  | [], _, x, h => by simp [us2] at h
  | [_], _, x, h => by simp [us2] at h
  | a :: b :: t, hb, x, h => by
    have h0 := hb a (by simp)
    have h1 := hb b (by simp)
    rw [us2] at h
    rcases List.mem_cons.mp h with rfl | h
    · split <;> omega
    · exact us2_mem big t (fun x hx => hb x (by simp [hx])) x h
theorem us4_mem (big : Bool) : ∀ b : List Int, Bts b → ∀ x ∈ us4 big b, 0 ≤ x
  | [], _, x, h => by simp [us4] at h
  | [_], _, x, h => by simp [us4] at h
  | [_, _], _, x, h => by simp [us4] at h
  | [_, _, _], _, x, h => by simp [us4] at h
  | a :: b :: c :: d :: t, hb, x, h => by
    have h0 := hb a (by simp)
    have h1 := hb b (by simp)
    have h2 := hb c (by simp)
    have h3 := hb d (by simp)
    rw [us4] at h
    rcases List.mem_cons.mp h with rfl | h
    · split <;> omega
    · exact us4_mem big t (fun x hx => hb x (by simp [hx])) x h
theorem plainL_length : ∀ (n : Nat) (b l : List Int), Bts b → plainL n b = some l → l.length ≤ b.length
  | _, [], l, hb, h => by
    rename_i n
    cases n <;> (simp [plainL] at h; subst h; simp)
  | 0, _ :: _, l, hb, h => by simp [plainL] at h
  | n + 1, a :: t, l, hb, h => by
    have hun : plainL (n + 1) (a :: t) = (dec1 (a :: t)).bind fun p => (plainL n ((a :: t).drop p.2)).map (p.1 :: ·) := rfl
    rw [hun] at h
    cases hd : dec1 (a :: t) with
    | none => rw [hd] at h; cases h
    | some p =>
      obtain ⟨h1, h2⟩ := dec1_le (r := p.1) (w := p.2) hb (by simp) hd
      rw [hd] at h
      simp only [Option.bind_some] at h
      cases he : plainL n ((a :: t).drop p.2) with
      | none => rw [he] at h; cases h
      | some m =>
        rw [he] at h
        simp only [Option.map_some, Option.some.injEq] at h
        subst h
        have := plainL_length n _ m (bts_drop hb _) he
        rw [List.length_drop] at this
        simp at this h2 ⊢
        omega
theorem prs_length : ∀ (l q : List Int), prs l = some q → q.length ≤ l.length
  | [], q, h => by simp [prs] at h; subst h; simp
  | [n], q, h => by
    simp only [prs] at h
    split at h
    · cases h
    · simp at h; subst h; simp
  | n :: m :: u, q, h => by
    simp only [prs] at h
    split at h
    · cases h
    · split at h
      · split at h
        · cases he : prs u with
          | none => rw [he] at h; cases h
          | some z =>
            rw [he] at h
            simp at h
            subst h
            have := prs_length u z he
            simp; omega
        · cases h
      · cases he : prs (m :: u) with
        | none => rw [he] at h; cases h
        | some z =>
          rw [he] at h
          simp at h
          subst h
          have := prs_length (m :: u) z he
          simp at this ⊢; omega
def runesOf (code : Int) (b : List Int) : Option (List Int) :=
  if sizeOf code = 1 then plainL b.length b
  else if sizeOf code = 2 then (if (b.length : Int) % 2 = 0 then prs (us2 (bigOf code) b) else none)
  else (if (b.length : Int) % 4 = 0 then some (us4 (bigOf code) b) else none)
theorem runesOf_length (code : Int) (b l : List Int) (hb : Bts b) (h : runesOf code b = some l) : l.length ≤ b.length := by
  unfold runesOf at h
  split at h
  · exact plainL_length _ _ _ hb h
  · split at h
    · split at h
      · have := prs_length _ _ h
        have := us2_length (bigOf code) b
        omega
      · cases h
    · split at h
      · simp at h; subst h; exact us4_length _ _
      · cases h
def runes (b : List Int) : List Int × Int := okAll (runesOf (detect b).1 (b.drop (detect b).2.toNat))
theorem pre_le : ∀ (row b : List Int), pre row b = true → row.length ≤ b.length
  | [], b, _ => by simp
  | _ :: _, [], h => by simp [pre] at h
  | x :: r, y :: b, h => by
    simp [pre] at h
    have := pre_le r b h.2
    simp; omega
theorem detect_le (b : List Int) : 0 ≤ (detect b).2 ∧ (detect b).2 ≤ (b.length : Int) := by
  unfold detect detect1 detect2 detect3
  repeat' split
  all_goals (try (rename_i h; have := pre_le _ _ h; simp at this))
  all_goals (simp; try omega)
theorem runes_eq (b : List Int) (hb : Bts b) (hl : b.length ≤ 4294967296) : Ev (fun k => text_Runes.f k b) (runes b) := by
  obtain ⟨h0, h1⟩ := detect_le b
  simp only [text_Runes.f]
  refine Ev.bind (detect_eq b) ?_
  refine Ev.bind (Ev.one (wide_eq _)) (Ev.pos h0 (Ev.pos h1 ?_))
  unfold runes runesOf
  have hlen : (b.drop (detect b).2.toNat).length ≤ 4294967296 := by rw [List.length_drop]; omega
  have hbd : Bts (b.drop (detect b).2.toNat) := bts_drop hb _
  generalize (detect b).1 = code
  generalize b.drop (detect b).2.toNat = c at hlen hbd
  rcases sizes code with hs | hs | hs
  · refine Ev.pos hs ?_
    rw [if_pos hs]
    refine Ev.bind (plain_eq c hbd hlen) ?_
    cases hp : plainL c.length c with
    | none => exact Ev.neg (by simp [res]) (Ev.val _)
    | some l =>
      refine Ev.pos (by simp [res]) ((Ev.val _).eq ?_)
      simp only [okAll, res, List.nil_append]
      rw [if_pos (plainL_ok _ _ _ hbd hp)]
  · refine Ev.neg (by omega) ?_
    rw [if_neg (by omega), if_pos hs]
    refine Ev.bind (units_eq (sizeOf code) (bigOf code) c (.inl hs) hlen hbd) ?_
    rw [hs]
    by_cases hm : (c.length : Int) % 2 = 0
    · rw [if_pos hm, if_pos hm]
      refine Ev.pos rfl ?_
      have e2 : us 2 (bigOf code) c = us2 (bigOf code) c := by simp [us]
      show Ev (fun k => text_Runes.j0 k [] (us 2 (bigOf code) c) true (2 == 2)) _
      rw [e2]
      have hu := us2_length (bigOf code) c
      obtain ⟨p, q1, q2, q3, q4⟩ := pairs_eq (us2 (bigOf code) c) (by omega) (us2_mem _ _ hbd)
      refine Ev.succ ?_
      simp only [text_Runes.j0]
      refine Ev.pos (by decide) (Ev.bind q1 ?_)
      rw [q4]
      exact runes_j1 p.1 p.2 (by omega) q3
    · rw [if_neg hm, if_neg hm]
      refine Ev.neg (by simp) ?_
      refine Ev.succ ?_
      simp only [text_Runes.j0]
      refine Ev.neg (by decide) ?_
      exact runes_j1 [] false (by simp) (by simp)
  · refine Ev.neg (by omega) ?_
    rw [if_neg (by omega), if_neg (by omega)]
    refine Ev.bind (units_eq (sizeOf code) (bigOf code) c (.inr hs) hlen hbd) ?_
    rw [hs]
    by_cases hm : (c.length : Int) % 4 = 0
    · rw [if_pos hm, if_pos hm]
      refine Ev.pos rfl ?_
      have e4 : us 4 (bigOf code) c = us4 (bigOf code) c := by simp [us]
      show Ev (fun k => text_Runes.j0 k [] (us 4 (bigOf code) c) true (4 == 2)) _
      rw [e4]
      have hu := us4_length (bigOf code) c
      refine Ev.succ ?_
      simp only [text_Runes.j0]
      refine Ev.neg (by decide) ?_
      exact runes_j1 (us4 (bigOf code) c) true (by omega) (us4_mem _ _ hbd)
    · rw [if_neg hm, if_neg hm]
      refine Ev.neg (by simp) ?_
      refine Ev.succ ?_
      simp only [text_Runes.j0]
      refine Ev.neg (by decide) ?_
      exact runes_j1 [] false (by simp) (by simp)
theorem runes_length (b : List Int) (hb : Bts b) : (runes b).1.length ≤ b.length := by
  unfold runes
  cases h : runesOf (detect b).1 (b.drop (detect b).2.toNat) with
  | none => simp [okAll]
  | some l =>
    have h1 := runesOf_length _ _ _ (bts_drop hb _) h
    rw [List.length_drop] at h1
    simp only [okAll]
    split
    · show l.length ≤ b.length; omega
    · simp
theorem runes_ok (b : List Int) : ∀ r ∈ (runes b).1, ok r := by
  unfold runes
  cases h : runesOf (detect b).1 (b.drop (detect b).2.toNat) with
  | none => simp [okAll]
  | some l =>
    simp only [okAll]
    split
    · assumption
    · simp
theorem ok_i32 {l : List Int} (h : ∀ r ∈ l, ok r) : I32 l := by
  intro x hx
  have := h x hx
  unfold ok at this
  omega
def decoded (b : List Int) : ByteArray × Int := if (runes b).2 = 0 then cleaned (runes b).1 else ((⟨#[]⟩ : ByteArray), (runes b).2)
theorem decoded_eq (b : List Int) (hb : Bts b) (hl : b.length ≤ 4294967296) : Ev (fun k => text_Decode.f k b) (decoded b) := by
  simp only [text_Decode.f]
  refine Ev.bind (runes_eq b hb hl) ?_
  unfold decoded
  refine Ev.ite (fun h => ?_) (fun _ => Ev.val _)
  refine Ev.bind (Ev.one (clean_eq _ (by have := runes_length b hb; omega) (ok_i32 (runes_ok b)))) ?_
  exact Ev.val _
end Go.Proofs.YtdbkefgdeenjoaaDoor.Plain
end
section
namespace Go.Proofs.YtdbkefgdeenjoaaDoor.Plain
set_option linter.unusedVariables false
set_option linter.unusedSimpArgs false
open Go.RowKit Go.Proofs.YtdbkefgdeenjoaaDoor.X Go.Proofs.YtdbkefgdeenjoaaDoorW.PrintWords Go.Proofs.YtdbkefgdeenjoaaDoorW.PrintLast
def Asc (l : List Int) : Prop := ∀ x ∈ l, x = 10 ∨ (32 ≤ x ∧ x ≤ 126)
theorem asc_bts {l : List Int} (h : Asc l) : Bts l := fun x hx => by have := h x hx; omega
theorem asc_detect {l : List Int} (h : Asc l) : detect l = (0, 0) := by
  match l, h with
  | [], _ => rfl
  | x :: t, h =>
    have hx := h x List.mem_cons_self
    have e0 : ¬ x = 0 := by omega
    have e1 : ¬ x = 254 := by omega
    have e2 : ¬ x = 255 := by omega
    have e3 : ¬ x = 239 := by omega
    match t, h with
    | [], _ => simp [detect, detect1, detect2, detect3, pre, nz, rd, e0, e1, e2, e3]
    | y :: u, h =>
      have hy := h y (by simp)
      have f0 : ¬ y = 0 := by omega
      simp [detect, detect1, detect2, detect3, pre, nz, rd, e0, e1, e2, e3, f0]
theorem asc_dec1 (x : Int) (t : List Int) (h : x < 128) : dec1 (x :: t) = some (x, 1) := by
  have e : rd (x :: t) 0 = x := rfl
  unfold dec1 decI
  rw [e, if_pos h]
theorem asc_plainL : ∀ (l : List Int) (n : Nat), Asc l → l.length ≤ n → plainL n l = some l
  | [], n, _, _ => by cases n <;> rfl
  | x :: t, 0, _, hn => by simp at hn
  | x :: t, n + 1, h, hn => by
    have hx := h x List.mem_cons_self
    unfold plainL
    rw [asc_dec1 x t (by omega)]
    simp only [Option.bind_some, List.drop_succ_cons, List.drop_zero]
    rw [asc_plainL t n (fun y hy => h y (List.mem_cons_of_mem _ hy)) (by simp at hn; omega)]
    rfl
theorem asc_ok {l : List Int} (h : Asc l) : ∀ r ∈ l, ok r := fun r hr => by have := h r hr; unfold ok; omega
theorem asc_may {l : List Int} (h : Asc l) : ∀ r ∈ l, may r = true := fun r hr => by
  have := h r hr
  unfold may
  exact decide_eq_true (by omega)
theorem asc_cl : ∀ l : List Int, Asc l → cl l = l
  | [], _ => rfl
  | x :: t, h => by
    have hx := h x List.mem_cons_self
    rw [cl, if_neg (by omega), asc_cl t (fun y hy => h y (List.mem_cons_of_mem _ hy)), Lib.encodeRuneZ_one (by omega) (by omega)]
    rfl
theorem asc_runes {l : List Int} (h : Asc l) : runes l = (l, 0) := by
  unfold runes
  rw [asc_detect h]
  show okAll (runesOf 0 l) = _
  have e : runesOf 0 l = some l := by
    unfold runesOf
    rw [if_pos (by decide)]
    exact asc_plainL l _ h (Nat.le_refl _)
  rw [e]
  simp only [okAll]
  rw [if_pos (asc_ok h)]
theorem asc_decoded {l : List Int} (h : Asc l) : decoded l = (str l, 0) := by
  unfold decoded
  rw [asc_runes h]
  show (if (0 : Int) = 0 then cleaned l else _) = _
  rw [if_pos rfl]
  unfold cleaned
  rw [if_pos (asc_may h), asc_cl l h]
theorem str_bytesOf (s : ByteArray) : str (bytesOf s) = s := by
  apply ByteArray.ext
  unfold str bytesOf
  apply Array.ext'
  have e : ((fun x : Int => UInt8.ofNat x.toNat) ∘ fun b : UInt8 => (b.toNat : Int)) = id := by funext b; simp
  rw [List.map_map, e, List.map_id]
theorem plain_end (s : ByteArray) (hs : s.size ≤ 2000) (h : Asc (bytesOf s)) (n : Int) (i : Int) (hi : ¬ i < n) : Ev (fun k => grillelaw01_TextPlain.l0 k s n i) true := by
  have hl : (bytesOf s).length ≤ 4294967296 := by rw [bytesOf_length]; omega
  have hd := detect_eq (bytesOf s)
  have hc := decoded_eq (bytesOf s) (asc_bts h) hl
  rw [asc_detect h] at hd
  rw [asc_decoded h, str_bytesOf] at hc
  refine Ev.succ ?_
  simp only [grillelaw01_TextPlain.l0]
  exact Ev.neg hi (Ev.bind hd (Ev.bind hc (Ev.pos rfl (Ev.pos rfl (Ev.pos rfl ((Ev.val _).eq (by simp)))))))
theorem plain_at (s : ByteArray) (hs : s.size ≤ 2000) : ∀ (n i : Nat), i + n = s.size → (∀ x ∈ (bytesOf s).take i, x = 10 ∨ (32 ≤ x ∧ x ≤ 126)) → Ev (fun k => grillelaw01_TextPlain.l0 k s (s.size : Int) (i : Int)) true
  | 0, i, h, ha => by
    refine plain_end s hs ?_ _ _ (by omega)
    rw [List.take_of_length_le (by rw [bytesOf_length]; omega)] at ha
    exact ha
  | n + 1, i, h, ha => by
    have hlen := bytesOf_length s
    have hb := rd_bytesOf s (i : Int)
    have ht := take_succ (bytesOf s) i (by omega)
    rw [hb] at ht
    have ih := plain_at s hs n (i + 1) (by omega)
    rw [← w64' i (by omega), ht] at ih
    refine Ev.succ ?_
    simp only [grillelaw01_TextPlain.l0]
    generalize bt s (i : Int) = c at ih ⊢
    refine Ev.pos (by omega) (Ev.pos (by omega) (Ev.pos (by omega) ?_))
    have go (hc : c = 10 ∨ (32 ≤ c ∧ c ≤ 126)) := ih (fun x hx => (List.mem_append.mp hx).elim (ha x) (fun hq => by rw [List.mem_singleton.mp hq]; exact hc))
    by_cases h10 : c = 10
    · exact Ev.pos h10 (go (.inl h10))
    refine Ev.neg h10 ?_
    by_cases h32 : c < 32
    · exact Ev.pos h32 (Ev.val _)
    refine Ev.neg h32 ?_
    by_cases h126 : c > 126
    · exact Ev.pos h126 (Ev.val _)
    · exact Ev.neg h126 (go (.inr ⟨by omega, by omega⟩))
theorem textPlain : grillelaw01_TextPlain.Pure := by
  intro a0 hs
  refine Ev.ex (g := fun k => grillelaw01_TextPlain.f k a0) ?_
  simp only [grillelaw01_TextPlain.f]
  refine Ev.bind (Ev.one (show grillelaw01_alive.f = some true from rfl)) (Ev.pos rfl ?_)
  by_cases hl : (a0.size : Int) > 2000
  · exact Ev.pos hl (Ev.val _)
  · exact Ev.neg hl (plain_at a0 (by omega) a0.size 0 (by omega) (by simp))
end Go.Proofs.YtdbkefgdeenjoaaDoor.Plain
namespace Go.Proofs.YtdbkefgdeenjoaaDoor.Pure
theorem TextPlain : X.grillelaw01_TextPlain.Pure := Plain.textPlain
end Go.Proofs.YtdbkefgdeenjoaaDoor.Pure
end
section
namespace Go.Proofs.YtdbkefgdeenjoaaDoor.Tabs
set_option linter.unusedVariables false
set_option linter.unusedSimpArgs false
open Go.Shelf Go.Lib
def ren : Ren := ⟨fun n => n, fun | 5 => 5 | 119 => 95 | 138 => 97 | 139 => 98 | n => n, fun | 3 => 0 | 4 => 1 | n => n⟩
theorem accept : (Rows.laid_unicode_utf8_acceptRanges : DataW Unit) = acceptData := by kernel_rfl
theorem of_laid {w : World} {l : List (String × DataW Unit)} (h : laidMet Tryd.prog l w) (h3 : ("unicode/utf8.first", Rows.laid_unicode_utf8_first) ∈ l) (h4 : ("unicode/utf8.acceptRanges", Rows.laid_unicode_utf8_acceptRanges) ∈ l) : Holds w := by
  have ht : Utf8Tabs 0 1 w := utf8Tabs_of_readsT (ρ := ren) ⟨Tryd.underlying5, Tryd.underlying95, Tryd.underlying97, Tryd.underlying98⟩ ⟨by kernel_rfl, by kernel_rfl, by kernel_rfl, by kernel_rfl, by kernel_rfl, by kernel_rfl, by kernel_rfl⟩
    (Pinned.utf8First_eq ▸ laidMet.reads h h3) (accept ▸ laidMet.reads h h4)
  refine ⟨ht, ?_⟩
  have := World.block_lt_of_cell? w _ (ht.2 0 (by decide)).1
  exact this
end Go.Proofs.YtdbkefgdeenjoaaDoor.Tabs
end
