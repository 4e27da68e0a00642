/- Words and walks that the row of TextBreaks needs: printed by programs, and plain laws. -/
import Derived.Test.YtdbkefgdeenjoaaDoorM1
import Derived.Test.YtdbkefgdeenjoaaDoorM2
import Derived.Test.YtdbkefgdeenjoaaDoorM4
import Derived.Laws.IdiomStrings
import Derived.Test.YtdbkefgdeenjoaaDoorM3
import Derived.Lib.DecodeN
import Derived.Laws.RangeAny
import Derived.Test.YtdbkefgdeenjoaaDoorM0
import Derived.Test.YtdbkefgdeenjoaaDoorRows
import Derived.Lib.LaidU8T
import Derived.PinnedBridge
import Derived.SizedLaws
import Derived.ChangeSlices
section
namespace Go.Proofs.YtdbkefgdeenjoaaDoor.X
open Go.RowKit Go.Proofs.YtdbkefgdeenjoaaDoorW.PrintWords Go.Proofs.YtdbkefgdeenjoaaDoorW.PrintLast Go.Proofs.YtdbkefgdeenjoaaDoorW.PrintMore
attribute [local go_sem] max2_int min2_int max_two min_two max_three min_three max_four min_four
set_option linter.unusedVariables false
set_option linter.unusedSimpArgs false
def slices_Equal_byte_byte.l0 : Nat → List Int → List Int → Int → Int → Option (Bool)
  | 0, _, _, _, _ => none
  | k + 1, x0, x1, x12, x13 => if x13 < x12 then (if 0 ≤ x13 then (if x13 < (x0.length : Int) then (if x13 < (x1.length : Int) then (if (rd x0 x13) = (rd x1 x13) then (slices_Equal_byte_byte.l0 k x0 x1 x12 (wrap64 (x13 + 1))) else (some false)) else (none)) else (none)) else (none)) else (some true)
def slices_Equal_byte_byte.f (k : Nat) (l0 : List Int) (l1 : List Int) : Option (Bool) := if (l0.length : Int) = (l1.length : Int) then (slices_Equal_byte_byte.l0 k l0 l1 (l0.length : Int) 0) else (some false)
set_option maxHeartbeats 8000000 in
set_option maxRecDepth 100000 in
theorem slices_Equal_byte_byte.calls (k : Nat) (A0 : Option Addr) (c0 : Nat) (l0 : List Int) (A1 : Option Addr) (c1 : Nat) (l1 : List Int) (r : Bool) (w : World) (hr0 : Kd.C (Kd.int .u8) w A0 l0.length l0) (hc0 : l0.length ≤ c0) (hr1 : Kd.C (Kd.int .u8) w A1 l1.length l1) (hc1 : l1.length ≤ c1) (h : slices_Equal_byte_byte.f k l0 l1 = some r) :
    Calls Tryd.prog 25 #[.slice A0 l0.length c0, .slice A1 l1.length c1] w fun e w' => e = .returned (.bool r) ∧ Drawn0 w w' := by
  have HR0 := Aside0.mk hr0
  have HC0 := Aside0.mk hc0
  clear hr0 hc0
  have HR1 := Aside0.mk hr1
  have HC1 := Aside0.mk hc1
  clear hr1 hc1
  have H : (if (l0.length : Int) = (l1.length : Int) then (slices_Equal_byte_byte.l0 k l0 l1 (l0.length : Int) 0) else (some false)) = some r := h
  clear h
  by_cases c3 : (l0.length : Int) = (l1.length : Int)
  · rw [if_pos c3] at H
    have c3b0 : ((l0.length : Int) == (l1.length : Int)) = true := beq_iff_eq.mpr c3
    have c3b1 : ((l0.length : Int) != (l1.length : Int)) = false := bne_eq_false_iff_eq.mpr c3
    have c3b2 : (l0.length == l1.length) = true := by first | simpa using c3 | (simp at c3 ⊢; omega)
    clear c3
    have H' := Aside0.mk H
    clear H
    go_enter Tryd.func25, Tryd.ntmps25
    go_wp2
    repeat (go_quiet (fail); try go_wp2)
    go_loopg [13] k (fun kq v13 w' => ∃ (x13_1 : Int), v13 = .int .i64 x13_1 ∧ Aside0 (slices_Equal_byte_byte.l0 kq l0 l1 (l0.length : Int) x13_1 = some r) ∧ Aside0 (kq ≤ k) ∧ Drawn0 w w')
    case atStart => exact ⟨(0), (by first | rfl | (simp; done) | (simp [*]; done) | (simp [xbne_nil, xbeq_nil]; done)), H', ⟨Nat.le_refl _⟩, by repeat (first | exact Drawn0.refl _ | apply Drawn0.step)⟩
    case round =>
      clear H'
      try clear c1
      try clear c2
      try clear p2
      try clear c3
      try clear c3b0
      try clear c3b1
      try clear c3b2
      obtain ⟨x13_1, rfl, HA, HK1, ⟨m1, rfl⟩⟩ := hrel
      cases gk with
      | zero => exact absurd HA.out (by simp [slices_Equal_byte_byte.l0])
      | succ k1 =>
        have H := HA.out
        clear HA
        simp only [slices_Equal_byte_byte.l0] at H
        by_cases c4 : x13_1 < (l0.length : Int)
        · rw [if_pos c4] at H
          have c4b0 : decide (x13_1 < (l0.length : Int)) = true := decide_eq_true c4
          clear c4
          by_cases c5 : 0 ≤ x13_1
          · rw [if_pos c5] at H
            have c5b0 : decide (0 ≤ x13_1) = true := decide_eq_true c5
            clear c5
            by_cases c6 : x13_1 < (l0.length : Int)
            · rw [if_pos c6] at H
              have c6b0 : decide (x13_1 < (l0.length : Int)) = true := decide_eq_true c6
              clear c6
              by_cases c7 : x13_1 < (l1.length : Int)
              · rw [if_pos c7] at H
                have c7b0 : decide (x13_1 < (l1.length : Int)) = true := decide_eq_true c7
                clear c7
                by_cases c8 : (rd l0 x13_1) = (rd l1 x13_1)
                · rw [if_pos c8] at H
                  have c8b0 : ((rd l0 x13_1) == (rd l1 x13_1)) = true := beq_iff_eq.mpr c8
                  have c8b1 : ((rd l0 x13_1) != (rd l1 x13_1)) = false := bne_eq_false_iff_eq.mpr c8
                  clear c8
                  have H' := Aside0.mk H
                  clear H
                  have p227 : 0 ≤ (x13_1 : Int) := of_decide_eq_true (by first | (with_reducible assumption) | assumption)
                  have q227 : x13_1 < (l0.length : Int) := of_decide_eq_true (by first | (with_reducible assumption) | assumption)
                  obtain ⟨ad227, e227, hx227_0⟩ := Kd.at_int HR0.out x13_1 p227 q227
                  cases e227
                  replace p227 := eq_true p227
                  replace q227 := eq_true q227
                  have p228 : 0 ≤ (x13_1 : Int) := of_decide_eq_true (by first | (with_reducible assumption) | assumption)
                  have q228 : x13_1 < (l1.length : Int) := of_decide_eq_true (by first | (with_reducible assumption) | assumption)
                  obtain ⟨ad228, e228, hx228_0⟩ := Kd.at_int HR1.out x13_1 p228 q228
                  cases e228
                  replace p228 := eq_true p228
                  replace q228 := eq_true q228
                  go_wp2
                  repeat (go_quiet (fail); try go_wp2)
                  go_roundg k1
                  case measure => have := HK1.out; omega
                  case rel => exact ⟨(wrap64 (x13_1 + 1)), (by first | rfl | (simp; done) | (simp [*]; done) | (simp [xbne_nil, xbeq_nil]; done)), H', ⟨by have := HK1.out; omega⟩, by repeat (first | exact Drawn0.refl _ | apply Drawn0.step)⟩
                · rw [if_neg c8] at H
                  have c8b0 : ((rd l0 x13_1) == (rd l1 x13_1)) = false := beq_eq_false_iff_ne.mpr c8
                  have c8b1 : ((rd l0 x13_1) != (rd l1 x13_1)) = true := bne_iff_ne.mpr c8
                  obtain rfl := Option.some.inj H
                  have p227 : 0 ≤ (x13_1 : Int) := of_decide_eq_true (by first | (with_reducible assumption) | assumption)
                  have q227 : x13_1 < (l0.length : Int) := of_decide_eq_true (by first | (with_reducible assumption) | assumption)
                  obtain ⟨ad227, e227, hx227_0⟩ := Kd.at_int HR0.out x13_1 p227 q227
                  cases e227
                  replace p227 := eq_true p227
                  replace q227 := eq_true q227
                  have p228 : 0 ≤ (x13_1 : Int) := of_decide_eq_true (by first | (with_reducible assumption) | assumption)
                  have q228 : x13_1 < (l1.length : Int) := of_decide_eq_true (by first | (with_reducible assumption) | assumption)
                  obtain ⟨ad228, e228, hx228_0⟩ := Kd.at_int HR1.out x13_1 p228 q228
                  cases e228
                  replace p228 := eq_true p228
                  replace q228 := eq_true q228
                  go_wp2
                  repeat (go_quiet (fail); try go_wp2)
                  go_ret
                  exact ⟨by first | rfl | (simp; done) | (simp [*]; done) | (simp [xbne_nil, xbeq_nil]; done), by repeat (first | exact Drawn0.refl _ | apply Drawn0.step)⟩
              · rw [if_neg c7] at H
                exact absurd H (by simp)
            · rw [if_neg c6] at H
              exact absurd H (by simp)
          · rw [if_neg c5] at H
            exact absurd H (by simp)
        · rw [if_neg c4] at H
          have c4b0 : decide (x13_1 < (l0.length : Int)) = false := decide_eq_false c4
          clear c4
          obtain rfl := Option.some.inj H
          go_wp2
          repeat (go_quiet (fail); try go_wp2)
          go_ret
          exact ⟨by first | rfl | (simp; done) | (simp [*]; done) | (simp [xbne_nil, xbeq_nil]; done), by repeat (first | exact Drawn0.refl _ | apply Drawn0.step)⟩
  · rw [if_neg c3] at H
    have c3b0 : ((l0.length : Int) == (l1.length : Int)) = false := beq_eq_false_iff_ne.mpr c3
    have c3b1 : ((l0.length : Int) != (l1.length : Int)) = true := bne_iff_ne.mpr c3
    have c3b2 : (l0.length == l1.length) = false := by first | simpa using c3 | (simp at c3 ⊢; omega)
    obtain rfl := Option.some.inj H
    go_enter Tryd.func25, Tryd.ntmps25
    go_wp2
    repeat (go_quiet (fail); try go_wp2)
    go_ret
    exact ⟨by first | rfl | (simp; done) | (simp [*]; done) | (simp [xbne_nil, xbeq_nil]; done), by repeat (first | exact Drawn0.refl _ | apply Drawn0.step)⟩
def grillelaw01_alive.f : Option Bool := some true
theorem grillelaw01_alive.s1 : text_Runes.f 9 [254, 255, 0, 97] = some ([97], 0) := by decide +kernel
theorem grillelaw01_alive.s2 : text_Decode.f 9 [97, 13, 10, 98, 13] = some ((⟨#[97, 10, 98, 10]⟩ : ByteArray), 0) := by rfl
theorem grillelaw01_alive.s3 : text_Decode.f 9 [128] = some ((⟨#[]⟩ : ByteArray), 6) := by rfl
theorem grillelaw01_alive.s4 : text_Encode.f [97] 1 = some ([255, 254, 97, 0], 0) := by decide +kernel
theorem grillelaw01_alive.s5 : text_Detect.f 9 [255, 254, 0, 0] = some (3, 4) := by decide +kernel
theorem grillelaw01_alive.s6 : slices_Equal_byte_byte.f 9 [255, 254, 97, 0] [255, 254, 97, 0] = some true := by decide +kernel
theorem grillelaw01_alive.s7 : text_May.f 97 = some true := by decide +kernel
theorem grillelaw01_alive.s8 : text_May.f 0 = some false := by decide +kernel
theorem grillelaw01_alive.row {w : World} {g : Nat} {k : IntKind} {t : TypeId} {fr : Nat × Nat} (xs : List Int) (h : w.heap[g]? = some (.cells (nums k xs).toArray t fr)) (hl : xs.length ≤ 4096) : Kd.C (Kd.int k) w (some ⟨g, 0, none⟩) xs.length xs := by
  refine Kd.C_of_reads (d := 0) ⟨rfl, by omega, fun _ => ⟨_, rfl, fun j hj => ?_⟩⟩
  have e : (⟨g, 0, none⟩ : Addr).add j = ⟨g, j, none⟩ := by cases j with
    | zero => rfl
    | succ j => simp [Addr.add]
  rw [e, cell_of_row w g j _ t fr h]
  simp [nums, List.getElem?_eq_getElem hj, List.getD_eq_getElem?_getD]
  done
set_option maxHeartbeats 4000000 in
set_option maxRecDepth 100000 in
theorem grillelaw01_alive.calls (r : Bool) (w : World) (hT : Tabs.Holds w) (h : grillelaw01_alive.f = some r) :
    Calls Tryd.prog 10 #[] w fun e w' => e = .returned (.bool r) ∧ Below w.heap.size w w' := by
  obtain rfl : true = r := Option.some.inj h
  clear h
  have HT := Aside0.mk hT
  clear hT
  go_enter Tryd.func10, Tryd.ntmps10
  go_wp2_with fail
  have b0 : Below w.heap.size w (w.alloc (.cells #[.int .u8 254, .int .u8 255, .int .u8 0, .int .u8 97] 5)) := below_alloc (Below.refl _ _) _
  refine (text_Runes.calls 9 _ 4 [254, 255, 0, 97] [97] 0 _ (grillelaw01_alive.row _ (blk_new w _) (by decide)) (by decide) (HT.out.below b0) grillelaw01_alive.s1).mono ?_
  rintro e w1 ⟨v1, rfl, hR1, hb1⟩
  obtain ⟨A1, c1, rfl, hc1, hC1⟩ := Kd.R_reads hR1
  have B1 := Aside0.mk (below_step b0 hb1)
  have C1 := Aside0.mk hC1
  clear b0 hb1 hR1 hC1
  go_wp2_with fail
  rw [Lib.run_convert_bytes_const w1 22 5 #[.int .u8 97, .int .u8 13, .int .u8 10, .int .u8 98, .int .u8 13] 5 5 Tryd.underlying22 Tryd.underlying5]
  go_wp2_with fail
  have b1 : Below w.heap.size w (w1.alloc (.cells #[.int .u8 97, .int .u8 13, .int .u8 10, .int .u8 98, .int .u8 13] 5 (5, 6))) := below_alloc B1.out _
  refine (text_Decode.calls 9 _ 5 [97, 13, 10, 98, 13] (⟨#[97, 10, 98, 10]⟩ : ByteArray) 0 _ (grillelaw01_alive.row _ (blk_new w1 _) (by decide)) (by decide) (HT.out.below b1) grillelaw01_alive.s2).mono ?_
  rintro e w2 ⟨rfl, hb2⟩
  have B2 := Aside0.mk (below_step b1 hb2)
  have C2 := Aside0.mk (Kd.C_below (Kd.C_alloc C1.out _) hb2)
  clear b1 hb2 C1 B1
  go_wp2_with fail
  have b2 : Below w.heap.size w (w2.alloc (.cells #[.int .u8 128] 5)) := below_alloc B2.out _
  refine (text_Decode.calls 9 _ 1 [128] (⟨#[]⟩ : ByteArray) 6 _ (grillelaw01_alive.row _ (blk_new w2 _) (by decide)) (by decide) (HT.out.below b2) grillelaw01_alive.s3).mono ?_
  rintro e w3 ⟨rfl, hb3⟩
  have B3 := Aside0.mk (below_step b2 hb3)
  have C3 := Aside0.mk (Kd.C_below (Kd.C_alloc C2.out _) hb3)
  clear b2 hb3 C2 B2
  go_wp2_with fail
  have b3 : Below w.heap.size w (w3.alloc (.cells #[.int .i32 97] 21)) := below_alloc B3.out _
  refine (text_Encode.calls _ 1 [97] 1 [255, 254, 97, 0] 0 _ (grillelaw01_alive.row _ (blk_new w3 _) (by decide)) (by decide) grillelaw01_alive.s4).mono ?_
  rintro e w4 ⟨v4, rfl, hR4, hb4⟩
  obtain ⟨A4, c4, rfl, hc4, hC4⟩ := Kd.R_reads hR4
  have B4 := Aside0.mk (below_step b3 hb4)
  have C4 := Aside0.mk (Kd.C_below (Kd.C_alloc C3.out _) hb4)
  have D4 := Aside0.mk hC4
  clear b3 hb4 C3 B3 hC4 hR4
  go_wp2_with fail
  have b4 : Below w.heap.size w (w4.alloc (.cells #[.int .u8 255, .int .u8 254, .int .u8 0, .int .u8 0] 5)) := below_alloc B4.out _
  refine (text_Detect.calls 9 _ 4 [255, 254, 0, 0] 3 4 _ (grillelaw01_alive.row _ (blk_new w4 _) (by decide)) (by decide) grillelaw01_alive.s5).mono ?_
  rintro e w5 ⟨rfl, hb5⟩
  have B5 := Aside0.mk (below_step b4 hb5)
  have C5 := Aside0.mk (Kd.C_below (Kd.C_alloc C4.out _) hb5)
  have D5 := Aside0.mk (Kd.C_below (Kd.C_alloc D4.out _) hb5)
  clear b4 hb5 C4 D4 B4
  obtain ⟨ad5, rfl, hx5⟩ := Kd.at_int C5.out 0 (by decide) (by decide)
  have e5 : w5.cell? ad5 = some (.int .i32 97) := by simpa [Addr.add, rd] using hx5
  clear hx5
  go_wp2_with fail
  have b5 : Below w.heap.size w (w5.alloc (.cells #[.int .u8 255, .int .u8 254, .int .u8 97, .int .u8 0] 5)) := below_alloc B5.out _
  refine (slices_Equal_byte_byte.calls 9 _ c4 [255, 254, 97, 0] _ 4 [255, 254, 97, 0] true _ (Kd.C_alloc D5.out _) hc4 (grillelaw01_alive.row _ (blk_new w5 _) (by decide)) (by decide) grillelaw01_alive.s6).mono ?_
  rintro e w6 ⟨rfl, ⟨n6, rfl⟩⟩
  have B6 := Aside0.mk b5
  clear b5 C5 D5 B5
  go_wp2_with fail
  refine (text_May.calls 97 true _ grillelaw01_alive.s7).mono ?_
  rintro e w7 ⟨rfl, ⟨n7, rfl⟩⟩
  go_wp2_with fail
  refine (text_May.calls 0 false _ grillelaw01_alive.s8).mono ?_
  rintro e w8 ⟨rfl, ⟨n8, rfl⟩⟩
  go_wp2
  go_ret
  exact ⟨rfl, pw_below_drewN B6.out _⟩
end Go.Proofs.YtdbkefgdeenjoaaDoor.X
end
section
namespace Go.Proofs.YtdbkefgdeenjoaaDoor.X
open Go.RowKit Go.Proofs.YtdbkefgdeenjoaaDoorW.PrintWords Go.Proofs.YtdbkefgdeenjoaaDoorW.PrintLast Go.Proofs.YtdbkefgdeenjoaaDoorW.PrintMore
set_option linter.unusedVariables false
set_option linter.unusedSimpArgs false
theorem conv_row {w : World} {g : Nat} {k : IntKind} {t : TypeId} {fr : Nat × Nat} (xs : List Int) (more : List Value) (h : w.heap[g]? = some (.cells (nums k xs ++ more).toArray t fr)) (hl : xs.length ≤ maxLen) : Kd.C (Kd.int k) w (some ⟨g, 0, none⟩) xs.length xs := by
  refine Kd.C_of_reads (d := 0) ⟨rfl, hl, fun _ => ⟨_, rfl, fun j hj => ?_⟩⟩
  have e : (⟨g, 0, none⟩ : Addr).add j = ⟨g, j, none⟩ := by cases j with
    | zero => rfl
    | succ j => simp [Addr.add]
  rw [e, cell_of_row w g j _ t fr h]
  simp [nums, List.getElem?_append, hj, List.getElem?_eq_getElem hj, List.getD_eq_getElem?_getD]
  done
def runesZ : Nat → ByteArray → Nat → List Int
  | 0, _, _ => []
  | n + 1, s, i => if i < s.size then ((Utf8.decode s i).1 : Int) :: runesZ n s (i + (Utf8.decode s i).2) else []
theorem runesFrom_eq (s : ByteArray) : ∀ (n i : Nat) (acc : Array Value), Conv.runesFrom s n i acc = acc ++ (nums .i32 (runesZ n s i)).toArray
  | 0, i, acc => by simp [Conv.runesFrom, runesZ, nums]
  | n + 1, i, acc => by
    unfold Conv.runesFrom runesZ
    by_cases h : i < s.size
    · rw [if_pos h, if_pos h]
      show Conv.runesFrom s n (i + (Utf8.decode s i).2) (acc.push (Value.int .i32 ((Utf8.decode s i).1 : Int))) = _
      rw [runesFrom_eq s n]
      apply Array.ext'
      simp [nums]
    · rw [if_neg h, if_neg h]
      simp [nums]
theorem runesZ_length (s : ByteArray) : ∀ (n i : Nat), (runesZ n s i).length ≤ n
  | 0, i => by simp [runesZ]
  | n + 1, i => by
    unfold runesZ
    split
    · have := runesZ_length s n (i + (Utf8.decode s i).2)
      simp; omega
    · simp
theorem conv32_ {P : Program} {ops : Array Oper} {rest : List Oper} {oi : Oper} {a : Act} {Q : Exit → Act → World → Prop} {w : World} (N : Option Tmp) (hd : oi.dst = N) (hg : oi.guard = none) (src dst e : TypeId) (x : Operand) (s : ByteArray) (hop : oi.op = .convert src dst x) (hx : a.eval x = .string s)
    (hs : P.underlying src = some .string) (ht : P.underlying dst = some (.slice e)) (he : P.underlying e = some (.int .i32)) (hl : s.size ≤ 1000000)
    (h : ∀ c w', (runesZ s.size s 0).length ≤ c → Kd.C (Kd.int .i32) w' (some ⟨w.heap.size, 0, none⟩) (runesZ s.size s 0).length (runesZ s.size s 0) → Below w.heap.size w w' → wpList P ops Q rest (a.put N (.slice (some ⟨w.heap.size, 0, none⟩) (runesZ s.size s 0).length c)) w') : wpList P ops Q (oi :: rest) a w := by
  subst hd
  have hq := runesZ_length s s.size 0
  have hr := run_runes_of_string w src dst e s hs ht he
  rw [runesFrom_eq s s.size 0 #[]] at hr
  have hsz : (#[] ++ (nums .i32 (runesZ s.size s 0)).toArray : Array Value).size = (runesZ s.size s 0).length := by simp [nums]
  rw [hsz] at hr
  have hr := hr (by omega)
  generalize hn : (runesZ s.size s 0).length = n at *
  have hc : n ≤ grownCap w n 0 e := grownCap_ge w n 0 e
  have hrun : (execOp a.eval oi).run P w = .ok (.value (.slice (some ⟨w.heap.size, 0, none⟩) n (grownCap w n 0 e))) (w.drew.alloc (.cells (#[] ++ (nums .i32 (runesZ s.size s 0)).toArray ++ Array.replicate (grownCap w n 0 e - n) (.int .i32 0)) e)) := by
    unfold execOp
    simp only [hop, hx]
    simp [hr]
  refine Kd.event_run hg hrun ?_
  have hb : Below w.heap.size w (w.drew.alloc (.cells (#[] ++ (nums .i32 (runesZ s.size s 0)).toArray ++ Array.replicate (grownCap w n 0 e - n) (.int .i32 0)) e)) := below_alloc (below_drew1 (Below.refl _ _)) _
  refine h _ _ hc ?_ hb
  have hC := conv_row (w := w.drew.alloc (.cells (#[] ++ (nums .i32 (runesZ s.size s 0)).toArray ++ Array.replicate (grownCap w n 0 e - n) (.int .i32 0)) e)) (g := w.heap.size) (k := .i32) (t := e) (fr := (0, 0)) (runesZ s.size s 0) (List.replicate (grownCap w n 0 e - n) (Value.int .i32 0)) ?_ (by unfold maxLen; omega)
  · rw [hn] at hC; exact hC
  · have e1 : (nums .i32 (runesZ s.size s 0) ++ List.replicate (grownCap w n 0 e - n) (Value.int .i32 0)).toArray = #[] ++ (nums .i32 (runesZ s.size s 0)).toArray ++ Array.replicate (grownCap w n 0 e - n) (.int .i32 0) := by
      apply Array.ext'
      simp
    rw [e1]
    exact blk_new w.drew _
theorem conv32q_ {P : Program} {ops : Array Oper} {rest : List Oper} {oi : Oper} {a : Act} {Q : Exit → Act → World → Prop} {w : World} (N : Option Tmp) (hd : oi.dst = N) (hg : oi.guard = none) (src dst e : TypeId) (x : Operand) (s : ByteArray) (q : List Int) (hz : runesZ s.size s 0 = q) (hop : oi.op = .convert src dst x) (hx : a.eval x = .string s)
    (hs : P.underlying src = some .string) (ht : P.underlying dst = some (.slice e)) (he : P.underlying e = some (.int .i32)) (hl : s.size ≤ 1000000)
    (h : ∀ c w', q.length ≤ c → Kd.C (Kd.int .i32) w' (some ⟨w.heap.size, 0, none⟩) q.length q → Below w.heap.size w w' → wpList P ops Q rest (a.put N (.slice (some ⟨w.heap.size, 0, none⟩) q.length c)) w') : wpList P ops Q (oi :: rest) a w := by
  subst hz
  exact conv32_ N hd hg src dst e x s hop hx hs ht he hl h
end Go.Proofs.YtdbkefgdeenjoaaDoor.X
end
section
namespace Go.Proofs.YtdbkefgdeenjoaaDoor.Plain
set_option linter.unusedVariables false
set_option linter.unusedSimpArgs false
variable {α β : Type}
def Ev (g : Nat → Option α) (v : α) : Prop := ∃ K, ∀ k, K ≤ k → g k = some v
theorem Ev.ex {g : Nat → Option α} {v : α} (h : Ev g v) : ∃ k, g k = some v := let ⟨K, hk⟩ := h; ⟨K, hk K (Nat.le_refl _)⟩
theorem Ev.all {g : Nat → Option α} {v : α} (h : ∀ k, g k = some v) : Ev g v := ⟨0, fun k _ => h k⟩
theorem Ev.val (v : α) : Ev (fun _ => some v) v := ⟨0, fun _ _ => rfl⟩
theorem Ev.eq {g : Nat → Option α} {v u : α} (h : Ev g v) (e : v = u) : Ev g u := e ▸ h
theorem Ev.congr {f g : Nat → Option α} {v : α} (h : Ev g v) (e : ∀ k, f k = g k) : Ev f v := let ⟨K, hk⟩ := h; ⟨K, fun k hK => (e k).trans (hk k hK)⟩
theorem Ev.one {c : Option α} {v : α} (h : c = some v) : Ev (fun _ => c) v := ⟨0, fun _ _ => h⟩
theorem Ev.succ {g : Nat → Option α} {v : α} (h : Ev (fun k => g (k + 1)) v) : Ev g v := by
  obtain ⟨K, hk⟩ := h
  refine ⟨K + 1, fun k hK => ?_⟩
  obtain ⟨m, rfl⟩ : ∃ m, k = m + 1 := ⟨k - 1, by omega⟩
  exact hk m (by omega)
theorem Ev.bind {f : Nat → Option α} {g : Nat → α → Option β} {a : α} {b : β} (hf : Ev f a) (hg : Ev (fun k => g k a) b) : Ev (fun k => (f k).bind (g k)) b := by
  obtain ⟨K, hk⟩ := hf
  obtain ⟨L, hl⟩ := hg
  refine ⟨max K L, fun k h => ?_⟩
  show (f k).bind (g k) = _
  rw [hk k (by omega)]
  exact hl k (by omega)
theorem Ev.pos {c : Prop} [Decidable c] {f g : Nat → Option α} {v : α} (hc : c) (h : Ev f v) : Ev (fun k => if c then f k else g k) v := h.congr (fun k => if_pos hc)
theorem Ev.neg {c : Prop} [Decidable c] {f g : Nat → Option α} {v : α} (hc : ¬ c) (h : Ev g v) : Ev (fun k => if c then f k else g k) v := h.congr (fun k => if_neg hc)
theorem Ev.ite {c : Prop} [Decidable c] {f g : Nat → Option α} {v u : α} (h : c → Ev f v) (h' : ¬ c → Ev g u) : Ev (fun k => if c then f k else g k) (if c then v else u) := by
  by_cases hc : c
  · rw [if_pos hc]; exact Ev.pos hc (h hc)
  · rw [if_neg hc]; exact Ev.neg hc (h' hc)
end Go.Proofs.YtdbkefgdeenjoaaDoor.Plain
end
section
namespace Go.Proofs.YtdbkefgdeenjoaaDoor.Plain
set_option linter.unusedVariables false
set_option linter.unusedSimpArgs false
open Go.RowKit Go.Proofs.YtdbkefgdeenjoaaDoor.X Go.Proofs.YtdbkefgdeenjoaaDoorW.PrintWords Go.Proofs.YtdbkefgdeenjoaaDoorW.PrintLast Go.Proofs.YtdbkefgdeenjoaaDoorW.PrintMore
def u2 (r : Int) (big : Bool) : List Int := if big then [r / 256 % 256, r % 256] else [r % 256, r / 256 % 256]
def u4 (r : Int) (big : Bool) : List Int := if big then [r / 16777216 % 256, r / 65536 % 256, r / 256 % 256, r % 256] else [r % 256, r / 256 % 256, r / 65536 % 256, r / 16777216 % 256]
def enc1 (size : Int) (big : Bool) (r : Int) : List Int :=
  if size = 1 then Lib.encodeRuneZ r else if size = 2 then (if 65536 ≤ r then u2 (55296 + (r - 65536) / 1024) big ++ u2 (56320 + (r - 65536) % 1024) big else u2 r big) else u4 r big
theorem w64 (n : Int) (h0 : -9223372036854775808 ≤ n) (h1 : n ≤ 9223372036854775807) : wrap64 n = n := by unfold wrap64; omega
def ok (r : Int) : Prop := 0 ≤ r ∧ r ≤ 1114111 ∧ ¬ (55296 ≤ r ∧ r ≤ 57343)
instance (r : Int) : Decidable (ok r) := by unfold ok; infer_instance
theorem valid_eq (r : Int) : utf8_ValidRune.f r = some (decide (ok r)) := by
  unfold utf8_ValidRune.f ok
  repeat' split
  all_goals (simp only [Option.some.injEq]; symm; simp; omega)
def sizeOf (code : Int) : Int := if code = 2 ∨ code = 1 then 2 else if code = 4 ∨ code = 3 then 4 else 1
def bigOf (code : Int) : Bool := decide (code = 2 ∨ code = 4)
theorem wide_eq (code : Int) : text_wide.f code = some (sizeOf code, bigOf code) := by
  unfold text_wide.f sizeOf bigOf
  repeat' split
  all_goals simp_all
theorem sizes (code : Int) : sizeOf code = 1 ∨ sizeOf code = 2 ∨ sizeOf code = 4 := by
  unfold sizeOf
  split
  · simp
  · split <;> simp
end Go.Proofs.YtdbkefgdeenjoaaDoor.Plain
end
section
namespace Go.Proofs.YtdbkefgdeenjoaaDoor.Plain
set_option linter.unusedVariables false
set_option linter.unusedSimpArgs false
open Go.RowKit Go.Proofs.YtdbkefgdeenjoaaDoor.X Go.Proofs.YtdbkefgdeenjoaaDoorW.PrintWords Go.Proofs.YtdbkefgdeenjoaaDoorW.PrintLast Go.Proofs.YtdbkefgdeenjoaaDoorW.PrintMore
def pre : List Int → List Int → Bool
  | [], _ => true
  | _ :: _, [] => false
  | x :: r, y :: b => y == x && pre r b
theorem w64' (n : Nat) (h : n < 4611686018427387904) : wrap64 ((n : Int) + 1) = ((n + 1 : Nat) : Int) := by unfold wrap64; omega
theorem rd_nat (l : List Int) (i : Nat) (h : i < l.length) : rd l (i : Int) = l[i] := by
  unfold rd
  rw [List.getD_eq_getElem?_getD, show ((i : Int)).toNat = i from by omega, List.getElem?_eq_getElem h]
  rfl
theorem drop_nat (l : List Int) (i : Nat) (h : i < l.length) : l.drop i = rd l (i : Int) :: l.drop (i + 1) := by
  rw [rd_nat l i h]; exact List.drop_eq_getElem_cons h
theorem at_eq (b : List Int) (i : Nat) : text_at.f b (i : Int) = some (if i < b.length then (rd b (i : Int), true) else (0, false)) := by
  unfold text_at.f
  by_cases h : i < b.length
  · rw [if_neg (by omega), if_pos (by omega), if_pos (by omega), if_pos h]
  · rw [if_pos (by omega), if_neg h]
theorem begins_loop (b row : List Int) (hl : row.length < 4611686018427387904) : ∀ (n i : Nat), i + n = row.length → Ev (fun k => text_begins.l0 k b row (row.length : Int) (i : Int)) (pre (row.drop i) (b.drop i))
  | 0, i, h => by
    refine Ev.succ ?_
    simp only [text_begins.l0]
    refine Ev.neg (by omega) ?_
    rw [List.drop_eq_nil_of_le (by omega)]
    exact Ev.val _
  | n + 1, i, h => by
    refine Ev.succ ?_
    simp only [text_begins.l0]
    refine Ev.pos (by omega) (Ev.pos (by omega) (Ev.pos (by omega) ?_))
    rw [at_eq]
    simp only [Option.bind_some]
    rw [drop_nat row i (by omega)]
    by_cases hb : i < b.length
    · rw [if_pos hb, drop_nat b i hb]
      refine Ev.pos rfl ?_
      by_cases he : rd b (i : Int) = rd row (i : Int)
      · refine Ev.pos he ?_
        rw [w64' i (by omega)]
        refine (begins_loop b row hl n (i + 1) (by omega)).eq ?_
        simp [pre, he]
      · refine Ev.neg he ?_
        refine (Ev.val _).eq ?_
        simp [pre, he]
    · have hd : b.drop i = [] := List.drop_eq_nil_of_le (by omega)
      rw [if_neg hb, hd]
      refine Ev.neg (by simp) ?_
      exact (Ev.val false).eq rfl
theorem begins_eq (b row : List Int) (hl : row.length < 4611686018427387904) : Ev (fun k => text_begins.f k b row) (pre row b) := by
  simp only [text_begins.f]
  exact (begins_loop b row hl row.length 0 (by omega)).eq (by simp)
def nz (b : List Int) (i : Nat) : Bool := decide (i < b.length) && rd b (i : Int) != 0
theorem some_eq (b : List Int) (i : Nat) : text_some.f b (i : Int) = some (nz b i) := by
  unfold text_some.f nz
  rw [at_eq]
  by_cases h : i < b.length <;> simp [h]
def detect3 (b : List Int) : Int × Int := if (nz b 0 && pre [0] (b.drop 1)) = true then (1, 0) else if pre [239, 187, 191] b = true then (0, 3) else (0, 0)
def detect2 (b : List Int) : Int × Int := if (pre [0] b && nz b 1) = true then (2, 0) else if pre [255, 254] b = true then (1, 2) else detect3 b
def detect1 (b : List Int) : Int × Int := if (nz b 0 && pre [0, 0, 0] (b.drop 1)) = true then (3, 0) else if pre [254, 255] b = true then (2, 2) else detect2 b
def detect (b : List Int) : Int × Int := if pre [0, 0, 254, 255] b = true then (4, 4) else if (pre [0, 0, 0] b && nz b 3) = true then (4, 0) else if pre [255, 254, 0, 0] b = true then (3, 4) else detect1 b
theorem j3_eq (b : List Int) (x : Bool) : Ev (fun k => text_Detect.j3 k b 0 x) (if x = true then (1, 0) else if pre [239, 187, 191] b = true then (0, 3) else (0, 0)) := by
  refine Ev.succ ?_
  simp only [text_Detect.j3]
  refine Ev.ite (fun _ => Ev.val _) (fun _ => ?_)
  refine Ev.bind (begins_eq _ _ (by decide)) ?_
  exact Ev.ite (fun _ => Ev.val _) (fun _ => Ev.val _)
theorem j2_eq (b : List Int) (x : Bool) : Ev (fun k => text_Detect.j2 k b 0 x) (if x = true then (2, 0) else if pre [255, 254] b = true then (1, 2) else detect3 b) := by
  refine Ev.succ ?_
  simp only [text_Detect.j2]
  refine Ev.ite (fun _ => Ev.val _) (fun _ => ?_)
  refine Ev.bind (begins_eq _ _ (by decide)) ?_
  refine Ev.ite (fun _ => Ev.val _) (fun _ => ?_)
  rw [show text_some.f b 0 = some (nz b 0) from some_eq b 0]
  simp only [Option.bind_some]
  unfold detect3
  by_cases h0 : nz b 0 = true
  · refine Ev.pos h0 ?_
    by_cases h1 : (b.length : Int) > 1
    · refine Ev.pos h1 (Ev.pos (by omega) (Ev.bind (begins_eq _ _ (by decide)) ?_))
      exact (j3_eq b _).eq (by simp [h0])
    · refine Ev.neg h1 ((j3_eq b _).eq ?_)
      rw [List.drop_eq_nil_of_le (by omega)]
      simp [pre]
  · refine Ev.neg h0 ((j3_eq b _).eq ?_)
    simp [h0]
theorem j1_eq (b : List Int) (x : Bool) : Ev (fun k => text_Detect.j1 k b 0 x) (if x = true then (3, 0) else if pre [254, 255] b = true then (2, 2) else detect2 b) := by
  refine Ev.succ ?_
  simp only [text_Detect.j1]
  refine Ev.ite (fun _ => Ev.val _) (fun _ => ?_)
  refine Ev.bind (begins_eq _ _ (by decide)) ?_
  refine Ev.ite (fun _ => Ev.val _) (fun _ => ?_)
  refine Ev.bind (begins_eq _ _ (by decide)) ?_
  rw [show text_some.f b 1 = some (nz b 1) from some_eq b 1]
  simp only [Option.bind_some]
  unfold detect2
  by_cases h0 : pre [0] b = true
  · refine Ev.pos h0 ((j2_eq b _).eq ?_)
    simp [h0]
  · refine Ev.neg h0 ((j2_eq b _).eq ?_)
    simp [h0]
theorem j0_eq (b : List Int) (x : Bool) : Ev (fun k => text_Detect.j0 k b 0 x) (if x = true then (4, 0) else if pre [255, 254, 0, 0] b = true then (3, 4) else detect1 b) := by
  refine Ev.succ ?_
  simp only [text_Detect.j0]
  refine Ev.ite (fun _ => Ev.val _) (fun _ => ?_)
  refine Ev.bind (begins_eq _ _ (by decide)) ?_
  refine Ev.ite (fun _ => Ev.val _) (fun _ => ?_)
  rw [show text_some.f b 0 = some (nz b 0) from some_eq b 0]
  simp only [Option.bind_some]
  unfold detect1
  by_cases h0 : nz b 0 = true
  · refine Ev.pos h0 ?_
    by_cases h1 : (b.length : Int) > 3
    · refine Ev.pos h1 (Ev.pos (by omega) (Ev.bind (begins_eq _ _ (by decide)) ?_))
      exact (j1_eq b _).eq (by simp [h0])
    · refine Ev.neg h1 ((j1_eq b _).eq ?_)
      have : pre [0, 0, 0] (b.drop 1) = false := by
        match b, h1 with
        | [], _ => rfl
        | [_], _ => rfl
        | [_, _], _ => simp [pre]
        | [_, _, _], _ => simp [pre]
        | _ :: _ :: _ :: _ :: _, h1 => exact absurd (by simp only [List.length_cons]; omega) h1
      rw [this]
      simp
  · refine Ev.neg h0 ((j1_eq b _).eq ?_)
    simp [h0]
theorem detect_eq (b : List Int) : Ev (fun k => text_Detect.f k b) (detect b) := by
  simp only [text_Detect.f]
  refine Ev.bind (begins_eq _ _ (by decide)) ?_
  unfold detect
  refine Ev.ite (fun _ => Ev.val _) (fun _ => ?_)
  refine Ev.bind (begins_eq _ _ (by decide)) ?_
  rw [show text_some.f b 3 = some (nz b 3) from some_eq b 3]
  simp only [Option.bind_some]
  by_cases h0 : pre [0, 0, 0] b = true
  · refine Ev.pos h0 ((j0_eq b _).eq ?_)
    simp [h0]
  · refine Ev.neg h0 ((j0_eq b _).eq ?_)
    simp [h0]
end Go.Proofs.YtdbkefgdeenjoaaDoor.Plain
end
section
namespace Go.Proofs.YtdbkefgdeenjoaaDoor.Plain
set_option linter.unusedVariables false
set_option linter.unusedSimpArgs false
open Go.RowKit Go.Proofs.YtdbkefgdeenjoaaDoor.X Go.Proofs.YtdbkefgdeenjoaaDoorW.PrintWords Go.Proofs.YtdbkefgdeenjoaaDoorW.PrintLast Go.Proofs.YtdbkefgdeenjoaaDoorW.PrintMore
def body (code : Int) (l : List Int) : List Int := l.flatMap (enc1 (sizeOf code) (bigOf code))
end Go.Proofs.YtdbkefgdeenjoaaDoor.Plain
end
section
namespace Go.Proofs.YtdbkefgdeenjoaaDoor.Plain
set_option linter.unusedVariables false
set_option linter.unusedSimpArgs false
open Go.RowKit Go.Proofs.YtdbkefgdeenjoaaDoor.X Go.Proofs.YtdbkefgdeenjoaaDoorW.PrintWords Go.Proofs.YtdbkefgdeenjoaaDoorW.PrintLast Go.Proofs.YtdbkefgdeenjoaaDoorW.PrintMore
def Bts (l : List Int) : Prop := ∀ x ∈ l, 0 ≤ x ∧ x < 256
theorem u32_bits (n m : Nat) (hn : n < 4294967296) (hm : m < 4294967296) : Go.bits .or .u32 (n : Int) (m : Int) = ((n ||| m : Nat) : Int) := by
  unfold Go.bits
  have hx : (BitVec.ofInt IntKind.u32.bits (n : Int) ||| BitVec.ofInt IntKind.u32.bits (m : Int)).toNat = n ||| m := by
    show (BitVec.ofInt 32 (n : Int) ||| BitVec.ofInt 32 (m : Int)).toNat = n ||| m
    rw [BitVec.toNat_or]
    have h3 : (BitVec.ofInt 32 (n : Int)).toNat = n := by simp [BitVec.toNat_ofInt]; omega
    have h4 : (BitVec.ofInt 32 (m : Int)).toNat = m := by simp [BitVec.toNat_ofInt]; omega
    rw [h3, h4]
  simp only [hx]
  have hlt : n ||| m < 4294967296 := Nat.or_lt_two_pow (n := 32) hn hm
  show ((n ||| m : Nat) : Int) % 4294967296 = _
  omega
theorem or_high (i a m : Nat) (h : m < 2 ^ i) (hn : 2 ^ i * a + m < 4294967296) : Go.bits .or .u32 ((2 ^ i * a : Nat) : Int) (m : Int) = ((2 ^ i * a + m : Nat) : Int) := by
  rw [u32_bits _ _ (by omega) (by omega), ← Nat.two_pow_add_eq_or_of_lt h]
theorem or_low (i a m : Nat) (h : m < 2 ^ i) (hn : 2 ^ i * a + m < 4294967296) : Go.bits .or .u32 (m : Int) ((2 ^ i * a : Nat) : Int) = ((2 ^ i * a + m : Nat) : Int) := by
  rw [u32_bits _ _ (by omega) (by omega), Nat.or_comm, ← Nat.two_pow_add_eq_or_of_lt h]
theorem or_big (x c : Int) (hx : 0 ≤ x) (hx1 : x < 16777216) (hc : 0 ≤ c) (hc1 : c < 256) : Go.bits .or .u32 ((x * 256) % 4294967296) (c % 4294967296) = x * 256 + c := by
  obtain ⟨a, rfl⟩ : ∃ a : Nat, x = (a : Int) := ⟨x.toNat, by omega⟩
  obtain ⟨m, rfl⟩ : ∃ m : Nat, c = (m : Int) := ⟨c.toNat, by omega⟩
  have h := or_high 8 a m (by omega) (by omega)
  rw [show ((a : Int) * 256) % 4294967296 = ((2 ^ 8 * a : Nat) : Int) by omega, show (m : Int) % 4294967296 = (m : Int) by omega, h]
  omega
theorem or_little (x c : Int) (i : Nat) (hi : i ≤ 3) (hx : 0 ≤ x) (hx1 : x < 2 ^ (8 * i)) (hc : 0 ≤ c) (hc1 : c < 256) : Go.bits .or .u32 x (shl .u32 (c % 4294967296) (wrap64 (8 * (i : Int)))) = x + c * 2 ^ (8 * i) := by
  obtain ⟨a, rfl⟩ : ∃ a : Nat, x = (a : Int) := ⟨x.toNat, by omega⟩
  obtain ⟨m, rfl⟩ : ∃ m : Nat, c = (m : Int) := ⟨c.toNat, by omega⟩
  have hi4 : i = 0 ∨ i = 1 ∨ i = 2 ∨ i = 3 := by omega
  have e0 : (m : Int) % 4294967296 = (m : Int) := by omega
  rw [e0, w64 _ (by omega) (by omega)]
  rcases hi4 with rfl | rfl | rfl | rfl
  · have h := or_low 0 m a (by simp at hx1 ⊢; omega) (by simp at hx1 ⊢; omega)
    have e : shl .u32 (m : Int) (8 * ((0 : Nat) : Int)) = ((2 ^ 0 * m : Nat) : Int) := by
      show ((m : Int) * 1) % 4294967296 = _
      omega
    rw [e, h]; simp; omega
  · have h := or_low 8 m a (by simp at hx1 ⊢; omega) (by simp at hx1 ⊢; omega)
    have e : shl .u32 (m : Int) (8 * ((1 : Nat) : Int)) = ((2 ^ 8 * m : Nat) : Int) := by
      show ((m : Int) * 256) % 4294967296 = _
      omega
    rw [e, h]; simp; omega
  · have h := or_low 16 m a (by simp at hx1 ⊢; omega) (by simp at hx1 ⊢; omega)
    have e : shl .u32 (m : Int) (8 * ((2 : Nat) : Int)) = ((2 ^ 16 * m : Nat) : Int) := by
      show ((m : Int) * 65536) % 4294967296 = _
      omega
    rw [e, h]; simp; omega
  · have h := or_low 24 m a (by simp at hx1 ⊢; omega) (by simp at hx1 ⊢; omega)
    have e : shl .u32 (m : Int) (8 * ((3 : Nat) : Int)) = ((2 ^ 24 * m : Nat) : Int) := by
      show ((m : Int) * 16777216) % 4294967296 = _
      omega
    rw [e, h]; simp; omega
end Go.Proofs.YtdbkefgdeenjoaaDoor.Plain
end
section
namespace Go.Proofs.YtdbkefgdeenjoaaDoor.Plain
set_option linter.unusedVariables false
set_option linter.unusedSimpArgs false
open Go.RowKit Go.Proofs.YtdbkefgdeenjoaaDoor.X Go.Proofs.YtdbkefgdeenjoaaDoorW.PrintWords Go.Proofs.YtdbkefgdeenjoaaDoorW.PrintLast Go.Proofs.YtdbkefgdeenjoaaDoorW.PrintMore
def I32 (l : List Int) : Prop := ∀ x ∈ l, -2147483648 ≤ x ∧ x ≤ 2147483647
theorem rd_mem (l : List Int) (i : Nat) (h : i < l.length) : rd l (i : Int) ∈ l := by rw [rd_nat l i h]; exact List.getElem_mem h
theorem take_succ (l : List Int) (i : Nat) (h : i < l.length) : l.take (i + 1) = l.take i ++ [rd l (i : Int)] := by
  rw [rd_nat l i h]; exact (List.take_append_getElem h).symm
def may (r : Int) : Bool := decide (r = 9 ∨ r = 10 ∨ r = 13 ∨ r = 133 ∨ (32 ≤ r ∧ r < 127) ∨ (160 ≤ r ∧ ok r ∧ r ≠ 65279 ∧ r ≠ 65534 ∧ r ≠ 65535))
theorem may_eq (r : Int) : text_May.f r = some (may r) := by
  unfold text_May.f may
  rw [valid_eq]
  simp only [Option.bind_some]
  repeat' split
  all_goals (refine congrArg some (Bool.eq_iff_iff.mpr ?_); simp only [decide_eq_true_eq, bne_iff_ne, ne_eq, eq_self, Bool.false_eq_true, true_iff, false_iff, not_true_eq_false] at *; (try simp only [ok] at *); omega)
end Go.Proofs.YtdbkefgdeenjoaaDoor.Plain
end
section
namespace Go.Proofs.YtdbkefgdeenjoaaDoor.Plain
set_option linter.unusedVariables false
set_option linter.unusedSimpArgs false
open Go.RowKit Go.Proofs.YtdbkefgdeenjoaaDoor.X Go.Proofs.YtdbkefgdeenjoaaDoorW.PrintWords Go.Proofs.YtdbkefgdeenjoaaDoorW.PrintLast Go.Proofs.YtdbkefgdeenjoaaDoorW.PrintMore
def cl : List Int → List Int
  | [] => []
  | r :: t => if r = 13 then (if t.head? = some 10 then cl t else 10 :: cl t) else Lib.encodeRuneZ r ++ cl t
def str (l : List Int) : ByteArray := ⟨(l.map fun x => UInt8.ofNat x.toNat).toArray⟩
def cleaned (l : List Int) : ByteArray × Int := if ∀ r ∈ l, may r = true then (str (cl l), 0) else ((⟨#[]⟩ : ByteArray), 7)
theorem may_ok {r : Int} (h : may r = true) : ok r := by
  unfold may at h
  simp only [decide_eq_true_eq] at h
  unfold ok at *
  omega
theorem clean_go : ∀ (l : List Int) (out : List UInt8), I32 l → text_Clean.go l out = some (if ∀ r ∈ l, may r = true then ((⟨(out ++ (cl l).map fun x => UInt8.ofNat x.toNat).toArray⟩ : ByteArray), 0) else ((⟨#[]⟩ : ByteArray), 7))
  | [], out, _ => by simp [text_Clean.go, cl]
  | r :: t, out, hw => by
    have ht : I32 t := fun x hx => hw x (List.mem_cons_of_mem _ hx)
    have hr := hw r (List.mem_cons_self)
    unfold text_Clean.go
    rw [may_eq]
    simp only [Option.bind_some]
    by_cases hm : may r = true
    · rw [if_pos hm]
      have e : (∀ x ∈ r :: t, may x = true) ↔ ∀ x ∈ t, may x = true := by simp [hm]
      simp only [e]
      by_cases h13 : r = 13
      · rw [if_pos h13]
        by_cases h10 : t.head? = some 10
        · rw [if_pos h10, clean_go t out ht]
          simp [cl, h13, h10]
        · rw [if_neg h10, clean_go t _ ht]
          simp [cl, h13, h10]
      · rw [if_neg h13, if_pos hr, clean_go t _ ht]
        simp [cl, h13, Lib.encodeRune]
    · rw [if_neg hm]
      rw [if_neg (fun h => hm (h r List.mem_cons_self))]
theorem clean_eq (l : List Int) (hl : l.length ≤ 4294967296) (hw : I32 l) : text_Clean.f l = some (cleaned l) := by
  unfold text_Clean.f cleaned str
  rw [if_pos hl, clean_go l [] hw]
  simp
end Go.Proofs.YtdbkefgdeenjoaaDoor.Plain
end
section
namespace Go.Proofs.YtdbkefgdeenjoaaDoor.Plain
set_option linter.unusedVariables false
set_option linter.unusedSimpArgs false
open Go.RowKit Go.Proofs.YtdbkefgdeenjoaaDoor.X Go.Proofs.YtdbkefgdeenjoaaDoorW.PrintWords Go.Proofs.YtdbkefgdeenjoaaDoorW.PrintLast Go.Proofs.YtdbkefgdeenjoaaDoorW.PrintMore
def decI (n b0 b1 b2 b3 : Int) : Option (Int × Nat) :=
  if b0 < 128 then some (b0, 1)
  else if b0 / 32 = 6 ∧ 1 < n ∧ b1 / 64 = 2 then
    (if 128 ≤ b0 % 32 * 64 + b1 % 64 then some (b0 % 32 * 64 + b1 % 64, 2) else none)
  else if b0 / 16 = 14 ∧ (1 < n ∧ b1 / 64 = 2) ∧ (2 < n ∧ b2 / 64 = 2) then
    (if 2048 ≤ b0 % 16 * 4096 + b1 % 64 * 64 + b2 % 64 ∧ ok (b0 % 16 * 4096 + b1 % 64 * 64 + b2 % 64) then some (b0 % 16 * 4096 + b1 % 64 * 64 + b2 % 64, 3) else none)
  else if b0 / 8 = 30 ∧ (1 < n ∧ b1 / 64 = 2) ∧ (2 < n ∧ b2 / 64 = 2) ∧ (3 < n ∧ b3 / 64 = 2) then
    (if 65536 ≤ b0 % 8 * 262144 + b1 % 64 * 4096 + b2 % 64 * 64 + b3 % 64 ∧ ok (b0 % 8 * 262144 + b1 % 64 * 4096 + b2 % 64 * 64 + b3 % 64) then some (b0 % 8 * 262144 + b1 % 64 * 4096 + b2 % 64 * 64 + b3 % 64, 4) else none)
  else none
def dec1 (b : List Int) : Option (Int × Nat) := decI b.length (rd b 0) (rd b 1) (rd b 2) (rd b 3)
theorem decN (n b0 b1 b2 b3 : Nat) (h0 : b0 < 256) : Lib.decodeN n b0 b1 b2 b3 = match decI n b0 b1 b2 b3 with | some p => (p.1.toNat, p.2) | none => (65533, 1) := by
  unfold Lib.decodeN decI
  by_cases c1 : b0 < 128
  · have C1 : (b0 : Int) < 128 := by omega
    rw [if_pos c1, if_pos C1]
    simp
  have C1 : ¬ (b0 : Int) < 128 := by omega
  rw [if_neg c1, if_neg C1]
  by_cases c2 : b0 / 32 = 6 ∧ (1 < n ∧ b1 / 64 = 2)
  · have C2 : (b0 : Int) / 32 = 6 ∧ 1 < (n : Int) ∧ (b1 : Int) / 64 = 2 := by omega
    rw [if_pos c2, if_pos C2]
    by_cases d : b0 % 32 * 64 + b1 % 64 ≥ 128
    · have D : 128 ≤ (b0 : Int) % 32 * 64 + (b1 : Int) % 64 := by omega
      rw [if_pos d, if_pos D]
      simp only [Prod.mk.injEq, and_true]
      omega
    · have D : ¬ 128 ≤ (b0 : Int) % 32 * 64 + (b1 : Int) % 64 := by omega
      rw [if_neg d, if_neg D]
  have C2 : ¬ ((b0 : Int) / 32 = 6 ∧ 1 < (n : Int) ∧ (b1 : Int) / 64 = 2) := by omega
  rw [if_neg c2, if_neg C2]
  by_cases c3 : b0 / 16 = 14 ∧ (1 < n ∧ b1 / 64 = 2) ∧ (2 < n ∧ b2 / 64 = 2)
  · have C3 : (b0 : Int) / 16 = 14 ∧ (1 < (n : Int) ∧ (b1 : Int) / 64 = 2) ∧ (2 < (n : Int) ∧ (b2 : Int) / 64 = 2) := by omega
    rw [if_pos c3, if_pos C3]
    by_cases d : b0 % 16 * 4096 + b1 % 64 * 64 + b2 % 64 ≥ 2048 ∧ (b0 % 16 * 4096 + b1 % 64 * 64 + b2 % 64 < 55296 ∨ (57344 ≤ b0 % 16 * 4096 + b1 % 64 * 64 + b2 % 64 ∧ b0 % 16 * 4096 + b1 % 64 * 64 + b2 % 64 ≤ 1114111))
    · have D : 2048 ≤ (b0 : Int) % 16 * 4096 + (b1 : Int) % 64 * 64 + (b2 : Int) % 64 ∧ ok ((b0 : Int) % 16 * 4096 + (b1 : Int) % 64 * 64 + (b2 : Int) % 64) := by unfold ok; omega
      rw [if_pos d, if_pos D]
      simp only [Prod.mk.injEq, and_true]
      omega
    · have D : ¬ (2048 ≤ (b0 : Int) % 16 * 4096 + (b1 : Int) % 64 * 64 + (b2 : Int) % 64 ∧ ok ((b0 : Int) % 16 * 4096 + (b1 : Int) % 64 * 64 + (b2 : Int) % 64)) := by unfold ok; omega
      rw [if_neg d, if_neg D]
  have C3 : ¬ ((b0 : Int) / 16 = 14 ∧ (1 < (n : Int) ∧ (b1 : Int) / 64 = 2) ∧ (2 < (n : Int) ∧ (b2 : Int) / 64 = 2)) := by omega
  rw [if_neg c3, if_neg C3]
  by_cases c4 : b0 / 8 = 30 ∧ (1 < n ∧ b1 / 64 = 2) ∧ (2 < n ∧ b2 / 64 = 2) ∧ (3 < n ∧ b3 / 64 = 2)
  · have C4 : (b0 : Int) / 8 = 30 ∧ (1 < (n : Int) ∧ (b1 : Int) / 64 = 2) ∧ (2 < (n : Int) ∧ (b2 : Int) / 64 = 2) ∧ (3 < (n : Int) ∧ (b3 : Int) / 64 = 2) := by omega
    rw [if_pos c4, if_pos C4]
    by_cases d : b0 % 8 * 262144 + b1 % 64 * 4096 + b2 % 64 * 64 + b3 % 64 ≥ 65536 ∧ (b0 % 8 * 262144 + b1 % 64 * 4096 + b2 % 64 * 64 + b3 % 64 < 55296 ∨ (57344 ≤ b0 % 8 * 262144 + b1 % 64 * 4096 + b2 % 64 * 64 + b3 % 64 ∧ b0 % 8 * 262144 + b1 % 64 * 4096 + b2 % 64 * 64 + b3 % 64 ≤ 1114111))
    · have D : 65536 ≤ (b0 : Int) % 8 * 262144 + (b1 : Int) % 64 * 4096 + (b2 : Int) % 64 * 64 + (b3 : Int) % 64 ∧ ok ((b0 : Int) % 8 * 262144 + (b1 : Int) % 64 * 4096 + (b2 : Int) % 64 * 64 + (b3 : Int) % 64) := by unfold ok; omega
      rw [if_pos d, if_pos D]
      simp only [Prod.mk.injEq, and_true]
      omega
    · have D : ¬ (65536 ≤ (b0 : Int) % 8 * 262144 + (b1 : Int) % 64 * 4096 + (b2 : Int) % 64 * 64 + (b3 : Int) % 64 ∧ ok ((b0 : Int) % 8 * 262144 + (b1 : Int) % 64 * 4096 + (b2 : Int) % 64 * 64 + (b3 : Int) % 64)) := by unfold ok; omega
      rw [if_neg d, if_neg D]
  have C4 : ¬ ((b0 : Int) / 8 = 30 ∧ (1 < (n : Int) ∧ (b1 : Int) / 64 = 2) ∧ (2 < (n : Int) ∧ (b2 : Int) / 64 = 2) ∧ (3 < (n : Int) ∧ (b3 : Int) / 64 = 2)) := by omega
  rw [if_neg c4, if_neg C4]
theorem decI_ok (n b0 b1 b2 b3 r : Int) (w : Nat) (h0 : 0 ≤ b0) (h : decI n b0 b1 b2 b3 = some (r, w)) : ok r ∧ 1 ≤ w ∧ w ≤ 4 ∧ ((w : Int) ≤ n ∨ w = 1) ∧ ¬ (r = 65533 ∧ w < 2) := by
  unfold decI at h
  repeat' split at h
  all_goals (first | (cases h; done) | (simp only [Option.some.injEq, Prod.mk.injEq] at h; obtain ⟨rfl, rfl⟩ := h; unfold ok at *; omega))
theorem rd_bts {b : List Int} (hb : Bts b) (i : Nat) : 0 ≤ rd b (i : Int) ∧ rd b (i : Int) < 256 := by
  by_cases h : i < b.length
  · exact hb _ (rd_mem b i h)
  · unfold rd
    rw [List.getD_eq_getElem?_getD, show ((i : Int)).toNat = i from by omega, List.getElem?_eq_none (by omega)]
    decide
theorem str_size (b : List Int) : (str b).size = b.length := by unfold str; simp [ByteArray.size]
theorem str_get {b : List Int} (hb : Bts b) (i : Nat) : ((str b).get! i).toNat = (rd b (i : Int)).toNat := by
  obtain ⟨h0, h1⟩ := rd_bts hb i
  by_cases h : i < b.length
  · have hj2 : i < (b.map fun x => UInt8.ofNat x.toNat).toArray.size := by simpa using h
    have : (str b).get! i = UInt8.ofNat (rd b (i : Int)).toNat := by
      show ((b.map fun x => UInt8.ofNat x.toNat).toArray)[i]! = _
      rw [getElem!_pos _ i hj2, rd_nat b i h]; simp
    rw [this, UInt8.toNat_ofNat']
    omega
  · have hj2 : ¬ i < (b.map fun x => UInt8.ofNat x.toNat).toArray.size := by simpa using h
    have : (str b).get! i = 0 := by
      show ((b.map fun x => UInt8.ofNat x.toNat).toArray)[i]! = _
      rw [getElem!_neg _ i hj2]; rfl
    rw [this]
    unfold rd
    rw [List.getD_eq_getElem?_getD, show ((i : Int)).toNat = i from by omega, List.getElem?_eq_none (by omega)]
    rfl
theorem decode_str {b : List Int} (hb : Bts b) (hn : b ≠ []) : Lib.decodeGo (str b) = match dec1 b with | some p => (p.1.toNat, p.2) | none => (65533, 1) := by
  have hp : 0 < b.length := List.length_pos_iff.mpr hn
  have e0 := str_get hb 0
  have e1 := str_get hb 1
  have e2 := str_get hb 2
  have e3 := str_get hb 3
  obtain ⟨x0, y0⟩ := rd_bts hb 0
  obtain ⟨x1, y1⟩ := rd_bts hb 1
  obtain ⟨x2, y2⟩ := rd_bts hb 2
  obtain ⟨x3, y3⟩ := rd_bts hb 3
  unfold Lib.decodeGo
  rw [if_neg (by rw [str_size]; omega), Lib.decode_at, str_size, e0, show 0 + 1 = 1 from rfl, show 0 + 2 = 2 from rfl, show 0 + 3 = 3 from rfl, e1, e2, e3, decN _ _ _ _ _ (by omega)]
  unfold dec1
  rw [Int.toNat_of_nonneg x0, Int.toNat_of_nonneg x1, Int.toNat_of_nonneg x2, Int.toNat_of_nonneg x3]
  rfl
def plainL : Nat → List Int → Option (List Int)
  | _, [] => some []
  | 0, _ :: _ => none
  | n + 1, a :: t => (dec1 (a :: t)).bind fun p => (plainL n ((a :: t).drop p.2)).map (p.1 :: ·)
theorem plainL_ok : ∀ (n : Nat) (b l : List Int), Bts b → plainL n b = some l → ∀ r ∈ l, ok r
  | _, [], l, hb, h => by simp [plainL] at h; subst h; simp
  | 0, _ :: _, l, hb, h => by simp [plainL] at h
  | n + 1, a :: t, l, hb, h => by
    unfold plainL at h
    cases hd : dec1 (a :: t) with
    | none => rw [hd] at h; cases h
    | some p =>
      rw [hd] at h
      simp only [Option.bind_some] at h
      cases he : plainL n ((a :: t).drop p.2) with
      | none => rw [he] at h; cases h
      | some m =>
        rw [he] at h
        simp only [Option.map_some, Option.some.injEq] at h
        subst h
        intro r hr
        rcases List.mem_cons.mp hr with rfl | hr
        · exact (decI_ok _ _ _ _ _ _ p.2 (rd_bts hb 0).1 hd).1
        · exact plainL_ok n _ m (fun x hx => hb x (List.mem_of_mem_drop hx)) he r hr
theorem dec1_enc (r : Int) (t : List Int) (h : ok r) : dec1 (Lib.encodeRuneZ r ++ t) = some (r, (Lib.encodeRuneZ r).length) := by
  obtain ⟨h0, h1, h2⟩ := h
  by_cases a : r < 128
  · rw [Lib.encodeRuneZ_one h0 (by omega)]
    simp only [dec1, decI, List.cons_append, List.nil_append, rd, List.getD_cons_zero, Int.toNat_zero, List.length_cons, List.length_nil]
    rw [if_pos a]
  by_cases b : r < 2048
  · rw [Lib.encodeRuneZ_two (by omega) (by omega)]
    have e : ∀ x y : Int, rd (x :: y :: t) 0 = x ∧ rd (x :: y :: t) 1 = y := fun x y => ⟨rfl, rfl⟩
    unfold dec1
    simp only [List.cons_append, List.nil_append, (e _ _).1, (e _ _).2, List.length_cons, List.length_nil]
    unfold decI
    rw [if_neg (by omega), if_pos (by omega), if_pos (by omega)]
    refine congrArg some (Prod.ext ?_ rfl)
    show _ = r
    omega
  by_cases c : r < 65536
  · rw [Lib.encodeRuneZ_three (by omega)]
    have e : ∀ x y z : Int, rd (x :: y :: z :: t) 0 = x ∧ rd (x :: y :: z :: t) 1 = y ∧ rd (x :: y :: z :: t) 2 = z := fun x y z => ⟨rfl, rfl, rfl⟩
    unfold dec1
    simp only [List.cons_append, List.nil_append, (e _ _ _).1, (e _ _ _).2.1, (e _ _ _).2.2, List.length_cons, List.length_nil]
    have er : (224 + r / 4096) % 16 * 4096 + (128 + r / 64 % 64) % 64 * 64 + (128 + r % 64) % 64 = r := by omega
    unfold decI
    rw [if_neg (by omega), if_neg (by omega), if_pos (by omega), er, if_pos ⟨by omega, h0, h1, h2⟩]
  · rw [Lib.encodeRuneZ_four (by omega) h1]
    have e : ∀ x y z u : Int, rd (x :: y :: z :: u :: t) 0 = x ∧ rd (x :: y :: z :: u :: t) 1 = y ∧ rd (x :: y :: z :: u :: t) 2 = z ∧ rd (x :: y :: z :: u :: t) 3 = u := fun x y z u => ⟨rfl, rfl, rfl, rfl⟩
    unfold dec1
    simp only [List.cons_append, List.nil_append, (e _ _ _ _).1, (e _ _ _ _).2.1, (e _ _ _ _).2.2.1, (e _ _ _ _).2.2.2, List.length_cons, List.length_nil]
    have er : (240 + r / 262144) % 8 * 262144 + (128 + r / 4096 % 64) % 64 * 4096 + (128 + r / 64 % 64) % 64 * 64 + (128 + r % 64) % 64 = r := by omega
    unfold decI
    rw [if_neg (by omega), if_neg (by omega), if_neg (by omega), if_pos (by omega), er, if_pos ⟨by omega, h0, h1, h2⟩]
end Go.Proofs.YtdbkefgdeenjoaaDoor.Plain
end
section
namespace Go.Proofs.YtdbkefgdeenjoaaDoor.Plain
set_option linter.unusedVariables false
set_option linter.unusedSimpArgs false
open Go.RowKit Go.Proofs.YtdbkefgdeenjoaaDoor.X Go.Proofs.YtdbkefgdeenjoaaDoorW.PrintWords Go.Proofs.YtdbkefgdeenjoaaDoorW.PrintLast Go.Proofs.YtdbkefgdeenjoaaDoorW.PrintMore
def us2 (big : Bool) : List Int → List Int
  | a :: b :: t => (if big = true then a * 256 + b else a + b * 256) :: us2 big t
  | _ => []
def us4 (big : Bool) : List Int → List Int
  | a :: b :: c :: d :: t => (if big = true then ((a * 256 + b) * 256 + c) * 256 + d else a + b * 256 + c * 65536 + d * 16777216) :: us4 big t
  | _ => []
theorem units_step (x0 row out : List Int) (s : Int) (big : Bool) (x : Int) (i : Nat) (v : List Int × Bool) (hi : i < row.length) (h3 : row.length ≤ 4) (hb : Bts row) (hx : 0 ≤ x) (hx1 : x < 2 ^ (8 * i))
    (h : Ev (fun k => text_units.l1 k x0 s big out (if big = true then x * 256 + rd row (i : Int) else x + rd row (i : Int) * 2 ^ (8 * i)) row (row.length : Int) ((i + 1 : Nat) : Int)) v) : Ev (fun k => text_units.l1 k x0 s big out x row (row.length : Int) (i : Int)) v := by
  obtain ⟨c0, c1⟩ := hb (rd row (i : Int)) (by rw [rd_nat row i hi]; exact List.getElem_mem hi)
  refine Ev.succ ?_
  simp only [text_units.l1]
  refine Ev.pos (by omega) (Ev.pos (by omega) (Ev.pos (by omega) ?_))
  rw [w64' i (by omega)]
  have hi4 : i = 0 ∨ i = 1 ∨ i = 2 ∨ i = 3 := by omega
  have hx2 : x < 16777216 := by rcases hi4 with rfl | rfl | rfl | rfl <;> simp at hx1 <;> omega
  cases big
  · refine Ev.neg (by decide) (Ev.pos ?_ ?_)
    · rw [w64 _ (by omega) (by omega)]; omega
    · rw [or_little x _ i (by omega) hx hx1 c0 c1]
      simpa using h
  · refine Ev.pos rfl ?_
    rw [or_big x _ hx hx2 c0 c1]
    simpa using h
theorem units_end (x0 row out : List Int) (s : Nat) (big : Bool) (x : Int) (v : List Int × Bool) (hs : s ≤ x0.length) (ho : out.length < 35184372088832)
    (h : Ev (fun k => text_units.l0 k (x0.drop s) (s : Int) big (out ++ [x])) v) : Ev (fun k => text_units.l1 k x0 (s : Int) big out x row (row.length : Int) (row.length : Int)) v := by
  refine Ev.succ ?_
  simp only [text_units.l1]
  refine Ev.neg (by omega) (Ev.pos ho (Ev.pos (by omega) (Ev.pos (by omega) ?_)))
  simpa using h
theorem units_nil (s : Int) (big : Bool) (out : List Int) : Ev (fun k => text_units.l0 k [] s big out) (out, true) := by
  refine Ev.succ ?_
  simp only [text_units.l0]
  exact Ev.neg (by simp) (Ev.val _)
theorem units2 (big : Bool) : ∀ (n : Nat) (b out : List Int), b.length = 2 * n → out.length + n ≤ 4294967296 → Bts b → Ev (fun k => text_units.l0 k b 2 big out) (out ++ us2 big b, true)
  | 0, [], out, _, _, _ => (units_nil 2 big out).eq (by simp [us2])
  | 0, _ :: _, out, h, _, _ => by simp at h
  | n + 1, [], out, h, _, _ => by simp at h
  | n + 1, [_], out, h, _, _ => by simp at h; omega
  | n + 1, a :: b :: t, out, h, ho, hb => by
    have hr : Bts [a, b] := fun x hx => hb x (by simp at hx ⊢; omega)
    have ht : Bts t := fun x hx => hb x (by simp [hx])
    have ha := hb a (by simp)
    refine Ev.succ ?_
    simp only [text_units.l0]
    refine Ev.pos (by simp; omega) (Ev.pos (by decide) (Ev.pos (by simp; omega) (Ev.bind (Ev.val _) ?_)))
    show Ev (fun k => text_units.l1 k (a :: b :: t) 2 big out 0 [a, b] (([a, b] : List Int).length : Int) ((0 : Nat) : Int)) _
    refine units_step _ [a, b] out 2 big 0 0 _ (by simp) (by simp) hr (by decide) (by decide) ?_
    refine units_step _ [a, b] out 2 big _ 1 _ (by simp) (by simp) hr (by cases big <;> simp [rd] <;> omega) (by cases big <;> simp [rd] <;> omega) ?_
    refine units_end (a :: b :: t) [a, b] out 2 big _ _ (by simp) (by omega) ?_
    refine (units2 big n t _ (by simp at h; omega) (by simp; omega) ht).eq ?_
    cases big <;> simp [us2, rd]
theorem units4 (big : Bool) : ∀ (n : Nat) (b out : List Int), b.length = 4 * n → out.length + n ≤ 4294967296 → Bts b → Ev (fun k => text_units.l0 k b 4 big out) (out ++ us4 big b, true)
  | 0, [], out, _, _, _ => (units_nil 4 big out).eq (by simp [us4])
  | 0, _ :: _, out, h, _, _ => by simp at h
  | n + 1, [], out, h, _, _ => by simp at h
  | n + 1, [_], out, h, _, _ => by simp at h; omega
  | n + 1, [_, _], out, h, _, _ => by simp at h; omega
  | n + 1, [_, _, _], out, h, _, _ => by simp at h; omega
  | n + 1, a :: b :: c :: d :: t, out, h, ho, hb => by
    have hr : Bts [a, b, c, d] := fun x hx => hb x (by simp at hx ⊢; omega)
    have ht : Bts t := fun x hx => hb x (by simp [hx])
    have ha := hb a (by simp)
    have hb1 := hb b (by simp)
    have hc := hb c (by simp)
    refine Ev.succ ?_
    simp only [text_units.l0]
    refine Ev.pos (by simp; omega) (Ev.pos (by decide) (Ev.pos (by simp; omega) (Ev.bind (Ev.val _) ?_)))
    show Ev (fun k => text_units.l1 k (a :: b :: c :: d :: t) 4 big out 0 [a, b, c, d] (([a, b, c, d] : List Int).length : Int) ((0 : Nat) : Int)) _
    refine units_step _ [a, b, c, d] out 4 big 0 0 _ (by simp) (by simp) hr (by decide) (by decide) ?_
    refine units_step _ [a, b, c, d] out 4 big _ 1 _ (by simp) (by simp) hr (by cases big <;> simp [rd] <;> omega) (by cases big <;> simp [rd] <;> omega) ?_
    refine units_step _ [a, b, c, d] out 4 big _ 2 _ (by simp) (by simp) hr (by cases big <;> simp [rd] <;> omega) (by cases big <;> simp [rd] <;> omega) ?_
    refine units_step _ [a, b, c, d] out 4 big _ 3 _ (by simp) (by simp) hr (by cases big <;> simp [rd] <;> omega) (by cases big <;> simp [rd] <;> omega) ?_
    refine units_end (a :: b :: c :: d :: t) [a, b, c, d] out 4 big _ _ (by simp) (by omega) ?_
    refine (units4 big n t _ (by simp at h; omega) (by simp; omega) ht).eq ?_
    cases big <;> simp [us4, rd]
def us (size : Int) (big : Bool) (b : List Int) : List Int := if size = 2 then us2 big b else us4 big b
theorem units_eq (size : Int) (big : Bool) (b : List Int) (hs : size = 2 ∨ size = 4) (hl : b.length ≤ 4294967296) (hb : Bts b) :
    Ev (fun k => text_units.f k b size big) (if (b.length : Int) % size = 0 then (us size big b, true) else ([], false)) := by
  simp only [text_units.f]
  rcases hs with rfl | rfl
  · refine Ev.neg (by decide) (Ev.ite (fun h => ?_) (fun _ => Ev.val _))
    exact (units2 big (b.length / 2) b [] (by omega) (by simp; omega) hb).eq (by simp [us])
  · refine Ev.neg (by decide) (Ev.ite (fun h => ?_) (fun _ => Ev.val _))
    exact (units4 big (b.length / 4) b [] (by omega) (by simp; omega) hb).eq (by simp [us])
end Go.Proofs.YtdbkefgdeenjoaaDoor.Plain
end
section
namespace Go.Proofs.YtdbkefgdeenjoaaDoor.Plain
set_option linter.unusedVariables false
set_option linter.unusedSimpArgs false
open Go.RowKit Go.Proofs.YtdbkefgdeenjoaaDoor.X Go.Proofs.YtdbkefgdeenjoaaDoorW.PrintWords Go.Proofs.YtdbkefgdeenjoaaDoorW.PrintLast Go.Proofs.YtdbkefgdeenjoaaDoorW.PrintMore
theorem dec_eq {b : List Int} (hb : Bts b) (hn : b ≠ []) : utf8_DecodeRune.f b = some (match dec1 b with | some p => (p.1, (p.2 : Int)) | none => (65533, 1)) := by
  unfold utf8_DecodeRune.f
  rw [if_pos ⟨hn, fun x hx => ⟨(hb x hx).1, by have := (hb x hx).2; omega⟩⟩]
  rw [show utf8_DecodeRune.bytes b = str b from rfl, decode_str hb hn]
  cases hd : dec1 b with
  | none => rfl
  | some p =>
    have := (decI_ok _ _ _ _ _ p.1 p.2 (rd_bts hb 0).1 hd).1.1
    show some (((p.1.toNat : Nat) : Int), _) = _
    rw [Int.toNat_of_nonneg this]
def res (out : List Int) : Option (List Int) → List Int × Bool
  | some l => (out ++ l, true)
  | none => ([], false)
theorem res_map (out : List Int) (r : Int) (o : Option (List Int)) : res (out ++ [r]) o = res out (o.map (r :: ·)) := by
  cases o <;> simp [res]
theorem dec1_le {b : List Int} (hb : Bts b) (hn : b ≠ []) {r : Int} {w : Nat} (h : dec1 b = some (r, w)) : 1 ≤ w ∧ w ≤ b.length := by
  have := decI_ok _ _ _ _ _ r w (rd_bts hb 0).1 h
  have hp : 0 < b.length := List.length_pos_iff.mpr hn
  omega
theorem bts_drop {b : List Int} (hb : Bts b) (n : Nat) : Bts (b.drop n) := fun x hx => hb x (List.mem_of_mem_drop hx)
theorem plain_loop : ∀ (n : Nat) (b out : List Int), b.length ≤ n → Bts b → out.length + b.length ≤ 4294967296 → Ev (fun k => text_plain.l0 k b out) (res out (plainL n b))
  | n, [], out, _, _, _ => by
    refine Ev.succ ?_
    simp only [text_plain.l0]
    refine Ev.neg (by simp) ((Ev.val _).eq ?_)
    cases n <;> simp [plainL, res]
  | 0, _ :: _, out, h, _, _ => by simp at h
  | n + 1, a :: t, out, h, hb, ho => by
    refine Ev.succ ?_
    simp only [text_plain.l0]
    refine Ev.pos (by simp) ?_
    refine Ev.bind (Ev.one (dec_eq hb (by simp))) ?_
    have hun : plainL (n + 1) (a :: t) = (dec1 (a :: t)).bind fun p => (plainL n ((a :: t).drop p.2)).map (p.1 :: ·) := rfl
    rw [hun]
    cases hd : dec1 (a :: t) with
    | none => exact Ev.pos rfl (Ev.pos (by decide) ((Ev.val _).eq rfl))
    | some p =>
      obtain ⟨r, w⟩ := p
      obtain ⟨h1, h2⟩ := dec1_le hb (by simp) hd
      have hk := (decI_ok _ _ _ _ _ r w (rd_bts hb 0).1 hd).2.2.2.2
      have step : Ev (fun k => text_plain.l0 k ((a :: t).drop ((w : Int)).toNat) (out ++ [r])) (res out ((plainL n ((a :: t).drop w)).map (r :: ·))) := by
        rw [show ((w : Int)).toNat = w from by omega, ← res_map]
        exact plain_loop n _ _ (by rw [List.length_drop]; simp at h ⊢; omega) (bts_drop hb w) (by rw [List.length_append, List.length_drop]; simp at ho ⊢; omega)
      have all : Ev (fun k => if out.length < 35184372088832 then (if 0 ≤ (w : Int) then (if (w : Int) ≤ ((a :: t).length : Int) then text_plain.l0 k ((a :: t).drop ((w : Int)).toNat) (out ++ [r]) else none) else none) else none) (res out ((plainL n ((a :: t).drop w)).map (r :: ·))) :=
        Ev.pos (by omega) (Ev.pos (by omega) (Ev.pos (by omega) step))
      show Ev _ (res out ((plainL n ((a :: t).drop w)).map (r :: ·)))
      by_cases hr : r = 65533
      · exact Ev.pos hr (Ev.neg (by show ¬ (w : Int) < 2; omega) all)
      · exact Ev.neg hr all
theorem plain_eq (b : List Int) (hb : Bts b) (hl : b.length ≤ 4294967296) : Ev (fun k => text_plain.f k b) (res [] (plainL b.length b)) := by
  simp only [text_plain.f]
  exact plain_loop b.length b [] (by omega) hb (by simpa using hl)
def prs : List Int → Option (List Int)
  | [] => some []
  | [n] => if 55296 ≤ n ∧ n < 57344 then none else some [n]
  | n :: m :: u => if 56320 ≤ n ∧ n < 57344 then none else if 55296 ≤ n ∧ n < 56320 then (if 56320 ≤ m ∧ m < 57344 then (prs u).map ((65536 + (n - 55296) * 1024 + (m - 56320)) :: ·) else none) else (prs (m :: u)).map (n :: ·)
theorem prs_second (n : Int) (t : List Int) (h : 56320 ≤ n ∧ n < 57344) : prs (n :: t) = none := by
  cases t with
  | nil => simp only [prs]; rw [if_pos (by omega)]
  | cons m u => simp only [prs]; rw [if_pos h]
theorem prs_other (n : Int) (t : List Int) (h : ¬ (55296 ≤ n ∧ n < 57344)) : prs (n :: t) = (prs t).map (n :: ·) := by
  cases t with
  | nil => simp only [prs]; rw [if_neg h]; rfl
  | cons m u => simp only [prs]; rw [if_neg (by omega), if_neg (by omega)]
theorem prs_pair (n m : Int) (t : List Int) (h : 55296 ≤ n ∧ n < 56320) (h' : 56320 ≤ m ∧ m < 57344) : prs (n :: m :: t) = (prs t).map ((65536 + (n - 55296) * 1024 + (m - 56320)) :: ·) := by
  simp only [prs]; rw [if_neg (by omega), if_pos h, if_pos h']
theorem prs_alone (n m : Int) (t : List Int) (h : 55296 ≤ n ∧ n < 56320) (h' : ¬ (56320 ≤ m ∧ m < 57344)) : prs (n :: m :: t) = none := by
  simp only [prs]; rw [if_neg (by omega), if_pos h, if_neg h']
theorem prs_last (n : Int) (h : 55296 ≤ n ∧ n < 56320) : prs [n] = none := by
  simp only [prs]; rw [if_pos (by omega)]
theorem map_app (out : List Int) (c : Int) (o : Option (List Int)) : o.map (fun q => (out ++ [c]) ++ q) = (o.map (c :: ·)).map (out ++ ·) := by
  cases o <;> simp
def pend (high : Int) : List Int := if high = 0 then [] else [high]
theorem pairs_loop (l : List Int) (hl : l.length ≤ 4294967296) (hw : ∀ x ∈ l, 0 ≤ x ∧ x < 65536) : ∀ (n i : Nat) (out : List Int) (high : Int), i + n = l.length → out.length ≤ i → (∀ x ∈ out, 0 ≤ x) → (high = 0 ∨ (55296 ≤ high ∧ high < 56320)) →
    ∃ p, Ev (fun k => text_pairs.l0 k out high l (l.length : Int) (i : Int)) p ∧ p.1.length ≤ l.length ∧ (∀ x ∈ p.1, 0 ≤ x) ∧ (prs (pend high ++ l.drop i)).map (out ++ ·) = if p.2 = true then some p.1 else none := by
  intro n
  induction n with
  | zero =>
    intro i out high h ho hx hh
    refine ⟨(out, high == 0), ?_, (by show out.length ≤ l.length; omega), hx, ?_⟩
    · refine Ev.succ ?_
      simp only [text_pairs.l0]
      exact Ev.neg (by omega) (Ev.val _)
    · rw [List.drop_eq_nil_of_le (by omega)]
      rcases hh with rfl | hh
      · simp [pend, prs]
      · have : high ≠ 0 := by omega
        rw [pend, if_neg this, List.append_nil, prs_last high hh]
        simp [this]
  | succ n ih =>
    intro i out high h ho hx hh
    obtain ⟨a, ea⟩ : ∃ a, rd l (i : Int) = a := ⟨_, rfl⟩
    have hc := hw _ (rd_mem l i (by omega))
    rw [ea] at hc
    have hd : l.drop i = a :: l.drop (i + 1) := by rw [← ea]; exact drop_nat l i (by omega)
    have hj : ∃ p, Ev (fun k => text_pairs.j1 k out high a (decide (56320 ≤ a ∧ a < 57344)) l (l.length : Int) (i : Int)) p ∧ p.1.length ≤ l.length ∧ (∀ x ∈ p.1, 0 ≤ x) ∧ (prs (pend high ++ l.drop i)).map (out ++ ·) = if p.2 = true then some p.1 else none := by
      have ei : wrap64 ((i : Int) + 1) = ((i + 1 : Nat) : Int) := w64' i (by omega)
      by_cases hs : 56320 ≤ a ∧ a < 57344
      · rw [show decide (56320 ≤ a ∧ a < 57344) = true from decide_eq_true hs]
        rcases hh with rfl | hh
        · refine ⟨([], false), ?_, by simp, by simp, ?_⟩
          · refine Ev.succ ?_
            simp only [text_pairs.j1]
            exact Ev.pos (by decide) (Ev.val _)
          · rw [hd, pend, if_pos rfl, List.nil_append, prs_second a _ hs]; rfl
        · have hn : high ≠ 0 := by omega
          have ec : ((65536 + (((high - 55296) % 4294967296) * 1024)) + (a - 56320)) % 4294967296 = 65536 + (high - 55296) * 1024 + (a - 56320) := by omega
          obtain ⟨p, h1, h2, h3, h4⟩ := ih (i + 1) (out ++ [65536 + (high - 55296) * 1024 + (a - 56320)]) 0 (by omega) (by rw [List.length_append]; simp; omega) (by
            intro x hxx
            rcases List.mem_append.mp hxx with hq | hq
            · exact hx x hq
            · obtain rfl := List.mem_singleton.mp hq; omega) (.inl rfl)
          refine ⟨p, ?_, h2, h3, ?_⟩
          · refine Ev.succ ?_
            simp only [text_pairs.j1]
            refine Ev.neg (by simp [hn]) (Ev.pos (by simp) (Ev.pos (by omega) ?_))
            rw [ec, ei]
            exact h1
          · rw [hd, pend, if_neg hn, List.cons_append, List.nil_append, prs_pair _ _ _ hh hs, ← h4, pend, if_pos rfl, List.nil_append, map_app]
      · rw [show decide (56320 ≤ a ∧ a < 57344) = false from decide_eq_false hs]
        rcases hh with rfl | hh
        · by_cases hg : 55296 ≤ a ∧ a < 56320
          · obtain ⟨p, h1, h2, h3, h4⟩ := ih (i + 1) out a (by omega) (by omega) hx (.inr hg)
            refine ⟨p, ?_, h2, h3, ?_⟩
            · refine Ev.succ ?_
              simp only [text_pairs.j1]
              refine Ev.neg (by decide) (Ev.neg (by decide) (Ev.pos (by omega) (Ev.pos (by omega) ?_)))
              rw [ei]
              exact h1
            · rw [hd, pend, if_pos rfl, List.nil_append, ← h4, pend, if_neg (by omega)]; rfl
          · obtain ⟨p, h1, h2, h3, h4⟩ := ih (i + 1) (out ++ [a]) 0 (by omega) (by rw [List.length_append]; simp; omega) (by
              intro x hxx
              rcases List.mem_append.mp hxx with hq | hq
              · exact hx x hq
              · obtain rfl := List.mem_singleton.mp hq; omega) (.inl rfl)
            refine ⟨p, ?_, h2, h3, ?_⟩
            · refine Ev.succ ?_
              simp only [text_pairs.j1]
              refine Ev.neg (by decide) (Ev.neg (by decide) ?_)
              by_cases hg1 : a ≥ 55296
              · refine Ev.pos hg1 (Ev.neg (by omega) (Ev.pos (by omega) ?_))
                rw [ei]; exact h1
              · refine Ev.neg hg1 (Ev.pos (by omega) ?_)
                rw [ei]; exact h1
            · rw [hd, pend, if_pos rfl, List.nil_append, prs_other a _ (by omega), ← h4, pend, if_pos rfl, List.nil_append, map_app]
        · have hn : high ≠ 0 := by omega
          refine ⟨([], false), ?_, by simp, by simp, ?_⟩
          · refine Ev.succ ?_
            simp only [text_pairs.j1]
            exact Ev.pos (by simp [hn]) (Ev.val _)
          · rw [hd, pend, if_neg hn, List.cons_append, List.nil_append, prs_alone _ _ _ hh hs]; rfl
    obtain ⟨p, h1, h2⟩ := hj
    refine ⟨p, ?_, h2⟩
    refine Ev.succ ?_
    simp only [text_pairs.l0]
    refine Ev.pos (by omega) (Ev.pos (by omega) (Ev.pos (by omega) ?_))
    rw [ea]
    by_cases hs : a ≥ 56320
    · refine Ev.pos hs ?_
      rw [show decide (a < 57344) = decide (56320 ≤ a ∧ a < 57344) from decide_eq_decide.mpr (by omega)]
      exact h1
    · refine Ev.neg hs ?_
      rw [show decide (56320 ≤ a ∧ a < 57344) = false from decide_eq_false (by omega)] at h1
      exact h1
theorem pairs_eq (l : List Int) (hl : l.length ≤ 4294967296) (hw : ∀ x ∈ l, 0 ≤ x ∧ x < 65536) :
    ∃ p, Ev (fun k => text_pairs.f k l) p ∧ p.1.length ≤ l.length ∧ (∀ x ∈ p.1, 0 ≤ x) ∧ prs l = if p.2 = true then some p.1 else none := by
  obtain ⟨p, h1, h2, h3, h4⟩ := pairs_loop l hl hw l.length 0 [] 0 (by omega) (by simp) (by simp) (.inl rfl)
  refine ⟨p, ?_, h2, h3, ?_⟩
  · simp only [text_pairs.f]
    exact h1
  · rw [← h4, pend, if_pos rfl, List.nil_append, List.drop_zero]
    cases prs l <;> simp
def okAll : Option (List Int) → List Int × Int
  | some l => if ∀ r ∈ l, ok r then (l, 0) else ([], 6)
  | none => ([], 6)
theorem runes_loop (l : List Int) (is : Bool) (hl : l.length ≤ 4294967296) (hw : ∀ x ∈ l, 0 ≤ x) : ∀ (n i : Nat), i + n = l.length →
    Ev (fun k => text_Runes.l0 k (l.take i) is l (l.length : Int) (i : Int)) (if (∀ r ∈ l.drop i, ok r) ∧ is = true then (l, 0) else ([], 6))
  | 0, i, h => by
    refine Ev.succ ?_
    simp only [text_Runes.l0]
    refine Ev.neg (by omega) ?_
    rw [List.drop_eq_nil_of_le (by omega), List.take_of_length_le (by omega)]
    cases is
    · refine Ev.neg (by decide) ((Ev.val _).eq (by simp))
    · refine Ev.pos rfl ((Ev.val _).eq (by simp))
  | n + 1, i, h => by
    refine Ev.succ ?_
    simp only [text_Runes.l0]
    refine Ev.pos (by omega) (Ev.pos (by omega) (Ev.pos (by omega) ?_))
    have h0 := hw _ (rd_mem l i (by omega))
    have hd := drop_nat l i (by omega)
    by_cases hg : rd l (i : Int) > 1114111
    · refine Ev.pos hg ((Ev.val _).eq ?_)
      rw [if_neg]
      rintro ⟨hq, _⟩
      have := hq _ (by rw [hd]; exact List.mem_cons_self)
      unfold ok at this
      omega
    · refine Ev.neg hg ?_
      have ew : wrap32 (rd l (i : Int)) = rd l (i : Int) := by unfold wrap32; omega
      rw [ew]
      refine Ev.bind (Ev.one (valid_eq _)) ?_
      by_cases hk : ok (rd l (i : Int))
      · refine Ev.pos (by simp [hk]) (Ev.pos (by rw [List.length_take]; omega) ?_)
        rw [← take_succ l i (by omega), w64' i (by omega)]
        refine (runes_loop l is hl hw n (i + 1) (by omega)).eq ?_
        have e : (∀ x ∈ l.drop i, ok x) ↔ ∀ x ∈ l.drop (i + 1), ok x := by rw [hd]; simp [hk]
        simp only [e]
      · refine Ev.neg (by simp [hk]) ((Ev.val _).eq ?_)
        rw [if_neg]
        rintro ⟨hq, _⟩
        exact hk (hq _ (by rw [hd]; exact List.mem_cons_self))
theorem runes_j1 (l : List Int) (is : Bool) (hl : l.length ≤ 4294967296) (hw : ∀ x ∈ l, 0 ≤ x) : Ev (fun k => text_Runes.j1 k [] l is) (okAll (if is = true then some l else none)) := by
  refine Ev.succ ?_
  simp only [text_Runes.j1]
  refine (runes_loop l is hl hw l.length 0 (by omega)).eq ?_
  cases is <;> simp [okAll]
theorem us2_length (big : Bool) : ∀ b : List Int, (us2 big b).length ≤ b.length
  | [] => by simp [us2]
  | [_] => by simp [us2]
  | a :: b :: t => by have := us2_length big t; simp [us2]; omega
theorem us4_length (big : Bool) : ∀ b : List Int, (us4 big b).length ≤ b.length
  | [] => by simp [us4]
  | [_] => by simp [us4]
  | [_, _] => by simp [us4]
  | [_, _, _] => by simp [us4]
  | a :: b :: c :: d :: t => by have := us4_length big t; simp [us4]; omega
theorem us2_mem (big : Bool) : ∀ b : List Int, Bts b → ∀ x ∈ us2 big b, 0 ≤ x ∧ x < 65536
  | [], _, x, h => by simp [us2] at h
  | [_], _, x, h => by simp [us2] at h
  | a :: b :: t, hb, x, h => by
    have h0 := hb a (by simp)
    have h1 := hb b (by simp)
    rw [us2] at h
    rcases List.mem_cons.mp h with rfl | h
    · split <;> omega
    · exact us2_mem big t (fun x hx => hb x (by simp [hx])) x h
theorem us4_mem (big : Bool) : ∀ b : List Int, Bts b → ∀ x ∈ us4 big b, 0 ≤ x
  | [], _, x, h => by simp [us4] at h
  | [_], _, x, h => by simp [us4] at h
  | [_, _], _, x, h => by simp [us4] at h
  | [_, _, _], _, x, h => by simp [us4] at h
  | a :: b :: c :: d :: t, hb, x, h => by
    have h0 := hb a (by simp)
    have h1 := hb b (by simp)
    have h2 := hb c (by simp)
    have h3 := hb d (by simp)
    rw [us4] at h
    rcases List.mem_cons.mp h with rfl | h
    · split <;> omega
    · exact us4_mem big t (fun x hx => hb x (by simp [hx])) x h
theorem plainL_length : ∀ (n : Nat) (b l : List Int), Bts b → plainL n b = some l → l.length ≤ b.length
  | _, [], l, hb, h => by
    rename_i n
    cases n <;> (simp [plainL] at h; subst h; simp)
  | 0, _ :: _, l, hb, h => by simp [plainL] at h
  | n + 1, a :: t, l, hb, h => by
    have hun : plainL (n + 1) (a :: t) = (dec1 (a :: t)).bind fun p => (plainL n ((a :: t).drop p.2)).map (p.1 :: ·) := rfl
    rw [hun] at h
    cases hd : dec1 (a :: t) with
    | none => rw [hd] at h; cases h
    | some p =>
      obtain ⟨h1, h2⟩ := dec1_le (r := p.1) (w := p.2) hb (by simp) hd
      rw [hd] at h
      simp only [Option.bind_some] at h
      cases he : plainL n ((a :: t).drop p.2) with
      | none => rw [he] at h; cases h
      | some m =>
        rw [he] at h
        simp only [Option.map_some, Option.some.injEq] at h
        subst h
        have := plainL_length n _ m (bts_drop hb _) he
        rw [List.length_drop] at this
        simp at this h2 ⊢
        omega
theorem prs_length : ∀ (l q : List Int), prs l = some q → q.length ≤ l.length
  | [], q, h => by simp [prs] at h; subst h; simp
  | [n], q, h => by
    simp only [prs] at h
    split at h
    · cases h
    · simp at h; subst h; simp
  | n :: m :: u, q, h => by
    simp only [prs] at h
    split at h
    · cases h
    · split at h
      · split at h
        · cases he : prs u with
          | none => rw [he] at h; cases h
          | some z =>
            rw [he] at h
            simp at h
            subst h
            have := prs_length u z he
            simp; omega
        · cases h
      · cases he : prs (m :: u) with
        | none => rw [he] at h; cases h
        | some z =>
          rw [he] at h
          simp at h
          subst h
          have := prs_length (m :: u) z he
          simp at this ⊢; omega
def runesOf (code : Int) (b : List Int) : Option (List Int) :=
  if sizeOf code = 1 then plainL b.length b
  else if sizeOf code = 2 then (if (b.length : Int) % 2 = 0 then prs (us2 (bigOf code) b) else none)
  else (if (b.length : Int) % 4 = 0 then some (us4 (bigOf code) b) else none)
theorem runesOf_length (code : Int) (b l : List Int) (hb : Bts b) (h : runesOf code b = some l) : l.length ≤ b.length := by
  unfold runesOf at h
  split at h
  · exact plainL_length _ _ _ hb h
  · split at h
    · split at h
      · have := prs_length _ _ h
        have := us2_length (bigOf code) b
        omega
      · cases h
    · split at h
      · simp at h; subst h; exact us4_length _ _
      · cases h
def runes (b : List Int) : List Int × Int := okAll (runesOf (detect b).1 (b.drop (detect b).2.toNat))
theorem pre_le : ∀ (row b : List Int), pre row b = true → row.length ≤ b.length
  | [], b, _ => by simp
  | _ :: _, [], h => by simp [pre] at h
  | x :: r, y :: b, h => by
    simp [pre] at h
    have := pre_le r b h.2
    simp; omega
theorem detect_le (b : List Int) : 0 ≤ (detect b).2 ∧ (detect b).2 ≤ (b.length : Int) := by
  unfold detect detect1 detect2 detect3
  repeat' split
  all_goals (try (rename_i h; have := pre_le _ _ h; simp at this))
  all_goals (simp; try omega)
theorem runes_eq (b : List Int) (hb : Bts b) (hl : b.length ≤ 4294967296) : Ev (fun k => text_Runes.f k b) (runes b) := by
  obtain ⟨h0, h1⟩ := detect_le b
  simp only [text_Runes.f]
  refine Ev.bind (detect_eq b) ?_
  refine Ev.bind (Ev.one (wide_eq _)) (Ev.pos h0 (Ev.pos h1 ?_))
  unfold runes runesOf
  have hlen : (b.drop (detect b).2.toNat).length ≤ 4294967296 := by rw [List.length_drop]; omega
  have hbd : Bts (b.drop (detect b).2.toNat) := bts_drop hb _
  generalize (detect b).1 = code
  generalize b.drop (detect b).2.toNat = c at hlen hbd
  rcases sizes code with hs | hs | hs
  · refine Ev.pos hs ?_
    rw [if_pos hs]
    refine Ev.bind (plain_eq c hbd hlen) ?_
    cases hp : plainL c.length c with
    | none => exact Ev.neg (by simp [res]) (Ev.val _)
    | some l =>
      refine Ev.pos (by simp [res]) ((Ev.val _).eq ?_)
      simp only [okAll, res, List.nil_append]
      rw [if_pos (plainL_ok _ _ _ hbd hp)]
  · refine Ev.neg (by omega) ?_
    rw [if_neg (by omega), if_pos hs]
    refine Ev.bind (units_eq (sizeOf code) (bigOf code) c (.inl hs) hlen hbd) ?_
    rw [hs]
    by_cases hm : (c.length : Int) % 2 = 0
    · rw [if_pos hm, if_pos hm]
      refine Ev.pos rfl ?_
      have e2 : us 2 (bigOf code) c = us2 (bigOf code) c := by simp [us]
      show Ev (fun k => text_Runes.j0 k [] (us 2 (bigOf code) c) true (2 == 2)) _
      rw [e2]
      have hu := us2_length (bigOf code) c
      obtain ⟨p, q1, q2, q3, q4⟩ := pairs_eq (us2 (bigOf code) c) (by omega) (us2_mem _ _ hbd)
      refine Ev.succ ?_
      simp only [text_Runes.j0]
      refine Ev.pos (by decide) (Ev.bind q1 ?_)
      rw [q4]
      exact runes_j1 p.1 p.2 (by omega) q3
    · rw [if_neg hm, if_neg hm]
      refine Ev.neg (by simp) ?_
      refine Ev.succ ?_
      simp only [text_Runes.j0]
      refine Ev.neg (by decide) ?_
      exact runes_j1 [] false (by simp) (by simp)
  · refine Ev.neg (by omega) ?_
    rw [if_neg (by omega), if_neg (by omega)]
    refine Ev.bind (units_eq (sizeOf code) (bigOf code) c (.inr hs) hlen hbd) ?_
    rw [hs]
    by_cases hm : (c.length : Int) % 4 = 0
    · rw [if_pos hm, if_pos hm]
      refine Ev.pos rfl ?_
      have e4 : us 4 (bigOf code) c = us4 (bigOf code) c := by simp [us]
      show Ev (fun k => text_Runes.j0 k [] (us 4 (bigOf code) c) true (4 == 2)) _
      rw [e4]
      have hu := us4_length (bigOf code) c
      refine Ev.succ ?_
      simp only [text_Runes.j0]
      refine Ev.neg (by decide) ?_
      exact runes_j1 (us4 (bigOf code) c) true (by omega) (us4_mem _ _ hbd)
    · rw [if_neg hm, if_neg hm]
      refine Ev.neg (by simp) ?_
      refine Ev.succ ?_
      simp only [text_Runes.j0]
      refine Ev.neg (by decide) ?_
      exact runes_j1 [] false (by simp) (by simp)
theorem runes_length (b : List Int) (hb : Bts b) : (runes b).1.length ≤ b.length := by
  unfold runes
  cases h : runesOf (detect b).1 (b.drop (detect b).2.toNat) with
  | none => simp [okAll]
  | some l =>
    have h1 := runesOf_length _ _ _ (bts_drop hb _) h
    rw [List.length_drop] at h1
    simp only [okAll]
    split
    · show l.length ≤ b.length; omega
    · simp
theorem runes_ok (b : List Int) : ∀ r ∈ (runes b).1, ok r := by
  unfold runes
  cases h : runesOf (detect b).1 (b.drop (detect b).2.toNat) with
  | none => simp [okAll]
  | some l =>
    simp only [okAll]
    split
    · assumption
    · simp
theorem ok_i32 {l : List Int} (h : ∀ r ∈ l, ok r) : I32 l := by
  intro x hx
  have := h x hx
  unfold ok at this
  omega
def decoded (b : List Int) : ByteArray × Int := if (runes b).2 = 0 then cleaned (runes b).1 else ((⟨#[]⟩ : ByteArray), (runes b).2)
theorem decoded_eq (b : List Int) (hb : Bts b) (hl : b.length ≤ 4294967296) : Ev (fun k => text_Decode.f k b) (decoded b) := by
  simp only [text_Decode.f]
  refine Ev.bind (runes_eq b hb hl) ?_
  unfold decoded
  refine Ev.ite (fun h => ?_) (fun _ => Ev.val _)
  refine Ev.bind (Ev.one (clean_eq _ (by have := runes_length b hb; omega) (ok_i32 (runes_ok b)))) ?_
  exact Ev.val _
end Go.Proofs.YtdbkefgdeenjoaaDoor.Plain
end
section
namespace Go.Proofs.YtdbkefgdeenjoaaDoor.Plain
set_option linter.unusedVariables false
set_option linter.unusedSimpArgs false
open Go.RowKit Go.Proofs.YtdbkefgdeenjoaaDoor.X Go.Proofs.YtdbkefgdeenjoaaDoorW.PrintWords Go.Proofs.YtdbkefgdeenjoaaDoorW.PrintLast
theorem enc1_bts (size : Int) (big : Bool) (r : Int) (h : ok r) : Bts (enc1 size big r) := by
  obtain ⟨h0, h1, h2⟩ := h
  intro x hx
  have u (n : Int) (hxn : x ∈ u2 n big) : 0 ≤ x ∧ x < 256 := by
    unfold u2 at hxn
    cases big <;> (simp at hxn; rcases hxn with rfl | rfl <;> omega)
  unfold enc1 at hx
  split at hx
  · by_cases a : r < 128
    · rw [Lib.encodeRuneZ_one h0 (by omega)] at hx
      simp at hx; omega
    by_cases b : r < 2048
    · rw [Lib.encodeRuneZ_two (by omega) (by omega)] at hx
      simp at hx; omega
    by_cases c : r < 65536
    · rw [Lib.encodeRuneZ_three (by omega)] at hx
      simp at hx; omega
    · rw [Lib.encodeRuneZ_four (by omega) h1] at hx
      simp at hx; omega
  · split at hx
    · split at hx
      · rcases List.mem_append.mp hx with hq | hq
        · exact u _ hq
        · exact u _ hq
      · exact u _ hx
    · unfold u4 at hx
      cases big <;> (simp at hx; rcases hx with rfl | rfl | rfl | rfl <;> omega)
end Go.Proofs.YtdbkefgdeenjoaaDoor.Plain
end
section
namespace Go.Proofs.YtdbkefgdeenjoaaDoor.Plain
set_option linter.unusedVariables false
set_option linter.unusedSimpArgs false
open Go.RowKit Go.Proofs.YtdbkefgdeenjoaaDoor.X Go.Proofs.YtdbkefgdeenjoaaDoorW.PrintWords Go.Proofs.YtdbkefgdeenjoaaDoorW.PrintLast
def br : List Int → List Int
  | [] => []
  | r :: t => if r = 13 then (if t.head? = some 10 then br t else 10 :: br t) else r :: br t
def enc (q : List Int) : List Int := q.flatMap Lib.encodeRuneZ
theorem enc_cons (r : Int) (t : List Int) : enc (r :: t) = Lib.encodeRuneZ r ++ enc t := List.flatMap_cons
theorem cl_br : ∀ l : List Int, cl l = enc (br l)
  | [] => rfl
  | r :: t => by
    rw [cl, br, cl_br t]
    by_cases h : r = 13
    · rw [if_pos h, if_pos h]
      by_cases h' : t.head? = some 10
      · rw [if_pos h', if_pos h']
      · rw [if_neg h', if_neg h', enc_cons, Lib.encodeRuneZ_one (by decide) (by decide)]; rfl
    · rw [if_neg h, if_neg h, enc_cons]
theorem br_mem : ∀ (l : List Int), (∀ r ∈ l, may r = true) → ∀ r ∈ br l, may r = true ∧ r ≠ 13
  | [], _, r, h => by simp [br] at h
  | a :: t, hm, r, h => by
    have ih := br_mem t (fun x hx => hm x (List.mem_cons_of_mem _ hx))
    rw [br] at h
    split at h
    · split at h
      · exact ih r h
      · rcases List.mem_cons.mp h with rfl | h
        · exact ⟨by decide, by decide⟩
        · exact ih r h
    · rename_i h13
      rcases List.mem_cons.mp h with rfl | h
      · exact ⟨hm _ List.mem_cons_self, h13⟩
      · exact ih r h
theorem br_length : ∀ l : List Int, (br l).length ≤ l.length
  | [] => by simp [br]
  | a :: t => by
    have ih := br_length t
    rw [br]
    split
    · split <;> simp <;> omega
    · simp; omega
theorem cl_enc : ∀ q : List Int, (∀ r ∈ q, r ≠ 13) → cl q = enc q
  | [], _ => rfl
  | r :: t, h => by
    rw [cl, if_neg (h r List.mem_cons_self), enc_cons, cl_enc t (fun x hx => h x (List.mem_cons_of_mem _ hx))]
theorem enc_length : ∀ q : List Int, (enc q).length ≤ 4 * q.length
  | [] => by simp [enc]
  | r :: t => by
    have ih := enc_length t
    have h4 := (Lib.encodeRuneZ_length r).2
    rw [enc_cons, List.length_append, List.length_cons]; omega
theorem enc_bts (q : List Int) (h : ∀ r ∈ q, ok r) : Bts (enc q) := by
  intro x hx
  obtain ⟨r, hr, hx⟩ := List.mem_flatMap.mp hx
  have := enc1_bts 1 false r (h r hr)
  have e : enc1 1 false r = Lib.encodeRuneZ r := by unfold enc1; rw [if_pos rfl]
  rw [e] at this
  exact this x hx
theorem rd_drop' (b : List Int) (p k : Nat) : rd (b.drop p) (k : Int) = rd b ((p + k : Nat) : Int) := by
  unfold rd
  rw [List.getD_eq_getElem?_getD, List.getD_eq_getElem?_getD, List.getElem?_drop, Int.toNat_natCast, Int.toNat_natCast]
theorem decode_str_at {b : List Int} (hb : Bts b) (p : Nat) : Utf8.decode (str b) p = match dec1 (b.drop p) with | some q => (q.1.toNat, q.2) | none => (65533, 1) := by
  have e0 := str_get hb p
  have e1 := str_get hb (p + 1)
  have e2 := str_get hb (p + 2)
  have e3 := str_get hb (p + 3)
  have hbd : Bts (b.drop p) := bts_drop hb p
  obtain ⟨x0, y0⟩ := rd_bts hbd 0
  obtain ⟨x1, y1⟩ := rd_bts hbd 1
  obtain ⟨x2, y2⟩ := rd_bts hbd 2
  obtain ⟨x3, y3⟩ := rd_bts hbd 3
  rw [show p = p + 0 from rfl, ← rd_drop' b p 0] at e0
  rw [← rd_drop' b p 1] at e1
  rw [← rd_drop' b p 2] at e2
  rw [← rd_drop' b p 3] at e3
  rw [Lib.decode_at, str_size, show p = p + 0 from rfl, e0, Nat.add_zero, e1, e2, e3, decN _ _ _ _ _ (by omega)]
  unfold dec1
  rw [Int.toNat_of_nonneg x0, Int.toNat_of_nonneg x1, Int.toNat_of_nonneg x2, Int.toNat_of_nonneg x3, List.length_drop]
  rfl
def pos (q : List Int) (i : Nat) : Nat := (enc (q.take i)).length
theorem enc_split (q : List Int) (i : Nat) : enc q = enc (q.take i) ++ enc (q.drop i) := by
  unfold enc
  rw [← List.flatMap_append, List.take_append_drop]
theorem pos_size (q : List Int) (i : Nat) : (enc q).length = pos q i + (enc (q.drop i)).length := by
  rw [enc_split q i, List.length_append]; rfl
theorem pos_all (q : List Int) : pos q q.length = (enc q).length := by unfold pos; rw [List.take_of_length_le (Nat.le_refl _)]
theorem pos_succ (q : List Int) (i : Nat) (h : i < q.length) : pos q (i + 1) = pos q i + (Lib.encodeRuneZ (rd q (i : Int))).length := by
  unfold pos enc
  rw [take_succ q i h, List.flatMap_append, List.length_append]
  simp
theorem pos_lt (q : List Int) (i : Nat) (h : i < q.length) : pos q i < (enc q).length := by
  have h1 := pos_size q i
  rw [drop_nat q i h, enc_cons, List.length_append] at h1
  have := (Lib.encodeRuneZ_length (rd q (i : Int))).1
  omega
theorem decode_pos (q : List Int) (hq : ∀ r ∈ q, ok r) (i : Nat) (h : i < q.length) : Utf8.decode (str (enc q)) (pos q i) = ((rd q (i : Int)).toNat, (Lib.encodeRuneZ (rd q (i : Int))).length) := by
  have hd : (enc q).drop (pos q i) = Lib.encodeRuneZ (rd q (i : Int)) ++ enc (q.drop (i + 1)) := by
    rw [enc_split q i]
    show List.drop (enc (List.take i q)).length (enc (List.take i q) ++ enc (List.drop i q)) = _
    rw [List.drop_left, drop_nat q i h, enc_cons]
  rw [decode_str_at (enc_bts q hq), hd, dec1_enc _ _ (hq _ (rd_mem q i h))]
theorem runesZ_pos (q : List Int) (hq : ∀ r ∈ q, ok r) : ∀ (n i : Nat), i ≤ q.length → q.length ≤ i + n → runesZ n (str (enc q)) (pos q i) = q.drop i
  | 0, i, h, hn => by
    rw [List.drop_eq_nil_of_le (by omega)]; rfl
  | n + 1, i, h, hn => by
    unfold runesZ
    by_cases hi : i < q.length
    · rw [if_pos (by rw [str_size]; exact pos_lt q i hi), decode_pos q hq i hi]
      show (((rd q (i : Int)).toNat : Nat) : Int) :: runesZ n (str (enc q)) (pos q i + (Lib.encodeRuneZ (rd q (i : Int))).length) = _
      rw [← pos_succ q i hi, runesZ_pos q hq n (i + 1) (by omega) (by omega), Int.toNat_of_nonneg (hq _ (rd_mem q i hi)).1, drop_nat q i hi]
    · have hz : i = q.length := by omega
      subst hz
      rw [if_neg (by rw [str_size, pos_all]; omega), List.drop_eq_nil_of_le (by omega)]
theorem len_enc : ∀ q : List Int, q.length ≤ (enc q).length
  | [] => by simp [enc]
  | r :: t => by
    have ih := len_enc t
    have h1 := (Lib.encodeRuneZ_length r).1
    rw [enc_cons, List.length_append, List.length_cons]; omega
theorem runesZ_all (q : List Int) (hq : ∀ r ∈ q, ok r) : runesZ (str (enc q)).size (str (enc q)) 0 = q := by
  have h := runesZ_pos q hq (str (enc q)).size 0 (by omega) (by rw [str_size]; have := len_enc q; omega)
  rw [List.drop_zero] at h
  exact h
theorem cleaned_enc (q : List Int) (h : ∀ r ∈ q, may r = true ∧ r ≠ 13) : cleaned q = (str (enc q), 0) := by
  unfold cleaned
  rw [if_pos (fun r hr => (h r hr).1), cl_enc q (fun r hr => (h r hr).2)]
theorem okAll_or (o : Option (List Int)) : (okAll o).2 = 0 ∨ (okAll o).2 = 6 := by
  cases o with
  | none => exact .inr rfl
  | some l =>
    simp only [okAll]
    split
    · exact .inl rfl
    · exact .inr rfl
theorem decoded_is (b : List Int) (hb : Bts b) : ((decoded b).1 = (⟨#[]⟩ : ByteArray) ∧ ((decoded b).2 = 6 ∨ (decoded b).2 = 7)) ∨ ∃ q, decoded b = (str (enc q), 0) ∧ (∀ r ∈ q, may r = true ∧ r ≠ 13) ∧ q.length ≤ b.length := by
  have hr := runes_length b hb
  unfold decoded
  by_cases h0 : (runes b).2 = 0
  · rw [if_pos h0]
    unfold cleaned
    by_cases hm : ∀ r ∈ (runes b).1, may r = true
    · rw [if_pos hm]
      refine .inr ⟨br (runes b).1, by rw [cl_br], br_mem _ hm, ?_⟩
      have := br_length (runes b).1
      omega
    · rw [if_neg hm]
      exact .inl ⟨rfl, .inr rfl⟩
  · rw [if_neg h0]
    exact .inl ⟨rfl, .inl ((okAll_or _).resolve_left h0)⟩
end Go.Proofs.YtdbkefgdeenjoaaDoor.Plain
end
section
namespace Go.Proofs.YtdbkefgdeenjoaaDoor.X
open Go.RowKit Go.Proofs.YtdbkefgdeenjoaaDoorW.PrintWords Go.Proofs.YtdbkefgdeenjoaaDoorW.PrintLast Go.Proofs.YtdbkefgdeenjoaaDoorW.PrintMore
attribute [local go_sem] max2_int min2_int max_two min_two max_three min_three max_four min_four
set_option linter.unusedVariables false
set_option linter.unusedSimpArgs false
open Go.Proofs.YtdbkefgdeenjoaaDoor.Plain in
theorem breaks_clean (q : List Int) (hq : ∀ r ∈ q, may r = true ∧ r ≠ 13) (hl : q.length ≤ 4294967296) : text_Clean.f q = some (str (enc q), 0) := by
  rw [clean_eq q hl (ok_i32 (fun r hr => may_ok (hq r hr).1)), cleaned_enc q hq]
theorem iter_drew (w : World) (s : ByteArray) (p n : Nat) : (w.iter s p).drewN n = (w.drewN n).iter s p := rfl
theorem drew_drew (w : World) (m n : Nat) : (w.drewN m).drewN n = w.drewN (m + n) := by simp [World.drewN, Nat.add_assoc]
set_option maxHeartbeats 8000000 in
set_option maxRecDepth 100000 in
open Go.Proofs.YtdbkefgdeenjoaaDoor.Plain in
theorem breaks_walk (A0 : Option Addr) (c0 : Nat) (l0 : List Int) (w : World) (hr0 : Kd.C (Kd.int .u8) w A0 l0.length l0) (hc0 : l0.length ≤ c0) (hb0 : Bts l0) (hT : Tabs.Holds w) :
    Calls Tryd.prog 6 #[.slice A0 l0.length c0] w fun e w' => e = .returned (.bool true) ∧ Below w.heap.size w w' := by
  have HR0 := Aside0.mk hr0
  have HC0 := Aside0.mk hc0
  have HT := Aside0.mk hT
  have HB := Aside0.mk (Below.refl w.heap.size w)
  clear hr0 hc0 hT
  have HAL := Aside0.mk (show grillelaw01_alive.f = some true from rfl)
  by_cases c4 : (l0.length : Int) > 2000
  · have c4b0 : decide (2000 < (l0.length : Int)) = true := decide_eq_true c4
    go_enter Tryd.func6, Tryd.ntmps6
    go_wp2_with (first | ((with_reducible refine gate_callee (f := 10) rfl ?_); refine goesL_ (some 9) rfl rfl Tryd.func10 (by kernel_rfl) rfl #[] rfl (by (try simp only [List.map_toArray, List.map_cons, List.map_nil]); first | done | rfl) ?_; (with_reducible refine (grillelaw01_alive.calls true _ ?side1 HAL.out).mono ?_); (case side1 => exact Tabs.Holds.below HT.out (by repeat (first | (with_reducible first | exact HB.out | apply below_alloc | apply pw_below_drewN | apply below_drew1) | exact HB.out))); rintro e w29 ⟨rfl, hb⟩; refine ⟨_, rfl, ?_⟩; have HB2 := Aside0.mk (below_step (by repeat (first | (with_reducible first | exact HB.out | apply below_alloc | apply pw_below_drewN | apply below_drew1) | exact HB.out)) hb); clear HB hb; have HB := HB2; clear HB2))
    go_ret
    exact ⟨rfl, (by repeat (first | (with_reducible first | exact HB.out | apply below_alloc | apply pw_below_drewN | apply below_drew1) | exact HB.out))⟩
  · have c4b0 : decide (2000 < (l0.length : Int)) = false := decide_eq_false c4
    have hl0 : l0.length ≤ 2000 := by omega
    obtain ⟨k, hk⟩ := (decoded_eq l0 hb0 (by omega)).ex
    rcases decoded_is l0 hb0 with ⟨he1, he2⟩ | ⟨q, hq1, hq2, hq3⟩
    · have HK := Aside0.mk (show text_Decode.f k l0 = some ((⟨#[]⟩ : ByteArray), (decoded l0).2) by rw [hk, ← he1])
      clear hk
      obtain ⟨n, hn⟩ : ∃ n, (decoded l0).2 = n := ⟨_, rfl⟩
      rw [hn] at HK he2
      clear hn he1
      rcases he2 with rfl | rfl
      · go_enter Tryd.func6, Tryd.ntmps6
        go_wp2_with (first | ((with_reducible refine gate_callee (f := 10) rfl ?_); refine goesL_ (some 9) rfl rfl Tryd.func10 (by kernel_rfl) rfl #[] rfl (by (try simp only [List.map_toArray, List.map_cons, List.map_nil]); first | done | rfl) ?_; (with_reducible refine (grillelaw01_alive.calls true _ ?side1 HAL.out).mono ?_); (case side1 => exact Tabs.Holds.below HT.out (by repeat (first | (with_reducible first | exact HB.out | apply below_alloc | apply pw_below_drewN | apply below_drew1) | exact HB.out))); rintro e w29 ⟨rfl, hb⟩; refine ⟨_, rfl, ?_⟩; have HB2 := Aside0.mk (below_step (by repeat (first | (with_reducible first | exact HB.out | apply below_alloc | apply pw_below_drewN | apply below_drew1) | exact HB.out)) hb); clear HB hb; have HB := HB2; clear HB2) | ((with_reducible refine gate_callee (f := 15) rfl ?_); refine goesL_ (some 16) rfl rfl Tryd.func15 (by kernel_rfl) rfl #[.slice A0 l0.length c0] rfl (by (try simp only [List.map_toArray, List.map_cons, List.map_nil]); first | done | rfl) ?_; (with_reducible refine (text_Decode.calls k _ _ l0 _ _ _ ?side1 ?side2 ?side3 HK.out).mono ?_); (case side1 => exact Kd.C_below HR0.out (by repeat (first | (with_reducible first | exact HB.out | apply below_alloc | apply pw_below_drewN | apply below_drew1) | exact HB.out))); (case side2 => exact HC0.out); (case side3 => exact Tabs.Holds.below HT.out (by repeat (first | (with_reducible first | exact HB.out | apply below_alloc | apply pw_below_drewN | apply below_drew1) | exact HB.out))); rintro e w30 ⟨rfl, hb⟩; refine ⟨_, rfl, ?_⟩; have HB2 := Aside0.mk (below_step (by repeat (first | (with_reducible first | exact HB.out | apply below_alloc | apply pw_below_drewN | apply below_drew1) | exact HB.out)) hb); clear HB hb; have HB := HB2; clear HB2))
        go_ret
        exact ⟨rfl, (by repeat (first | (with_reducible first | exact HB.out | apply below_alloc | apply pw_below_drewN | apply below_drew1) | exact HB.out))⟩
      · go_enter Tryd.func6, Tryd.ntmps6
        go_wp2_with (first | ((with_reducible refine gate_callee (f := 10) rfl ?_); refine goesL_ (some 9) rfl rfl Tryd.func10 (by kernel_rfl) rfl #[] rfl (by (try simp only [List.map_toArray, List.map_cons, List.map_nil]); first | done | rfl) ?_; (with_reducible refine (grillelaw01_alive.calls true _ ?side1 HAL.out).mono ?_); (case side1 => exact Tabs.Holds.below HT.out (by repeat (first | (with_reducible first | exact HB.out | apply below_alloc | apply pw_below_drewN | apply below_drew1) | exact HB.out))); rintro e w29 ⟨rfl, hb⟩; refine ⟨_, rfl, ?_⟩; have HB2 := Aside0.mk (below_step (by repeat (first | (with_reducible first | exact HB.out | apply below_alloc | apply pw_below_drewN | apply below_drew1) | exact HB.out)) hb); clear HB hb; have HB := HB2; clear HB2) | ((with_reducible refine gate_callee (f := 15) rfl ?_); refine goesL_ (some 16) rfl rfl Tryd.func15 (by kernel_rfl) rfl #[.slice A0 l0.length c0] rfl (by (try simp only [List.map_toArray, List.map_cons, List.map_nil]); first | done | rfl) ?_; (with_reducible refine (text_Decode.calls k _ _ l0 _ _ _ ?side1 ?side2 ?side3 HK.out).mono ?_); (case side1 => exact Kd.C_below HR0.out (by repeat (first | (with_reducible first | exact HB.out | apply below_alloc | apply pw_below_drewN | apply below_drew1) | exact HB.out))); (case side2 => exact HC0.out); (case side3 => exact Tabs.Holds.below HT.out (by repeat (first | (with_reducible first | exact HB.out | apply below_alloc | apply pw_below_drewN | apply below_drew1) | exact HB.out))); rintro e w30 ⟨rfl, hb⟩; refine ⟨_, rfl, ?_⟩; have HB2 := Aside0.mk (below_step (by repeat (first | (with_reducible first | exact HB.out | apply below_alloc | apply pw_below_drewN | apply below_drew1) | exact HB.out)) hb); clear HB hb; have HB := HB2; clear HB2))
        go_ret
        exact ⟨rfl, (by repeat (first | (with_reducible first | exact HB.out | apply below_alloc | apply pw_below_drewN | apply below_drew1) | exact HB.out))⟩
    · have HK := Aside0.mk (show text_Decode.f k l0 = some (str (enc q), 0) by rw [hk, hq1])
      clear hk hq1
      have hok : ∀ r ∈ q, ok r := fun r hr => may_ok (hq2 r hr).1
      go_enter Tryd.func6, Tryd.ntmps6
      go_wp2_with (first | ((with_reducible refine gate_callee (f := 10) rfl ?_); refine goesL_ (some 9) rfl rfl Tryd.func10 (by kernel_rfl) rfl #[] rfl (by (try simp only [List.map_toArray, List.map_cons, List.map_nil]); first | done | rfl) ?_; (with_reducible refine (grillelaw01_alive.calls true _ ?side1 HAL.out).mono ?_); (case side1 => exact Tabs.Holds.below HT.out (by repeat (first | (with_reducible first | exact HB.out | apply below_alloc | apply pw_below_drewN | apply below_drew1) | exact HB.out))); rintro e w29 ⟨rfl, hb⟩; refine ⟨_, rfl, ?_⟩; have HB2 := Aside0.mk (below_step (by repeat (first | (with_reducible first | exact HB.out | apply below_alloc | apply pw_below_drewN | apply below_drew1) | exact HB.out)) hb); clear HB hb; have HB := HB2; clear HB2) | ((with_reducible refine gate_callee (f := 15) rfl ?_); refine goesL_ (some 16) rfl rfl Tryd.func15 (by kernel_rfl) rfl #[.slice A0 l0.length c0] rfl (by (try simp only [List.map_toArray, List.map_cons, List.map_nil]); first | done | rfl) ?_; (with_reducible refine (text_Decode.calls k _ _ l0 _ _ _ ?side1 ?side2 ?side3 HK.out).mono ?_); (case side1 => exact Kd.C_below HR0.out (by repeat (first | (with_reducible first | exact HB.out | apply below_alloc | apply pw_below_drewN | apply below_drew1) | exact HB.out))); (case side2 => exact HC0.out); (case side3 => exact Tabs.Holds.below HT.out (by repeat (first | (with_reducible first | exact HB.out | apply below_alloc | apply pw_below_drewN | apply below_drew1) | exact HB.out))); rintro e w30 ⟨rfl, hb⟩; refine ⟨_, rfl, ?_⟩; have HB2 := Aside0.mk (below_step (by repeat (first | (with_reducible first | exact HB.out | apply below_alloc | apply pw_below_drewN | apply below_drew1) | exact HB.out)) hb); clear HB hb; have HB := HB2; clear HB2))
      have HCL := Aside0.mk (breaks_clean q hq2 (by omega))
      have HSZ := Aside0.mk (show (str (enc q)).size ≤ 1000000 by rw [str_size]; have := enc_length q; omega)
      have HZ := Aside0.mk (runesZ_all q hok)
      go_loopw [] (fun w' => ∃ (m i : Nat), i ≤ q.length ∧ w' = (w30.drewN m).iter (str (enc q)) (pos q i)) (fun w' => (str (enc q)).size - w'.iterPos w30.heap.size)
      case atStart => exact ⟨0, 0, by omega, rfl⟩
      case round =>
        obtain ⟨m, i, hi, rfl⟩ := hrel
        by_cases hp : i < q.length
        · have hlt : pos q i < (str (enc q)).size := by rw [str_size]; exact pos_lt q i hp
          have hr := hok _ (rd_mem q i hp)
          have hm := hq2 _ (rd_mem q i hp)
          have hnx : ∀ ty, (Instr.next (.pointer (some ⟨w30.heap.size, 0, none⟩)) true ty).run Tryd.prog ((w30.drewN m).iter (str (enc q)) (pos q i)) = .ok (.tuple #[.bool true, .int .i64 (pos q i), .int .i32 (rd q (i : Int))]) ((w30.drewN m).iter (str (enc q)) (pos q (i + 1))) := fun ty => by
            have h := run_next_any (P := Tryd.prog) (w30.drewN m) (str (enc q)) (pos q i) ty hlt
            rw [decode_pos q hok i hp] at h
            simp only [Int.toNat_of_nonneg hr.1, ← pos_succ q i hp] at h
            exact h
          have hms : pos q i < pos q (i + 1) := by rw [pos_succ q i hp]; have := (Lib.encodeRuneZ_length (rd q (i : Int))).1; omega
          have h13 : (rd q (i : Int) == 13) = false := by simpa using hm.2
          have HM := Aside0.mk (show text_May.f (rd q (i : Int)) = some true by rw [may_eq, hm.1])
          have hszp : pos q (i + 1) ≤ (str (enc q)).size := by rw [str_size, pos_size q (i + 1)]; omega
          generalize rd q (i : Int) = r at hnx h13 HM
          clear hm hr
          go_wp2_with fail
          refine (text_May.calls r true _ HM.out).mono ?_
          rintro e w' ⟨rfl, ⟨nd, rfl⟩⟩
          go_wp2
          go_roundw
          case rel => exact ⟨m + nd, i + 1, by omega, by rw [iter_drew, drew_drew]⟩
          case measure =>
            have e1 := World.iterPos_iter (w30.drewN m) (str (enc q)) (pos q i)
            have e2 := World.iterPos_iter ((w30.drewN m).drewN nd) (str (enc q)) (pos q (i + 1))
            rw [← iter_drew] at e2
            have f1 : ((w30.drewN m).iter (str (enc q)) (pos q i)).iterPos w30.heap.size = pos q i := e1
            have f2 : (((w30.drewN m).iter (str (enc q)) (pos q (i + 1))).drewN nd).iterPos w30.heap.size = pos q (i + 1) := e2
            omega
        · have hz : i = q.length := by omega
          subst hz
          have hnx : ∀ ty, (Instr.next (.pointer (some ⟨w30.heap.size, 0, none⟩)) true ty).run Tryd.prog ((w30.drewN m).iter (str (enc q)) (pos q q.length)) = _ := fun ty => run_next_end (w30.drewN m) (str (enc q)) (pos q q.length) ty (by rw [str_size, pos_all]; omega)
          have HB2 := Aside0.mk (show Below w.heap.size w ((w30.drewN m).iter (str (enc q)) (pos q q.length)) from below_alloc (pw_below_drewN HB.out m) _)
          clear HB
          have HB := HB2
          clear HB2
          go_wp2_with (first | ((with_reducible refine gate_dst (N := 45) rfl ?_); refine conv32q_ (some 45) rfl rfl 9 26 21 (.tmp 44) (str (enc q)) q HZ.out rfl rfl Tryd.underlying9 Tryd.underlying26 Tryd.underlying21 HSZ.out ?_; intro c45 w45 hl45 hC45 hb; have HC45 := Aside0.mk hC45; have HL45 := Aside0.mk hl45; clear hl45 hC45; have n0_ := Aside0.mk (below_step (by repeat (first | (with_reducible first | exact HB.out | apply below_alloc | apply pw_below_drewN | apply below_drew1) | exact HB.out)) hb); clear HB; have HB := n0_; clear n0_ hb) | ((with_reducible refine gate_callee (f := 21) rfl ?_); refine goesL_ (some 46) rfl rfl Tryd.func21 (by kernel_rfl) rfl #[.slice (some ⟨_, 0, none⟩) q.length c45] rfl (by (try simp only [List.map_toArray, List.map_cons, List.map_nil]); first | done | rfl) ?_; (refine (text_Clean.calls _ _ q _ _ _ ?side1 ?side2 HCL.out).mono ?_); (case side1 => exact HC45.out); (case side2 => exact HL45.out); rintro e w46 ⟨rfl, hb⟩; refine ⟨_, rfl, ?_⟩; have n0_ := Aside0.mk (below_step (by repeat (first | (with_reducible first | exact HB.out | apply below_alloc | apply pw_below_drewN | apply below_drew1) | exact HB.out)) hb); clear HB hb; have HB := n0_; clear n0_))
          go_ret
          exact ⟨by simp, (by repeat (first | (with_reducible first | exact HB.out | apply below_alloc | apply pw_below_drewN | apply below_drew1) | exact HB.out))⟩
theorem bts_of_wf {l : List Int} (hw : ∀ x ∈ l, (Lit.int .u8 x).wf = true) : Plain.Bts l := by
  intro x hx
  have h1 := hw x hx
  simp [Lit.wf, IntKind.min, IntKind.max, IntKind.bits, IntKind.signed] at h1
  omega
theorem grillelaw01_TextBreaks.walk (a0 : Option Addr) (len0 cap0 : Nat) (z0 : List Int) (w : World) (w0 : (a0 = none ∧ len0 = 0 ∧ cap0 = 0 ∧ z0 = []) ∨ ∃ x, a0 = some x ∧ len0 ≤ cap0 ∧ cap0 ≤ maxLen ∧ z0.length = cap0 ∧ (∀ i, i < z0.length → w.cell? (x.add i) = some (.int .u8 (z0.getD i 0))) ∧ ∀ n ∈ z0, (Lit.int .u8 n).wf = true) (y0 : len0 * 1 ≤ 140737488351232) (hT : Tabs.Holds w) :
    Calls Tryd.prog 6 #[.slice a0 len0 cap0] w fun e w' => e = .returned (.bool true) ∧ Below w.heap.size w w' := by
  obtain ⟨l0, rfl, hr0, hm0, hw0, hc0⟩ := ReadsInt.ofRowC w0
  exact breaks_walk _ _ l0 w (Kd.C_of_reads (d := (0 : Int)) (h1 := fun _ => rfl) hr0) hc0 (bts_of_wf hw0) hT
end Go.Proofs.YtdbkefgdeenjoaaDoor.X
end
section
namespace Go.Proofs.YtdbkefgdeenjoaaDoor.Tabs
set_option linter.unusedVariables false
set_option linter.unusedSimpArgs false
open Go.Shelf Go.Lib
def ren : Ren := ⟨fun n => n, fun | 5 => 5 | 119 => 95 | 138 => 97 | 139 => 98 | n => n, fun | 3 => 0 | 4 => 1 | n => n⟩
theorem accept : (Rows.laid_unicode_utf8_acceptRanges : DataW Unit) = acceptData := by kernel_rfl
theorem of_laid {w : World} {l : List (String × DataW Unit)} (h : laidMet Tryd.prog l w) (h3 : ("unicode/utf8.first", Rows.laid_unicode_utf8_first) ∈ l) (h4 : ("unicode/utf8.acceptRanges", Rows.laid_unicode_utf8_acceptRanges) ∈ l) : Holds w := by
  have ht : Utf8Tabs 0 1 w := utf8Tabs_of_readsT (ρ := ren) ⟨Tryd.underlying5, Tryd.underlying95, Tryd.underlying97, Tryd.underlying98⟩ ⟨by kernel_rfl, by kernel_rfl, by kernel_rfl, by kernel_rfl, by kernel_rfl, by kernel_rfl, by kernel_rfl⟩
    (Pinned.utf8First_eq ▸ laidMet.reads h h3) (accept ▸ laidMet.reads h h4)
  refine ⟨ht, ?_⟩
  have := World.block_lt_of_cell? w _ (ht.2 0 (by decide)).1
  exact this
end Go.Proofs.YtdbkefgdeenjoaaDoor.Tabs
end
section
namespace Go.Proofs.YtdbkefgdeenjoaaDoorW.PrintWords
open Go.ChangeShapes Go.WideShapes
theorem sized_ints {H : Type} {enc : TypeId × Value → H} {P : Program} {W : World} {base : Nat} {spare : Nat → Bool} {held : Bool} {t e : TypeId} {k : IntKind} {a : Option Addr} {len cap : Nat} {d : DataW H} {ps : List MemPlace} {ts : List TypeId} {ds : List (DataW H)} {j : Nat}
    (hsz : (DataW.weightsEach P ts ds).all (· ≤ reachBytes) = true) (ht : ts[j]? = some t) (hd : ds[j]? = some d) (hu : P.underlying t = some (.slice e)) (he : P.underlying e = some (.int k)) (hc : P.cellsOf e = 1) {B : Nat} (hB : P.bytesOf e = B)
    (h : DataW.Trod enc P W base spare held t (.slice a len cap) d ps) : len * B ≤ 140737488351232 := by
  obtain ⟨fuel, hf⟩ := h
  rcases open_ints hu he hc hf with ⟨hcs, _⟩ | ⟨x, l, c, zs, hcs, _, hl, _, hz, hx, _, _⟩
  · simp [Value.cells] at hcs
    obtain ⟨rfl, rfl, rfl⟩ := hcs
    simp
  · simp [Value.cells] at hcs
    obtain ⟨rfl, rfl, rfl⟩ := hcs
    obtain ⟨hx, _⟩ := Prod.mk.inj hx
    subst hx
    have z := sized_slice hsz ht hd hu
    rw [hB] at z
    have hl2 : len ≤ zs.length := by
      rw [hz]
      split
      · exact hl
      · exact Nat.le_refl _
    have h1 : (lits (H := H) k (zs.take len)).length + (lits (H := H) k (zs.drop len)).length = zs.length := by
      simp [lits]
      omega
    rw [h1] at z
    exact Nat.le_trans (Nat.mul_le_mul_right _ hl2) z
end Go.Proofs.YtdbkefgdeenjoaaDoorW.PrintWords
end
