/- Words and walks that the row of TextMakes needs: printed by programs, and plain laws. -/
import Derived.Test.YtdbkefgdeenjoaaDoorM1
section
namespace Go.Proofs.YtdbkefgdeenjoaaDoor.X
open Go.RowKit Go.Proofs.YtdbkefgdeenjoaaDoorW.PrintWords Go.Proofs.YtdbkefgdeenjoaaDoorW.PrintLast Go.Proofs.YtdbkefgdeenjoaaDoorW.PrintMore
attribute [local go_sem] max2_int min2_int max_two min_two max_three min_three max_four min_four
set_option linter.unusedVariables false
set_option linter.unusedSimpArgs false
def text_May.f (a0 : Int) : Option (Bool) := if a0 = 9 then (some true) else (if a0 = 10 then (some true) else (if a0 = 13 then (some true) else (if a0 = 133 then (some true) else (if a0 = 65279 then (some false) else (if a0 = 65534 then (some false) else (if a0 = 65535 then (some false) else (if a0 ≥ 32 then (if a0 < 127 then (some true) else (if a0 ≥ 160 then ((utf8_ValidRune.f a0).bind fun t213 => (some t213)) else (some false))) else (if a0 ≥ 160 then ((utf8_ValidRune.f a0).bind fun t214 => (some t214)) else (some false)))))))))
set_option maxHeartbeats 8000000 in
set_option maxRecDepth 100000 in
theorem text_May.calls (a0 : Int) (r : Bool) (w : World) (h : text_May.f a0 = some r) :
    Calls Tryd.prog 23 #[.int .i32 a0] w fun e w' => e = .returned (.bool r) ∧ Drawn0 w w' := by
  have H : (if a0 = 9 then (some true) else (if a0 = 10 then (some true) else (if a0 = 13 then (some true) else (if a0 = 133 then (some true) else (if a0 = 65279 then (some false) else (if a0 = 65534 then (some false) else (if a0 = 65535 then (some false) else (if a0 ≥ 32 then (if a0 < 127 then (some true) else (if a0 ≥ 160 then ((utf8_ValidRune.f a0).bind fun t213 => (some t213)) else (some false))) else (if a0 ≥ 160 then ((utf8_ValidRune.f a0).bind fun t214 => (some t214)) else (some false)))))))))) = some r := h
  clear h
  by_cases c2 : a0 = 9
  · rw [if_pos c2] at H
    have c2b0 : (a0 == 9) = true := beq_iff_eq.mpr c2
    have c2b1 : (a0 != 9) = false := bne_eq_false_iff_eq.mpr c2
    clear c2
    obtain rfl := Option.some.inj H
    go_enter Tryd.func23, Tryd.ntmps23
    go_wp2
    go_ret
    exact ⟨by first | rfl | (simp; done) | (simp [*]; done) | (simp [xbne_nil, xbeq_nil]; done), by repeat (first | exact Drawn0.refl _ | apply Drawn0.step)⟩
  · rw [if_neg c2] at H
    have c2b0 : (a0 == 9) = false := beq_eq_false_iff_ne.mpr c2
    have c2b1 : (a0 != 9) = true := bne_iff_ne.mpr c2
    by_cases c3 : a0 = 10
    · rw [if_pos c3] at H
      have c3b0 : (a0 == 10) = true := beq_iff_eq.mpr c3
      have c3b1 : (a0 != 10) = false := bne_eq_false_iff_eq.mpr c3
      clear c3
      obtain rfl := Option.some.inj H
      go_enter Tryd.func23, Tryd.ntmps23
      go_wp2
      go_ret
      exact ⟨by first | rfl | (simp; done) | (simp [*]; done) | (simp [xbne_nil, xbeq_nil]; done), by repeat (first | exact Drawn0.refl _ | apply Drawn0.step)⟩
    · rw [if_neg c3] at H
      have c3b0 : (a0 == 10) = false := beq_eq_false_iff_ne.mpr c3
      have c3b1 : (a0 != 10) = true := bne_iff_ne.mpr c3
      by_cases c4 : a0 = 13
      · rw [if_pos c4] at H
        have c4b0 : (a0 == 13) = true := beq_iff_eq.mpr c4
        have c4b1 : (a0 != 13) = false := bne_eq_false_iff_eq.mpr c4
        clear c4
        obtain rfl := Option.some.inj H
        go_enter Tryd.func23, Tryd.ntmps23
        go_wp2
        go_ret
        exact ⟨by first | rfl | (simp; done) | (simp [*]; done) | (simp [xbne_nil, xbeq_nil]; done), by repeat (first | exact Drawn0.refl _ | apply Drawn0.step)⟩
      · rw [if_neg c4] at H
        have c4b0 : (a0 == 13) = false := beq_eq_false_iff_ne.mpr c4
        have c4b1 : (a0 != 13) = true := bne_iff_ne.mpr c4
        by_cases c5 : a0 = 133
        · rw [if_pos c5] at H
          have c5b0 : (a0 == 133) = true := beq_iff_eq.mpr c5
          have c5b1 : (a0 != 133) = false := bne_eq_false_iff_eq.mpr c5
          clear c5
          obtain rfl := Option.some.inj H
          go_enter Tryd.func23, Tryd.ntmps23
          go_wp2
          go_ret
          exact ⟨by first | rfl | (simp; done) | (simp [*]; done) | (simp [xbne_nil, xbeq_nil]; done), by repeat (first | exact Drawn0.refl _ | apply Drawn0.step)⟩
        · rw [if_neg c5] at H
          have c5b0 : (a0 == 133) = false := beq_eq_false_iff_ne.mpr c5
          have c5b1 : (a0 != 133) = true := bne_iff_ne.mpr c5
          by_cases c6 : a0 = 65279
          · rw [if_pos c6] at H
            have c6b0 : (a0 == 65279) = true := beq_iff_eq.mpr c6
            have c6b1 : (a0 != 65279) = false := bne_eq_false_iff_eq.mpr c6
            clear c6
            obtain rfl := Option.some.inj H
            go_enter Tryd.func23, Tryd.ntmps23
            go_wp2
            go_ret
            exact ⟨by first | rfl | (simp; done) | (simp [*]; done) | (simp [xbne_nil, xbeq_nil]; done), by repeat (first | exact Drawn0.refl _ | apply Drawn0.step)⟩
          · rw [if_neg c6] at H
            have c6b0 : (a0 == 65279) = false := beq_eq_false_iff_ne.mpr c6
            have c6b1 : (a0 != 65279) = true := bne_iff_ne.mpr c6
            by_cases c7 : a0 = 65534
            · rw [if_pos c7] at H
              have c7b0 : (a0 == 65534) = true := beq_iff_eq.mpr c7
              have c7b1 : (a0 != 65534) = false := bne_eq_false_iff_eq.mpr c7
              clear c7
              obtain rfl := Option.some.inj H
              go_enter Tryd.func23, Tryd.ntmps23
              go_wp2
              go_ret
              exact ⟨by first | rfl | (simp; done) | (simp [*]; done) | (simp [xbne_nil, xbeq_nil]; done), by repeat (first | exact Drawn0.refl _ | apply Drawn0.step)⟩
            · rw [if_neg c7] at H
              have c7b0 : (a0 == 65534) = false := beq_eq_false_iff_ne.mpr c7
              have c7b1 : (a0 != 65534) = true := bne_iff_ne.mpr c7
              by_cases c8 : a0 = 65535
              · rw [if_pos c8] at H
                have c8b0 : (a0 == 65535) = true := beq_iff_eq.mpr c8
                have c8b1 : (a0 != 65535) = false := bne_eq_false_iff_eq.mpr c8
                clear c8
                obtain rfl := Option.some.inj H
                go_enter Tryd.func23, Tryd.ntmps23
                go_wp2
                go_ret
                exact ⟨by first | rfl | (simp; done) | (simp [*]; done) | (simp [xbne_nil, xbeq_nil]; done), by repeat (first | exact Drawn0.refl _ | apply Drawn0.step)⟩
              · rw [if_neg c8] at H
                have c8b0 : (a0 == 65535) = false := beq_eq_false_iff_ne.mpr c8
                have c8b1 : (a0 != 65535) = true := bne_iff_ne.mpr c8
                by_cases c9 : a0 ≥ 32
                · rw [if_pos c9] at H
                  have c9b0 : decide (32 ≤ a0) = true := decide_eq_true c9
                  clear c9
                  by_cases c10 : a0 < 127
                  · rw [if_pos c10] at H
                    have c10b0 : decide (a0 < 127) = true := decide_eq_true c10
                    clear c10
                    obtain rfl := Option.some.inj H
                    go_enter Tryd.func23, Tryd.ntmps23
                    go_wp2
                    go_ret
                    exact ⟨by first | rfl | (simp; done) | (simp [*]; done) | (simp [xbne_nil, xbeq_nil]; done), by repeat (first | exact Drawn0.refl _ | apply Drawn0.step)⟩
                  · rw [if_neg c10] at H
                    have c10b0 : decide (a0 < 127) = false := decide_eq_false c10
                    clear c10
                    by_cases c11 : a0 ≥ 160
                    · rw [if_pos c11] at H
                      have c11b0 : decide (160 ≤ a0) = true := decide_eq_true c11
                      clear c11
                      replace H := Option.bind_eq_some_iff.mp H
                      obtain ⟨t213, A120, H⟩ := H
                      replace H : (some t213) = some r := H
                      have A12 := Aside0.mk A120
                      clear A120
                      obtain rfl := Option.some.inj H
                      go_enter Tryd.func23, Tryd.ntmps23
                      go_wp2_with (first | (go_at_call 35; (with_reducible refine (utf8_ValidRune.calls a0 t213 _ A12.out).mono ?_); rintro e w' ⟨rfl, ⟨nd, rfl⟩⟩))
                      go_ret
                      exact ⟨by first | rfl | (simp; done) | (simp [*]; done) | (simp [xbne_nil, xbeq_nil]; done), by repeat (first | exact Drawn0.refl _ | apply Drawn0.step)⟩
                    · rw [if_neg c11] at H
                      have c11b0 : decide (160 ≤ a0) = false := decide_eq_false c11
                      clear c11
                      obtain rfl := Option.some.inj H
                      go_enter Tryd.func23, Tryd.ntmps23
                      go_wp2
                      go_ret
                      exact ⟨by first | rfl | (simp; done) | (simp [*]; done) | (simp [xbne_nil, xbeq_nil]; done), by repeat (first | exact Drawn0.refl _ | apply Drawn0.step)⟩
                · rw [if_neg c9] at H
                  have c9b0 : decide (32 ≤ a0) = false := decide_eq_false c9
                  clear c9
                  by_cases c13 : a0 ≥ 160
                  · rw [if_pos c13] at H
                    have c13b0 : decide (160 ≤ a0) = true := decide_eq_true c13
                    clear c13
                    replace H := Option.bind_eq_some_iff.mp H
                    obtain ⟨t214, A140, H⟩ := H
                    replace H : (some t214) = some r := H
                    have A14 := Aside0.mk A140
                    clear A140
                    obtain rfl := Option.some.inj H
                    go_enter Tryd.func23, Tryd.ntmps23
                    go_wp2_with (first | (go_at_call 35; (with_reducible refine (utf8_ValidRune.calls a0 t214 _ A14.out).mono ?_); rintro e w' ⟨rfl, ⟨nd, rfl⟩⟩))
                    go_ret
                    exact ⟨by first | rfl | (simp; done) | (simp [*]; done) | (simp [xbne_nil, xbeq_nil]; done), by repeat (first | exact Drawn0.refl _ | apply Drawn0.step)⟩
                  · rw [if_neg c13] at H
                    have c13b0 : decide (160 ≤ a0) = false := decide_eq_false c13
                    clear c13
                    obtain rfl := Option.some.inj H
                    go_enter Tryd.func23, Tryd.ntmps23
                    go_wp2
                    go_ret
                    exact ⟨by first | rfl | (simp; done) | (simp [*]; done) | (simp [xbne_nil, xbeq_nil]; done), by repeat (first | exact Drawn0.refl _ | apply Drawn0.step)⟩
def text_Clean.go : List Int → List UInt8 → Option (ByteArray × Int)
  | [], out => some ((⟨out.toArray⟩ : ByteArray), 0)
  | r :: t, out => (text_May.f r).bind fun m => (if m = true then (if r = 13 then (if t.head? = some 10 then text_Clean.go t out else text_Clean.go t (out ++ [10])) else (if -2147483648 ≤ r ∧ r ≤ 2147483647 then text_Clean.go t (out ++ Lib.encodeRune r) else none)) else some ((⟨#[]⟩ : ByteArray), 7))
def text_Clean.f (l0 : List Int) : Option (ByteArray × Int) := if l0.length ≤ 4294967296 then text_Clean.go l0 [] else none
theorem text_Clean.rd_drop (l : List Int) (i : Int) (h0 : 0 ≤ i) (h1 : i < (l.length : Int)) : l.drop i.toNat = rd l i :: l.drop (i + 1).toNat := by
  have hl : i.toNat < l.length := by omega
  rw [List.drop_eq_getElem_cons hl, show (i + 1).toNat = i.toNat + 1 from by omega]
  unfold rd
  rw [List.getD_eq_getElem?_getD, List.getElem?_eq_getElem hl]; rfl
theorem text_Clean.bld_drewN {T e : TypeId} {B b : Nat} {bs : List Value} {w : World} (h : Lib.IsBuilderF T e B b bs w) (n : Nat) : Lib.IsBuilderF T e B b bs (w.drewN n) := h
set_option maxHeartbeats 4000000 in
set_option maxRecDepth 100000 in
theorem text_Clean.calls (A0 : Option Addr) (c0 : Nat) (l0 : List Int) (r1 : ByteArray) (r2 : Int) (w : World) (hr0 : Kd.C (Kd.int .i32) w A0 l0.length l0) (_hc0 : l0.length ≤ c0) (h : text_Clean.f l0 = some (r1, r2)) :
    Calls Tryd.prog 21 #[.slice A0 l0.length c0] w fun e w' => e = .returned (.tuple #[.string r1, .int .i64 r2]) ∧ Below w.heap.size w w' := by
  unfold text_Clean.f at h
  by_cases hlen : l0.length ≤ 4294967296
  case neg => rw [if_neg hlen] at h; cases h
  rw [if_pos hlen] at h
  have HR0 := Aside0.mk hr0
  have HL := Aside0.mk hlen
  have HG := Aside0.mk h
  clear hr0 hlen h
  have hnew : Aside0 (Lib.IsBuilderF 78 5 w.heap.size w.heap.size (Lib.byteCells []) (w.alloc (.cells #[.pointer none, .slice none 0 0] 78))) := ⟨Lib.IsBuilderF.of (Lib.fresh_isBuilder 78 5 w)⟩
  go_enter Tryd.func21, Tryd.ntmps21
  go_wp2
  go_loopw [9] (fun v9 wr => ∃ (i : Int) (out : List UInt8), v9 = .int .i64 i ∧ Aside0 (0 ≤ i ∧ i ≤ (l0.length : Int)) ∧ Aside0 (text_Clean.go (l0.drop i.toNat) out = some (r1, r2)) ∧ Aside0 ((out.length : Int) ≤ 4 * i) ∧ Aside0 (Lib.IsBuilderF 78 5 w.heap.size w.heap.size (Lib.byteCells out) wr) ∧ Aside0 (Below w.heap.size w wr)) (fun v9 _ => l0.length - (intOf v9).toNat)
  case atStart => exact ⟨0, [], rfl, ⟨by omega⟩, HG, ⟨by simp⟩, hnew, ⟨(Below.refl _ _).alloc (Nat.le_refl _) _⟩⟩
  case round =>
    obtain ⟨i, out, rfl, HI, HA, HO, HBl, HB⟩ := hrel
    by_cases c2 : i < (l0.length : Int)
    · have c2b0 : decide (i < (l0.length : Int)) = true := decide_eq_true c2
      have hd := text_Clean.rd_drop l0 i HI.out.1 c2
      have H := HA.out
      rw [hd] at H
      clear HA hd
      simp only [text_Clean.go] at H
      obtain ⟨m, A20, H⟩ := Option.bind_eq_some_iff.mp H
      have A2 := Aside0.mk A20
      clear A20
      have p4 := HI.out.1
      obtain ⟨ad4, e4, hx4⟩ := Kd.at_int HR0.out i p4 c2
      cases e4
      replace hx4 := (HB.out.cell (World.block_lt_of_cell? w _ hx4)).trans hx4
      have hn1 : Aside0 (wrap64 (i + 1) = i + 1) := ⟨by have := HL.out; unfold wrap64; omega⟩
      have p4b : (0 ≤ i) = True := eq_true p4
      have q4b : (i < (l0.length : Int)) = True := eq_true c2
      have HI2 := Aside0.mk c2
      clear p4
      cases m with
      | false =>
        rw [if_neg (by decide)] at H
        simp only [Option.some.injEq, Prod.mk.injEq] at H
        obtain ⟨rfl, rfl⟩ := H
        go_wp2_with (go_at_call 23; (with_reducible refine (text_May.calls _ false _ A2.out).mono ?_); rintro e w' ⟨rfl, ⟨nd, rfl⟩⟩)
        go_ret2
        exact ⟨rfl, pw_below_drewN HB.out _⟩
      | true =>
        rw [if_pos rfl] at H
        by_cases c5 : rd l0 i = 13
        · rw [if_pos c5] at H
          have c5b0 : (rd l0 i == 13) = true := beq_iff_eq.mpr c5
          have C5 := Aside0.mk c5
          clear c5
          by_cases c6 : i + 1 < (l0.length : Int)
          · have c6b0 : decide (wrap64 (i + 1) < (l0.length : Int)) = true := by rw [hn1.out]; exact decide_eq_true c6
            obtain ⟨ad7, e7, hx7⟩ := Kd.at_int HR0.out (i + 1) (by have := HI.out; omega) c6
            cases e7
            replace hx7 := (HB.out.cell (World.block_lt_of_cell? w _ hx7)).trans hx7
            rw [show (i + 1).toNat = (wrap64 (i + 1)).toNat from by rw [hn1.out]] at hx7
            have hh : (l0.drop (i + 1).toNat).head? = some (rd l0 (i + 1)) := by rw [text_Clean.rd_drop l0 (i + 1) (by have := HI.out; omega) c6]; rfl
            rw [hh] at H
            have p7b : (0 ≤ wrap64 (i + 1)) = True := eq_true (by rw [hn1.out]; have := HI.out; omega)
            have q7b : (wrap64 (i + 1) < (l0.length : Int)) = True := eq_true (by rw [hn1.out]; exact c6)
            clear hh c6
            by_cases c8 : rd l0 (i + 1) = 10
            · rw [if_pos (by rw [c8])] at H
              have c8b0 : (rd l0 (i + 1) == 10) = true := beq_iff_eq.mpr c8
              have H' := Aside0.mk H
              clear H c8
              go_wp2_with (go_at_call 23; (with_reducible refine (text_May.calls _ true _ A2.out).mono ?_); rintro e w' ⟨rfl, ⟨nd, rfl⟩⟩)
              go_roundw
              case rel => exact ⟨wrap64 (i + 1), out, rfl, ⟨by rw [hn1.out]; have := HI.out; have := HI2.out; omega⟩, by rw [hn1.out]; exact H', ⟨by rw [hn1.out]; have := HO.out; omega⟩, HBl, ⟨pw_below_drewN HB.out _⟩⟩
              case measure => simp only [intOf]; rw [hn1.out]; have := HI.out; have := HI2.out; omega
            · rw [if_neg (by intro e; exact c8 (Option.some.inj e))] at H
              have c8b0 : (rd l0 (i + 1) == 10) = false := beq_eq_false_iff_ne.mpr c8
              clear c8
              have H' := Aside0.mk H
              clear H
              go_wp2_with (go_at_call 23; (with_reducible refine (text_May.calls _ true _ A2.out).mono ?_); rintro e w' ⟨rfl, ⟨nd, rfl⟩⟩)
              have hlen' : (Lib.byteCells out).length + 4 ≤ 140737488355328 := by rw [Lib.byteCells_length]; have := HO.out; have := HI.out; have := HL.out; omega
              have hsz' : w.heap.size ≤ (wr.drewN nd).heap.size := HB.out.size
              refine (Bld.byte w.heap.size w.heap.size (Lib.byteCells out) 10 (wr.drewN nd) (text_Clean.bld_drewN HBl.out nd) (by omega) hsz').mono ?_
              rintro e w' ⟨rfl, hbl', hb'⟩
              go_wp2
              go_roundw
              case rel => exact ⟨wrap64 (i + 1), out ++ [10], rfl, ⟨by rw [hn1.out]; have := HI.out; have := HI2.out; omega⟩, by rw [hn1.out]; exact H', ⟨by rw [hn1.out, List.length_append]; have := HO.out; simp; omega⟩, ⟨by rw [Lib.byteCells_append]; exact Or.inr hbl'⟩, ⟨(pw_below_drewN HB.out _).trans hb'⟩⟩
              case measure => simp only [intOf]; rw [hn1.out]; have := HI.out; have := HI2.out; omega
          · have c6b0 : decide (wrap64 (i + 1) < (l0.length : Int)) = false := by rw [hn1.out]; exact decide_eq_false c6
            have hdn : Aside0 (l0.drop (i + 1).toNat = []) := ⟨List.drop_eq_nil_of_le (show l0.length ≤ (i + 1).toNat from by have := HI.out; omega)⟩
            rw [hdn.out] at H
            rw [if_neg (by simp)] at H
            clear c6
            have H' := Aside0.mk H
            clear H
            go_wp2_with (go_at_call 23; (with_reducible refine (text_May.calls _ true _ A2.out).mono ?_); rintro e w' ⟨rfl, ⟨nd, rfl⟩⟩)
            have hlen' : (Lib.byteCells out).length + 4 ≤ 140737488355328 := by rw [Lib.byteCells_length]; have := HO.out; have := HI.out; have := HL.out; omega
            have hsz' : w.heap.size ≤ (wr.drewN nd).heap.size := HB.out.size
            refine (Bld.byte w.heap.size w.heap.size (Lib.byteCells out) 10 (wr.drewN nd) (text_Clean.bld_drewN HBl.out nd) (by omega) hsz').mono ?_
            rintro e w' ⟨rfl, hbl', hb'⟩
            go_wp2
            go_roundw
            case rel => exact ⟨wrap64 (i + 1), out ++ [10], rfl, ⟨by rw [hn1.out]; have := HI.out; have := HI2.out; omega⟩, by rw [hn1.out, hdn.out]; exact H', ⟨by rw [hn1.out, List.length_append]; have := HO.out; simp; omega⟩, ⟨by rw [Lib.byteCells_append]; exact Or.inr hbl'⟩, ⟨(pw_below_drewN HB.out _).trans hb'⟩⟩
            case measure => simp only [intOf]; rw [hn1.out]; have := HI.out; have := HI2.out; omega
        · rw [if_neg c5] at H
          have c5b0 : (rd l0 i == 13) = false := beq_eq_false_iff_ne.mpr c5
          clear c5
          by_cases c9 : -2147483648 ≤ rd l0 i ∧ rd l0 i ≤ 2147483647
          · rw [if_pos c9] at H
            have H' := Aside0.mk H
            have C9 := Aside0.mk c9
            clear H c9
            go_wp2_with (go_at_call 23; (with_reducible refine (text_May.calls _ true _ A2.out).mono ?_); rintro e w' ⟨rfl, ⟨nd, rfl⟩⟩)
            have hlen' : (Lib.byteCells out).length + 4 ≤ 140737488355328 := by rw [Lib.byteCells_length]; have := HO.out; have := HI.out; have := HL.out; omega
            have hsz' : w.heap.size ≤ (wr.drewN nd).heap.size := HB.out.size
            refine (Bld.rune w.heap.size w.heap.size (Lib.byteCells out) (rd l0 i) C9.out.1 C9.out.2 (wr.drewN nd) (text_Clean.bld_drewN HBl.out nd) hlen' hsz').mono ?_
            rintro e w' ⟨rfl, hbl', hb'⟩
            go_wp2
            go_roundw
            case rel => exact ⟨wrap64 (i + 1), out ++ Lib.encodeRune (rd l0 i), rfl, ⟨by rw [hn1.out]; have := HI.out; have := HI2.out; omega⟩, by rw [hn1.out]; exact H', ⟨by rw [hn1.out, List.length_append]; have := HO.out; have h4 := (Lib.runeCells_le (rd l0 i)).2; rw [Lib.runeCells_length] at h4; omega⟩, ⟨by rw [Lib.byteCells_append, Lib.byteCells_encodeRune]; exact Or.inr hbl'⟩, ⟨(pw_below_drewN HB.out _).trans hb'⟩⟩
            case measure => simp only [intOf]; rw [hn1.out]; have := HI.out; have := HI2.out; omega
          · rw [if_neg c9] at H; cases H
    · have c2b0 : decide (i < (l0.length : Int)) = false := decide_eq_false c2
      have H := HA.out
      rw [List.drop_eq_nil_of_le (by have := HI.out; omega)] at H
      simp only [text_Clean.go, Option.some.injEq, Prod.mk.injEq] at H
      obtain ⟨rfl, rfl⟩ := H
      clear HA c2
      go_wp2_with (go_at_call 46; (with_reducible refine (Tryd.Builder_String_any_f _ _ out _ HBl.out (by have := HB.out.size; omega)).mono ?_); rintro e w' ⟨rfl, hbs, hb'⟩)
      go_ret2
      exact ⟨rfl, HB.out.trans hb'⟩
end Go.Proofs.YtdbkefgdeenjoaaDoor.X
end
section
namespace Go.Proofs.YtdbkefgdeenjoaaDoor.X
open Go.RowKit Go.Proofs.YtdbkefgdeenjoaaDoorW.PrintWords Go.Proofs.YtdbkefgdeenjoaaDoorW.PrintLast Go.Proofs.YtdbkefgdeenjoaaDoorW.PrintMore
attribute [local go_sem] max2_int min2_int max_two min_two max_three min_three max_four min_four
set_option linter.unusedVariables false
set_option linter.unusedSimpArgs false
def text_wide.f (a0 : Int) : Option (Int × Bool) := if a0 = 2 then (some (2, true)) else (if a0 = 1 then (some (2, false)) else (if a0 = 4 then (some (4, true)) else (if a0 = 3 then (some (4, false)) else (some (1, false)))))
set_option maxHeartbeats 8000000 in
set_option maxRecDepth 100000 in
theorem text_wide.calls (a0 : Int) (r1 : Int) (r2 : Bool) (w : World) (h : text_wide.f a0 = some (r1, r2)) :
    Calls Tryd.prog 31 #[.int .i64 a0] w fun e w' => e = .returned (.tuple #[.int .i64 r1, .bool r2]) ∧ Drawn0 w w' := by
  have H : (if a0 = 2 then (some (2, true)) else (if a0 = 1 then (some (2, false)) else (if a0 = 4 then (some (4, true)) else (if a0 = 3 then (some (4, false)) else (some (1, false)))))) = some (r1, r2) := h
  clear h
  by_cases c2 : a0 = 2
  · rw [if_pos c2] at H
    have c2b0 : (a0 == 2) = true := beq_iff_eq.mpr c2
    have c2b1 : (a0 != 2) = false := bne_eq_false_iff_eq.mpr c2
    clear c2
    simp only [Option.some.injEq, Prod.mk.injEq] at H
    obtain ⟨rfl, rfl⟩ := H
    go_enter Tryd.func31, Tryd.ntmps31
    go_wp2
    go_ret2
    exact ⟨by first | rfl | (simp; done) | (simp [*]; done) | (simp [xbne_nil, xbeq_nil]; done), by repeat (first | exact Drawn0.refl _ | apply Drawn0.step)⟩
  · rw [if_neg c2] at H
    have c2b0 : (a0 == 2) = false := beq_eq_false_iff_ne.mpr c2
    have c2b1 : (a0 != 2) = true := bne_iff_ne.mpr c2
    by_cases c3 : a0 = 1
    · rw [if_pos c3] at H
      have c3b0 : (a0 == 1) = true := beq_iff_eq.mpr c3
      have c3b1 : (a0 != 1) = false := bne_eq_false_iff_eq.mpr c3
      clear c3
      simp only [Option.some.injEq, Prod.mk.injEq] at H
      obtain ⟨rfl, rfl⟩ := H
      go_enter Tryd.func31, Tryd.ntmps31
      go_wp2
      go_ret2
      exact ⟨by first | rfl | (simp; done) | (simp [*]; done) | (simp [xbne_nil, xbeq_nil]; done), by repeat (first | exact Drawn0.refl _ | apply Drawn0.step)⟩
    · rw [if_neg c3] at H
      have c3b0 : (a0 == 1) = false := beq_eq_false_iff_ne.mpr c3
      have c3b1 : (a0 != 1) = true := bne_iff_ne.mpr c3
      by_cases c4 : a0 = 4
      · rw [if_pos c4] at H
        have c4b0 : (a0 == 4) = true := beq_iff_eq.mpr c4
        have c4b1 : (a0 != 4) = false := bne_eq_false_iff_eq.mpr c4
        clear c4
        simp only [Option.some.injEq, Prod.mk.injEq] at H
        obtain ⟨rfl, rfl⟩ := H
        go_enter Tryd.func31, Tryd.ntmps31
        go_wp2
        go_ret2
        exact ⟨by first | rfl | (simp; done) | (simp [*]; done) | (simp [xbne_nil, xbeq_nil]; done), by repeat (first | exact Drawn0.refl _ | apply Drawn0.step)⟩
      · rw [if_neg c4] at H
        have c4b0 : (a0 == 4) = false := beq_eq_false_iff_ne.mpr c4
        have c4b1 : (a0 != 4) = true := bne_iff_ne.mpr c4
        by_cases c5 : a0 = 3
        · rw [if_pos c5] at H
          have c5b0 : (a0 == 3) = true := beq_iff_eq.mpr c5
          have c5b1 : (a0 != 3) = false := bne_eq_false_iff_eq.mpr c5
          clear c5
          simp only [Option.some.injEq, Prod.mk.injEq] at H
          obtain ⟨rfl, rfl⟩ := H
          go_enter Tryd.func31, Tryd.ntmps31
          go_wp2
          go_ret2
          exact ⟨by first | rfl | (simp; done) | (simp [*]; done) | (simp [xbne_nil, xbeq_nil]; done), by repeat (first | exact Drawn0.refl _ | apply Drawn0.step)⟩
        · rw [if_neg c5] at H
          have c5b0 : (a0 == 3) = false := beq_eq_false_iff_ne.mpr c5
          have c5b1 : (a0 != 3) = true := bne_iff_ne.mpr c5
          simp only [Option.some.injEq, Prod.mk.injEq] at H
          obtain ⟨rfl, rfl⟩ := H
          go_enter Tryd.func31, Tryd.ntmps31
          go_wp2
          go_ret2
          exact ⟨by first | rfl | (simp; done) | (simp [*]; done) | (simp [xbne_nil, xbeq_nil]; done), by repeat (first | exact Drawn0.refl _ | apply Drawn0.step)⟩
def utf8_DecodeRune.bytes (l : List Int) : ByteArray := ⟨(l.map fun x => UInt8.ofNat x.toNat).toArray⟩
def utf8_DecodeRune.f (l0 : List Int) : Option (Int × Int) := if l0 ≠ [] ∧ ∀ x ∈ l0, 0 ≤ x ∧ x ≤ 255 then some (((Lib.decodeGo (utf8_DecodeRune.bytes l0)).1 : Int), ((Lib.decodeGo (utf8_DecodeRune.bytes l0)).2 : Int)) else none
theorem utf8_DecodeRune.calls (A0 : Option Addr) (c0 : Nat) (l0 : List Int) (r1 : Int) (r2 : Int) (w : World) (hr0 : Kd.C (Kd.int .u8) w A0 l0.length l0) (_hc0 : l0.length ≤ c0) (hT : Tabs.Holds w) (h : utf8_DecodeRune.f l0 = some (r1, r2)) :
    Calls Tryd.prog 49 #[.slice A0 l0.length c0] w fun e w' => e = .returned (.tuple #[.int .i32 r1, .int .i64 r2]) ∧ Below w.heap.size w w' := by
  unfold utf8_DecodeRune.f at h
  by_cases hc : l0 ≠ [] ∧ ∀ x ∈ l0, 0 ≤ x ∧ x ≤ 255
  · rw [if_pos hc] at h
    simp only [Option.some.injEq, Prod.mk.injEq] at h
    obtain ⟨rfl, rfl⟩ := h
    have hpos : 0 < l0.length := by
      cases l0 with
      | nil => exact absurd rfl hc.1
      | cons _ _ => simp
    obtain ⟨ad, rfl, h0⟩ := Kd.at_int hr0 0 (by omega) (by omega)
    have hsp : ad.spot = none := by
      have : ad.add (0 : Int).toNat = ad := by simp [Addr.add]
      rw [this] at h0
      unfold World.cell? at h0
      cases hs : ad.spot with
      | none => rfl
      | some z => rw [hs] at h0; split at h0 <;> simp at h0
    obtain ⟨b, off, sp⟩ := ad
    obtain rfl : sp = none := hsp
    have hsz : (utf8_DecodeRune.bytes l0).size = l0.length := by unfold utf8_DecodeRune.bytes; simp [ByteArray.size]
    rw [← hsz]
    refine Tabs.decode (utf8_DecodeRune.bytes l0) b off c0 w hT (fun j hj => ?_)
    rw [hsz] at hj
    obtain ⟨ad', e', hx⟩ := Kd.at_int hr0 (j : Int) (by omega) (by omega)
    injection e' with e'
    subst e'
    have ha : (⟨b, off, none⟩ : Addr).add (j : Int).toNat = ⟨b, off + j, none⟩ := by
      rw [Int.toNat_natCast]; unfold Addr.add
      split
      · rename_i hz; subst hz; rfl
      · rfl
    rw [ha] at hx
    rw [hx]
    have hl : j < l0.length := hj
    have h1 : rd l0 (j : Int) = l0[j] := by unfold rd; rw [Int.toNat_natCast, List.getD_eq_getElem?_getD, List.getElem?_eq_getElem hl]; rfl
    have h2 := hc.2 l0[j] (List.getElem_mem hl)
    have h3 : (utf8_DecodeRune.bytes l0).get! j = UInt8.ofNat (l0[j]).toNat := by
      have hj2 : j < (l0.map fun x => UInt8.ofNat x.toNat).toArray.size := by simpa using hl
      show ((l0.map fun x => UInt8.ofNat x.toNat).toArray)[j]! = _
      rw [getElem!_pos _ j hj2]; simp
    rw [h1, h3, UInt8.toNat_ofNat']
    congr 2; omega
  · rw [if_neg hc] at h; cases h
end Go.Proofs.YtdbkefgdeenjoaaDoor.X
end
section
namespace Go.Proofs.YtdbkefgdeenjoaaDoor.X
open Go.RowKit Go.Proofs.YtdbkefgdeenjoaaDoorW.PrintWords Go.Proofs.YtdbkefgdeenjoaaDoorW.PrintLast Go.Proofs.YtdbkefgdeenjoaaDoorW.PrintMore
attribute [local go_sem] max2_int min2_int max_two min_two max_three min_three max_four min_four
set_option linter.unusedVariables false
set_option linter.unusedSimpArgs false
def text_at.f (l0 : List Int) (a1 : Int) : Option (Int × Bool) := if a1 ≥ (l0.length : Int) then (some (0, false)) else (if 0 ≤ a1 then (if a1 < (l0.length : Int) then (some (rd l0 a1, true)) else (none)) else (none))
set_option maxHeartbeats 8000000 in
set_option maxRecDepth 100000 in
theorem text_at.calls (A0 : Option Addr) (c0 : Nat) (l0 : List Int) (a1 : Int) (r1 : Int) (r2 : Bool) (w : World) (hr0 : Kd.C (Kd.int .u8) w A0 l0.length l0) (hc0 : l0.length ≤ c0) (h : text_at.f l0 a1 = some (r1, r2)) :
    Calls Tryd.prog 48 #[.slice A0 l0.length c0, .int .i64 a1] w fun e w' => e = .returned (.tuple #[.int .u8 r1, .bool r2]) ∧ Drawn0 w w' := by
  have HR0 := Aside0.mk hr0
  have HC0 := Aside0.mk hc0
  clear hr0 hc0
  have H : (if a1 ≥ (l0.length : Int) then (some (0, false)) else (if 0 ≤ a1 then (if a1 < (l0.length : Int) then (some (rd l0 a1, true)) else (none)) else (none))) = some (r1, r2) := h
  clear h
  by_cases c3 : a1 ≥ (l0.length : Int)
  · rw [if_pos c3] at H
    have c3b0 : decide ((l0.length : Int) ≤ a1) = true := decide_eq_true c3
    clear c3
    simp only [Option.some.injEq, Prod.mk.injEq] at H
    obtain ⟨rfl, rfl⟩ := H
    go_enter Tryd.func48, Tryd.ntmps48
    go_wp2
    go_ret2
    exact ⟨by first | rfl | (simp; done) | (simp [*]; done) | (simp [xbne_nil, xbeq_nil]; done), by repeat (first | exact Drawn0.refl _ | apply Drawn0.step)⟩
  · rw [if_neg c3] at H
    have c3b0 : decide ((l0.length : Int) ≤ a1) = false := decide_eq_false c3
    clear c3
    by_cases c4 : 0 ≤ a1
    · rw [if_pos c4] at H
      have c4b0 : decide (0 ≤ a1) = true := decide_eq_true c4
      clear c4
      by_cases c5 : a1 < (l0.length : Int)
      · rw [if_pos c5] at H
        have c5b0 : decide (a1 < (l0.length : Int)) = true := decide_eq_true c5
        clear c5
        simp only [Option.some.injEq, Prod.mk.injEq] at H
        obtain ⟨rfl, rfl⟩ := H
        have p101 : 0 ≤ (a1 : Int) := of_decide_eq_true (by first | (with_reducible assumption) | assumption)
        have q101 : a1 < (l0.length : Int) := of_decide_eq_true (by first | (with_reducible assumption) | assumption)
        obtain ⟨ad101, e101, hx101_0⟩ := Kd.at_int HR0.out a1 p101 q101
        cases e101
        replace p101 := eq_true p101
        replace q101 := eq_true q101
        go_enter Tryd.func48, Tryd.ntmps48
        go_wp2
        go_ret2
        exact ⟨by first | rfl | (simp; done) | (simp [*]; done) | (simp [xbne_nil, xbeq_nil]; done), by repeat (first | exact Drawn0.refl _ | apply Drawn0.step)⟩
      · rw [if_neg c5] at H
        exact absurd H (by simp)
    · rw [if_neg c4] at H
      exact absurd H (by simp)
def text_begins.l0 : Nat → List Int → List Int → Int → Int → Option (Bool)
  | 0, _, _, _, _ => none
  | k + 1, x0, x9, x10, x11 => if x11 < x10 then (if 0 ≤ x11 then (if x11 < (x9.length : Int) then ((text_at.f x0 x11).bind fun bt103 => (if bt103.2 = true then (if bt103.1 = (rd x9 x11) then (text_begins.l0 k x0 x9 x10 (wrap64 (x11 + 1))) else (some false)) else (some false))) else (none)) else (none)) else (some true)
def text_begins.f (k : Nat) (l0 : List Int) (l1 : List Int) : Option (Bool) := text_begins.l0 k l0 l1 (l1.length : Int) 0
set_option maxHeartbeats 8000000 in
set_option maxRecDepth 100000 in
theorem text_begins.calls (k : Nat) (A0 : Option Addr) (c0 : Nat) (l0 : List Int) (A1 : Option Addr) (c1 : Nat) (l1 : List Int) (r : Bool) (w : World) (hr0 : Kd.C (Kd.int .u8) w A0 l0.length l0) (hc0 : l0.length ≤ c0) (hr1 : Kd.C (Kd.int .u8) w A1 l1.length l1) (hc1 : l1.length ≤ c1) (h : text_begins.f k l0 l1 = some r) :
    Calls Tryd.prog 28 #[.slice A0 l0.length c0, .slice A1 l1.length c1] w fun e w' => e = .returned (.bool r) ∧ Drawn0 w w' := by
  have HR0 := Aside0.mk hr0
  have HC0 := Aside0.mk hc0
  clear hr0 hc0
  have HR1 := Aside0.mk hr1
  have HC1 := Aside0.mk hc1
  clear hr1 hc1
  have H : (text_begins.l0 k l0 l1 (l1.length : Int) 0) = some r := h
  clear h
  have H' := Aside0.mk H
  clear H
  go_enter Tryd.func28, Tryd.ntmps28
  go_wp2
  go_loopg [11] k (fun kq v11 w' => ∃ (x11_1 : Int), v11 = .int .i64 x11_1 ∧ Aside0 (text_begins.l0 kq l0 l1 (l1.length : Int) x11_1 = some r) ∧ Aside0 (kq ≤ k) ∧ Drawn0 w w')
  case atStart => exact ⟨(0), (by first | rfl | (simp; done) | (simp [*]; done) | (simp [xbne_nil, xbeq_nil]; done)), H', ⟨Nat.le_refl _⟩, by repeat (first | exact Drawn0.refl _ | apply Drawn0.step)⟩
  case round =>
    clear H'
    try clear c1
    try clear c2
    try clear p2
    obtain ⟨x11_1, rfl, HA, HK1, ⟨m1, rfl⟩⟩ := hrel
    cases gk with
    | zero => exact absurd HA.out (by simp [text_begins.l0])
    | succ k1 =>
      have H := HA.out
      clear HA
      simp only [text_begins.l0] at H
      by_cases c3 : x11_1 < (l1.length : Int)
      · rw [if_pos c3] at H
        have c3b0 : decide (x11_1 < (l1.length : Int)) = true := decide_eq_true c3
        clear c3
        by_cases c4 : 0 ≤ x11_1
        · rw [if_pos c4] at H
          have c4b0 : decide (0 ≤ x11_1) = true := decide_eq_true c4
          clear c4
          by_cases c5 : x11_1 < (l1.length : Int)
          · rw [if_pos c5] at H
            have c5b0 : decide (x11_1 < (l1.length : Int)) = true := decide_eq_true c5
            clear c5
            replace H := Option.bind_eq_some_iff.mp H
            obtain ⟨⟨t103, t104⟩, A60, H⟩ := H
            replace H : (if t104 = true then (if t103 = (rd l1 x11_1) then (text_begins.l0 k1 l0 l1 (l1.length : Int) (wrap64 (x11_1 + 1))) else (some false)) else (some false)) = some r := H
            have A6 := Aside0.mk A60
            clear A60
            by_cases c7 : t104 = true
            · subst c7
              have H1 : (if t103 = (rd l1 x11_1) then (text_begins.l0 k1 l0 l1 (l1.length : Int) (wrap64 (x11_1 + 1))) else (some false)) = some r := by rw [if_pos rfl] at H; exact H
              clear H
              have H := H1
              clear H1
              by_cases c8 : t103 = (rd l1 x11_1)
              · rw [if_pos c8] at H
                have c8b0 : (t103 == (rd l1 x11_1)) = true := beq_iff_eq.mpr c8
                have c8b1 : (t103 != (rd l1 x11_1)) = false := bne_eq_false_iff_eq.mpr c8
                clear c8
                have H' := Aside0.mk H
                clear H
                have p102 : 0 ≤ (x11_1 : Int) := of_decide_eq_true (by first | (with_reducible assumption) | assumption)
                have q102 : x11_1 < (l1.length : Int) := of_decide_eq_true (by first | (with_reducible assumption) | assumption)
                obtain ⟨ad102, e102, hx102_0⟩ := Kd.at_int HR1.out x11_1 p102 q102
                cases e102
                replace p102 := eq_true p102
                replace q102 := eq_true q102
                go_wp2_with (first | ((with_reducible refine gate_callee (f := 48) rfl ?_); refine goesL_ (some 19) rfl rfl Tryd.func48 (by kernel_rfl) rfl #[.slice A0 l0.length c0, .int .i64 x11_1] rfl (by (try simp only [List.map_toArray, List.map_cons, List.map_nil]); first | done | rfl | (simp only [List.length_drop, List.length_take]; rfl)) ?_; (with_reducible refine (text_at.calls _ _ l0 x11_1 t103 true _ ?side1 ?side2 A6.out).mono ?_); (case side1 => repeat (first | exact HR0.out | (with_reducible refine Kd.C_alloc ?_ _) | (with_reducible refine Kd.C_drewN ?_ _) | (with_reducible refine Kd.C_drew ?_))); (case side2 => exact HC0.out); rintro e w' ⟨rfl, ⟨nd, rfl⟩⟩; refine ⟨_, rfl, ?_⟩))
                go_roundg k1
                case measure => have := HK1.out; omega
                case rel => exact ⟨(wrap64 (x11_1 + 1)), (by first | rfl | (simp; done) | (simp [*]; done) | (simp [xbne_nil, xbeq_nil]; done)), H', ⟨by have := HK1.out; omega⟩, by repeat (first | exact Drawn0.refl _ | apply Drawn0.step)⟩
              · rw [if_neg c8] at H
                have c8b0 : (t103 == (rd l1 x11_1)) = false := beq_eq_false_iff_ne.mpr c8
                have c8b1 : (t103 != (rd l1 x11_1)) = true := bne_iff_ne.mpr c8
                obtain rfl := Option.some.inj H
                have p102 : 0 ≤ (x11_1 : Int) := of_decide_eq_true (by first | (with_reducible assumption) | assumption)
                have q102 : x11_1 < (l1.length : Int) := of_decide_eq_true (by first | (with_reducible assumption) | assumption)
                obtain ⟨ad102, e102, hx102_0⟩ := Kd.at_int HR1.out x11_1 p102 q102
                cases e102
                replace p102 := eq_true p102
                replace q102 := eq_true q102
                go_wp2_with (first | ((with_reducible refine gate_callee (f := 48) rfl ?_); refine goesL_ (some 19) rfl rfl Tryd.func48 (by kernel_rfl) rfl #[.slice A0 l0.length c0, .int .i64 x11_1] rfl (by (try simp only [List.map_toArray, List.map_cons, List.map_nil]); first | done | rfl | (simp only [List.length_drop, List.length_take]; rfl)) ?_; (with_reducible refine (text_at.calls _ _ l0 x11_1 t103 true _ ?side1 ?side2 A6.out).mono ?_); (case side1 => repeat (first | exact HR0.out | (with_reducible refine Kd.C_alloc ?_ _) | (with_reducible refine Kd.C_drewN ?_ _) | (with_reducible refine Kd.C_drew ?_))); (case side2 => exact HC0.out); rintro e w' ⟨rfl, ⟨nd, rfl⟩⟩; refine ⟨_, rfl, ?_⟩))
                go_ret
                exact ⟨by first | rfl | (simp; done) | (simp [*]; done) | (simp [xbne_nil, xbeq_nil]; done), by repeat (first | exact Drawn0.refl _ | apply Drawn0.step)⟩
            · replace c7 := Bool.eq_false_iff.mpr c7
              subst c7
              have H1 : (some false) = some r := by rw [if_neg (show ¬ (false = true) by decide)] at H; exact H
              clear H
              have H := H1
              clear H1
              obtain rfl := Option.some.inj H
              have p102 : 0 ≤ (x11_1 : Int) := of_decide_eq_true (by first | (with_reducible assumption) | assumption)
              have q102 : x11_1 < (l1.length : Int) := of_decide_eq_true (by first | (with_reducible assumption) | assumption)
              obtain ⟨ad102, e102, hx102_0⟩ := Kd.at_int HR1.out x11_1 p102 q102
              cases e102
              replace p102 := eq_true p102
              replace q102 := eq_true q102
              go_wp2_with (first | ((with_reducible refine gate_callee (f := 48) rfl ?_); refine goesL_ (some 19) rfl rfl Tryd.func48 (by kernel_rfl) rfl #[.slice A0 l0.length c0, .int .i64 x11_1] rfl (by (try simp only [List.map_toArray, List.map_cons, List.map_nil]); first | done | rfl | (simp only [List.length_drop, List.length_take]; rfl)) ?_; (with_reducible refine (text_at.calls _ _ l0 x11_1 t103 false _ ?side1 ?side2 A6.out).mono ?_); (case side1 => repeat (first | exact HR0.out | (with_reducible refine Kd.C_alloc ?_ _) | (with_reducible refine Kd.C_drewN ?_ _) | (with_reducible refine Kd.C_drew ?_))); (case side2 => exact HC0.out); rintro e w' ⟨rfl, ⟨nd, rfl⟩⟩; refine ⟨_, rfl, ?_⟩))
              go_ret
              exact ⟨by first | rfl | (simp; done) | (simp [*]; done) | (simp [xbne_nil, xbeq_nil]; done), by repeat (first | exact Drawn0.refl _ | apply Drawn0.step)⟩
          · rw [if_neg c5] at H
            exact absurd H (by simp)
        · rw [if_neg c4] at H
          exact absurd H (by simp)
      · rw [if_neg c3] at H
        have c3b0 : decide (x11_1 < (l1.length : Int)) = false := decide_eq_false c3
        clear c3
        obtain rfl := Option.some.inj H
        go_wp2
        go_ret
        exact ⟨by first | rfl | (simp; done) | (simp [*]; done) | (simp [xbne_nil, xbeq_nil]; done), by repeat (first | exact Drawn0.refl _ | apply Drawn0.step)⟩
def text_some.f (l0 : List Int) (a1 : Int) : Option (Bool) := (text_at.f l0 a1).bind fun bt105 => (if bt105.2 = true then (some (bt105.1 != 0)) else (some false))
set_option maxHeartbeats 8000000 in
set_option maxRecDepth 100000 in
theorem text_some.calls (A0 : Option Addr) (c0 : Nat) (l0 : List Int) (a1 : Int) (r : Bool) (w : World) (hr0 : Kd.C (Kd.int .u8) w A0 l0.length l0) (hc0 : l0.length ≤ c0) (h : text_some.f l0 a1 = some r) :
    Calls Tryd.prog 29 #[.slice A0 l0.length c0, .int .i64 a1] w fun e w' => e = .returned (.bool r) ∧ Drawn0 w w' := by
  have HR0 := Aside0.mk hr0
  have HC0 := Aside0.mk hc0
  clear hr0 hc0
  have H : ((text_at.f l0 a1).bind fun bt105 => (if bt105.2 = true then (some (bt105.1 != 0)) else (some false))) = some r := h
  clear h
  replace H := Option.bind_eq_some_iff.mp H
  obtain ⟨⟨t105, t106⟩, A30, H⟩ := H
  replace H : (if t106 = true then (some (t105 != 0)) else (some false)) = some r := H
  have A3 := Aside0.mk A30
  clear A30
  by_cases c4 : t106 = true
  · subst c4
    have H1 : (some (t105 != 0)) = some r := by rw [if_pos rfl] at H; exact H
    clear H
    have H := H1
    clear H1
    obtain rfl := Option.some.inj H
    go_enter Tryd.func29, Tryd.ntmps29
    go_wp2_with (first | ((with_reducible refine gate_callee (f := 48) rfl ?_); refine goesL_ (some 10) rfl rfl Tryd.func48 (by kernel_rfl) rfl #[.slice A0 l0.length c0, .int .i64 a1] rfl (by (try simp only [List.map_toArray, List.map_cons, List.map_nil]); first | done | rfl | (simp only [List.length_drop, List.length_take]; rfl)) ?_; (with_reducible refine (text_at.calls _ _ l0 a1 t105 true _ ?side1 ?side2 A3.out).mono ?_); (case side1 => repeat (first | exact HR0.out | (with_reducible refine Kd.C_alloc ?_ _) | (with_reducible refine Kd.C_drewN ?_ _) | (with_reducible refine Kd.C_drew ?_))); (case side2 => exact HC0.out); rintro e w' ⟨rfl, ⟨nd, rfl⟩⟩; refine ⟨_, rfl, ?_⟩))
    go_ret
    exact ⟨by first | rfl | (simp; done) | (simp [*]; done) | (simp [xbne_nil, xbeq_nil]; done), by repeat (first | exact Drawn0.refl _ | apply Drawn0.step)⟩
  · replace c4 := Bool.eq_false_iff.mpr c4
    subst c4
    have H1 : (some false) = some r := by rw [if_neg (show ¬ (false = true) by decide)] at H; exact H
    clear H
    have H := H1
    clear H1
    obtain rfl := Option.some.inj H
    go_enter Tryd.func29, Tryd.ntmps29
    go_wp2_with (first | ((with_reducible refine gate_callee (f := 48) rfl ?_); refine goesL_ (some 10) rfl rfl Tryd.func48 (by kernel_rfl) rfl #[.slice A0 l0.length c0, .int .i64 a1] rfl (by (try simp only [List.map_toArray, List.map_cons, List.map_nil]); first | done | rfl | (simp only [List.length_drop, List.length_take]; rfl)) ?_; (with_reducible refine (text_at.calls _ _ l0 a1 t105 false _ ?side1 ?side2 A3.out).mono ?_); (case side1 => repeat (first | exact HR0.out | (with_reducible refine Kd.C_alloc ?_ _) | (with_reducible refine Kd.C_drewN ?_ _) | (with_reducible refine Kd.C_drew ?_))); (case side2 => exact HC0.out); rintro e w' ⟨rfl, ⟨nd, rfl⟩⟩; refine ⟨_, rfl, ?_⟩))
    go_ret
    exact ⟨by first | rfl | (simp; done) | (simp [*]; done) | (simp [xbne_nil, xbeq_nil]; done), by repeat (first | exact Drawn0.refl _ | apply Drawn0.step)⟩
end Go.Proofs.YtdbkefgdeenjoaaDoor.X
end
