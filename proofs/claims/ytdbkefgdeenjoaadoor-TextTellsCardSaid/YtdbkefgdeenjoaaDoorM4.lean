/- Words and walks that the row of TextTells needs: printed by programs, and plain laws. -/
import Derived.Test.YtdbkefgdeenjoaaDoorM1
import Derived.Test.YtdbkefgdeenjoaaDoorM2
import Derived.Test.YtdbkefgdeenjoaaDoorM3
section
namespace Go.Proofs.YtdbkefgdeenjoaaDoor.X
open Go.RowKit Go.Proofs.YtdbkefgdeenjoaaDoorW.PrintWords Go.Proofs.YtdbkefgdeenjoaaDoorW.PrintLast Go.Proofs.YtdbkefgdeenjoaaDoorW.PrintMore
attribute [local go_sem] max2_int min2_int max_two min_two max_three min_three max_four min_four
set_option linter.unusedVariables false
set_option linter.unusedSimpArgs false
mutual
def text_pairs.l0 : Nat → List Int → Int → List Int → Int → Int → Option (List Int × Bool)
  | 0, _, _, _, _, _ => none
  | k + 1, x2, x4, x8, x9, x10 => if x10 < x9 then (if 0 ≤ x10 then (if x10 < (x8.length : Int) then (if (rd x8 x10) ≥ 56320 then (text_pairs.j1 k x2 x4 (rd x8 x10) (decide ((rd x8 x10) < 57344)) x8 x9 x10) else (text_pairs.j1 k x2 x4 (rd x8 x10) false x8 x9 x10)) else (none)) else (none)) else (some (x2, (x4 == 0)))
def text_pairs.j1 : Nat → List Int → Int → Int → Bool → List Int → Int → Int → Option (List Int × Bool)
  | 0, _, _, _, _, _, _, _ => none
  | k + 1, x2, x4, x6, x7, x8, x9, x10 => if (x7 != (x4 != 0)) = true then (some (([] : List Int), false)) else (if x7 = true then (if x2.length < 35184372088832 then (text_pairs.l0 k (x2 ++ [((65536 + (((x4 - 55296) % 4294967296) * 1024)) + (x6 - 56320)) % 4294967296]) 0 x8 x9 (wrap64 (x10 + 1))) else (none)) else (if x6 ≥ 55296 then (if x6 < 56320 then (text_pairs.l0 k x2 x6 x8 x9 (wrap64 (x10 + 1))) else (if x2.length < 35184372088832 then (text_pairs.l0 k (x2 ++ [x6]) x4 x8 x9 (wrap64 (x10 + 1))) else (none))) else (if x2.length < 35184372088832 then (text_pairs.l0 k (x2 ++ [x6]) x4 x8 x9 (wrap64 (x10 + 1))) else (none))))
end
def text_pairs.f (k : Nat) (l0 : List Int) : Option (List Int × Bool) := text_pairs.l0 k ([] : List Int) 0 l0 (l0.length : Int) 0
set_option maxHeartbeats 8000000 in
set_option maxRecDepth 100000 in
theorem text_pairs.calls (k : Nat) (A0 : Option Addr) (c0 : Nat) (l0 : List Int) (r1 : List Int) (r2 : Bool) (w : World) (hr0 : Kd.C (Kd.int .u32) w A0 l0.length l0) (hc0 : l0.length ≤ c0) (h : text_pairs.f k l0 = some (r1, r2)) :
    Calls Tryd.prog 34 #[.slice A0 l0.length c0] w fun e w' => ∃ v0_ : Value, e = .returned (.tuple #[v0_, .bool r2]) ∧ Kd.R (Kd.int .u32) 66 w' w.heap.size (fun _ => True) v0_ r1 ∧ Below w.heap.size w w' := by
  have HR0 := Aside0.mk hr0
  have HC0 := Aside0.mk hc0
  clear hr0 hc0
  have HB := Aside0.mk (Below.refl w.heap.size w)
  have H : (text_pairs.l0 k ([] : List Int) 0 l0 (l0.length : Int) 0) = some (r1, r2) := h
  clear h
  have H' := Aside0.mk H
  clear H
  go_enter Tryd.func34, Tryd.ntmps34
  go_wp2
  go_loopg [2, 4, 10] k (fun kq v2 v4 v10 w' => ∃ (x2_1 : List Int) (x4_1 : Int) (x10_1 : Int), v4 = .int .u32 x4_1 ∧ v10 = .int .i64 x10_1 ∧ Aside0 (text_pairs.l0 kq x2_1 x4_1 l0 (l0.length : Int) x10_1 = some (r1, r2)) ∧ Aside0 (kq ≤ k) ∧ Aside0 (Kd.R (Kd.int .u32) 66 w' w.heap.size (fun _ => True) v2 x2_1) ∧ Aside0 (Below w.heap.size w w'))
  case atStart => exact ⟨(([] : List Int)), (0), (0), (by first | rfl | (simp; done) | (simp [*]; done) | (simp [xbne_nil, xbeq_nil]; done)), (by first | rfl | (simp; done) | (simp [*]; done) | (simp [xbne_nil, xbeq_nil]; done)), H', ⟨Nat.le_refl _⟩, ⟨by first | exact Kd.R_nil _ _ _ _ _ | exact Kd.N_nil _ _ _ _ _ | exact Kd.V_nil _ _ _ _ _ | exact Kd.Q_nil _ _ _ _ _ | exact Kd.S_nil _ _ _ _ _⟩, ⟨by repeat (first | (with_reducible first | exact HB.out | apply below_alloc | apply pw_below_drewN | apply below_drew1) | exact HB.out)⟩⟩
  case round =>
    clear H'
    obtain ⟨x2_1, x4_1, x10_1, rfl, rfl, HA, HK1, HO_2, HB⟩ := hrel
    cases gk with
    | zero => exact absurd HA.out (by simp [text_pairs.l0])
    | succ k1 =>
      have H := HA.out
      clear HA
      simp only [text_pairs.l0] at H
      by_cases c2 : x10_1 < (l0.length : Int)
      · rw [if_pos c2] at H
        have c2b0 : decide (x10_1 < (l0.length : Int)) = true := decide_eq_true c2
        clear c2
        by_cases c3 : 0 ≤ x10_1
        · rw [if_pos c3] at H
          have c3b0 : decide (0 ≤ x10_1) = true := decide_eq_true c3
          clear c3
          by_cases c4 : x10_1 < (l0.length : Int)
          · rw [if_pos c4] at H
            have c4b0 : decide (x10_1 < (l0.length : Int)) = true := decide_eq_true c4
            clear c4
            have HC5 := Aside0.mk H
            clear H
            have p181 : 0 ≤ (x10_1 : Int) := of_decide_eq_true (by first | (with_reducible assumption) | assumption)
            have q181 : x10_1 < (l0.length : Int) := of_decide_eq_true (by first | (with_reducible assumption) | assumption)
            obtain ⟨ad181, e181, hx181_0⟩ := Kd.at_int HR0.out x10_1 p181 q181
            cases e181
            replace hx181_0 := (HB.out.cell (World.block_lt_of_cell? w _ hx181_0)).trans hx181_0
            replace p181 := eq_true p181
            replace q181 := eq_true q181
            go_upto_region 5 with (fail)
            go_cut [7] (fun v7 wc => ∃ (kq : Nat) (x7_4 : Bool), v7 = .bool x7_4 ∧ Aside0 (text_pairs.j1 kq x2_1 x4_1 (rd l0 x10_1) x7_4 l0 (l0.length : Int) x10_1 = some (r1, r2)) ∧ Aside0 (kq ≤ k1) ∧ Aside0 (Kd.R (Kd.int .u32) 66 wc w.heap.size (fun _ => True) u2 x2_1) ∧ Aside0 (Below w.heap.size w wc))
            case first =>
              have H := HC5.out
              clear HC5
              by_cases c6 : (rd l0 x10_1) ≥ 56320
              · rw [if_pos c6] at H
                have c6b0 : decide (56320 ≤ (rd l0 x10_1)) = true := decide_eq_true c6
                clear c6
                (first | rw [c6b0] | (simp only [i64_w, i32_w]; rw [c6b0]) | skip)
                have H' := Aside0.mk H
                clear H
                go_wp2
                go_meet
                case rel => exact ⟨_, (decide ((rd l0 x10_1) < 57344)), (by first | rfl | (simp; done) | (simp [*]; done) | (simp [xbne_nil, xbeq_nil]; done)), H', ⟨by have := HK1.out; first | omega | exact Nat.le_refl _⟩, ⟨by (with_reducible repeat (first | apply Kd.R_alloc | apply Kd.R_drewN | apply Kd.R_drew)); exact HO_2.out⟩, ⟨by repeat (first | (with_reducible first | exact HB.out | apply below_alloc | apply pw_below_drewN | apply below_drew1) | exact HB.out)⟩⟩
              · rw [if_neg c6] at H
                have c6b0 : decide (56320 ≤ (rd l0 x10_1)) = false := decide_eq_false c6
                clear c6
                (first | rw [c6b0] | (simp only [i64_w, i32_w]; rw [c6b0]) | skip)
                have H' := Aside0.mk H
                clear H
                go_wp2
                go_meet
                case rel => exact ⟨_, (false), (by first | rfl | (simp; done) | (simp [*]; done) | (simp [xbne_nil, xbeq_nil]; done)), H', ⟨by have := HK1.out; first | omega | exact Nat.le_refl _⟩, ⟨by (with_reducible repeat (first | apply Kd.R_alloc | apply Kd.R_drewN | apply Kd.R_drew)); exact HO_2.out⟩, ⟨by repeat (first | (with_reducible first | exact HB.out | apply below_alloc | apply pw_below_drewN | apply below_drew1) | exact HB.out)⟩⟩
            case rest =>
              clear HC5
              try clear p1
              try clear q1
              try clear hx1
              try clear c2
              try clear c2b0
              try clear p2
              try clear c3
              try clear c3b0
              try clear c4
              try clear c4b0
              try clear c6
              try clear c6b0
              try clear hx181_0
              try clear p181
              try clear q181
              obtain ⟨kq, x7_4, rfl, HA, HJ4, HO_2, HB⟩ := hcut
              cases kq with
              | zero => exact absurd HA.out (by simp [text_pairs.j1])
              | succ kj4 =>
                have H := HA.out
                clear HA
                simp only [text_pairs.j1] at H
                by_cases c7 : (x7_4 != (x4_1 != 0)) = true
                · rw [if_pos c7] at H
                  have c7b0 : (x7_4 != (x4_1 != 0)) = true := c7
                  (try (have c7b1 : decide (x7_4 = (x4_1 != 0)) = false := by simpa using c7))
                  (try (have c7b2 : (x7_4 == (x4_1 != 0)) = false := by simpa using c7))
                  (try (have c7b3 : ¬ (x7_4 = (x4_1 != 0)) := by simpa using c7))
                  clear c7
                  simp only [Option.some.injEq, Prod.mk.injEq] at H
                  obtain ⟨rfl, rfl⟩ := H
                  go_wp2
                  go_ret2
                  exact ⟨_, by first | rfl | (simp [errW_none, errW_some] <;> rfl) | (simp [*, errW_none, errW_some] <;> rfl), by first | exact Kd.R_nil _ _ _ _ _ | exact Kd.N_nil _ _ _ _ _ | exact Kd.V_nil _ _ _ _ _ | exact Kd.Q_nil _ _ _ _ _ | exact Kd.S_nil _ _ _ _ _, by repeat (first | (with_reducible first | exact HB.out | apply below_alloc | apply pw_below_drewN | apply below_drew1) | exact HB.out)⟩
                · rw [if_neg c7] at H
                  have c7b0 : (x7_4 != (x4_1 != 0)) = false := by simpa using c7
                  (try (have c7b1 : decide (x7_4 = (x4_1 != 0)) = true := by simpa using c7))
                  (try (have c7b2 : (x7_4 == (x4_1 != 0)) = true := by simpa using c7))
                  clear c7
                  by_cases c8 : x7_4 = true
                  · subst c8
                    have H1 : (if x2_1.length < 35184372088832 then (text_pairs.l0 kj4 (x2_1 ++ [((65536 + (((x4_1 - 55296) % 4294967296) * 1024)) + ((rd l0 x10_1) - 56320)) % 4294967296]) 0 l0 (l0.length : Int) (wrap64 (x10_1 + 1))) else (none)) = some (r1, r2) := by rw [if_pos rfl] at H; exact H
                    clear H
                    have H := H1
                    clear H1
                    by_cases c9 : x2_1.length < 35184372088832
                    · rw [if_pos c9] at H
                      have LMc9 := Aside0.mk c9
                      clear c9
                      obtain ⟨y182, hy182⟩ : ∃ y_ : List Int, y_ = (x2_1 ++ [((65536 + (((x4_1 - 55296) % 4294967296) * 1024)) + ((rd l0 x10_1) - 56320)) % 4294967296]) := ⟨_, rfl⟩
                      replace H : (text_pairs.l0 kj4 y182 0 l0 (l0.length : Int) (wrap64 (x10_1 + 1))) = some (r1, r2) := by first | (rw [hy182]; with_reducible exact H) | (have H2_ := (Option.bind_some _ _).symm.trans H; rw [hy182]; with_reducible exact H2_) | (have H2_ := (Option.bind_some _ _).symm.trans H; with_reducible exact H2_) | with_reducible exact H | (rw [hy182]; exact H) | exact H
                      have Ny182 := Aside0.mk hy182
                      clear hy182
                      have H' := Aside0.mk H
                      clear H
                      go_wp2_with (first | ((with_reducible refine gate_builtin (b := .append) (xs := #[.tmp 30, .tmp 38]) rfl ?_); at_builtin; refine Kd.R_append (Kd.int .u32) (w0 := w) w.heap.size rfl (.tmp 30) (.tmp 38) 62 66 (.int .u32 0) 4 rfl Tryd.underlying62 info66 rfl (by decide) (by omega) u2 x2_1 (((65536 + (((x4_1 - 55296) % 4294967296) * 1024)) + ((rd l0 x10_1) - 56320)) % 4294967296) [.int .u32 (((65536 + (((x4_1 - 55296) % 4294967296) * 1024)) + ((rd l0 x10_1) - 56320)) % 4294967296)] (fun _ => True) (fun _ => False) rfl rfl ?aP (fun _ hk => hk.elim) ?aF ?aO ?aB ?aS ?aL ?_; (case aP => exact rfl); (case aB => exact (by repeat (first | (with_reducible first | exact HB.out | apply below_alloc | apply pw_below_drewN | apply below_drew1) | exact HB.out))); (case aF => exact (fun _ _ => trivial)); (case aO => exact (by (with_reducible repeat (first | apply Kd.R_alloc | apply Kd.R_drewN | apply Kd.R_drew)); exact HO_2.out)); (case aS => exact (below_size (by repeat (first | (with_reducible first | exact HB.out | apply below_alloc | apply pw_below_drewN | apply below_drew1) | exact HB.out)))); (case aL => have := LMc9.out; omega); intro v183 w10 ho hb hg hat; rw [← Ny182.out] at ho; have n0_ := Aside0.mk (hb); have n1_ := Aside0.mk (ho); clear HB; clear HO_2; have HB := n0_; have HO184 := n1_; clear n0_ n1_; clear ho hb hg hat))
                      go_roundg kj4
                      case measure => have := HK1.out; have := HJ4.out; omega
                      case rel => exact ⟨(y182), (0), (wrap64 (x10_1 + 1)), (by first | rfl | (simp; done) | (simp [*]; done) | (simp [xbne_nil, xbeq_nil]; done)), (by first | rfl | (simp; done) | (simp [*]; done) | (simp [xbne_nil, xbeq_nil]; done)), H', ⟨by have := HK1.out; have := HJ4.out; omega⟩, ⟨by (with_reducible repeat (first | apply Kd.R_alloc | apply Kd.R_drewN | apply Kd.R_drew)); exact HO184.out⟩, ⟨by repeat (first | (with_reducible first | exact HB.out | apply below_alloc | apply pw_below_drewN | apply below_drew1) | exact HB.out)⟩⟩
                    · rw [if_neg c9] at H
                      exact absurd H (by simp)
                  · replace c8 := Bool.eq_false_iff.mpr c8
                    subst c8
                    have H1 : (if (rd l0 x10_1) ≥ 55296 then (if (rd l0 x10_1) < 56320 then (text_pairs.l0 kj4 x2_1 (rd l0 x10_1) l0 (l0.length : Int) (wrap64 (x10_1 + 1))) else (if x2_1.length < 35184372088832 then (text_pairs.l0 kj4 (x2_1 ++ [(rd l0 x10_1)]) x4_1 l0 (l0.length : Int) (wrap64 (x10_1 + 1))) else (none))) else (if x2_1.length < 35184372088832 then (text_pairs.l0 kj4 (x2_1 ++ [(rd l0 x10_1)]) x4_1 l0 (l0.length : Int) (wrap64 (x10_1 + 1))) else (none))) = some (r1, r2) := by rw [if_neg (show ¬ (false = true) by decide)] at H; exact H
                    clear H
                    have H := H1
                    clear H1
                    by_cases c11 : (rd l0 x10_1) ≥ 55296
                    · rw [if_pos c11] at H
                      have c11b0 : decide (55296 ≤ (rd l0 x10_1)) = true := decide_eq_true c11
                      clear c11
                      by_cases c12 : (rd l0 x10_1) < 56320
                      · rw [if_pos c12] at H
                        have c12b0 : decide ((rd l0 x10_1) < 56320) = true := decide_eq_true c12
                        clear c12
                        have H' := Aside0.mk H
                        clear H
                        go_wp2
                        go_roundg kj4
                        case measure => have := HK1.out; have := HJ4.out; omega
                        case rel => exact ⟨(x2_1), ((rd l0 x10_1)), (wrap64 (x10_1 + 1)), (by first | rfl | (simp; done) | (simp [*]; done) | (simp [xbne_nil, xbeq_nil]; done)), (by first | rfl | (simp; done) | (simp [*]; done) | (simp [xbne_nil, xbeq_nil]; done)), H', ⟨by have := HK1.out; have := HJ4.out; omega⟩, ⟨by (with_reducible repeat (first | apply Kd.R_alloc | apply Kd.R_drewN | apply Kd.R_drew)); exact HO_2.out⟩, ⟨by repeat (first | (with_reducible first | exact HB.out | apply below_alloc | apply pw_below_drewN | apply below_drew1) | exact HB.out)⟩⟩
                      · rw [if_neg c12] at H
                        have c12b0 : decide ((rd l0 x10_1) < 56320) = false := decide_eq_false c12
                        clear c12
                        by_cases c13 : x2_1.length < 35184372088832
                        · rw [if_pos c13] at H
                          have LMc13 := Aside0.mk c13
                          clear c13
                          obtain ⟨y185, hy185⟩ : ∃ y_ : List Int, y_ = (x2_1 ++ [(rd l0 x10_1)]) := ⟨_, rfl⟩
                          replace H : (text_pairs.l0 kj4 y185 x4_1 l0 (l0.length : Int) (wrap64 (x10_1 + 1))) = some (r1, r2) := by first | (rw [hy185]; with_reducible exact H) | (have H2_ := (Option.bind_some _ _).symm.trans H; rw [hy185]; with_reducible exact H2_) | (have H2_ := (Option.bind_some _ _).symm.trans H; with_reducible exact H2_) | with_reducible exact H | (rw [hy185]; exact H) | exact H
                          have Ny185 := Aside0.mk hy185
                          clear hy185
                          have H' := Aside0.mk H
                          clear H
                          go_wp2_with (first | ((with_reducible refine gate_builtin (b := .append) (xs := #[.tmp 24, .tmp 26]) rfl ?_); at_builtin; refine Kd.R_append (Kd.int .u32) (w0 := w) w.heap.size rfl (.tmp 24) (.tmp 26) 62 66 (.int .u32 0) 4 rfl Tryd.underlying62 info66 rfl (by decide) (by omega) u2 x2_1 (rd l0 x10_1) [.int .u32 (rd l0 x10_1)] (fun _ => True) (fun _ => False) rfl rfl ?aP (fun _ hk => hk.elim) ?aF ?aO ?aB ?aS ?aL ?_; (case aP => exact rfl); (case aB => exact (by repeat (first | (with_reducible first | exact HB.out | apply below_alloc | apply pw_below_drewN | apply below_drew1) | exact HB.out))); (case aF => exact (fun _ _ => trivial)); (case aO => exact (by (with_reducible repeat (first | apply Kd.R_alloc | apply Kd.R_drewN | apply Kd.R_drew)); exact HO_2.out)); (case aS => exact (below_size (by repeat (first | (with_reducible first | exact HB.out | apply below_alloc | apply pw_below_drewN | apply below_drew1) | exact HB.out)))); (case aL => have := LMc13.out; omega); intro v186 w14 ho hb hg hat; rw [← Ny185.out] at ho; have n0_ := Aside0.mk (hb); have n1_ := Aside0.mk (ho); clear HB; clear HO_2; have HB := n0_; have HO187 := n1_; clear n0_ n1_; clear ho hb hg hat))
                          go_roundg kj4
                          case measure => have := HK1.out; have := HJ4.out; omega
                          case rel => exact ⟨(y185), (x4_1), (wrap64 (x10_1 + 1)), (by first | rfl | (simp; done) | (simp [*]; done) | (simp [xbne_nil, xbeq_nil]; done)), (by first | rfl | (simp; done) | (simp [*]; done) | (simp [xbne_nil, xbeq_nil]; done)), H', ⟨by have := HK1.out; have := HJ4.out; omega⟩, ⟨by (with_reducible repeat (first | apply Kd.R_alloc | apply Kd.R_drewN | apply Kd.R_drew)); exact HO187.out⟩, ⟨by repeat (first | (with_reducible first | exact HB.out | apply below_alloc | apply pw_below_drewN | apply below_drew1) | exact HB.out)⟩⟩
                        · rw [if_neg c13] at H
                          exact absurd H (by simp)
                    · rw [if_neg c11] at H
                      have c11b0 : decide (55296 ≤ (rd l0 x10_1)) = false := decide_eq_false c11
                      clear c11
                      by_cases c15 : x2_1.length < 35184372088832
                      · rw [if_pos c15] at H
                        have LMc15 := Aside0.mk c15
                        clear c15
                        obtain ⟨y188, hy188⟩ : ∃ y_ : List Int, y_ = (x2_1 ++ [(rd l0 x10_1)]) := ⟨_, rfl⟩
                        replace H : (text_pairs.l0 kj4 y188 x4_1 l0 (l0.length : Int) (wrap64 (x10_1 + 1))) = some (r1, r2) := by first | (rw [hy188]; with_reducible exact H) | (have H2_ := (Option.bind_some _ _).symm.trans H; rw [hy188]; with_reducible exact H2_) | (have H2_ := (Option.bind_some _ _).symm.trans H; with_reducible exact H2_) | with_reducible exact H | (rw [hy188]; exact H) | exact H
                        have Ny188 := Aside0.mk hy188
                        clear hy188
                        have H' := Aside0.mk H
                        clear H
                        go_wp2_with (first | ((with_reducible refine gate_builtin (b := .append) (xs := #[.tmp 24, .tmp 26]) rfl ?_); at_builtin; refine Kd.R_append (Kd.int .u32) (w0 := w) w.heap.size rfl (.tmp 24) (.tmp 26) 62 66 (.int .u32 0) 4 rfl Tryd.underlying62 info66 rfl (by decide) (by omega) u2 x2_1 (rd l0 x10_1) [.int .u32 (rd l0 x10_1)] (fun _ => True) (fun _ => False) rfl rfl ?aP (fun _ hk => hk.elim) ?aF ?aO ?aB ?aS ?aL ?_; (case aP => exact rfl); (case aB => exact (by repeat (first | (with_reducible first | exact HB.out | apply below_alloc | apply pw_below_drewN | apply below_drew1) | exact HB.out))); (case aF => exact (fun _ _ => trivial)); (case aO => exact (by (with_reducible repeat (first | apply Kd.R_alloc | apply Kd.R_drewN | apply Kd.R_drew)); exact HO_2.out)); (case aS => exact (below_size (by repeat (first | (with_reducible first | exact HB.out | apply below_alloc | apply pw_below_drewN | apply below_drew1) | exact HB.out)))); (case aL => have := LMc15.out; omega); intro v189 w16 ho hb hg hat; rw [← Ny188.out] at ho; have n0_ := Aside0.mk (hb); have n1_ := Aside0.mk (ho); clear HB; clear HO_2; have HB := n0_; have HO190 := n1_; clear n0_ n1_; clear ho hb hg hat))
                        go_roundg kj4
                        case measure => have := HK1.out; have := HJ4.out; omega
                        case rel => exact ⟨(y188), (x4_1), (wrap64 (x10_1 + 1)), (by first | rfl | (simp; done) | (simp [*]; done) | (simp [xbne_nil, xbeq_nil]; done)), (by first | rfl | (simp; done) | (simp [*]; done) | (simp [xbne_nil, xbeq_nil]; done)), H', ⟨by have := HK1.out; have := HJ4.out; omega⟩, ⟨by (with_reducible repeat (first | apply Kd.R_alloc | apply Kd.R_drewN | apply Kd.R_drew)); exact HO190.out⟩, ⟨by repeat (first | (with_reducible first | exact HB.out | apply below_alloc | apply pw_below_drewN | apply below_drew1) | exact HB.out)⟩⟩
                      · rw [if_neg c15] at H
                        exact absurd H (by simp)
          · rw [if_neg c4] at H
            exact absurd H (by simp)
        · rw [if_neg c3] at H
          exact absurd H (by simp)
      · rw [if_neg c2] at H
        have c2b0 : decide (x10_1 < (l0.length : Int)) = false := decide_eq_false c2
        clear c2
        simp only [Option.some.injEq, Prod.mk.injEq] at H
        obtain ⟨rfl, rfl⟩ := H
        go_wp2
        go_ret2
        exact ⟨_, by first | rfl | (simp [errW_none, errW_some] <;> rfl) | (simp [*, errW_none, errW_some] <;> rfl), by (with_reducible repeat (first | apply Kd.R_alloc | apply Kd.R_drewN | apply Kd.R_drew)); exact HO_2.out, by repeat (first | (with_reducible first | exact HB.out | apply below_alloc | apply pw_below_drewN | apply below_drew1) | exact HB.out)⟩
def utf8_ValidRune.f (a0 : Int) : Option (Bool) := if 0 ≤ a0 then (if a0 < 55296 then (some true) else (if 57343 < a0 then (if a0 ≤ 1114111 then (some true) else (some false)) else (some false))) else (if 57343 < a0 then (if a0 ≤ 1114111 then (some true) else (some false)) else (some false))
set_option maxHeartbeats 8000000 in
set_option maxRecDepth 100000 in
theorem utf8_ValidRune.calls (a0 : Int) (r : Bool) (w : World) (h : utf8_ValidRune.f a0 = some r) :
    Calls Tryd.prog 35 #[.int .i32 a0] w fun e w' => e = .returned (.bool r) ∧ Drawn0 w w' := by
  have H : (if 0 ≤ a0 then (if a0 < 55296 then (some true) else (if 57343 < a0 then (if a0 ≤ 1114111 then (some true) else (some false)) else (some false))) else (if 57343 < a0 then (if a0 ≤ 1114111 then (some true) else (some false)) else (some false))) = some r := h
  clear h
  by_cases c2 : 0 ≤ a0
  · rw [if_pos c2] at H
    have c2b0 : decide (0 ≤ a0) = true := decide_eq_true c2
    clear c2
    by_cases c3 : a0 < 55296
    · rw [if_pos c3] at H
      have c3b0 : decide (a0 < 55296) = true := decide_eq_true c3
      clear c3
      obtain rfl := Option.some.inj H
      go_enter Tryd.func35, Tryd.ntmps35
      go_wp2
      go_ret
      exact ⟨by first | rfl | (simp; done) | (simp [*]; done) | (simp [xbne_nil, xbeq_nil]; done), by repeat (first | exact Drawn0.refl _ | apply Drawn0.step)⟩
    · rw [if_neg c3] at H
      have c3b0 : decide (a0 < 55296) = false := decide_eq_false c3
      clear c3
      by_cases c4 : 57343 < a0
      · rw [if_pos c4] at H
        have c4b0 : decide (57343 < a0) = true := decide_eq_true c4
        clear c4
        by_cases c5 : a0 ≤ 1114111
        · rw [if_pos c5] at H
          have c5b0 : decide (a0 ≤ 1114111) = true := decide_eq_true c5
          clear c5
          obtain rfl := Option.some.inj H
          go_enter Tryd.func35, Tryd.ntmps35
          go_wp2
          go_ret
          exact ⟨by first | rfl | (simp; done) | (simp [*]; done) | (simp [xbne_nil, xbeq_nil]; done), by repeat (first | exact Drawn0.refl _ | apply Drawn0.step)⟩
        · rw [if_neg c5] at H
          have c5b0 : decide (a0 ≤ 1114111) = false := decide_eq_false c5
          clear c5
          obtain rfl := Option.some.inj H
          go_enter Tryd.func35, Tryd.ntmps35
          go_wp2
          go_ret
          exact ⟨by first | rfl | (simp; done) | (simp [*]; done) | (simp [xbne_nil, xbeq_nil]; done), by repeat (first | exact Drawn0.refl _ | apply Drawn0.step)⟩
      · rw [if_neg c4] at H
        have c4b0 : decide (57343 < a0) = false := decide_eq_false c4
        clear c4
        obtain rfl := Option.some.inj H
        go_enter Tryd.func35, Tryd.ntmps35
        go_wp2
        go_ret
        exact ⟨by first | rfl | (simp; done) | (simp [*]; done) | (simp [xbne_nil, xbeq_nil]; done), by repeat (first | exact Drawn0.refl _ | apply Drawn0.step)⟩
  · rw [if_neg c2] at H
    have c2b0 : decide (0 ≤ a0) = false := decide_eq_false c2
    clear c2
    by_cases c6 : 57343 < a0
    · rw [if_pos c6] at H
      have c6b0 : decide (57343 < a0) = true := decide_eq_true c6
      clear c6
      by_cases c7 : a0 ≤ 1114111
      · rw [if_pos c7] at H
        have c7b0 : decide (a0 ≤ 1114111) = true := decide_eq_true c7
        clear c7
        obtain rfl := Option.some.inj H
        go_enter Tryd.func35, Tryd.ntmps35
        go_wp2
        go_ret
        exact ⟨by first | rfl | (simp; done) | (simp [*]; done) | (simp [xbne_nil, xbeq_nil]; done), by repeat (first | exact Drawn0.refl _ | apply Drawn0.step)⟩
      · rw [if_neg c7] at H
        have c7b0 : decide (a0 ≤ 1114111) = false := decide_eq_false c7
        clear c7
        obtain rfl := Option.some.inj H
        go_enter Tryd.func35, Tryd.ntmps35
        go_wp2
        go_ret
        exact ⟨by first | rfl | (simp; done) | (simp [*]; done) | (simp [xbne_nil, xbeq_nil]; done), by repeat (first | exact Drawn0.refl _ | apply Drawn0.step)⟩
    · rw [if_neg c6] at H
      have c6b0 : decide (57343 < a0) = false := decide_eq_false c6
      clear c6
      obtain rfl := Option.some.inj H
      go_enter Tryd.func35, Tryd.ntmps35
      go_wp2
      go_ret
      exact ⟨by first | rfl | (simp; done) | (simp [*]; done) | (simp [xbne_nil, xbeq_nil]; done), by repeat (first | exact Drawn0.refl _ | apply Drawn0.step)⟩
end Go.Proofs.YtdbkefgdeenjoaaDoor.X
end
section
namespace Go.Proofs.YtdbkefgdeenjoaaDoor.X
open Go.RowKit Go.Proofs.YtdbkefgdeenjoaaDoorW.PrintWords Go.Proofs.YtdbkefgdeenjoaaDoorW.PrintLast Go.Proofs.YtdbkefgdeenjoaaDoorW.PrintMore
attribute [local go_sem] max2_int min2_int max_two min_two max_three min_three max_four min_four
set_option linter.unusedVariables false
set_option linter.unusedSimpArgs false
mutual
def text_Runes.j0 : Nat → List Int → List Int → Bool → Bool → Option (List Int × Int)
  | 0, _, _, _, _ => none
  | k + 1, x2, x10, x11, x47 => if x47 = true then ((text_pairs.f k x10).bind fun bt204 => (text_Runes.j1 k x2 bt204.1 bt204.2)) else (text_Runes.j1 k x2 x10 x11)
def text_Runes.j1 : Nat → List Int → List Int → Bool → Option (List Int × Int)
  | 0, _, _, _ => none
  | k + 1, x2, x10, x11 => text_Runes.l0 k x2 x11 x10 (x10.length : Int) 0
def text_Runes.l0 : Nat → List Int → Bool → List Int → Int → Int → Option (List Int × Int)
  | 0, _, _, _, _, _ => none
  | k + 1, x2, x11, x53, x54, x55 => if x55 < x54 then (if 0 ≤ x55 then (if x55 < (x53.length : Int) then (if (rd x53 x55) > 1114111 then (some (([] : List Int), 6)) else ((utf8_ValidRune.f (wrap32 (rd x53 x55))).bind fun t209 => (if t209 = true then (if x2.length < 35184372088832 then (text_Runes.l0 k (x2 ++ [wrap32 (rd x53 x55)]) x11 x53 x54 (wrap64 (x55 + 1))) else (none)) else (some (([] : List Int), 6))))) else (none)) else (none)) else (if x11 = true then (some (x2, 0)) else (some (([] : List Int), 6)))
end
def text_Runes.f (k : Nat) (l0 : List Int) : Option (List Int × Int) := (text_Detect.f k l0).bind fun bt191 => ((text_wide.f bt191.1).bind fun bt193 => (if 0 ≤ bt191.2 then (if bt191.2 ≤ (l0.length : Int) then (if bt193.1 = 1 then ((text_plain.f k (l0.drop (bt191.2 : Int).toNat)).bind fun bt196 => (if bt196.2 = true then (some (bt196.1, 0)) else (some (([] : List Int), 6)))) else ((text_units.f k (l0.drop (bt191.2 : Int).toNat) bt193.1 bt193.2).bind fun bt200 => (if bt200.2 = true then (text_Runes.j0 k ([] : List Int) bt200.1 bt200.2 (bt193.1 == 2)) else (text_Runes.j0 k ([] : List Int) bt200.1 bt200.2 false)))) else (none)) else (none)))
set_option maxHeartbeats 8000000 in
set_option maxRecDepth 100000 in
theorem text_Runes.calls (k : Nat) (A0 : Option Addr) (c0 : Nat) (l0 : List Int) (r1 : List Int) (r2 : Int) (w : World) (hr0 : Kd.C (Kd.int .u8) w A0 l0.length l0) (hc0 : l0.length ≤ c0) (hT : Tabs.Holds w) (h : text_Runes.f k l0 = some (r1, r2)) :
    Calls Tryd.prog 13 #[.slice A0 l0.length c0] w fun e w' => ∃ v0_ : Value, e = .returned (.tuple #[v0_, .int .i64 r2]) ∧ Kd.R (Kd.int .i32) 21 w' w.heap.size (fun _ => True) v0_ r1 ∧ Below w.heap.size w w' := by
  have HR0 := Aside0.mk hr0
  have HC0 := Aside0.mk hc0
  clear hr0 hc0
  have HT := Aside0.mk hT
  clear hT
  have HB := Aside0.mk (Below.refl w.heap.size w)
  have H : ((text_Detect.f k l0).bind fun bt191 => ((text_wide.f bt191.1).bind fun bt193 => (if 0 ≤ bt191.2 then (if bt191.2 ≤ (l0.length : Int) then (if bt193.1 = 1 then ((text_plain.f k (l0.drop (bt191.2 : Int).toNat)).bind fun bt196 => (if bt196.2 = true then (some (bt196.1, 0)) else (some (([] : List Int), 6)))) else ((text_units.f k (l0.drop (bt191.2 : Int).toNat) bt193.1 bt193.2).bind fun bt200 => (if bt200.2 = true then (text_Runes.j0 k ([] : List Int) bt200.1 bt200.2 (bt193.1 == 2)) else (text_Runes.j0 k ([] : List Int) bt200.1 bt200.2 false)))) else (none)) else (none)))) = some (r1, r2) := h
  clear h
  replace H := Option.bind_eq_some_iff.mp H
  obtain ⟨⟨t191, t192⟩, A20, H⟩ := H
  replace H : ((text_wide.f t191).bind fun bt193 => (if 0 ≤ t192 then (if t192 ≤ (l0.length : Int) then (if bt193.1 = 1 then ((text_plain.f k (l0.drop (t192 : Int).toNat)).bind fun bt196 => (if bt196.2 = true then (some (bt196.1, 0)) else (some (([] : List Int), 6)))) else ((text_units.f k (l0.drop (t192 : Int).toNat) bt193.1 bt193.2).bind fun bt200 => (if bt200.2 = true then (text_Runes.j0 k ([] : List Int) bt200.1 bt200.2 (bt193.1 == 2)) else (text_Runes.j0 k ([] : List Int) bt200.1 bt200.2 false)))) else (none)) else (none))) = some (r1, r2) := H
  have A2 := Aside0.mk A20
  clear A20
  replace H := Option.bind_eq_some_iff.mp H
  obtain ⟨⟨t193, t194⟩, A30, H⟩ := H
  replace H : (if 0 ≤ t192 then (if t192 ≤ (l0.length : Int) then (if t193 = 1 then ((text_plain.f k (l0.drop (t192 : Int).toNat)).bind fun bt196 => (if bt196.2 = true then (some (bt196.1, 0)) else (some (([] : List Int), 6)))) else ((text_units.f k (l0.drop (t192 : Int).toNat) t193 t194).bind fun bt200 => (if bt200.2 = true then (text_Runes.j0 k ([] : List Int) bt200.1 bt200.2 (t193 == 2)) else (text_Runes.j0 k ([] : List Int) bt200.1 bt200.2 false)))) else (none)) else (none)) = some (r1, r2) := H
  have A3 := Aside0.mk A30
  clear A30
  by_cases c4 : 0 ≤ t192
  · rw [if_pos c4] at H
    have c4b0 := eq_true c4
    have c4b1 : decide (0 ≤ t192) = true := decide_eq_true c4
    clear c4
    by_cases c5 : t192 ≤ (l0.length : Int)
    · rw [if_pos c5] at H
      have c5b0 := eq_true c5
      have c5b1 : decide (t192 ≤ (l0.length : Int)) = true := decide_eq_true c5
      clear c5
      by_cases c6 : t193 = 1
      · rw [if_pos c6] at H
        have c6b0 : (t193 == 1) = true := beq_iff_eq.mpr c6
        have c6b1 : (t193 != 1) = false := bne_eq_false_iff_eq.mpr c6
        clear c6
        replace H := Option.bind_eq_some_iff.mp H
        obtain ⟨⟨t196, t199⟩, A70, H⟩ := H
        replace H : (if t199 = true then (some (t196, 0)) else (some (([] : List Int), 6))) = some (r1, r2) := H
        have A7 := Aside0.mk A70
        clear A70
        by_cases c8 : t199 = true
        · subst c8
          have H1 : (some (t196, 0)) = some (r1, r2) := by rw [if_pos rfl] at H; exact H
          clear H
          have H := H1
          clear H1
          simp only [Option.some.injEq, Prod.mk.injEq] at H
          obtain ⟨rfl, rfl⟩ := H
          go_enter Tryd.func13, Tryd.ntmps13
          go_wp2_with (first | ((with_reducible refine gate_callee (f := 11) rfl ?_); refine goesL_ (some 16) rfl rfl Tryd.func11 (by kernel_rfl) rfl #[.slice A0 l0.length c0] rfl (by (try simp only [List.map_toArray, List.map_cons, List.map_nil]); first | done | rfl | (simp only [List.length_drop, List.length_take]; rfl)) ?_; (with_reducible refine (text_Detect.calls k _ _ l0 t191 t192 _ ?side1 ?side2 A2.out).mono ?_); (case side1 => repeat (first | exact HR0.out | (with_reducible refine Kd.C_alloc ?_ _) | (with_reducible refine Kd.C_drewN ?_ _) | (with_reducible refine Kd.C_drew ?_))); (case side2 => exact HC0.out); rintro e w9 ⟨rfl, hb⟩; refine ⟨_, rfl, ?_⟩; have n0_ := Aside0.mk (below_step (by repeat (first | (with_reducible first | exact HB.out | apply below_alloc | apply pw_below_drewN | apply below_drew1) | exact HB.out)) hb); clear HB; have HB := n0_; clear n0_; (try clear hb); (try clear hb2); (try clear hk); (try clear hi)) | ((with_reducible refine gate_callee (f := 31) rfl ?_); refine goesL_ (some 21) rfl rfl Tryd.func31 (by kernel_rfl) rfl #[.int .i64 t191] rfl (by (try simp only [List.map_toArray, List.map_cons, List.map_nil]); first | done | rfl | (simp only [List.length_drop, List.length_take]; rfl)) ?_; (with_reducible refine (text_wide.calls t191 t193 t194 _ A3.out).mono ?_); rintro e w' ⟨rfl, ⟨nd, rfl⟩⟩; refine ⟨_, rfl, ?_⟩; obtain ⟨i010, hi010, _, hsz10, _⟩ := info_parts info5; obtain ⟨A10, hcut10, hA10, hC10⟩ := print_drop_of (P := Tryd.prog) (Value.int .u8) 0 22 5 .i64 Tryd.underlying22 hi010 hsz10 A0 c0 l0 t192 (of_decide_eq_true (by first | (with_reducible assumption) | assumption)) (of_decide_eq_true (by first | (with_reducible assumption) | assumption)) HC0.out; have HR195 := Aside0.mk (Kd.C_of_reads (h1 := fun _ => rfl) (hA10 _ (Kd.reads_of_C HR0.out))); have HC195 := Aside0.mk hC10; clear hA10 hC10 hi010 hsz10) | ((with_reducible refine gate_callee (f := 32) rfl ?_); refine goesL_ (some 31) rfl rfl Tryd.func32 (by kernel_rfl) rfl #[.slice A10 (l0.drop (t192 : Int).toNat).length (c0 - t192.toNat)] rfl (by (try simp only [List.map_toArray, List.map_cons, List.map_nil]); first | done | (rw [show (l0.drop (t192 : Int).toNat).length = (l0.length - t192.toNat) from List.length_drop] <;> rfl) | rfl | (simp only [List.length_drop, List.length_take]; rfl)) ?_; (with_reducible refine (text_plain.calls k (fun k_ => k_ < w.heap.size) _ _ (l0.drop (t192 : Int).toNat) t196 true _ ?side1 ?side2 A7.out).mono ?_); (case side1 => exact Kd.V_mk HC195.out (Kd.F_below (Kd.C_F (Kd.heap_int .u8) HR195.out) (by repeat (first | (with_reducible first | exact HB.out | apply below_alloc | apply pw_below_drewN | apply below_drew1) | exact HB.out)))); (case side2 => exact Tabs.Holds.below HT.out (by repeat (first | (with_reducible first | exact HB.out | apply below_alloc | apply pw_below_drewN | apply below_drew1) | exact HB.out))); rintro e w11 ⟨v197, rfl, ho0, hb⟩; refine ⟨_, rfl, ?_⟩; have n0_ := Aside0.mk (Kd.R_lower (Kd.R_mono (ok' := fun k_ => True) ho0 (fun _ hk_ => trivial)) (below_size (by repeat (first | (with_reducible first | exact HB.out | apply below_alloc | apply pw_below_drewN | apply below_drew1) | exact HB.out)))); have n1_ := Aside0.mk (below_step (by repeat (first | (with_reducible first | exact HB.out | apply below_alloc | apply pw_below_drewN | apply below_drew1) | exact HB.out)) hb); clear HB; have HO198 := n0_; have HB := n1_; clear n0_ n1_; (try clear hb); (try clear hb2); (try clear hk); (try clear hi); (try clear ho0)))
          go_ret2
          exact ⟨_, by first | rfl | (simp [errW_none, errW_some] <;> rfl) | (simp [*, errW_none, errW_some] <;> rfl), by (with_reducible repeat (first | apply Kd.R_alloc | apply Kd.R_drewN | apply Kd.R_drew)); exact HO198.out, by repeat (first | (with_reducible first | exact HB.out | apply below_alloc | apply pw_below_drewN | apply below_drew1) | exact HB.out)⟩
        · replace c8 := Bool.eq_false_iff.mpr c8
          subst c8
          have H1 : (some (([] : List Int), 6)) = some (r1, r2) := by rw [if_neg (show ¬ (false = true) by decide)] at H; exact H
          clear H
          have H := H1
          clear H1
          simp only [Option.some.injEq, Prod.mk.injEq] at H
          obtain ⟨rfl, rfl⟩ := H
          go_enter Tryd.func13, Tryd.ntmps13
          go_wp2_with (first | ((with_reducible refine gate_callee (f := 11) rfl ?_); refine goesL_ (some 16) rfl rfl Tryd.func11 (by kernel_rfl) rfl #[.slice A0 l0.length c0] rfl (by (try simp only [List.map_toArray, List.map_cons, List.map_nil]); first | done | rfl | (simp only [List.length_drop, List.length_take]; rfl)) ?_; (with_reducible refine (text_Detect.calls k _ _ l0 t191 t192 _ ?side1 ?side2 A2.out).mono ?_); (case side1 => repeat (first | exact HR0.out | (with_reducible refine Kd.C_alloc ?_ _) | (with_reducible refine Kd.C_drewN ?_ _) | (with_reducible refine Kd.C_drew ?_))); (case side2 => exact HC0.out); rintro e w12 ⟨rfl, hb⟩; refine ⟨_, rfl, ?_⟩; have n0_ := Aside0.mk (below_step (by repeat (first | (with_reducible first | exact HB.out | apply below_alloc | apply pw_below_drewN | apply below_drew1) | exact HB.out)) hb); clear HB; have HB := n0_; clear n0_; (try clear hb); (try clear hb2); (try clear hk); (try clear hi)) | ((with_reducible refine gate_callee (f := 31) rfl ?_); refine goesL_ (some 21) rfl rfl Tryd.func31 (by kernel_rfl) rfl #[.int .i64 t191] rfl (by (try simp only [List.map_toArray, List.map_cons, List.map_nil]); first | done | rfl | (simp only [List.length_drop, List.length_take]; rfl)) ?_; (with_reducible refine (text_wide.calls t191 t193 t194 _ A3.out).mono ?_); rintro e w' ⟨rfl, ⟨nd, rfl⟩⟩; refine ⟨_, rfl, ?_⟩; obtain ⟨i013, hi013, _, hsz13, _⟩ := info_parts info5; obtain ⟨A13, hcut13, hA13, hC13⟩ := print_drop_of (P := Tryd.prog) (Value.int .u8) 0 22 5 .i64 Tryd.underlying22 hi013 hsz13 A0 c0 l0 t192 (of_decide_eq_true (by first | (with_reducible assumption) | assumption)) (of_decide_eq_true (by first | (with_reducible assumption) | assumption)) HC0.out; have HR195 := Aside0.mk (Kd.C_of_reads (h1 := fun _ => rfl) (hA13 _ (Kd.reads_of_C HR0.out))); have HC195 := Aside0.mk hC13; clear hA13 hC13 hi013 hsz13) | ((with_reducible refine gate_callee (f := 32) rfl ?_); refine goesL_ (some 31) rfl rfl Tryd.func32 (by kernel_rfl) rfl #[.slice A13 (l0.drop (t192 : Int).toNat).length (c0 - t192.toNat)] rfl (by (try simp only [List.map_toArray, List.map_cons, List.map_nil]); first | done | (rw [show (l0.drop (t192 : Int).toNat).length = (l0.length - t192.toNat) from List.length_drop] <;> rfl) | rfl | (simp only [List.length_drop, List.length_take]; rfl)) ?_; (with_reducible refine (text_plain.calls k (fun k_ => k_ < w.heap.size) _ _ (l0.drop (t192 : Int).toNat) t196 false _ ?side1 ?side2 A7.out).mono ?_); (case side1 => exact Kd.V_mk HC195.out (Kd.F_below (Kd.C_F (Kd.heap_int .u8) HR195.out) (by repeat (first | (with_reducible first | exact HB.out | apply below_alloc | apply pw_below_drewN | apply below_drew1) | exact HB.out)))); (case side2 => exact Tabs.Holds.below HT.out (by repeat (first | (with_reducible first | exact HB.out | apply below_alloc | apply pw_below_drewN | apply below_drew1) | exact HB.out))); rintro e w14 ⟨v197, rfl, ho0, hb⟩; refine ⟨_, rfl, ?_⟩; have n0_ := Aside0.mk (Kd.R_lower (Kd.R_mono (ok' := fun k_ => True) ho0 (fun _ hk_ => trivial)) (below_size (by repeat (first | (with_reducible first | exact HB.out | apply below_alloc | apply pw_below_drewN | apply below_drew1) | exact HB.out)))); have n1_ := Aside0.mk (below_step (by repeat (first | (with_reducible first | exact HB.out | apply below_alloc | apply pw_below_drewN | apply below_drew1) | exact HB.out)) hb); clear HB; have HO198 := n0_; have HB := n1_; clear n0_ n1_; (try clear hb); (try clear hb2); (try clear hk); (try clear hi); (try clear ho0)))
          go_ret2
          exact ⟨_, by first | rfl | (simp [errW_none, errW_some] <;> rfl) | (simp [*, errW_none, errW_some] <;> rfl), by first | exact Kd.R_nil _ _ _ _ _ | exact Kd.N_nil _ _ _ _ _ | exact Kd.V_nil _ _ _ _ _ | exact Kd.Q_nil _ _ _ _ _ | exact Kd.S_nil _ _ _ _ _, by repeat (first | (with_reducible first | exact HB.out | apply below_alloc | apply pw_below_drewN | apply below_drew1) | exact HB.out)⟩
      · rw [if_neg c6] at H
        have c6b0 : (t193 == 1) = false := beq_eq_false_iff_ne.mpr c6
        have c6b1 : (t193 != 1) = true := bne_iff_ne.mpr c6
        replace H := Option.bind_eq_some_iff.mp H
        obtain ⟨⟨t200, t203⟩, A150, H⟩ := H
        replace H : (if t203 = true then (text_Runes.j0 k ([] : List Int) t200 t203 (t193 == 2)) else (text_Runes.j0 k ([] : List Int) t200 t203 false)) = some (r1, r2) := H
        have A15 := Aside0.mk A150
        clear A150
        have HC16 := Aside0.mk H
        clear H
        go_enter Tryd.func13, Tryd.ntmps13
        go_upto_region 10 with (first | ((with_reducible refine gate_callee (f := 11) rfl ?_); refine goesL_ (some 16) rfl rfl Tryd.func11 (by kernel_rfl) rfl #[.slice A0 l0.length c0] rfl (by (try simp only [List.map_toArray, List.map_cons, List.map_nil]); first | done | rfl | (simp only [List.length_drop, List.length_take]; rfl)) ?_; (with_reducible refine (text_Detect.calls k _ _ l0 t191 t192 _ ?side1 ?side2 A2.out).mono ?_); (case side1 => repeat (first | exact HR0.out | (with_reducible refine Kd.C_alloc ?_ _) | (with_reducible refine Kd.C_drewN ?_ _) | (with_reducible refine Kd.C_drew ?_))); (case side2 => exact HC0.out); rintro e w17 ⟨rfl, hb⟩; refine ⟨_, rfl, ?_⟩; have n0_ := Aside0.mk (below_step (by repeat (first | (with_reducible first | exact HB.out | apply below_alloc | apply pw_below_drewN | apply below_drew1) | exact HB.out)) hb); clear HB; have HB := n0_; clear n0_; (try clear hb); (try clear hb2); (try clear hk); (try clear hi)) | ((with_reducible refine gate_callee (f := 31) rfl ?_); refine goesL_ (some 21) rfl rfl Tryd.func31 (by kernel_rfl) rfl #[.int .i64 t191] rfl (by (try simp only [List.map_toArray, List.map_cons, List.map_nil]); first | done | rfl | (simp only [List.length_drop, List.length_take]; rfl)) ?_; (with_reducible refine (text_wide.calls t191 t193 t194 _ A3.out).mono ?_); rintro e w' ⟨rfl, ⟨nd, rfl⟩⟩; refine ⟨_, rfl, ?_⟩; obtain ⟨i018, hi018, _, hsz18, _⟩ := info_parts info5; obtain ⟨A18, hcut18, hA18, hC18⟩ := print_drop_of (P := Tryd.prog) (Value.int .u8) 0 22 5 .i64 Tryd.underlying22 hi018 hsz18 A0 c0 l0 t192 (of_decide_eq_true (by first | (with_reducible assumption) | assumption)) (of_decide_eq_true (by first | (with_reducible assumption) | assumption)) HC0.out; have HR195 := Aside0.mk (Kd.C_of_reads (h1 := fun _ => rfl) (hA18 _ (Kd.reads_of_C HR0.out))); have HC195 := Aside0.mk hC18; clear hA18 hC18 hi018 hsz18) | ((with_reducible refine gate_callee (f := 33) rfl ?_); refine goesL_ (some 40) rfl rfl Tryd.func33 (by kernel_rfl) rfl #[.slice A18 (l0.drop (t192 : Int).toNat).length (c0 - t192.toNat), .int .i64 t193, .bool t194] rfl (by (try simp only [List.map_toArray, List.map_cons, List.map_nil]); first | done | (rw [show (l0.drop (t192 : Int).toNat).length = (l0.length - t192.toNat) from List.length_drop] <;> rfl) | rfl | (simp only [List.length_drop, List.length_take]; rfl)) ?_; (with_reducible refine (text_units.calls k (fun k_ => k_ < w.heap.size) _ _ (l0.drop (t192 : Int).toNat) t193 t194 t200 t203 _ ?side1 A15.out).mono ?_); (case side1 => exact Kd.V_mk HC195.out (Kd.F_below (Kd.C_F (Kd.heap_int .u8) HR195.out) (by repeat (first | (with_reducible first | exact HB.out | apply below_alloc | apply pw_below_drewN | apply below_drew1) | exact HB.out)))); rintro e w19 ⟨v201, rfl, ho0, hb⟩; refine ⟨_, rfl, ?_⟩; have n0_ := Aside0.mk (Kd.R_lower (Kd.R_mono (ok' := fun k_ => True) ho0 (fun _ hk_ => trivial)) (below_size (by repeat (first | (with_reducible first | exact HB.out | apply below_alloc | apply pw_below_drewN | apply below_drew1) | exact HB.out)))); have n1_ := Aside0.mk (below_step (by repeat (first | (with_reducible first | exact HB.out | apply below_alloc | apply pw_below_drewN | apply below_drew1) | exact HB.out)) hb); clear HB; have HO202 := n0_; have HB := n1_; clear n0_ n1_; (try clear hb); (try clear hb2); (try clear hk); (try clear hi); (try clear ho0)))
        (try simp only [Act.put, List.setIfInBounds_toArray, List.set_cons_zero, List.set_cons_succ])
        go_cut [47] (fun v47 wc => ∃ (kq : Nat) (x47_15 : Bool), v47 = .bool x47_15 ∧ Aside0 (text_Runes.j0 kq ([] : List Int) t200 t203 x47_15 = some (r1, r2)) ∧ Aside0 (kq ≤ k) ∧ Aside0 (Kd.R (Kd.int .i32) 21 wc w.heap.size (fun _ => True) (.slice none 0 0) ([] : List Int)) ∧ Aside0 (Kd.R (Kd.int .u32) 66 wc w.heap.size (fun _ => True) v201 t200) ∧ Aside0 (Below w.heap.size w wc))
        case first =>
          have H := HC16.out
          clear HC16
          by_cases c20 : t203 = true
          · subst c20
            have H1 : (text_Runes.j0 k ([] : List Int) t200 true (t193 == 2)) = some (r1, r2) := by rw [if_pos rfl] at H; exact H
            clear H
            have H := H1
            clear H1
            have H' := Aside0.mk H
            clear H
            go_wp2
            go_meet
            case rel => exact ⟨_, ((t193 == 2)), (by first | rfl | (simp; done) | (simp [*]; done) | (simp [xbne_nil, xbeq_nil]; done)), H', ⟨by first | omega | exact Nat.le_refl _⟩, ⟨by first | exact Kd.R_nil _ _ _ _ _ | exact Kd.N_nil _ _ _ _ _ | exact Kd.V_nil _ _ _ _ _ | exact Kd.Q_nil _ _ _ _ _ | exact Kd.S_nil _ _ _ _ _⟩, ⟨by (with_reducible repeat (first | apply Kd.R_alloc | apply Kd.R_drewN | apply Kd.R_drew)); exact HO202.out⟩, ⟨by repeat (first | (with_reducible first | exact HB.out | apply below_alloc | apply pw_below_drewN | apply below_drew1) | exact HB.out)⟩⟩
          · replace c20 := Bool.eq_false_iff.mpr c20
            subst c20
            have H1 : (text_Runes.j0 k ([] : List Int) t200 false false) = some (r1, r2) := by rw [if_neg (show ¬ (false = true) by decide)] at H; exact H
            clear H
            have H := H1
            clear H1
            have H' := Aside0.mk H
            clear H
            go_wp2
            go_meet
            case rel => exact ⟨_, (false), (by first | rfl | (simp; done) | (simp [*]; done) | (simp [xbne_nil, xbeq_nil]; done)), H', ⟨by first | omega | exact Nat.le_refl _⟩, ⟨by first | exact Kd.R_nil _ _ _ _ _ | exact Kd.N_nil _ _ _ _ _ | exact Kd.V_nil _ _ _ _ _ | exact Kd.Q_nil _ _ _ _ _ | exact Kd.S_nil _ _ _ _ _⟩, ⟨by (with_reducible repeat (first | apply Kd.R_alloc | apply Kd.R_drewN | apply Kd.R_drew)); exact HO202.out⟩, ⟨by repeat (first | (with_reducible first | exact HB.out | apply below_alloc | apply pw_below_drewN | apply below_drew1) | exact HB.out)⟩⟩
        case rest =>
          clear HC16
          try clear c1
          try clear c2
          try clear p2
          try clear c3
          try clear c4
          try clear c4b0
          try clear c4b1
          try clear c5
          try clear c5b0
          try clear c5b1
          try clear c6
          try clear c6b0
          try clear c6b1
          try clear c8
          try clear c11
          try clear c13
          try clear c20
          obtain ⟨kq, x47_15, rfl, HA, HJ15, HO_2, HO_10, HB⟩ := hcut
          cases kq with
          | zero => exact absurd HA.out (by simp [text_Runes.j0])
          | succ kj15 =>
            have H := HA.out
            clear HA
            simp only [text_Runes.j0] at H
            have HC21 := Aside0.mk H
            clear H
            go_upto_if 47 with (fail)
            go_cut [10, 11] (fun v10 v11 wc => ∃ (kq : Nat) (x10_20 : List Int) (x11_20 : Bool), v11 = .bool x11_20 ∧ Aside0 (text_Runes.j1 kq ([] : List Int) x10_20 x11_20 = some (r1, r2)) ∧ Aside0 (kq ≤ kj15) ∧ Aside0 (Kd.R (Kd.int .i32) 21 wc w.heap.size (fun _ => True) (.slice none 0 0) ([] : List Int)) ∧ Aside0 (Kd.R (Kd.int .u32) 66 wc w.heap.size (fun _ => True) v10 x10_20) ∧ Aside0 (Below w.heap.size w wc))
            case first =>
              have H := HC21.out
              clear HC21
              by_cases c22 : x47_15 = true
              · subst c22
                have H1 : ((text_pairs.f kj15 t200).bind fun bt204 => (text_Runes.j1 kj15 ([] : List Int) bt204.1 bt204.2)) = some (r1, r2) := by rw [if_pos rfl] at H; exact H
                clear H
                have H := H1
                clear H1
                replace H := Option.bind_eq_some_iff.mp H
                obtain ⟨⟨t204, t205⟩, A230, H⟩ := H
                replace H : (text_Runes.j1 kj15 ([] : List Int) t204 t205) = some (r1, r2) := H
                have A23 := Aside0.mk A230
                clear A230
                have H' := Aside0.mk H
                clear H
                obtain ⟨Ao24, co24, eo24⟩ := Kd.R_slice HO_10.out
                subst eo24
                go_wp2_with (first | ((with_reducible refine gate_callee (f := 34) rfl ?_); refine goesL_ (some 50) rfl rfl Tryd.func34 (by kernel_rfl) rfl #[.slice Ao24 t200.length co24] rfl (by (try simp only [List.map_toArray, List.map_cons, List.map_nil]); first | done | rfl | (simp only [List.length_drop, List.length_take]; rfl)) ?_; (with_reducible refine (text_pairs.calls kj15 _ _ t200 t204 t205 _ ?side1 ?side2 A23.out).mono ?_); (case side1 => repeat (first | exact (Kd.R_reads' HO_10.out).2.2 | (with_reducible refine Kd.C_alloc ?_ _) | (with_reducible refine Kd.C_drewN ?_ _) | (with_reducible refine Kd.C_drew ?_))); (case side2 => exact (Kd.R_reads' HO_10.out).2.1); rintro e w25 ⟨v206, rfl, ho0, hb⟩; refine ⟨_, rfl, ?_⟩; have n0_ := Aside0.mk (Kd.R_below (by (with_reducible repeat (first | apply Kd.R_alloc | apply Kd.R_drewN | apply Kd.R_drew)); exact HO_2.out) hb); have n1_ := Aside0.mk (Kd.R_elder' (by (with_reducible repeat (first | apply Kd.R_alloc | apply Kd.R_drewN | apply Kd.R_drew)); exact HO_10.out) (Kd.R_base ho0) hb); have n2_ := Aside0.mk (Kd.R_lower (Kd.R_new' ho0 (Kd.R_lt (by (with_reducible repeat (first | apply Kd.R_alloc | apply Kd.R_drewN | apply Kd.R_drew)); exact HO_10.out))) (below_size (by repeat (first | (with_reducible first | exact HB.out | apply below_alloc | apply pw_below_drewN | apply below_drew1) | exact HB.out)))); have n3_ := Aside0.mk (below_step (by repeat (first | (with_reducible first | exact HB.out | apply below_alloc | apply pw_below_drewN | apply below_drew1) | exact HB.out)) hb); clear HO_2; clear HO_10; clear HB; have HO_2 := n0_; have HO_10 := n1_; have HO207 := n2_; have HB := n3_; clear n0_ n1_ n2_ n3_; (try clear hb); (try clear hb2); (try clear hk); (try clear hi); (try clear ho0)))
                go_meet
                case rel => exact ⟨_, (t204), (t205), (by first | rfl | (simp; done) | (simp [*]; done) | (simp [xbne_nil, xbeq_nil]; done)), H', ⟨by have := HJ15.out; first | omega | exact Nat.le_refl _⟩, ⟨by (with_reducible repeat (first | apply Kd.R_alloc | apply Kd.R_drewN | apply Kd.R_drew)); exact HO_2.out⟩, ⟨by (with_reducible repeat (first | apply Kd.R_alloc | apply Kd.R_drewN | apply Kd.R_drew)); exact Kd.R_mono HO207.out (fun _ hk => trivial)⟩, ⟨by repeat (first | (with_reducible first | exact HB.out | apply below_alloc | apply pw_below_drewN | apply below_drew1) | exact HB.out)⟩⟩
              · replace c22 := Bool.eq_false_iff.mpr c22
                subst c22
                have H1 : (text_Runes.j1 kj15 ([] : List Int) t200 t203) = some (r1, r2) := by rw [if_neg (show ¬ (false = true) by decide)] at H; exact H
                clear H
                have H := H1
                clear H1
                have H' := Aside0.mk H
                clear H
                go_wp2
                go_meet
                case rel => exact ⟨_, (t200), (t203), (by first | rfl | (simp; done) | (simp [*]; done) | (simp [xbne_nil, xbeq_nil]; done)), H', ⟨by have := HJ15.out; first | omega | exact Nat.le_refl _⟩, ⟨by (with_reducible repeat (first | apply Kd.R_alloc | apply Kd.R_drewN | apply Kd.R_drew)); exact HO_2.out⟩, ⟨by (with_reducible repeat (first | apply Kd.R_alloc | apply Kd.R_drewN | apply Kd.R_drew)); exact HO_10.out⟩, ⟨by repeat (first | (with_reducible first | exact HB.out | apply below_alloc | apply pw_below_drewN | apply below_drew1) | exact HB.out)⟩⟩
            case rest =>
              clear HC21
              try clear c1
              try clear c2
              try clear p2
              try clear c3
              try clear c4
              try clear c4b0
              try clear c4b1
              try clear c5
              try clear c5b0
              try clear c5b1
              try clear c6
              try clear c6b0
              try clear c6b1
              try clear c8
              try clear c11
              try clear c13
              try clear c20
              try clear c22
              try clear p2
              obtain ⟨kq, x10_20, x11_20, rfl, HA, HJ20, HO_2, HO_10, HB⟩ := hcut
              cases kq with
              | zero => exact absurd HA.out (by simp [text_Runes.j1])
              | succ kj20 =>
                have H := HA.out
                clear HA
                simp only [text_Runes.j1] at H
                have H' := Aside0.mk H
                clear H
                obtain ⟨Ao26, co26, eo26⟩ := Kd.R_slice HO_10.out
                subst eo26
                go_wp2
                go_loopg [2, 55] kj20 (fun kq v2 v55 w' => ∃ (x2_3 : List Int) (x55_3 : Int), v55 = .int .i64 x55_3 ∧ Aside0 (text_Runes.l0 kq x2_3 x11_20 x10_20 (x10_20.length : Int) x55_3 = some (r1, r2)) ∧ Aside0 (kq ≤ kj20) ∧ Aside0 (Kd.R (Kd.int .i32) 21 w' w.heap.size (fun _ => True) v2 x2_3) ∧ Aside0 (Kd.R (Kd.int .u32) 66 w' w.heap.size (fun _ => True) (.slice Ao26 x10_20.length co26) x10_20) ∧ Aside0 (Below w.heap.size w w'))
                case atStart => exact ⟨(([] : List Int)), (0), (by first | rfl | (simp; done) | (simp [*]; done) | (simp [xbne_nil, xbeq_nil]; done)), H', ⟨Nat.le_refl _⟩, ⟨by (with_reducible repeat (first | apply Kd.R_alloc | apply Kd.R_drewN | apply Kd.R_drew)); exact HO_2.out⟩, ⟨by (with_reducible repeat (first | apply Kd.R_alloc | apply Kd.R_drewN | apply Kd.R_drew)); exact HO_10.out⟩, ⟨by repeat (first | (with_reducible first | exact HB.out | apply below_alloc | apply pw_below_drewN | apply below_drew1) | exact HB.out)⟩⟩
                case round =>
                  clear H'
                  try clear c1
                  try clear c2
                  try clear p2
                  try clear c3
                  try clear c4
                  try clear c4b0
                  try clear c4b1
                  try clear c5
                  try clear c5b0
                  try clear c5b1
                  try clear c6
                  try clear c6b0
                  try clear c6b1
                  try clear c8
                  try clear c11
                  try clear c13
                  try clear c20
                  try clear c22
                  try clear p2
                  obtain ⟨x2_3, x55_3, rfl, HA, HK3, HO_2, HO_53, HB⟩ := hrel
                  cases gk with
                  | zero => exact absurd HA.out (by simp [text_Runes.l0])
                  | succ k3 =>
                    have H := HA.out
                    clear HA
                    simp only [text_Runes.l0] at H
                    by_cases c27 : x55_3 < (x10_20.length : Int)
                    · rw [if_pos c27] at H
                      have c27b0 : decide (x55_3 < (x10_20.length : Int)) = true := decide_eq_true c27
                      clear c27
                      by_cases c28 : 0 ≤ x55_3
                      · rw [if_pos c28] at H
                        have c28b0 : decide (0 ≤ x55_3) = true := decide_eq_true c28
                        clear c28
                        by_cases c29 : x55_3 < (x10_20.length : Int)
                        · rw [if_pos c29] at H
                          have c29b0 : decide (x55_3 < (x10_20.length : Int)) = true := decide_eq_true c29
                          clear c29
                          by_cases c30 : (rd x10_20 x55_3) > 1114111
                          · rw [if_pos c30] at H
                            have c30b0 : decide (1114111 < (rd x10_20 x55_3)) = true := decide_eq_true c30
                            clear c30
                            simp only [Option.some.injEq, Prod.mk.injEq] at H
                            obtain ⟨rfl, rfl⟩ := H
                            have p208 : 0 ≤ (x55_3 : Int) := of_decide_eq_true (by first | (with_reducible assumption) | assumption)
                            have q208 : x55_3 < (x10_20.length : Int) := of_decide_eq_true (by first | (with_reducible assumption) | assumption)
                            obtain ⟨ad208, e208, hx208_0⟩ := Kd.at_int (Kd.R_reads' HO_53.out).2.2 x55_3 p208 q208
                            cases e208
                            replace p208 := eq_true p208
                            replace q208 := eq_true q208
                            go_wp2
                            go_ret2
                            exact ⟨_, by first | rfl | (simp [errW_none, errW_some] <;> rfl) | (simp [*, errW_none, errW_some] <;> rfl), by first | exact Kd.R_nil _ _ _ _ _ | exact Kd.N_nil _ _ _ _ _ | exact Kd.V_nil _ _ _ _ _ | exact Kd.Q_nil _ _ _ _ _ | exact Kd.S_nil _ _ _ _ _, by repeat (first | (with_reducible first | exact HB.out | apply below_alloc | apply pw_below_drewN | apply below_drew1) | exact HB.out)⟩
                          · rw [if_neg c30] at H
                            have c30b0 : decide (1114111 < (rd x10_20 x55_3)) = false := decide_eq_false c30
                            clear c30
                            replace H := Option.bind_eq_some_iff.mp H
                            obtain ⟨t209, A310, H⟩ := H
                            replace H : (if t209 = true then (if x2_3.length < 35184372088832 then (text_Runes.l0 k3 (x2_3 ++ [wrap32 (rd x10_20 x55_3)]) x11_20 x10_20 (x10_20.length : Int) (wrap64 (x55_3 + 1))) else (none)) else (some (([] : List Int), 6))) = some (r1, r2) := H
                            have A31 := Aside0.mk A310
                            clear A310
                            by_cases c32 : t209 = true
                            · subst c32
                              have H1 : (if x2_3.length < 35184372088832 then (text_Runes.l0 k3 (x2_3 ++ [wrap32 (rd x10_20 x55_3)]) x11_20 x10_20 (x10_20.length : Int) (wrap64 (x55_3 + 1))) else (none)) = some (r1, r2) := by rw [if_pos rfl] at H; exact H
                              clear H
                              have H := H1
                              clear H1
                              by_cases c33 : x2_3.length < 35184372088832
                              · rw [if_pos c33] at H
                                have LMc33 := Aside0.mk c33
                                clear c33
                                obtain ⟨y210, hy210⟩ : ∃ y_ : List Int, y_ = (x2_3 ++ [wrap32 (rd x10_20 x55_3)]) := ⟨_, rfl⟩
                                replace H : (text_Runes.l0 k3 y210 x11_20 x10_20 (x10_20.length : Int) (wrap64 (x55_3 + 1))) = some (r1, r2) := by first | (rw [hy210]; with_reducible exact H) | (have H2_ := (Option.bind_some _ _).symm.trans H; rw [hy210]; with_reducible exact H2_) | (have H2_ := (Option.bind_some _ _).symm.trans H; with_reducible exact H2_) | with_reducible exact H | (rw [hy210]; exact H) | exact H
                                have Ny210 := Aside0.mk hy210
                                clear hy210
                                have H' := Aside0.mk H
                                clear H
                                have p208 : 0 ≤ (x55_3 : Int) := of_decide_eq_true (by first | (with_reducible assumption) | assumption)
                                have q208 : x55_3 < (x10_20.length : Int) := of_decide_eq_true (by first | (with_reducible assumption) | assumption)
                                obtain ⟨ad208, e208, hx208_0⟩ := Kd.at_int (Kd.R_reads' HO_53.out).2.2 x55_3 p208 q208
                                cases e208
                                replace p208 := eq_true p208
                                replace q208 := eq_true q208
                                go_wp2_with (first | (go_at_call 35; (with_reducible refine (utf8_ValidRune.calls (wrap32 (rd x10_20 x55_3)) true _ A31.out).mono ?_); rintro e w' ⟨rfl, ⟨nd, rfl⟩⟩) | ((with_reducible refine gate_builtin (b := .append) (xs := #[.tmp 67, .tmp 70]) rfl ?_); at_builtin; refine Kd.R_append (Kd.int .i32) (w0 := w) w.heap.size rfl (.tmp 67) (.tmp 70) 26 21 (.int .i32 0) 4 rfl Tryd.underlying26 info21 rfl (by decide) (by omega) u2 x2_3 (wrap32 (rd x10_20 x55_3)) [.int .i32 (wrap32 (rd x10_20 x55_3))] (fun _ => True) (fun _ => False) rfl rfl ?aP (fun _ hk => hk.elim) ?aF ?aO ?aB ?aS ?aL ?_; (case aP => exact rfl); (case aB => exact (by repeat (first | (with_reducible first | exact HB.out | apply below_alloc | apply pw_below_drewN | apply below_drew1) | exact HB.out))); (case aF => exact (fun _ _ => trivial)); (case aO => exact (by (with_reducible repeat (first | apply Kd.R_alloc | apply Kd.R_drewN | apply Kd.R_drew)); exact HO_2.out)); (case aS => exact (below_size (by repeat (first | (with_reducible first | exact HB.out | apply below_alloc | apply pw_below_drewN | apply below_drew1) | exact HB.out)))); (case aL => have := LMc33.out; omega); intro v211 w34 ho hb hg hat; rw [← Ny210.out] at ho; have n0_ := Aside0.mk (Kd.R_over' (by (with_reducible repeat (first | apply Kd.R_alloc | apply Kd.R_drewN | apply Kd.R_drew)); exact HO_53.out) (Kd.R_typed (by (with_reducible repeat (first | apply Kd.R_alloc | apply Kd.R_drewN | apply Kd.R_drew)); exact HO_2.out)) (by decide) hg); have n1_ := Aside0.mk (hb); have n2_ := Aside0.mk (ho); clear HO_53; clear HB; clear HO_2; have HO_53 := n0_; have HB := n1_; have HO212 := n2_; clear n0_ n1_ n2_; clear ho hb hg hat))
                                go_roundg k3
                                case measure => have := HJ15.out; have := HJ20.out; have := HK3.out; omega
                                case rel => exact ⟨(y210), (wrap64 (x55_3 + 1)), (by first | rfl | (simp; done) | (simp [*]; done) | (simp [xbne_nil, xbeq_nil]; done)), H', ⟨by have := HJ15.out; have := HJ20.out; have := HK3.out; omega⟩, ⟨by (with_reducible repeat (first | apply Kd.R_alloc | apply Kd.R_drewN | apply Kd.R_drew)); exact HO212.out⟩, ⟨by (with_reducible repeat (first | apply Kd.R_alloc | apply Kd.R_drewN | apply Kd.R_drew)); exact HO_53.out⟩, ⟨by repeat (first | (with_reducible first | exact HB.out | apply below_alloc | apply pw_below_drewN | apply below_drew1) | exact HB.out)⟩⟩
                              · rw [if_neg c33] at H
                                exact absurd H (by simp)
                            · replace c32 := Bool.eq_false_iff.mpr c32
                              subst c32
                              have H1 : (some (([] : List Int), 6)) = some (r1, r2) := by rw [if_neg (show ¬ (false = true) by decide)] at H; exact H
                              clear H
                              have H := H1
                              clear H1
                              simp only [Option.some.injEq, Prod.mk.injEq] at H
                              obtain ⟨rfl, rfl⟩ := H
                              have p208 : 0 ≤ (x55_3 : Int) := of_decide_eq_true (by first | (with_reducible assumption) | assumption)
                              have q208 : x55_3 < (x10_20.length : Int) := of_decide_eq_true (by first | (with_reducible assumption) | assumption)
                              obtain ⟨ad208, e208, hx208_0⟩ := Kd.at_int (Kd.R_reads' HO_53.out).2.2 x55_3 p208 q208
                              cases e208
                              replace p208 := eq_true p208
                              replace q208 := eq_true q208
                              go_wp2_with (first | (go_at_call 35; (with_reducible refine (utf8_ValidRune.calls (wrap32 (rd x10_20 x55_3)) false _ A31.out).mono ?_); rintro e w' ⟨rfl, ⟨nd, rfl⟩⟩))
                              go_ret2
                              exact ⟨_, by first | rfl | (simp [errW_none, errW_some] <;> rfl) | (simp [*, errW_none, errW_some] <;> rfl), by first | exact Kd.R_nil _ _ _ _ _ | exact Kd.N_nil _ _ _ _ _ | exact Kd.V_nil _ _ _ _ _ | exact Kd.Q_nil _ _ _ _ _ | exact Kd.S_nil _ _ _ _ _, by repeat (first | (with_reducible first | exact HB.out | apply below_alloc | apply pw_below_drewN | apply below_drew1) | exact HB.out)⟩
                        · rw [if_neg c29] at H
                          exact absurd H (by simp)
                      · rw [if_neg c28] at H
                        exact absurd H (by simp)
                    · rw [if_neg c27] at H
                      have c27b0 : decide (x55_3 < (x10_20.length : Int)) = false := decide_eq_false c27
                      clear c27
                      by_cases c35 : x11_20 = true
                      · subst c35
                        have H1 : (some (x2_3, 0)) = some (r1, r2) := by rw [if_pos rfl] at H; exact H
                        clear H
                        have H := H1
                        clear H1
                        simp only [Option.some.injEq, Prod.mk.injEq] at H
                        obtain ⟨rfl, rfl⟩ := H
                        go_wp2
                        go_ret2
                        exact ⟨_, by first | rfl | (simp [errW_none, errW_some] <;> rfl) | (simp [*, errW_none, errW_some] <;> rfl), by (with_reducible repeat (first | apply Kd.R_alloc | apply Kd.R_drewN | apply Kd.R_drew)); exact HO_2.out, by repeat (first | (with_reducible first | exact HB.out | apply below_alloc | apply pw_below_drewN | apply below_drew1) | exact HB.out)⟩
                      · replace c35 := Bool.eq_false_iff.mpr c35
                        subst c35
                        have H1 : (some (([] : List Int), 6)) = some (r1, r2) := by rw [if_neg (show ¬ (false = true) by decide)] at H; exact H
                        clear H
                        have H := H1
                        clear H1
                        simp only [Option.some.injEq, Prod.mk.injEq] at H
                        obtain ⟨rfl, rfl⟩ := H
                        go_wp2
                        go_ret2
                        exact ⟨_, by first | rfl | (simp [errW_none, errW_some] <;> rfl) | (simp [*, errW_none, errW_some] <;> rfl), by first | exact Kd.R_nil _ _ _ _ _ | exact Kd.N_nil _ _ _ _ _ | exact Kd.V_nil _ _ _ _ _ | exact Kd.Q_nil _ _ _ _ _ | exact Kd.S_nil _ _ _ _ _, by repeat (first | (with_reducible first | exact HB.out | apply below_alloc | apply pw_below_drewN | apply below_drew1) | exact HB.out)⟩
    · rw [if_neg c5] at H
      exact absurd H (by simp)
  · rw [if_neg c4] at H
    exact absurd H (by simp)
end Go.Proofs.YtdbkefgdeenjoaaDoor.X
end
section
namespace Go.Proofs.YtdbkefgdeenjoaaDoor.X
open Go.RowKit Go.Proofs.YtdbkefgdeenjoaaDoorW.PrintWords Go.Proofs.YtdbkefgdeenjoaaDoorW.PrintLast Go.Proofs.YtdbkefgdeenjoaaDoorW.PrintMore
attribute [local go_sem] max2_int min2_int max_two min_two max_three min_three max_four min_four
set_option linter.unusedVariables false
set_option linter.unusedSimpArgs false
def text_May.f (a0 : Int) : Option (Bool) := if a0 = 9 then (some true) else (if a0 = 10 then (some true) else (if a0 = 13 then (some true) else (if a0 = 133 then (some true) else (if a0 = 65279 then (some false) else (if a0 = 65534 then (some false) else (if a0 = 65535 then (some false) else (if a0 ≥ 32 then (if a0 < 127 then (some true) else (if a0 ≥ 160 then ((utf8_ValidRune.f a0).bind fun t213 => (some t213)) else (some false))) else (if a0 ≥ 160 then ((utf8_ValidRune.f a0).bind fun t214 => (some t214)) else (some false)))))))))
set_option maxHeartbeats 8000000 in
set_option maxRecDepth 100000 in
theorem text_May.calls (a0 : Int) (r : Bool) (w : World) (h : text_May.f a0 = some r) :
    Calls Tryd.prog 23 #[.int .i32 a0] w fun e w' => e = .returned (.bool r) ∧ Drawn0 w w' := by
  have H : (if a0 = 9 then (some true) else (if a0 = 10 then (some true) else (if a0 = 13 then (some true) else (if a0 = 133 then (some true) else (if a0 = 65279 then (some false) else (if a0 = 65534 then (some false) else (if a0 = 65535 then (some false) else (if a0 ≥ 32 then (if a0 < 127 then (some true) else (if a0 ≥ 160 then ((utf8_ValidRune.f a0).bind fun t213 => (some t213)) else (some false))) else (if a0 ≥ 160 then ((utf8_ValidRune.f a0).bind fun t214 => (some t214)) else (some false)))))))))) = some r := h
  clear h
  by_cases c2 : a0 = 9
  · rw [if_pos c2] at H
    have c2b0 : (a0 == 9) = true := beq_iff_eq.mpr c2
    have c2b1 : (a0 != 9) = false := bne_eq_false_iff_eq.mpr c2
    clear c2
    obtain rfl := Option.some.inj H
    go_enter Tryd.func23, Tryd.ntmps23
    go_wp2
    go_ret
    exact ⟨by first | rfl | (simp; done) | (simp [*]; done) | (simp [xbne_nil, xbeq_nil]; done), by repeat (first | exact Drawn0.refl _ | apply Drawn0.step)⟩
  · rw [if_neg c2] at H
    have c2b0 : (a0 == 9) = false := beq_eq_false_iff_ne.mpr c2
    have c2b1 : (a0 != 9) = true := bne_iff_ne.mpr c2
    by_cases c3 : a0 = 10
    · rw [if_pos c3] at H
      have c3b0 : (a0 == 10) = true := beq_iff_eq.mpr c3
      have c3b1 : (a0 != 10) = false := bne_eq_false_iff_eq.mpr c3
      clear c3
      obtain rfl := Option.some.inj H
      go_enter Tryd.func23, Tryd.ntmps23
      go_wp2
      go_ret
      exact ⟨by first | rfl | (simp; done) | (simp [*]; done) | (simp [xbne_nil, xbeq_nil]; done), by repeat (first | exact Drawn0.refl _ | apply Drawn0.step)⟩
    · rw [if_neg c3] at H
      have c3b0 : (a0 == 10) = false := beq_eq_false_iff_ne.mpr c3
      have c3b1 : (a0 != 10) = true := bne_iff_ne.mpr c3
      by_cases c4 : a0 = 13
      · rw [if_pos c4] at H
        have c4b0 : (a0 == 13) = true := beq_iff_eq.mpr c4
        have c4b1 : (a0 != 13) = false := bne_eq_false_iff_eq.mpr c4
        clear c4
        obtain rfl := Option.some.inj H
        go_enter Tryd.func23, Tryd.ntmps23
        go_wp2
        go_ret
        exact ⟨by first | rfl | (simp; done) | (simp [*]; done) | (simp [xbne_nil, xbeq_nil]; done), by repeat (first | exact Drawn0.refl _ | apply Drawn0.step)⟩
      · rw [if_neg c4] at H
        have c4b0 : (a0 == 13) = false := beq_eq_false_iff_ne.mpr c4
        have c4b1 : (a0 != 13) = true := bne_iff_ne.mpr c4
        by_cases c5 : a0 = 133
        · rw [if_pos c5] at H
          have c5b0 : (a0 == 133) = true := beq_iff_eq.mpr c5
          have c5b1 : (a0 != 133) = false := bne_eq_false_iff_eq.mpr c5
          clear c5
          obtain rfl := Option.some.inj H
          go_enter Tryd.func23, Tryd.ntmps23
          go_wp2
          go_ret
          exact ⟨by first | rfl | (simp; done) | (simp [*]; done) | (simp [xbne_nil, xbeq_nil]; done), by repeat (first | exact Drawn0.refl _ | apply Drawn0.step)⟩
        · rw [if_neg c5] at H
          have c5b0 : (a0 == 133) = false := beq_eq_false_iff_ne.mpr c5
          have c5b1 : (a0 != 133) = true := bne_iff_ne.mpr c5
          by_cases c6 : a0 = 65279
          · rw [if_pos c6] at H
            have c6b0 : (a0 == 65279) = true := beq_iff_eq.mpr c6
            have c6b1 : (a0 != 65279) = false := bne_eq_false_iff_eq.mpr c6
            clear c6
            obtain rfl := Option.some.inj H
            go_enter Tryd.func23, Tryd.ntmps23
            go_wp2
            go_ret
            exact ⟨by first | rfl | (simp; done) | (simp [*]; done) | (simp [xbne_nil, xbeq_nil]; done), by repeat (first | exact Drawn0.refl _ | apply Drawn0.step)⟩
          · rw [if_neg c6] at H
            have c6b0 : (a0 == 65279) = false := beq_eq_false_iff_ne.mpr c6
            have c6b1 : (a0 != 65279) = true := bne_iff_ne.mpr c6
            by_cases c7 : a0 = 65534
            · rw [if_pos c7] at H
              have c7b0 : (a0 == 65534) = true := beq_iff_eq.mpr c7
              have c7b1 : (a0 != 65534) = false := bne_eq_false_iff_eq.mpr c7
              clear c7
              obtain rfl := Option.some.inj H
              go_enter Tryd.func23, Tryd.ntmps23
              go_wp2
              go_ret
              exact ⟨by first | rfl | (simp; done) | (simp [*]; done) | (simp [xbne_nil, xbeq_nil]; done), by repeat (first | exact Drawn0.refl _ | apply Drawn0.step)⟩
            · rw [if_neg c7] at H
              have c7b0 : (a0 == 65534) = false := beq_eq_false_iff_ne.mpr c7
              have c7b1 : (a0 != 65534) = true := bne_iff_ne.mpr c7
              by_cases c8 : a0 = 65535
              · rw [if_pos c8] at H
                have c8b0 : (a0 == 65535) = true := beq_iff_eq.mpr c8
                have c8b1 : (a0 != 65535) = false := bne_eq_false_iff_eq.mpr c8
                clear c8
                obtain rfl := Option.some.inj H
                go_enter Tryd.func23, Tryd.ntmps23
                go_wp2
                go_ret
                exact ⟨by first | rfl | (simp; done) | (simp [*]; done) | (simp [xbne_nil, xbeq_nil]; done), by repeat (first | exact Drawn0.refl _ | apply Drawn0.step)⟩
              · rw [if_neg c8] at H
                have c8b0 : (a0 == 65535) = false := beq_eq_false_iff_ne.mpr c8
                have c8b1 : (a0 != 65535) = true := bne_iff_ne.mpr c8
                by_cases c9 : a0 ≥ 32
                · rw [if_pos c9] at H
                  have c9b0 : decide (32 ≤ a0) = true := decide_eq_true c9
                  clear c9
                  by_cases c10 : a0 < 127
                  · rw [if_pos c10] at H
                    have c10b0 : decide (a0 < 127) = true := decide_eq_true c10
                    clear c10
                    obtain rfl := Option.some.inj H
                    go_enter Tryd.func23, Tryd.ntmps23
                    go_wp2
                    go_ret
                    exact ⟨by first | rfl | (simp; done) | (simp [*]; done) | (simp [xbne_nil, xbeq_nil]; done), by repeat (first | exact Drawn0.refl _ | apply Drawn0.step)⟩
                  · rw [if_neg c10] at H
                    have c10b0 : decide (a0 < 127) = false := decide_eq_false c10
                    clear c10
                    by_cases c11 : a0 ≥ 160
                    · rw [if_pos c11] at H
                      have c11b0 : decide (160 ≤ a0) = true := decide_eq_true c11
                      clear c11
                      replace H := Option.bind_eq_some_iff.mp H
                      obtain ⟨t213, A120, H⟩ := H
                      replace H : (some t213) = some r := H
                      have A12 := Aside0.mk A120
                      clear A120
                      obtain rfl := Option.some.inj H
                      go_enter Tryd.func23, Tryd.ntmps23
                      go_wp2_with (first | (go_at_call 35; (with_reducible refine (utf8_ValidRune.calls a0 t213 _ A12.out).mono ?_); rintro e w' ⟨rfl, ⟨nd, rfl⟩⟩))
                      go_ret
                      exact ⟨by first | rfl | (simp; done) | (simp [*]; done) | (simp [xbne_nil, xbeq_nil]; done), by repeat (first | exact Drawn0.refl _ | apply Drawn0.step)⟩
                    · rw [if_neg c11] at H
                      have c11b0 : decide (160 ≤ a0) = false := decide_eq_false c11
                      clear c11
                      obtain rfl := Option.some.inj H
                      go_enter Tryd.func23, Tryd.ntmps23
                      go_wp2
                      go_ret
                      exact ⟨by first | rfl | (simp; done) | (simp [*]; done) | (simp [xbne_nil, xbeq_nil]; done), by repeat (first | exact Drawn0.refl _ | apply Drawn0.step)⟩
                · rw [if_neg c9] at H
                  have c9b0 : decide (32 ≤ a0) = false := decide_eq_false c9
                  clear c9
                  by_cases c13 : a0 ≥ 160
                  · rw [if_pos c13] at H
                    have c13b0 : decide (160 ≤ a0) = true := decide_eq_true c13
                    clear c13
                    replace H := Option.bind_eq_some_iff.mp H
                    obtain ⟨t214, A140, H⟩ := H
                    replace H : (some t214) = some r := H
                    have A14 := Aside0.mk A140
                    clear A140
                    obtain rfl := Option.some.inj H
                    go_enter Tryd.func23, Tryd.ntmps23
                    go_wp2_with (first | (go_at_call 35; (with_reducible refine (utf8_ValidRune.calls a0 t214 _ A14.out).mono ?_); rintro e w' ⟨rfl, ⟨nd, rfl⟩⟩))
                    go_ret
                    exact ⟨by first | rfl | (simp; done) | (simp [*]; done) | (simp [xbne_nil, xbeq_nil]; done), by repeat (first | exact Drawn0.refl _ | apply Drawn0.step)⟩
                  · rw [if_neg c13] at H
                    have c13b0 : decide (160 ≤ a0) = false := decide_eq_false c13
                    clear c13
                    obtain rfl := Option.some.inj H
                    go_enter Tryd.func23, Tryd.ntmps23
                    go_wp2
                    go_ret
                    exact ⟨by first | rfl | (simp; done) | (simp [*]; done) | (simp [xbne_nil, xbeq_nil]; done), by repeat (first | exact Drawn0.refl _ | apply Drawn0.step)⟩
def text_Clean.go : List Int → List UInt8 → Option (ByteArray × Int)
  | [], out => some ((⟨out.toArray⟩ : ByteArray), 0)
  | r :: t, out => (text_May.f r).bind fun m => (if m = true then (if r = 13 then (if t.head? = some 10 then text_Clean.go t out else text_Clean.go t (out ++ [10])) else (if -2147483648 ≤ r ∧ r ≤ 2147483647 then text_Clean.go t (out ++ Lib.encodeRune r) else none)) else some ((⟨#[]⟩ : ByteArray), 7))
def text_Clean.f (l0 : List Int) : Option (ByteArray × Int) := if l0.length ≤ 4294967296 then text_Clean.go l0 [] else none
theorem text_Clean.rd_drop (l : List Int) (i : Int) (h0 : 0 ≤ i) (h1 : i < (l.length : Int)) : l.drop i.toNat = rd l i :: l.drop (i + 1).toNat := by
  have hl : i.toNat < l.length := by omega
  rw [List.drop_eq_getElem_cons hl, show (i + 1).toNat = i.toNat + 1 from by omega]
  unfold rd
  rw [List.getD_eq_getElem?_getD, List.getElem?_eq_getElem hl]; rfl
theorem text_Clean.bld_drewN {T e : TypeId} {B b : Nat} {bs : List Value} {w : World} (h : Lib.IsBuilderF T e B b bs w) (n : Nat) : Lib.IsBuilderF T e B b bs (w.drewN n) := h
set_option maxHeartbeats 4000000 in
set_option maxRecDepth 100000 in
theorem text_Clean.calls (A0 : Option Addr) (c0 : Nat) (l0 : List Int) (r1 : ByteArray) (r2 : Int) (w : World) (hr0 : Kd.C (Kd.int .i32) w A0 l0.length l0) (_hc0 : l0.length ≤ c0) (h : text_Clean.f l0 = some (r1, r2)) :
    Calls Tryd.prog 21 #[.slice A0 l0.length c0] w fun e w' => e = .returned (.tuple #[.string r1, .int .i64 r2]) ∧ Below w.heap.size w w' := by
  unfold text_Clean.f at h
  by_cases hlen : l0.length ≤ 4294967296
  case neg => rw [if_neg hlen] at h; cases h
  rw [if_pos hlen] at h
  have HR0 := Aside0.mk hr0
  have HL := Aside0.mk hlen
  have HG := Aside0.mk h
  clear hr0 hlen h
  have hnew : Aside0 (Lib.IsBuilderF 78 5 w.heap.size w.heap.size (Lib.byteCells []) (w.alloc (.cells #[.pointer none, .slice none 0 0] 78))) := ⟨Lib.IsBuilderF.of (Lib.fresh_isBuilder 78 5 w)⟩
  go_enter Tryd.func21, Tryd.ntmps21
  go_wp2
  go_loopw [9] (fun v9 wr => ∃ (i : Int) (out : List UInt8), v9 = .int .i64 i ∧ Aside0 (0 ≤ i ∧ i ≤ (l0.length : Int)) ∧ Aside0 (text_Clean.go (l0.drop i.toNat) out = some (r1, r2)) ∧ Aside0 ((out.length : Int) ≤ 4 * i) ∧ Aside0 (Lib.IsBuilderF 78 5 w.heap.size w.heap.size (Lib.byteCells out) wr) ∧ Aside0 (Below w.heap.size w wr)) (fun v9 _ => l0.length - (intOf v9).toNat)
  case atStart => exact ⟨0, [], rfl, ⟨by omega⟩, HG, ⟨by simp⟩, hnew, ⟨(Below.refl _ _).alloc (Nat.le_refl _) _⟩⟩
  case round =>
    obtain ⟨i, out, rfl, HI, HA, HO, HBl, HB⟩ := hrel
    by_cases c2 : i < (l0.length : Int)
    · have c2b0 : decide (i < (l0.length : Int)) = true := decide_eq_true c2
      have hd := text_Clean.rd_drop l0 i HI.out.1 c2
      have H := HA.out
      rw [hd] at H
      clear HA hd
      simp only [text_Clean.go] at H
      obtain ⟨m, A20, H⟩ := Option.bind_eq_some_iff.mp H
      have A2 := Aside0.mk A20
      clear A20
      have p4 := HI.out.1
      obtain ⟨ad4, e4, hx4⟩ := Kd.at_int HR0.out i p4 c2
      cases e4
      replace hx4 := (HB.out.cell (World.block_lt_of_cell? w _ hx4)).trans hx4
      have hn1 : Aside0 (wrap64 (i + 1) = i + 1) := ⟨by have := HL.out; unfold wrap64; omega⟩
      have p4b : (0 ≤ i) = True := eq_true p4
      have q4b : (i < (l0.length : Int)) = True := eq_true c2
      have HI2 := Aside0.mk c2
      clear p4
      cases m with
      | false =>
        rw [if_neg (by decide)] at H
        simp only [Option.some.injEq, Prod.mk.injEq] at H
        obtain ⟨rfl, rfl⟩ := H
        go_wp2_with (go_at_call 23; (with_reducible refine (text_May.calls _ false _ A2.out).mono ?_); rintro e w' ⟨rfl, ⟨nd, rfl⟩⟩)
        go_ret2
        exact ⟨rfl, pw_below_drewN HB.out _⟩
      | true =>
        rw [if_pos rfl] at H
        by_cases c5 : rd l0 i = 13
        · rw [if_pos c5] at H
          have c5b0 : (rd l0 i == 13) = true := beq_iff_eq.mpr c5
          have C5 := Aside0.mk c5
          clear c5
          by_cases c6 : i + 1 < (l0.length : Int)
          · have c6b0 : decide (wrap64 (i + 1) < (l0.length : Int)) = true := by rw [hn1.out]; exact decide_eq_true c6
            obtain ⟨ad7, e7, hx7⟩ := Kd.at_int HR0.out (i + 1) (by have := HI.out; omega) c6
            cases e7
            replace hx7 := (HB.out.cell (World.block_lt_of_cell? w _ hx7)).trans hx7
            rw [show (i + 1).toNat = (wrap64 (i + 1)).toNat from by rw [hn1.out]] at hx7
            have hh : (l0.drop (i + 1).toNat).head? = some (rd l0 (i + 1)) := by rw [text_Clean.rd_drop l0 (i + 1) (by have := HI.out; omega) c6]; rfl
            rw [hh] at H
            have p7b : (0 ≤ wrap64 (i + 1)) = True := eq_true (by rw [hn1.out]; have := HI.out; omega)
            have q7b : (wrap64 (i + 1) < (l0.length : Int)) = True := eq_true (by rw [hn1.out]; exact c6)
            clear hh c6
            by_cases c8 : rd l0 (i + 1) = 10
            · rw [if_pos (by rw [c8])] at H
              have c8b0 : (rd l0 (i + 1) == 10) = true := beq_iff_eq.mpr c8
              have H' := Aside0.mk H
              clear H c8
              go_wp2_with (go_at_call 23; (with_reducible refine (text_May.calls _ true _ A2.out).mono ?_); rintro e w' ⟨rfl, ⟨nd, rfl⟩⟩)
              go_roundw
              case rel => exact ⟨wrap64 (i + 1), out, rfl, ⟨by rw [hn1.out]; have := HI.out; have := HI2.out; omega⟩, by rw [hn1.out]; exact H', ⟨by rw [hn1.out]; have := HO.out; omega⟩, HBl, ⟨pw_below_drewN HB.out _⟩⟩
              case measure => simp only [intOf]; rw [hn1.out]; have := HI.out; have := HI2.out; omega
            · rw [if_neg (by intro e; exact c8 (Option.some.inj e))] at H
              have c8b0 : (rd l0 (i + 1) == 10) = false := beq_eq_false_iff_ne.mpr c8
              clear c8
              have H' := Aside0.mk H
              clear H
              go_wp2_with (go_at_call 23; (with_reducible refine (text_May.calls _ true _ A2.out).mono ?_); rintro e w' ⟨rfl, ⟨nd, rfl⟩⟩)
              have hlen' : (Lib.byteCells out).length + 4 ≤ 140737488355328 := by rw [Lib.byteCells_length]; have := HO.out; have := HI.out; have := HL.out; omega
              have hsz' : w.heap.size ≤ (wr.drewN nd).heap.size := HB.out.size
              refine (Bld.byte w.heap.size w.heap.size (Lib.byteCells out) 10 (wr.drewN nd) (text_Clean.bld_drewN HBl.out nd) (by omega) hsz').mono ?_
              rintro e w' ⟨rfl, hbl', hb'⟩
              go_wp2
              go_roundw
              case rel => exact ⟨wrap64 (i + 1), out ++ [10], rfl, ⟨by rw [hn1.out]; have := HI.out; have := HI2.out; omega⟩, by rw [hn1.out]; exact H', ⟨by rw [hn1.out, List.length_append]; have := HO.out; simp; omega⟩, ⟨by rw [Lib.byteCells_append]; exact Or.inr hbl'⟩, ⟨(pw_below_drewN HB.out _).trans hb'⟩⟩
              case measure => simp only [intOf]; rw [hn1.out]; have := HI.out; have := HI2.out; omega
          · have c6b0 : decide (wrap64 (i + 1) < (l0.length : Int)) = false := by rw [hn1.out]; exact decide_eq_false c6
            have hdn : Aside0 (l0.drop (i + 1).toNat = []) := ⟨List.drop_eq_nil_of_le (show l0.length ≤ (i + 1).toNat from by have := HI.out; omega)⟩
            rw [hdn.out] at H
            rw [if_neg (by simp)] at H
            clear c6
            have H' := Aside0.mk H
            clear H
            go_wp2_with (go_at_call 23; (with_reducible refine (text_May.calls _ true _ A2.out).mono ?_); rintro e w' ⟨rfl, ⟨nd, rfl⟩⟩)
            have hlen' : (Lib.byteCells out).length + 4 ≤ 140737488355328 := by rw [Lib.byteCells_length]; have := HO.out; have := HI.out; have := HL.out; omega
            have hsz' : w.heap.size ≤ (wr.drewN nd).heap.size := HB.out.size
            refine (Bld.byte w.heap.size w.heap.size (Lib.byteCells out) 10 (wr.drewN nd) (text_Clean.bld_drewN HBl.out nd) (by omega) hsz').mono ?_
            rintro e w' ⟨rfl, hbl', hb'⟩
            go_wp2
            go_roundw
            case rel => exact ⟨wrap64 (i + 1), out ++ [10], rfl, ⟨by rw [hn1.out]; have := HI.out; have := HI2.out; omega⟩, by rw [hn1.out, hdn.out]; exact H', ⟨by rw [hn1.out, List.length_append]; have := HO.out; simp; omega⟩, ⟨by rw [Lib.byteCells_append]; exact Or.inr hbl'⟩, ⟨(pw_below_drewN HB.out _).trans hb'⟩⟩
            case measure => simp only [intOf]; rw [hn1.out]; have := HI.out; have := HI2.out; omega
        · rw [if_neg c5] at H
          have c5b0 : (rd l0 i == 13) = false := beq_eq_false_iff_ne.mpr c5
          clear c5
          by_cases c9 : -2147483648 ≤ rd l0 i ∧ rd l0 i ≤ 2147483647
          · rw [if_pos c9] at H
            have H' := Aside0.mk H
            have C9 := Aside0.mk c9
            clear H c9
            go_wp2_with (go_at_call 23; (with_reducible refine (text_May.calls _ true _ A2.out).mono ?_); rintro e w' ⟨rfl, ⟨nd, rfl⟩⟩)
            have hlen' : (Lib.byteCells out).length + 4 ≤ 140737488355328 := by rw [Lib.byteCells_length]; have := HO.out; have := HI.out; have := HL.out; omega
            have hsz' : w.heap.size ≤ (wr.drewN nd).heap.size := HB.out.size
            refine (Bld.rune w.heap.size w.heap.size (Lib.byteCells out) (rd l0 i) C9.out.1 C9.out.2 (wr.drewN nd) (text_Clean.bld_drewN HBl.out nd) hlen' hsz').mono ?_
            rintro e w' ⟨rfl, hbl', hb'⟩
            go_wp2
            go_roundw
            case rel => exact ⟨wrap64 (i + 1), out ++ Lib.encodeRune (rd l0 i), rfl, ⟨by rw [hn1.out]; have := HI.out; have := HI2.out; omega⟩, by rw [hn1.out]; exact H', ⟨by rw [hn1.out, List.length_append]; have := HO.out; have h4 := (Lib.runeCells_le (rd l0 i)).2; rw [Lib.runeCells_length] at h4; omega⟩, ⟨by rw [Lib.byteCells_append, Lib.byteCells_encodeRune]; exact Or.inr hbl'⟩, ⟨(pw_below_drewN HB.out _).trans hb'⟩⟩
            case measure => simp only [intOf]; rw [hn1.out]; have := HI.out; have := HI2.out; omega
          · rw [if_neg c9] at H; cases H
    · have c2b0 : decide (i < (l0.length : Int)) = false := decide_eq_false c2
      have H := HA.out
      rw [List.drop_eq_nil_of_le (by have := HI.out; omega)] at H
      simp only [text_Clean.go, Option.some.injEq, Prod.mk.injEq] at H
      obtain ⟨rfl, rfl⟩ := H
      clear HA c2
      go_wp2_with (go_at_call 46; (with_reducible refine (Tryd.Builder_String_any_f _ _ out _ HBl.out (by have := HB.out.size; omega)).mono ?_); rintro e w' ⟨rfl, hbs, hb'⟩)
      go_ret2
      exact ⟨rfl, HB.out.trans hb'⟩
end Go.Proofs.YtdbkefgdeenjoaaDoor.X
end
