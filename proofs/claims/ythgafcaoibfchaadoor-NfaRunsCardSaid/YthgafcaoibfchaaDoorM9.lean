/- Words and walks that the row of NfaRuns needs: printed by programs, and plain laws. -/
import Derived.Test.YthgafcaoibfchaaDoorM5
import Derived.Test.YthgafcaoibfchaaDoorM7
import Derived.Test.YthgafcaoibfchaaDoorM8
import Derived.Test.YthgafcaoibfchaaDoorM2
import Derived.Test.YthgafcaoibfchaaDoorM3
namespace Go.Proofs.YthgafcaoibfchaaDoorW.PrintWords
end Go.Proofs.YthgafcaoibfchaaDoorW.PrintWords
namespace Go.Proofs.YthgafcaoibfchaaDoorW.PrintLast
end Go.Proofs.YthgafcaoibfchaaDoorW.PrintLast
namespace Go.Proofs.YthgafcaoibfchaaDoorW.PrintMore
end Go.Proofs.YthgafcaoibfchaaDoorW.PrintMore
section
namespace Go.Proofs.YthgafcaoibfchaaDoor.X
open Go.RowKit Go.Shelf Go.Proofs Go.Proofs.YthgafcaoibfchaaDoorW.PrintWords Go.Proofs.YthgafcaoibfchaaDoorW.PrintLast Go.Proofs.YthgafcaoibfchaaDoorW.PrintMore
set_option linter.unusedVariables false
set_option linter.unusedSimpArgs false
set_option maxHeartbeats 4000000 in
set_option maxRecDepth 100000 in
theorem Nfa.alive_calls  (w : World) (hT : Tabs.Holds w) : Calls Tryd.prog 35 #[] w fun e w' => e = .returned (.bool true) ∧ Below w.heap.size w w' := by
 have hu115 := Tryd.underlying115
 refine Eng.enter Tryd.func35 rfl fun act0 d0 s0 v0 => ?_
 have s0 : act0.tmps.size = 89 := s0
 clear v0
 have bl0 : Below w.heap.size w w := Below.refl _ _
 refine wp_seq ?_
 refine Eng.regionS (Eng.still [fun u_ => u_ = .bool false]) (fun _ => .plain) 1 0 89 s0 rfl (by kernel_rfl) (Eng.still_stable _) (Or.inr (Eng.still_any _)) ?_ ?_
 ·refine Eng.Steps.cons (fun _ => ?_) (Eng.Steps.nil)
  ·refine Eng.plain rfl rfl fun a w' H => ?_
   exact Eng.val (w1 := w') (v := .bool false) (Eng.run_assign rfl (rfl : a.eval (.const (.bool false)) = .bool false)) (Below.refl _ _) rfl
 intro act1 w1 T
 have d1 := T.defers.trans d0
 have s1 := T.size.trans s0
 have bl1 := bl0.trans (T.below.mono bl0.size)
 clear T
 refine Eng.tail_nil ?_
 refine wp_seq ?_
 refine (wpIn_wide (n := 1)).1 ?_
 refine EngI.regionT (n := 12) rfl ?_
 refine EngI.tail_val (w1 := w1) (v := .agg #[.int .i64 0, .string ⟨#[97]⟩]) EngI.free_wide rfl rfl rfl rfl ?_ s1 rfl ?_
 ·have e0 : act1.eval (.const (.string ⟨#[97]⟩)) = .string ⟨#[97]⟩ := (rfl : act1.eval (.const (.string ⟨#[97]⟩)) = .string ⟨#[97]⟩)
  simp only [execOp, resolve, e0]
  go_simp
 intro act2 d2 s2 hv hr
 have h9_2 : act2.eval (.tmp 9) = .agg #[.int .i64 0, .string ⟨#[97]⟩] := hv
 have d2 := d2.trans d1
 clear hv hr
 refine EngI.tail_ex EngI.free_wide rfl rfl rfl rfl (Eng.run_build1I (size := 2) (z := .agg #[.int .i64 0, .string ⟨#[]⟩]) [.int .i64 0, .string ⟨#[97]⟩] rfl Tryd.underlying82 (by kernel_rfl) rfl rfl rfl (by kernel_rfl) (show act2.eval (.tmp 9) = .agg #[.int .i64 0, .string ⟨#[97]⟩] from h9_2)) s2 rfl fun v_3 w3 act3 R d3 s3 hv hr => ?_
 obtain ⟨F_3, b_3⟩ := R
 have h10_3 : act3.eval (.tmp 10) = v_3 := hv
 have d3 := d3.trans d2
 clear hv hr
 have bl3 := bl1.trans (b_3.mono bl1.size)
 refine EngI.tail_val (w1 := w3) (v := .agg #[.int .i64 2, .string ⟨#[]⟩]) EngI.free_wide rfl rfl rfl rfl ?_ s3 rfl ?_
 ·have e0 : act3.eval (.const (.int .i64 2)) = .int .i64 2 := (rfl : act3.eval (.const (.int .i64 2)) = .int .i64 2)
  simp only [execOp, resolve, e0]
  go_simp
 intro act4 d4 s4 hv hr
 have h10_4 := (hr 10 rfl).trans h10_3
 have h11_4 : act4.eval (.tmp 11) = .agg #[.int .i64 2, .string ⟨#[]⟩] := hv
 have d4 := d4.trans d3
 clear hv hr
 refine EngI.tail_ex EngI.free_wide rfl rfl rfl rfl (Eng.run_build1I (size := 2) (z := .agg #[.int .i64 0, .string ⟨#[]⟩]) [.int .i64 2, .string ⟨#[]⟩] rfl Tryd.underlying82 (by kernel_rfl) rfl rfl rfl (by kernel_rfl) (show act4.eval (.tmp 11) = .agg #[.int .i64 2, .string ⟨#[]⟩] from h11_4)) s4 rfl fun v_5 w5 act5 R d5 s5 hv hr => ?_
 obtain ⟨F_5, b_5⟩ := R
 have h10_5 := (hr 10 rfl).trans h10_4
 have h12_5 : act5.eval (.tmp 12) = v_5 := hv
 have d5 := d5.trans d4
 clear hv hr
 have Fb10_5 := Eng.Reads.below F_3 b_5
 have bl5 := bl3.trans (b_5.mono bl3.size)
 refine EngI.tail_ex EngI.free_wide rfl rfl rfl rfl (Eng.run_buildN1 (z := .slice none 0 0) [v_3, v_5] rfl Tryd.underlying62 (by kernel_rfl) rfl rfl rfl rfl (by intro v hv; simp only [List.mem_cons, List.not_mem_nil, or_false] at hv; rcases hv with h | h <;> rw [h] <;> first | exact (Eng.Reads.cells1 Fb10_5) | exact (Eng.Reads.cells1 F_5)) (by have e0 : act5.eval (.tmp 10) = v_3 := h10_5; have e1 : act5.eval (.tmp 12) = v_5 := h12_5; simp [e0, e1])) s5 rfl fun v_6 w6 act6 R d6 s6 hv hr => ?_
 obtain ⟨F_6, b_6⟩ := R
 have h13_6 : act6.eval (.tmp 13) = v_6 := hv
 have d6 := d6.trans d5
 clear hv hr
 have Fb10_6 := Eng.Reads.below Fb10_5 b_6
 have Fb12_6 := Eng.Reads.below F_5 b_6
 have bl6 := bl5.trans (b_6.mono bl5.size)
 refine EngI.tail_call EngI.free_wide Tryd.func36 (by kernel_rfl) (by kernel_rfl) rfl rfl rfl rfl #[v_6] (by have e0 : act6.eval (.tmp 13) = v_6 := h13_6; simp only [List.map_toArray, List.map_cons, List.map_nil, e0]) s6 rfl (R := fun v w' => ∃ pv bv vs m, v = .tuple #[.agg #[pv, bv, .int .i64 m], .int .i64 (Nfa.code Al.ps1)] ∧ (Nfa.Slc pv ∧ Nfa.Slc bv) ∧ Nfa.Made w6.heap.size pv bv Al.ps1 vs m w' ∧ Below w6.heap.size w6 w') ((Nfa.make_calls v_6 Al.ps1 ([v_3, v_5]) _ rfl F_6 (Nfa.two_rows Fb10_6 Fb12_6) Al.hsz1 (by decide) Al.hst1 (Tabs.below hT bl6)).mono ?_) fun v_7 w7 act7 R d7 s7 hv hr => ?_
 ·rintro e w1 ⟨pv, bv, vs, m, rfl, h1, h2, h3⟩; exact ⟨_, rfl, pv, bv, vs, m, rfl, h1, h2, h3⟩
 have h14_7 : act7.eval (.tmp 14) = v_7 := hv
 have d7 := d7.trans d6
 clear hv hr
 obtain ⟨pv, bv, vs, m, hv1_7, ⟨hsl0_7, hsl1_7⟩, hM_7, hb7⟩ := R
 have hMm_7 := Nfa.Made.mono hM_7 bl6.size
 clear hM_7
 have bl7 := bl6.trans (hb7.mono bl6.size)
 rw [hv1_7] at h14_7
 have hT0 := (hMm_7 Al.code1).1
 have hm4 := (hMm_7 Al.code1).2.trans Al.many1
 rw [Al.begs1] at hT0
 rw [Al.code1] at h14_7
 subst hm4
 refine EngI.tail_val EngI.free_wide rfl rfl rfl rfl (Eng.run_move rfl h14_7) s7 rfl fun act8 d8 s8 hv hr => ?_
 have h8_8 : act8.eval (.tmp 8) = .tuple #[.agg #[pv, bv, .int .i64 4], .int .i64 0] := hv
 have d8 := d8.trans d7
 clear hv hr
 refine EngI.tail_val (w1 := w7) (v := .agg #[pv, bv, .int .i64 (4 : Int)]) EngI.free_wide rfl rfl rfl rfl ?_ s8 rfl ?_
 ·have e0 : act8.eval (.tmp 8) = .tuple #[.agg #[pv, bv, .int .i64 4], .int .i64 0] := h8_8
  simp only [execOp, resolve, e0]
  go_simp
 intro act9 d9 s9 hv hr
 have h8_9 := (hr 8 rfl).trans h8_8
 have h15_9 : act9.eval (.tmp 15) = .agg #[pv, bv, .int .i64 (4 : Int)] := hv
 have d9 := d9.trans d8
 clear hv hr
 refine EngI.tail_val (w1 := w7) (v := .int .i64 (0 : Int)) EngI.free_wide rfl rfl rfl rfl ?_ s9 rfl ?_
 ·have e0 : act9.eval (.tmp 8) = .tuple #[.agg #[pv, bv, .int .i64 4], .int .i64 0] := h8_9
  simp only [execOp, resolve, e0]
  go_simp
 intro act10 d10 s10 hv hr
 have h15_10 := (hr 15 rfl).trans h15_9
 have h16_10 : act10.eval (.tmp 16) = .int .i64 (0 : Int) := hv
 have d10 := d10.trans d9
 clear hv hr
 refine EngI.tail_ex EngI.free_wide rfl rfl rfl rfl (Eng.alloc_ex (cs := #[.slice none 0 0, .slice none 0 0, .int .i64 0]) rfl (by kernel_rfl)) s10 rfl fun v_11 w11 act11 R d11 s11 hv hr => ?_
 obtain ⟨g1_11, ev_11, rg_11, lg1_11, kg1_11, b_11⟩ := R
 have h15_11 := (hr 15 rfl).trans h15_10
 have h16_11 := (hr 16 rfl).trans h16_10
 have h1_11 : act11.eval (.tmp 1) = v_11 := hv
 have d11 := d11.trans d10
 clear hv hr
 have og1_11 : w.heap.size ≤ g1_11 := Nat.le_trans bl7.size rg_11
 have Obb_11 := Eng.own_below hT0.bb b_11
 have XT_11 := Nfa.Tab.below hT0 b_11
 have bl11 := bl7.trans (b_11.mono bl7.size)
 rw [ev_11] at h1_11
 refine EngI.tail_put EngI.free_wide [pv, bv, .int .i64 (4 : Int)] (n := 0) (new := #[pv, bv, .int .i64 (4 : Int)]) rfl rfl rfl rfl kg1_11 rfl ?_ fun w12 S => ?_
 ·have e0 : act11.eval (.tmp 1) = .pointer (some ⟨g1_11, 0, none⟩) := h1_11
  have e1 : act11.eval (.tmp 15) = .agg #[pv, bv, .int .i64 (4 : Int)] := h15_11
  obtain ⟨A0_, n0_, c0_, ev0_⟩ := hsl0_7
  subst ev0_
  obtain ⟨A1_, n1_, c1_, ev1_⟩ := hsl1_7
  subst ev1_
  have z0 := (Eng.cells kg1_11 (0)).trans (rfl)
  have f0 := Eng.unfrozen kg1_11 (0)
  have z1 := (Eng.cells kg1_11 (1)).trans (rfl)
  have f1 := Eng.unfrozen kg1_11 (1)
  have z2 := (Eng.cells kg1_11 (2)).trans (rfl)
  have f2 := Eng.unfrozen kg1_11 (2)
  simp only [execOp]
  rw [e0, e1]
  go_simp
  try rfl
 have kg1_11_12 := S.new
 have lg1_11_12 := Nat.lt_of_lt_of_eq lg1_11 S.size.symm
 have bl12 := S.below bl11 og1_11
 have Obb_12 := Eng.own_sets Obb_11 S kg1_11 rfl
 have XT_12 := Nfa.Tab.sets XT_11 S kg1_11 rfl
 clear S
 refine EngI.tail_val EngI.free_wide rfl rfl rfl rfl (Eng.run_assign rfl h16_11) s11 rfl fun act13 d13 s13 hv hr => ?_
 have h1_13 := (hr 1 rfl).trans h1_11
 have h2_13 : act13.eval (.tmp 2) = .int .i64 (0 : Int) := hv
 have d13 := d13.trans d11
 clear hv hr
 refine EngI.tail_nil ?_
 refine wp_seq ?_
 refine (wpIn_wide (n := 1)).1 ?_
 refine EngI.regionT (n := 10) rfl ?_
 refine EngI.tail_val (w1 := w12) (v := .agg #[.int .i64 7, .string ⟨#[]⟩]) EngI.free_wide rfl rfl rfl rfl ?_ s13 rfl ?_
 ·have e0 : act13.eval (.const (.int .i64 7)) = .int .i64 7 := (rfl : act13.eval (.const (.int .i64 7)) = .int .i64 7)
  simp only [execOp, resolve, e0]
  go_simp
 intro act14 d14 s14 hv hr
 have h1_14 := (hr 1 rfl).trans h1_13
 have h2_14 := (hr 2 rfl).trans h2_13
 have h18_14 : act14.eval (.tmp 18) = .agg #[.int .i64 7, .string ⟨#[]⟩] := hv
 have d14 := d14.trans d13
 clear hv hr
 refine EngI.tail_ex EngI.free_wide rfl rfl rfl rfl (Eng.run_build1I (size := 2) (z := .agg #[.int .i64 0, .string ⟨#[]⟩]) [.int .i64 7, .string ⟨#[]⟩] rfl Tryd.underlying82 (by kernel_rfl) rfl rfl rfl (by kernel_rfl) (show act14.eval (.tmp 18) = .agg #[.int .i64 7, .string ⟨#[]⟩] from h18_14)) s14 rfl fun v_15 w15 act15 R d15 s15 hv hr => ?_
 obtain ⟨F_15, b_15⟩ := R
 have h1_15 := (hr 1 rfl).trans h1_14
 have h2_15 := (hr 2 rfl).trans h2_14
 have h19_15 : act15.eval (.tmp 19) = v_15 := hv
 have d15 := d15.trans d14
 clear hv hr
 have kg1_11_15 := (b_15.block _ lg1_11_12).trans kg1_11_12
 have lg1_11_15 := Nat.lt_of_lt_of_le lg1_11_12 b_15.size
 have Obb_15 := Eng.own_below Obb_12 b_15
 have XT_15 := Nfa.Tab.below XT_12 b_15
 have bl15 := bl12.trans (b_15.mono bl12.size)
 refine EngI.tail_ex EngI.free_wide rfl rfl rfl rfl (Eng.run_buildN1 (z := .slice none 0 0) [v_15] rfl Tryd.underlying62 (by kernel_rfl) rfl rfl rfl rfl (by intro v hv; have h := List.mem_singleton.1 hv; rw [h]; exact (Eng.Reads.cells1 F_15)) (by have e0 : act15.eval (.tmp 19) = v_15 := h19_15; simp [e0])) s15 rfl fun v_16 w16 act16 R d16 s16 hv hr => ?_
 obtain ⟨F_16, b_16⟩ := R
 have h1_16 := (hr 1 rfl).trans h1_15
 have h2_16 := (hr 2 rfl).trans h2_15
 have h20_16 : act16.eval (.tmp 20) = v_16 := hv
 have d16 := d16.trans d15
 clear hv hr
 have kg1_11_16 := (b_16.block _ lg1_11_15).trans kg1_11_15
 have lg1_11_16 := Nat.lt_of_lt_of_le lg1_11_15 b_16.size
 have Obb_16 := Eng.own_below Obb_15 b_16
 have Fb19_16 := Eng.Reads.below F_15 b_16
 have XT_16 := Nfa.Tab.below XT_15 b_16
 have bl16 := bl15.trans (b_16.mono bl15.size)
 refine EngI.tail_call EngI.free_wide Tryd.func36 (by kernel_rfl) (by kernel_rfl) rfl rfl rfl rfl #[v_16] (by have e0 : act16.eval (.tmp 20) = v_16 := h20_16; simp only [List.map_toArray, List.map_cons, List.map_nil, e0]) s16 rfl (R := fun v w' => ∃ pv bv vs m, v = .tuple #[.agg #[pv, bv, .int .i64 m], .int .i64 (Nfa.code Al.ps2)] ∧ (Nfa.Slc pv ∧ Nfa.Slc bv) ∧ Nfa.Made w16.heap.size pv bv Al.ps2 vs m w' ∧ Below w16.heap.size w16 w') ((Nfa.make_calls v_16 Al.ps2 ([v_15]) _ rfl F_16 (Nfa.one_row Fb19_16) Al.hsz2 (by decide) Al.hst2 (Tabs.below hT bl16)).mono ?_) fun v_17 w17 act17 R d17 s17 hv hr => ?_
 ·rintro e w1 ⟨pv, bv, vs, m, rfl, h1, h2, h3⟩; exact ⟨_, rfl, pv, bv, vs, m, rfl, h1, h2, h3⟩
 have h1_17 := (hr 1 rfl).trans h1_16
 have h2_17 := (hr 2 rfl).trans h2_16
 have h21_17 : act17.eval (.tmp 21) = v_17 := hv
 have d17 := d17.trans d16
 clear hv hr
 obtain ⟨zpv, zbv, zvs, zm, hv1_17, ⟨hsl0_17, hsl1_17⟩, hM_17, hb17⟩ := R
 have hMm_17 := Nfa.Made.mono hM_17 bl16.size
 clear hM_17
 have kg1_11_17 := (hb17.block _ lg1_11_16).trans kg1_11_16
 have lg1_11_17 := Nat.lt_of_lt_of_le lg1_11_16 hb17.size
 have Obb_17 := Eng.own_below Obb_16 hb17
 have XT_17 := Nfa.Tab.below XT_16 hb17
 have bl17 := bl16.trans (hb17.mono bl16.size)
 rw [hv1_17] at h21_17
 rw [Al.code2] at h21_17
 refine EngI.tail_val EngI.free_wide rfl rfl rfl rfl (Eng.run_move rfl h21_17) s17 rfl fun act18 d18 s18 hv hr => ?_
 have h1_18 := (hr 1 rfl).trans h1_17
 have h2_18 := (hr 2 rfl).trans h2_17
 have h17_18 : act18.eval (.tmp 17) = .tuple #[.agg #[zpv, zbv, .int .i64 zm], .int .i64 5] := hv
 have d18 := d18.trans d17
 clear hv hr
 refine EngI.tail_val (w1 := w17) (v := .agg #[zpv, zbv, .int .i64 zm]) EngI.free_wide rfl rfl rfl rfl ?_ s18 rfl ?_
 ·have e0 : act18.eval (.tmp 17) = .tuple #[.agg #[zpv, zbv, .int .i64 zm], .int .i64 5] := h17_18
  simp only [execOp, resolve, e0]
  go_simp
 intro act19 d19 s19 hv hr
 have h1_19 := (hr 1 rfl).trans h1_18
 have h2_19 := (hr 2 rfl).trans h2_18
 have h17_19 := (hr 17 rfl).trans h17_18
 have h22_19 : act19.eval (.tmp 22) = .agg #[zpv, zbv, .int .i64 zm] := hv
 have d19 := d19.trans d18
 clear hv hr
 refine EngI.tail_val (w1 := w17) (v := .int .i64 (5 : Int)) EngI.free_wide rfl rfl rfl rfl ?_ s19 rfl ?_
 ·have e0 : act19.eval (.tmp 17) = .tuple #[.agg #[zpv, zbv, .int .i64 zm], .int .i64 5] := h17_19
  simp only [execOp, resolve, e0]
  go_simp
 intro act20 d20 s20 hv hr
 have h1_20 := (hr 1 rfl).trans h1_19
 have h2_20 := (hr 2 rfl).trans h2_19
 have h22_20 := (hr 22 rfl).trans h22_19
 have h23_20 : act20.eval (.tmp 23) = .int .i64 (5 : Int) := hv
 have d20 := d20.trans d19
 clear hv hr
 refine EngI.tail_ex EngI.free_wide rfl rfl rfl rfl (Eng.alloc_ex (cs := #[.slice none 0 0, .slice none 0 0, .int .i64 0]) rfl (by kernel_rfl)) s20 rfl fun v_21 w21 act21 R d21 s21 hv hr => ?_
 obtain ⟨g3_21, ev_21, rg_21, lg3_21, kg3_21, b_21⟩ := R
 have h1_21 := (hr 1 rfl).trans h1_20
 have h2_21 := (hr 2 rfl).trans h2_20
 have h22_21 := (hr 22 rfl).trans h22_20
 have h23_21 := (hr 23 rfl).trans h23_20
 have h3_21 : act21.eval (.tmp 3) = v_21 := hv
 have d21 := d21.trans d20
 clear hv hr
 have ne_g3_21_g1_11 : g1_11 ≠ g3_21 := fun e => Nat.lt_irrefl _ (Nat.lt_of_lt_of_le (e ▸ lg1_11_17) rg_21)
 have og3_21 : w.heap.size ≤ g3_21 := Nat.le_trans bl17.size rg_21
 have kg1_11_21 := (b_21.block _ lg1_11_17).trans kg1_11_17
 have lg1_11_21 := Nat.lt_of_lt_of_le lg1_11_17 b_21.size
 have Obb_21 := Eng.own_below Obb_17 b_21
 have XT_21 := Nfa.Tab.below XT_17 b_21
 have bl21 := bl17.trans (b_21.mono bl17.size)
 rw [ev_21] at h3_21
 refine EngI.tail_put EngI.free_wide [zpv, zbv, .int .i64 zm] (n := 0) (new := #[zpv, zbv, .int .i64 zm]) rfl rfl rfl rfl kg3_21 rfl ?_ fun w22 S => ?_
 ·have e0 : act21.eval (.tmp 3) = .pointer (some ⟨g3_21, 0, none⟩) := h3_21
  have e1 : act21.eval (.tmp 22) = .agg #[zpv, zbv, .int .i64 zm] := h22_21
  obtain ⟨A0_, n0_, c0_, ev0_⟩ := hsl0_17
  subst ev0_
  obtain ⟨A1_, n1_, c1_, ev1_⟩ := hsl1_17
  subst ev1_
  have z0 := (Eng.cells kg3_21 (0)).trans (rfl)
  have f0 := Eng.unfrozen kg3_21 (0)
  have z1 := (Eng.cells kg3_21 (1)).trans (rfl)
  have f1 := Eng.unfrozen kg3_21 (1)
  have z2 := (Eng.cells kg3_21 (2)).trans (rfl)
  have f2 := Eng.unfrozen kg3_21 (2)
  simp only [execOp]
  rw [e0, e1]
  go_simp
  try rfl
 have kg1_11_22 := (S.far _ ne_g3_21_g1_11).trans kg1_11_21
 have lg1_11_22 := Nat.lt_of_lt_of_eq lg1_11_21 S.size.symm
 have bl22 := S.below bl21 og3_21
 have Obb_22 := Eng.own_sets Obb_21 S kg3_21 rfl
 have Fbb_22 := Eng.Reads.of_own Obb_22
 have XT_22 := Nfa.Tab.sets XT_21 S kg3_21 rfl
 clear S
 refine EngI.tail_val EngI.free_wide rfl rfl rfl rfl (Eng.run_assign rfl h23_21) s21 rfl fun act23 d23 s23 hv hr => ?_
 have h1_23 := (hr 1 rfl).trans h1_21
 have h2_23 := (hr 2 rfl).trans h2_21
 have h4_23 : act23.eval (.tmp 4) = .int .i64 (5 : Int) := hv
 have d23 := d23.trans d21
 clear hv hr
 refine EngI.tail_nil ?_
 refine wp_seq ?_
 refine Eng.regionD (Eng.tell [.still fun u_ => u_ = .agg #[pv, bv, .int .i64 (4 : Int)], .still fun u_ => u_ = .agg #[pv, bv, .int .i64 (4 : Int)], Eng.Tl.reads 1 1 [.string ⟨#[97]⟩], .still fun u_ => u_ = .agg ((List.map (Value.int .u64) (Nfa.run Al.ps1 Al.bs1 ([⟨#[97]⟩]))).toArray), .own w22.heap.size 3 1 (Nfa.accept Al.ps1 Al.bs1 (Nfa.run Al.ps1 Al.bs1 ([⟨#[97]⟩]))).length (Nfa.ints (Nfa.accept Al.ps1 Al.bs1 (Nfa.run Al.ps1 Al.bs1 ([⟨#[97]⟩])))), .still fun u_ => u_ = .agg #[pv, bv, .int .i64 (4 : Int)], .still fun u_ => u_ = .agg #[pv, bv, .int .i64 (4 : Int)], Eng.Tl.reads 1 1 [.string ⟨#[98]⟩], .still fun u_ => u_ = .agg ((List.map (Value.int .u64) (Nfa.run Al.ps1 Al.bs1 ([⟨#[98]⟩]))).toArray), .own w22.heap.size 3 1 (Nfa.accept Al.ps1 Al.bs1 (Nfa.run Al.ps1 Al.bs1 ([⟨#[98]⟩]))).length (Nfa.ints (Nfa.accept Al.ps1 Al.bs1 (Nfa.run Al.ps1 Al.bs1 ([⟨#[98]⟩]))))]) (fun i => ([.plain, .plain, .plain, .plain, .plain, .plain, .plain, .plain, .plain, .plain] : List Eng.Kind).getD i .plain) 10 2 89 (by kernel_rfl) s23 rfl (by kernel_rfl) (Eng.tell_stable _) (Or.inl (Eng.no_stores (by kernel_rfl))) ?_ ?_
 ·refine Eng.Steps.cons (fun _ => ?_) (Eng.Steps.cons (fun _ => ?_) (Eng.Steps.cons (fun _ => ?_) (Eng.Steps.cons (fun _ => ?_) (Eng.Steps.cons (fun _ => ?_) (Eng.Steps.cons (fun _ => ?_) (Eng.Steps.cons (fun _ => ?_) (Eng.Steps.cons (fun _ => ?_) (Eng.Steps.cons (fun _ => ?_) (Eng.Steps.cons (fun _ => ?_) (Eng.Steps.cons (fun hlt => ?_) (Eng.Steps.cons (fun hlt => ?_) (Eng.Steps.nil))))))))))))
  ·refine Eng.plain rfl rfl fun a w' H => ?_
   have kb := (H.below.block _ lg1_11_22).trans kg1_11_22
   have z0 : w'.cell? ⟨g1_11, 0, none⟩ = some (pv) := (Eng.cells kb 0).trans rfl
   have z1 : w'.cell? ⟨g1_11, 1, none⟩ = some (bv) := (Eng.cells kb 1).trans rfl
   have z2 : w'.cell? ⟨g1_11, 2, none⟩ = some (.int .i64 (4 : Int)) := (Eng.cells kb 2).trans rfl
   refine Eng.val (w1 := w') (v := .agg #[pv, bv, .int .i64 (4 : Int)]) ?_ (Below.refl _ _) rfl
   have e0 := ((H.kept 1 (by kernel_rfl)).trans h1_23)
   simp only [execOp, resolve, e0]
   go_simp
  ·refine Eng.plain rfl rfl fun a w' H => ?_
   have kb := (H.below.block _ lg1_11_22).trans kg1_11_22
   have z0 : w'.cell? ⟨g1_11, 0, none⟩ = some (pv) := (Eng.cells kb 0).trans rfl
   have z1 : w'.cell? ⟨g1_11, 1, none⟩ = some (bv) := (Eng.cells kb 1).trans rfl
   have z2 : w'.cell? ⟨g1_11, 2, none⟩ = some (.int .i64 (4 : Int)) := (Eng.cells kb 2).trans rfl
   refine Eng.val (w1 := w') (v := .agg #[pv, bv, .int .i64 (4 : Int)]) ?_ (Below.refl _ _) rfl
   have e0 := ((H.kept 1 (by kernel_rfl)).trans h1_23)
   simp only [execOp, resolve, e0]
   go_simp
  ·refine Eng.plain rfl rfl fun a w' H => ?_
   refine Eng.val_ex (Eng.run_buildN1 (z := .string ⟨#[]⟩) [.string ⟨#[97]⟩] rfl Tryd.underlying43 (by kernel_rfl) rfl rfl rfl rfl (by intro v hv; have h := List.mem_singleton.1 hv; rw [h]; exact rfl) (by have e0 : a.eval (.const (.string ⟨#[97]⟩)) = .string ⟨#[97]⟩ := (rfl : a.eval (.const (.string ⟨#[97]⟩)) = .string ⟨#[97]⟩); simp [e0])) fun v1 w'' R => ?_
   obtain ⟨F, hb⟩ := R
   exact ⟨hb, F⟩
  ·refine Eng.plain rfl rfl fun a w' H => ?_
   refine Eng.call Tryd.func40 (by kernel_rfl) (by kernel_rfl) rfl #[.agg #[pv, bv, .int .i64 (4 : Int)], (a.eval (.tmp 26))] ?_ ?_
   ·have e0 : a.eval (.tmp 25) = .agg #[pv, bv, .int .i64 (4 : Int)] := (H.dep 1 25 (by kernel_rfl) rfl); simp only [List.map_toArray, List.map_cons, List.map_nil, e0]
   refine (Nfa.run_calls pv bv 4 Al.ps1 Al.bs1 vs (a.eval (.tmp 26)) ([⟨#[97]⟩]) _ ((Nfa.Tab.below XT_22 H.below)).len ((Nfa.Tab.below XT_22 H.below)).rp ((Nfa.Tab.below XT_22 H.below)).ri ((Nfa.Tab.below XT_22 H.below)).rb (show Eng.Reads w' (a.eval (.tmp 26)) 1 1 [.string ⟨#[97]⟩] from H.dep 2 26 (by kernel_rfl) rfl)).mono ?_
   rintro e w'' ⟨rfl, hb⟩
   exact ⟨_, rfl, rfl, hb⟩
  ·refine Eng.plain rfl rfl fun a w' H => ?_
   refine Eng.call Tryd.func44 (by kernel_rfl) (by kernel_rfl) rfl #[.agg #[pv, bv, .int .i64 (4 : Int)], .agg ((List.map (Value.int .u64) (Nfa.run Al.ps1 Al.bs1 ([⟨#[97]⟩]))).toArray)] ?_ ?_
   ·have e0 : a.eval (.tmp 24) = .agg #[pv, bv, .int .i64 (4 : Int)] := (H.dep 0 24 (by kernel_rfl) rfl); have e1 : a.eval (.tmp 27) = .agg ((List.map (Value.int .u64) (Nfa.run Al.ps1 Al.bs1 ([⟨#[97]⟩]))).toArray) := (H.dep 3 27 (by kernel_rfl) rfl); simp only [List.map_toArray, List.map_cons, List.map_nil, e0, e1]
   refine (Nfa.accept_calls pv bv 4 Al.ps1 Al.bs1 vs (Nfa.run Al.ps1 Al.bs1 ([⟨#[97]⟩])) _ ((Nfa.run_len _ _ _)) (by decide) ((Nfa.Tab.below XT_22 H.below)).len ((Nfa.Tab.below XT_22 H.below)).rp ((Nfa.Tab.below XT_22 H.below)).ri ((Nfa.Tab.below XT_22 H.below)).rb).mono ?_
   rintro e w'' ⟨v, rfl, O, hb⟩
   exact ⟨_, rfl, Eng.own_mono O H.below.size, hb⟩
  ·refine Eng.plain rfl rfl fun a w' H => ?_
   have kb := (H.below.block _ lg1_11_22).trans kg1_11_22
   have z0 : w'.cell? ⟨g1_11, 0, none⟩ = some (pv) := (Eng.cells kb 0).trans rfl
   have z1 : w'.cell? ⟨g1_11, 1, none⟩ = some (bv) := (Eng.cells kb 1).trans rfl
   have z2 : w'.cell? ⟨g1_11, 2, none⟩ = some (.int .i64 (4 : Int)) := (Eng.cells kb 2).trans rfl
   refine Eng.val (w1 := w') (v := .agg #[pv, bv, .int .i64 (4 : Int)]) ?_ (Below.refl _ _) rfl
   have e0 := ((H.kept 1 (by kernel_rfl)).trans h1_23)
   simp only [execOp, resolve, e0]
   go_simp
  ·refine Eng.plain rfl rfl fun a w' H => ?_
   have kb := (H.below.block _ lg1_11_22).trans kg1_11_22
   have z0 : w'.cell? ⟨g1_11, 0, none⟩ = some (pv) := (Eng.cells kb 0).trans rfl
   have z1 : w'.cell? ⟨g1_11, 1, none⟩ = some (bv) := (Eng.cells kb 1).trans rfl
   have z2 : w'.cell? ⟨g1_11, 2, none⟩ = some (.int .i64 (4 : Int)) := (Eng.cells kb 2).trans rfl
   refine Eng.val (w1 := w') (v := .agg #[pv, bv, .int .i64 (4 : Int)]) ?_ (Below.refl _ _) rfl
   have e0 := ((H.kept 1 (by kernel_rfl)).trans h1_23)
   simp only [execOp, resolve, e0]
   go_simp
  ·refine Eng.plain rfl rfl fun a w' H => ?_
   refine Eng.val_ex (Eng.run_buildN1 (z := .string ⟨#[]⟩) [.string ⟨#[98]⟩] rfl Tryd.underlying43 (by kernel_rfl) rfl rfl rfl rfl (by intro v hv; have h := List.mem_singleton.1 hv; rw [h]; exact rfl) (by have e0 : a.eval (.const (.string ⟨#[98]⟩)) = .string ⟨#[98]⟩ := (rfl : a.eval (.const (.string ⟨#[98]⟩)) = .string ⟨#[98]⟩); simp [e0])) fun v1 w'' R => ?_
   obtain ⟨F, hb⟩ := R
   exact ⟨hb, F⟩
  ·refine Eng.plain rfl rfl fun a w' H => ?_
   refine Eng.call Tryd.func40 (by kernel_rfl) (by kernel_rfl) rfl #[.agg #[pv, bv, .int .i64 (4 : Int)], (a.eval (.tmp 31))] ?_ ?_
   ·have e0 : a.eval (.tmp 30) = .agg #[pv, bv, .int .i64 (4 : Int)] := (H.dep 6 30 (by kernel_rfl) rfl); simp only [List.map_toArray, List.map_cons, List.map_nil, e0]
   refine (Nfa.run_calls pv bv 4 Al.ps1 Al.bs1 vs (a.eval (.tmp 31)) ([⟨#[98]⟩]) _ ((Nfa.Tab.below XT_22 H.below)).len ((Nfa.Tab.below XT_22 H.below)).rp ((Nfa.Tab.below XT_22 H.below)).ri ((Nfa.Tab.below XT_22 H.below)).rb (show Eng.Reads w' (a.eval (.tmp 31)) 1 1 [.string ⟨#[98]⟩] from H.dep 7 31 (by kernel_rfl) rfl)).mono ?_
   rintro e w'' ⟨rfl, hb⟩
   exact ⟨_, rfl, rfl, hb⟩
  ·refine Eng.plain rfl rfl fun a w' H => ?_
   refine Eng.call Tryd.func44 (by kernel_rfl) (by kernel_rfl) rfl #[.agg #[pv, bv, .int .i64 (4 : Int)], .agg ((List.map (Value.int .u64) (Nfa.run Al.ps1 Al.bs1 ([⟨#[98]⟩]))).toArray)] ?_ ?_
   ·have e0 : a.eval (.tmp 29) = .agg #[pv, bv, .int .i64 (4 : Int)] := (H.dep 5 29 (by kernel_rfl) rfl); have e1 : a.eval (.tmp 32) = .agg ((List.map (Value.int .u64) (Nfa.run Al.ps1 Al.bs1 ([⟨#[98]⟩]))).toArray) := (H.dep 8 32 (by kernel_rfl) rfl); simp only [List.map_toArray, List.map_cons, List.map_nil, e0, e1]
   refine (Nfa.accept_calls pv bv 4 Al.ps1 Al.bs1 vs (Nfa.run Al.ps1 Al.bs1 ([⟨#[98]⟩])) _ ((Nfa.run_len _ _ _)) (by decide) ((Nfa.Tab.below XT_22 H.below)).len ((Nfa.Tab.below XT_22 H.below)).rp ((Nfa.Tab.below XT_22 H.below)).ri ((Nfa.Tab.below XT_22 H.below)).rb).mono ?_
   rintro e w'' ⟨v, rfl, O, hb⟩
   exact ⟨_, rfl, Eng.own_mono O H.below.size, hb⟩
  ·exact absurd hlt (by decide)
  ·exact absurd hlt (by decide)
 intro act24 w24 T
 have h1_24 := (T.rest 1 (by kernel_rfl)).trans h1_23
 have h2_24 := (T.rest 2 (by kernel_rfl)).trans h2_23
 have h4_24 := (T.rest 4 (by kernel_rfl)).trans h4_23
 have kg1_11_24 := (T.below.block _ lg1_11_22).trans kg1_11_22
 have lg1_11_24 := Nat.lt_of_lt_of_le lg1_11_22 T.below.size
 have Fbb_24 := Eng.Reads.below Fbb_22 T.below
 have OO28_24 := T.done 4 28 rfl rfl
 obtain ⟨v28_24, h28_24⟩ : ∃ v, act24.eval (.tmp 28) = v := ⟨_, rfl⟩
 have OO33_24 := T.done 9 33 rfl rfl
 obtain ⟨v33_24, h33_24⟩ : ∃ v, act24.eval (.tmp 33) = v := ⟨_, rfl⟩
 have d24 := T.defers.trans d23
 have s24 := T.size.trans s23
 have bl24 := bl22.trans (T.below.mono bl22.size)
 have XT_24 := Nfa.Tab.below XT_22 T.below
 have OP28_24 : w24.ownsRow w22.heap.size 3 1 v28_24 (Nfa.accept Al.ps1 Al.bs1 (Nfa.run Al.ps1 Al.bs1 ([⟨#[97]⟩]))).length (Nfa.ints (Nfa.accept Al.ps1 Al.bs1 (Nfa.run Al.ps1 Al.bs1 ([⟨#[97]⟩])))) := by rw [← h28_24]; exact OO28_24
 clear OO28_24
 have FOa28_24 := Eng.Reads.of_own OP28_24
 have OP33_24 : w24.ownsRow w22.heap.size 3 1 v33_24 (Nfa.accept Al.ps1 Al.bs1 (Nfa.run Al.ps1 Al.bs1 ([⟨#[98]⟩]))).length (Nfa.ints (Nfa.accept Al.ps1 Al.bs1 (Nfa.run Al.ps1 Al.bs1 ([⟨#[98]⟩])))) := by rw [← h33_24]; exact OO33_24
 clear OO33_24
 have FOa33_24 := Eng.Reads.of_own OP33_24
 clear T
 refine Eng.tail_val rfl rfl rfl (Eng.run_assign rfl h28_24) s24 rfl fun act25 d25 s25 hv hr => ?_
 have h1_25 := (hr 1 rfl).trans h1_24
 have h2_25 := (hr 2 rfl).trans h2_24
 have h4_25 := (hr 4 rfl).trans h4_24
 have h33_25 := (hr 33 rfl).trans h33_24
 have h5_25 : act25.eval (.tmp 5) = v28_24 := hv
 have d25 := d25.trans d24
 clear hv hr
 refine Eng.tail_val rfl rfl rfl (Eng.run_assign rfl h33_25) s25 rfl fun act26 d26 s26 hv hr => ?_
 have h1_26 := (hr 1 rfl).trans h1_25
 have h2_26 := (hr 2 rfl).trans h2_25
 have h4_26 := (hr 4 rfl).trans h4_25
 have h5_26 := (hr 5 rfl).trans h5_25
 have h6_26 : act26.eval (.tmp 6) = v33_24 := hv
 have d26 := d26.trans d25
 clear hv hr
 refine Eng.tail_nil ?_
 refine wp_seq ?_
 refine Eng.regionS (Eng.still [fun u_ => u_ = .agg #[pv, bv, .int .i64 (4 : Int)], fun u_ => u_ = .agg ((List.map (Value.int .u64) (Nfa.start Al.ps1 Al.bs1)).toArray), fun u_ => True, fun u_ => True]) (fun i => ([.plain, .plain, .alloc 74 ((List.map (Value.int .u64) (List.replicate 8 0)).toArray), .store 2 ((List.map (Value.int .u64) (Nfa.start Al.ps1 Al.bs1)).toArray)] : List Eng.Kind).getD i .plain) 4 0 89 s26 rfl (by kernel_rfl) (Eng.still_stable _) (Or.inr (Eng.still_any _)) ?_ ?_
 ·refine Eng.Steps.cons (fun _ => ?_) (Eng.Steps.cons (fun _ => ?_) (Eng.Steps.cons (fun _ => ?_) (Eng.Steps.cons (fun _ => ?_) (Eng.Steps.nil))))
  ·refine Eng.plain rfl rfl fun a w' H => ?_
   have kb := (H.below.block _ lg1_11_24).trans kg1_11_24
   have z0 : w'.cell? ⟨g1_11, 0, none⟩ = some (pv) := (Eng.cells kb 0).trans rfl
   have z1 : w'.cell? ⟨g1_11, 1, none⟩ = some (bv) := (Eng.cells kb 1).trans rfl
   have z2 : w'.cell? ⟨g1_11, 2, none⟩ = some (.int .i64 (4 : Int)) := (Eng.cells kb 2).trans rfl
   refine Eng.val (w1 := w') (v := .agg #[pv, bv, .int .i64 (4 : Int)]) ?_ (Below.refl _ _) rfl
   have e0 := ((H.kept 1 (by kernel_rfl)).trans h1_26)
   simp only [execOp, resolve, e0]
   go_simp
  ·refine Eng.plain rfl rfl fun a w' H => ?_
   refine Eng.call Tryd.func50 (by kernel_rfl) (by kernel_rfl) rfl #[.agg #[pv, bv, .int .i64 (4 : Int)]] ?_ ?_
   ·have e0 : a.eval (.tmp 34) = .agg #[pv, bv, .int .i64 (4 : Int)] := (H.dep 0 34 (by kernel_rfl) rfl); simp only [List.map_toArray, List.map_cons, List.map_nil, e0]
   refine (Nfa.start_calls pv bv 4 Al.ps1 Al.bs1 vs _ ((Nfa.Tab.below XT_24 H.below)).len ((Nfa.Tab.below XT_24 H.below)).rp ((Nfa.Tab.below XT_24 H.below)).ri ((Nfa.Tab.below XT_24 H.below)).rb).mono ?_
   rintro e w'' ⟨rfl, hb⟩
   exact ⟨_, rfl, rfl, hb⟩
  ·refine Eng.made rfl (by simp) rfl (fun a w' hd ho => ?_) (fun _ _ => trivial)
   exact Eng.run_alloc rfl (by kernel_rfl)
  ·refine Eng.stored_arr rfl rfl rfl (j := 2) (d := 7) (by kernel_rfl) rfl rfl (Eng.store_uniq (by kernel_rfl)) ((Nfa.cells_size (by simp)).trans (Nfa.cells_size ((Nfa.start_len _ _))).symm) rfl (by rw [Nfa.cells_size ((Nfa.start_len _ _))]; kernel_rfl) (by simp [Value.oneCell']) fun a w' hd ho => ?_
   exact (hd 1 35 (by kernel_rfl) rfl)
 intro act27 w27 T
 have h1_27 := (T.rest 1 (by kernel_rfl)).trans h1_26
 have h2_27 := (T.rest 2 (by kernel_rfl)).trans h2_26
 have h4_27 := (T.rest 4 (by kernel_rfl)).trans h4_26
 have h5_27 := (T.rest 5 (by kernel_rfl)).trans h5_26
 have h6_27 := (T.rest 6 (by kernel_rfl)).trans h6_26
 have kg1_11_27 := (T.below.block _ lg1_11_24).trans kg1_11_24
 have lg1_11_27 := Nat.lt_of_lt_of_le lg1_11_24 T.below.size
 have Fbb_27 := Eng.Reads.below Fbb_24 T.below
 have Fa28_27 := Eng.Reads.below FOa28_24 T.below
 have Fa33_27 := Eng.Reads.below FOa33_24 T.below
 obtain ⟨g7_27, h7_27, rg7_27, lg7_27_27, kg7_27_27⟩ := T.st 2 7 3 _ _ _ rfl rfl rfl rfl rfl
 have d27 := T.defers.trans d26
 have s27 := T.size.trans s26
 have bl27 := bl24.trans (T.below.mono bl24.size)
 have XT_27 := Nfa.Tab.below XT_24 T.below
 clear T
 refine Eng.tail_nil ?_
 refine wp_seq ?_
 refine Eng.regionD (Eng.tell [.still fun u_ => u_ = .pointer (some ⟨g1_11, 2, none⟩), .still fun u_ => u_ = .int .i64 (4 : Int), .still fun u_ => u_ = .bool true, .still fun u_ => u_ = .bool true, .still fun u_ => u_ = .pointer (some ⟨g1_11, 1, none⟩), .still fun u_ => u_ = bv, .still fun u_ => u_ = .int .i64 ((Al.bs1.length : Nat) : Int), .still fun u_ => u_ = .bool true, .still fun u_ => u_ = .bool true, .still fun u_ => u_ = .bool true, .still fun u_ => u_ = .pointer (some ⟨g1_11, 1, none⟩), .still fun u_ => u_ = bv, .still fun u_ => u_ = Eng.elemPtr bv (1 * 1), .still fun u_ => u_ = .int .i64 (Al.bs1.getD 1 0), .still fun u_ => u_ = .bool true, .still fun u_ => u_ = .bool true, .still fun u_ => u_ = .bool true, .still fun u_ => u_ = .int .i64 (0 : Int), .still fun u_ => u_ = .bool true, .still fun u_ => u_ = .bool true, .still fun u_ => u_ = .bool true, .still fun u_ => u_ = .int .i64 (5 : Int), .still fun u_ => u_ = .bool true, .still fun u_ => u_ = .bool true, .still fun u_ => u_ = .bool true, .still fun u_ => u_ = v28_24, Eng.Tl.reads 2 1 [.int .i64 0, .int .i64 1], .still fun u_ => u_ = .bool true, .still fun u_ => u_ = .bool true, .still fun u_ => u_ = .bool true, .still fun u_ => u_ = v33_24, Eng.Tl.reads 1 1 [.int .i64 1], .still fun u_ => u_ = .bool true, .still fun u_ => u_ = .bool true, .still fun u_ => u_ = .bool true, .still fun u_ => u_ = .pointer (some ⟨g7_27, 0, none⟩), .still fun u_ => u_ = .int .u64 (Nfa.at_ (Nfa.start Al.ps1 Al.bs1) (0)), .still fun u_ => u_ = .bool true, .still fun u_ => u_ = .bool true, .still fun u_ => u_ = .bool true, .still fun u_ => u_ = .agg ((List.map (Value.int .u64) (Nfa.start Al.ps1 Al.bs1)).toArray), .still fun u_ => u_ = .agg ((List.map (Value.int .u64) (Nfa.start Al.ps1 Al.bs1)).toArray), .still fun u_ => u_ = .agg ((List.map (Value.int .u64) (Nfa.unionTo (Nfa.start Al.ps1 Al.bs1) (Nfa.start Al.ps1 Al.bs1) 8)).toArray), .still fun u_ => u_ = .agg ((List.map (Value.int .u64) (Nfa.start Al.ps1 Al.bs1)).toArray), .still fun u_ => u_ = .bool true, .still fun u_ => u_ = .bool true, .still fun u_ => u_ = .bool true, .still fun u_ => u_ = .agg #[pv, bv, .int .i64 (4 : Int)], .still fun u_ => u_ = .agg ((List.map (Value.int .u64) (Nfa.start Al.ps1 Al.bs1)).toArray), .still fun u_ => u_ = .agg ((List.map (Value.int .u64) (Nfa.step Al.ps1 Al.bs1 (Nfa.start Al.ps1 Al.bs1) ⟨#[97]⟩)).toArray), .still fun u_ => u_ = .int .u64 (Nfa.at_ (Nfa.step Al.ps1 Al.bs1 (Nfa.start Al.ps1 Al.bs1) ⟨#[97]⟩) 0), .still fun u_ => u_ = .bool true, .still fun u_ => u_ = .bool true, .still fun u_ => u_ = .bool true]) (fun i => ([.plain, .plain, .plain, .plain, .plain, .plain, .plain, .plain, .plain, .plain, .plain, .plain, .plain, .plain, .plain, .plain, .plain, .plain, .plain, .plain, .plain, .plain, .plain, .plain, .plain, .plain, .plain, .plain, .plain, .plain, .plain, .plain, .plain, .plain, .plain, .plain, .plain, .plain, .plain, .plain, .plain, .plain, .plain, .plain, .plain, .plain, .plain, .plain, .plain, .plain, .plain, .plain, .plain, .plain] : List Eng.Kind).getD i .plain) 54 0 89 (by kernel_rfl) s27 rfl (by kernel_rfl) (Eng.tell_stable _) (Or.inl (Eng.no_stores (by kernel_rfl))) ?_ ?_
 ·refine Eng.Steps.cons (fun _ => ?_) (Eng.Steps.cons (fun _ => ?_) (Eng.Steps.cons (fun _ => ?_) (Eng.Steps.cons (fun _ => ?_) (Eng.Steps.cons (fun _ => ?_) (Eng.Steps.cons (fun _ => ?_) (Eng.Steps.cons (fun _ => ?_) (Eng.Steps.cons (fun _ => ?_) (Eng.Steps.cons (fun _ => ?_) (Eng.Steps.cons (fun _ => ?_) (Eng.Steps.cons (fun _ => ?_) (Eng.Steps.cons (fun _ => ?_) (Eng.Steps.cons (fun _ => ?_) (Eng.Steps.cons (fun _ => ?_) (Eng.Steps.cons (fun _ => ?_) (Eng.Steps.cons (fun _ => ?_) (Eng.Steps.cons (fun _ => ?_) (Eng.Steps.cons (fun _ => ?_) (Eng.Steps.cons (fun _ => ?_) (Eng.Steps.cons (fun _ => ?_) (Eng.Steps.cons (fun _ => ?_) (Eng.Steps.cons (fun _ => ?_) (Eng.Steps.cons (fun _ => ?_) (Eng.Steps.cons (fun _ => ?_) (Eng.Steps.cons (fun _ => ?_) (Eng.Steps.cons (fun _ => ?_) (Eng.Steps.cons (fun _ => ?_) (Eng.Steps.cons (fun _ => ?_) (Eng.Steps.cons (fun _ => ?_) (Eng.Steps.cons (fun _ => ?_) (Eng.Steps.cons (fun _ => ?_) (Eng.Steps.cons (fun _ => ?_) (Eng.Steps.cons (fun _ => ?_) (Eng.Steps.cons (fun _ => ?_) (Eng.Steps.cons (fun _ => ?_) (Eng.Steps.cons (fun _ => ?_) (Eng.Steps.cons (fun _ => ?_) (Eng.Steps.cons (fun _ => ?_) (Eng.Steps.cons (fun _ => ?_) (Eng.Steps.cons (fun _ => ?_) (Eng.Steps.cons (fun _ => ?_) (Eng.Steps.cons (fun _ => ?_) (Eng.Steps.cons (fun _ => ?_) (Eng.Steps.cons (fun _ => ?_) (Eng.Steps.cons (fun _ => ?_) (Eng.Steps.cons (fun _ => ?_) (Eng.Steps.cons (fun _ => ?_) (Eng.Steps.cons (fun _ => ?_) (Eng.Steps.cons (fun _ => ?_) (Eng.Steps.cons (fun _ => ?_) (Eng.Steps.cons (fun _ => ?_) (Eng.Steps.cons (fun _ => ?_) (Eng.Steps.cons (fun _ => ?_) (Eng.Steps.cons (fun _ => ?_) (Eng.Steps.nil))))))))))))))))))))))))))))))))))))))))))))))))))))))
  ·refine Eng.plain rfl rfl fun a w' H => ?_
   refine Eng.val (w1 := w') (v := .pointer (some ⟨g1_11, 2, none⟩)) ?_ (Below.refl _ _) rfl
   have e0 := ((H.kept 1 (by kernel_rfl)).trans h1_27)
   simp only [execOp, resolve, e0]
   go_simp
  ·refine Eng.plain rfl rfl fun a w' H => ?_
   have kb := (H.below.block _ lg1_11_27).trans kg1_11_27
   have z0 : w'.cell? ⟨g1_11, 2, none⟩ = some (.int .i64 (4 : Int)) := (Eng.cells kb 2).trans rfl
   refine Eng.val (w1 := w') (v := .int .i64 (4 : Int)) ?_ (Below.refl _ _) rfl
   have e0 : a.eval (.tmp 36) = .pointer (some ⟨g1_11, 2, none⟩) := (H.dep 0 36 (by kernel_rfl) rfl)
   simp only [execOp, resolve, e0]
   go_simp
  ·refine Eng.plain rfl rfl fun a w' H => ?_
   refine Eng.val (w1 := w') (v := .bool ((4 : Int) == 4)) ?_ (Below.refl _ _) (by show _ = Value.bool true; rw [show ((4 : Int) == 4) = true from rfl])
   have e0 : a.eval (.tmp 37) = .int .i64 (4 : Int) := (H.dep 1 37 (by kernel_rfl) rfl)
   have e1 : a.eval (.const (.int .i64 4)) = .int .i64 4 := (rfl : a.eval (.const (.int .i64 4)) = .int .i64 4)
   simp only [execOp, resolve, e0, e1]
   go_simp
  ·refine Eng.plain rfl rfl fun a w' H => ?_
   exact Eng.val (w1 := w') (v := .bool true) (Eng.run_move rfl (H.dep 2 38 (by kernel_rfl) rfl)) (Below.refl _ _) rfl
  ·refine Eng.guardedT (j := 3) (d := 39) rfl rfl (by kernel_rfl) rfl (fun v w h => h) fun a w' H => ?_
   refine Eng.val (w1 := w') (v := .pointer (some ⟨g1_11, 1, none⟩)) ?_ (Below.refl _ _) rfl
   have e0 := ((H.kept 1 (by kernel_rfl)).trans h1_27)
   simp only [execOp, resolve, e0]
   go_simp
  ·refine Eng.guardedT (j := 3) (d := 39) rfl rfl (by kernel_rfl) rfl (fun v w h => h) fun a w' H => ?_
   have kb := (H.below.block _ lg1_11_27).trans kg1_11_27
   have z0 : w'.cell? ⟨g1_11, 1, none⟩ = some (bv) := (Eng.cells kb 1).trans rfl
   refine Eng.val (w1 := w') (v := bv) ?_ (Below.refl _ _) rfl
   have e0 : a.eval (.tmp 40) = .pointer (some ⟨g1_11, 1, none⟩) := (H.dep 4 40 (by kernel_rfl) rfl)
   simp only [execOp, resolve, e0]
   go_simp
  ·refine Eng.guardedT (j := 3) (d := 39) rfl rfl (by kernel_rfl) rfl (fun v w h => h) fun a w' H => ?_
   refine Eng.val (w1 := w') (v := .int .i64 ((Al.bs1.length : Nat) : Int)) ?_ (Below.refl _ _) rfl
   exact Eng.run_len_sl rfl Tryd.underlying63 (show a.eval (.tmp 41) = bv from (H.dep 5 41 (by kernel_rfl) rfl)) (Eng.Reads.below Fbb_27 H.below)
  ·refine Eng.guardedT (j := 3) (d := 39) rfl rfl (by kernel_rfl) rfl (fun v w h => h) fun a w' H => ?_
   refine Eng.val (w1 := w') (v := .bool (((Al.bs1.length : Nat) : Int) == 2)) ?_ (Below.refl _ _) (by show _ = Value.bool true; rw [show (((Al.bs1.length : Nat) : Int) == 2) = true from rfl])
   have e0 : a.eval (.tmp 42) = .int .i64 ((Al.bs1.length : Nat) : Int) := (H.dep 6 42 (by kernel_rfl) rfl)
   have e1 : a.eval (.const (.int .i64 2)) = .int .i64 2 := (rfl : a.eval (.const (.int .i64 2)) = .int .i64 2)
   simp only [execOp, resolve, e0, e1]
   go_simp
  ·refine Eng.plain rfl rfl fun a w' H => ?_
   exact Eng.val (w1 := w') (v := .bool (true && true)) (Eng.run_and rfl rfl (G := true) (H.dep 3 39 (by kernel_rfl) rfl) (fun hb => (H.dep 7 43 (by kernel_rfl) rfl))) (Below.refl _ _) rfl
  ·refine Eng.plain rfl rfl fun a w' H => ?_
   exact Eng.val (w1 := w') (v := .bool true) (Eng.run_move rfl (H.dep 8 44 (by kernel_rfl) rfl)) (Below.refl _ _) rfl
  ·refine Eng.guardedT (j := 9) (d := 45) rfl rfl (by kernel_rfl) rfl (fun v w h => h) fun a w' H => ?_
   refine Eng.val (w1 := w') (v := .pointer (some ⟨g1_11, 1, none⟩)) ?_ (Below.refl _ _) rfl
   have e0 := ((H.kept 1 (by kernel_rfl)).trans h1_27)
   simp only [execOp, resolve, e0]
   go_simp
  ·refine Eng.guardedT (j := 9) (d := 45) rfl rfl (by kernel_rfl) rfl (fun v w h => h) fun a w' H => ?_
   have kb := (H.below.block _ lg1_11_27).trans kg1_11_27
   have z0 : w'.cell? ⟨g1_11, 1, none⟩ = some (bv) := (Eng.cells kb 1).trans rfl
   refine Eng.val (w1 := w') (v := bv) ?_ (Below.refl _ _) rfl
   have e0 : a.eval (.tmp 46) = .pointer (some ⟨g1_11, 1, none⟩) := (H.dep 10 46 (by kernel_rfl) rfl)
   simp only [execOp, resolve, e0]
   go_simp
  ·refine Eng.guardedT (j := 9) (d := 45) rfl rfl (by kernel_rfl) rfl (fun v w h => h) fun a w' H => ?_
   refine Eng.val (w1 := w') (v := Eng.elemPtr bv (1 * 1)) ?_ (Below.refl _ _) rfl
   exact Eng.run_index_sl rfl Tryd.underlying63 (by kernel_rfl) (show a.eval (.tmp 47) = bv from (H.dep 11 47 (by kernel_rfl) rfl)) ((show a.eval (.const (.int .i64 1)) = .int .i64 1 from (rfl : a.eval (.const (.int .i64 1)) = .int .i64 1)).trans (congrArg (Value.int _) (show 1 = ((1 : Nat) : Int) from by first | rfl | decide))) (Eng.Reads.below Fbb_27 H.below) (by first | rfl | decide) rfl
  ·refine Eng.guardedT (j := 9) (d := 45) rfl rfl (by kernel_rfl) rfl (fun v w h => h) fun a w' H => ?_
   refine Eng.val (w1 := w') (v := .int .i64 (Al.bs1.getD 1 0)) ?_ (Below.refl _ _) rfl
   exact Eng.run_load_el (.int .i64 (Al.bs1.getD 1 0)) rfl (show a.eval (.tmp 48) = Eng.elemPtr bv (1 * 1) from (H.dep 12 48 (by kernel_rfl) rfl)) (Eng.Reads.below Fbb_27 H.below) (Nfa.ints_at Al.bs1 1 (by first | rfl | decide)) (by kernel_rfl)
  ·refine Eng.guardedT (j := 9) (d := 45) rfl rfl (by kernel_rfl) rfl (fun v w h => h) fun a w' H => ?_
   refine Eng.val (w1 := w') (v := .bool ((Al.bs1.getD 1 0) == 2)) ?_ (Below.refl _ _) (by show _ = Value.bool true; rw [show ((Al.bs1.getD 1 0) == 2) = true from Al.s50])
   have e0 : a.eval (.tmp 49) = .int .i64 (Al.bs1.getD 1 0) := (H.dep 13 49 (by kernel_rfl) rfl)
   have e1 : a.eval (.const (.int .i64 2)) = .int .i64 2 := (rfl : a.eval (.const (.int .i64 2)) = .int .i64 2)
   simp only [execOp, resolve, e0, e1]
   go_simp
  ·refine Eng.plain rfl rfl fun a w' H => ?_
   exact Eng.val (w1 := w') (v := .bool (true && true)) (Eng.run_and rfl rfl (G := true) (H.dep 9 45 (by kernel_rfl) rfl) (fun hb => (H.dep 14 50 (by kernel_rfl) rfl))) (Below.refl _ _) rfl
  ·refine Eng.plain rfl rfl fun a w' H => ?_
   exact Eng.val (w1 := w') (v := .bool true) (Eng.run_move rfl (H.dep 15 51 (by kernel_rfl) rfl)) (Below.refl _ _) rfl
  ·refine Eng.guardedT (j := 16) (d := 52) rfl rfl (by kernel_rfl) rfl (fun v w h => h) fun a w' H => ?_
   exact Eng.val (w1 := w') (v := .int .i64 (0 : Int)) (Eng.run_move rfl ((H.kept 2 (by kernel_rfl)).trans h2_27)) (Below.refl _ _) rfl
  ·refine Eng.guardedT (j := 16) (d := 52) rfl rfl (by kernel_rfl) rfl (fun v w h => h) fun a w' H => ?_
   refine Eng.val (w1 := w') (v := .bool ((0 : Int) == 0)) ?_ (Below.refl _ _) (by show _ = Value.bool true; rw [show ((0 : Int) == 0) = true from rfl])
   have e0 : a.eval (.tmp 53) = .int .i64 (0 : Int) := (H.dep 17 53 (by kernel_rfl) rfl)
   have e1 : a.eval (.const (.int .i64 0)) = .int .i64 0 := (rfl : a.eval (.const (.int .i64 0)) = .int .i64 0)
   simp only [execOp, resolve, e0, e1]
   go_simp
  ·refine Eng.plain rfl rfl fun a w' H => ?_
   exact Eng.val (w1 := w') (v := .bool (true && true)) (Eng.run_and rfl rfl (G := true) (H.dep 16 52 (by kernel_rfl) rfl) (fun hb => (H.dep 18 54 (by kernel_rfl) rfl))) (Below.refl _ _) rfl
  ·refine Eng.plain rfl rfl fun a w' H => ?_
   exact Eng.val (w1 := w') (v := .bool true) (Eng.run_move rfl (H.dep 19 55 (by kernel_rfl) rfl)) (Below.refl _ _) rfl
  ·refine Eng.guardedT (j := 20) (d := 56) rfl rfl (by kernel_rfl) rfl (fun v w h => h) fun a w' H => ?_
   exact Eng.val (w1 := w') (v := .int .i64 (5 : Int)) (Eng.run_move rfl ((H.kept 4 (by kernel_rfl)).trans h4_27)) (Below.refl _ _) rfl
  ·refine Eng.guardedT (j := 20) (d := 56) rfl rfl (by kernel_rfl) rfl (fun v w h => h) fun a w' H => ?_
   refine Eng.val (w1 := w') (v := .bool ((5 : Int) == 5)) ?_ (Below.refl _ _) (by show _ = Value.bool true; rw [show ((5 : Int) == 5) = true from rfl])
   have e0 : a.eval (.tmp 57) = .int .i64 (5 : Int) := (H.dep 21 57 (by kernel_rfl) rfl)
   have e1 : a.eval (.const (.int .i64 5)) = .int .i64 5 := (rfl : a.eval (.const (.int .i64 5)) = .int .i64 5)
   simp only [execOp, resolve, e0, e1]
   go_simp
  ·refine Eng.plain rfl rfl fun a w' H => ?_
   exact Eng.val (w1 := w') (v := .bool (true && true)) (Eng.run_and rfl rfl (G := true) (H.dep 20 56 (by kernel_rfl) rfl) (fun hb => (H.dep 22 58 (by kernel_rfl) rfl))) (Below.refl _ _) rfl
  ·refine Eng.plain rfl rfl fun a w' H => ?_
   exact Eng.val (w1 := w') (v := .bool true) (Eng.run_move rfl (H.dep 23 59 (by kernel_rfl) rfl)) (Below.refl _ _) rfl
  ·refine Eng.guardedT (j := 24) (d := 60) rfl rfl (by kernel_rfl) rfl (fun v w h => h) fun a w' H => ?_
   exact Eng.val (w1 := w') (v := v28_24) (Eng.run_move rfl ((H.kept 5 (by kernel_rfl)).trans h5_27)) (Below.refl _ _) rfl
  ·refine Eng.guardedT (j := 24) (d := 60) rfl rfl (by kernel_rfl) rfl (fun v w h => h) fun a w' H => ?_
   refine Eng.val_ex (Eng.run_buildN1 (z := .int .i64 0) [.int .i64 0, .int .i64 1] rfl Tryd.underlying63 (by kernel_rfl) rfl rfl rfl rfl (by intro v hv; simp only [List.mem_cons, List.not_mem_nil, or_false] at hv; rcases hv with h | h <;> rw [h] <;> first | exact rfl | exact rfl) (by have e0 : a.eval (.const (.int .i64 0)) = .int .i64 0 := (rfl : a.eval (.const (.int .i64 0)) = .int .i64 0); have e1 : a.eval (.const (.int .i64 1)) = .int .i64 1 := (rfl : a.eval (.const (.int .i64 1)) = .int .i64 1); simp [e0, e1])) fun v1 w'' R => ?_
   obtain ⟨F, hb⟩ := R
   exact ⟨hb, F⟩
  ·refine Eng.guardedT (j := 24) (d := 60) rfl rfl (by kernel_rfl) rfl (fun v w h => h) fun a w' H => ?_
   refine Eng.call Tryd.func47 (by kernel_rfl) (by kernel_rfl) rfl #[v28_24, (a.eval (.tmp 62))] ?_ ?_
   ·have e0 : a.eval (.tmp 61) = v28_24 := (H.dep 25 61 (by kernel_rfl) rfl); simp only [List.map_toArray, List.map_cons, List.map_nil, e0]
   refine (Nfa.equal_calls v28_24 (a.eval (.tmp 62)) (Nfa.accept Al.ps1 Al.bs1 (Nfa.run Al.ps1 Al.bs1 ([⟨#[97]⟩]))) ([0, 1] : List Int) _ (Eng.Reads.below Fa28_27 H.below) (show Eng.Reads w' (a.eval (.tmp 62)) 2 1 [.int .i64 0, .int .i64 1] from H.dep 26 62 (by kernel_rfl) rfl)).mono ?_
   rintro e w'' ⟨rfl, hb⟩
   exact ⟨_, rfl, (by show _ = Value.bool true; rw [show ((Nfa.accept Al.ps1 Al.bs1 (Nfa.run Al.ps1 Al.bs1 ([⟨#[97]⟩]))) == ([0, 1] : List Int)) = true from Al.s63]), hb⟩
  ·refine Eng.plain rfl rfl fun a w' H => ?_
   exact Eng.val (w1 := w') (v := .bool (true && true)) (Eng.run_and rfl rfl (G := true) (H.dep 24 60 (by kernel_rfl) rfl) (fun hb => (H.dep 27 63 (by kernel_rfl) rfl))) (Below.refl _ _) rfl
  ·refine Eng.plain rfl rfl fun a w' H => ?_
   exact Eng.val (w1 := w') (v := .bool true) (Eng.run_move rfl (H.dep 28 64 (by kernel_rfl) rfl)) (Below.refl _ _) rfl
  ·refine Eng.guardedT (j := 29) (d := 65) rfl rfl (by kernel_rfl) rfl (fun v w h => h) fun a w' H => ?_
   exact Eng.val (w1 := w') (v := v33_24) (Eng.run_move rfl ((H.kept 6 (by kernel_rfl)).trans h6_27)) (Below.refl _ _) rfl
  ·refine Eng.guardedT (j := 29) (d := 65) rfl rfl (by kernel_rfl) rfl (fun v w h => h) fun a w' H => ?_
   refine Eng.val_ex (Eng.run_buildN1 (z := .int .i64 0) [.int .i64 1] rfl Tryd.underlying63 (by kernel_rfl) rfl rfl rfl rfl (by intro v hv; have h := List.mem_singleton.1 hv; rw [h]; exact rfl) (by have e0 : a.eval (.const (.int .i64 1)) = .int .i64 1 := (rfl : a.eval (.const (.int .i64 1)) = .int .i64 1); simp [e0])) fun v1 w'' R => ?_
   obtain ⟨F, hb⟩ := R
   exact ⟨hb, F⟩
  ·refine Eng.guardedT (j := 29) (d := 65) rfl rfl (by kernel_rfl) rfl (fun v w h => h) fun a w' H => ?_
   refine Eng.call Tryd.func47 (by kernel_rfl) (by kernel_rfl) rfl #[v33_24, (a.eval (.tmp 67))] ?_ ?_
   ·have e0 : a.eval (.tmp 66) = v33_24 := (H.dep 30 66 (by kernel_rfl) rfl); simp only [List.map_toArray, List.map_cons, List.map_nil, e0]
   refine (Nfa.equal_calls v33_24 (a.eval (.tmp 67)) (Nfa.accept Al.ps1 Al.bs1 (Nfa.run Al.ps1 Al.bs1 ([⟨#[98]⟩]))) ([1] : List Int) _ (Eng.Reads.below Fa33_27 H.below) (show Eng.Reads w' (a.eval (.tmp 67)) 1 1 [.int .i64 1] from H.dep 31 67 (by kernel_rfl) rfl)).mono ?_
   rintro e w'' ⟨rfl, hb⟩
   exact ⟨_, rfl, (by show _ = Value.bool true; rw [show ((Nfa.accept Al.ps1 Al.bs1 (Nfa.run Al.ps1 Al.bs1 ([⟨#[98]⟩]))) == ([1] : List Int)) = true from Al.s68]), hb⟩
  ·refine Eng.plain rfl rfl fun a w' H => ?_
   exact Eng.val (w1 := w') (v := .bool (true && true)) (Eng.run_and rfl rfl (G := true) (H.dep 29 65 (by kernel_rfl) rfl) (fun hb => (H.dep 32 68 (by kernel_rfl) rfl))) (Below.refl _ _) rfl
  ·refine Eng.plain rfl rfl fun a w' H => ?_
   exact Eng.val (w1 := w') (v := .bool true) (Eng.run_move rfl (H.dep 33 69 (by kernel_rfl) rfl)) (Below.refl _ _) rfl
  ·refine Eng.guardedT (j := 34) (d := 70) rfl rfl (by kernel_rfl) rfl (fun v w h => h) fun a w' H => ?_
   refine Eng.val (w1 := w') (v := .pointer (some ⟨g7_27, 0, none⟩)) ?_ (Below.refl _ _) rfl
   have e0 := ((H.kept 7 (by kernel_rfl)).trans h7_27)
   simp only [execOp, resolve, e0]
   go_simp
  ·refine Eng.guardedT (j := 34) (d := 70) rfl rfl (by kernel_rfl) rfl (fun v w h => h) fun a w' H => ?_
   have kb := (H.below.block _ lg7_27_27).trans kg7_27_27
   have z0 : w'.cell? ⟨g7_27, 0, none⟩ = some (.int .u64 (Nfa.at_ (Nfa.start Al.ps1 Al.bs1) (0))) := (Eng.cells kb (0)).trans (Nfa.cell_at ((Nfa.start_len _ _)) (by omega))
   refine Eng.val (w1 := w') (v := .int .u64 (Nfa.at_ (Nfa.start Al.ps1 Al.bs1) (0))) ?_ (Below.refl _ _) rfl
   have e0 : a.eval (.tmp 71) = .pointer (some ⟨g7_27, 0, none⟩) := (H.dep 35 71 (by kernel_rfl) rfl)
   simp only [execOp, resolve, e0]
   go_simp
  ·refine Eng.guardedT (j := 34) (d := 70) rfl rfl (by kernel_rfl) rfl (fun v w h => h) fun a w' H => ?_
   refine Eng.val (w1 := w') (v := .bool ((Nfa.at_ (Nfa.start Al.ps1 Al.bs1) (0)) == 13)) ?_ (Below.refl _ _) (by show _ = Value.bool true; rw [show ((Nfa.at_ (Nfa.start Al.ps1 Al.bs1) (0)) == 13) = true from Al.s73])
   have e0 : a.eval (.tmp 72) = .int .u64 (Nfa.at_ (Nfa.start Al.ps1 Al.bs1) (0)) := (H.dep 36 72 (by kernel_rfl) rfl)
   have e1 : a.eval (.const (.int .u64 13)) = .int .u64 13 := (rfl : a.eval (.const (.int .u64 13)) = .int .u64 13)
   simp only [execOp, resolve, e0, e1]
   go_simp
  ·refine Eng.plain rfl rfl fun a w' H => ?_
   exact Eng.val (w1 := w') (v := .bool (true && true)) (Eng.run_and rfl rfl (G := true) (H.dep 34 70 (by kernel_rfl) rfl) (fun hb => (H.dep 37 73 (by kernel_rfl) rfl))) (Below.refl _ _) rfl
  ·refine Eng.plain rfl rfl fun a w' H => ?_
   exact Eng.val (w1 := w') (v := .bool true) (Eng.run_move rfl (H.dep 38 74 (by kernel_rfl) rfl)) (Below.refl _ _) rfl
  ·refine Eng.guardedT (j := 39) (d := 75) rfl rfl (by kernel_rfl) rfl (fun v w h => h) fun a w' H => ?_
   have kb := (H.below.block _ lg7_27_27).trans kg7_27_27
   refine Eng.val (w1 := w') (v := .agg ((List.map (Value.int .u64) (Nfa.start Al.ps1 Al.bs1)).toArray)) ?_ (Below.refl _ _) rfl
   exact Eng.run_load_all rfl ((H.kept 7 (by kernel_rfl)).trans h7_27) kb Tryd.underlying74 rfl (by rw [Nfa.cells_size ((Nfa.start_len _ _))]; kernel_rfl)
  ·refine Eng.guardedT (j := 39) (d := 75) rfl rfl (by kernel_rfl) rfl (fun v w h => h) fun a w' H => ?_
   have kb := (H.below.block _ lg7_27_27).trans kg7_27_27
   refine Eng.val (w1 := w') (v := .agg ((List.map (Value.int .u64) (Nfa.start Al.ps1 Al.bs1)).toArray)) ?_ (Below.refl _ _) rfl
   exact Eng.run_load_all rfl ((H.kept 7 (by kernel_rfl)).trans h7_27) kb Tryd.underlying74 rfl (by rw [Nfa.cells_size ((Nfa.start_len _ _))]; kernel_rfl)
  ·refine Eng.guardedT (j := 39) (d := 75) rfl rfl (by kernel_rfl) rfl (fun v w h => h) fun a w' H => ?_
   refine Eng.call Tryd.func42 (by kernel_rfl) (by kernel_rfl) rfl #[.agg ((List.map (Value.int .u64) (Nfa.start Al.ps1 Al.bs1)).toArray), .agg ((List.map (Value.int .u64) (Nfa.start Al.ps1 Al.bs1)).toArray)] ?_ ?_
   ·have e0 : a.eval (.tmp 76) = .agg ((List.map (Value.int .u64) (Nfa.start Al.ps1 Al.bs1)).toArray) := (H.dep 40 76 (by kernel_rfl) rfl); have e1 : a.eval (.tmp 77) = .agg ((List.map (Value.int .u64) (Nfa.start Al.ps1 Al.bs1)).toArray) := (H.dep 41 77 (by kernel_rfl) rfl); simp only [List.map_toArray, List.map_cons, List.map_nil, e0, e1]
   refine (Nfa.union_calls (Nfa.start Al.ps1 Al.bs1) (Nfa.start Al.ps1 Al.bs1) _ ((Nfa.start_len _ _)) ((Nfa.start_len _ _))).mono ?_
   rintro e w'' ⟨rfl, hb⟩
   exact ⟨_, rfl, rfl, hb⟩
  ·refine Eng.guardedT (j := 39) (d := 75) rfl rfl (by kernel_rfl) rfl (fun v w h => h) fun a w' H => ?_
   have kb := (H.below.block _ lg7_27_27).trans kg7_27_27
   refine Eng.val (w1 := w') (v := .agg ((List.map (Value.int .u64) (Nfa.start Al.ps1 Al.bs1)).toArray)) ?_ (Below.refl _ _) rfl
   exact Eng.run_load_all rfl ((H.kept 7 (by kernel_rfl)).trans h7_27) kb Tryd.underlying74 rfl (by rw [Nfa.cells_size ((Nfa.start_len _ _))]; kernel_rfl)
  ·refine Eng.guardedT (j := 39) (d := 75) rfl rfl (by kernel_rfl) rfl (fun v w h => h) fun a w' H => ?_
   refine Eng.val (w1 := w') (v := .bool ((Nfa.unionTo (Nfa.start Al.ps1 Al.bs1) (Nfa.start Al.ps1 Al.bs1) 8) == (Nfa.start Al.ps1 Al.bs1))) ?_ (Below.refl _ _) (by show _ = Value.bool true; rw [show ((Nfa.unionTo (Nfa.start Al.ps1 Al.bs1) (Nfa.start Al.ps1 Al.bs1) 8) == (Nfa.start Al.ps1 Al.bs1)) = true from Al.s80])
   exact Nfa.run_eq8 rfl ((Nfa.unionTo_len _ _ _).trans ((Nfa.start_len _ _))) ((Nfa.start_len _ _)) (show a.eval (.tmp 78) = .agg ((List.map (Value.int .u64) (Nfa.unionTo (Nfa.start Al.ps1 Al.bs1) (Nfa.start Al.ps1 Al.bs1) 8)).toArray) from (H.dep 42 78 (by kernel_rfl) rfl)) (show a.eval (.tmp 79) = .agg ((List.map (Value.int .u64) (Nfa.start Al.ps1 Al.bs1)).toArray) from (H.dep 43 79 (by kernel_rfl) rfl))
  ·refine Eng.plain rfl rfl fun a w' H => ?_
   exact Eng.val (w1 := w') (v := .bool (true && true)) (Eng.run_and rfl rfl (G := true) (H.dep 39 75 (by kernel_rfl) rfl) (fun hb => (H.dep 44 80 (by kernel_rfl) rfl))) (Below.refl _ _) rfl
  ·refine Eng.plain rfl rfl fun a w' H => ?_
   exact Eng.val (w1 := w') (v := .bool true) (Eng.run_move rfl (H.dep 45 81 (by kernel_rfl) rfl)) (Below.refl _ _) rfl
  ·refine Eng.guardedT (j := 46) (d := 82) rfl rfl (by kernel_rfl) rfl (fun v w h => h) fun a w' H => ?_
   have kb := (H.below.block _ lg1_11_27).trans kg1_11_27
   have z0 : w'.cell? ⟨g1_11, 0, none⟩ = some (pv) := (Eng.cells kb 0).trans rfl
   have z1 : w'.cell? ⟨g1_11, 1, none⟩ = some (bv) := (Eng.cells kb 1).trans rfl
   have z2 : w'.cell? ⟨g1_11, 2, none⟩ = some (.int .i64 (4 : Int)) := (Eng.cells kb 2).trans rfl
   refine Eng.val (w1 := w') (v := .agg #[pv, bv, .int .i64 (4 : Int)]) ?_ (Below.refl _ _) rfl
   have e0 := ((H.kept 1 (by kernel_rfl)).trans h1_27)
   simp only [execOp, resolve, e0]
   go_simp
  ·refine Eng.guardedT (j := 46) (d := 82) rfl rfl (by kernel_rfl) rfl (fun v w h => h) fun a w' H => ?_
   have kb := (H.below.block _ lg7_27_27).trans kg7_27_27
   refine Eng.val (w1 := w') (v := .agg ((List.map (Value.int .u64) (Nfa.start Al.ps1 Al.bs1)).toArray)) ?_ (Below.refl _ _) rfl
   exact Eng.run_load_all rfl ((H.kept 7 (by kernel_rfl)).trans h7_27) kb Tryd.underlying74 rfl (by rw [Nfa.cells_size ((Nfa.start_len _ _))]; kernel_rfl)
  ·refine Eng.guardedT (j := 46) (d := 82) rfl rfl (by kernel_rfl) rfl (fun v w h => h) fun a w' H => ?_
   refine Eng.call Tryd.func48 (by kernel_rfl) (by kernel_rfl) rfl #[.agg #[pv, bv, .int .i64 (4 : Int)], .agg ((List.map (Value.int .u64) (Nfa.start Al.ps1 Al.bs1)).toArray), .string ⟨#[97]⟩] ?_ ?_
   ·have e0 : a.eval (.tmp 83) = .agg #[pv, bv, .int .i64 (4 : Int)] := (H.dep 47 83 (by kernel_rfl) rfl); have e1 : a.eval (.tmp 84) = .agg ((List.map (Value.int .u64) (Nfa.start Al.ps1 Al.bs1)).toArray) := (H.dep 48 84 (by kernel_rfl) rfl); have e2 : a.eval (.const (.string ⟨#[97]⟩)) = .string ⟨#[97]⟩ := (rfl : a.eval (.const (.string ⟨#[97]⟩)) = .string ⟨#[97]⟩); simp only [List.map_toArray, List.map_cons, List.map_nil, e0, e1, e2]
   refine (Nfa.step_calls pv bv 4 Al.ps1 Al.bs1 vs (Nfa.start Al.ps1 Al.bs1) ⟨#[97]⟩ _ ((Nfa.start_len _ _)) ((Nfa.Tab.below XT_27 H.below)).len ((Nfa.Tab.below XT_27 H.below)).rp ((Nfa.Tab.below XT_27 H.below)).ri ((Nfa.Tab.below XT_27 H.below)).rb).mono ?_
   rintro e w'' ⟨rfl, hb⟩
   exact ⟨_, rfl, rfl, hb⟩
  ·refine Eng.guardedT (j := 46) (d := 82) rfl rfl (by kernel_rfl) rfl (fun v w h => h) fun a w' H => ?_
   exact Eng.val (w1 := w') (v := .int .u64 (Nfa.at_ (Nfa.step Al.ps1 Al.bs1 (Nfa.start Al.ps1 Al.bs1) ⟨#[97]⟩) 0)) (Nfa.run_index8 ((Nfa.step_len _ _ _ _)) rfl (H.dep 49 85 (by kernel_rfl) rfl)) (Below.refl _ _) rfl
  ·refine Eng.guardedT (j := 46) (d := 82) rfl rfl (by kernel_rfl) rfl (fun v w h => h) fun a w' H => ?_
   refine Eng.val (w1 := w') (v := .bool ((Nfa.at_ (Nfa.step Al.ps1 Al.bs1 (Nfa.start Al.ps1 Al.bs1) ⟨#[97]⟩) 0) == 14)) ?_ (Below.refl _ _) (by show _ = Value.bool true; rw [show ((Nfa.at_ (Nfa.step Al.ps1 Al.bs1 (Nfa.start Al.ps1 Al.bs1) ⟨#[97]⟩) 0) == 14) = true from Al.s87])
   have e0 : a.eval (.tmp 86) = .int .u64 (Nfa.at_ (Nfa.step Al.ps1 Al.bs1 (Nfa.start Al.ps1 Al.bs1) ⟨#[97]⟩) 0) := (H.dep 50 86 (by kernel_rfl) rfl)
   have e1 : a.eval (.const (.int .u64 14)) = .int .u64 14 := (rfl : a.eval (.const (.int .u64 14)) = .int .u64 14)
   simp only [execOp, resolve, e0, e1]
   go_simp
  ·refine Eng.plain rfl rfl fun a w' H => ?_
   exact Eng.val (w1 := w') (v := .bool (true && true)) (Eng.run_and rfl rfl (G := true) (H.dep 46 82 (by kernel_rfl) rfl) (fun hb => (H.dep 51 87 (by kernel_rfl) rfl))) (Below.refl _ _) rfl
  ·refine Eng.plain rfl rfl fun a w' H => ?_
   exact Eng.val (w1 := w') (v := .bool true) (Eng.run_assign rfl (H.dep 52 88 (by kernel_rfl) rfl)) (Below.refl _ _) rfl
 intro act28 w28 T
 have h0_28 : act28.eval (.tmp 0) = .bool true := T.done 53 0 rfl rfl
 have d28 := T.defers.trans d27
 have bl28 := bl27.trans (T.below.mono bl27.size)
 clear T
 refine Eng.tail_nil ?_
 refine wp_ret ?_
 repeat (first | refine Eng.in_ret ?_ | refine Eng.then_ret ?_)
 exact Eng.ret1 rfl d28 h0_28 ⟨rfl, bl28⟩
end Go.Proofs.YthgafcaoibfchaaDoor.X
end
section
namespace Go.Proofs.YthgafcaoibfchaaDoor.X
open Go.RowKit Go.Shelf Go.Proofs Go.Proofs.YthgafcaoibfchaaDoorW.PrintWords Go.Proofs.YthgafcaoibfchaaDoorW.PrintLast Go.Proofs.YthgafcaoibfchaaDoorW.PrintMore
set_option linter.unusedVariables false
set_option linter.unusedSimpArgs false
set_option maxHeartbeats 4000000 in
set_option maxRecDepth 100000 in
theorem Pth.heavy_calls (v : Value) (l : List Pth.Part) (w : World) (hx : Eng.Reads w v l.length 2 (Pth.cellsP l)) : Calls Tryd.prog 80 #[v] w fun e w' => e = .returned (.bool (Pth.heavy l)) ∧ Below w.heap.size w w' := by
 have hu157 := Tryd.underlying157
 have hm := Eng.Reads.len_le hx
 refine Eng.enter Tryd.func80 rfl fun act0 d0 s0 v0 => ?_
 have s0 : act0.tmps.size = 19 := s0
 have h0_0 : act0.eval (.tmp 0) = v := v0 0 (by simp)
 clear v0
 have bl0 : Below w.heap.size w w := Below.refl _ _
 refine wp_seq ?_
 refine Eng.regionS (Eng.still [fun u_ => u_ = .bool false]) (fun _ => .plain) 1 0 19 s0 rfl (by kernel_rfl) (Eng.still_stable _) (Or.inr (Eng.still_any _)) ?_ ?_
 ·refine Eng.Steps.cons (fun _ => ?_) (Eng.Steps.nil)
  ·refine Eng.plain rfl rfl fun a w' H => ?_
   exact Eng.val (w1 := w') (v := .bool false) (Eng.run_assign rfl (rfl : a.eval (.const (.bool false)) = .bool false)) (Below.refl _ _) rfl
 intro act1 w1 T
 have h0_1 := (T.rest 0 (by kernel_rfl)).trans h0_0
 have Fin_1 := Eng.Reads.below hx T.below
 have d1 := T.defers.trans d0
 have s1 := T.size.trans s0
 have bl1 := bl0.trans (T.below.mono bl0.size)
 clear T
 refine Eng.tail_nil ?_
 refine wp_seq ?_
 refine wp_seq ?_
 refine Eng.regionS (Eng.still [fun u_ => u_ = v, fun u_ => u_ = .int .i64 ((l.length : Nat) : Int), fun u_ => u_ = .int .i64 0]) (fun _ => .plain) 3 0 19 s1 rfl (by kernel_rfl) (Eng.still_stable _) (Or.inr (Eng.still_any _)) ?_ ?_
 ·refine Eng.Steps.cons (fun _ => ?_) (Eng.Steps.cons (fun _ => ?_) (Eng.Steps.cons (fun _ => ?_) (Eng.Steps.nil)))
  ·refine Eng.plain rfl rfl fun a w' H => ?_
   exact Eng.val (w1 := w') (v := v) (Eng.run_move rfl ((H.kept 0 (by kernel_rfl)).trans h0_1)) (Below.refl _ _) rfl
  ·refine Eng.plain rfl rfl fun a w' H => ?_
   refine Eng.val (w1 := w') (v := .int .i64 ((l.length : Nat) : Int)) ?_ (Below.refl _ _) rfl
   exact Eng.run_len_sl rfl Tryd.underlying118 (show a.eval (.tmp 5) = v from (H.dep 0 5 (by kernel_rfl) rfl)) (Eng.Reads.below Fin_1 H.below)
  ·refine Eng.plain rfl rfl fun a w' H => ?_
   exact Eng.val (w1 := w') (v := .int .i64 0) (Eng.run_move rfl (rfl : a.eval (.const (.int .i64 0)) = .int .i64 0)) (Below.refl _ _) rfl
 intro act2 w2 T
 have h0_2 := (T.rest 0 (by kernel_rfl)).trans h0_1
 have h5_2 : act2.eval (.tmp 5) = v := T.done 0 5 rfl rfl
 have h6_2 : act2.eval (.tmp 6) = .int .i64 ((l.length : Nat) : Int) := T.done 1 6 rfl rfl
 have h7_2 : act2.eval (.tmp 7) = .int .i64 0 := T.done 2 7 rfl rfl
 have d2 := T.defers.trans d1
 have s2 := T.size.trans s1
 have bl2 := bl1.trans (T.below.mono bl1.size)
 clear T
 refine Eng.tail_nil ?_
 refine wp_block ?_
 refine Eng.loopN (fun n a w' => ∃ (k : Nat), l.length - k = n ∧ (k ≤ l.length) ∧ (∀ i, i < k → (l.getD i default).2.size ≤ 2000) ∧ a.defers = [] ∧ a.tmps.size = 19 ∧ Below w.heap.size w w' ∧ a.eval (.tmp 0) = v ∧ a.eval (.tmp 5) = v ∧ a.eval (.tmp 6) = .int .i64 ((l.length : Nat) : Int) ∧ a.eval (.tmp 7) = .int .i64 (k : Nat)) (n0 := l.length - 0) ?_ ?_
 ·exact ⟨0, rfl, by omega, fun i hi => absurd hi (by omega), d2, s2, bl2, h0_2, h5_2, h6_2, (h7_2.trans (by first | rfl | (congr 1; rw [Eng.i64_id (by omega) (by omega)]; omega) | (simp; done)))⟩
 rintro n act3 w3 ⟨k, rfl, hc0_3, hc1_3, d3, s3, bl3, h0_3, h5_3, h6_3, h7_3⟩
 have Fin_3 := Eng.Reads.below hx bl3
 have hk1 := hc0_3
 have hsm := hc1_3
 refine wp_seq ?_
 obtain ⟨q8, Bq8⟩ : ∃ b : Bool, b = (decide ((k : Nat) < ((l.length : Nat) : Int))) := ⟨_, rfl⟩
 refine Eng.regionS (Eng.still [fun u_ => u_ = .bool q8]) (fun _ => .plain) 1 0 19 s3 rfl (by kernel_rfl) (Eng.still_stable _) (Or.inr (Eng.still_any _)) ?_ ?_
 ·refine Eng.Steps.cons (fun _ => ?_) (Eng.Steps.nil)
  ·refine Eng.plain rfl rfl fun a w' H => ?_
   refine Eng.val (w1 := w') (v := .bool (decide ((k : Nat) < ((l.length : Nat) : Int)))) ?_ (Below.refl _ _) (by show _ = Value.bool q8; rw [Bq8])
   have e0 := ((H.kept 7 (by kernel_rfl)).trans h7_3)
   have e1 := ((H.kept 6 (by kernel_rfl)).trans h6_3)
   simp only [execOp, resolve, List.map_toArray, List.map_cons, List.map_nil, e0, e1]
   go_simp
 intro act4 w4 T
 have h0_4 := (T.rest 0 (by kernel_rfl)).trans h0_3
 have h5_4 := (T.rest 5 (by kernel_rfl)).trans h5_3
 have h6_4 := (T.rest 6 (by kernel_rfl)).trans h6_3
 have h7_4 := (T.rest 7 (by kernel_rfl)).trans h7_3
 have Fin_4 := Eng.Reads.below Fin_3 T.below
 have h8_4 : act4.eval (.tmp 8) = .bool q8 := T.done 0 8 rfl rfl
 have d4 := T.defers.trans d3
 have s4 := T.size.trans s3
 have bl4 := bl3.trans (T.below.mono bl3.size)
 clear T
 refine Eng.tail_nil ?_
 refine wp_seq ?_
 refine wp_cond_split h8_4 (fun hq => ?_) (fun hq => ?_)
 ·
  have c8 := Bq8.symm.trans hq
  clear hq
  have c8 := of_decide_eq_true c8
  have hk0 : k < l.length := by omega
  refine wp_skip ?_
  refine wp_seq ?_
  refine wp_block ?_
  refine wp_seq ?_
  refine Eng.regionS (Eng.still [fun u_ => u_ = Eng.elemPtr v (k * 2), fun u_ => u_ = .agg #[.int .i64 ((l.getD k default).1), .string ((l.getD k default).2)], fun u_ => True, fun u_ => True]) (fun i => ([.plain, .plain, .alloc 157 #[.int .i64 0, .string ⟨#[]⟩], .store 2 #[.int .i64 ((l.getD k default).1), .string ((l.getD k default).2)]] : List Eng.Kind).getD i .plain) 4 0 19 s4 rfl (by kernel_rfl) (Eng.still_stable _) (Or.inr (Eng.still_any _)) ?_ ?_
  ·refine Eng.Steps.cons (fun _ => ?_) (Eng.Steps.cons (fun _ => ?_) (Eng.Steps.cons (fun _ => ?_) (Eng.Steps.cons (fun _ => ?_) (Eng.Steps.nil))))
   ·refine Eng.plain rfl rfl fun a w' H => ?_
    refine Eng.val (w1 := w') (v := Eng.elemPtr v (k * 2)) ?_ (Below.refl _ _) rfl
    exact Eng.run_index_sl rfl Tryd.underlying118 (by kernel_rfl) (show a.eval (.tmp 5) = v from ((H.kept 5 (by kernel_rfl)).trans h5_4)) ((show a.eval (.tmp 7) = .int .i64 (k : Nat) from ((H.kept 7 (by kernel_rfl)).trans h7_4)).trans (congrArg (Value.int _) (show (k : Nat) = ((k : Nat) : Int) from by omega))) (Eng.Reads.below Fin_4 H.below) (by omega) rfl
   ·refine Eng.plain rfl rfl fun a w' H => ?_
    refine Eng.val (w1 := w') (v := .agg #[.int .i64 ((l.getD k default).1), .string ((l.getD k default).2)]) ?_ (Below.refl _ _) rfl
    exact Eng.run_load_els [.int .i64 ((l.getD k default).1), .string ((l.getD k default).2)] rfl (show a.eval (.tmp 9) = Eng.elemPtr v (k * 2) from (H.dep 0 9 (by kernel_rfl) rfl)) (Eng.Reads.below Fin_4 H.below) (Pth.cells_at l k (by omega)) rfl Tryd.underlying157 rfl (by kernel_rfl)
   ·refine Eng.made rfl (by simp) rfl (fun a w' hd ho => ?_) (fun _ _ => trivial)
    simp only [execOp]
    go_simp
   ·refine Eng.stored [.int .i64 ((l.getD k default).1), .string ((l.getD k default).2)] rfl rfl rfl (j := 2) (d := 4) (by kernel_rfl) rfl rfl (Eng.store_uniq (by kernel_rfl)) rfl rfl fun a w' g e hc hd ho => ?_
    have e0 : a.eval _ = .agg #[.int .i64 ((l.getD k default).1), .string ((l.getD k default).2)] := (hd 1 10 (by kernel_rfl) rfl)
    have z0 := (Eng.cells hc 0).trans rfl
    have z1 := (Eng.cells hc 1).trans rfl
    have f0 := Eng.unfrozen hc 0
    have f1 := Eng.unfrozen hc 1
    simp only [execOp, e, e0]
    go_simp
    rfl
  intro act6 w6 T
  have h0_6 := (T.rest 0 (by kernel_rfl)).trans h0_4
  have h5_6 := (T.rest 5 (by kernel_rfl)).trans h5_4
  have h6_6 := (T.rest 6 (by kernel_rfl)).trans h6_4
  have h7_6 := (T.rest 7 (by kernel_rfl)).trans h7_4
  obtain ⟨g4_6, h4_6, rg4_6, lg4_6_6, kg4_6_6⟩ := T.st 2 4 3 _ _ _ rfl rfl rfl rfl rfl
  have d6 := T.defers.trans d4
  have s6 := T.size.trans s4
  have bl6 := bl4.trans (T.below.mono bl4.size)
  clear T
  refine Eng.tail_nil ?_
  refine wp_seq ?_
  obtain ⟨q14, Bq14⟩ : ∃ b : Bool, b = (decide ((((l.getD k default).2).size : Int) > 2000)) := ⟨_, rfl⟩
  refine Eng.regionS (Eng.still [fun u_ => u_ = .pointer (some ⟨g4_6, 1, none⟩), fun u_ => u_ = .string ((l.getD k default).2), fun u_ => u_ = .int .i64 (((l.getD k default).2).size : Int), fun u_ => u_ = .bool q14]) (fun _ => .plain) 4 0 19 s6 rfl (by kernel_rfl) (Eng.still_stable _) (Or.inr (Eng.still_any _)) ?_ ?_
  ·refine Eng.Steps.cons (fun _ => ?_) (Eng.Steps.cons (fun _ => ?_) (Eng.Steps.cons (fun _ => ?_) (Eng.Steps.cons (fun _ => ?_) (Eng.Steps.nil))))
   ·refine Eng.plain rfl rfl fun a w' H => ?_
    refine Eng.val (w1 := w') (v := .pointer (some ⟨g4_6, 1, none⟩)) ?_ (Below.refl _ _) rfl
    have e0 := ((H.kept 4 (by kernel_rfl)).trans h4_6)
    simp only [execOp, resolve, List.map_toArray, List.map_cons, List.map_nil, e0]
    go_simp
   ·refine Eng.plain rfl rfl fun a w' H => ?_
    have kb := (H.below.block _ lg4_6_6).trans kg4_6_6
    have z0 : w'.cell? ⟨g4_6, 1, none⟩ = some (.string ((l.getD k default).2)) := (Eng.cells kb 1).trans rfl
    refine Eng.val (w1 := w') (v := .string ((l.getD k default).2)) ?_ (Below.refl _ _) rfl
    have e0 : a.eval (.tmp 11) = .pointer (some ⟨g4_6, 1, none⟩) := (H.dep 0 11 (by kernel_rfl) rfl)
    simp only [execOp, resolve, List.map_toArray, List.map_cons, List.map_nil, e0]
    go_simp
   ·refine Eng.plain rfl rfl fun a w' H => ?_
    refine Eng.val (w1 := w') (v := .int .i64 (((l.getD k default).2).size : Int)) ?_ (Below.refl _ _) rfl
    have e0 : a.eval (.tmp 12) = .string ((l.getD k default).2) := (H.dep 1 12 (by kernel_rfl) rfl)
    simp only [execOp, resolve, List.map_toArray, List.map_cons, List.map_nil, e0]
    go_simp
   ·refine Eng.plain rfl rfl fun a w' H => ?_
    refine Eng.val (w1 := w') (v := .bool (decide ((((l.getD k default).2).size : Int) > 2000))) ?_ (Below.refl _ _) (by show _ = Value.bool q14; rw [Bq14])
    have e0 : a.eval (.tmp 13) = .int .i64 (((l.getD k default).2).size : Int) := (H.dep 2 13 (by kernel_rfl) rfl)
    have e1 : a.eval (.const (.int .i64 2000)) = .int .i64 2000 := (rfl : a.eval (.const (.int .i64 2000)) = .int .i64 2000)
    simp only [execOp, resolve, List.map_toArray, List.map_cons, List.map_nil, e0, e1]
    go_simp
  intro act7 w7 T
  have h0_7 := (T.rest 0 (by kernel_rfl)).trans h0_6
  have h5_7 := (T.rest 5 (by kernel_rfl)).trans h5_6
  have h6_7 := (T.rest 6 (by kernel_rfl)).trans h6_6
  have h7_7 := (T.rest 7 (by kernel_rfl)).trans h7_6
  have h14_7 : act7.eval (.tmp 14) = .bool q14 := T.done 3 14 rfl rfl
  have d7 := T.defers.trans d6
  have s7 := T.size.trans s6
  have bl7 := bl6.trans (T.below.mono bl6.size)
  clear T
  refine Eng.tail_nil ?_
  refine wp_cond_split h14_7 (fun hq => ?_) (fun hq => ?_)
  ·
   have c14 := Bq14.symm.trans hq
   clear hq
   have c14 := of_decide_eq_true c14
   refine wp_seq ?_
   refine Eng.regionS (Eng.still [fun u_ => u_ = .bool true]) (fun _ => .plain) 1 0 19 s7 rfl (by kernel_rfl) (Eng.still_stable _) (Or.inr (Eng.still_any _)) ?_ ?_
   ·refine Eng.Steps.cons (fun _ => ?_) (Eng.Steps.nil)
    ·refine Eng.plain rfl rfl fun a w' H => ?_
     exact Eng.val (w1 := w') (v := .bool true) (Eng.run_assign rfl (rfl : a.eval (.const (.bool true)) = .bool true)) (Below.refl _ _) rfl
   intro act9 w9 T
   have h2_9 : act9.eval (.tmp 2) = .bool true := T.done 0 2 rfl rfl
   have d9 := T.defers.trans d7
   have bl9 := bl7.trans (T.below.mono bl7.size)
   clear T
   refine Eng.tail_nil ?_
   refine wp_ret ?_
   repeat (first | refine Eng.in_ret ?_ | refine Eng.then_ret ?_)
   exact Eng.ret1 rfl d9 h2_9 ⟨congrArg _ (congrArg _ (Pth.heavy_at hk0 (by omega)).symm), bl9⟩
  ·
   have c14 := Bq14.symm.trans hq
   clear hq
   have c14 := of_decide_eq_false c14
   refine wp_skip ?_
   refine Eng.regionS (Eng.still [fun u_ => u_ = .int .i64 (IntKind.i64.wrap ((k : Nat) + 1)), fun u_ => u_ = .int .i64 (IntKind.i64.wrap ((k : Nat) + 1))]) (fun _ => .plain) 2 0 19 s7 rfl (by kernel_rfl) (Eng.still_stable _) (Or.inr (Eng.still_any _)) ?_ ?_
   ·refine Eng.Steps.cons (fun _ => ?_) (Eng.Steps.cons (fun _ => ?_) (Eng.Steps.nil))
    ·refine Eng.plain rfl rfl fun a w' H => ?_
     refine Eng.val (w1 := w') (v := .int .i64 (IntKind.i64.wrap ((k : Nat) + 1))) ?_ (Below.refl _ _) rfl
     have e0 := ((H.kept 7 (by kernel_rfl)).trans h7_7)
     have e1 : a.eval (.const (.int .i64 1)) = .int .i64 1 := (rfl : a.eval (.const (.int .i64 1)) = .int .i64 1)
     simp only [execOp, resolve, List.map_toArray, List.map_cons, List.map_nil, e0, e1]
     go_simp
    ·refine Eng.plain rfl rfl fun a w' H => ?_
     exact Eng.val (w1 := w') (v := .int .i64 (IntKind.i64.wrap ((k : Nat) + 1))) (Eng.run_move rfl (H.dep 0 15 (by kernel_rfl) rfl)) (Below.refl _ _) rfl
   intro act11 w11 T
   have h0_11 := (T.rest 0 (by kernel_rfl)).trans h0_7
   have h5_11 := (T.rest 5 (by kernel_rfl)).trans h5_7
   have h6_11 := (T.rest 6 (by kernel_rfl)).trans h6_7
   have h7_11 : act11.eval (.tmp 7) = .int .i64 (IntKind.i64.wrap ((k : Nat) + 1)) := T.done 1 7 rfl rfl
   have d11 := T.defers.trans d7
   have s11 := T.size.trans s7
   have bl11 := bl7.trans (T.below.mono bl7.size)
   clear T
   refine Eng.tail_nil ?_
   exact ⟨_, by omega, k + 1, rfl, by omega, Pth.light_succ hsm (by omega), d11, s11, bl11, h0_11, h5_11, h6_11, (h7_11.trans (by first | rfl | (congr 1; rw [Eng.i64_id (by omega) (by omega)]; omega) | (simp; done)))⟩
 ·
  have c8 := Bq8.symm.trans hq
  clear hq
  have c8 := of_decide_eq_false c8
  have hke : k = l.length := by omega
  refine wp_exit ?_
  refine wp_seq ?_
  obtain ⟨q18, Bq18⟩ : ∃ b : Bool, b = (decide (((l.length : Nat) : Int) > 40)) := ⟨_, rfl⟩
  refine Eng.regionS (Eng.still [fun u_ => u_ = v, fun u_ => u_ = .int .i64 ((l.length : Nat) : Int), fun u_ => u_ = .bool q18, fun u_ => u_ = .bool q18]) (fun _ => .plain) 4 0 19 s4 rfl (by kernel_rfl) (Eng.still_stable _) (Or.inr (Eng.still_any _)) ?_ ?_
  ·refine Eng.Steps.cons (fun _ => ?_) (Eng.Steps.cons (fun _ => ?_) (Eng.Steps.cons (fun _ => ?_) (Eng.Steps.cons (fun _ => ?_) (Eng.Steps.nil))))
   ·refine Eng.plain rfl rfl fun a w' H => ?_
    exact Eng.val (w1 := w') (v := v) (Eng.run_move rfl ((H.kept 0 (by kernel_rfl)).trans h0_4)) (Below.refl _ _) rfl
   ·refine Eng.plain rfl rfl fun a w' H => ?_
    refine Eng.val (w1 := w') (v := .int .i64 ((l.length : Nat) : Int)) ?_ (Below.refl _ _) rfl
    exact Eng.run_len_sl rfl Tryd.underlying118 (show a.eval (.tmp 16) = v from (H.dep 0 16 (by kernel_rfl) rfl)) (Eng.Reads.below Fin_4 H.below)
   ·refine Eng.plain rfl rfl fun a w' H => ?_
    refine Eng.val (w1 := w') (v := .bool (decide (((l.length : Nat) : Int) > 40))) ?_ (Below.refl _ _) (by show _ = Value.bool q18; rw [Bq18])
    have e0 : a.eval (.tmp 17) = .int .i64 ((l.length : Nat) : Int) := (H.dep 1 17 (by kernel_rfl) rfl)
    have e1 : a.eval (.const (.int .i64 40)) = .int .i64 40 := (rfl : a.eval (.const (.int .i64 40)) = .int .i64 40)
    simp only [execOp, resolve, List.map_toArray, List.map_cons, List.map_nil, e0, e1]
    go_simp
   ·refine Eng.plain rfl rfl fun a w' H => ?_
    exact Eng.val (w1 := w') (v := .bool q18) (Eng.run_assign rfl (H.dep 2 18 (by kernel_rfl) rfl)) (Below.refl _ _) rfl
  intro act13 w13 T
  have h2_13 : act13.eval (.tmp 2) = .bool q18 := T.done 3 2 rfl rfl
  have d13 := T.defers.trans d4
  have bl13 := bl4.trans (T.below.mono bl4.size)
  clear T
  refine Eng.tail_nil ?_
  refine wp_ret ?_
  repeat (first | refine Eng.in_ret ?_ | refine Eng.then_ret ?_)
  exact Eng.ret1 rfl d13 (h2_13.trans (by rw [Bq18, Pth.heavy_all (fun i hi => hsm i (by omega))]; simp; omega)) ⟨rfl, bl13⟩
end Go.Proofs.YthgafcaoibfchaaDoor.X
end
section
namespace Go.Proofs.YthgafcaoibfchaaDoor.X
open Go.RowKit Go.Shelf Go.Proofs Go.Proofs.YthgafcaoibfchaaDoorW.PrintWords Go.Proofs.YthgafcaoibfchaaDoorW.PrintLast Go.Proofs.YthgafcaoibfchaaDoorW.PrintMore
set_option linter.unusedVariables false
set_option linter.unusedSimpArgs false
set_option maxHeartbeats 4000000 in
set_option maxRecDepth 100000 in
theorem Pth.heavies_calls (pv : Value) (ps : List (List Pth.Part)) (vs : List Value) (w : World) (hvl : vs.length = ps.length) (hp : Eng.Reads w pv ps.length 1 vs) (hin : ∀ k, k < ps.length → Eng.Reads w (vs.getD k undef) (ps.getD k []).length 2 (Pth.cellsP (ps.getD k []))) : Calls Tryd.prog 38 #[pv] w fun e w' => e = .returned (.bool (Pth.heavies ps)) ∧ Below w.heap.size w w' := by
 have hm := Eng.Reads.len_le hp
 refine Eng.enter Tryd.func38 rfl fun act0 d0 s0 v0 => ?_
 have s0 : act0.tmps.size = 17 := s0
 have h0_0 : act0.eval (.tmp 0) = pv := v0 0 (by simp)
 clear v0
 have bl0 : Below w.heap.size w w := Below.refl _ _
 refine wp_seq ?_
 refine Eng.regionS (Eng.still [fun u_ => u_ = .bool false]) (fun _ => .plain) 1 0 17 s0 rfl (by kernel_rfl) (Eng.still_stable _) (Or.inr (Eng.still_any _)) ?_ ?_
 ·refine Eng.Steps.cons (fun _ => ?_) (Eng.Steps.nil)
  ·refine Eng.plain rfl rfl fun a w' H => ?_
   exact Eng.val (w1 := w') (v := .bool false) (Eng.run_assign rfl (rfl : a.eval (.const (.bool false)) = .bool false)) (Below.refl _ _) rfl
 intro act1 w1 T
 have h0_1 := (T.rest 0 (by kernel_rfl)).trans h0_0
 have Fpp_1 := Eng.Reads.below hp T.below
 have d1 := T.defers.trans d0
 have s1 := T.size.trans s0
 have bl1 := bl0.trans (T.below.mono bl0.size)
 clear T
 refine Eng.tail_nil ?_
 refine wp_seq ?_
 refine wp_seq ?_
 refine Eng.regionS (Eng.still [fun u_ => u_ = pv, fun u_ => u_ = .int .i64 ((ps.length : Nat) : Int), fun u_ => u_ = .int .i64 0]) (fun _ => .plain) 3 0 17 s1 rfl (by kernel_rfl) (Eng.still_stable _) (Or.inr (Eng.still_any _)) ?_ ?_
 ·refine Eng.Steps.cons (fun _ => ?_) (Eng.Steps.cons (fun _ => ?_) (Eng.Steps.cons (fun _ => ?_) (Eng.Steps.nil)))
  ·refine Eng.plain rfl rfl fun a w' H => ?_
   exact Eng.val (w1 := w') (v := pv) (Eng.run_move rfl ((H.kept 0 (by kernel_rfl)).trans h0_1)) (Below.refl _ _) rfl
  ·refine Eng.plain rfl rfl fun a w' H => ?_
   refine Eng.val (w1 := w') (v := .int .i64 ((ps.length : Nat) : Int)) ?_ (Below.refl _ _) rfl
   exact Eng.run_len_sl rfl Tryd.underlying59 (show a.eval (.tmp 5) = pv from (H.dep 0 5 (by kernel_rfl) rfl)) (Eng.Reads.below Fpp_1 H.below)
  ·refine Eng.plain rfl rfl fun a w' H => ?_
   exact Eng.val (w1 := w') (v := .int .i64 0) (Eng.run_move rfl (rfl : a.eval (.const (.int .i64 0)) = .int .i64 0)) (Below.refl _ _) rfl
 intro act2 w2 T
 have h0_2 := (T.rest 0 (by kernel_rfl)).trans h0_1
 have h5_2 : act2.eval (.tmp 5) = pv := T.done 0 5 rfl rfl
 have h6_2 : act2.eval (.tmp 6) = .int .i64 ((ps.length : Nat) : Int) := T.done 1 6 rfl rfl
 have h7_2 : act2.eval (.tmp 7) = .int .i64 0 := T.done 2 7 rfl rfl
 have d2 := T.defers.trans d1
 have s2 := T.size.trans s1
 have bl2 := bl1.trans (T.below.mono bl1.size)
 clear T
 refine Eng.tail_nil ?_
 refine wp_block ?_
 refine Eng.loopN (fun n a w' => ∃ (k : Nat), ps.length - k = n ∧ (k ≤ ps.length) ∧ (∀ i, i < k → Pth.heavy (ps.getD i []) = false) ∧ a.defers = [] ∧ a.tmps.size = 17 ∧ Below w.heap.size w w' ∧ a.eval (.tmp 0) = pv ∧ a.eval (.tmp 5) = pv ∧ a.eval (.tmp 6) = .int .i64 ((ps.length : Nat) : Int) ∧ a.eval (.tmp 7) = .int .i64 (k : Nat)) (n0 := ps.length - 0) ?_ ?_
 ·exact ⟨0, rfl, by omega, fun i hi => absurd hi (by omega), d2, s2, bl2, h0_2, h5_2, h6_2, (h7_2.trans (by first | rfl | (congr 1; rw [Eng.i64_id (by omega) (by omega)]; omega) | (simp; done)))⟩
 rintro n act3 w3 ⟨k, rfl, hc0_3, hc1_3, d3, s3, bl3, h0_3, h5_3, h6_3, h7_3⟩
 have Fpp_3 := Eng.Reads.below hp bl3
 have hk1 := hc0_3
 have hsm := hc1_3
 refine wp_seq ?_
 obtain ⟨q8, Bq8⟩ : ∃ b : Bool, b = (decide ((k : Nat) < ((ps.length : Nat) : Int))) := ⟨_, rfl⟩
 refine Eng.regionS (Eng.still [fun u_ => u_ = .bool q8]) (fun _ => .plain) 1 0 17 s3 rfl (by kernel_rfl) (Eng.still_stable _) (Or.inr (Eng.still_any _)) ?_ ?_
 ·refine Eng.Steps.cons (fun _ => ?_) (Eng.Steps.nil)
  ·refine Eng.plain rfl rfl fun a w' H => ?_
   refine Eng.val (w1 := w') (v := .bool (decide ((k : Nat) < ((ps.length : Nat) : Int)))) ?_ (Below.refl _ _) (by show _ = Value.bool q8; rw [Bq8])
   have e0 := ((H.kept 7 (by kernel_rfl)).trans h7_3)
   have e1 := ((H.kept 6 (by kernel_rfl)).trans h6_3)
   simp only [execOp, resolve, e0, e1]
   go_simp
 intro act4 w4 T
 have h0_4 := (T.rest 0 (by kernel_rfl)).trans h0_3
 have h5_4 := (T.rest 5 (by kernel_rfl)).trans h5_3
 have h6_4 := (T.rest 6 (by kernel_rfl)).trans h6_3
 have h7_4 := (T.rest 7 (by kernel_rfl)).trans h7_3
 have Fpp_4 := Eng.Reads.below Fpp_3 T.below
 have h8_4 : act4.eval (.tmp 8) = .bool q8 := T.done 0 8 rfl rfl
 have d4 := T.defers.trans d3
 have s4 := T.size.trans s3
 have bl4 := bl3.trans (T.below.mono bl3.size)
 clear T
 refine Eng.tail_nil ?_
 refine wp_seq ?_
 refine wp_cond_split h8_4 (fun hq => ?_) (fun hq => ?_)
 ·
  have c8 := Bq8.symm.trans hq
  clear hq
  have c8 := of_decide_eq_true c8
  have hk0 : k < ps.length := by omega
  have Fin0 := hin k hk0
  have hmi := Eng.Reads.len_le Fin0
  have Finn6 := Eng.Reads.below Fin0 bl4
  refine wp_skip ?_
  refine wp_seq ?_
  refine wp_block ?_
  refine wp_seq ?_
  refine Eng.regionS (Eng.still [fun u_ => u_ = Eng.elemPtr pv (k * 1), fun u_ => u_ = (vs.getD k undef), fun u_ => u_ = (vs.getD k undef)]) (fun _ => .plain) 3 0 17 s4 rfl (by kernel_rfl) (Eng.still_stable _) (Or.inr (Eng.still_any _)) ?_ ?_
  ·refine Eng.Steps.cons (fun _ => ?_) (Eng.Steps.cons (fun _ => ?_) (Eng.Steps.cons (fun _ => ?_) (Eng.Steps.nil)))
   ·refine Eng.plain rfl rfl fun a w' H => ?_
    refine Eng.val (w1 := w') (v := Eng.elemPtr pv (k * 1)) ?_ (Below.refl _ _) rfl
    exact Eng.run_index_sl rfl Tryd.underlying59 (by kernel_rfl) (show a.eval (.tmp 5) = pv from ((H.kept 5 (by kernel_rfl)).trans h5_4)) ((show a.eval (.tmp 7) = .int .i64 (k : Nat) from ((H.kept 7 (by kernel_rfl)).trans h7_4)).trans (congrArg (Value.int _) (show (k : Nat) = ((k : Nat) : Int) from by omega))) (Eng.Reads.below Fpp_4 H.below) (by omega) rfl
   ·refine Eng.plain rfl rfl fun a w' H => ?_
    refine Eng.val (w1 := w') (v := (vs.getD k undef)) ?_ (Below.refl _ _) rfl
    exact Eng.run_load_el ((vs.getD k undef)) rfl (show a.eval (.tmp 9) = Eng.elemPtr pv (k * 1) from (H.dep 0 9 (by kernel_rfl) rfl)) (Eng.Reads.below Fpp_4 H.below) (Nfa.at_one vs hvl (by omega)) (by kernel_rfl)
   ·refine Eng.plain rfl rfl fun a w' H => ?_
    exact Eng.val (w1 := w') (v := (vs.getD k undef)) (Eng.run_assign rfl (H.dep 1 10 (by kernel_rfl) rfl)) (Below.refl _ _) rfl
  intro act7 w7 T
  have h0_7 := (T.rest 0 (by kernel_rfl)).trans h0_4
  have h5_7 := (T.rest 5 (by kernel_rfl)).trans h5_4
  have h6_7 := (T.rest 6 (by kernel_rfl)).trans h6_4
  have h7_7 := (T.rest 7 (by kernel_rfl)).trans h7_4
  have Finn_7 := Eng.Reads.below Finn6 T.below
  have h4_7 : act7.eval (.tmp 4) = (vs.getD k undef) := T.done 2 4 rfl rfl
  have d7 := T.defers.trans d4
  have s7 := T.size.trans s4
  have bl7 := bl4.trans (T.below.mono bl4.size)
  clear T
  refine Eng.tail_nil ?_
  refine wp_seq ?_
  obtain ⟨q12, Bq12⟩ : ∃ b : Bool, b = (Pth.heavy (ps.getD k [])) := ⟨_, rfl⟩
  refine Eng.regionS (Eng.still [fun u_ => u_ = (vs.getD k undef), fun u_ => u_ = .bool q12]) (fun _ => .plain) 2 0 17 s7 rfl (by kernel_rfl) (Eng.still_stable _) (Or.inr (Eng.still_any _)) ?_ ?_
  ·refine Eng.Steps.cons (fun _ => ?_) (Eng.Steps.cons (fun _ => ?_) (Eng.Steps.nil))
   ·refine Eng.plain rfl rfl fun a w' H => ?_
    exact Eng.val (w1 := w') (v := (vs.getD k undef)) (Eng.run_move rfl ((H.kept 4 (by kernel_rfl)).trans h4_7)) (Below.refl _ _) rfl
   ·refine Eng.plain rfl rfl fun a w' H => ?_
    refine Eng.call Tryd.func80 (by kernel_rfl) (by kernel_rfl) rfl #[(vs.getD k undef)] ?_ ?_
    ·have e0 : a.eval (.tmp 11) = (vs.getD k undef) := (H.dep 0 11 (by kernel_rfl) rfl); simp only [List.map_toArray, List.map_cons, List.map_nil, e0]
    refine (Pth.heavy_calls (vs.getD k undef) (ps.getD k []) _ (Eng.Reads.below Finn_7 H.below)).mono ?_
    rintro e w'' ⟨rfl, hb⟩
    exact ⟨_, rfl, (by show _ = Value.bool q12; rw [Bq12]), hb⟩
  intro act8 w8 T
  have h0_8 := (T.rest 0 (by kernel_rfl)).trans h0_7
  have h5_8 := (T.rest 5 (by kernel_rfl)).trans h5_7
  have h6_8 := (T.rest 6 (by kernel_rfl)).trans h6_7
  have h7_8 := (T.rest 7 (by kernel_rfl)).trans h7_7
  have h12_8 : act8.eval (.tmp 12) = .bool q12 := T.done 1 12 rfl rfl
  have d8 := T.defers.trans d7
  have s8 := T.size.trans s7
  have bl8 := bl7.trans (T.below.mono bl7.size)
  clear T
  refine Eng.tail_nil ?_
  refine wp_cond_split h12_8 (fun hq => ?_) (fun hq => ?_)
  ·
   have c12 := Bq12.symm.trans hq
   clear hq
   refine wp_seq ?_
   refine Eng.regionS (Eng.still [fun u_ => u_ = .bool true]) (fun _ => .plain) 1 0 17 s8 rfl (by kernel_rfl) (Eng.still_stable _) (Or.inr (Eng.still_any _)) ?_ ?_
   ·refine Eng.Steps.cons (fun _ => ?_) (Eng.Steps.nil)
    ·refine Eng.plain rfl rfl fun a w' H => ?_
     exact Eng.val (w1 := w') (v := .bool true) (Eng.run_assign rfl (rfl : a.eval (.const (.bool true)) = .bool true)) (Below.refl _ _) rfl
   intro act10 w10 T
   have h2_10 : act10.eval (.tmp 2) = .bool true := T.done 0 2 rfl rfl
   have d10 := T.defers.trans d8
   have bl10 := bl8.trans (T.below.mono bl8.size)
   clear T
   refine Eng.tail_nil ?_
   refine wp_ret ?_
   repeat (first | refine Eng.in_ret ?_ | refine Eng.then_ret ?_)
   exact Eng.ret1 rfl d10 h2_10 ⟨congrArg _ (congrArg _ (Pth.heavies_at hk0 c12).symm), bl10⟩
  ·
   have c12 := Bq12.symm.trans hq
   clear hq
   refine wp_skip ?_
   refine Eng.regionS (Eng.still [fun u_ => u_ = .int .i64 (IntKind.i64.wrap ((k : Nat) + 1)), fun u_ => u_ = .int .i64 (IntKind.i64.wrap ((k : Nat) + 1))]) (fun _ => .plain) 2 0 17 s8 rfl (by kernel_rfl) (Eng.still_stable _) (Or.inr (Eng.still_any _)) ?_ ?_
   ·refine Eng.Steps.cons (fun _ => ?_) (Eng.Steps.cons (fun _ => ?_) (Eng.Steps.nil))
    ·refine Eng.plain rfl rfl fun a w' H => ?_
     refine Eng.val (w1 := w') (v := .int .i64 (IntKind.i64.wrap ((k : Nat) + 1))) ?_ (Below.refl _ _) rfl
     have e0 := ((H.kept 7 (by kernel_rfl)).trans h7_8)
     have e1 : a.eval (.const (.int .i64 1)) = .int .i64 1 := (rfl : a.eval (.const (.int .i64 1)) = .int .i64 1)
     simp only [execOp, resolve, e0, e1]
     go_simp
    ·refine Eng.plain rfl rfl fun a w' H => ?_
     exact Eng.val (w1 := w') (v := .int .i64 (IntKind.i64.wrap ((k : Nat) + 1))) (Eng.run_move rfl (H.dep 0 13 (by kernel_rfl) rfl)) (Below.refl _ _) rfl
   intro act12 w12 T
   have h0_12 := (T.rest 0 (by kernel_rfl)).trans h0_8
   have h5_12 := (T.rest 5 (by kernel_rfl)).trans h5_8
   have h6_12 := (T.rest 6 (by kernel_rfl)).trans h6_8
   have h7_12 : act12.eval (.tmp 7) = .int .i64 (IntKind.i64.wrap ((k : Nat) + 1)) := T.done 1 7 rfl rfl
   have d12 := T.defers.trans d8
   have s12 := T.size.trans s8
   have bl12 := bl8.trans (T.below.mono bl8.size)
   clear T
   refine Eng.tail_nil ?_
   exact ⟨_, by omega, k + 1, rfl, by omega, Pth.lights_succ hsm c12, d12, s12, bl12, h0_12, h5_12, h6_12, (h7_12.trans (by first | rfl | (congr 1; rw [Eng.i64_id (by omega) (by omega)]; omega) | (simp; done)))⟩
 ·
  have c8 := Bq8.symm.trans hq
  clear hq
  have c8 := of_decide_eq_false c8
  have hke : k = ps.length := by omega
  refine wp_exit ?_
  refine wp_seq ?_
  obtain ⟨q16, Bq16⟩ : ∃ b : Bool, b = (decide (((ps.length : Nat) : Int) > 40)) := ⟨_, rfl⟩
  refine Eng.regionS (Eng.still [fun u_ => u_ = pv, fun u_ => u_ = .int .i64 ((ps.length : Nat) : Int), fun u_ => u_ = .bool q16, fun u_ => u_ = .bool q16]) (fun _ => .plain) 4 0 17 s4 rfl (by kernel_rfl) (Eng.still_stable _) (Or.inr (Eng.still_any _)) ?_ ?_
  ·refine Eng.Steps.cons (fun _ => ?_) (Eng.Steps.cons (fun _ => ?_) (Eng.Steps.cons (fun _ => ?_) (Eng.Steps.cons (fun _ => ?_) (Eng.Steps.nil))))
   ·refine Eng.plain rfl rfl fun a w' H => ?_
    exact Eng.val (w1 := w') (v := pv) (Eng.run_move rfl ((H.kept 0 (by kernel_rfl)).trans h0_4)) (Below.refl _ _) rfl
   ·refine Eng.plain rfl rfl fun a w' H => ?_
    refine Eng.val (w1 := w') (v := .int .i64 ((ps.length : Nat) : Int)) ?_ (Below.refl _ _) rfl
    exact Eng.run_len_sl rfl Tryd.underlying59 (show a.eval (.tmp 14) = pv from (H.dep 0 14 (by kernel_rfl) rfl)) (Eng.Reads.below Fpp_4 H.below)
   ·refine Eng.plain rfl rfl fun a w' H => ?_
    refine Eng.val (w1 := w') (v := .bool (decide (((ps.length : Nat) : Int) > 40))) ?_ (Below.refl _ _) (by show _ = Value.bool q16; rw [Bq16])
    have e0 : a.eval (.tmp 15) = .int .i64 ((ps.length : Nat) : Int) := (H.dep 1 15 (by kernel_rfl) rfl)
    have e1 : a.eval (.const (.int .i64 40)) = .int .i64 40 := (rfl : a.eval (.const (.int .i64 40)) = .int .i64 40)
    simp only [execOp, resolve, e0, e1]
    go_simp
   ·refine Eng.plain rfl rfl fun a w' H => ?_
    exact Eng.val (w1 := w') (v := .bool q16) (Eng.run_assign rfl (H.dep 2 16 (by kernel_rfl) rfl)) (Below.refl _ _) rfl
  intro act14 w14 T
  have h2_14 : act14.eval (.tmp 2) = .bool q16 := T.done 3 2 rfl rfl
  have d14 := T.defers.trans d4
  have bl14 := bl4.trans (T.below.mono bl4.size)
  clear T
  refine Eng.tail_nil ?_
  refine wp_ret ?_
  repeat (first | refine Eng.in_ret ?_ | refine Eng.then_ret ?_)
  exact Eng.ret1 rfl d14 (h2_14.trans (by rw [Bq16, Pth.heavies_all (fun i hi => hsm i (by omega))]; simp; omega)) ⟨rfl, bl14⟩
end Go.Proofs.YthgafcaoibfchaaDoor.X
end
