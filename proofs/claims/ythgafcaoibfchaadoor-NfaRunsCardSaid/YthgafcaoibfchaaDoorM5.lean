/- Words and walks that the row of NfaRuns needs: printed by programs, and plain laws. -/
import Derived.Test.YthgafcaoibfchaaDoorM3
import Derived.Test.YthgafcaoibfchaaDoorM4
import Derived.Test.YthgafcaoibfchaaDoorM2
namespace Go.Proofs.YthgafcaoibfchaaDoorW.PrintWords
end Go.Proofs.YthgafcaoibfchaaDoorW.PrintWords
namespace Go.Proofs.YthgafcaoibfchaaDoorW.PrintLast
end Go.Proofs.YthgafcaoibfchaaDoorW.PrintLast
namespace Go.Proofs.YthgafcaoibfchaaDoorW.PrintMore
end Go.Proofs.YthgafcaoibfchaaDoorW.PrintMore
section
namespace Go.Proofs.YthgafcaoibfchaaDoor.X
open Go.RowKit Go.Shelf Go.Proofs Go.Proofs.YthgafcaoibfchaaDoorW.PrintWords Go.Proofs.YthgafcaoibfchaaDoorW.PrintLast Go.Proofs.YthgafcaoibfchaaDoorW.PrintMore
set_option linter.unusedVariables false
set_option linter.unusedSimpArgs false
set_option maxHeartbeats 4000000 in
set_option maxRecDepth 100000 in
theorem Nfa.make_calls (pa : Value) (ps : List (List Pth.Part)) (us : List Value) (w : World) (hul : us.length = ps.length) (hp : Eng.Reads w pa ps.length 1 us) (hin : ∀ k, k < ps.length → Eng.Reads w (us.getD k undef) (ps.getD k []).length 2 (Pth.cellsP (ps.getD k []))) (hsz : ∀ k, k < ps.length → (ps.getD k []).length ≤ 5864062014634) (hpl : ps.length ≤ 5864062014634) (hst : ∀ k, k < ps.length → ∀ p ∈ ps.getD k [], p.2.size ≤ 9223372036854775807) (hT : Tabs.Holds w) : Calls Tryd.prog 36 #[pa] w fun e w' => ∃ pv bv vl m, e = .returned (.tuple #[.agg #[pv, bv, .int .i64 m], .int .i64 (Nfa.code ps)]) ∧ (Nfa.Slc pv ∧ Nfa.Slc bv) ∧ Nfa.Made w.heap.size pv bv ps vl m w' ∧ Below w.heap.size w w' := by
 have hm := Eng.Reads.len_le hp
 refine Eng.enter Tryd.func36 rfl fun act0 d0 s0 v0 => ?_
 have s0 : act0.tmps.size = 52 := s0
 have h0_0 : act0.eval (.tmp 0) = pa := v0 0 (by simp)
 clear v0
 have bl0 : Below w.heap.size w w := Below.refl _ _
 refine wp_seq ?_
 refine Eng.regionS (Eng.still [fun u_ => True, fun u_ => u_ = .int .i64 0]) (fun i => ([.alloc 65 #[.slice none 0 0, .slice none 0 0, .int .i64 0], .plain] : List Eng.Kind).getD i .plain) 2 0 52 s0 rfl (by kernel_rfl) (Eng.still_stable _) (Or.inr (Eng.still_any _)) ?_ ?_
 ·refine Eng.Steps.cons (fun _ => ?_) (Eng.Steps.cons (fun _ => ?_) (Eng.Steps.nil))
  ·refine Eng.made rfl (by simp) rfl (fun a w' hd ho => ?_) (fun _ _ => trivial)
   simp only [execOp]
   go_simp
  ·refine Eng.plain rfl rfl fun a w' H => ?_
   exact Eng.val (w1 := w') (v := .int .i64 0) (Eng.run_assign rfl (rfl : a.eval (.const (.int .i64 0)) = .int .i64 0)) (Below.refl _ _) rfl
 intro act1 w1 T
 have h0_1 := (T.rest 0 (by kernel_rfl)).trans h0_0
 have Fpp_1 := Eng.Reads.below hp T.below
 obtain ⟨g2_1, h2_1, rg2_1, lg2_1_1, kg2_1_1⟩ := T.al 0 2 _ _ rfl rfl rfl (by kernel_rfl)
 have og2_1 : w.heap.size ≤ g2_1 := Nat.le_trans bl0.size rg2_1
 have h3_1 : act1.eval (.tmp 3) = .int .i64 0 := T.done 1 3 rfl rfl
 have d1 := T.defers.trans d0
 have s1 := T.size.trans s0
 have bl1 := bl0.trans (T.below.mono bl0.size)
 clear T
 refine Eng.tail_nil ?_
 refine wp_seq ?_
 refine wp_seq ?_
 refine Eng.regionS (Eng.still [fun u_ => u_ = pa, fun u_ => u_ = .int .i64 ((ps.length : Nat) : Int), fun u_ => u_ = .int .i64 0]) (fun _ => .plain) 3 0 52 s1 rfl (by kernel_rfl) (Eng.still_stable _) (Or.inr (Eng.still_any _)) ?_ ?_
 ·refine Eng.Steps.cons (fun _ => ?_) (Eng.Steps.cons (fun _ => ?_) (Eng.Steps.cons (fun _ => ?_) (Eng.Steps.nil)))
  ·refine Eng.plain rfl rfl fun a w' H => ?_
   exact Eng.val (w1 := w') (v := pa) (Eng.run_move rfl ((H.kept 0 (by kernel_rfl)).trans h0_1)) (Below.refl _ _) rfl
  ·refine Eng.plain rfl rfl fun a w' H => ?_
   refine Eng.val (w1 := w') (v := .int .i64 ((ps.length : Nat) : Int)) ?_ (Below.refl _ _) rfl
   exact Eng.run_len_sl rfl Tryd.underlying62 (show a.eval (.tmp 8) = pa from (H.dep 0 8 (by kernel_rfl) rfl)) (Eng.Reads.below Fpp_1 H.below)
  ·refine Eng.plain rfl rfl fun a w' H => ?_
   exact Eng.val (w1 := w') (v := .int .i64 0) (Eng.run_move rfl (rfl : a.eval (.const (.int .i64 0)) = .int .i64 0)) (Below.refl _ _) rfl
 intro act2 w2 T
 have h0_2 := (T.rest 0 (by kernel_rfl)).trans h0_1
 have h2_2 := (T.rest 2 (by kernel_rfl)).trans h2_1
 have h3_2 := (T.rest 3 (by kernel_rfl)).trans h3_1
 have kg2_1_2 := (T.below.block _ lg2_1_1).trans kg2_1_1
 have lg2_1_2 := Nat.lt_of_lt_of_le lg2_1_1 T.below.size
 have h8_2 : act2.eval (.tmp 8) = pa := T.done 0 8 rfl rfl
 have h9_2 : act2.eval (.tmp 9) = .int .i64 ((ps.length : Nat) : Int) := T.done 1 9 rfl rfl
 have h10_2 : act2.eval (.tmp 10) = .int .i64 0 := T.done 2 10 rfl rfl
 have d2 := T.defers.trans d1
 have s2 := T.size.trans s1
 have bl2 := bl1.trans (T.below.mono bl1.size)
 clear T
 refine Eng.tail_nil ?_
 refine wp_block ?_
 refine Eng.loopN (fun n a w' => ∃ (k : Nat), ps.length - k = n ∧ (k ≤ ps.length) ∧ (∀ i, i < k → Pth.rightB (ps.getD i []) = true) ∧ a.defers = [] ∧ a.tmps.size = 52 ∧ Below w.heap.size w w' ∧ a.eval (.tmp 0) = pa ∧ a.eval (.tmp 2) = .pointer (some ⟨g2_1, 0, none⟩) ∧ a.eval (.tmp 3) = .int .i64 0 ∧ a.eval (.tmp 8) = pa ∧ a.eval (.tmp 9) = .int .i64 ((ps.length : Nat) : Int) ∧ a.eval (.tmp 10) = .int .i64 (k : Nat) ∧ w'.heap[g2_1]? = some (.cells (#[.slice none 0 0, .slice none 0 0, .int .i64 0]) 65 (0, 0)) ∧ g2_1 < w'.heap.size) (n0 := ps.length - 0) ?_ ?_
 ·exact ⟨0, rfl, by omega, fun i hi => absurd hi (by omega), d2, s2, bl2, h0_2, h2_2, (h3_2.trans (by first | rfl | (congr 1; rw [Eng.i64_id (by omega) (by omega)]; omega) | (simp; done))), h8_2, h9_2, (h10_2.trans (by first | rfl | (congr 1; rw [Eng.i64_id (by omega) (by omega)]; omega) | (simp; done))), kg2_1_2, lg2_1_2⟩
 rintro n act3 w3 ⟨k, rfl, hc0_3, hc1_3, d3, s3, bl3, h0_3, h2_3, h3_3, h8_3, h9_3, h10_3, kg2_1_3, lg2_1_3⟩
 have Fpp_3 := Eng.Reads.below hp bl3
 have hk1 := hc0_3
 have hr1 := hc1_3
 refine wp_seq ?_
 obtain ⟨q11, Bq11⟩ : ∃ b : Bool, b = (decide ((k : Nat) < ((ps.length : Nat) : Int))) := ⟨_, rfl⟩
 refine Eng.regionS (Eng.still [fun u_ => u_ = .bool q11]) (fun _ => .plain) 1 0 52 s3 rfl (by kernel_rfl) (Eng.still_stable _) (Or.inr (Eng.still_any _)) ?_ ?_
 ·refine Eng.Steps.cons (fun _ => ?_) (Eng.Steps.nil)
  ·refine Eng.plain rfl rfl fun a w' H => ?_
   refine Eng.val (w1 := w') (v := .bool (decide ((k : Nat) < ((ps.length : Nat) : Int)))) ?_ (Below.refl _ _) (by show _ = Value.bool q11; rw [Bq11])
   have e0 := ((H.kept 10 (by kernel_rfl)).trans h10_3)
   have e1 := ((H.kept 9 (by kernel_rfl)).trans h9_3)
   simp only [execOp, resolve, e0, e1]
   go_simp
 intro act4 w4 T
 have h0_4 := (T.rest 0 (by kernel_rfl)).trans h0_3
 have h2_4 := (T.rest 2 (by kernel_rfl)).trans h2_3
 have h3_4 := (T.rest 3 (by kernel_rfl)).trans h3_3
 have h8_4 := (T.rest 8 (by kernel_rfl)).trans h8_3
 have h9_4 := (T.rest 9 (by kernel_rfl)).trans h9_3
 have h10_4 := (T.rest 10 (by kernel_rfl)).trans h10_3
 have kg2_1_4 := (T.below.block _ lg2_1_3).trans kg2_1_3
 have lg2_1_4 := Nat.lt_of_lt_of_le lg2_1_3 T.below.size
 have Fpp_4 := Eng.Reads.below Fpp_3 T.below
 have h11_4 : act4.eval (.tmp 11) = .bool q11 := T.done 0 11 rfl rfl
 have d4 := T.defers.trans d3
 have s4 := T.size.trans s3
 have bl4 := bl3.trans (T.below.mono bl3.size)
 clear T
 refine Eng.tail_nil ?_
 refine wp_seq ?_
 refine wp_cond_split h11_4 (fun hq => ?_) (fun hq => ?_)
 ·
  have c11 := Bq11.symm.trans hq
  clear hq
  have c11 := of_decide_eq_true c11
  have hk0 : k < ps.length := by omega
  have Fin0 := hin k hk0
  have hmi := Eng.Reads.len_le Fin0
  have Finn6 := Eng.Reads.below Fin0 bl4
  refine wp_skip ?_
  refine wp_seq ?_
  refine wp_block ?_
  refine wp_seq ?_
  refine Eng.regionS (Eng.still [fun u_ => u_ = Eng.elemPtr pa (k * 1), fun u_ => u_ = (us.getD k undef), fun u_ => u_ = (us.getD k undef)]) (fun _ => .plain) 3 0 52 s4 rfl (by kernel_rfl) (Eng.still_stable _) (Or.inr (Eng.still_any _)) ?_ ?_
  ·refine Eng.Steps.cons (fun _ => ?_) (Eng.Steps.cons (fun _ => ?_) (Eng.Steps.cons (fun _ => ?_) (Eng.Steps.nil)))
   ·refine Eng.plain rfl rfl fun a w' H => ?_
    refine Eng.val (w1 := w') (v := Eng.elemPtr pa (k * 1)) ?_ (Below.refl _ _) rfl
    exact Eng.run_index_sl rfl Tryd.underlying62 (by kernel_rfl) (show a.eval (.tmp 8) = pa from ((H.kept 8 (by kernel_rfl)).trans h8_4)) ((show a.eval (.tmp 10) = .int .i64 (k : Nat) from ((H.kept 10 (by kernel_rfl)).trans h10_4)).trans (congrArg (Value.int _) (show (k : Nat) = ((k : Nat) : Int) from by omega))) (Eng.Reads.below Fpp_4 H.below) (by omega) rfl
   ·refine Eng.plain rfl rfl fun a w' H => ?_
    refine Eng.val (w1 := w') (v := (us.getD k undef)) ?_ (Below.refl _ _) rfl
    exact Eng.run_load_el ((us.getD k undef)) rfl (show a.eval (.tmp 12) = Eng.elemPtr pa (k * 1) from (H.dep 0 12 (by kernel_rfl) rfl)) (Eng.Reads.below Fpp_4 H.below) (Nfa.at_one us hul (by omega)) (by kernel_rfl)
   ·refine Eng.plain rfl rfl fun a w' H => ?_
    exact Eng.val (w1 := w') (v := (us.getD k undef)) (Eng.run_assign rfl (H.dep 1 13 (by kernel_rfl) rfl)) (Below.refl _ _) rfl
  intro act7 w7 T
  have h0_7 := (T.rest 0 (by kernel_rfl)).trans h0_4
  have h2_7 := (T.rest 2 (by kernel_rfl)).trans h2_4
  have h3_7 := (T.rest 3 (by kernel_rfl)).trans h3_4
  have h8_7 := (T.rest 8 (by kernel_rfl)).trans h8_4
  have h9_7 := (T.rest 9 (by kernel_rfl)).trans h9_4
  have h10_7 := (T.rest 10 (by kernel_rfl)).trans h10_4
  have kg2_1_7 := (T.below.block _ lg2_1_4).trans kg2_1_4
  have lg2_1_7 := Nat.lt_of_lt_of_le lg2_1_4 T.below.size
  have Finn_7 := Eng.Reads.below Finn6 T.below
  have h5_7 : act7.eval (.tmp 5) = (us.getD k undef) := T.done 2 5 rfl rfl
  have d7 := T.defers.trans d4
  have s7 := T.size.trans s4
  have bl7 := bl4.trans (T.below.mono bl4.size)
  clear T
  refine Eng.tail_nil ?_
  refine wp_seq ?_
  obtain ⟨q15, Bq15⟩ : ∃ b : Bool, b = (Pth.rightB (ps.getD k [])) := ⟨_, rfl⟩
  obtain ⟨q16, Bq16⟩ : ∃ b : Bool, b = (!q15) := ⟨_, rfl⟩
  refine Eng.regionS (Eng.still [fun u_ => u_ = (us.getD k undef), fun u_ => u_ = .bool q15, fun u_ => u_ = .bool q16]) (fun _ => .plain) 3 0 52 s7 rfl (by kernel_rfl) (Eng.still_stable _) (Or.inr (Eng.still_any _)) ?_ ?_
  ·refine Eng.Steps.cons (fun _ => ?_) (Eng.Steps.cons (fun _ => ?_) (Eng.Steps.cons (fun _ => ?_) (Eng.Steps.nil)))
   ·refine Eng.plain rfl rfl fun a w' H => ?_
    exact Eng.val (w1 := w') (v := (us.getD k undef)) (Eng.run_move rfl ((H.kept 5 (by kernel_rfl)).trans h5_7)) (Below.refl _ _) rfl
   ·refine Eng.plain rfl rfl fun a w' H => ?_
    refine Eng.call Tryd.func77 (by kernel_rfl) (by kernel_rfl) rfl #[(us.getD k undef)] ?_ ?_
    ·have e0 : a.eval (.tmp 14) = (us.getD k undef) := (H.dep 0 14 (by kernel_rfl) rfl); simp only [List.map_toArray, List.map_cons, List.map_nil, e0]
    refine (Pth.right_calls (us.getD k undef) (ps.getD k []) _ (Eng.Reads.below Finn_7 H.below) (by have := hsz k hk0; omega) (hst k hk0) (Tabs.below (Tabs.below hT bl7) H.below)).mono ?_
    rintro e w'' ⟨rfl, hb⟩
    exact ⟨_, rfl, (by show _ = Value.bool q15; rw [Bq15]), hb⟩
   ·refine Eng.plain rfl rfl fun a w' H => ?_
    exact Eng.val (w1 := w') (v := .bool (!q15)) (Eng.run_not rfl (H.dep 1 15 (by kernel_rfl) rfl)) (Below.refl _ _) (by show _ = Value.bool q16; rw [Bq16])
  intro act8 w8 T
  have h0_8 := (T.rest 0 (by kernel_rfl)).trans h0_7
  have h2_8 := (T.rest 2 (by kernel_rfl)).trans h2_7
  have h3_8 := (T.rest 3 (by kernel_rfl)).trans h3_7
  have h8_8 := (T.rest 8 (by kernel_rfl)).trans h8_7
  have h9_8 := (T.rest 9 (by kernel_rfl)).trans h9_7
  have h10_8 := (T.rest 10 (by kernel_rfl)).trans h10_7
  have kg2_1_8 := (T.below.block _ lg2_1_7).trans kg2_1_7
  have lg2_1_8 := Nat.lt_of_lt_of_le lg2_1_7 T.below.size
  have h16_8 : act8.eval (.tmp 16) = .bool q16 := T.done 2 16 rfl rfl
  have d8 := T.defers.trans d7
  have s8 := T.size.trans s7
  have bl8 := bl7.trans (T.below.mono bl7.size)
  clear T
  refine Eng.tail_nil ?_
  refine wp_cond_split h16_8 (fun hq => ?_) (fun hq => ?_)
  ·
   have c16 := Bq16.symm.trans hq
   clear hq
   have hbad : Pth.rightB (ps.getD k []) = false := by rw [Bq15] at c16; simpa using c16
   refine wp_seq ?_
   refine Eng.regionS (Eng.still [fun u_ => u_ = .agg #[.slice none 0 0, .slice none 0 0, .int .i64 0]]) (fun _ => .plain) 1 2 52 s8 rfl (by kernel_rfl) (Eng.still_stable _) (Or.inr (Eng.still_any _)) ?_ ?_
   ·refine Eng.Steps.cons (fun _ => ?_) (Eng.Steps.cons (fun hlt => ?_) (Eng.Steps.cons (fun hlt => ?_) (Eng.Steps.nil)))
    ·refine Eng.plain rfl rfl fun a w' H => ?_
     refine Eng.val (w1 := w') (v := .agg #[.slice none 0 0, .slice none 0 0, .int .i64 0]) ?_ (Below.refl _ _) rfl
     simp only [execOp, resolve]
     go_simp
    ·exact absurd hlt (by decide)
    ·exact absurd hlt (by decide)
   intro act10 w10 T
   have h2_10 := (T.rest 2 (by kernel_rfl)).trans h2_8
   have kg2_1_10 := (T.below.block _ lg2_1_8).trans kg2_1_8
   have h17_10 : act10.eval (.tmp 17) = .agg #[.slice none 0 0, .slice none 0 0, .int .i64 0] := T.done 0 17 rfl rfl
   have d10 := T.defers.trans d8
   have s10 := T.size.trans s8
   have bl10 := bl8.trans (T.below.mono bl8.size)
   clear T
   refine Eng.tail_put [.slice none 0 0, .slice none 0 0, .int .i64 0] (n := 0) (new := #[.slice none 0 0, .slice none 0 0, .int .i64 0]) rfl rfl rfl kg2_1_10 rfl ?_ fun w11 S => ?_
   ·have e0 : act10.eval (.tmp 2) = .pointer (some ⟨g2_1, 0, none⟩) := h2_10
    have e1 : act10.eval (.tmp 17) = .agg #[.slice none 0 0, .slice none 0 0, .int .i64 0] := h17_10
    have z0 := (Eng.cells kg2_1_10 (0)).trans (rfl)
    have f0 := Eng.unfrozen kg2_1_10 (0)
    have z1 := (Eng.cells kg2_1_10 (1)).trans (rfl)
    have f1 := Eng.unfrozen kg2_1_10 (1)
    have z2 := (Eng.cells kg2_1_10 (2)).trans (rfl)
    have f2 := Eng.unfrozen kg2_1_10 (2)
    simp only [execOp]
    rw [e0, e1]
    go_simp
    try rfl
   have kg2_1_11 := S.new
   have bl11 := S.below bl10 og2_1
   clear S
   refine Eng.tail_val rfl rfl rfl (Eng.run_assign rfl (rfl : act10.eval (.const (.int .i64 5)) = .int .i64 5)) s10 rfl fun act12 d12 s12 hv hr => ?_
   have h2_12 := (hr 2 rfl).trans h2_10
   have h3_12 : act12.eval (.tmp 3) = .int .i64 5 := hv
   have d12 := d12.trans d10
   clear hv hr
   refine Eng.tail_nil ?_
   refine wp_ret ?_
   repeat (first | refine Eng.in_ret ?_ | refine Eng.then_ret ?_)
   have hcode : Nfa.code ps = 5 := Nfa.code_at hk0 hbad
   exact Eng.retct rfl d12 h2_12 kg2_1_11 Tryd.underlying65 rfl (by kernel_rfl) h3_12 ⟨_, _, [], _, by rw [hcode], ⟨Nfa.Slc.nil, Nfa.Slc.nil⟩, fun h0 => absurd (hcode.symm.trans h0) (by decide), bl11⟩
  ·
   have c16 := Bq16.symm.trans hq
   clear hq
   have hgood : Pth.rightB (ps.getD k []) = true := by rw [Bq15] at c16; simpa using c16
   refine wp_skip ?_
   refine Eng.regionS (Eng.still [fun u_ => u_ = .int .i64 (IntKind.i64.wrap ((k : Nat) + 1)), fun u_ => u_ = .int .i64 (IntKind.i64.wrap ((k : Nat) + 1))]) (fun _ => .plain) 2 0 52 s8 rfl (by kernel_rfl) (Eng.still_stable _) (Or.inr (Eng.still_any _)) ?_ ?_
   ·refine Eng.Steps.cons (fun _ => ?_) (Eng.Steps.cons (fun _ => ?_) (Eng.Steps.nil))
    ·refine Eng.plain rfl rfl fun a w' H => ?_
     refine Eng.val (w1 := w') (v := .int .i64 (IntKind.i64.wrap ((k : Nat) + 1))) ?_ (Below.refl _ _) rfl
     have e0 := ((H.kept 10 (by kernel_rfl)).trans h10_8)
     have e1 : a.eval (.const (.int .i64 1)) = .int .i64 1 := (rfl : a.eval (.const (.int .i64 1)) = .int .i64 1)
     simp only [execOp, resolve, e0, e1]
     go_simp
    ·refine Eng.plain rfl rfl fun a w' H => ?_
     exact Eng.val (w1 := w') (v := .int .i64 (IntKind.i64.wrap ((k : Nat) + 1))) (Eng.run_move rfl (H.dep 0 18 (by kernel_rfl) rfl)) (Below.refl _ _) rfl
   intro act14 w14 T
   have h0_14 := (T.rest 0 (by kernel_rfl)).trans h0_8
   have h2_14 := (T.rest 2 (by kernel_rfl)).trans h2_8
   have h3_14 := (T.rest 3 (by kernel_rfl)).trans h3_8
   have h8_14 := (T.rest 8 (by kernel_rfl)).trans h8_8
   have h9_14 := (T.rest 9 (by kernel_rfl)).trans h9_8
   have kg2_1_14 := (T.below.block _ lg2_1_8).trans kg2_1_8
   have lg2_1_14 := Nat.lt_of_lt_of_le lg2_1_8 T.below.size
   have h10_14 : act14.eval (.tmp 10) = .int .i64 (IntKind.i64.wrap ((k : Nat) + 1)) := T.done 1 10 rfl rfl
   have d14 := T.defers.trans d8
   have s14 := T.size.trans s8
   have bl14 := bl8.trans (T.below.mono bl8.size)
   clear T
   refine Eng.tail_nil ?_
   exact ⟨_, by omega, k + 1, rfl, by omega, Nfa.rights_succ hr1 hgood, d14, s14, bl14, h0_14, h2_14, (h3_14.trans (by first | rfl | (congr 1; rw [Eng.i64_id (by omega) (by omega)]; omega) | (simp; done))), h8_14, h9_14, (h10_14.trans (by first | rfl | (congr 1; rw [Eng.i64_id (by omega) (by omega)]; omega) | (simp; done))), kg2_1_14, lg2_1_14⟩
 ·
  have c11 := Bq11.symm.trans hq
  clear hq
  have c11 := of_decide_eq_false c11
  have hall : ∀ i, i < ps.length → Pth.rightB (ps.getD i []) = true := fun i hi => hr1 i (by omega)
  refine wp_exit ?_
  refine wp_seq ?_
  refine wp_seq ?_
  refine Eng.regionS (Eng.still [fun u_ => u_ = pa, fun u_ => u_ = .int .i64 ((ps.length : Nat) : Int), fun u_ => u_ = .int .i64 0]) (fun _ => .plain) 3 0 52 s4 rfl (by kernel_rfl) (Eng.still_stable _) (Or.inr (Eng.still_any _)) ?_ ?_
  ·refine Eng.Steps.cons (fun _ => ?_) (Eng.Steps.cons (fun _ => ?_) (Eng.Steps.cons (fun _ => ?_) (Eng.Steps.nil)))
   ·refine Eng.plain rfl rfl fun a w' H => ?_
    exact Eng.val (w1 := w') (v := pa) (Eng.run_move rfl ((H.kept 0 (by kernel_rfl)).trans h0_4)) (Below.refl _ _) rfl
   ·refine Eng.plain rfl rfl fun a w' H => ?_
    refine Eng.val (w1 := w') (v := .int .i64 ((ps.length : Nat) : Int)) ?_ (Below.refl _ _) rfl
    exact Eng.run_len_sl rfl Tryd.underlying62 (show a.eval (.tmp 19) = pa from (H.dep 0 19 (by kernel_rfl) rfl)) (Eng.Reads.below Fpp_4 H.below)
   ·refine Eng.plain rfl rfl fun a w' H => ?_
    exact Eng.val (w1 := w') (v := .int .i64 0) (Eng.run_move rfl (rfl : a.eval (.const (.int .i64 0)) = .int .i64 0)) (Below.refl _ _) rfl
  intro act16 w16 T
  have h0_16 := (T.rest 0 (by kernel_rfl)).trans h0_4
  have h2_16 := (T.rest 2 (by kernel_rfl)).trans h2_4
  have h3_16 := (T.rest 3 (by kernel_rfl)).trans h3_4
  have h8_16 := (T.rest 8 (by kernel_rfl)).trans h8_4
  have h9_16 := (T.rest 9 (by kernel_rfl)).trans h9_4
  have h10_16 := (T.rest 10 (by kernel_rfl)).trans h10_4
  have h11_16 := (T.rest 11 (by kernel_rfl)).trans h11_4
  have kg2_1_16 := (T.below.block _ lg2_1_4).trans kg2_1_4
  have lg2_1_16 := Nat.lt_of_lt_of_le lg2_1_4 T.below.size
  have h19_16 : act16.eval (.tmp 19) = pa := T.done 0 19 rfl rfl
  have h20_16 : act16.eval (.tmp 20) = .int .i64 ((ps.length : Nat) : Int) := T.done 1 20 rfl rfl
  have h21_16 : act16.eval (.tmp 21) = .int .i64 0 := T.done 2 21 rfl rfl
  have d16 := T.defers.trans d4
  have s16 := T.size.trans s4
  have bl16 := bl4.trans (T.below.mono bl4.size)
  clear T
  refine Eng.tail_nil ?_
  refine wp_block ?_
  refine Eng.loopN (fun n a w' => ∃ (k2 : Nat) (pv : Value) (bv : Value) (vl : List Value), ps.length - k2 = n ∧ (k2 ≤ ps.length) ∧ (w'.ownsRow w.heap.size 82 1 pv vl.length vl) ∧ (w'.ownsRow w.heap.size 3 1 bv (Nfa.begs ps k2).length (Nfa.ints (Nfa.begs ps k2))) ∧ (vl.length = k2) ∧ (Pth.Each w.heap.size ps vl w') ∧ a.defers = [] ∧ a.tmps.size = 52 ∧ Below w.heap.size w w' ∧ a.eval (.tmp 0) = pa ∧ a.eval (.tmp 2) = .pointer (some ⟨g2_1, 0, none⟩) ∧ a.eval (.tmp 3) = .int .i64 0 ∧ a.eval (.tmp 8) = pa ∧ a.eval (.tmp 9) = .int .i64 ((ps.length : Nat) : Int) ∧ a.eval (.tmp 10) = .int .i64 (k : Nat) ∧ a.eval (.tmp 11) = .bool q11 ∧ a.eval (.tmp 19) = pa ∧ a.eval (.tmp 20) = .int .i64 ((ps.length : Nat) : Int) ∧ a.eval (.tmp 21) = .int .i64 (k2 : Nat) ∧ w'.heap[g2_1]? = some (.cells (#[pv, bv, .int .i64 (Nfa.many ps k2)]) 65 (0, 0)) ∧ g2_1 < w'.heap.size) (n0 := ps.length - 0) ?_ ?_
  ·exact ⟨0, .slice none 0 0, .slice none 0 0, [], rfl, by omega, World.ownsRow_nil _ _ _ _, World.ownsRow_nil _ _ _ _, rfl, Pth.Each.nil _ _ _, d16, s16, bl16, h0_16, h2_16, h3_16, h8_16, h9_16, h10_16, h11_16, h19_16, h20_16, (h21_16.trans (by first | rfl | (congr 1; rw [Eng.i64_id (by omega) (by omega)]; omega) | (simp; done))), (kg2_1_16.trans (by first | rfl | (simp; done))), lg2_1_16⟩
  rintro n act17 w17 ⟨k2, pv, bv, vl, rfl, hc0_17, hc1_17, hc2_17, hc3_17, hc4_17, d17, s17, bl17, h0_17, h2_17, h3_17, h8_17, h9_17, h10_17, h11_17, h19_17, h20_17, h21_17, kg2_1_17, lg2_1_17⟩
  have Fpp_17 := Eng.Reads.below hp bl17
  have hk2 := hc0_17
  have hvlk := hc3_17
  have Ftp_17 := Eng.Reads.of_own hc1_17
  have Ftb_17 := Eng.Reads.of_own hc2_17
  refine wp_seq ?_
  obtain ⟨q22, Bq22⟩ : ∃ b : Bool, b = (decide ((k2 : Nat) < ((ps.length : Nat) : Int))) := ⟨_, rfl⟩
  refine Eng.regionS (Eng.still [fun u_ => u_ = .bool q22]) (fun _ => .plain) 1 0 52 s17 rfl (by kernel_rfl) (Eng.still_stable _) (Or.inr (Eng.still_any _)) ?_ ?_
  ·refine Eng.Steps.cons (fun _ => ?_) (Eng.Steps.nil)
   ·refine Eng.plain rfl rfl fun a w' H => ?_
    refine Eng.val (w1 := w') (v := .bool (decide ((k2 : Nat) < ((ps.length : Nat) : Int)))) ?_ (Below.refl _ _) (by show _ = Value.bool q22; rw [Bq22])
    have e0 := ((H.kept 21 (by kernel_rfl)).trans h21_17)
    have e1 := ((H.kept 20 (by kernel_rfl)).trans h20_17)
    simp only [execOp, resolve, e0, e1]
    go_simp
  intro act18 w18 T
  have h0_18 := (T.rest 0 (by kernel_rfl)).trans h0_17
  have h2_18 := (T.rest 2 (by kernel_rfl)).trans h2_17
  have h3_18 := (T.rest 3 (by kernel_rfl)).trans h3_17
  have h8_18 := (T.rest 8 (by kernel_rfl)).trans h8_17
  have h9_18 := (T.rest 9 (by kernel_rfl)).trans h9_17
  have h10_18 := (T.rest 10 (by kernel_rfl)).trans h10_17
  have h11_18 := (T.rest 11 (by kernel_rfl)).trans h11_17
  have h19_18 := (T.rest 19 (by kernel_rfl)).trans h19_17
  have h20_18 := (T.rest 20 (by kernel_rfl)).trans h20_17
  have h21_18 := (T.rest 21 (by kernel_rfl)).trans h21_17
  have kg2_1_18 := (T.below.block _ lg2_1_17).trans kg2_1_17
  have lg2_1_18 := Nat.lt_of_lt_of_le lg2_1_17 T.below.size
  have Fpp_18 := Eng.Reads.below Fpp_17 T.below
  have Ftp_18 := Eng.Reads.below Ftp_17 T.below
  have Otp_18 := Eng.own_below hc1_17 T.below
  have Ftb_18 := Eng.Reads.below Ftb_17 T.below
  have Otb_18 := Eng.own_below hc2_17 T.below
  have h22_18 : act18.eval (.tmp 22) = .bool q22 := T.done 0 22 rfl rfl
  have d18 := T.defers.trans d17
  have s18 := T.size.trans s17
  have bl18 := bl17.trans (T.below.mono bl17.size)
  have XE_18 := Pth.Each.below hc4_17 T.below
  clear T
  refine Eng.tail_nil ?_
  refine wp_seq ?_
  refine wp_cond_split h22_18 (fun hq => ?_) (fun hq => ?_)
  ·
   have c22 := Bq22.symm.trans hq
   clear hq
   have c22 := of_decide_eq_true c22
   have hk0 : k2 < ps.length := by omega
   have Fin0 := hin k2 hk0
   have hmi := Eng.Reads.len_le Fin0
   have Finn20 := Eng.Reads.below Fin0 bl18
   refine wp_skip ?_
   refine wp_seq ?_
   refine wp_block ?_
   refine wp_seq ?_
   refine Eng.regionS (Eng.still [fun u_ => u_ = Eng.elemPtr pa (k2 * 1), fun u_ => u_ = (us.getD k2 undef), fun u_ => u_ = (us.getD k2 undef)]) (fun _ => .plain) 3 0 52 s18 rfl (by kernel_rfl) (Eng.still_stable _) (Or.inr (Eng.still_any _)) ?_ ?_
   ·refine Eng.Steps.cons (fun _ => ?_) (Eng.Steps.cons (fun _ => ?_) (Eng.Steps.cons (fun _ => ?_) (Eng.Steps.nil)))
    ·refine Eng.plain rfl rfl fun a w' H => ?_
     refine Eng.val (w1 := w') (v := Eng.elemPtr pa (k2 * 1)) ?_ (Below.refl _ _) rfl
     exact Eng.run_index_sl rfl Tryd.underlying62 (by kernel_rfl) (show a.eval (.tmp 19) = pa from ((H.kept 19 (by kernel_rfl)).trans h19_18)) ((show a.eval (.tmp 21) = .int .i64 (k2 : Nat) from ((H.kept 21 (by kernel_rfl)).trans h21_18)).trans (congrArg (Value.int _) (show (k2 : Nat) = ((k2 : Nat) : Int) from by omega))) (Eng.Reads.below Fpp_18 H.below) (by omega) rfl
    ·refine Eng.plain rfl rfl fun a w' H => ?_
     refine Eng.val (w1 := w') (v := (us.getD k2 undef)) ?_ (Below.refl _ _) rfl
     exact Eng.run_load_el ((us.getD k2 undef)) rfl (show a.eval (.tmp 23) = Eng.elemPtr pa (k2 * 1) from (H.dep 0 23 (by kernel_rfl) rfl)) (Eng.Reads.below Fpp_18 H.below) (Nfa.at_one us hul (by omega)) (by kernel_rfl)
    ·refine Eng.plain rfl rfl fun a w' H => ?_
     exact Eng.val (w1 := w') (v := (us.getD k2 undef)) (Eng.run_assign rfl (H.dep 1 24 (by kernel_rfl) rfl)) (Below.refl _ _) rfl
   intro act21 w21 T
   have h0_21 := (T.rest 0 (by kernel_rfl)).trans h0_18
   have h2_21 := (T.rest 2 (by kernel_rfl)).trans h2_18
   have h3_21 := (T.rest 3 (by kernel_rfl)).trans h3_18
   have h8_21 := (T.rest 8 (by kernel_rfl)).trans h8_18
   have h9_21 := (T.rest 9 (by kernel_rfl)).trans h9_18
   have h10_21 := (T.rest 10 (by kernel_rfl)).trans h10_18
   have h11_21 := (T.rest 11 (by kernel_rfl)).trans h11_18
   have h19_21 := (T.rest 19 (by kernel_rfl)).trans h19_18
   have h20_21 := (T.rest 20 (by kernel_rfl)).trans h20_18
   have h21_21 := (T.rest 21 (by kernel_rfl)).trans h21_18
   have kg2_1_21 := (T.below.block _ lg2_1_18).trans kg2_1_18
   have lg2_1_21 := Nat.lt_of_lt_of_le lg2_1_18 T.below.size
   have Otp_21 := Eng.own_below Otp_18 T.below
   have Otb_21 := Eng.own_below Otb_18 T.below
   have Finn_21 := Eng.Reads.below Finn20 T.below
   have h7_21 : act21.eval (.tmp 7) = (us.getD k2 undef) := T.done 2 7 rfl rfl
   have d21 := T.defers.trans d18
   have s21 := T.size.trans s18
   have bl21 := bl18.trans (T.below.mono bl18.size)
   have XE_21 := Pth.Each.below XE_18 T.below
   clear T
   refine Eng.tail_nil ?_
   refine wp_seq ?_
   refine Eng.regionD (Eng.tell [.still fun u_ => u_ = .pointer (some ⟨g2_1, 0, none⟩), .still fun u_ => u_ = pv, .still fun u_ => u_ = (us.getD k2 undef), .own w21.heap.size 115 2 (ps.getD k2 []).length (Pth.cellsP (ps.getD k2 [])), Eng.Tl.rowOne w21.heap.size 115 2 (ps.getD k2 []).length (Pth.cellsP (ps.getD k2 []))]) (fun i => ([.plain, .plain, .plain, .plain, .plain] : List Eng.Kind).getD i .plain) 5 3 52 (by kernel_rfl) s21 rfl (by kernel_rfl) (Eng.tell_stable _) (Or.inl (Eng.no_stores (by kernel_rfl))) ?_ ?_
   ·refine Eng.Steps.cons (fun _ => ?_) (Eng.Steps.cons (fun _ => ?_) (Eng.Steps.cons (fun _ => ?_) (Eng.Steps.cons (fun _ => ?_) (Eng.Steps.cons (fun _ => ?_) (Eng.Steps.cons (fun hlt => ?_) (Eng.Steps.cons (fun hlt => ?_) (Eng.Steps.cons (fun hlt => ?_) (Eng.Steps.nil))))))))
    ·refine Eng.plain rfl rfl fun a w' H => ?_
     refine Eng.val (w1 := w') (v := .pointer (some ⟨g2_1, 0, none⟩)) ?_ (Below.refl _ _) rfl
     have e0 := ((H.kept 2 (by kernel_rfl)).trans h2_21)
     simp only [execOp, resolve, e0]
     go_simp
    ·refine Eng.plain rfl rfl fun a w' H => ?_
     have kb := (H.below.block _ lg2_1_21).trans kg2_1_21
     have z0 : w'.cell? ⟨g2_1, 0, none⟩ = some (pv) := (Eng.cells kb 0).trans rfl
     refine Eng.val (w1 := w') (v := pv) ?_ (Below.refl _ _) rfl
     have e0 : a.eval (.tmp 25) = .pointer (some ⟨g2_1, 0, none⟩) := (H.dep 0 25 (by kernel_rfl) rfl)
     simp only [execOp, resolve, e0]
     go_simp
    ·refine Eng.plain rfl rfl fun a w' H => ?_
     exact Eng.val (w1 := w') (v := (us.getD k2 undef)) (Eng.run_move rfl ((H.kept 7 (by kernel_rfl)).trans h7_21)) (Below.refl _ _) rfl
    ·refine Eng.plain rfl rfl fun a w' H => ?_
     refine Eng.call Tryd.func78 (by kernel_rfl) (by kernel_rfl) rfl #[(us.getD k2 undef)] ?_ ?_
     ·have e0 : a.eval (.tmp 27) = (us.getD k2 undef) := (H.dep 2 27 (by kernel_rfl) rfl); simp only [List.map_toArray, List.map_cons, List.map_nil, e0]
     refine (Pth.clone_calls (us.getD k2 undef) (ps.getD k2 []) _ (Eng.Reads.below Finn_21 H.below) (hsz k2 hk0)).mono ?_
     rintro e w'' ⟨v, rfl, O, hb⟩
     exact ⟨_, rfl, Eng.own_mono O H.below.size, hb⟩
    ·refine Eng.plain rfl rfl fun a w' H => ?_
     refine Eng.val_ex (Eng.run_build1I (size := 1) (z := .slice none 0 0) [(a.eval (.tmp 28))] rfl Tryd.underlying62 (by kernel_rfl) rfl rfl rfl (by exact Pth.fill_one (show World.ownsRow w' w21.heap.size 115 2 (a.eval (.tmp 28)) (ps.getD k2 []).length (Pth.cellsP (ps.getD k2 [])) from H.dep 3 28 (by kernel_rfl) rfl)) rfl) fun v1 w'' R => ?_
     obtain ⟨F, hb⟩ := R
     exact ⟨hb, ⟨_, Eng.own_below (show World.ownsRow w' w21.heap.size 115 2 (a.eval (.tmp 28)) (ps.getD k2 []).length (Pth.cellsP (ps.getD k2 [])) from H.dep 3 28 (by kernel_rfl) rfl) hb, F⟩⟩
    ·exact absurd hlt (by decide)
    ·exact absurd hlt (by decide)
    ·exact absurd hlt (by decide)
   intro act22 w22 T
   have h0_22 := (T.rest 0 (by kernel_rfl)).trans h0_21
   have h2_22 := (T.rest 2 (by kernel_rfl)).trans h2_21
   have h3_22 := (T.rest 3 (by kernel_rfl)).trans h3_21
   have h7_22 := (T.rest 7 (by kernel_rfl)).trans h7_21
   have h8_22 := (T.rest 8 (by kernel_rfl)).trans h8_21
   have h9_22 := (T.rest 9 (by kernel_rfl)).trans h9_21
   have h10_22 := (T.rest 10 (by kernel_rfl)).trans h10_21
   have h11_22 := (T.rest 11 (by kernel_rfl)).trans h11_21
   have h19_22 := (T.rest 19 (by kernel_rfl)).trans h19_21
   have h20_22 := (T.rest 20 (by kernel_rfl)).trans h20_21
   have h21_22 := (T.rest 21 (by kernel_rfl)).trans h21_21
   have kg2_1_22 := (T.below.block _ lg2_1_21).trans kg2_1_21
   have lg2_1_22 := Nat.lt_of_lt_of_le lg2_1_21 T.below.size
   have Otp_22 := Eng.own_below Otp_21 T.below
   have Otb_22 := Eng.own_below Otb_21 T.below
   have h26_22 : act22.eval (.tmp 26) = pv := T.done 1 26 rfl rfl
   have OO29_22 := T.done 4 29 rfl rfl
   obtain ⟨v29_22, h29_22⟩ : ∃ v, act22.eval (.tmp 29) = v := ⟨_, rfl⟩
   have d22 := T.defers.trans d21
   have s22 := T.size.trans s21
   have bl22 := bl21.trans (T.below.mono bl21.size)
   have XE_22 := Pth.Each.below XE_21 T.below
   have OP29_22 : Eng.RowOne w21.heap.size 115 2 (ps.getD k2 []).length (Pth.cellsP (ps.getD k2 [])) v29_22 w22 := by rw [← h29_22]; exact OO29_22
   clear OO29_22
   obtain ⟨vc_22, Oc_22, Fc_22⟩ := OP29_22
   have Oe_22 := Eng.own_mono Oc_22 bl21.size
   clear T
   refine Eng.tail_ex rfl rfl rfl (Eng.run_appendT (z := .slice none 0 0) rfl Tryd.underlying62 (by kernel_rfl) rfl rfl h26_22 Otp_22 h29_22 Fc_22 (Pth.own_one Oe_22) (by omega) bl22.size) s22 rfl fun v_23 w23 act23 R d23 s23 hv hr => ?_
   obtain ⟨O_23, _, b_23, G_23, _⟩ := R
   have h0_23 := (hr 0 rfl).trans h0_22
   have h2_23 := (hr 2 rfl).trans h2_22
   have h3_23 := (hr 3 rfl).trans h3_22
   have h7_23 := (hr 7 rfl).trans h7_22
   have h8_23 := (hr 8 rfl).trans h8_22
   have h9_23 := (hr 9 rfl).trans h9_22
   have h10_23 := (hr 10 rfl).trans h10_22
   have h11_23 := (hr 11 rfl).trans h11_22
   have h19_23 := (hr 19 rfl).trans h19_22
   have h20_23 := (hr 20 rfl).trans h20_22
   have h21_23 := (hr 21 rfl).trans h21_22
   have h30_23 : act23.eval (.tmp 30) = v_23 := hv
   have d23 := d23.trans d22
   clear hv hr
   have kg2_1_23 := (G_23.block _ lg2_1_22 (Eng.own_ne Otp_22 kg2_1_22 rfl)).trans kg2_1_22
   have lg2_1_23 := Nat.lt_of_lt_of_le lg2_1_22 G_23.size
   have XE_23 := Pth.Each.grown XE_22 G_23 Otp_22
   have bl23 := bl22.trans b_23
   have Otb_23 := Pth.own_grown Otb_22 G_23 Otp_22 rfl
   have Ob29c_23 := Pth.own_grown Oe_22 G_23 Otp_22 rfl
   have Oa23 : w23.ownsRow w.heap.size 82 1 v_23 (vl ++ [vc_22]).length (vl ++ [vc_22]) := Pth.vals_cat (r := [_]) O_23
   have Fa23 := Eng.Reads.of_own Oa23
   refine Eng.tail_val (w1 := w23) (v := .pointer (some ⟨g2_1, 0, none⟩)) rfl rfl rfl ?_ s23 rfl ?_
   ·have e0 : act23.eval (.tmp 2) = .pointer (some ⟨g2_1, 0, none⟩) := h2_23
    simp only [execOp, resolve, e0]
    go_simp
   intro act24 d24 s24 hv hr
   have h0_24 := (hr 0 rfl).trans h0_23
   have h2_24 := (hr 2 rfl).trans h2_23
   have h3_24 := (hr 3 rfl).trans h3_23
   have h7_24 := (hr 7 rfl).trans h7_23
   have h8_24 := (hr 8 rfl).trans h8_23
   have h9_24 := (hr 9 rfl).trans h9_23
   have h10_24 := (hr 10 rfl).trans h10_23
   have h11_24 := (hr 11 rfl).trans h11_23
   have h19_24 := (hr 19 rfl).trans h19_23
   have h20_24 := (hr 20 rfl).trans h20_23
   have h21_24 := (hr 21 rfl).trans h21_23
   have h30_24 := (hr 30 rfl).trans h30_23
   have h31_24 : act24.eval (.tmp 31) = .pointer (some ⟨g2_1, 0, none⟩) := hv
   have d24 := d24.trans d23
   clear hv hr
   refine Eng.tail_set (n := 0) (v := v_23) (new := #[v_23, bv, .int .i64 (Nfa.many ps k2)]) rfl rfl rfl kg2_1_23 rfl ?_ fun w25 S => ?_
   ·have e0 : act24.eval (.tmp 31) = .pointer (some ⟨g2_1, 0, none⟩) := h31_24
    have e1 : act24.eval (.tmp 30) = v_23 := h30_24
    obtain ⟨A0_, c0_, ev0_⟩ := Eng.Reads.shape Fa23
    subst ev0_
    have z0 := (Eng.cells kg2_1_23 (0)).trans (rfl)
    have f0 := Eng.unfrozen kg2_1_23 (0)
    simp only [execOp]
    rw [e0, e1]
    go_simp
   have kg2_1_25 := S.new
   have lg2_1_25 := Nat.lt_of_lt_of_eq lg2_1_23 S.size.symm
   have bl25 := S.below bl23 og2_1
   have Otb_25 := Eng.own_sets Otb_23 S kg2_1_23 rfl
   have Ob29c_25 := Eng.own_sets Ob29c_23 S kg2_1_23 rfl
   have Oa23_25 := Eng.own_sets Oa23 S kg2_1_23 rfl
   have XE_25 := Pth.Each.sets XE_23 S kg2_1_23 rfl
   clear S
   refine Eng.tail_nil ?_
   refine wp_seq ?_
   refine Eng.regionT (n := 8) rfl ?_
   refine Eng.tail_val (w1 := w25) (v := .pointer (some ⟨g2_1, 1, none⟩)) rfl rfl rfl ?_ s24 rfl ?_
   ·have e0 : act24.eval (.tmp 2) = .pointer (some ⟨g2_1, 0, none⟩) := h2_24
    simp only [execOp, resolve, e0]
    go_simp
   intro act26 d26 s26 hv hr
   have h0_26 := (hr 0 rfl).trans h0_24
   have h2_26 := (hr 2 rfl).trans h2_24
   have h3_26 := (hr 3 rfl).trans h3_24
   have h7_26 := (hr 7 rfl).trans h7_24
   have h8_26 := (hr 8 rfl).trans h8_24
   have h9_26 := (hr 9 rfl).trans h9_24
   have h10_26 := (hr 10 rfl).trans h10_24
   have h11_26 := (hr 11 rfl).trans h11_24
   have h19_26 := (hr 19 rfl).trans h19_24
   have h20_26 := (hr 20 rfl).trans h20_24
   have h21_26 := (hr 21 rfl).trans h21_24
   have h32_26 : act26.eval (.tmp 32) = .pointer (some ⟨g2_1, 1, none⟩) := hv
   have d26 := d26.trans d24
   clear hv hr
   refine Eng.tail_val (w1 := w25) (v := bv) rfl rfl rfl ?_ s26 rfl ?_
   ·have kb := ((Below.refl _ _).block _ lg2_1_25).trans kg2_1_25
    have z0 : w25.cell? ⟨g2_1, 1, none⟩ = some (bv) := (Eng.cells kb 1).trans rfl
    have e0 : act26.eval (.tmp 32) = .pointer (some ⟨g2_1, 1, none⟩) := h32_26
    simp only [execOp, resolve, e0]
    go_simp
   intro act27 d27 s27 hv hr
   have h0_27 := (hr 0 rfl).trans h0_26
   have h2_27 := (hr 2 rfl).trans h2_26
   have h3_27 := (hr 3 rfl).trans h3_26
   have h7_27 := (hr 7 rfl).trans h7_26
   have h8_27 := (hr 8 rfl).trans h8_26
   have h9_27 := (hr 9 rfl).trans h9_26
   have h10_27 := (hr 10 rfl).trans h10_26
   have h11_27 := (hr 11 rfl).trans h11_26
   have h19_27 := (hr 19 rfl).trans h19_26
   have h20_27 := (hr 20 rfl).trans h20_26
   have h21_27 := (hr 21 rfl).trans h21_26
   have h33_27 : act27.eval (.tmp 33) = bv := hv
   have d27 := d27.trans d26
   clear hv hr
   refine Eng.tail_val (w1 := w25) (v := .pointer (some ⟨g2_1, 2, none⟩)) rfl rfl rfl ?_ s27 rfl ?_
   ·have e0 : act27.eval (.tmp 2) = .pointer (some ⟨g2_1, 0, none⟩) := h2_27
    simp only [execOp, resolve, e0]
    go_simp
   intro act28 d28 s28 hv hr
   have h0_28 := (hr 0 rfl).trans h0_27
   have h2_28 := (hr 2 rfl).trans h2_27
   have h3_28 := (hr 3 rfl).trans h3_27
   have h7_28 := (hr 7 rfl).trans h7_27
   have h8_28 := (hr 8 rfl).trans h8_27
   have h9_28 := (hr 9 rfl).trans h9_27
   have h10_28 := (hr 10 rfl).trans h10_27
   have h11_28 := (hr 11 rfl).trans h11_27
   have h19_28 := (hr 19 rfl).trans h19_27
   have h20_28 := (hr 20 rfl).trans h20_27
   have h21_28 := (hr 21 rfl).trans h21_27
   have h33_28 := (hr 33 rfl).trans h33_27
   have h34_28 : act28.eval (.tmp 34) = .pointer (some ⟨g2_1, 2, none⟩) := hv
   have d28 := d28.trans d27
   clear hv hr
   refine Eng.tail_val (w1 := w25) (v := .int .i64 (Nfa.many ps k2)) rfl rfl rfl ?_ s28 rfl ?_
   ·have kb := ((Below.refl _ _).block _ lg2_1_25).trans kg2_1_25
    have z0 : w25.cell? ⟨g2_1, 2, none⟩ = some (.int .i64 (Nfa.many ps k2)) := (Eng.cells kb 2).trans rfl
    have e0 : act28.eval (.tmp 34) = .pointer (some ⟨g2_1, 2, none⟩) := h34_28
    simp only [execOp, resolve, e0]
    go_simp
   intro act29 d29 s29 hv hr
   have h0_29 := (hr 0 rfl).trans h0_28
   have h2_29 := (hr 2 rfl).trans h2_28
   have h3_29 := (hr 3 rfl).trans h3_28
   have h7_29 := (hr 7 rfl).trans h7_28
   have h8_29 := (hr 8 rfl).trans h8_28
   have h9_29 := (hr 9 rfl).trans h9_28
   have h10_29 := (hr 10 rfl).trans h10_28
   have h11_29 := (hr 11 rfl).trans h11_28
   have h19_29 := (hr 19 rfl).trans h19_28
   have h20_29 := (hr 20 rfl).trans h20_28
   have h21_29 := (hr 21 rfl).trans h21_28
   have h33_29 := (hr 33 rfl).trans h33_28
   have h35_29 : act29.eval (.tmp 35) = .int .i64 (Nfa.many ps k2) := hv
   have d29 := d29.trans d28
   clear hv hr
   refine Eng.tail_ex rfl rfl rfl (Eng.run_buildN1 (z := .int .i64 0) [.int .i64 (Nfa.many ps k2)] rfl Tryd.underlying63 (by kernel_rfl) rfl rfl rfl rfl (by intro v hv; have h := List.mem_singleton.1 hv; rw [h]; exact rfl) (by have e0 : act29.eval (.tmp 35) = .int .i64 (Nfa.many ps k2) := h35_29; simp [e0])) s29 rfl fun v_30 w30 act30 R d30 s30 hv hr => ?_
   obtain ⟨F_30, b_30⟩ := R
   have h0_30 := (hr 0 rfl).trans h0_29
   have h2_30 := (hr 2 rfl).trans h2_29
   have h3_30 := (hr 3 rfl).trans h3_29
   have h7_30 := (hr 7 rfl).trans h7_29
   have h8_30 := (hr 8 rfl).trans h8_29
   have h9_30 := (hr 9 rfl).trans h9_29
   have h10_30 := (hr 10 rfl).trans h10_29
   have h11_30 := (hr 11 rfl).trans h11_29
   have h19_30 := (hr 19 rfl).trans h19_29
   have h20_30 := (hr 20 rfl).trans h20_29
   have h21_30 := (hr 21 rfl).trans h21_29
   have h33_30 := (hr 33 rfl).trans h33_29
   have h36_30 : act30.eval (.tmp 36) = v_30 := hv
   have d30 := d30.trans d29
   clear hv hr
   have kg2_1_30 := (b_30.block _ lg2_1_25).trans kg2_1_25
   have lg2_1_30 := Nat.lt_of_lt_of_le lg2_1_25 b_30.size
   have Otb_30 := Eng.own_below Otb_25 b_30
   have Ob29c_30 := Eng.own_below Ob29c_25 b_30
   have Oa23_30 := Eng.own_below Oa23_25 b_30
   have XE_30 := Pth.Each.below XE_25 b_30
   have bl30 := bl25.trans (b_30.mono bl25.size)
   refine Eng.tail_ex rfl rfl rfl (Eng.run_appendT (z := .int .i64 0) rfl Tryd.underlying63 (by kernel_rfl) rfl rfl h33_30 Otb_30 h36_30 F_30 (by intro u hu; simp at hu; subst hu; rfl) (by rw [Nfa.begs_len]; omega) bl30.size) s30 rfl fun v_31 w31 act31 R d31 s31 hv hr => ?_
   obtain ⟨O_31, _, b_31, G_31, _⟩ := R
   have h0_31 := (hr 0 rfl).trans h0_30
   have h2_31 := (hr 2 rfl).trans h2_30
   have h3_31 := (hr 3 rfl).trans h3_30
   have h7_31 := (hr 7 rfl).trans h7_30
   have h8_31 := (hr 8 rfl).trans h8_30
   have h9_31 := (hr 9 rfl).trans h9_30
   have h10_31 := (hr 10 rfl).trans h10_30
   have h11_31 := (hr 11 rfl).trans h11_30
   have h19_31 := (hr 19 rfl).trans h19_30
   have h20_31 := (hr 20 rfl).trans h20_30
   have h21_31 := (hr 21 rfl).trans h21_30
   have h37_31 : act31.eval (.tmp 37) = v_31 := hv
   have d31 := d31.trans d30
   clear hv hr
   have kg2_1_31 := (G_31.block _ lg2_1_30 (Eng.own_ne Otb_30 kg2_1_30 rfl)).trans kg2_1_30
   have lg2_1_31 := Nat.lt_of_lt_of_le lg2_1_30 G_31.size
   have XE_31 := Pth.Each.grownI XE_30 G_31 Otb_30
   have bl31 := bl30.trans b_31
   have Ob29c_31 := Pth.own_grown Ob29c_30 G_31 Otb_30 rfl
   have Oa23_31 := Pth.own_grown Oa23_30 G_31 Otb_30 rfl
   have Oa31 : w31.ownsRow w.heap.size 3 1 v_31 (Nfa.begs ps (k2 + 1)).length (Nfa.ints (Nfa.begs ps (k2 + 1))) := (by rw [Nfa.begs_succ]; exact Nfa.ints_cat (r := [_]) O_31)
   have Fa31 := Eng.Reads.of_own Oa31
   refine Eng.tail_val (w1 := w31) (v := .pointer (some ⟨g2_1, 1, none⟩)) rfl rfl rfl ?_ s31 rfl ?_
   ·have e0 : act31.eval (.tmp 2) = .pointer (some ⟨g2_1, 0, none⟩) := h2_31
    simp only [execOp, resolve, e0]
    go_simp
   intro act32 d32 s32 hv hr
   have h0_32 := (hr 0 rfl).trans h0_31
   have h2_32 := (hr 2 rfl).trans h2_31
   have h3_32 := (hr 3 rfl).trans h3_31
   have h7_32 := (hr 7 rfl).trans h7_31
   have h8_32 := (hr 8 rfl).trans h8_31
   have h9_32 := (hr 9 rfl).trans h9_31
   have h10_32 := (hr 10 rfl).trans h10_31
   have h11_32 := (hr 11 rfl).trans h11_31
   have h19_32 := (hr 19 rfl).trans h19_31
   have h20_32 := (hr 20 rfl).trans h20_31
   have h21_32 := (hr 21 rfl).trans h21_31
   have h37_32 := (hr 37 rfl).trans h37_31
   have h38_32 : act32.eval (.tmp 38) = .pointer (some ⟨g2_1, 1, none⟩) := hv
   have d32 := d32.trans d31
   clear hv hr
   refine Eng.tail_set (n := 1) (v := v_31) (new := #[v_23, v_31, .int .i64 (Nfa.many ps k2)]) rfl rfl rfl kg2_1_31 rfl ?_ fun w33 S => ?_
   ·have e0 : act32.eval (.tmp 38) = .pointer (some ⟨g2_1, 1, none⟩) := h38_32
    have e1 : act32.eval (.tmp 37) = v_31 := h37_32
    obtain ⟨A0_, c0_, ev0_⟩ := Eng.Reads.shape Fa31
    subst ev0_
    have z0 := (Eng.cells kg2_1_31 (1)).trans (rfl)
    have f0 := Eng.unfrozen kg2_1_31 (1)
    simp only [execOp]
    rw [e0, e1]
    go_simp
   have kg2_1_33 := S.new
   have lg2_1_33 := Nat.lt_of_lt_of_eq lg2_1_31 S.size.symm
   have bl33 := S.below bl31 og2_1
   have Finn_33 := Eng.Reads.below Fin0 bl33
   have Ob29c_33 := Eng.own_sets Ob29c_31 S kg2_1_31 rfl
   have Oa23_33 := Eng.own_sets Oa23_31 S kg2_1_31 rfl
   have Oa31_33 := Eng.own_sets Oa31 S kg2_1_31 rfl
   have XE_33 := Pth.Each.sets XE_31 S kg2_1_31 rfl
   clear S
   refine Eng.tail_nil ?_
   refine Eng.regionS (Eng.still [fun u_ => u_ = .pointer (some ⟨g2_1, 2, none⟩), fun u_ => u_ = .int .i64 (Nfa.many ps k2), fun u_ => u_ = (us.getD k2 undef), fun u_ => u_ = .int .i64 (((ps.getD k2 []).length : Nat) : Int), fun u_ => u_ = .int .i64 (IntKind.i64.wrap ((((ps.getD k2 []).length : Nat) : Int) + 1)), fun u_ => u_ = .int .i64 (IntKind.i64.wrap ((Nfa.many ps k2) + (IntKind.i64.wrap ((((ps.getD k2 []).length : Nat) : Int) + 1)))), fun u_ => u_ = .pointer (some ⟨g2_1, 2, none⟩)]) (fun _ => .plain) 7 1 52 s32 rfl (by kernel_rfl) (Eng.still_stable _) (Or.inr (Eng.still_any _)) ?_ ?_
   ·refine Eng.Steps.cons (fun _ => ?_) (Eng.Steps.cons (fun _ => ?_) (Eng.Steps.cons (fun _ => ?_) (Eng.Steps.cons (fun _ => ?_) (Eng.Steps.cons (fun _ => ?_) (Eng.Steps.cons (fun _ => ?_) (Eng.Steps.cons (fun _ => ?_) (Eng.Steps.cons (fun hlt => ?_) (Eng.Steps.nil))))))))
    ·refine Eng.plain rfl rfl fun a w' H => ?_
     refine Eng.val (w1 := w') (v := .pointer (some ⟨g2_1, 2, none⟩)) ?_ (Below.refl _ _) rfl
     have e0 := ((H.kept 2 (by kernel_rfl)).trans h2_32)
     simp only [execOp, resolve, e0]
     go_simp
    ·refine Eng.plain rfl rfl fun a w' H => ?_
     have kb := (H.below.block _ lg2_1_33).trans kg2_1_33
     have z0 : w'.cell? ⟨g2_1, 2, none⟩ = some (.int .i64 (Nfa.many ps k2)) := (Eng.cells kb 2).trans rfl
     refine Eng.val (w1 := w') (v := .int .i64 (Nfa.many ps k2)) ?_ (Below.refl _ _) rfl
     have e0 : a.eval (.tmp 39) = .pointer (some ⟨g2_1, 2, none⟩) := (H.dep 0 39 (by kernel_rfl) rfl)
     simp only [execOp, resolve, e0]
     go_simp
    ·refine Eng.plain rfl rfl fun a w' H => ?_
     exact Eng.val (w1 := w') (v := (us.getD k2 undef)) (Eng.run_move rfl ((H.kept 7 (by kernel_rfl)).trans h7_32)) (Below.refl _ _) rfl
    ·refine Eng.plain rfl rfl fun a w' H => ?_
     refine Eng.val (w1 := w') (v := .int .i64 (((ps.getD k2 []).length : Nat) : Int)) ?_ (Below.refl _ _) rfl
     exact Eng.run_len_sl rfl Tryd.underlying82 (show a.eval (.tmp 41) = (us.getD k2 undef) from (H.dep 2 41 (by kernel_rfl) rfl)) (Eng.Reads.below Finn_33 H.below)
    ·refine Eng.plain rfl rfl fun a w' H => ?_
     refine Eng.val (w1 := w') (v := .int .i64 (IntKind.i64.wrap ((((ps.getD k2 []).length : Nat) : Int) + 1))) ?_ (Below.refl _ _) rfl
     have e0 : a.eval (.tmp 42) = .int .i64 (((ps.getD k2 []).length : Nat) : Int) := (H.dep 3 42 (by kernel_rfl) rfl)
     have e1 : a.eval (.const (.int .i64 1)) = .int .i64 1 := (rfl : a.eval (.const (.int .i64 1)) = .int .i64 1)
     simp only [execOp, resolve, e0, e1]
     go_simp
    ·refine Eng.plain rfl rfl fun a w' H => ?_
     refine Eng.val (w1 := w') (v := .int .i64 (IntKind.i64.wrap ((Nfa.many ps k2) + (IntKind.i64.wrap ((((ps.getD k2 []).length : Nat) : Int) + 1))))) ?_ (Below.refl _ _) rfl
     have e0 : a.eval (.tmp 40) = .int .i64 (Nfa.many ps k2) := (H.dep 1 40 (by kernel_rfl) rfl)
     have e1 : a.eval (.tmp 43) = .int .i64 (IntKind.i64.wrap ((((ps.getD k2 []).length : Nat) : Int) + 1)) := (H.dep 4 43 (by kernel_rfl) rfl)
     simp only [execOp, resolve, e0, e1]
     go_simp
    ·refine Eng.plain rfl rfl fun a w' H => ?_
     refine Eng.val (w1 := w') (v := .pointer (some ⟨g2_1, 2, none⟩)) ?_ (Below.refl _ _) rfl
     have e0 := ((H.kept 2 (by kernel_rfl)).trans h2_32)
     simp only [execOp, resolve, e0]
     go_simp
    ·exact absurd hlt (by decide)
   intro act34 w34 T
   have h0_34 := (T.rest 0 (by kernel_rfl)).trans h0_32
   have h2_34 := (T.rest 2 (by kernel_rfl)).trans h2_32
   have h3_34 := (T.rest 3 (by kernel_rfl)).trans h3_32
   have h8_34 := (T.rest 8 (by kernel_rfl)).trans h8_32
   have h9_34 := (T.rest 9 (by kernel_rfl)).trans h9_32
   have h10_34 := (T.rest 10 (by kernel_rfl)).trans h10_32
   have h11_34 := (T.rest 11 (by kernel_rfl)).trans h11_32
   have h19_34 := (T.rest 19 (by kernel_rfl)).trans h19_32
   have h20_34 := (T.rest 20 (by kernel_rfl)).trans h20_32
   have h21_34 := (T.rest 21 (by kernel_rfl)).trans h21_32
   have kg2_1_34 := (T.below.block _ lg2_1_33).trans kg2_1_33
   have lg2_1_34 := Nat.lt_of_lt_of_le lg2_1_33 T.below.size
   have Ob29c_34 := Eng.own_below Ob29c_33 T.below
   have Oa23_34 := Eng.own_below Oa23_33 T.below
   have Oa31_34 := Eng.own_below Oa31_33 T.below
   have h44_34 : act34.eval (.tmp 44) = .int .i64 (IntKind.i64.wrap ((Nfa.many ps k2) + (IntKind.i64.wrap ((((ps.getD k2 []).length : Nat) : Int) + 1)))) := T.done 5 44 rfl rfl
   have h45_34 : act34.eval (.tmp 45) = .pointer (some ⟨g2_1, 2, none⟩) := T.done 6 45 rfl rfl
   have d34 := T.defers.trans d32
   have s34 := T.size.trans s32
   have bl34 := bl33.trans (T.below.mono bl33.size)
   have XE_34 := Pth.Each.below XE_33 T.below
   clear T
   refine Eng.tail_set (n := 2) (v := .int .i64 (IntKind.i64.wrap ((Nfa.many ps k2) + (IntKind.i64.wrap ((((ps.getD k2 []).length : Nat) : Int) + 1))))) (new := #[v_23, v_31, .int .i64 (IntKind.i64.wrap ((Nfa.many ps k2) + (IntKind.i64.wrap ((((ps.getD k2 []).length : Nat) : Int) + 1))))]) rfl rfl rfl kg2_1_34 rfl ?_ fun w35 S => ?_
   ·have e0 : act34.eval (.tmp 45) = .pointer (some ⟨g2_1, 2, none⟩) := h45_34
    have e1 : act34.eval (.tmp 44) = .int .i64 (IntKind.i64.wrap ((Nfa.many ps k2) + (IntKind.i64.wrap ((((ps.getD k2 []).length : Nat) : Int) + 1)))) := h44_34
    have z0 := (Eng.cells kg2_1_34 (2)).trans (rfl)
    have f0 := Eng.unfrozen kg2_1_34 (2)
    simp only [execOp]
    rw [e0, e1]
    go_simp
   have kg2_1_35 := S.new
   have lg2_1_35 := Nat.lt_of_lt_of_eq lg2_1_34 S.size.symm
   have bl35 := S.below bl34 og2_1
   have Ob29c_35 := Eng.own_sets Ob29c_34 S kg2_1_34 rfl
   have Oa23_35 := Eng.own_sets Oa23_34 S kg2_1_34 rfl
   have Oa31_35 := Eng.own_sets Oa31_34 S kg2_1_34 rfl
   have XE_35 := Pth.Each.sets XE_34 S kg2_1_34 rfl
   clear S
   refine Eng.tail_nil ?_
   refine Eng.regionS (Eng.still [fun u_ => u_ = .int .i64 (IntKind.i64.wrap ((k2 : Nat) + 1)), fun u_ => u_ = .int .i64 (IntKind.i64.wrap ((k2 : Nat) + 1))]) (fun _ => .plain) 2 0 52 s34 rfl (by kernel_rfl) (Eng.still_stable _) (Or.inr (Eng.still_any _)) ?_ ?_
   ·refine Eng.Steps.cons (fun _ => ?_) (Eng.Steps.cons (fun _ => ?_) (Eng.Steps.nil))
    ·refine Eng.plain rfl rfl fun a w' H => ?_
     refine Eng.val (w1 := w') (v := .int .i64 (IntKind.i64.wrap ((k2 : Nat) + 1))) ?_ (Below.refl _ _) rfl
     have e0 := ((H.kept 21 (by kernel_rfl)).trans h21_34)
     have e1 : a.eval (.const (.int .i64 1)) = .int .i64 1 := (rfl : a.eval (.const (.int .i64 1)) = .int .i64 1)
     simp only [execOp, resolve, e0, e1]
     go_simp
    ·refine Eng.plain rfl rfl fun a w' H => ?_
     exact Eng.val (w1 := w') (v := .int .i64 (IntKind.i64.wrap ((k2 : Nat) + 1))) (Eng.run_move rfl (H.dep 0 46 (by kernel_rfl) rfl)) (Below.refl _ _) rfl
   intro act36 w36 T
   have h0_36 := (T.rest 0 (by kernel_rfl)).trans h0_34
   have h2_36 := (T.rest 2 (by kernel_rfl)).trans h2_34
   have h3_36 := (T.rest 3 (by kernel_rfl)).trans h3_34
   have h8_36 := (T.rest 8 (by kernel_rfl)).trans h8_34
   have h9_36 := (T.rest 9 (by kernel_rfl)).trans h9_34
   have h10_36 := (T.rest 10 (by kernel_rfl)).trans h10_34
   have h11_36 := (T.rest 11 (by kernel_rfl)).trans h11_34
   have h19_36 := (T.rest 19 (by kernel_rfl)).trans h19_34
   have h20_36 := (T.rest 20 (by kernel_rfl)).trans h20_34
   have kg2_1_36 := (T.below.block _ lg2_1_35).trans kg2_1_35
   have lg2_1_36 := Nat.lt_of_lt_of_le lg2_1_35 T.below.size
   have Ob29c_36 := Eng.own_below Ob29c_35 T.below
   have Oa23_36 := Eng.own_below Oa23_35 T.below
   have Oa31_36 := Eng.own_below Oa31_35 T.below
   have h21_36 : act36.eval (.tmp 21) = .int .i64 (IntKind.i64.wrap ((k2 : Nat) + 1)) := T.done 1 21 rfl rfl
   have d36 := T.defers.trans d34
   have s36 := T.size.trans s34
   have bl36 := bl35.trans (T.below.mono bl35.size)
   have XE_36 := Pth.Each.below XE_35 T.below
   clear T
   refine Eng.tail_nil ?_
   exact ⟨_, by omega, k2 + 1, v_23, v_31, (vl ++ [vc_22]), rfl, by omega, Oa23_36, Oa31_36, by simp; omega, Pth.Each.snoc XE_36 (by omega) (by rw [hvlk]; exact Ob29c_36), d36, s36, bl36, h0_36, h2_36, h3_36, h8_36, h9_36, h10_36, h11_36, h19_36, h20_36, (h21_36.trans (by first | rfl | (congr 1; rw [Eng.i64_id (by omega) (by omega)]; omega) | (simp; done))), (kg2_1_36.trans (by first | rfl | (simp; done))), lg2_1_36⟩
  ·
   have c22 := Bq22.symm.trans hq
   clear hq
   have c22 := of_decide_eq_false c22
   have hke : k2 = ps.length := by omega
   refine wp_exit ?_
   refine wp_seq ?_
   refine wp_seq ?_
   obtain ⟨q49, Bq49⟩ : ∃ b : Bool, b = (decide ((Nfa.many ps k2) > 512)) := ⟨_, rfl⟩
   refine Eng.regionS (Eng.still [fun u_ => u_ = .pointer (some ⟨g2_1, 2, none⟩), fun u_ => u_ = .int .i64 (Nfa.many ps k2), fun u_ => u_ = .bool q49]) (fun _ => .plain) 3 0 52 s18 rfl (by kernel_rfl) (Eng.still_stable _) (Or.inr (Eng.still_any _)) ?_ ?_
   ·refine Eng.Steps.cons (fun _ => ?_) (Eng.Steps.cons (fun _ => ?_) (Eng.Steps.cons (fun _ => ?_) (Eng.Steps.nil)))
    ·refine Eng.plain rfl rfl fun a w' H => ?_
     refine Eng.val (w1 := w') (v := .pointer (some ⟨g2_1, 2, none⟩)) ?_ (Below.refl _ _) rfl
     have e0 := ((H.kept 2 (by kernel_rfl)).trans h2_18)
     simp only [execOp, resolve, e0]
     go_simp
    ·refine Eng.plain rfl rfl fun a w' H => ?_
     have kb := (H.below.block _ lg2_1_18).trans kg2_1_18
     have z0 : w'.cell? ⟨g2_1, 2, none⟩ = some (.int .i64 (Nfa.many ps k2)) := (Eng.cells kb 2).trans rfl
     refine Eng.val (w1 := w') (v := .int .i64 (Nfa.many ps k2)) ?_ (Below.refl _ _) rfl
     have e0 : a.eval (.tmp 47) = .pointer (some ⟨g2_1, 2, none⟩) := (H.dep 0 47 (by kernel_rfl) rfl)
     simp only [execOp, resolve, e0]
     go_simp
    ·refine Eng.plain rfl rfl fun a w' H => ?_
     refine Eng.val (w1 := w') (v := .bool (decide ((Nfa.many ps k2) > 512))) ?_ (Below.refl _ _) (by show _ = Value.bool q49; rw [Bq49])
     have e0 : a.eval (.tmp 48) = .int .i64 (Nfa.many ps k2) := (H.dep 1 48 (by kernel_rfl) rfl)
     have e1 : a.eval (.const (.int .i64 512)) = .int .i64 512 := (rfl : a.eval (.const (.int .i64 512)) = .int .i64 512)
     simp only [execOp, resolve, e0, e1]
     go_simp
   intro act38 w38 T
   have h2_38 := (T.rest 2 (by kernel_rfl)).trans h2_18
   have kg2_1_38 := (T.below.block _ lg2_1_18).trans kg2_1_18
   have lg2_1_38 := Nat.lt_of_lt_of_le lg2_1_18 T.below.size
   have Ftp_38 := Eng.Reads.below Ftp_18 T.below
   have Otp_38 := Eng.own_below Otp_18 T.below
   have Ftb_38 := Eng.Reads.below Ftb_18 T.below
   have Otb_38 := Eng.own_below Otb_18 T.below
   have h49_38 : act38.eval (.tmp 49) = .bool q49 := T.done 2 49 rfl rfl
   have d38 := T.defers.trans d18
   have s38 := T.size.trans s18
   have bl38 := bl18.trans (T.below.mono bl18.size)
   have XE_38 := Pth.Each.below XE_18 T.below
   clear T
   refine Eng.tail_nil ?_
   refine wp_cond_split h49_38 (fun hq => ?_) (fun hq => ?_)
   ·
    have c49 := Bq49.symm.trans hq
    clear hq
    have c49 := of_decide_eq_true c49
    refine wp_seq ?_
    refine Eng.regionS (Eng.still [fun u_ => u_ = .agg #[.slice none 0 0, .slice none 0 0, .int .i64 0]]) (fun _ => .plain) 1 2 52 s38 rfl (by kernel_rfl) (Eng.still_stable _) (Or.inr (Eng.still_any _)) ?_ ?_
    ·refine Eng.Steps.cons (fun _ => ?_) (Eng.Steps.cons (fun hlt => ?_) (Eng.Steps.cons (fun hlt => ?_) (Eng.Steps.nil)))
     ·refine Eng.plain rfl rfl fun a w' H => ?_
      refine Eng.val (w1 := w') (v := .agg #[.slice none 0 0, .slice none 0 0, .int .i64 0]) ?_ (Below.refl _ _) rfl
      simp only [execOp, resolve]
      go_simp
     ·exact absurd hlt (by decide)
     ·exact absurd hlt (by decide)
    intro act40 w40 T
    have h2_40 := (T.rest 2 (by kernel_rfl)).trans h2_38
    have kg2_1_40 := (T.below.block _ lg2_1_38).trans kg2_1_38
    have h50_40 : act40.eval (.tmp 50) = .agg #[.slice none 0 0, .slice none 0 0, .int .i64 0] := T.done 0 50 rfl rfl
    have d40 := T.defers.trans d38
    have s40 := T.size.trans s38
    have bl40 := bl38.trans (T.below.mono bl38.size)
    clear T
    refine Eng.tail_put [.slice none 0 0, .slice none 0 0, .int .i64 0] (n := 0) (new := #[.slice none 0 0, .slice none 0 0, .int .i64 0]) rfl rfl rfl kg2_1_40 rfl ?_ fun w41 S => ?_
    ·have e0 : act40.eval (.tmp 2) = .pointer (some ⟨g2_1, 0, none⟩) := h2_40
     have e1 : act40.eval (.tmp 50) = .agg #[.slice none 0 0, .slice none 0 0, .int .i64 0] := h50_40
     have z0 := (Eng.cells kg2_1_40 (0)).trans (rfl)
     have f0 := Eng.unfrozen kg2_1_40 (0)
     have z1 := (Eng.cells kg2_1_40 (1)).trans (rfl)
     have f1 := Eng.unfrozen kg2_1_40 (1)
     have z2 := (Eng.cells kg2_1_40 (2)).trans (rfl)
     have f2 := Eng.unfrozen kg2_1_40 (2)
     simp only [execOp]
     rw [e0, e1]
     go_simp
     try rfl
    have kg2_1_41 := S.new
    have bl41 := S.below bl40 og2_1
    clear S
    refine Eng.tail_val rfl rfl rfl (Eng.run_assign rfl (rfl : act40.eval (.const (.int .i64 4)) = .int .i64 4)) s40 rfl fun act42 d42 s42 hv hr => ?_
    have h2_42 := (hr 2 rfl).trans h2_40
    have h3_42 : act42.eval (.tmp 3) = .int .i64 4 := hv
    have d42 := d42.trans d40
    clear hv hr
    refine Eng.tail_nil ?_
    refine wp_ret ?_
    repeat (first | refine Eng.in_ret ?_ | refine Eng.then_ret ?_)
    subst hke
    have hcode : Nfa.code ps = 4 := (Nfa.code_all hall).trans (if_pos c49)
    exact Eng.retct rfl d42 h2_42 kg2_1_41 Tryd.underlying65 rfl (by kernel_rfl) h3_42 ⟨_, _, [], _, by rw [hcode], ⟨Nfa.Slc.nil, Nfa.Slc.nil⟩, fun h0 => absurd (hcode.symm.trans h0) (by decide), bl41⟩
   ·
    have c49 := Bq49.symm.trans hq
    clear hq
    have c49 := of_decide_eq_false c49
    refine wp_skip ?_
    refine wp_seq ?_
    refine Eng.regionS (Eng.still [fun u_ => u_ = .agg #[pv, bv, .int .i64 (Nfa.many ps k2)]]) (fun _ => .plain) 1 2 52 s38 rfl (by kernel_rfl) (Eng.still_stable _) (Or.inr (Eng.still_any _)) ?_ ?_
    ·refine Eng.Steps.cons (fun _ => ?_) (Eng.Steps.cons (fun hlt => ?_) (Eng.Steps.cons (fun hlt => ?_) (Eng.Steps.nil)))
     ·refine Eng.plain rfl rfl fun a w' H => ?_
      have kb := (H.below.block _ lg2_1_38).trans kg2_1_38
      have z0 : w'.cell? ⟨g2_1, 0, none⟩ = some (pv) := (Eng.cells kb 0).trans rfl
      have z1 : w'.cell? ⟨g2_1, 1, none⟩ = some (bv) := (Eng.cells kb 1).trans rfl
      have z2 : w'.cell? ⟨g2_1, 2, none⟩ = some (.int .i64 (Nfa.many ps k2)) := (Eng.cells kb 2).trans rfl
      refine Eng.val (w1 := w') (v := .agg #[pv, bv, .int .i64 (Nfa.many ps k2)]) ?_ (Below.refl _ _) rfl
      have e0 := ((H.kept 2 (by kernel_rfl)).trans h2_38)
      simp only [execOp, resolve, e0]
      go_simp
     ·exact absurd hlt (by decide)
     ·exact absurd hlt (by decide)
    intro act44 w44 T
    have h2_44 := (T.rest 2 (by kernel_rfl)).trans h2_38
    have kg2_1_44 := (T.below.block _ lg2_1_38).trans kg2_1_38
    have Ftp_44 := Eng.Reads.below Ftp_38 T.below
    have Otp_44 := Eng.own_below Otp_38 T.below
    have Ftb_44 := Eng.Reads.below Ftb_38 T.below
    have Otb_44 := Eng.own_below Otb_38 T.below
    have h51_44 : act44.eval (.tmp 51) = .agg #[pv, bv, .int .i64 (Nfa.many ps k2)] := T.done 0 51 rfl rfl
    have d44 := T.defers.trans d38
    have s44 := T.size.trans s38
    have bl44 := bl38.trans (T.below.mono bl38.size)
    have XE_44 := Pth.Each.below XE_38 T.below
    clear T
    refine Eng.tail_put [pv, bv, .int .i64 (Nfa.many ps k2)] (n := 0) (new := #[pv, bv, .int .i64 (Nfa.many ps k2)]) rfl rfl rfl kg2_1_44 rfl ?_ fun w45 S => ?_
    ·have e0 : act44.eval (.tmp 2) = .pointer (some ⟨g2_1, 0, none⟩) := h2_44
     have e1 : act44.eval (.tmp 51) = .agg #[pv, bv, .int .i64 (Nfa.many ps k2)] := h51_44
     obtain ⟨A0_, c0_, ev0_⟩ := Eng.Reads.shape Ftp_44
     subst ev0_
     obtain ⟨A1_, c1_, ev1_⟩ := Eng.Reads.shape Ftb_44
     subst ev1_
     have z0 := (Eng.cells kg2_1_44 (0)).trans (rfl)
     have f0 := Eng.unfrozen kg2_1_44 (0)
     have z1 := (Eng.cells kg2_1_44 (1)).trans (rfl)
     have f1 := Eng.unfrozen kg2_1_44 (1)
     have z2 := (Eng.cells kg2_1_44 (2)).trans (rfl)
     have f2 := Eng.unfrozen kg2_1_44 (2)
     simp only [execOp]
     rw [e0, e1]
     go_simp
     try rfl
    have kg2_1_45 := S.new
    have bl45 := S.below bl44 og2_1
    have Otp_45 := Eng.own_sets Otp_44 S kg2_1_44 rfl
    have Ftp_45 := Eng.Reads.of_own Otp_45
    have Otb_45 := Eng.own_sets Otb_44 S kg2_1_44 rfl
    have Ftb_45 := Eng.Reads.of_own Otb_45
    have XE_45 := Pth.Each.sets XE_44 S kg2_1_44 rfl
    clear S
    refine Eng.tail_val rfl rfl rfl (Eng.run_assign rfl (rfl : act44.eval (.const (.int .i64 0)) = .int .i64 0)) s44 rfl fun act46 d46 s46 hv hr => ?_
    have h2_46 := (hr 2 rfl).trans h2_44
    have h3_46 : act46.eval (.tmp 3) = .int .i64 0 := hv
    have d46 := d46.trans d44
    clear hv hr
    refine Eng.tail_nil ?_
    refine wp_ret ?_
    repeat (first | refine Eng.in_ret ?_ | refine Eng.then_ret ?_)
    subst hke
    have hcode : Nfa.code ps = 0 := (Nfa.code_all hall).trans (if_neg (by omega))
    exact Eng.retct rfl d46 h2_46 kg2_1_45 Tryd.underlying65 rfl (by kernel_rfl) h3_46 ⟨_, _, vl, _, by rw [hcode], ⟨Nfa.Slc.of Ftp_45, Nfa.Slc.of Ftb_45⟩, fun _ => ⟨⟨hvlk, (by have O := Otp_45; rw [hvlk] at O; exact O), XE_45, Otb_45⟩, rfl⟩, bl45⟩
end Go.Proofs.YthgafcaoibfchaaDoor.X
end
section
namespace Go.Proofs.YthgafcaoibfchaaDoor.X
open Go.RowKit Go.Shelf Go.Proofs Go.Proofs.YthgafcaoibfchaaDoorW.PrintWords Go.Proofs.YthgafcaoibfchaaDoorW.PrintLast Go.Proofs.YthgafcaoibfchaaDoorW.PrintMore
set_option linter.unusedVariables false
set_option linter.unusedSimpArgs false
set_option maxHeartbeats 4000000 in
set_option maxRecDepth 100000 in
theorem Nfa.has_calls (l : List Int) (n : Int) (w : World) (hl : l.length = 8) : Calls Tryd.prog 85 #[.agg ((List.map (Value.int .u64) l).toArray), .int .i64 n] w fun e w' => e = .returned (.bool (Nfa.has l n)) ∧ Below w.heap.size w w' := by
 obtain ⟨N64, hN⟩ : ∃ k : Nat, n.toNat / 64 = k := ⟨_, rfl⟩
 obtain ⟨Nr, hR⟩ : ∃ k : Nat, n.toNat % 64 = k := ⟨_, rfl⟩
 have hq64 : 0 ≤ n → n < 512 → IntKind.i64.wrap (n.tdiv 64) = (N64 : Int) := fun h0 h1 => by rw [← hN]; exact Nfa.quo64 h0 h1
 have hr64 : 0 ≤ n → n.tmod 64 = (Nr : Int) := fun h0 => by rw [← hR]; exact Nfa.rem64 h0
 have hN8 : n < 512 → N64 < 8 := by omega
 have hNr : Nr < 64 := by omega
 refine Eng.enter Tryd.func85 rfl fun act0 d0 s0 v0 => ?_
 have s0 : act0.tmps.size = 22 := s0
 have h0_0 : act0.eval (.tmp 0) = .agg ((List.map (Value.int .u64) l).toArray) := v0 0 (by simp)
 have h1_0 : act0.eval (.tmp 1) = .int .i64 n := v0 1 (by simp)
 clear v0
 have bl0 : Below w.heap.size w w := Below.refl _ _
 refine wp_seq ?_
 refine Eng.regionS (Eng.still [fun u_ => True, fun u_ => u_ = .bool false]) (fun i => ([.alloc 74 ((List.map (Value.int .u64) l).toArray), .plain] : List Eng.Kind).getD i .plain) 2 0 22 s0 rfl (by kernel_rfl) (Eng.still_stable _) (Or.inr (Eng.still_any _)) ?_ ?_
 ·refine Eng.Steps.cons (fun _ => ?_) (Eng.Steps.cons (fun _ => ?_) (Eng.Steps.nil))
  ·refine Eng.made rfl (by simp) rfl (fun a w' hd ho => ?_) (fun _ _ => trivial)
   exact Eng.run_box rfl ((ho 0 (by kernel_rfl)).trans h0_0)
  ·refine Eng.plain rfl rfl fun a w' H => ?_
   exact Eng.val (w1 := w') (v := .bool false) (Eng.run_assign rfl (rfl : a.eval (.const (.bool false)) = .bool false)) (Below.refl _ _) rfl
 intro act1 w1 T
 have h1_1 := (T.rest 1 (by kernel_rfl)).trans h1_0
 obtain ⟨g2_1, h2_1, rg2_1, lg2_1_1, kg2_1_1⟩ := T.al 0 2 _ _ rfl rfl rfl (by kernel_rfl)
 have d1 := T.defers.trans d0
 have s1 := T.size.trans s0
 have bl1 := bl0.trans (T.below.mono bl0.size)
 clear T
 refine Eng.tail_nil ?_
 show Code.wp Tryd.prog _ _ _ _
 refine wp_seq ?_
 obtain ⟨q6, Bq6⟩ : ∃ b : Bool, b = (decide (n ≥ 0)) := ⟨_, rfl⟩
 obtain ⟨q9, Bq9⟩ : ∃ b : Bool, b = (decide (n < 512)) := ⟨_, rfl⟩
 obtain ⟨q10, Bq10⟩ : ∃ b : Bool, b = (q6 && q9) := ⟨_, rfl⟩
 obtain ⟨q20, Bq20⟩ : ∃ b : Bool, b = ((Go.bits .and .u64 (shr .u64 (Nfa.at_ l N64) (Nr : Int)) 1) == 1) := ⟨_, rfl⟩
 obtain ⟨q21, Bq21⟩ : ∃ b : Bool, b = (q10 && q20) := ⟨_, rfl⟩
 refine Eng.regionS (Eng.still [fun u_ => u_ = .int .i64 n, fun u_ => u_ = .bool q6, fun u_ => u_ = .bool q6, fun u_ => u_ = bif (q6 == true) then (.int .i64 n) else undef, fun u_ => u_ = bif (q6 == true) then (.bool q9) else undef, fun u_ => u_ = .bool q10, fun u_ => u_ = .bool q10, fun u_ => u_ = bif (q10 == true) then (.int .i64 n) else undef, fun u_ => u_ = bif (q10 == true) then (.int .i64 (N64 : Int)) else undef, fun u_ => u_ = bif (q10 == true) then (.pointer (some ⟨g2_1, N64, none⟩)) else undef, fun u_ => u_ = bif (q10 == true) then (.int .u64 (Nfa.at_ l (N64))) else undef, fun u_ => u_ = bif (q10 == true) then (.int .i64 n) else undef, fun u_ => u_ = bif (q10 == true) then (.int .i64 (Nr : Int)) else undef, fun u_ => u_ = bif (q10 == true) then (.int .u64 (shr .u64 (Nfa.at_ l N64) (Nr : Int))) else undef, fun u_ => u_ = bif (q10 == true) then (.int .u64 (Go.bits .and .u64 (shr .u64 (Nfa.at_ l N64) (Nr : Int)) 1)) else undef, fun u_ => u_ = bif (q10 == true) then (.bool q20) else undef, fun u_ => u_ = .bool q21, fun u_ => u_ = .bool q21]) (fun _ => .plain) 18 0 22 s1 rfl (by kernel_rfl) (Eng.still_stable _) (Or.inr (Eng.still_any _)) ?_ ?_
 ·refine Eng.Steps.cons (fun _ => ?_) (Eng.Steps.cons (fun _ => ?_) (Eng.Steps.cons (fun _ => ?_) (Eng.Steps.cons (fun _ => ?_) (Eng.Steps.cons (fun _ => ?_) (Eng.Steps.cons (fun _ => ?_) (Eng.Steps.cons (fun _ => ?_) (Eng.Steps.cons (fun _ => ?_) (Eng.Steps.cons (fun _ => ?_) (Eng.Steps.cons (fun _ => ?_) (Eng.Steps.cons (fun _ => ?_) (Eng.Steps.cons (fun _ => ?_) (Eng.Steps.cons (fun _ => ?_) (Eng.Steps.cons (fun _ => ?_) (Eng.Steps.cons (fun _ => ?_) (Eng.Steps.cons (fun _ => ?_) (Eng.Steps.cons (fun _ => ?_) (Eng.Steps.cons (fun _ => ?_) (Eng.Steps.nil))))))))))))))))))
  ·refine Eng.plain rfl rfl fun a w' H => ?_
   exact Eng.val (w1 := w') (v := .int .i64 n) (Eng.run_move rfl ((H.kept 1 (by kernel_rfl)).trans h1_1)) (Below.refl _ _) rfl
  ·refine Eng.plain rfl rfl fun a w' H => ?_
   refine Eng.val (w1 := w') (v := .bool (decide (n ≥ 0))) ?_ (Below.refl _ _) (by show _ = Value.bool q6; rw [Bq6])
   have e0 : a.eval (.tmp 5) = .int .i64 n := (H.dep 0 5 (by kernel_rfl) rfl)
   have e1 : a.eval (.const (.int .i64 0)) = .int .i64 0 := (rfl : a.eval (.const (.int .i64 0)) = .int .i64 0)
   simp only [execOp, resolve, e0, e1]
   go_simp
  ·refine Eng.plain rfl rfl fun a w' H => ?_
   exact Eng.val (w1 := w') (v := .bool q6) (Eng.run_move rfl (H.dep 1 6 (by kernel_rfl) rfl)) (Below.refl _ _) rfl
  ·refine Eng.guarded1 (j := 2) (d := 7) (b := q6) rfl rfl (by kernel_rfl) rfl (fun v w h => h) (fun hG w => Eng.off hG) fun hG a w' H => ?_
   exact Eng.val (w1 := w') (v := .int .i64 n) (Eng.run_move rfl ((H.kept 1 (by kernel_rfl)).trans h1_1)) (Below.refl _ _) (Eng.off' hG rfl)
  ·refine Eng.guarded1 (j := 2) (d := 7) (b := q6) rfl rfl (by kernel_rfl) rfl (fun v w h => h) (fun hG w => Eng.off hG) fun hG a w' H => ?_
   refine Eng.val (w1 := w') (v := .bool (decide (n < 512))) ?_ (Below.refl _ _) (Eng.off' hG (by rw [Bq9]))
   have e0 : a.eval (.tmp 8) = .int .i64 n := (Eng.on (H.dep 3 8 (by kernel_rfl) rfl) hG)
   have e1 : a.eval (.const (.int .i64 512)) = .int .i64 512 := (rfl : a.eval (.const (.int .i64 512)) = .int .i64 512)
   simp only [execOp, resolve, e0, e1]
   go_simp
  ·refine Eng.plain rfl rfl fun a w' H => ?_
   exact Eng.val (w1 := w') (v := .bool (q6 && q9)) (Eng.run_and rfl rfl (G := true) (H.dep 2 7 (by kernel_rfl) rfl) (fun hb => (Eng.on (H.dep 4 9 (by kernel_rfl) rfl) (Eng.mk1 hb)))) (Below.refl _ _) (by show _ = Value.bool q10; rw [Bq10])
  ·refine Eng.plain rfl rfl fun a w' H => ?_
   exact Eng.val (w1 := w') (v := .bool q10) (Eng.run_move rfl (H.dep 5 10 (by kernel_rfl) rfl)) (Below.refl _ _) rfl
  ·refine Eng.guarded1 (j := 6) (d := 11) (b := q10) rfl rfl (by kernel_rfl) rfl (fun v w h => h) (fun hG w => Eng.off hG) fun hG a w' H => ?_
   exact Eng.val (w1 := w') (v := .int .i64 n) (Eng.run_move rfl ((H.kept 1 (by kernel_rfl)).trans h1_1)) (Below.refl _ _) (Eng.off' hG rfl)
  ·refine Eng.guarded1 (j := 6) (d := 11) (b := q10) rfl rfl (by kernel_rfl) rfl (fun v w h => h) (fun hG w => Eng.off hG) fun hG a w' H => ?_
   have hq := Eng.one2 hG
   rw [Bq10, Bq9, Bq6] at hq
   simp only [Bool.and_eq_true, decide_eq_true_eq] at hq
   obtain ⟨hq0, hq1⟩ := hq
   refine Eng.val (w1 := w') (v := .int .i64 (N64 : Int)) ?_ (Below.refl _ _) (Eng.off' hG rfl)
   have e0 : a.eval (.tmp 12) = .int .i64 n := (Eng.on (H.dep 7 12 (by kernel_rfl) rfl) hG)
   have e1 : a.eval (.const (.int .i64 64)) = .int .i64 64 := (rfl : a.eval (.const (.int .i64 64)) = .int .i64 64)
   simp only [execOp, resolve, e0, e1]
   go_simp
   all_goals first | rfl | (exact hq64 hq0 hq1) | (rw [hq64 hq0 hq1]; done) | skip
  ·refine Eng.guarded1 (j := 6) (d := 11) (b := q10) rfl rfl (by kernel_rfl) rfl (fun v w h => h) (fun hG w => Eng.off hG) fun hG a w' H => ?_
   refine Eng.val (w1 := w') (v := .pointer (some ⟨g2_1, N64, none⟩)) ?_ (Below.refl _ _) (Eng.off' hG rfl)
   exact Eng.run_indexAddr rfl Tryd.underlying74 (by kernel_rfl) ((H.kept 2 (by kernel_rfl)).trans h2_1) ((Eng.on (H.dep 8 13 (by kernel_rfl) rfl) hG).trans (congrArg (Value.int _) (show (N64 : Int) = ((N64 : Nat) : Int) from by first | rfl | (have hq := Eng.one2 hG; rw [Bq10, Bq9, Bq6] at hq; simp only [Bool.and_eq_true, decide_eq_true_eq] at hq; exact hN8 hq.2)))) (by decide) (by first | rfl | (have hq := Eng.one2 hG; rw [Bq10, Bq9, Bq6] at hq; simp only [Bool.and_eq_true, decide_eq_true_eq] at hq; exact hN8 hq.2))
  ·refine Eng.guarded1 (j := 6) (d := 11) (b := q10) rfl rfl (by kernel_rfl) rfl (fun v w h => h) (fun hG w => Eng.off hG) fun hG a w' H => ?_
   have kb := (H.below.block _ lg2_1_1).trans kg2_1_1
   have z0 : w'.cell? ⟨g2_1, N64, none⟩ = some (.int .u64 (Nfa.at_ l (N64))) := (Eng.cells kb (N64)).trans (Nfa.cell_at (hl) (by first | omega | (have hq := Eng.one2 hG; rw [Bq10, Bq9, Bq6] at hq; simp only [Bool.and_eq_true, decide_eq_true_eq] at hq; exact hN8 hq.2)))
   refine Eng.val (w1 := w') (v := .int .u64 (Nfa.at_ l (N64))) ?_ (Below.refl _ _) (Eng.off' hG rfl)
   have e0 : a.eval (.tmp 14) = .pointer (some ⟨g2_1, N64, none⟩) := (Eng.on (H.dep 9 14 (by kernel_rfl) rfl) hG)
   simp only [execOp, resolve, e0]
   go_simp
  ·refine Eng.guarded1 (j := 6) (d := 11) (b := q10) rfl rfl (by kernel_rfl) rfl (fun v w h => h) (fun hG w => Eng.off hG) fun hG a w' H => ?_
   exact Eng.val (w1 := w') (v := .int .i64 n) (Eng.run_move rfl ((H.kept 1 (by kernel_rfl)).trans h1_1)) (Below.refl _ _) (Eng.off' hG rfl)
  ·refine Eng.guarded1 (j := 6) (d := 11) (b := q10) rfl rfl (by kernel_rfl) rfl (fun v w h => h) (fun hG w => Eng.off hG) fun hG a w' H => ?_
   have hq := Eng.one2 hG
   rw [Bq10, Bq9, Bq6] at hq
   simp only [Bool.and_eq_true, decide_eq_true_eq] at hq
   obtain ⟨hq0, hq1⟩ := hq
   refine Eng.val (w1 := w') (v := .int .i64 (Nr : Int)) ?_ (Below.refl _ _) (Eng.off' hG rfl)
   have e0 : a.eval (.tmp 16) = .int .i64 n := (Eng.on (H.dep 11 16 (by kernel_rfl) rfl) hG)
   have e1 : a.eval (.const (.int .i64 64)) = .int .i64 64 := (rfl : a.eval (.const (.int .i64 64)) = .int .i64 64)
   simp only [execOp, resolve, e0, e1]
   go_simp
   all_goals first | rfl | (exact hr64 hq0) | (rw [hr64 hq0]; done) | skip
  ·refine Eng.guarded1 (j := 6) (d := 11) (b := q10) rfl rfl (by kernel_rfl) rfl (fun v w h => h) (fun hG w => Eng.off hG) fun hG a w' H => ?_
   refine Eng.val (w1 := w') (v := .int .u64 (shr .u64 (Nfa.at_ l N64) (Nr : Int))) ?_ (Below.refl _ _) (Eng.off' hG rfl)
   have e0 : a.eval (.tmp 15) = .int .u64 (Nfa.at_ l (N64)) := (Eng.on (H.dep 10 15 (by kernel_rfl) rfl) hG)
   have e1 : a.eval (.tmp 17) = .int .i64 (Nr : Int) := (Eng.on (H.dep 12 17 (by kernel_rfl) rfl) hG)
   simp only [execOp, resolve, e0, e1]
   go_simp
   all_goals first | rfl | (exact Nfa.shr_eq _ hNr) | skip
  ·refine Eng.guarded1 (j := 6) (d := 11) (b := q10) rfl rfl (by kernel_rfl) rfl (fun v w h => h) (fun hG w => Eng.off hG) fun hG a w' H => ?_
   refine Eng.val (w1 := w') (v := .int .u64 (Go.bits .and .u64 (shr .u64 (Nfa.at_ l N64) (Nr : Int)) 1)) ?_ (Below.refl _ _) (Eng.off' hG rfl)
   have e0 : a.eval (.tmp 18) = .int .u64 (shr .u64 (Nfa.at_ l N64) (Nr : Int)) := (Eng.on (H.dep 13 18 (by kernel_rfl) rfl) hG)
   have e1 : a.eval (.const (.int .u64 1)) = .int .u64 1 := (rfl : a.eval (.const (.int .u64 1)) = .int .u64 1)
   simp only [execOp, resolve, e0, e1]
   go_simp
   all_goals first | rfl | skip
  ·refine Eng.guarded1 (j := 6) (d := 11) (b := q10) rfl rfl (by kernel_rfl) rfl (fun v w h => h) (fun hG w => Eng.off hG) fun hG a w' H => ?_
   refine Eng.val (w1 := w') (v := .bool ((Go.bits .and .u64 (shr .u64 (Nfa.at_ l N64) (Nr : Int)) 1) == 1)) ?_ (Below.refl _ _) (Eng.off' hG (by rw [Bq20]))
   have e0 : a.eval (.tmp 19) = .int .u64 (Go.bits .and .u64 (shr .u64 (Nfa.at_ l N64) (Nr : Int)) 1) := (Eng.on (H.dep 14 19 (by kernel_rfl) rfl) hG)
   have e1 : a.eval (.const (.int .u64 1)) = .int .u64 1 := (rfl : a.eval (.const (.int .u64 1)) = .int .u64 1)
   simp only [execOp, resolve, e0, e1]
   go_simp
  ·refine Eng.plain rfl rfl fun a w' H => ?_
   exact Eng.val (w1 := w') (v := .bool (q10 && q20)) (Eng.run_and rfl rfl (G := true) (H.dep 6 11 (by kernel_rfl) rfl) (fun hb => (Eng.on (H.dep 15 20 (by kernel_rfl) rfl) (Eng.mk1 hb)))) (Below.refl _ _) (by show _ = Value.bool q21; rw [Bq21])
  ·refine Eng.plain rfl rfl fun a w' H => ?_
   exact Eng.val (w1 := w') (v := .bool q21) (Eng.run_assign rfl (H.dep 16 21 (by kernel_rfl) rfl)) (Below.refl _ _) rfl
 intro act2 w2 T
 have h4_2 : act2.eval (.tmp 4) = .bool q21 := T.done 17 4 rfl rfl
 have d2 := T.defers.trans d1
 have bl2 := bl1.trans (T.below.mono bl1.size)
 clear T
 refine Eng.tail_nil ?_
 show Code.wp Tryd.prog _ _ _ _
 refine wp_ret ?_
 repeat (first | refine Eng.in_ret ?_ | refine Eng.then_ret ?_)
 exact Eng.ret1 rfl d2 (h4_2.trans (by rw [Bq21, Bq20, Bq10, Bq9, Bq6]; unfold Nfa.has; rw [hN, hR])) ⟨rfl, bl2⟩
end Go.Proofs.YthgafcaoibfchaaDoor.X
end
section
namespace Go.Proofs.YthgafcaoibfchaaDoor.X
open Go.RowKit Go.Shelf Go.Proofs Go.Proofs.YthgafcaoibfchaaDoorW.PrintWords Go.Proofs.YthgafcaoibfchaaDoorW.PrintLast Go.Proofs.YthgafcaoibfchaaDoorW.PrintMore
set_option linter.unusedVariables false
set_option linter.unusedSimpArgs false
set_option maxHeartbeats 4000000 in
set_option maxRecDepth 100000 in
theorem Nfa.put_calls (g : Nat) (l : List Int) (n : Int) (w : World) (hl : l.length = 8) (hk : w.heap[g]? = some (.cells (List.map (Value.int .u64) l).toArray 74 (0, 0))) : Calls Tryd.prog 90 #[.pointer (some ⟨g, 0, none⟩), .int .i64 n] w fun e w' => ∃ v, e = .returned v ∧ Eng.Turns w w' g (.cells (List.map (Value.int .u64) (Nfa.put l n)).toArray 74 (0, 0)) := by
 obtain ⟨N64, hN⟩ : ∃ k : Nat, n.toNat / 64 = k := ⟨_, rfl⟩
 obtain ⟨Nr, hR⟩ : ∃ k : Nat, n.toNat % 64 = k := ⟨_, rfl⟩
 have hq64 : 0 ≤ n → n < 512 → IntKind.i64.wrap (n.tdiv 64) = (N64 : Int) := fun h0 h1 => by rw [← hN]; exact Nfa.quo64 h0 h1
 have hr64 : 0 ≤ n → n.tmod 64 = (Nr : Int) := fun h0 => by rw [← hR]; exact Nfa.rem64 h0
 have hN8 : n < 512 → N64 < 8 := by omega
 have hNr : Nr < 64 := by omega
 have hg := (Array.getElem?_eq_some_iff.1 hk).1
 refine Eng.enter Tryd.func90 rfl fun act0 d0 s0 v0 => ?_
 have s0 : act0.tmps.size = 22 := s0
 have h0_0 : act0.eval (.tmp 0) = .pointer (some ⟨g, 0, none⟩) := v0 0 (by simp)
 have h1_0 : act0.eval (.tmp 1) = .int .i64 n := v0 1 (by simp)
 clear v0
 have bl0 : Below w.heap.size w w := Below.refl _ _
 refine wp_seq ?_
 obtain ⟨q5, Bq5⟩ : ∃ b : Bool, b = (decide (n ≥ 0)) := ⟨_, rfl⟩
 obtain ⟨q8, Bq8⟩ : ∃ b : Bool, b = (decide (n < 512)) := ⟨_, rfl⟩
 obtain ⟨q9, Bq9⟩ : ∃ b : Bool, b = (q5 && q8) := ⟨_, rfl⟩
 refine Eng.regionS (Eng.still [fun u_ => u_ = .int .i64 n, fun u_ => u_ = .bool q5, fun u_ => u_ = .bool q5, fun u_ => u_ = bif (q5 == true) then (.int .i64 n) else undef, fun u_ => u_ = bif (q5 == true) then (.bool q8) else undef, fun u_ => u_ = .bool q9]) (fun _ => .plain) 6 0 22 s0 rfl (by kernel_rfl) (Eng.still_stable _) (Or.inr (Eng.still_any _)) ?_ ?_
 ·refine Eng.Steps.cons (fun _ => ?_) (Eng.Steps.cons (fun _ => ?_) (Eng.Steps.cons (fun _ => ?_) (Eng.Steps.cons (fun _ => ?_) (Eng.Steps.cons (fun _ => ?_) (Eng.Steps.cons (fun _ => ?_) (Eng.Steps.nil))))))
  ·refine Eng.plain rfl rfl fun a w' H => ?_
   exact Eng.val (w1 := w') (v := .int .i64 n) (Eng.run_move rfl ((H.kept 1 (by kernel_rfl)).trans h1_0)) (Below.refl _ _) rfl
  ·refine Eng.plain rfl rfl fun a w' H => ?_
   refine Eng.val (w1 := w') (v := .bool (decide (n ≥ 0))) ?_ (Below.refl _ _) (by show _ = Value.bool q5; rw [Bq5])
   have e0 : a.eval (.tmp 4) = .int .i64 n := (H.dep 0 4 (by kernel_rfl) rfl)
   have e1 : a.eval (.const (.int .i64 0)) = .int .i64 0 := (rfl : a.eval (.const (.int .i64 0)) = .int .i64 0)
   simp only [execOp, resolve, e0, e1]
   go_simp
  ·refine Eng.plain rfl rfl fun a w' H => ?_
   exact Eng.val (w1 := w') (v := .bool q5) (Eng.run_move rfl (H.dep 1 5 (by kernel_rfl) rfl)) (Below.refl _ _) rfl
  ·refine Eng.guarded1 (j := 2) (d := 6) (b := q5) rfl rfl (by kernel_rfl) rfl (fun v w h => h) (fun hG w => Eng.off hG) fun hG a w' H => ?_
   exact Eng.val (w1 := w') (v := .int .i64 n) (Eng.run_move rfl ((H.kept 1 (by kernel_rfl)).trans h1_0)) (Below.refl _ _) (Eng.off' hG rfl)
  ·refine Eng.guarded1 (j := 2) (d := 6) (b := q5) rfl rfl (by kernel_rfl) rfl (fun v w h => h) (fun hG w => Eng.off hG) fun hG a w' H => ?_
   refine Eng.val (w1 := w') (v := .bool (decide (n < 512))) ?_ (Below.refl _ _) (Eng.off' hG (by rw [Bq8]))
   have e0 : a.eval (.tmp 7) = .int .i64 n := (Eng.on (H.dep 3 7 (by kernel_rfl) rfl) hG)
   have e1 : a.eval (.const (.int .i64 512)) = .int .i64 512 := (rfl : a.eval (.const (.int .i64 512)) = .int .i64 512)
   simp only [execOp, resolve, e0, e1]
   go_simp
  ·refine Eng.plain rfl rfl fun a w' H => ?_
   exact Eng.val (w1 := w') (v := .bool (q5 && q8)) (Eng.run_and rfl rfl (G := true) (H.dep 2 6 (by kernel_rfl) rfl) (fun hb => (Eng.on (H.dep 4 8 (by kernel_rfl) rfl) (Eng.mk1 hb)))) (Below.refl _ _) (by show _ = Value.bool q9; rw [Bq9])
 intro act1 w1 T
 have h0_1 := (T.rest 0 (by kernel_rfl)).trans h0_0
 have h1_1 := (T.rest 1 (by kernel_rfl)).trans h1_0
 have kg_1 := (T.below.block _ hg).trans hk
 have lg_1 := Nat.lt_of_lt_of_le hg T.below.size
 have h9_1 : act1.eval (.tmp 9) = .bool q9 := T.done 5 9 rfl rfl
 have d1 := T.defers.trans d0
 have s1 := T.size.trans s0
 have bl1 := bl0.trans (T.below.mono bl0.size)
 clear T
 refine Eng.tail_nil ?_
 show Code.wp Tryd.prog _ _ _ _
 refine wp_cond_split h9_1 (fun hq => ?_) (fun hq => ?_)
 ·
  have c9 := Bq9.symm.trans hq
  clear hq
  have hq := c9
  rw [Bq8, Bq5] at hq
  simp only [Bool.and_eq_true, decide_eq_true_eq] at hq
  obtain ⟨hq0, hq1⟩ := hq
  have hq8 := hN8 hq1
  refine Eng.regionD (Eng.still [fun u_ => u_ = .pointer (some ⟨g, 0, none⟩), fun u_ => u_ = .int .i64 n, fun u_ => u_ = .int .i64 (N64 : Int), fun u_ => u_ = .pointer (some ⟨g, 0, none⟩), fun u_ => u_ = .pointer (some ⟨g, N64, none⟩), fun u_ => u_ = .int .u64 (Nfa.at_ l (N64)), fun u_ => u_ = .int .i64 n, fun u_ => u_ = .int .i64 (Nr : Int), fun u_ => u_ = .int .u64 (shl .u64 1 (Nr : Int)), fun u_ => u_ = .int .u64 (Go.bits .or .u64 (Nfa.at_ l N64) (shl .u64 1 (Nr : Int))), fun u_ => u_ = .pointer (some ⟨g, 0, none⟩), fun u_ => u_ = .pointer (some ⟨g, N64, none⟩)]) (fun _ => .plain) 12 1 22 (by kernel_rfl) s1 rfl (by kernel_rfl) (Eng.still_stable _) (Or.inr (Eng.still_any _)) ?_ ?_
  ·refine Eng.Steps.cons (fun _ => ?_) (Eng.Steps.cons (fun _ => ?_) (Eng.Steps.cons (fun _ => ?_) (Eng.Steps.cons (fun _ => ?_) (Eng.Steps.cons (fun _ => ?_) (Eng.Steps.cons (fun _ => ?_) (Eng.Steps.cons (fun _ => ?_) (Eng.Steps.cons (fun _ => ?_) (Eng.Steps.cons (fun _ => ?_) (Eng.Steps.cons (fun _ => ?_) (Eng.Steps.cons (fun _ => ?_) (Eng.Steps.cons (fun _ => ?_) (Eng.Steps.cons (fun hlt => ?_) (Eng.Steps.nil)))))))))))))
   ·refine Eng.plain rfl rfl fun a w' H => ?_
    exact Eng.val (w1 := w') (v := .pointer (some ⟨g, 0, none⟩)) (Eng.run_move rfl ((H.kept 0 (by kernel_rfl)).trans h0_1)) (Below.refl _ _) rfl
   ·refine Eng.plain rfl rfl fun a w' H => ?_
    exact Eng.val (w1 := w') (v := .int .i64 n) (Eng.run_move rfl ((H.kept 1 (by kernel_rfl)).trans h1_1)) (Below.refl _ _) rfl
   ·refine Eng.plain rfl rfl fun a w' H => ?_
    refine Eng.val (w1 := w') (v := .int .i64 (N64 : Int)) ?_ (Below.refl _ _) rfl
    have e0 : a.eval (.tmp 11) = .int .i64 n := (H.dep 1 11 (by kernel_rfl) rfl)
    have e1 : a.eval (.const (.int .i64 64)) = .int .i64 64 := (rfl : a.eval (.const (.int .i64 64)) = .int .i64 64)
    simp only [execOp, resolve, e0, e1]
    go_simp
    all_goals first | rfl | (exact hq64 hq0 hq1) | (rw [hq64 hq0 hq1]; done) | skip
   ·refine Eng.plain rfl rfl fun a w' H => ?_
    refine Eng.val (w1 := w') (v := .pointer (some ⟨g, 0, none⟩)) ?_ (Below.refl _ _) rfl
    have e0 : a.eval (.tmp 10) = .pointer (some ⟨g, 0, none⟩) := (H.dep 0 10 (by kernel_rfl) rfl)
    simp only [execOp, resolve, e0]
    go_simp
   ·refine Eng.plain rfl rfl fun a w' H => ?_
    refine Eng.val (w1 := w') (v := .pointer (some ⟨g, N64, none⟩)) ?_ (Below.refl _ _) rfl
    exact Eng.run_indexAddr rfl Tryd.underlying74 (by kernel_rfl) (H.dep 3 13 (by kernel_rfl) rfl) ((H.dep 2 12 (by kernel_rfl) rfl).trans (congrArg (Value.int _) (show (N64 : Int) = ((N64 : Nat) : Int) from by omega))) (by decide) (by omega)
   ·refine Eng.plain rfl rfl fun a w' H => ?_
    have kb := (H.below.block _ lg_1).trans kg_1
    have z0 : w'.cell? ⟨g, N64, none⟩ = some (.int .u64 (Nfa.at_ l (N64))) := (Eng.cells kb (N64)).trans (Nfa.cell_at (hl) (by omega))
    refine Eng.val (w1 := w') (v := .int .u64 (Nfa.at_ l (N64))) ?_ (Below.refl _ _) rfl
    have e0 : a.eval (.tmp 14) = .pointer (some ⟨g, N64, none⟩) := (H.dep 4 14 (by kernel_rfl) rfl)
    simp only [execOp, resolve, e0]
    go_simp
   ·refine Eng.plain rfl rfl fun a w' H => ?_
    exact Eng.val (w1 := w') (v := .int .i64 n) (Eng.run_move rfl ((H.kept 1 (by kernel_rfl)).trans h1_1)) (Below.refl _ _) rfl
   ·refine Eng.plain rfl rfl fun a w' H => ?_
    refine Eng.val (w1 := w') (v := .int .i64 (Nr : Int)) ?_ (Below.refl _ _) rfl
    have e0 : a.eval (.tmp 16) = .int .i64 n := (H.dep 6 16 (by kernel_rfl) rfl)
    have e1 : a.eval (.const (.int .i64 64)) = .int .i64 64 := (rfl : a.eval (.const (.int .i64 64)) = .int .i64 64)
    simp only [execOp, resolve, e0, e1]
    go_simp
    all_goals first | rfl | (exact hr64 hq0) | (rw [hr64 hq0]; done) | skip
   ·refine Eng.plain rfl rfl fun a w' H => ?_
    refine Eng.val (w1 := w') (v := .int .u64 (shl .u64 1 (Nr : Int))) ?_ (Below.refl _ _) rfl
    have e0 : a.eval (.const (.int .u64 1)) = .int .u64 1 := (rfl : a.eval (.const (.int .u64 1)) = .int .u64 1)
    have e1 : a.eval (.tmp 17) = .int .i64 (Nr : Int) := (H.dep 7 17 (by kernel_rfl) rfl)
    simp only [execOp, resolve, e0, e1]
    go_simp
    all_goals first | rfl | (exact Nfa.shl_eq _ hNr) | (have h := Nfa.shl_eq 1 hNr; rw [Int.one_mul] at h; exact h) | skip
   ·refine Eng.plain rfl rfl fun a w' H => ?_
    refine Eng.val (w1 := w') (v := .int .u64 (Go.bits .or .u64 (Nfa.at_ l N64) (shl .u64 1 (Nr : Int)))) ?_ (Below.refl _ _) rfl
    have e0 : a.eval (.tmp 15) = .int .u64 (Nfa.at_ l (N64)) := (H.dep 5 15 (by kernel_rfl) rfl)
    have e1 : a.eval (.tmp 18) = .int .u64 (shl .u64 1 (Nr : Int)) := (H.dep 8 18 (by kernel_rfl) rfl)
    simp only [execOp, resolve, e0, e1]
    go_simp
    all_goals first | rfl | skip
   ·refine Eng.plain rfl rfl fun a w' H => ?_
    refine Eng.val (w1 := w') (v := .pointer (some ⟨g, 0, none⟩)) ?_ (Below.refl _ _) rfl
    have e0 : a.eval (.tmp 10) = .pointer (some ⟨g, 0, none⟩) := (H.dep 0 10 (by kernel_rfl) rfl)
    simp only [execOp, resolve, e0]
    go_simp
   ·refine Eng.plain rfl rfl fun a w' H => ?_
    refine Eng.val (w1 := w') (v := .pointer (some ⟨g, N64, none⟩)) ?_ (Below.refl _ _) rfl
    exact Eng.run_indexAddr rfl Tryd.underlying74 (by kernel_rfl) (H.dep 10 20 (by kernel_rfl) rfl) ((H.dep 2 12 (by kernel_rfl) rfl).trans (congrArg (Value.int _) (show (N64 : Int) = ((N64 : Nat) : Int) from by omega))) (by decide) (by omega)
   ·exact absurd hlt (by decide)
  intro act3 w3 T
  have kg_3 := (T.below.block _ lg_1).trans kg_1
  have h19_3 : act3.eval (.tmp 19) = .int .u64 (Go.bits .or .u64 (Nfa.at_ l N64) (shl .u64 1 (Nr : Int))) := T.done 9 19 rfl rfl
  have h21_3 : act3.eval (.tmp 21) = .pointer (some ⟨g, N64, none⟩) := T.done 11 21 rfl rfl
  have d3 := T.defers.trans d1
  have bl3 := bl1.trans (T.below.mono bl1.size)
  clear T
  refine Eng.tail_set (n := N64) (v := .int .u64 (Go.bits .or .u64 (Nfa.at_ l N64) (shl .u64 1 (Nr : Int)))) (new := (List.map (Value.int .u64) (l.set (N64) (Go.bits .or .u64 (Nfa.at_ l N64) (shl .u64 1 (Nr : Int))))).toArray) rfl rfl rfl kg_3 (Nfa.cell_set l (N64) (Go.bits .or .u64 (Nfa.at_ l N64) (shl .u64 1 (Nr : Int)))) ?_ fun w4 S => ?_
  ·have e0 : act3.eval (.tmp 21) = .pointer (some ⟨g, N64, none⟩) := h21_3
   have e1 : act3.eval (.tmp 19) = .int .u64 (Go.bits .or .u64 (Nfa.at_ l N64) (shl .u64 1 (Nr : Int))) := h19_3
   have z0 := (Eng.cells kg_3 (N64)).trans (Nfa.cell_at (hl) (by omega))
   have f0 := Eng.unfrozen kg_3 (N64)
   simp only [execOp]
   rw [e0, e1]
   go_simp
  refine Eng.tail_nil ?_
  have fin := Eng.Turns.of_sets bl3 S
  exact Eng.ret0 rfl d3 fun v => ⟨v, rfl, by rw [Nfa.put_in hq0 hq1, hN, hR]; exact fin⟩
 ·
  have c9 := Bq9.symm.trans hq
  clear hq
  have hq := c9
  rw [Bq8, Bq5] at hq
  refine wp_skip ?_
  exact Eng.ret0 rfl d1 fun v => ⟨v, rfl, by rw [Nfa.put_out (by simpa using hq)]; exact Eng.Turns.of_below bl1 hk⟩
end Go.Proofs.YthgafcaoibfchaaDoor.X
end
section
namespace Go.Proofs.YthgafcaoibfchaaDoor.X
open Go.RowKit Go.Shelf Go.Proofs Go.Proofs.YthgafcaoibfchaaDoorW.PrintWords Go.Proofs.YthgafcaoibfchaaDoorW.PrintLast Go.Proofs.YthgafcaoibfchaaDoorW.PrintMore
set_option linter.unusedVariables false
set_option linter.unusedSimpArgs false
set_option maxHeartbeats 4000000 in
set_option maxRecDepth 100000 in
theorem Nfa.parts_calls (pv bv : Value) (many : Int) (w : World) : Calls Tryd.prog 89 #[.agg #[pv, bv, .int .i64 many]] w fun e w' => ∃ bt, e = .returned (.func (.func 116) #[] #[.pointer (some ⟨bt, 0, none⟩)]) ∧ w.heap.size ≤ bt ∧ bt < w'.heap.size ∧ w'.heap[bt]? = some (.cells #[pv, bv, .int .i64 many] 65 (0, 0)) ∧ Below w.heap.size w w' := by
 refine Eng.enter Tryd.func89 rfl fun act0 d0 s0 v0 => ?_
 have s0 : act0.tmps.size = 4 := s0
 have h0_0 : act0.eval (.tmp 0) = .agg #[pv, bv, .int .i64 many] := v0 0 (by simp)
 clear v0
 have bl0 : Below w.heap.size w w := Below.refl _ _
 refine wp_seq ?_
 refine Eng.regionS (Eng.still [fun u_ => True, fun u_ => u_ = .nilFunc]) (fun i => ([.alloc 65 #[pv, bv, .int .i64 many], .plain] : List Eng.Kind).getD i .plain) 2 0 4 s0 rfl (by kernel_rfl) (Eng.still_stable _) (Or.inr (Eng.still_any _)) ?_ ?_
 ·refine Eng.Steps.cons (fun _ => ?_) (Eng.Steps.cons (fun _ => ?_) (Eng.Steps.nil))
  ·refine Eng.made rfl (by simp) rfl (fun a w' hd ho => ?_) (fun _ _ => trivial)
   exact Eng.run_box rfl ((ho 0 (by kernel_rfl)).trans h0_0)
  ·refine Eng.plain rfl rfl fun a w' H => ?_
   exact Eng.val (w1 := w') (v := .nilFunc) (Eng.run_assign rfl (rfl : a.eval (.const (.nilFunc)) = .nilFunc)) (Below.refl _ _) rfl
 intro act1 w1 T
 obtain ⟨g1_1, h1_1, rg1_1, lg1_1_1, kg1_1_1⟩ := T.al 0 1 _ _ rfl rfl rfl (by kernel_rfl)
 have og1_1 : w.heap.size ≤ g1_1 := Nat.le_trans bl0.size rg1_1
 have d1 := T.defers.trans d0
 have s1 := T.size.trans s0
 have bl1 := bl0.trans (T.below.mono bl0.size)
 clear T
 refine Eng.tail_nil ?_
 show Code.wp Tryd.prog _ _ _ _
 refine wp_seq ?_
 refine Eng.regionS (Eng.still [fun u_ => u_ = .func (.func 116) #[] #[.pointer (some ⟨g1_1, 0, none⟩)], fun u_ => u_ = .func (.func 116) #[] #[.pointer (some ⟨g1_1, 0, none⟩)]]) (fun _ => .plain) 2 0 4 s1 rfl (by kernel_rfl) (Eng.still_stable _) (Or.inr (Eng.still_any _)) ?_ ?_
 ·refine Eng.Steps.cons (fun _ => ?_) (Eng.Steps.cons (fun _ => ?_) (Eng.Steps.nil))
  ·refine Eng.plain rfl rfl fun a w' H => ?_
   refine Eng.val (w1 := w') (v := .func (.func 116) #[] #[.pointer (some ⟨g1_1, 0, none⟩)]) ?_ (Below.refl _ _) rfl
   have e0 := ((H.kept 1 (by kernel_rfl)).trans h1_1)
   simp only [execOp, resolve, List.map_toArray, List.map_cons, List.map_nil, e0]
   go_simp
  ·refine Eng.plain rfl rfl fun a w' H => ?_
   exact Eng.val (w1 := w') (v := .func (.func 116) #[] #[.pointer (some ⟨g1_1, 0, none⟩)]) (Eng.run_assign rfl (H.dep 0 3 (by kernel_rfl) rfl)) (Below.refl _ _) rfl
 intro act2 w2 T
 have kg1_1_2 := (T.below.block _ lg1_1_1).trans kg1_1_1
 have lg1_1_2 := Nat.lt_of_lt_of_le lg1_1_1 T.below.size
 have h2_2 : act2.eval (.tmp 2) = .func (.func 116) #[] #[.pointer (some ⟨g1_1, 0, none⟩)] := T.done 1 2 rfl rfl
 have d2 := T.defers.trans d1
 have bl2 := bl1.trans (T.below.mono bl1.size)
 clear T
 refine Eng.tail_nil ?_
 show Code.wp Tryd.prog _ _ _ _
 refine wp_ret ?_
 repeat (first | refine Eng.in_ret ?_ | refine Eng.then_ret ?_)
 exact Eng.ret1 rfl d2 h2_2 ⟨g1_1, rfl, og1_1, lg1_1_2, kg1_1_2, bl2⟩
end Go.Proofs.YthgafcaoibfchaaDoor.X
end
