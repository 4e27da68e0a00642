/- Words and walks that the row of NfaRuns needs: printed by programs, and plain laws. -/
import Derived.Test.YthgafcaoibfchaaDoorM9
import Derived.Test.YthgafcaoibfchaaDoorM10
import Derived.Test.YthgafcaoibfchaaDoorM14
import Derived.Test.YthgafcaoibfchaaDoorM18
import Derived.Test.YthgafcaoibfchaaDoorM13
namespace Go.Proofs.YthgafcaoibfchaaDoorW.PrintWords
end Go.Proofs.YthgafcaoibfchaaDoorW.PrintWords
namespace Go.Proofs.YthgafcaoibfchaaDoorW.PrintLast
end Go.Proofs.YthgafcaoibfchaaDoorW.PrintLast
namespace Go.Proofs.YthgafcaoibfchaaDoorW.PrintMore
end Go.Proofs.YthgafcaoibfchaaDoorW.PrintMore
namespace Go.Proofs.YthgafcaoibfchaaDoor.X
open Go.RowKit Go.Shelf Go.Proofs Go.Proofs.YthgafcaoibfchaaDoorW.PrintWords Go.Proofs.YthgafcaoibfchaaDoorW.PrintLast Go.Proofs.YthgafcaoibfchaaDoorW.PrintMore
set_option linter.unusedVariables false
set_option linter.unusedSimpArgs false
set_option maxHeartbeats 4000000 in
set_option maxRecDepth 100000 in
theorem Nfa.runs_walk (pa av : Value) (ps : List (List Pth.Part)) (us : List Value) (la : List ByteArray) (a0 : List Int) (w : World) (hua : us.length = ps.length) (hp : Eng.Reads w pa ps.length 1 us) (hin : ∀ k, k < ps.length → Eng.Reads w (us.getD k undef) (ps.getD k []).length 2 (Pth.cellsP (ps.getD k []))) (hsz : ∀ k, k < ps.length → (ps.getD k []).length ≤ 5864062014634) (hpl : ps.length ≤ 5864062014634) (hst : ∀ k, k < ps.length → ∀ p ∈ ps.getD k [], p.2.size ≤ 9223372036854775807) (hT : Tabs.Holds w) (hra : Eng.Reads w av la.length 1 (Nfa.strs la)) (hga : Nfa.Good a0) : Calls Tryd.prog 10 #[pa, av, .agg ((List.map (Value.int .u64) a0).toArray)] w fun e w' => e = .returned (.bool true) ∧ Below w.heap.size w w' := by
 have hm := Eng.Reads.len_le hra
 have hmp := Eng.Reads.len_le hp
 refine Eng.enter Tryd.func10 rfl fun act0 d0 s0 v0 => ?_
 have s0 : act0.tmps.size = 53 := s0
 have h0_0 : act0.eval (.tmp 0) = pa := v0 0 (by simp)
 have h1_0 : act0.eval (.tmp 1) = av := v0 1 (by simp)
 have h2_0 : act0.eval (.tmp 2) = .agg ((List.map (Value.int .u64) a0).toArray) := v0 2 (by simp)
 clear v0
 have bl0 : Below w.heap.size w w := Below.refl _ _
 refine wp_seq ?_
 refine Eng.regionS (Eng.still [fun u_ => True, fun u_ => u_ = .bool false]) (fun i => ([.alloc 61 ((List.map (Value.int .u64) a0).toArray), .plain] : List Eng.Kind).getD i .plain) 2 0 53 s0 rfl (by kernel_rfl) (Eng.still_stable _) (Or.inr (Eng.still_any _)) ?_ ?_
 ·refine Eng.Steps.cons (fun _ => ?_) (Eng.Steps.cons (fun _ => ?_) (Eng.Steps.nil))
  ·refine Eng.made rfl (by simp) rfl (fun a w' hd ho => ?_) (fun _ _ => trivial)
   exact Eng.run_box rfl ((ho 2 (by kernel_rfl)).trans h2_0)
  ·refine Eng.plain rfl rfl fun a w' H => ?_
   exact Eng.val (w1 := w') (v := .bool false) (Eng.run_assign rfl (rfl : a.eval (.const (.bool false)) = .bool false)) (Below.refl _ _) rfl
 intro act1 w1 T
 have h0_1 := (T.rest 0 (by kernel_rfl)).trans h0_0
 have h1_1 := (T.rest 1 (by kernel_rfl)).trans h1_0
 have Fpp_1 := Eng.Reads.below hp T.below
 obtain ⟨g5_1, h5_1, rg5_1, lg5_1_1, kg5_1_1⟩ := T.al 0 5 _ _ rfl rfl rfl (by kernel_rfl)
 have d1 := T.defers.trans d0
 have s1 := T.size.trans s0
 have bl1 := bl0.trans (T.below.mono bl0.size)
 clear T
 refine Eng.tail_nil ?_
 refine wp_seq ?_
 refine wp_seq ?_
 obtain ⟨q12, Bq12⟩ : ∃ b : Bool, b = (true) := ⟨_, rfl⟩
 obtain ⟨q13, Bq13⟩ : ∃ b : Bool, b = (!q12) := ⟨_, rfl⟩
 refine Eng.regionS (Eng.still [fun u_ => u_ = .bool q12, fun u_ => u_ = .bool q13]) (fun _ => .plain) 2 0 53 s1 rfl (by kernel_rfl) (Eng.still_stable _) (Or.inr (Eng.still_any _)) ?_ ?_
 ·refine Eng.Steps.cons (fun _ => ?_) (Eng.Steps.cons (fun _ => ?_) (Eng.Steps.nil))
  ·refine Eng.plain rfl rfl fun a w' H => ?_
   refine Eng.call Tryd.func35 (by kernel_rfl) (by kernel_rfl) rfl #[] ?_ ?_
   ·simp
   refine (Nfa.alive_calls _ (Tabs.below (Tabs.below hT bl1) H.below)).mono ?_
   rintro e w'' ⟨rfl, hb⟩
   exact ⟨_, rfl, (by show _ = Value.bool q12; rw [Bq12]), hb⟩
  ·refine Eng.plain rfl rfl fun a w' H => ?_
   exact Eng.val (w1 := w') (v := .bool (!q12)) (Eng.run_not rfl (H.dep 0 12 (by kernel_rfl) rfl)) (Below.refl _ _) (by show _ = Value.bool q13; rw [Bq13])
 intro act2 w2 T
 have h0_2 := (T.rest 0 (by kernel_rfl)).trans h0_1
 have h1_2 := (T.rest 1 (by kernel_rfl)).trans h1_1
 have h5_2 := (T.rest 5 (by kernel_rfl)).trans h5_1
 have kg5_1_2 := (T.below.block _ lg5_1_1).trans kg5_1_1
 have lg5_1_2 := Nat.lt_of_lt_of_le lg5_1_1 T.below.size
 have Fpp_2 := Eng.Reads.below Fpp_1 T.below
 have h13_2 : act2.eval (.tmp 13) = .bool q13 := T.done 1 13 rfl rfl
 have d2 := T.defers.trans d1
 have s2 := T.size.trans s1
 have bl2 := bl1.trans (T.below.mono bl1.size)
 clear T
 refine Eng.tail_nil ?_
 have n13 : q13 = false := by
  try simp only [Bq13, Bq12]
  first | done | rfl
 refine wp_cond_false (h13_2.trans (by rw [n13])) ?_
 refine wp_skip ?_
 refine wp_seq ?_
 refine (wpIn_wide (n := 1)).1 ?_
 refine EngI.regionT (n := 9) rfl ?_
 refine EngI.tail_val EngI.free_wide rfl rfl rfl rfl (Eng.run_move rfl h0_2) s2 rfl fun act3 d3 s3 hv hr => ?_
 have h0_3 := (hr 0 rfl).trans h0_2
 have h1_3 := (hr 1 rfl).trans h1_2
 have h5_3 := (hr 5 rfl).trans h5_2
 have h15_3 : act3.eval (.tmp 15) = pa := hv
 have d3 := d3.trans d2
 clear hv hr
 refine EngI.tail_call EngI.free_wide Tryd.func37 (by kernel_rfl) (by kernel_rfl) rfl rfl rfl rfl #[pa] (by have e0 : act3.eval (.tmp 15) = pa := h15_3; simp only [List.map_toArray, List.map_cons, List.map_nil, e0]) s3 rfl (R := fun v w' => ∃ vl, vl.length = ps.length ∧ w'.ownsRow w2.heap.size 82 1 v ps.length vl ∧ Pth.Each w2.heap.size ps vl w' ∧ Below w2.heap.size w2 w') ((Pth.theirses_calls pa ps us _ hua Fpp_2 (fun k hk => Eng.Reads.below (hin k hk) bl2) hsz hpl).mono ?_) fun v_4 w4 act4 R d4 s4 hv hr => ?_
 ·rintro e w1 ⟨v, vl, rfl, h1, h2, h3, h4⟩; exact ⟨v, rfl, vl, h1, h2, h3, h4⟩
 have h0_4 := (hr 0 rfl).trans h0_3
 have h1_4 := (hr 1 rfl).trans h1_3
 have h5_4 := (hr 5 rfl).trans h5_3
 have h16_4 : act4.eval (.tmp 16) = v_4 := hv
 have d4 := d4.trans d3
 clear hv hr
 obtain ⟨vl, hvl, Oth4, XE4, hb4⟩ := R
 have Oth := Eng.own_mono Oth4 bl2.size
 have XE := Pth.Each.mono XE4 bl2.size
 have Fth := Eng.Reads.of_own Oth
 have kg5_1_4 := (hb4.block _ lg5_1_2).trans kg5_1_2
 have lg5_1_4 := Nat.lt_of_lt_of_le lg5_1_2 hb4.size
 have bl4 := bl2.trans (hb4.mono bl2.size)
 refine EngI.tail_call EngI.free_wide Tryd.func36 (by kernel_rfl) (by kernel_rfl) rfl rfl rfl rfl #[v_4] (by have e0 : act4.eval (.tmp 16) = v_4 := h16_4; simp only [List.map_toArray, List.map_cons, List.map_nil, e0]) s4 rfl (R := fun v w' => ∃ pv bv vs m, v = .tuple #[.agg #[pv, bv, .int .i64 m], .int .i64 (Nfa.code ps)] ∧ (Nfa.Slc pv ∧ Nfa.Slc bv) ∧ Nfa.Made w4.heap.size pv bv ps vs m w' ∧ Below w4.heap.size w4 w') ((Nfa.make_calls v_4 ps vl _ hvl Fth (Pth.Each.reads XE hvl) hsz hpl hst (Tabs.below hT bl4)).mono ?_) fun v_5 w5 act5 R d5 s5 hv hr => ?_
 ·rintro e w1 ⟨pv, bv, vs, m, rfl, h1, h2, h3⟩; exact ⟨_, rfl, pv, bv, vs, m, rfl, h1, h2, h3⟩
 have h0_5 := (hr 0 rfl).trans h0_4
 have h1_5 := (hr 1 rfl).trans h1_4
 have h5_5 := (hr 5 rfl).trans h5_4
 have h17_5 : act5.eval (.tmp 17) = v_5 := hv
 have d5 := d5.trans d4
 clear hv hr
 obtain ⟨pv, bv, vs, m, hv1_5, ⟨hsl0_5, hsl1_5⟩, hM_5, hb5⟩ := R
 have hMm_5 := Nfa.Made.mono hM_5 bl4.size
 clear hM_5
 have kg5_1_5 := (hb5.block _ lg5_1_4).trans kg5_1_4
 have lg5_1_5 := Nat.lt_of_lt_of_le lg5_1_4 hb5.size
 have bl5 := bl4.trans (hb5.mono bl4.size)
 rw [hv1_5] at h17_5
 refine EngI.tail_val EngI.free_wide rfl rfl rfl rfl (Eng.run_move rfl h17_5) s5 rfl fun act6 d6 s6 hv hr => ?_
 have h0_6 := (hr 0 rfl).trans h0_5
 have h1_6 := (hr 1 rfl).trans h1_5
 have h5_6 := (hr 5 rfl).trans h5_5
 have h14_6 : act6.eval (.tmp 14) = .tuple #[.agg #[pv, bv, .int .i64 m], .int .i64 (Nfa.code ps)] := hv
 have d6 := d6.trans d5
 clear hv hr
 refine EngI.tail_val (w1 := w5) (v := .agg #[pv, bv, .int .i64 m]) EngI.free_wide rfl rfl rfl rfl ?_ s6 rfl ?_
 ·have e0 : act6.eval (.tmp 14) = .tuple #[.agg #[pv, bv, .int .i64 m], .int .i64 (Nfa.code ps)] := h14_6
  simp only [execOp, resolve, e0]
  go_simp
 intro act7 d7 s7 hv hr
 have h0_7 := (hr 0 rfl).trans h0_6
 have h1_7 := (hr 1 rfl).trans h1_6
 have h5_7 := (hr 5 rfl).trans h5_6
 have h14_7 := (hr 14 rfl).trans h14_6
 have h18_7 : act7.eval (.tmp 18) = .agg #[pv, bv, .int .i64 m] := hv
 have d7 := d7.trans d6
 clear hv hr
 refine EngI.tail_val (w1 := w5) (v := .int .i64 (Nfa.code ps)) EngI.free_wide rfl rfl rfl rfl ?_ s7 rfl ?_
 ·have e0 : act7.eval (.tmp 14) = .tuple #[.agg #[pv, bv, .int .i64 m], .int .i64 (Nfa.code ps)] := h14_7
  simp only [execOp, resolve, e0]
  go_simp
 intro act8 d8 s8 hv hr
 have h0_8 := (hr 0 rfl).trans h0_7
 have h1_8 := (hr 1 rfl).trans h1_7
 have h5_8 := (hr 5 rfl).trans h5_7
 have h18_8 := (hr 18 rfl).trans h18_7
 have h19_8 : act8.eval (.tmp 19) = .int .i64 (Nfa.code ps) := hv
 have d8 := d8.trans d7
 clear hv hr
 refine EngI.tail_ex EngI.free_wide rfl rfl rfl rfl (Eng.alloc_ex (cs := #[.slice none 0 0, .slice none 0 0, .int .i64 0]) rfl (by kernel_rfl)) s8 rfl fun v_9 w9 act9 R d9 s9 hv hr => ?_
 obtain ⟨g7_9, ev_9, rg_9, lg7_9, kg7_9, b_9⟩ := R
 have h0_9 := (hr 0 rfl).trans h0_8
 have h1_9 := (hr 1 rfl).trans h1_8
 have h5_9 := (hr 5 rfl).trans h5_8
 have h18_9 := (hr 18 rfl).trans h18_8
 have h19_9 := (hr 19 rfl).trans h19_8
 have h7_9 : act9.eval (.tmp 7) = v_9 := hv
 have d9 := d9.trans d8
 clear hv hr
 have ne_g7_9_g5_1 : g5_1 ≠ g7_9 := fun e => Nat.lt_irrefl _ (Nat.lt_of_lt_of_le (e ▸ lg5_1_5) rg_9)
 have og7_9 : w.heap.size ≤ g7_9 := Nat.le_trans bl5.size rg_9
 have kg5_1_9 := (b_9.block _ lg5_1_5).trans kg5_1_5
 have lg5_1_9 := Nat.lt_of_lt_of_le lg5_1_5 b_9.size
 have XM_9 := Nfa.Made.below hMm_5 b_9
 have bl9 := bl5.trans (b_9.mono bl5.size)
 rw [ev_9] at h7_9
 refine EngI.tail_put EngI.free_wide [pv, bv, .int .i64 m] (n := 0) (new := #[pv, bv, .int .i64 m]) rfl rfl rfl rfl kg7_9 rfl ?_ fun w10 S => ?_
 ·have e0 : act9.eval (.tmp 7) = .pointer (some ⟨g7_9, 0, none⟩) := h7_9
  have e1 : act9.eval (.tmp 18) = .agg #[pv, bv, .int .i64 m] := h18_9
  obtain ⟨A0_, n0_, c0_, ev0_⟩ := hsl0_5
  subst ev0_
  obtain ⟨A1_, n1_, c1_, ev1_⟩ := hsl1_5
  subst ev1_
  have z0 := (Eng.cells kg7_9 (0)).trans (rfl)
  have f0 := Eng.unfrozen kg7_9 (0)
  have z1 := (Eng.cells kg7_9 (1)).trans (rfl)
  have f1 := Eng.unfrozen kg7_9 (1)
  have z2 := (Eng.cells kg7_9 (2)).trans (rfl)
  have f2 := Eng.unfrozen kg7_9 (2)
  simp only [execOp]
  rw [e0, e1]
  go_simp
  try rfl
 have kg5_1_10 := (S.far _ ne_g7_9_g5_1).trans kg5_1_9
 have lg5_1_10 := Nat.lt_of_lt_of_eq lg5_1_9 S.size.symm
 have kg7_9_10 := S.new
 have lg7_9_10 := Nat.lt_of_lt_of_eq lg7_9 S.size.symm
 have bl10 := S.below bl9 og7_9
 have Fpp_10 := Eng.Reads.below hp bl10
 have Fra_10 := Eng.Reads.below hra bl10
 have XM_10 := Nfa.Made.sets XM_9 S kg7_9 rfl
 clear S
 refine EngI.tail_val EngI.free_wide rfl rfl rfl rfl (Eng.run_assign rfl h19_9) s9 rfl fun act11 d11 s11 hv hr => ?_
 have h0_11 := (hr 0 rfl).trans h0_9
 have h1_11 := (hr 1 rfl).trans h1_9
 have h5_11 := (hr 5 rfl).trans h5_9
 have h7_11 := (hr 7 rfl).trans h7_9
 have h8_11 : act11.eval (.tmp 8) = .int .i64 (Nfa.code ps) := hv
 have d11 := d11.trans d9
 clear hv hr
 refine EngI.tail_nil ?_
 refine wp_seq ?_
 refine wp_seq ?_
 obtain ⟨q21, Bq21⟩ : ∃ b : Bool, b = (Pth.heavies ps) := ⟨_, rfl⟩
 obtain ⟨q25, Bq25⟩ : ∃ b : Bool, b = (decide (((la.length : Nat) : Int) > 30)) := ⟨_, rfl⟩
 obtain ⟨q26, Bq26⟩ : ∃ b : Bool, b = (q21 || q25) := ⟨_, rfl⟩
 obtain ⟨q29, Bq29⟩ : ∃ b : Bool, b = (!((Nfa.code ps) == 0)) := ⟨_, rfl⟩
 obtain ⟨q30, Bq30⟩ : ∃ b : Bool, b = (q26 || q29) := ⟨_, rfl⟩
 refine Eng.regionS (Eng.still [fun u_ => u_ = pa, fun u_ => u_ = .bool q21, fun u_ => u_ = .bool q21, fun u_ => u_ = bif (q21 == false) then (av) else undef, fun u_ => u_ = bif (q21 == false) then (.int .i64 ((la.length : Nat) : Int)) else undef, fun u_ => u_ = bif (q21 == false) then (.bool q25) else undef, fun u_ => u_ = .bool q26, fun u_ => u_ = .bool q26, fun u_ => u_ = bif (q26 == false) then (.int .i64 (Nfa.code ps)) else undef, fun u_ => u_ = bif (q26 == false) then (.bool q29) else undef, fun u_ => u_ = .bool q30]) (fun _ => .plain) 11 0 53 s11 rfl (by kernel_rfl) (Eng.still_stable _) (Or.inr (Eng.still_any _)) ?_ ?_
 ·refine Eng.Steps.cons (fun _ => ?_) (Eng.Steps.cons (fun _ => ?_) (Eng.Steps.cons (fun _ => ?_) (Eng.Steps.cons (fun _ => ?_) (Eng.Steps.cons (fun _ => ?_) (Eng.Steps.cons (fun _ => ?_) (Eng.Steps.cons (fun _ => ?_) (Eng.Steps.cons (fun _ => ?_) (Eng.Steps.cons (fun _ => ?_) (Eng.Steps.cons (fun _ => ?_) (Eng.Steps.cons (fun _ => ?_) (Eng.Steps.nil)))))))))))
  ·refine Eng.plain rfl rfl fun a w' H => ?_
   exact Eng.val (w1 := w') (v := pa) (Eng.run_move rfl ((H.kept 0 (by kernel_rfl)).trans h0_11)) (Below.refl _ _) rfl
  ·refine Eng.plain rfl rfl fun a w' H => ?_
   refine Eng.call Tryd.func38 (by kernel_rfl) (by kernel_rfl) rfl #[pa] ?_ ?_
   ·have e0 : a.eval (.tmp 20) = pa := (H.dep 0 20 (by kernel_rfl) rfl); simp only [List.map_toArray, List.map_cons, List.map_nil, e0]
   refine (Pth.heavies_calls pa ps us _ hua (Eng.Reads.below Fpp_10 H.below) (fun k hk => Eng.Reads.below (Eng.Reads.below (hin k hk) bl10) H.below)).mono ?_
   rintro e w'' ⟨rfl, hb⟩
   exact ⟨_, rfl, (by show _ = Value.bool q21; rw [Bq21]), hb⟩
  ·refine Eng.plain rfl rfl fun a w' H => ?_
   exact Eng.val (w1 := w') (v := .bool q21) (Eng.run_move rfl (H.dep 1 21 (by kernel_rfl) rfl)) (Below.refl _ _) rfl
  ·refine Eng.guarded1 (j := 2) (d := 22) (b := q21) rfl rfl (by kernel_rfl) rfl (fun v w h => h) (fun hG w => Eng.off hG) fun hG a w' H => ?_
   exact Eng.val (w1 := w') (v := av) (Eng.run_move rfl ((H.kept 1 (by kernel_rfl)).trans h1_11)) (Below.refl _ _) (Eng.off' hG rfl)
  ·refine Eng.guarded1 (j := 2) (d := 22) (b := q21) rfl rfl (by kernel_rfl) rfl (fun v w h => h) (fun hG w => Eng.off hG) fun hG a w' H => ?_
   refine Eng.val (w1 := w') (v := .int .i64 ((la.length : Nat) : Int)) ?_ (Below.refl _ _) (Eng.off' hG rfl)
   exact Eng.run_len_sl rfl Tryd.underlying43 (show a.eval (.tmp 23) = av from (Eng.on (H.dep 3 23 (by kernel_rfl) rfl) hG)) (Eng.Reads.below Fra_10 H.below)
  ·refine Eng.guarded1 (j := 2) (d := 22) (b := q21) rfl rfl (by kernel_rfl) rfl (fun v w h => h) (fun hG w => Eng.off hG) fun hG a w' H => ?_
   refine Eng.val (w1 := w') (v := .bool (decide (((la.length : Nat) : Int) > 30))) ?_ (Below.refl _ _) (Eng.off' hG (by rw [Bq25]))
   have e0 : a.eval (.tmp 24) = .int .i64 ((la.length : Nat) : Int) := (Eng.on (H.dep 4 24 (by kernel_rfl) rfl) hG)
   have e1 : a.eval (.const (.int .i64 30)) = .int .i64 30 := (rfl : a.eval (.const (.int .i64 30)) = .int .i64 30)
   simp only [execOp, resolve, e0, e1]
   go_simp
  ·refine Eng.plain rfl rfl fun a w' H => ?_
   exact Eng.val (w1 := w') (v := .bool (q21 || q25)) (Eng.run_or rfl rfl (G := true) (H.dep 2 22 (by kernel_rfl) rfl) (fun hb => (Eng.on (H.dep 5 25 (by kernel_rfl) rfl) (Eng.mk1 hb)))) (Below.refl _ _) (by show _ = Value.bool q26; rw [Bq26])
  ·refine Eng.plain rfl rfl fun a w' H => ?_
   exact Eng.val (w1 := w') (v := .bool q26) (Eng.run_move rfl (H.dep 6 26 (by kernel_rfl) rfl)) (Below.refl _ _) rfl
  ·refine Eng.guarded1 (j := 7) (d := 27) (b := q26) rfl rfl (by kernel_rfl) rfl (fun v w h => h) (fun hG w => Eng.off hG) fun hG a w' H => ?_
   exact Eng.val (w1 := w') (v := .int .i64 (Nfa.code ps)) (Eng.run_move rfl ((H.kept 8 (by kernel_rfl)).trans h8_11)) (Below.refl _ _) (Eng.off' hG rfl)
  ·refine Eng.guarded1 (j := 7) (d := 27) (b := q26) rfl rfl (by kernel_rfl) rfl (fun v w h => h) (fun hG w => Eng.off hG) fun hG a w' H => ?_
   refine Eng.val (w1 := w') (v := .bool (!((Nfa.code ps) == 0))) ?_ (Below.refl _ _) (Eng.off' hG (by rw [Bq29]))
   have e0 : a.eval (.tmp 28) = .int .i64 (Nfa.code ps) := (Eng.on (H.dep 8 28 (by kernel_rfl) rfl) hG)
   have e1 : a.eval (.const (.int .i64 0)) = .int .i64 0 := (rfl : a.eval (.const (.int .i64 0)) = .int .i64 0)
   simp only [execOp, resolve, e0, e1]
   go_simp
   all_goals first | rfl | (simp; done) | (rw [Bool.eq_iff_iff]; simp; done) | omega | (split <;> first | (simp_all; done) | (split <;> simp_all; done)) | skip
  ·refine Eng.plain rfl rfl fun a w' H => ?_
   exact Eng.val (w1 := w') (v := .bool (q26 || q29)) (Eng.run_or rfl rfl (G := true) (H.dep 7 27 (by kernel_rfl) rfl) (fun hb => (Eng.on (H.dep 9 29 (by kernel_rfl) rfl) (Eng.mk1 hb)))) (Below.refl _ _) (by show _ = Value.bool q30; rw [Bq30])
 intro act12 w12 T
 have h0_12 := (T.rest 0 (by kernel_rfl)).trans h0_11
 have h1_12 := (T.rest 1 (by kernel_rfl)).trans h1_11
 have h5_12 := (T.rest 5 (by kernel_rfl)).trans h5_11
 have h7_12 := (T.rest 7 (by kernel_rfl)).trans h7_11
 have kg5_1_12 := (T.below.block _ lg5_1_10).trans kg5_1_10
 have lg5_1_12 := Nat.lt_of_lt_of_le lg5_1_10 T.below.size
 have kg7_9_12 := (T.below.block _ lg7_9_10).trans kg7_9_10
 have lg7_9_12 := Nat.lt_of_lt_of_le lg7_9_10 T.below.size
 have Fpp_12 := Eng.Reads.below Fpp_10 T.below
 have h30_12 : act12.eval (.tmp 30) = .bool q30 := T.done 10 30 rfl rfl
 have d12 := T.defers.trans d11
 have s12 := T.size.trans s11
 have bl12 := bl10.trans (T.below.mono bl10.size)
 have XM_12 := Nfa.Made.below XM_10 T.below
 clear T
 refine Eng.tail_nil ?_
 refine wp_cond_split h30_12 (fun hq => ?_) (fun hq => ?_)
 ·
  have c30 := Bq30.symm.trans hq
  clear hq
  refine wp_seq ?_
  refine Eng.regionS (Eng.still [fun u_ => u_ = .bool true]) (fun _ => .plain) 1 0 53 s12 rfl (by kernel_rfl) (Eng.still_stable _) (Or.inr (Eng.still_any _)) ?_ ?_
  ·refine Eng.Steps.cons (fun _ => ?_) (Eng.Steps.nil)
   ·refine Eng.plain rfl rfl fun a w' H => ?_
    exact Eng.val (w1 := w') (v := .bool true) (Eng.run_assign rfl (rfl : a.eval (.const (.bool true)) = .bool true)) (Below.refl _ _) rfl
  intro act14 w14 T
  have h6_14 : act14.eval (.tmp 6) = .bool true := T.done 0 6 rfl rfl
  have d14 := T.defers.trans d12
  have bl14 := bl12.trans (T.below.mono bl12.size)
  clear T
  refine Eng.tail_nil ?_
  refine wp_ret ?_
  repeat (first | refine Eng.in_ret ?_ | refine Eng.then_ret ?_)
  exact Eng.ret1 rfl d14 h6_14 ⟨rfl, bl14⟩
 ·
  have c30 := Bq30.symm.trans hq
  clear hq
  rw [Bq29, Bq26, Bq25, Bq21] at c30
  simp at c30
  obtain ⟨⟨hheavy, hla⟩, hcode⟩ := c30
  obtain ⟨hTab, hmm⟩ := XM_12 hcode
  have hps := Nfa.light_len hheavy
  have hok := Nfa.ok_of hcode (by omega)
  have hLie := Nfa.Lie.of hok
  have hr := (Nfa.code_zero hcode).1
  refine wp_skip ?_
  refine wp_seq ?_
  refine (wpIn_wide (n := 1)).1 ?_
  refine EngI.regionT (n := 8) rfl ?_
  refine EngI.tail_val EngI.free_wide rfl rfl rfl rfl (Eng.run_move rfl h0_12) s12 rfl fun act16 d16 s16 hv hr => ?_
  have h1_16 := (hr 1 rfl).trans h1_12
  have h5_16 := (hr 5 rfl).trans h5_12
  have h7_16 := (hr 7 rfl).trans h7_12
  have h32_16 : act16.eval (.tmp 32) = pa := hv
  have d16 := d16.trans d12
  clear hv hr
  refine EngI.tail_call EngI.free_wide Tryd.func39 (by kernel_rfl) (by kernel_rfl) rfl rfl rfl rfl #[pa] (by have e0 : act16.eval (.tmp 32) = pa := h32_16; simp only [List.map_toArray, List.map_cons, List.map_nil, e0]) s16 rfl (R := fun v w' => ∃ pv bv, v = .tuple #[.agg #[pv, bv, .int .i64 (Nfa.many ps ps.length)], .int .i64 0] ∧ w'.ownsRow w12.heap.size 118 1 pv us.length us ∧ w'.ownsRow w12.heap.size 3 1 bv (Nfa.begs ps ps.length).length (Nfa.ints (Nfa.begs ps ps.length)) ∧ Below w12.heap.size w12 w') ((Nfa.rmake_calls pa ps us _ hua Fpp_12 (fun k hk => Eng.Reads.below (hin k hk) bl12) (by omega) hok hr).mono ?_) fun v_17 w17 act17 R d17 s17 hv hr => ?_
  ·rintro e w1 ⟨pv, bv, rfl, h1, h2, h3⟩; exact ⟨_, rfl, pv, bv, rfl, h1, h2, h3⟩
  have h1_17 := (hr 1 rfl).trans h1_16
  have h5_17 := (hr 5 rfl).trans h5_16
  have h7_17 := (hr 7 rfl).trans h7_16
  have h33_17 : act17.eval (.tmp 33) = v_17 := hv
  have d17 := d17.trans d16
  clear hv hr
  obtain ⟨rpv, rbv, hv1_17, Orp17, Orb17, hb17⟩ := R
  have Orp := Eng.own_mono Orp17 bl12.size
  have Orb := Eng.own_mono Orb17 bl12.size
  have Frp := Eng.Reads.of_own Orp
  have Frb := Eng.Reads.of_own Orb
  have kg5_1_17 := (hb17.block _ lg5_1_12).trans kg5_1_12
  have lg5_1_17 := Nat.lt_of_lt_of_le lg5_1_12 hb17.size
  have kg7_9_17 := (hb17.block _ lg7_9_12).trans kg7_9_12
  have lg7_9_17 := Nat.lt_of_lt_of_le lg7_9_12 hb17.size
  have XT_17 := Nfa.Tab.below hTab hb17
  have bl17 := bl12.trans (hb17.mono bl12.size)
  rw [hv1_17] at h33_17
  refine EngI.tail_val EngI.free_wide rfl rfl rfl rfl (Eng.run_move rfl h33_17) s17 rfl fun act18 d18 s18 hv hr => ?_
  have h1_18 := (hr 1 rfl).trans h1_17
  have h5_18 := (hr 5 rfl).trans h5_17
  have h7_18 := (hr 7 rfl).trans h7_17
  have h31_18 : act18.eval (.tmp 31) = .tuple #[.agg #[rpv, rbv, .int .i64 (Nfa.many ps ps.length)], .int .i64 0] := hv
  have d18 := d18.trans d17
  clear hv hr
  refine EngI.tail_val (w1 := w17) (v := .agg #[rpv, rbv, .int .i64 (Nfa.many ps ps.length)]) EngI.free_wide rfl rfl rfl rfl ?_ s18 rfl ?_
  ·have e0 : act18.eval (.tmp 31) = .tuple #[.agg #[rpv, rbv, .int .i64 (Nfa.many ps ps.length)], .int .i64 0] := h31_18
   simp only [execOp, resolve, e0]
   go_simp
  intro act19 d19 s19 hv hr
  have h1_19 := (hr 1 rfl).trans h1_18
  have h5_19 := (hr 5 rfl).trans h5_18
  have h7_19 := (hr 7 rfl).trans h7_18
  have h31_19 := (hr 31 rfl).trans h31_18
  have h34_19 : act19.eval (.tmp 34) = .agg #[rpv, rbv, .int .i64 (Nfa.many ps ps.length)] := hv
  have d19 := d19.trans d18
  clear hv hr
  refine EngI.tail_val (w1 := w17) (v := .int .i64 0) EngI.free_wide rfl rfl rfl rfl ?_ s19 rfl ?_
  ·have e0 : act19.eval (.tmp 31) = .tuple #[.agg #[rpv, rbv, .int .i64 (Nfa.many ps ps.length)], .int .i64 0] := h31_19
   simp only [execOp, resolve, e0]
   go_simp
  intro act20 d20 s20 hv hr
  have h1_20 := (hr 1 rfl).trans h1_19
  have h5_20 := (hr 5 rfl).trans h5_19
  have h7_20 := (hr 7 rfl).trans h7_19
  have h34_20 := (hr 34 rfl).trans h34_19
  have h35_20 : act20.eval (.tmp 35) = .int .i64 0 := hv
  have d20 := d20.trans d19
  clear hv hr
  refine EngI.tail_ex EngI.free_wide rfl rfl rfl rfl (Eng.alloc_ex (cs := #[.slice none 0 0, .slice none 0 0, .int .i64 0]) rfl (by kernel_rfl)) s20 rfl fun v_21 w21 act21 R d21 s21 hv hr => ?_
  obtain ⟨g9_21, ev_21, rg_21, lg9_21, kg9_21, b_21⟩ := R
  have h1_21 := (hr 1 rfl).trans h1_20
  have h5_21 := (hr 5 rfl).trans h5_20
  have h7_21 := (hr 7 rfl).trans h7_20
  have h34_21 := (hr 34 rfl).trans h34_20
  have h35_21 := (hr 35 rfl).trans h35_20
  have h9_21 : act21.eval (.tmp 9) = v_21 := hv
  have d21 := d21.trans d20
  clear hv hr
  have ne_g9_21_g5_1 : g5_1 ≠ g9_21 := fun e => Nat.lt_irrefl _ (Nat.lt_of_lt_of_le (e ▸ lg5_1_17) rg_21)
  have ne_g9_21_g7_9 : g7_9 ≠ g9_21 := fun e => Nat.lt_irrefl _ (Nat.lt_of_lt_of_le (e ▸ lg7_9_17) rg_21)
  have og9_21 : w.heap.size ≤ g9_21 := Nat.le_trans bl17.size rg_21
  have kg5_1_21 := (b_21.block _ lg5_1_17).trans kg5_1_17
  have lg5_1_21 := Nat.lt_of_lt_of_le lg5_1_17 b_21.size
  have kg7_9_21 := (b_21.block _ lg7_9_17).trans kg7_9_17
  have lg7_9_21 := Nat.lt_of_lt_of_le lg7_9_17 b_21.size
  have Frp_21 := Eng.Reads.below Frp b_21
  have Orp_21 := Eng.own_below Orp b_21
  have Frb_21 := Eng.Reads.below Frb b_21
  have Orb_21 := Eng.own_below Orb b_21
  have XT_21 := Nfa.Tab.below XT_17 b_21
  have bl21 := bl17.trans (b_21.mono bl17.size)
  rw [ev_21] at h9_21
  refine EngI.tail_put EngI.free_wide [rpv, rbv, .int .i64 (Nfa.many ps ps.length)] (n := 0) (new := #[rpv, rbv, .int .i64 (Nfa.many ps ps.length)]) rfl rfl rfl rfl kg9_21 rfl ?_ fun w22 S => ?_
  ·have e0 : act21.eval (.tmp 9) = .pointer (some ⟨g9_21, 0, none⟩) := h9_21
   have e1 : act21.eval (.tmp 34) = .agg #[rpv, rbv, .int .i64 (Nfa.many ps ps.length)] := h34_21
   obtain ⟨A0_, c0_, ev0_⟩ := Eng.Reads.shape Frp_21
   subst ev0_
   obtain ⟨A1_, c1_, ev1_⟩ := Eng.Reads.shape Frb_21
   subst ev1_
   have z0 := (Eng.cells kg9_21 (0)).trans (rfl)
   have f0 := Eng.unfrozen kg9_21 (0)
   have z1 := (Eng.cells kg9_21 (1)).trans (rfl)
   have f1 := Eng.unfrozen kg9_21 (1)
   have z2 := (Eng.cells kg9_21 (2)).trans (rfl)
   have f2 := Eng.unfrozen kg9_21 (2)
   simp only [execOp]
   rw [e0, e1]
   go_simp
   try rfl
  have kg5_1_22 := (S.far _ ne_g9_21_g5_1).trans kg5_1_21
  have lg5_1_22 := Nat.lt_of_lt_of_eq lg5_1_21 S.size.symm
  have kg7_9_22 := (S.far _ ne_g9_21_g7_9).trans kg7_9_21
  have lg7_9_22 := Nat.lt_of_lt_of_eq lg7_9_21 S.size.symm
  have kg9_21_22 := S.new
  have lg9_21_22 := Nat.lt_of_lt_of_eq lg9_21 S.size.symm
  have bl22 := S.below bl21 og9_21
  have Fra_22 := Eng.Reads.below hra bl22
  have Orp_22 := Eng.own_sets Orp_21 S kg9_21 rfl
  have Frp_22 := Eng.Reads.of_own Orp_22
  have Orb_22 := Eng.own_sets Orb_21 S kg9_21 rfl
  have Frb_22 := Eng.Reads.of_own Orb_22
  have XT_22 := Nfa.Tab.sets XT_21 S kg9_21 rfl
  clear S
  refine EngI.tail_val EngI.free_wide rfl rfl rfl rfl (Eng.run_assign rfl h35_21) s21 rfl fun act23 d23 s23 hv hr => ?_
  have h1_23 := (hr 1 rfl).trans h1_21
  have h5_23 := (hr 5 rfl).trans h5_21
  have h7_23 := (hr 7 rfl).trans h7_21
  have h9_23 := (hr 9 rfl).trans h9_21
  have d23 := d23.trans d21
  clear hv hr
  refine EngI.tail_nil ?_
  refine wp_seq ?_
  refine Eng.regionS (Eng.still [fun u_ => u_ = .agg #[pv, bv, .int .i64 m], fun u_ => u_ = av, fun u_ => u_ = .agg ((List.map (Value.int .u64) (Nfa.run ps (Nfa.begs ps ps.length) la)).toArray), fun u_ => True, fun u_ => True]) (fun i => ([.plain, .plain, .plain, .alloc 74 ((List.map (Value.int .u64) (List.replicate 8 0)).toArray), .store 3 ((List.map (Value.int .u64) (Nfa.run ps (Nfa.begs ps ps.length) la)).toArray)] : List Eng.Kind).getD i .plain) 5 0 53 s23 rfl (by kernel_rfl) (Eng.still_stable _) (Or.inr (Eng.still_any _)) ?_ ?_
  ·refine Eng.Steps.cons (fun _ => ?_) (Eng.Steps.cons (fun _ => ?_) (Eng.Steps.cons (fun _ => ?_) (Eng.Steps.cons (fun _ => ?_) (Eng.Steps.cons (fun _ => ?_) (Eng.Steps.nil)))))
   ·refine Eng.plain rfl rfl fun a w' H => ?_
    have kb := (H.below.block _ lg7_9_22).trans kg7_9_22
    have z0 : w'.cell? ⟨g7_9, 0, none⟩ = some (pv) := (Eng.cells kb 0).trans rfl
    have z1 : w'.cell? ⟨g7_9, 1, none⟩ = some (bv) := (Eng.cells kb 1).trans rfl
    have z2 : w'.cell? ⟨g7_9, 2, none⟩ = some (.int .i64 m) := (Eng.cells kb 2).trans rfl
    refine Eng.val (w1 := w') (v := .agg #[pv, bv, .int .i64 m]) ?_ (Below.refl _ _) rfl
    have e0 := ((H.kept 7 (by kernel_rfl)).trans h7_23)
    simp only [execOp, resolve, e0]
    go_simp
   ·refine Eng.plain rfl rfl fun a w' H => ?_
    exact Eng.val (w1 := w') (v := av) (Eng.run_move rfl ((H.kept 1 (by kernel_rfl)).trans h1_23)) (Below.refl _ _) rfl
   ·refine Eng.plain rfl rfl fun a w' H => ?_
    refine Eng.call Tryd.func40 (by kernel_rfl) (by kernel_rfl) rfl #[.agg #[pv, bv, .int .i64 m], av] ?_ ?_
    ·have e0 : a.eval (.tmp 36) = .agg #[pv, bv, .int .i64 m] := (H.dep 0 36 (by kernel_rfl) rfl); have e1 : a.eval (.tmp 37) = av := (H.dep 1 37 (by kernel_rfl) rfl); simp only [List.map_toArray, List.map_cons, List.map_nil, e0, e1]
    refine (Nfa.run_calls pv bv m ps (Nfa.begs ps ps.length) vs av la _ ((Nfa.Tab.below XT_22 H.below)).len ((Nfa.Tab.below XT_22 H.below)).rp ((Nfa.Tab.below XT_22 H.below)).ri ((Nfa.Tab.below XT_22 H.below)).rb (Eng.Reads.below Fra_22 H.below)).mono ?_
    rintro e w'' ⟨rfl, hb⟩
    exact ⟨_, rfl, rfl, hb⟩
   ·refine Eng.made rfl (by simp) rfl (fun a w' hd ho => ?_) (fun _ _ => trivial)
    exact Eng.run_alloc rfl (by kernel_rfl)
   ·refine Eng.stored_arr rfl rfl rfl (j := 3) (d := 11) (by kernel_rfl) rfl rfl (Eng.store_uniq (by kernel_rfl)) ((Nfa.cells_size (by simp)).trans (Nfa.cells_size ((Nfa.run_len _ _ _))).symm) rfl (by rw [Nfa.cells_size ((Nfa.run_len _ _ _))]; kernel_rfl) (by first | exact Nfa.ones_u _ | simp [Value.oneCell']) fun a w' hd ho => ?_
    exact (hd 2 38 (by kernel_rfl) rfl)
  intro act24 w24 T
  have h1_24 := (T.rest 1 (by kernel_rfl)).trans h1_23
  have h5_24 := (T.rest 5 (by kernel_rfl)).trans h5_23
  have h9_24 := (T.rest 9 (by kernel_rfl)).trans h9_23
  have kg5_1_24 := (T.below.block _ lg5_1_22).trans kg5_1_22
  have lg5_1_24 := Nat.lt_of_lt_of_le lg5_1_22 T.below.size
  have kg9_21_24 := (T.below.block _ lg9_21_22).trans kg9_21_22
  have lg9_21_24 := Nat.lt_of_lt_of_le lg9_21_22 T.below.size
  have Fra_24 := Eng.Reads.below Fra_22 T.below
  have Frp_24 := Eng.Reads.below Frp_22 T.below
  have Frb_24 := Eng.Reads.below Frb_22 T.below
  obtain ⟨g11_24, h11_24, rg11_24, lg11_24_24, kg11_24_24⟩ := T.st 3 11 4 _ _ _ rfl rfl rfl rfl rfl
  have d24 := T.defers.trans d23
  have s24 := T.size.trans s23
  have bl24 := bl22.trans (T.below.mono bl22.size)
  clear T
  refine Eng.tail_nil ?_
  refine wp_seq ?_
  refine Eng.regionD (Eng.still [fun u_ => u_ = .agg ((List.map (Value.int .u64) (Nfa.run ps (Nfa.begs ps ps.length) la)).toArray), fun u_ => u_ = .agg #[rpv, rbv, .int .i64 (Nfa.many ps ps.length)], fun u_ => u_ = av, fun u_ => u_ = .agg ((List.map (Value.int .u64) (Nfa.run ps (Nfa.begs ps ps.length) la)).toArray), fun u_ => u_ = .bool true, fun u_ => u_ = .bool true, fun u_ => u_ = .agg ((List.map (Value.int .u64) a0).toArray), fun u_ => u_ = .agg ((List.map (Value.int .u64) (Nfa.run ps (Nfa.begs ps ps.length) la)).toArray), fun u_ => u_ = .agg ((List.map (Value.int .u64) (Nfa.unionTo a0 (Nfa.run ps (Nfa.begs ps ps.length) la) 8)).toArray), fun u_ => u_ = .agg ((List.map (Value.int .u64) a0).toArray), fun u_ => u_ = .agg ((List.map (Value.int .u64) (Nfa.run ps (Nfa.begs ps ps.length) la)).toArray), fun u_ => u_ = .agg ((List.map (Value.int .u64) (Nfa.unionTo a0 (Nfa.run ps (Nfa.begs ps ps.length) la) 8)).toArray), fun u_ => u_ = .bool true, fun u_ => u_ = .bool true, fun u_ => u_ = .bool true]) (fun _ => .plain) 15 0 53 (by kernel_rfl) s24 rfl (by kernel_rfl) (Eng.still_stable _) (Or.inr (Eng.still_any _)) ?_ ?_
  ·refine Eng.Steps.cons (fun _ => ?_) (Eng.Steps.cons (fun _ => ?_) (Eng.Steps.cons (fun _ => ?_) (Eng.Steps.cons (fun _ => ?_) (Eng.Steps.cons (fun _ => ?_) (Eng.Steps.cons (fun _ => ?_) (Eng.Steps.cons (fun _ => ?_) (Eng.Steps.cons (fun _ => ?_) (Eng.Steps.cons (fun _ => ?_) (Eng.Steps.cons (fun _ => ?_) (Eng.Steps.cons (fun _ => ?_) (Eng.Steps.cons (fun _ => ?_) (Eng.Steps.cons (fun _ => ?_) (Eng.Steps.cons (fun _ => ?_) (Eng.Steps.cons (fun _ => ?_) (Eng.Steps.nil)))))))))))))))
   ·refine Eng.plain rfl rfl fun a w' H => ?_
    have kb := (H.below.block _ lg11_24_24).trans kg11_24_24
    refine Eng.val (w1 := w') (v := .agg ((List.map (Value.int .u64) (Nfa.run ps (Nfa.begs ps ps.length) la)).toArray)) ?_ (Below.refl _ _) rfl
    exact Eng.run_load_all rfl ((H.kept 11 (by kernel_rfl)).trans h11_24) kb Tryd.underlying74 rfl (by rw [Nfa.cells_size ((Nfa.run_len _ _ _))]; kernel_rfl)
   ·refine Eng.plain rfl rfl fun a w' H => ?_
    have kb := (H.below.block _ lg9_21_24).trans kg9_21_24
    have z0 : w'.cell? ⟨g9_21, 0, none⟩ = some (rpv) := (Eng.cells kb 0).trans rfl
    have z1 : w'.cell? ⟨g9_21, 1, none⟩ = some (rbv) := (Eng.cells kb 1).trans rfl
    have z2 : w'.cell? ⟨g9_21, 2, none⟩ = some (.int .i64 (Nfa.many ps ps.length)) := (Eng.cells kb 2).trans rfl
    refine Eng.val (w1 := w') (v := .agg #[rpv, rbv, .int .i64 (Nfa.many ps ps.length)]) ?_ (Below.refl _ _) rfl
    have e0 := ((H.kept 9 (by kernel_rfl)).trans h9_24)
    simp only [execOp, resolve, e0]
    go_simp
   ·refine Eng.plain rfl rfl fun a w' H => ?_
    exact Eng.val (w1 := w') (v := av) (Eng.run_move rfl ((H.kept 1 (by kernel_rfl)).trans h1_24)) (Below.refl _ _) rfl
   ·refine Eng.plain rfl rfl fun a w' H => ?_
    refine Eng.call Tryd.func41 (by kernel_rfl) (by kernel_rfl) rfl #[.agg #[rpv, rbv, .int .i64 (Nfa.many ps ps.length)], av] ?_ ?_
    ·have e0 : a.eval (.tmp 40) = .agg #[rpv, rbv, .int .i64 (Nfa.many ps ps.length)] := (H.dep 1 40 (by kernel_rfl) rfl); have e1 : a.eval (.tmp 41) = av := (H.dep 2 41 (by kernel_rfl) rfl); simp only [List.map_toArray, List.map_cons, List.map_nil, e0, e1]
    refine (Nfa.rrun_calls rpv rbv (Nfa.many ps ps.length) ps (Nfa.begs ps ps.length) us av la _ hua (hua ▸ (Eng.Reads.below Frp_24 H.below)) (fun k hk => Eng.Reads.below (Eng.Reads.below (hin k hk) bl24) H.below) (Eng.Reads.below Frb_24 H.below) hLie (Eng.Reads.below Fra_24 H.below)).mono ?_
    rintro e w'' ⟨rfl, hb⟩
    exact ⟨_, rfl, rfl, hb⟩
   ·refine Eng.plain rfl rfl fun a w' H => ?_
    refine Eng.val (w1 := w') (v := .bool ((Nfa.run ps (Nfa.begs ps ps.length) la) == (Nfa.run ps (Nfa.begs ps ps.length) la))) ?_ (Below.refl _ _) (by show _ = Value.bool true; rw [show ((Nfa.run ps (Nfa.begs ps ps.length) la) == (Nfa.run ps (Nfa.begs ps ps.length) la)) = true from beq_self_eq_true _])
    exact Nfa.run_eq8r rfl ((Nfa.run_len _ _ _)) ((Nfa.run_good _ _ _).len) (show a.eval (.tmp 39) = .agg ((List.map (Value.int .u64) (Nfa.run ps (Nfa.begs ps ps.length) la)).toArray) from (H.dep 0 39 (by kernel_rfl) rfl)) (show a.eval (.tmp 42) = .agg ((List.map (Value.int .u64) (Nfa.run ps (Nfa.begs ps ps.length) la)).toArray) from (H.dep 3 42 (by kernel_rfl) rfl))
   ·refine Eng.plain rfl rfl fun a w' H => ?_
    exact Eng.val (w1 := w') (v := .bool true) (Eng.run_move rfl (H.dep 4 43 (by kernel_rfl) rfl)) (Below.refl _ _) rfl
   ·refine Eng.guardedT (j := 5) (d := 44) rfl rfl (by kernel_rfl) rfl (fun v w h => h) fun a w' H => ?_
    have kb := (H.below.block _ lg5_1_24).trans kg5_1_24
    refine Eng.val (w1 := w') (v := .agg ((List.map (Value.int .u64) a0).toArray)) ?_ (Below.refl _ _) rfl
    exact Eng.run_load_all rfl ((H.kept 5 (by kernel_rfl)).trans h5_24) kb Tryd.underlying61 rfl (by rw [Nfa.cells_size ((hga).len)]; kernel_rfl)
   ·refine Eng.guardedT (j := 5) (d := 44) rfl rfl (by kernel_rfl) rfl (fun v w h => h) fun a w' H => ?_
    have kb := (H.below.block _ lg11_24_24).trans kg11_24_24
    refine Eng.val (w1 := w') (v := .agg ((List.map (Value.int .u64) (Nfa.run ps (Nfa.begs ps ps.length) la)).toArray)) ?_ (Below.refl _ _) rfl
    exact Eng.run_load_all rfl ((H.kept 11 (by kernel_rfl)).trans h11_24) kb Tryd.underlying74 rfl (by rw [Nfa.cells_size ((Nfa.run_len _ _ _))]; kernel_rfl)
   ·refine Eng.guardedT (j := 5) (d := 44) rfl rfl (by kernel_rfl) rfl (fun v w h => h) fun a w' H => ?_
    refine Eng.call Tryd.func42 (by kernel_rfl) (by kernel_rfl) rfl #[.agg ((List.map (Value.int .u64) a0).toArray), .agg ((List.map (Value.int .u64) (Nfa.run ps (Nfa.begs ps ps.length) la)).toArray)] ?_ ?_
    ·have e0 : a.eval (.tmp 45) = .agg ((List.map (Value.int .u64) a0).toArray) := (H.dep 6 45 (by kernel_rfl) rfl); have e1 : a.eval (.tmp 46) = .agg ((List.map (Value.int .u64) (Nfa.run ps (Nfa.begs ps ps.length) la)).toArray) := (H.dep 7 46 (by kernel_rfl) rfl); simp only [List.map_toArray, List.map_cons, List.map_nil, e0, e1]
    refine (Nfa.union_calls a0 (Nfa.run ps (Nfa.begs ps ps.length) la) _ ((hga).len) ((Nfa.run_len _ _ _))).mono ?_
    rintro e w'' ⟨rfl, hb⟩
    exact ⟨_, rfl, rfl, hb⟩
   ·refine Eng.guardedT (j := 5) (d := 44) rfl rfl (by kernel_rfl) rfl (fun v w h => h) fun a w' H => ?_
    have kb := (H.below.block _ lg5_1_24).trans kg5_1_24
    refine Eng.val (w1 := w') (v := .agg ((List.map (Value.int .u64) a0).toArray)) ?_ (Below.refl _ _) rfl
    exact Eng.run_load_all rfl ((H.kept 5 (by kernel_rfl)).trans h5_24) kb Tryd.underlying61 rfl (by rw [Nfa.cells_size ((hga).len)]; kernel_rfl)
   ·refine Eng.guardedT (j := 5) (d := 44) rfl rfl (by kernel_rfl) rfl (fun v w h => h) fun a w' H => ?_
    have kb := (H.below.block _ lg11_24_24).trans kg11_24_24
    refine Eng.val (w1 := w') (v := .agg ((List.map (Value.int .u64) (Nfa.run ps (Nfa.begs ps ps.length) la)).toArray)) ?_ (Below.refl _ _) rfl
    exact Eng.run_load_all rfl ((H.kept 11 (by kernel_rfl)).trans h11_24) kb Tryd.underlying74 rfl (by rw [Nfa.cells_size ((Nfa.run_len _ _ _))]; kernel_rfl)
   ·refine Eng.guardedT (j := 5) (d := 44) rfl rfl (by kernel_rfl) rfl (fun v w h => h) fun a w' H => ?_
    refine Eng.call Tryd.func43 (by kernel_rfl) (by kernel_rfl) rfl #[.agg ((List.map (Value.int .u64) a0).toArray), .agg ((List.map (Value.int .u64) (Nfa.run ps (Nfa.begs ps ps.length) la)).toArray)] ?_ ?_
    ·have e0 : a.eval (.tmp 48) = .agg ((List.map (Value.int .u64) a0).toArray) := (H.dep 9 48 (by kernel_rfl) rfl); have e1 : a.eval (.tmp 49) = .agg ((List.map (Value.int .u64) (Nfa.run ps (Nfa.begs ps ps.length) la)).toArray) := (H.dep 10 49 (by kernel_rfl) rfl); simp only [List.map_toArray, List.map_cons, List.map_nil, e0, e1]
    refine (Nfa.runion_calls a0 (Nfa.run ps (Nfa.begs ps ps.length) la) _ hga (Nfa.run_good _ _ _)).mono ?_
    rintro e w'' ⟨rfl, hb⟩
    exact ⟨_, rfl, rfl, hb⟩
   ·refine Eng.guardedT (j := 5) (d := 44) rfl rfl (by kernel_rfl) rfl (fun v w h => h) fun a w' H => ?_
    refine Eng.val (w1 := w') (v := .bool ((Nfa.unionTo a0 (Nfa.run ps (Nfa.begs ps ps.length) la) 8) == (Nfa.unionTo a0 (Nfa.run ps (Nfa.begs ps ps.length) la) 8))) ?_ (Below.refl _ _) (by show _ = Value.bool true; rw [show ((Nfa.unionTo a0 (Nfa.run ps (Nfa.begs ps ps.length) la) 8) == (Nfa.unionTo a0 (Nfa.run ps (Nfa.begs ps ps.length) la) 8)) = true from beq_self_eq_true _])
    exact Nfa.run_eq8r rfl ((Nfa.unionTo_len _ _ _).trans ((hga).len)) ((Nfa.unionTo_len _ _ _).trans ((hga).len)) (show a.eval (.tmp 47) = .agg ((List.map (Value.int .u64) (Nfa.unionTo a0 (Nfa.run ps (Nfa.begs ps ps.length) la) 8)).toArray) from (H.dep 8 47 (by kernel_rfl) rfl)) (show a.eval (.tmp 50) = .agg ((List.map (Value.int .u64) (Nfa.unionTo a0 (Nfa.run ps (Nfa.begs ps ps.length) la) 8)).toArray) from (H.dep 11 50 (by kernel_rfl) rfl))
   ·refine Eng.plain rfl rfl fun a w' H => ?_
    exact Eng.val (w1 := w') (v := .bool (true && true)) (Eng.run_and rfl rfl (G := true) (H.dep 5 44 (by kernel_rfl) rfl) (fun hb => (H.dep 12 51 (by kernel_rfl) rfl))) (Below.refl _ _) rfl
   ·refine Eng.plain rfl rfl fun a w' H => ?_
    exact Eng.val (w1 := w') (v := .bool true) (Eng.run_assign rfl (H.dep 13 52 (by kernel_rfl) rfl)) (Below.refl _ _) rfl
  intro act25 w25 T
  have h6_25 : act25.eval (.tmp 6) = .bool true := T.done 14 6 rfl rfl
  have d25 := T.defers.trans d24
  have bl25 := bl24.trans (T.below.mono bl24.size)
  clear T
  refine Eng.tail_nil ?_
  refine wp_ret ?_
  repeat (first | refine Eng.in_ret ?_ | refine Eng.then_ret ?_)
  exact Eng.ret1 rfl d25 h6_25 ⟨rfl, bl25⟩
end Go.Proofs.YthgafcaoibfchaaDoor.X
