/- Words and walks that the row of NfaRuns needs: printed by programs, and plain laws. -/
import Derived.Test.YthgafcaoibfchaaDoorM6
namespace Go.Proofs.YthgafcaoibfchaaDoorW.PrintWords
end Go.Proofs.YthgafcaoibfchaaDoorW.PrintWords
namespace Go.Proofs.YthgafcaoibfchaaDoorW.PrintLast
end Go.Proofs.YthgafcaoibfchaaDoorW.PrintLast
namespace Go.Proofs.YthgafcaoibfchaaDoorW.PrintMore
end Go.Proofs.YthgafcaoibfchaaDoorW.PrintMore
section
namespace Go.Proofs.YthgafcaoibfchaaDoor.X
open Go.RowKit Go.Shelf Go.Proofs Go.Proofs.YthgafcaoibfchaaDoorW.PrintWords Go.Proofs.YthgafcaoibfchaaDoorW.PrintLast Go.Proofs.YthgafcaoibfchaaDoorW.PrintMore
set_option linter.unusedVariables false
set_option linter.unusedSimpArgs false
set_option maxHeartbeats 4000000 in
set_option maxRecDepth 100000 in
theorem Nfa.step_calls (pv bv : Value) (many : Int) (ps : List (List Pth.Part)) (bs : List Int) (vs : List Value) (s : List Int) (step : ByteArray) (w : World) (hs : s.length = 8) (hvl : vs.length = ps.length) (hp : Eng.Reads w pv ps.length 1 vs) (hin : ∀ k, k < ps.length → Eng.Reads w (vs.getD k undef) (ps.getD k []).length 2 (Pth.cellsP (ps.getD k []))) (hb : Eng.Reads w bv bs.length 1 (Nfa.ints bs)) : Calls Tryd.prog 48 #[.agg #[pv, bv, .int .i64 many], .agg ((List.map (Value.int .u64) s).toArray), .string step] w fun e w' => e = .returned (.agg (List.map (Value.int .u64) (Nfa.step ps bs s step)).toArray) ∧ Below w.heap.size w w' := by
 have hu115 := Tryd.underlying115
 refine Eng.enterM (n := 0) Tryd.func48 rfl fun act0 d0 s0 v0 => ?_
 have s0 : act0.tmps.size = 39 := s0
 have h0_0 : act0.eval (.tmp 0) = .agg #[pv, bv, .int .i64 many] := v0 0 (by simp)
 have h1_0 : act0.eval (.tmp 1) = .agg ((List.map (Value.int .u64) s).toArray) := v0 1 (by simp)
 have h2_0 : act0.eval (.tmp 2) = .string step := v0 2 (by simp)
 clear v0
 have bl0 : Below w.heap.size w w := Below.refl _ _
 refine wp_seq ?_
 refine Eng.regionS (Eng.still [fun u_ => True, fun u_ => True, fun u_ => True, fun u_ => True]) (fun i => ([.alloc 65 #[pv, bv, .int .i64 many], .alloc 74 ((List.map (Value.int .u64) s).toArray), .alloc 9 #[.string step], .alloc 74 ((List.map (Value.int .u64) (List.replicate 8 0)).toArray)] : List Eng.Kind).getD i .plain) 4 0 39 s0 rfl (by kernel_rfl) (Eng.still_stable _) (Or.inr (Eng.still_any _)) ?_ ?_
 ·refine Eng.Steps.cons (fun _ => ?_) (Eng.Steps.cons (fun _ => ?_) (Eng.Steps.cons (fun _ => ?_) (Eng.Steps.cons (fun _ => ?_) (Eng.Steps.nil))))
  ·refine Eng.made rfl (by simp) rfl (fun a w' hd ho => ?_) (fun _ _ => trivial)
   exact Eng.run_box rfl ((ho 0 (by kernel_rfl)).trans h0_0)
  ·refine Eng.made rfl (by simp) rfl (fun a w' hd ho => ?_) (fun _ _ => trivial)
   exact Eng.run_box rfl ((ho 1 (by kernel_rfl)).trans h1_0)
  ·refine Eng.made rfl (by simp) rfl (fun a w' hd ho => ?_) (fun _ _ => trivial)
   exact Eng.run_box rfl ((ho 2 (by kernel_rfl)).trans h2_0)
  ·refine Eng.made rfl (by simp) rfl (fun a w' hd ho => ?_) (fun _ _ => trivial)
   exact Eng.run_alloc rfl (by kernel_rfl)
 intro act1 w1 T
 obtain ⟨g3_1, h3_1, rg3_1, lg3_1_1, kg3_1_1⟩ := T.al 0 3 _ _ rfl rfl rfl (by kernel_rfl)
 obtain ⟨g4_1, h4_1, rg4_1, lg4_1_1, kg4_1_1⟩ := T.al 1 4 _ _ rfl rfl rfl (by kernel_rfl)
 obtain ⟨g5_1, h5_1, rg5_1, lg5_1_1, kg5_1_1⟩ := T.al 2 5 _ _ rfl rfl rfl (by kernel_rfl)
 obtain ⟨g6_1, h6_1, rg6_1, lg6_1_1, kg6_1_1⟩ := T.al 3 6 _ _ rfl rfl rfl (by kernel_rfl)
 have og6_1 : w.heap.size ≤ g6_1 := Nat.le_trans bl0.size rg6_1
 have ne_g6_1_g3_1 : g3_1 ≠ g6_1 := T.ne 0 3 3 6 rfl rfl rfl rfl rfl rfl h3_1 h6_1 rfl
 have ne_g6_1_g4_1 : g4_1 ≠ g6_1 := T.ne 1 3 4 6 rfl rfl rfl rfl rfl rfl h4_1 h6_1 rfl
 have ne_g6_1_g5_1 : g5_1 ≠ g6_1 := T.ne 2 3 5 6 rfl rfl rfl rfl rfl rfl h5_1 h6_1 rfl
 have d1 := T.defers.trans d0
 have s1 := T.size.trans s0
 have bl1 := bl0.trans (T.below.mono bl0.size)
 clear T
 refine Eng.tail_nil ?_
 refine wp_seq ?_
 refine wp_seq ?_
 refine (wpIn_wide (n := 1)).1 ?_
 refine EngI.regionS EngI.free_wide (Eng.still [fun u_ => u_ = .agg #[pv, bv, .int .i64 many]]) (fun _ => .plain) 1 1 39 s1 rfl (by kernel_rfl) (Eng.still_stable _) (Or.inr (Eng.still_any _)) (by kernel_rfl) ?_ ?_
 ·refine Eng.Steps.cons (fun _ => ?_) (Eng.Steps.cons (fun hlt => ?_) (Eng.Steps.nil))
  ·refine Eng.plain rfl rfl fun a w' H => ?_
   have kb := (H.below.block _ lg3_1_1).trans kg3_1_1
   have z0 : w'.cell? ⟨g3_1, 0, none⟩ = some (pv) := (Eng.cells kb 0).trans rfl
   have z1 : w'.cell? ⟨g3_1, 1, none⟩ = some (bv) := (Eng.cells kb 1).trans rfl
   have z2 : w'.cell? ⟨g3_1, 2, none⟩ = some (.int .i64 many) := (Eng.cells kb 2).trans rfl
   refine Eng.val (w1 := w') (v := .agg #[pv, bv, .int .i64 many]) ?_ (Below.refl _ _) rfl
   have e0 := ((H.kept 3 (by kernel_rfl)).trans h3_1)
   simp only [execOp, resolve, e0]
   go_simp
  ·exact absurd hlt (by decide)
 intro act2 w2 T
 have h3_2 := (T.rest 3 (by kernel_rfl)).trans h3_1
 have h4_2 := (T.rest 4 (by kernel_rfl)).trans h4_1
 have h5_2 := (T.rest 5 (by kernel_rfl)).trans h5_1
 have h6_2 := (T.rest 6 (by kernel_rfl)).trans h6_1
 have kg3_1_2 := (T.below.block _ lg3_1_1).trans kg3_1_1
 have lg3_1_2 := Nat.lt_of_lt_of_le lg3_1_1 T.below.size
 have kg4_1_2 := (T.below.block _ lg4_1_1).trans kg4_1_1
 have lg4_1_2 := Nat.lt_of_lt_of_le lg4_1_1 T.below.size
 have kg5_1_2 := (T.below.block _ lg5_1_1).trans kg5_1_1
 have lg5_1_2 := Nat.lt_of_lt_of_le lg5_1_1 T.below.size
 have kg6_1_2 := (T.below.block _ lg6_1_1).trans kg6_1_1
 have lg6_1_2 := Nat.lt_of_lt_of_le lg6_1_1 T.below.size
 have h9_2 : act2.eval (.tmp 9) = .agg #[pv, bv, .int .i64 many] := T.done 0 9 rfl rfl
 have d2 := T.defers.trans d1
 have s2 := T.size.trans s1
 have bl2 := bl1.trans (T.below.mono bl1.size)
 clear T
 refine EngI.tail_call EngI.free_wide Tryd.func89 (by kernel_rfl) (by kernel_rfl) rfl rfl rfl rfl #[.agg #[pv, bv, .int .i64 many]] (by have e0 : act2.eval (.tmp 9) = .agg #[pv, bv, .int .i64 many] := h9_2; simp only [List.map_toArray, List.map_cons, List.map_nil, e0]) s2 rfl (R := fun v w' => ∃ bt, v = .func (.func 116) #[] #[.pointer (some ⟨bt, 0, none⟩)] ∧ w2.heap.size ≤ bt ∧ bt < w'.heap.size ∧ w'.heap[bt]? = some (.cells #[pv, bv, .int .i64 many] 65 (0, 0)) ∧ Below w2.heap.size w2 w') ((Nfa.parts_calls pv bv many _).mono ?_) fun v_3 w3 act3 R d3 s3 hv hr => ?_
 ·rintro e w1 ⟨bt, rfl, h1, h2, h3, h4⟩; exact ⟨_, rfl, bt, rfl, h1, h2, h3, h4⟩
 have h3_3 := (hr 3 rfl).trans h3_2
 have h4_3 := (hr 4 rfl).trans h4_2
 have h5_3 := (hr 5 rfl).trans h5_2
 have h6_3 := (hr 6 rfl).trans h6_2
 have h10_3 : act3.eval (.tmp 10) = v_3 := hv
 have d3 := d3.trans d2
 clear hv hr
 obtain ⟨bt, hv1, hlo, hlt, hbt, hb3⟩ := R
 rw [hv1] at h10_3
 have kg3_1_3 := (hb3.block _ lg3_1_2).trans kg3_1_2
 have lg3_1_3 := Nat.lt_of_lt_of_le lg3_1_2 hb3.size
 have kg4_1_3 := (hb3.block _ lg4_1_2).trans kg4_1_2
 have lg4_1_3 := Nat.lt_of_lt_of_le lg4_1_2 hb3.size
 have kg5_1_3 := (hb3.block _ lg5_1_2).trans kg5_1_2
 have lg5_1_3 := Nat.lt_of_lt_of_le lg5_1_2 hb3.size
 have kg6_1_3 := (hb3.block _ lg6_1_2).trans kg6_1_2
 have lg6_1_3 := Nat.lt_of_lt_of_le lg6_1_2 hb3.size
 have ne_bt_g6_1 : g6_1 ≠ bt := fun e => Nat.lt_irrefl _ (Nat.lt_of_lt_of_le (e ▸ lg6_1_2) hlo)
 have bl3 := bl2.trans (hb3.mono bl2.size)
 refine EngI.tail_nil ?_
 refine wp_block ?_
 refine Eng.range_rule (n := 0) (m := 0) (Nfa.items ps bs) Nfa.enc (fun pre W_ => Below w.heap.size w W_ ∧ W_.heap[g3_1]? = some (.cells (#[pv, bv, .int .i64 many]) 65 (0, 0)) ∧ W_.heap[g4_1]? = some (.cells ((List.map (Value.int .u64) s).toArray) 74 (0, 0)) ∧ W_.heap[g5_1]? = some (.cells (#[.string step]) 9 (0, 0)) ∧ W_.heap[g6_1]? = some (.cells ((List.map (Value.int .u64) (Nfa.stepF s step pre)).toArray) 74 (0, 0)) ∧ W_.heap[bt]? = some (.cells (#[pv, bv, .int .i64 many]) 65 (0, 0))) h10_3 (Eng.enters Tryd.func116 (by kernel_rfl) rfl) (fun _ => rfl) ?_ ?_ ?_ ?_ ?_
 ·exact ⟨bl3, kg3_1_3, kg4_1_3, kg5_1_3, kg6_1_3, hbt⟩
 ·rintro pre W1 W2 ⟨b, k0, k1, k2, k3, k4⟩ hb; exact ⟨b.trans (hb.mono bl3.size), (hb.block _ lg3_1_3).trans k0, (hb.block _ lg4_1_3).trans k1, (hb.block _ lg5_1_3).trans k2, (hb.block _ lg6_1_3).trans k3, (hb.block _ hlt).trans k4⟩
 ·exact fun lp K hK hKJ hY W0 h0 => Nfa.parts_in 0 lp bt w pv bv many ps bs vs hvl hp hin hb K hK (fun pre W h => ⟨(hKJ _ _ h).1, (hKJ _ _ h).2.2.2.2.2⟩) hY W0 h0
 ·
  rintro pre x w5 lp act5 hpre ⟨bl5, kg3_1_5, kg4_1_5, kg5_1_5, kg6_1_5, kbt_5⟩ hV5 hl5 d5 ht
  obtain ⟨s5, h11_5, h12_5, hr⟩ := Eng.range_act2 (v0 := .int .i64 x.1) (v1 := .agg #[.int .i64 x.2.1, .string x.2.2]) ht s3 rfl rfl rfl
  have h4_5 := (hr 4 rfl).trans h4_3
  have h5_5 := (hr 5 rfl).trans h5_3
  have h6_5 := (hr 6 rfl).trans h6_3
  clear hr ht
  have lg3_1_5 := (Array.getElem?_eq_some_iff.1 kg3_1_5).1
  have lg4_1_5 := (Array.getElem?_eq_some_iff.1 kg4_1_5).1
  have lg5_1_5 := (Array.getElem?_eq_some_iff.1 kg5_1_5).1
  have lg6_1_5 := (Array.getElem?_eq_some_iff.1 kg6_1_5).1
  have lbt_5 := (Array.getElem?_eq_some_iff.1 kbt_5).1
  have kp5 := Eng.Kept.refl w3.heap.size w5
  refine wpIn_seq ?_
  refine EngI.regionS (EngI.free_wide.inRound lp) (Eng.still [fun u_ => u_ = .int .i64 x.1]) (fun _ => .plain) 1 0 39 s5 rfl (by kernel_rfl) (Eng.still_stable _) (Or.inr (Eng.still_any _)) (by kernel_rfl) ?_ ?_
  ·refine Eng.Steps.cons (fun _ => ?_) (Eng.Steps.nil)
   ·refine Eng.plain rfl rfl fun a w' H => ?_
    exact Eng.val (w1 := w') (v := .int .i64 x.1) (Eng.run_assign rfl ((H.kept 11 (by kernel_rfl)).trans h11_5)) (Below.refl _ _) rfl
  intro act6 w6 T
  have h4_6 := (T.rest 4 (by kernel_rfl)).trans h4_5
  have h5_6 := (T.rest 5 (by kernel_rfl)).trans h5_5
  have h6_6 := (T.rest 6 (by kernel_rfl)).trans h6_5
  have h12_6 := (T.rest 12 (by kernel_rfl)).trans h12_5
  have kg3_1_6 := (T.below.block _ lg3_1_5).trans kg3_1_5
  have lg3_1_6 := Nat.lt_of_lt_of_le lg3_1_5 T.below.size
  have kg4_1_6 := (T.below.block _ lg4_1_5).trans kg4_1_5
  have lg4_1_6 := Nat.lt_of_lt_of_le lg4_1_5 T.below.size
  have kg5_1_6 := (T.below.block _ lg5_1_5).trans kg5_1_5
  have lg5_1_6 := Nat.lt_of_lt_of_le lg5_1_5 T.below.size
  have kg6_1_6 := (T.below.block _ lg6_1_5).trans kg6_1_5
  have lg6_1_6 := Nat.lt_of_lt_of_le lg6_1_5 T.below.size
  have kbt_6 := (T.below.block _ lbt_5).trans kbt_5
  have lbt_6 := Nat.lt_of_lt_of_le lbt_5 T.below.size
  have h7_6 : act6.eval (.tmp 7) = .int .i64 x.1 := T.done 0 7 rfl rfl
  have s6 := T.size.trans s5
  have bl6 := bl5.trans (T.below.mono bl5.size)
  have kp6 := kp5.trans (Eng.Kept.below T.below)
  clear T
  refine EngI.tail_nil ?_
  first | show Code.wpIn _ _ Tryd.prog _ _ _ _ | skip
  refine EngI.regionS (EngI.free_wide.inRound lp) (Eng.still [fun u_ => True, fun u_ => True]) (fun i => ([.alloc 115 #[.int .i64 0, .string ⟨#[]⟩], .store 0 #[.int .i64 x.2.1, .string x.2.2]] : List Eng.Kind).getD i .plain) 2 0 39 s6 rfl (by kernel_rfl) (Eng.still_stable _) (Or.inr (Eng.still_any _)) (by kernel_rfl) ?_ ?_
  ·refine Eng.Steps.cons (fun _ => ?_) (Eng.Steps.cons (fun _ => ?_) (Eng.Steps.nil))
   ·refine Eng.made rfl (by simp) rfl (fun a w' hd ho => ?_) (fun _ _ => trivial)
    simp only [execOp]
    go_simp
   ·refine Eng.stored [.int .i64 x.2.1, .string x.2.2] rfl rfl rfl (j := 0) (d := 8) (by kernel_rfl) rfl rfl (Eng.store_uniq (by kernel_rfl)) rfl rfl fun a w' g e hc hd ho => ?_
    have e0 : a.eval _ = .agg #[.int .i64 x.2.1, .string x.2.2] := ((ho 12 (by kernel_rfl)).trans h12_6)
    have z0 := (Eng.cells hc 0).trans rfl
    have z1 := (Eng.cells hc 1).trans rfl
    have f0 := Eng.unfrozen hc 0
    have f1 := Eng.unfrozen hc 1
    simp only [execOp, e, e0]
    go_simp
    rfl
  intro act7 w7 T
  have h4_7 := (T.rest 4 (by kernel_rfl)).trans h4_6
  have h5_7 := (T.rest 5 (by kernel_rfl)).trans h5_6
  have h6_7 := (T.rest 6 (by kernel_rfl)).trans h6_6
  have h7_7 := (T.rest 7 (by kernel_rfl)).trans h7_6
  have kg3_1_7 := (T.below.block _ lg3_1_6).trans kg3_1_6
  have kg4_1_7 := (T.below.block _ lg4_1_6).trans kg4_1_6
  have kg5_1_7 := (T.below.block _ lg5_1_6).trans kg5_1_6
  have kg6_1_7 := (T.below.block _ lg6_1_6).trans kg6_1_6
  have kbt_7 := (T.below.block _ lbt_6).trans kbt_6
  obtain ⟨g8_7, h8_7, rg8_7, lg8_7_7, kg8_7_7⟩ := T.st 0 8 1 _ _ _ rfl rfl rfl rfl rfl
  have rrg8_7 := Nat.le_trans kp6.size rg8_7
  have s7 := T.size.trans s6
  have bl7 := bl6.trans (T.below.mono bl6.size)
  have kp7 := kp6.trans (Eng.Kept.below T.below)
  clear T
  refine EngI.tail_nil ?_
  refine ⟨kp7, ⟨bl7, kg3_1_7, kg4_1_7, kg5_1_7, kg6_1_7, kbt_7⟩, ?_⟩
  rintro w8 hfar hsz hb2 ⟨bl8, kg3_1_8, kg4_1_8, kg5_1_8, kg6_1_8, kbt_8⟩
  have lg3_1_8 := (Array.getElem?_eq_some_iff.1 kg3_1_8).1
  have lg4_1_8 := (Array.getElem?_eq_some_iff.1 kg4_1_8).1
  have lg5_1_8 := (Array.getElem?_eq_some_iff.1 kg5_1_8).1
  have lg6_1_8 := (Array.getElem?_eq_some_iff.1 kg6_1_8).1
  have lbt_8 := (Array.getElem?_eq_some_iff.1 kbt_8).1
  have kg8_7_8 := (hfar _ (fun e => Nat.lt_irrefl _ (Nat.lt_of_lt_of_le (e ▸ hl5) rrg8_7))).trans kg8_7_7
  have lg8_7_8 := Nat.lt_of_lt_of_eq lg8_7_7 hsz.symm
  have kp8 := Eng.Kept.refl w3.heap.size w8
  clear hfar hb2
  refine wpIn_block ?_
  refine wpIn_seq ?_
  refine wpIn_seq ?_
  obtain ⟨q15, Bq15⟩ : ∃ b : Bool, b = (Nfa.has s x.1) := ⟨_, rfl⟩
  obtain ⟨q16, Bq16⟩ : ∃ b : Bool, b = (!q15) := ⟨_, rfl⟩
  refine EngI.regionS (EngI.free_wide.inRound lp) (Eng.still [fun u_ => u_ = .agg ((List.map (Value.int .u64) s).toArray), fun u_ => u_ = .int .i64 x.1, fun u_ => u_ = .bool q15, fun u_ => u_ = .bool q16]) (fun _ => .plain) 4 0 39 s7 rfl (by kernel_rfl) (Eng.still_stable _) (Or.inr (Eng.still_any _)) (by kernel_rfl) ?_ ?_
  ·refine Eng.Steps.cons (fun _ => ?_) (Eng.Steps.cons (fun _ => ?_) (Eng.Steps.cons (fun _ => ?_) (Eng.Steps.cons (fun _ => ?_) (Eng.Steps.nil))))
   ·refine Eng.plain rfl rfl fun a w' H => ?_
    have kb := (H.below.block _ lg4_1_8).trans kg4_1_8
    refine Eng.val (w1 := w') (v := .agg ((List.map (Value.int .u64) s).toArray)) ?_ (Below.refl _ _) rfl
    exact Eng.run_load_all rfl ((H.kept 4 (by kernel_rfl)).trans h4_7) kb Tryd.underlying74 rfl (by rw [Nfa.cells_size (hs)]; kernel_rfl)
   ·refine Eng.plain rfl rfl fun a w' H => ?_
    exact Eng.val (w1 := w') (v := .int .i64 x.1) (Eng.run_move rfl ((H.kept 7 (by kernel_rfl)).trans h7_7)) (Below.refl _ _) rfl
   ·refine Eng.plain rfl rfl fun a w' H => ?_
    refine Eng.call Tryd.func85 (by kernel_rfl) (by kernel_rfl) rfl #[.agg ((List.map (Value.int .u64) s).toArray), .int .i64 x.1] ?_ ?_
    ·have e0 : a.eval (.tmp 13) = .agg ((List.map (Value.int .u64) s).toArray) := (H.dep 0 13 (by kernel_rfl) rfl); have e1 : a.eval (.tmp 14) = .int .i64 x.1 := (H.dep 1 14 (by kernel_rfl) rfl); simp only [List.map_toArray, List.map_cons, List.map_nil, e0, e1]
    refine (Nfa.has_calls s x.1 _ (hs)).mono ?_
    rintro e w'' ⟨rfl, hb⟩
    exact ⟨_, rfl, (by show _ = Value.bool q15; rw [Bq15]), hb⟩
   ·refine Eng.plain rfl rfl fun a w' H => ?_
    exact Eng.val (w1 := w') (v := .bool (!q15)) (Eng.run_not rfl (H.dep 2 15 (by kernel_rfl) rfl)) (Below.refl _ _) (by show _ = Value.bool q16; rw [Bq16])
  intro act9 w9 T
  have h5_9 := (T.rest 5 (by kernel_rfl)).trans h5_7
  have h6_9 := (T.rest 6 (by kernel_rfl)).trans h6_7
  have h7_9 := (T.rest 7 (by kernel_rfl)).trans h7_7
  have h8_9 := (T.rest 8 (by kernel_rfl)).trans h8_7
  have kg3_1_9 := (T.below.block _ lg3_1_8).trans kg3_1_8
  have lg3_1_9 := Nat.lt_of_lt_of_le lg3_1_8 T.below.size
  have kg4_1_9 := (T.below.block _ lg4_1_8).trans kg4_1_8
  have lg4_1_9 := Nat.lt_of_lt_of_le lg4_1_8 T.below.size
  have kg5_1_9 := (T.below.block _ lg5_1_8).trans kg5_1_8
  have lg5_1_9 := Nat.lt_of_lt_of_le lg5_1_8 T.below.size
  have kg6_1_9 := (T.below.block _ lg6_1_8).trans kg6_1_8
  have lg6_1_9 := Nat.lt_of_lt_of_le lg6_1_8 T.below.size
  have kbt_9 := (T.below.block _ lbt_8).trans kbt_8
  have lbt_9 := Nat.lt_of_lt_of_le lbt_8 T.below.size
  have kg8_7_9 := (T.below.block _ lg8_7_8).trans kg8_7_8
  have lg8_7_9 := Nat.lt_of_lt_of_le lg8_7_8 T.below.size
  have h16_9 : act9.eval (.tmp 16) = .bool q16 := T.done 3 16 rfl rfl
  have s9 := T.size.trans s7
  have bl9 := bl8.trans (T.below.mono bl8.size)
  have kp9 := kp8.trans (Eng.Kept.below T.below)
  clear T
  refine EngI.tail_nil ?_
  first | show Code.wpIn _ _ Tryd.prog _ _ _ _ | skip
  refine wpIn_cond_split h16_9 (fun hq => ?_) (fun hq => ?_)
  ·
   have c16 := Bq16.symm.trans hq
   clear hq
   have hbx : (!Nfa.has s x.1) = true := by rw [Bq15] at c16; exact c16
   refine wpIn_exit ?_
   exact ⟨rfl, ⟨bl9, kg3_1_9, kg4_1_9, kg5_1_9, (kg6_1_9.trans (by rw [Nfa.stepF_snoc]; unfold Nfa.stepP; first | (rw [if_pos hbx]; done) | (rw [if_neg (by rw [hbx]; simp), if_pos c17]; done) | (rw [if_neg (by rw [hbx]; simp), if_neg (by rw [c17]; simp), if_pos c23]; done) | (rw [if_neg (by rw [hbx]; simp), if_neg (by rw [c17]; simp), if_neg (by rw [c23]; simp)]; done))), kbt_9⟩, kp9⟩
  ·
   have c16 := Bq16.symm.trans hq
   clear hq
   have hbx : (!Nfa.has s x.1) = false := by rw [Bq15] at c16; exact c16
   refine wpIn_skip ?_
   first | show Code.wpIn _ _ Tryd.prog _ _ _ _ | skip
   refine wpIn_block ?_
   refine wpIn_seq ?_
   obtain ⟨q20, Bq20⟩ : ∃ b : Bool, b = (x.2.1 == 2) := ⟨_, rfl⟩
   refine EngI.regionS (EngI.free_wide.inRound lp) (Eng.still [fun u_ => u_ = .pointer (some ⟨g8_7, 0, none⟩), fun u_ => u_ = .int .i64 x.2.1, fun u_ => u_ = .bool q20, fun u_ => u_ = .bool q20]) (fun _ => .plain) 4 0 39 s9 rfl (by kernel_rfl) (Eng.still_stable _) (Or.inr (Eng.still_any _)) (by kernel_rfl) ?_ ?_
   ·refine Eng.Steps.cons (fun _ => ?_) (Eng.Steps.cons (fun _ => ?_) (Eng.Steps.cons (fun _ => ?_) (Eng.Steps.cons (fun _ => ?_) (Eng.Steps.nil))))
    ·refine Eng.plain rfl rfl fun a w' H => ?_
     refine Eng.val (w1 := w') (v := .pointer (some ⟨g8_7, 0, none⟩)) ?_ (Below.refl _ _) rfl
     have e0 := ((H.kept 8 (by kernel_rfl)).trans h8_9)
     simp only [execOp, resolve, e0]
     go_simp
    ·refine Eng.plain rfl rfl fun a w' H => ?_
     have kb := (H.below.block _ lg8_7_9).trans kg8_7_9
     have z0 : w'.cell? ⟨g8_7, 0, none⟩ = some (.int .i64 x.2.1) := (Eng.cells kb 0).trans rfl
     refine Eng.val (w1 := w') (v := .int .i64 x.2.1) ?_ (Below.refl _ _) rfl
     have e0 : a.eval (.tmp 18) = .pointer (some ⟨g8_7, 0, none⟩) := (H.dep 0 18 (by kernel_rfl) rfl)
     simp only [execOp, resolve, e0]
     go_simp
    ·refine Eng.plain rfl rfl fun a w' H => ?_
     refine Eng.val (w1 := w') (v := .bool (x.2.1 == 2)) ?_ (Below.refl _ _) (by show _ = Value.bool q20; rw [Bq20])
     have e0 : a.eval (.tmp 19) = .int .i64 x.2.1 := (H.dep 1 19 (by kernel_rfl) rfl)
     have e1 : a.eval (.const (.int .i64 2)) = .int .i64 2 := (rfl : a.eval (.const (.int .i64 2)) = .int .i64 2)
     simp only [execOp, resolve, e0, e1]
     go_simp
    ·refine Eng.plain rfl rfl fun a w' H => ?_
     exact Eng.val (w1 := w') (v := .bool q20) (Eng.run_assign rfl (H.dep 2 20 (by kernel_rfl) rfl)) (Below.refl _ _) rfl
   intro act12 w12 T
   have h5_12 := (T.rest 5 (by kernel_rfl)).trans h5_9
   have h6_12 := (T.rest 6 (by kernel_rfl)).trans h6_9
   have h7_12 := (T.rest 7 (by kernel_rfl)).trans h7_9
   have h8_12 := (T.rest 8 (by kernel_rfl)).trans h8_9
   have kg3_1_12 := (T.below.block _ lg3_1_9).trans kg3_1_9
   have lg3_1_12 := Nat.lt_of_lt_of_le lg3_1_9 T.below.size
   have kg4_1_12 := (T.below.block _ lg4_1_9).trans kg4_1_9
   have lg4_1_12 := Nat.lt_of_lt_of_le lg4_1_9 T.below.size
   have kg5_1_12 := (T.below.block _ lg5_1_9).trans kg5_1_9
   have lg5_1_12 := Nat.lt_of_lt_of_le lg5_1_9 T.below.size
   have kg6_1_12 := (T.below.block _ lg6_1_9).trans kg6_1_9
   have lg6_1_12 := Nat.lt_of_lt_of_le lg6_1_9 T.below.size
   have kbt_12 := (T.below.block _ lbt_9).trans kbt_9
   have lbt_12 := Nat.lt_of_lt_of_le lbt_9 T.below.size
   have kg8_7_12 := (T.below.block _ lg8_7_9).trans kg8_7_9
   have lg8_7_12 := Nat.lt_of_lt_of_le lg8_7_9 T.below.size
   have h17_12 : act12.eval (.tmp 17) = .bool q20 := T.done 3 17 rfl rfl
   have s12 := T.size.trans s9
   have bl12 := bl9.trans (T.below.mono bl9.size)
   have kp12 := kp9.trans (Eng.Kept.below T.below)
   clear T
   refine EngI.tail_nil ?_
   first | show Code.wpIn _ _ Tryd.prog _ _ _ _ | skip
   refine wpIn_cond_split h17_12 (fun hq => ?_) (fun hq => ?_)
   ·
    have c17 := Bq20.symm.trans hq
    clear hq
    refine EngI.regionS (EngI.free_wide.inRound lp) (Eng.still [fun u_ => u_ = .int .i64 x.1]) (fun _ => .plain) 1 1 39 s12 rfl (by kernel_rfl) (Eng.still_stable _) (Or.inr (Eng.still_any _)) (by kernel_rfl) ?_ ?_
    ·refine Eng.Steps.cons (fun _ => ?_) (Eng.Steps.cons (fun hlt => ?_) (Eng.Steps.nil))
     ·refine Eng.plain rfl rfl fun a w' H => ?_
      exact Eng.val (w1 := w') (v := .int .i64 x.1) (Eng.run_move rfl ((H.kept 7 (by kernel_rfl)).trans h7_12)) (Below.refl _ _) rfl
     ·exact absurd hlt (by decide)
    intro act14 w14 T
    have h6_14 := (T.rest 6 (by kernel_rfl)).trans h6_12
    have kg3_1_14 := (T.below.block _ lg3_1_12).trans kg3_1_12
    have lg3_1_14 := Nat.lt_of_lt_of_le lg3_1_12 T.below.size
    have kg4_1_14 := (T.below.block _ lg4_1_12).trans kg4_1_12
    have lg4_1_14 := Nat.lt_of_lt_of_le lg4_1_12 T.below.size
    have kg5_1_14 := (T.below.block _ lg5_1_12).trans kg5_1_12
    have lg5_1_14 := Nat.lt_of_lt_of_le lg5_1_12 T.below.size
    have kg6_1_14 := (T.below.block _ lg6_1_12).trans kg6_1_12
    have kbt_14 := (T.below.block _ lbt_12).trans kbt_12
    have lbt_14 := Nat.lt_of_lt_of_le lbt_12 T.below.size
    have h21_14 : act14.eval (.tmp 21) = .int .i64 x.1 := T.done 0 21 rfl rfl
    have s14 := T.size.trans s12
    have bl14 := bl12.trans (T.below.mono bl12.size)
    have kp14 := kp12.trans (Eng.Kept.below T.below)
    clear T
    refine EngI.tail_call (EngI.free_wide.inRound lp) Tryd.func90 (by kernel_rfl) (by kernel_rfl) rfl rfl rfl rfl #[.pointer (some ⟨g6_1, 0, none⟩), .int .i64 x.1] (by have e0 : act14.eval (.tmp 6) = .pointer (some ⟨g6_1, 0, none⟩) := h6_14; have e1 : act14.eval (.tmp 21) = .int .i64 x.1 := h21_14; simp only [List.map_toArray, List.map_cons, List.map_nil, e0, e1]) s14 rfl (R := fun _ w' => Eng.Turns w14 w' g6_1 (.cells ((List.map (Value.int .u64) (Nfa.put (Nfa.stepF s step pre) x.1)).toArray) 74 (0, 0))) ((Nfa.put_calls g6_1 (Nfa.stepF s step pre) x.1 _ (Nfa.stepF_len _ _ _) kg6_1_14).mono ?_) fun v_15 w15 act15 R d15 s15 hv hr => ?_
    ·rintro e w1 ⟨v, rfl, R⟩; exact ⟨v, rfl, R⟩
    clear hv hr
    have bl15 := Eng.Turns.below R bl14 og6_1 (Nat.le_refl _)
    have kp15 := kp14.trans (Eng.Turns.kept R lg6_1_3)
    have kg3_1_15 := (R.far _ ne_g6_1_g3_1 lg3_1_14).trans kg3_1_14
    have kg4_1_15 := (R.far _ ne_g6_1_g4_1 lg4_1_14).trans kg4_1_14
    have kg5_1_15 := (R.far _ ne_g6_1_g5_1 lg5_1_14).trans kg5_1_14
    have kg6_1_15 := R.new
    have kbt_15 := (R.far _ ne_bt_g6_1.symm lbt_14).trans kbt_14
    clear R
    refine EngI.tail_nil ?_
    exact ⟨rfl, ⟨bl15, kg3_1_15, kg4_1_15, kg5_1_15, (kg6_1_15.trans (by rw [Nfa.stepF_snoc]; unfold Nfa.stepP; first | (rw [if_pos hbx]; done) | (rw [if_neg (by rw [hbx]; simp), if_pos c17]; done) | (rw [if_neg (by rw [hbx]; simp), if_neg (by rw [c17]; simp), if_pos c23]; done) | (rw [if_neg (by rw [hbx]; simp), if_neg (by rw [c17]; simp), if_neg (by rw [c23]; simp)]; done))), kbt_15⟩, kp15⟩
   ·
    have c17 := Bq20.symm.trans hq
    clear hq
    refine wpIn_seq ?_
    obtain ⟨q26, Bq26⟩ : ∃ b : Bool, b = (x.2.1 == 1) := ⟨_, rfl⟩
    obtain ⟨q31, Bq31⟩ : ∃ b : Bool, b = (x.2.2.toList == step.toList) := ⟨_, rfl⟩
    obtain ⟨q32, Bq32⟩ : ∃ b : Bool, b = (q26 || q31) := ⟨_, rfl⟩
    refine EngI.regionS (EngI.free_wide.inRound lp) (Eng.still [fun u_ => u_ = .pointer (some ⟨g8_7, 0, none⟩), fun u_ => u_ = .int .i64 x.2.1, fun u_ => u_ = .bool q26, fun u_ => u_ = .bool q26, fun u_ => u_ = bif (q26 == false) then (.pointer (some ⟨g8_7, 1, none⟩)) else undef, fun u_ => u_ = bif (q26 == false) then (.string x.2.2) else undef, fun u_ => u_ = bif (q26 == false) then (.string step) else undef, fun u_ => u_ = bif (q26 == false) then (.bool q31) else undef, fun u_ => u_ = .bool q32, fun u_ => u_ = .bool q32]) (fun _ => .plain) 10 0 39 s12 rfl (by kernel_rfl) (Eng.still_stable _) (Or.inr (Eng.still_any _)) (by kernel_rfl) ?_ ?_
    ·refine Eng.Steps.cons (fun _ => ?_) (Eng.Steps.cons (fun _ => ?_) (Eng.Steps.cons (fun _ => ?_) (Eng.Steps.cons (fun _ => ?_) (Eng.Steps.cons (fun _ => ?_) (Eng.Steps.cons (fun _ => ?_) (Eng.Steps.cons (fun _ => ?_) (Eng.Steps.cons (fun _ => ?_) (Eng.Steps.cons (fun _ => ?_) (Eng.Steps.cons (fun _ => ?_) (Eng.Steps.nil))))))))))
     ·refine Eng.plain rfl rfl fun a w' H => ?_
      refine Eng.val (w1 := w') (v := .pointer (some ⟨g8_7, 0, none⟩)) ?_ (Below.refl _ _) rfl
      have e0 := ((H.kept 8 (by kernel_rfl)).trans h8_12)
      simp only [execOp, resolve, e0]
      go_simp
     ·refine Eng.plain rfl rfl fun a w' H => ?_
      have kb := (H.below.block _ lg8_7_12).trans kg8_7_12
      have z0 : w'.cell? ⟨g8_7, 0, none⟩ = some (.int .i64 x.2.1) := (Eng.cells kb 0).trans rfl
      refine Eng.val (w1 := w') (v := .int .i64 x.2.1) ?_ (Below.refl _ _) rfl
      have e0 : a.eval (.tmp 24) = .pointer (some ⟨g8_7, 0, none⟩) := (H.dep 0 24 (by kernel_rfl) rfl)
      simp only [execOp, resolve, e0]
      go_simp
     ·refine Eng.plain rfl rfl fun a w' H => ?_
      refine Eng.val (w1 := w') (v := .bool (x.2.1 == 1)) ?_ (Below.refl _ _) (by show _ = Value.bool q26; rw [Bq26])
      have e0 : a.eval (.tmp 25) = .int .i64 x.2.1 := (H.dep 1 25 (by kernel_rfl) rfl)
      have e1 : a.eval (.const (.int .i64 1)) = .int .i64 1 := (rfl : a.eval (.const (.int .i64 1)) = .int .i64 1)
      simp only [execOp, resolve, e0, e1]
      go_simp
     ·refine Eng.plain rfl rfl fun a w' H => ?_
      exact Eng.val (w1 := w') (v := .bool q26) (Eng.run_move rfl (H.dep 2 26 (by kernel_rfl) rfl)) (Below.refl _ _) rfl
     ·refine Eng.guarded1 (j := 3) (d := 27) (b := q26) rfl rfl (by kernel_rfl) rfl (fun v w h => h) (fun hG w => Eng.off hG) fun hG a w' H => ?_
      refine Eng.val (w1 := w') (v := .pointer (some ⟨g8_7, 1, none⟩)) ?_ (Below.refl _ _) (Eng.off' hG rfl)
      have e0 := ((H.kept 8 (by kernel_rfl)).trans h8_12)
      simp only [execOp, resolve, e0]
      go_simp
     ·refine Eng.guarded1 (j := 3) (d := 27) (b := q26) rfl rfl (by kernel_rfl) rfl (fun v w h => h) (fun hG w => Eng.off hG) fun hG a w' H => ?_
      have kb := (H.below.block _ lg8_7_12).trans kg8_7_12
      have z0 : w'.cell? ⟨g8_7, 1, none⟩ = some (.string x.2.2) := (Eng.cells kb 1).trans rfl
      refine Eng.val (w1 := w') (v := .string x.2.2) ?_ (Below.refl _ _) (Eng.off' hG rfl)
      have e0 : a.eval (.tmp 28) = .pointer (some ⟨g8_7, 1, none⟩) := (Eng.on (H.dep 4 28 (by kernel_rfl) rfl) hG)
      simp only [execOp, resolve, e0]
      go_simp
     ·refine Eng.guarded1 (j := 3) (d := 27) (b := q26) rfl rfl (by kernel_rfl) rfl (fun v w h => h) (fun hG w => Eng.off hG) fun hG a w' H => ?_
      have kb := (H.below.block _ lg5_1_12).trans kg5_1_12
      have z0 : w'.cell? ⟨g5_1, 0, none⟩ = some (.string step) := (Eng.cells kb 0).trans rfl
      refine Eng.val (w1 := w') (v := .string step) ?_ (Below.refl _ _) (Eng.off' hG rfl)
      have e0 := ((H.kept 5 (by kernel_rfl)).trans h5_12)
      simp only [execOp, resolve, e0]
      go_simp
     ·refine Eng.guarded1 (j := 3) (d := 27) (b := q26) rfl rfl (by kernel_rfl) rfl (fun v w h => h) (fun hG w => Eng.off hG) fun hG a w' H => ?_
      refine Eng.val (w1 := w') (v := .bool (x.2.2.toList == step.toList)) ?_ (Below.refl _ _) (Eng.off' hG (by rw [Bq31]))
      have e0 : a.eval (.tmp 29) = .string x.2.2 := (Eng.on (H.dep 5 29 (by kernel_rfl) rfl) hG)
      have e1 : a.eval (.tmp 30) = .string step := (Eng.on (H.dep 6 30 (by kernel_rfl) rfl) hG)
      simp only [execOp, resolve, e0, e1]
      go_simp
     ·refine Eng.plain rfl rfl fun a w' H => ?_
      exact Eng.val (w1 := w') (v := .bool (q26 || q31)) (Eng.run_or rfl rfl (G := true) (H.dep 3 27 (by kernel_rfl) rfl) (fun hb => (Eng.on (H.dep 7 31 (by kernel_rfl) rfl) (Eng.mk1 hb)))) (Below.refl _ _) (by show _ = Value.bool q32; rw [Bq32])
     ·refine Eng.plain rfl rfl fun a w' H => ?_
      exact Eng.val (w1 := w') (v := .bool q32) (Eng.run_assign rfl (H.dep 8 32 (by kernel_rfl) rfl)) (Below.refl _ _) rfl
    intro act17 w17 T
    have h6_17 := (T.rest 6 (by kernel_rfl)).trans h6_12
    have h7_17 := (T.rest 7 (by kernel_rfl)).trans h7_12
    have kg3_1_17 := (T.below.block _ lg3_1_12).trans kg3_1_12
    have lg3_1_17 := Nat.lt_of_lt_of_le lg3_1_12 T.below.size
    have kg4_1_17 := (T.below.block _ lg4_1_12).trans kg4_1_12
    have lg4_1_17 := Nat.lt_of_lt_of_le lg4_1_12 T.below.size
    have kg5_1_17 := (T.below.block _ lg5_1_12).trans kg5_1_12
    have lg5_1_17 := Nat.lt_of_lt_of_le lg5_1_12 T.below.size
    have kg6_1_17 := (T.below.block _ lg6_1_12).trans kg6_1_12
    have lg6_1_17 := Nat.lt_of_lt_of_le lg6_1_12 T.below.size
    have kbt_17 := (T.below.block _ lbt_12).trans kbt_12
    have lbt_17 := Nat.lt_of_lt_of_le lbt_12 T.below.size
    have h23_17 : act17.eval (.tmp 23) = .bool q32 := T.done 9 23 rfl rfl
    have s17 := T.size.trans s12
    have bl17 := bl12.trans (T.below.mono bl12.size)
    have kp17 := kp12.trans (Eng.Kept.below T.below)
    clear T
    refine EngI.tail_nil ?_
    first | show Code.wpIn _ _ Tryd.prog _ _ _ _ | skip
    refine wpIn_cond_split h23_17 (fun hq => ?_) (fun hq => ?_)
    ·
     have c23 := Bq32.symm.trans hq
     clear hq
     rw [Bq26, Bq31] at c23
     refine EngI.regionS (EngI.free_wide.inRound lp) (Eng.still [fun u_ => u_ = .int .i64 x.1, fun u_ => u_ = .int .i64 (IntKind.i64.wrap (x.1 + 1))]) (fun _ => .plain) 2 1 39 s17 rfl (by kernel_rfl) (Eng.still_stable _) (Or.inr (Eng.still_any _)) (by kernel_rfl) ?_ ?_
     ·refine Eng.Steps.cons (fun _ => ?_) (Eng.Steps.cons (fun _ => ?_) (Eng.Steps.cons (fun hlt => ?_) (Eng.Steps.nil)))
      ·refine Eng.plain rfl rfl fun a w' H => ?_
       exact Eng.val (w1 := w') (v := .int .i64 x.1) (Eng.run_move rfl ((H.kept 7 (by kernel_rfl)).trans h7_17)) (Below.refl _ _) rfl
      ·refine Eng.plain rfl rfl fun a w' H => ?_
       refine Eng.val (w1 := w') (v := .int .i64 (IntKind.i64.wrap (x.1 + 1))) ?_ (Below.refl _ _) rfl
       have e0 : a.eval (.tmp 33) = .int .i64 x.1 := (H.dep 0 33 (by kernel_rfl) rfl)
       have e1 : a.eval (.const (.int .i64 1)) = .int .i64 1 := (rfl : a.eval (.const (.int .i64 1)) = .int .i64 1)
       simp only [execOp, resolve, e0, e1]
       go_simp
      ·exact absurd hlt (by decide)
     intro act19 w19 T
     have h6_19 := (T.rest 6 (by kernel_rfl)).trans h6_17
     have kg3_1_19 := (T.below.block _ lg3_1_17).trans kg3_1_17
     have lg3_1_19 := Nat.lt_of_lt_of_le lg3_1_17 T.below.size
     have kg4_1_19 := (T.below.block _ lg4_1_17).trans kg4_1_17
     have lg4_1_19 := Nat.lt_of_lt_of_le lg4_1_17 T.below.size
     have kg5_1_19 := (T.below.block _ lg5_1_17).trans kg5_1_17
     have lg5_1_19 := Nat.lt_of_lt_of_le lg5_1_17 T.below.size
     have kg6_1_19 := (T.below.block _ lg6_1_17).trans kg6_1_17
     have kbt_19 := (T.below.block _ lbt_17).trans kbt_17
     have lbt_19 := Nat.lt_of_lt_of_le lbt_17 T.below.size
     have h34_19 : act19.eval (.tmp 34) = .int .i64 (IntKind.i64.wrap (x.1 + 1)) := T.done 1 34 rfl rfl
     have s19 := T.size.trans s17
     have bl19 := bl17.trans (T.below.mono bl17.size)
     have kp19 := kp17.trans (Eng.Kept.below T.below)
     clear T
     refine EngI.tail_call (EngI.free_wide.inRound lp) Tryd.func90 (by kernel_rfl) (by kernel_rfl) rfl rfl rfl rfl #[.pointer (some ⟨g6_1, 0, none⟩), .int .i64 (IntKind.i64.wrap (x.1 + 1))] (by have e0 : act19.eval (.tmp 6) = .pointer (some ⟨g6_1, 0, none⟩) := h6_19; have e1 : act19.eval (.tmp 34) = .int .i64 (IntKind.i64.wrap (x.1 + 1)) := h34_19; simp only [List.map_toArray, List.map_cons, List.map_nil, e0, e1]) s19 rfl (R := fun _ w' => Eng.Turns w19 w' g6_1 (.cells ((List.map (Value.int .u64) (Nfa.put (Nfa.stepF s step pre) (IntKind.i64.wrap (x.1 + 1)))).toArray) 74 (0, 0))) ((Nfa.put_calls g6_1 (Nfa.stepF s step pre) (IntKind.i64.wrap (x.1 + 1)) _ (Nfa.stepF_len _ _ _) kg6_1_19).mono ?_) fun v_20 w20 act20 R d20 s20 hv hr => ?_
     ·rintro e w1 ⟨v, rfl, R⟩; exact ⟨v, rfl, R⟩
     clear hv hr
     have bl20 := Eng.Turns.below R bl19 og6_1 (Nat.le_refl _)
     have kp20 := kp19.trans (Eng.Turns.kept R lg6_1_3)
     have kg3_1_20 := (R.far _ ne_g6_1_g3_1 lg3_1_19).trans kg3_1_19
     have kg4_1_20 := (R.far _ ne_g6_1_g4_1 lg4_1_19).trans kg4_1_19
     have kg5_1_20 := (R.far _ ne_g6_1_g5_1 lg5_1_19).trans kg5_1_19
     have kg6_1_20 := R.new
     have kbt_20 := (R.far _ ne_bt_g6_1.symm lbt_19).trans kbt_19
     clear R
     refine EngI.tail_nil ?_
     exact ⟨rfl, ⟨bl20, kg3_1_20, kg4_1_20, kg5_1_20, (kg6_1_20.trans (by rw [Nfa.stepF_snoc]; unfold Nfa.stepP; first | (rw [if_pos hbx]; done) | (rw [if_neg (by rw [hbx]; simp), if_pos c17]; done) | (rw [if_neg (by rw [hbx]; simp), if_neg (by rw [c17]; simp), if_pos c23]; done) | (rw [if_neg (by rw [hbx]; simp), if_neg (by rw [c17]; simp), if_neg (by rw [c23]; simp)]; done))), kbt_20⟩, kp20⟩
    ·
     have c23 := Bq32.symm.trans hq
     clear hq
     rw [Bq26, Bq31] at c23
     refine wpIn_skip ?_
     exact ⟨rfl, ⟨bl17, kg3_1_17, kg4_1_17, kg5_1_17, (kg6_1_17.trans (by rw [Nfa.stepF_snoc]; unfold Nfa.stepP; first | (rw [if_pos hbx]; done) | (rw [if_neg (by rw [hbx]; simp), if_pos c17]; done) | (rw [if_neg (by rw [hbx]; simp), if_neg (by rw [c17]; simp), if_pos c23]; done) | (rw [if_neg (by rw [hbx]; simp), if_neg (by rw [c17]; simp), if_neg (by rw [c23]; simp)]; done))), kbt_17⟩, kp17⟩
 ·
  rintro w22 act22 ⟨bl22, kg3_1_22, kg4_1_22, kg5_1_22, kg6_1_22, kbt_22⟩ ht hd hD22
  have h3_22 : act22.eval (.tmp 3) = .pointer (some ⟨g3_1, 0, none⟩) := (Eng.act_eval ht 3).trans h3_3
  have h6_22 : act22.eval (.tmp 6) = .pointer (some ⟨g6_1, 0, none⟩) := (Eng.act_eval ht 6).trans h6_3
  have s22 : act22.tmps.size = 39 := by rw [ht]; exact s3
  have d22 := hd.trans (congrArg _ d3)
  clear ht hd
  have lg3_1_22 := (Array.getElem?_eq_some_iff.1 kg3_1_22).1
  have lg6_1_22 := (Array.getElem?_eq_some_iff.1 kg6_1_22).1
  have Fpp_22 := Eng.Reads.below hp bl22
  have Fbb_22 := Eng.Reads.below hb bl22
  refine wp_seq ?_
  refine Eng.regionS (Eng.still [fun u_ => u_ = .agg #[pv, bv, .int .i64 many], fun u_ => u_ = .agg ((List.map (Value.int .u64) (Nfa.stepF s step (Nfa.items ps bs))).toArray), fun u_ => u_ = .agg ((List.map (Value.int .u64) (Nfa.closeF (Nfa.stepF s step (Nfa.items ps bs)) (Nfa.items ps bs))).toArray)]) (fun _ => .plain) 3 1 39 s22 rfl (by kernel_rfl) (Eng.still_stable _) (Or.inr (Eng.still_any _)) ?_ ?_
  ·refine Eng.Steps.cons (fun _ => ?_) (Eng.Steps.cons (fun _ => ?_) (Eng.Steps.cons (fun _ => ?_) (Eng.Steps.cons (fun hlt => ?_) (Eng.Steps.nil))))
   ·refine Eng.plain rfl rfl fun a w' H => ?_
    have kb := (H.below.block _ lg3_1_22).trans kg3_1_22
    have z0 : w'.cell? ⟨g3_1, 0, none⟩ = some (pv) := (Eng.cells kb 0).trans rfl
    have z1 : w'.cell? ⟨g3_1, 1, none⟩ = some (bv) := (Eng.cells kb 1).trans rfl
    have z2 : w'.cell? ⟨g3_1, 2, none⟩ = some (.int .i64 many) := (Eng.cells kb 2).trans rfl
    refine Eng.val (w1 := w') (v := .agg #[pv, bv, .int .i64 many]) ?_ (Below.refl _ _) rfl
    have e0 := ((H.kept 3 (by kernel_rfl)).trans h3_22)
    simp only [execOp, resolve, e0]
    go_simp
   ·refine Eng.plain rfl rfl fun a w' H => ?_
    have kb := (H.below.block _ lg6_1_22).trans kg6_1_22
    refine Eng.val (w1 := w') (v := .agg ((List.map (Value.int .u64) (Nfa.stepF s step (Nfa.items ps bs))).toArray)) ?_ (Below.refl _ _) rfl
    exact Eng.run_load_all rfl ((H.kept 6 (by kernel_rfl)).trans h6_22) kb Tryd.underlying74 rfl (by rw [Nfa.cells_size (Nfa.stepF_len _ _ _)]; kernel_rfl)
   ·refine Eng.plain rfl rfl fun a w' H => ?_
    refine Eng.call Tryd.func91 (by kernel_rfl) (by kernel_rfl) rfl #[.agg #[pv, bv, .int .i64 many], .agg ((List.map (Value.int .u64) (Nfa.stepF s step (Nfa.items ps bs))).toArray)] ?_ ?_
    ·have e0 : a.eval (.tmp 36) = .agg #[pv, bv, .int .i64 many] := (H.dep 0 36 (by kernel_rfl) rfl); have e1 : a.eval (.tmp 37) = .agg ((List.map (Value.int .u64) (Nfa.stepF s step (Nfa.items ps bs))).toArray) := (H.dep 1 37 (by kernel_rfl) rfl); simp only [List.map_toArray, List.map_cons, List.map_nil, e0, e1]
    refine (Nfa.closed_calls pv bv many ps bs vs (Nfa.stepF s step (Nfa.items ps bs)) _ (Nfa.stepF_len _ _ _) hvl (Eng.Reads.below Fpp_22 H.below) (fun k hk => Eng.Reads.below (Eng.Reads.below (hin k hk) bl22) H.below) (Eng.Reads.below Fbb_22 H.below)).mono ?_
    rintro e w'' ⟨rfl, hb⟩
    exact ⟨_, rfl, rfl, hb⟩
   ·exact absurd hlt (by decide)
  intro act23 w23 T
  have h6_23 := (T.rest 6 (by kernel_rfl)).trans h6_22
  have kg6_1_23 := (T.below.block _ lg6_1_22).trans kg6_1_22
  have h38_23 : act23.eval (.tmp 38) = .agg ((List.map (Value.int .u64) (Nfa.closeF (Nfa.stepF s step (Nfa.items ps bs)) (Nfa.items ps bs))).toArray) := T.done 2 38 rfl rfl
  have d23 := T.defers.trans d22
  have bl23 := bl22.trans (T.below.mono bl22.size)
  have D23 := (T.below.block _ (Array.getElem?_eq_some_iff.1 hD22).1).trans hD22
  clear T
  refine Eng.tail_arr rfl rfl rfl rfl h6_23 h38_23 kg6_1_23 (by rw [Nfa.cells_size ((Nfa.closeF_len _ _).trans (Nfa.stepF_len _ _ _))]; kernel_rfl) ((Nfa.cells_size (Nfa.stepF_len _ _ _)).trans (Nfa.cells_size ((Nfa.closeF_len _ _).trans (Nfa.stepF_len _ _ _))).symm) (by simp [Value.oneCell']) fun w24 S => ?_
  have kg6_1_24 := S.new
  have bl24 := S.below bl23 og6_1
  have D24 := (S.far _ (Eng.def_ne D23 kg6_1_23)).trans D23
  clear S
  refine Eng.tail_nil ?_
  refine wp_ret ?_
  repeat (first | refine Eng.in_ret ?_ | refine Eng.then_ret ?_)
  exact Eng.retcM rfl d23 D24 h6_23 kg6_1_24 Tryd.underlying74 rfl (by rw [Nfa.cells_size ((Nfa.closeF_len _ _).trans (Nfa.stepF_len _ _ _))]; kernel_rfl) fun w1 hb => ⟨rfl, bl24.trans (hb.mono bl3.size)⟩
end Go.Proofs.YthgafcaoibfchaaDoor.X
end
section
namespace Go.Proofs.YthgafcaoibfchaaDoor.X
open Go.RowKit Go.Shelf Go.Proofs Go.Proofs.YthgafcaoibfchaaDoorW.PrintWords Go.Proofs.YthgafcaoibfchaaDoorW.PrintLast Go.Proofs.YthgafcaoibfchaaDoorW.PrintMore
set_option linter.unusedVariables false
set_option linter.unusedSimpArgs false
set_option maxHeartbeats 4000000 in
set_option maxRecDepth 100000 in
theorem Nfa.run_calls (pv bv : Value) (many : Int) (ps : List (List Pth.Part)) (bs : List Int) (vs : List Value) (sv : Value) (l : List ByteArray) (w : World) (hvl : vs.length = ps.length) (hp : Eng.Reads w pv ps.length 1 vs) (hin : ∀ k, k < ps.length → Eng.Reads w (vs.getD k undef) (ps.getD k []).length 2 (Pth.cellsP (ps.getD k []))) (hb : Eng.Reads w bv bs.length 1 (Nfa.ints bs)) (hst : Eng.Reads w sv l.length 1 (Nfa.strs l)) : Calls Tryd.prog 40 #[.agg #[pv, bv, .int .i64 many], sv] w fun e w' => e = .returned (.agg (List.map (Value.int .u64) (Nfa.run ps bs l)).toArray) ∧ Below w.heap.size w w' := by
 have hm := Eng.Reads.len_le hst
 refine Eng.enter Tryd.func40 rfl fun act0 d0 s0 v0 => ?_
 have s0 : act0.tmps.size = 22 := s0
 have h0_0 : act0.eval (.tmp 0) = .agg #[pv, bv, .int .i64 many] := v0 0 (by simp)
 have h1_0 : act0.eval (.tmp 1) = sv := v0 1 (by simp)
 clear v0
 have bl0 : Below w.heap.size w w := Below.refl _ _
 refine wp_seq ?_
 refine Eng.regionS (Eng.still [fun u_ => True, fun u_ => True]) (fun i => ([.alloc 65 #[pv, bv, .int .i64 many], .alloc 74 ((List.map (Value.int .u64) (List.replicate 8 0)).toArray)] : List Eng.Kind).getD i .plain) 2 0 22 s0 rfl (by kernel_rfl) (Eng.still_stable _) (Or.inr (Eng.still_any _)) ?_ ?_
 ·refine Eng.Steps.cons (fun _ => ?_) (Eng.Steps.cons (fun _ => ?_) (Eng.Steps.nil))
  ·refine Eng.made rfl (by simp) rfl (fun a w' hd ho => ?_) (fun _ _ => trivial)
   exact Eng.run_box rfl ((ho 0 (by kernel_rfl)).trans h0_0)
  ·refine Eng.made rfl (by simp) rfl (fun a w' hd ho => ?_) (fun _ _ => trivial)
   exact Eng.run_alloc rfl (by kernel_rfl)
 intro act1 w1 T
 have h0_1 := (T.rest 0 (by kernel_rfl)).trans h0_0
 have h1_1 := (T.rest 1 (by kernel_rfl)).trans h1_0
 have Fpp_1 := Eng.Reads.below hp T.below
 have Fbb_1 := Eng.Reads.below hb T.below
 have Fst_1 := Eng.Reads.below hst T.below
 obtain ⟨g2_1, h2_1, rg2_1, lg2_1_1, kg2_1_1⟩ := T.al 0 2 _ _ rfl rfl rfl (by kernel_rfl)
 obtain ⟨g4_1, h4_1, rg4_1, lg4_1_1, kg4_1_1⟩ := T.al 1 4 _ _ rfl rfl rfl (by kernel_rfl)
 have og4_1 : w.heap.size ≤ g4_1 := Nat.le_trans bl0.size rg4_1
 have d1 := T.defers.trans d0
 have s1 := T.size.trans s0
 have bl1 := bl0.trans (T.below.mono bl0.size)
 clear T
 refine Eng.tail_nil ?_
 refine wp_seq ?_
 refine Eng.regionS (Eng.still [fun u_ => u_ = .agg #[pv, bv, .int .i64 many], fun u_ => u_ = .agg ((List.map (Value.int .u64) (Nfa.start ps bs)).toArray), fun u_ => True, fun u_ => True]) (fun i => ([.plain, .plain, .alloc 74 ((List.map (Value.int .u64) (List.replicate 8 0)).toArray), .store 2 ((List.map (Value.int .u64) (Nfa.start ps bs)).toArray)] : List Eng.Kind).getD i .plain) 4 0 22 s1 rfl (by kernel_rfl) (Eng.still_stable _) (Or.inr (Eng.still_any _)) ?_ ?_
 ·refine Eng.Steps.cons (fun _ => ?_) (Eng.Steps.cons (fun _ => ?_) (Eng.Steps.cons (fun _ => ?_) (Eng.Steps.cons (fun _ => ?_) (Eng.Steps.nil))))
  ·refine Eng.plain rfl rfl fun a w' H => ?_
   have kb := (H.below.block _ lg2_1_1).trans kg2_1_1
   have z0 : w'.cell? ⟨g2_1, 0, none⟩ = some (pv) := (Eng.cells kb 0).trans rfl
   have z1 : w'.cell? ⟨g2_1, 1, none⟩ = some (bv) := (Eng.cells kb 1).trans rfl
   have z2 : w'.cell? ⟨g2_1, 2, none⟩ = some (.int .i64 many) := (Eng.cells kb 2).trans rfl
   refine Eng.val (w1 := w') (v := .agg #[pv, bv, .int .i64 many]) ?_ (Below.refl _ _) rfl
   have e0 := ((H.kept 2 (by kernel_rfl)).trans h2_1)
   simp only [execOp, resolve, e0]
   go_simp
  ·refine Eng.plain rfl rfl fun a w' H => ?_
   refine Eng.call Tryd.func50 (by kernel_rfl) (by kernel_rfl) rfl #[.agg #[pv, bv, .int .i64 many]] ?_ ?_
   ·have e0 : a.eval (.tmp 8) = .agg #[pv, bv, .int .i64 many] := (H.dep 0 8 (by kernel_rfl) rfl); simp only [List.map_toArray, List.map_cons, List.map_nil, e0]
   refine (Nfa.start_calls pv bv many ps bs vs _ hvl (Eng.Reads.below Fpp_1 H.below) (fun k hk => Eng.Reads.below (Eng.Reads.below (hin k hk) bl1) H.below) (Eng.Reads.below Fbb_1 H.below)).mono ?_
   rintro e w'' ⟨rfl, hb⟩
   exact ⟨_, rfl, rfl, hb⟩
  ·refine Eng.made rfl (by simp) rfl (fun a w' hd ho => ?_) (fun _ _ => trivial)
   exact Eng.run_alloc rfl (by kernel_rfl)
  ·refine Eng.stored_arr rfl rfl rfl (j := 2) (d := 5) (by kernel_rfl) rfl rfl (Eng.store_uniq (by kernel_rfl)) ((Nfa.cells_size (by simp)).trans (Nfa.cells_size (Nfa.start_len _ _)).symm) rfl (by rw [Nfa.cells_size (Nfa.start_len _ _)]; kernel_rfl) (by simp [Value.oneCell']) fun a w' hd ho => ?_
   exact (hd 1 9 (by kernel_rfl) rfl)
 intro act2 w2 T
 have h0_2 := (T.rest 0 (by kernel_rfl)).trans h0_1
 have h1_2 := (T.rest 1 (by kernel_rfl)).trans h1_1
 have h2_2 := (T.rest 2 (by kernel_rfl)).trans h2_1
 have h4_2 := (T.rest 4 (by kernel_rfl)).trans h4_1
 have kg2_1_2 := (T.below.block _ lg2_1_1).trans kg2_1_1
 have lg2_1_2 := Nat.lt_of_lt_of_le lg2_1_1 T.below.size
 have kg4_1_2 := (T.below.block _ lg4_1_1).trans kg4_1_1
 have lg4_1_2 := Nat.lt_of_lt_of_le lg4_1_1 T.below.size
 have Fst_2 := Eng.Reads.below Fst_1 T.below
 obtain ⟨g5_2, h5_2, rg5_2, lg5_2_2, kg5_2_2⟩ := T.st 2 5 3 _ _ _ rfl rfl rfl rfl rfl
 have og5_2 : w.heap.size ≤ g5_2 := Nat.le_trans bl1.size rg5_2
 have ne_g5_2_g2_1 : g2_1 ≠ g5_2 := fun e => Nat.lt_irrefl _ (Nat.lt_of_lt_of_le (e ▸ lg2_1_1) rg5_2)
 have ne_g5_2_g4_1 : g4_1 ≠ g5_2 := fun e => Nat.lt_irrefl _ (Nat.lt_of_lt_of_le (e ▸ lg4_1_1) rg5_2)
 have d2 := T.defers.trans d1
 have s2 := T.size.trans s1
 have bl2 := bl1.trans (T.below.mono bl1.size)
 clear T
 refine Eng.tail_nil ?_
 refine wp_seq ?_
 refine wp_seq ?_
 refine Eng.regionS (Eng.still [fun u_ => u_ = sv, fun u_ => u_ = .int .i64 ((l.length : Nat) : Int), fun u_ => u_ = .int .i64 0]) (fun _ => .plain) 3 0 22 s2 rfl (by kernel_rfl) (Eng.still_stable _) (Or.inr (Eng.still_any _)) ?_ ?_
 ·refine Eng.Steps.cons (fun _ => ?_) (Eng.Steps.cons (fun _ => ?_) (Eng.Steps.cons (fun _ => ?_) (Eng.Steps.nil)))
  ·refine Eng.plain rfl rfl fun a w' H => ?_
   exact Eng.val (w1 := w') (v := sv) (Eng.run_move rfl ((H.kept 1 (by kernel_rfl)).trans h1_2)) (Below.refl _ _) rfl
  ·refine Eng.plain rfl rfl fun a w' H => ?_
   refine Eng.val (w1 := w') (v := .int .i64 ((l.length : Nat) : Int)) ?_ (Below.refl _ _) rfl
   exact Eng.run_len_sl rfl Tryd.underlying43 (show a.eval (.tmp 10) = sv from (H.dep 0 10 (by kernel_rfl) rfl)) (Eng.Reads.below Fst_2 H.below)
  ·refine Eng.plain rfl rfl fun a w' H => ?_
   exact Eng.val (w1 := w') (v := .int .i64 0) (Eng.run_move rfl (rfl : a.eval (.const (.int .i64 0)) = .int .i64 0)) (Below.refl _ _) rfl
 intro act3 w3 T
 have h0_3 := (T.rest 0 (by kernel_rfl)).trans h0_2
 have h1_3 := (T.rest 1 (by kernel_rfl)).trans h1_2
 have h2_3 := (T.rest 2 (by kernel_rfl)).trans h2_2
 have h4_3 := (T.rest 4 (by kernel_rfl)).trans h4_2
 have h5_3 := (T.rest 5 (by kernel_rfl)).trans h5_2
 have kg2_1_3 := (T.below.block _ lg2_1_2).trans kg2_1_2
 have lg2_1_3 := Nat.lt_of_lt_of_le lg2_1_2 T.below.size
 have kg4_1_3 := (T.below.block _ lg4_1_2).trans kg4_1_2
 have lg4_1_3 := Nat.lt_of_lt_of_le lg4_1_2 T.below.size
 have kg5_2_3 := (T.below.block _ lg5_2_2).trans kg5_2_2
 have lg5_2_3 := Nat.lt_of_lt_of_le lg5_2_2 T.below.size
 have h10_3 : act3.eval (.tmp 10) = sv := T.done 0 10 rfl rfl
 have h11_3 : act3.eval (.tmp 11) = .int .i64 ((l.length : Nat) : Int) := T.done 1 11 rfl rfl
 have h12_3 : act3.eval (.tmp 12) = .int .i64 0 := T.done 2 12 rfl rfl
 have d3 := T.defers.trans d2
 have s3 := T.size.trans s2
 have bl3 := bl2.trans (T.below.mono bl2.size)
 clear T
 refine Eng.tail_nil ?_
 refine wp_block ?_
 refine Eng.loopN (fun n a w' => ∃ (k : Nat), l.length - k = n ∧ (k ≤ l.length) ∧ a.defers = [] ∧ a.tmps.size = 22 ∧ Below w.heap.size w w' ∧ a.eval (.tmp 0) = .agg #[pv, bv, .int .i64 many] ∧ a.eval (.tmp 1) = sv ∧ a.eval (.tmp 2) = .pointer (some ⟨g2_1, 0, none⟩) ∧ a.eval (.tmp 4) = .pointer (some ⟨g4_1, 0, none⟩) ∧ a.eval (.tmp 5) = .pointer (some ⟨g5_2, 0, none⟩) ∧ a.eval (.tmp 10) = sv ∧ a.eval (.tmp 11) = .int .i64 ((l.length : Nat) : Int) ∧ a.eval (.tmp 12) = .int .i64 (k : Nat) ∧ w'.heap[g2_1]? = some (.cells (#[pv, bv, .int .i64 many]) 65 (0, 0)) ∧ g2_1 < w'.heap.size ∧ w'.heap[g4_1]? = some (.cells ((List.map (Value.int .u64) (List.replicate 8 0)).toArray) 74 (0, 0)) ∧ g4_1 < w'.heap.size ∧ w'.heap[g5_2]? = some (.cells ((List.map (Value.int .u64) (Nfa.run ps bs (List.take k l))).toArray) 74 (0, 0)) ∧ g5_2 < w'.heap.size) (n0 := l.length - 0) ?_ ?_
 ·exact ⟨0, rfl, by omega, d3, s3, bl3, h0_3, h1_3, h2_3, h4_3, h5_3, h10_3, h11_3, (h12_3.trans (by first | rfl | (congr 1; rw [Eng.i64_id (by omega) (by omega)]; omega) | (simp; done))), kg2_1_3, lg2_1_3, kg4_1_3, lg4_1_3, (kg5_2_3.trans (by first | rfl | (rw [Nfa.run_take _ _ hk0]; done))), lg5_2_3⟩
 rintro n act4 w4 ⟨k, rfl, hc0_4, d4, s4, bl4, h0_4, h1_4, h2_4, h4_4, h5_4, h10_4, h11_4, h12_4, kg2_1_4, lg2_1_4, kg4_1_4, lg4_1_4, kg5_2_4, lg5_2_4⟩
 have Fpp_4 := Eng.Reads.below hp bl4
 have Fbb_4 := Eng.Reads.below hb bl4
 have Fst_4 := Eng.Reads.below hst bl4
 have hk1 := hc0_4
 refine wp_seq ?_
 obtain ⟨q13, Bq13⟩ : ∃ b : Bool, b = (decide ((k : Nat) < ((l.length : Nat) : Int))) := ⟨_, rfl⟩
 refine Eng.regionS (Eng.still [fun u_ => u_ = .bool q13]) (fun _ => .plain) 1 0 22 s4 rfl (by kernel_rfl) (Eng.still_stable _) (Or.inr (Eng.still_any _)) ?_ ?_
 ·refine Eng.Steps.cons (fun _ => ?_) (Eng.Steps.nil)
  ·refine Eng.plain rfl rfl fun a w' H => ?_
   refine Eng.val (w1 := w') (v := .bool (decide ((k : Nat) < ((l.length : Nat) : Int)))) ?_ (Below.refl _ _) (by show _ = Value.bool q13; rw [Bq13])
   have e0 := ((H.kept 12 (by kernel_rfl)).trans h12_4)
   have e1 := ((H.kept 11 (by kernel_rfl)).trans h11_4)
   simp only [execOp, resolve, e0, e1]
   go_simp
 intro act5 w5 T
 have h0_5 := (T.rest 0 (by kernel_rfl)).trans h0_4
 have h1_5 := (T.rest 1 (by kernel_rfl)).trans h1_4
 have h2_5 := (T.rest 2 (by kernel_rfl)).trans h2_4
 have h4_5 := (T.rest 4 (by kernel_rfl)).trans h4_4
 have h5_5 := (T.rest 5 (by kernel_rfl)).trans h5_4
 have h10_5 := (T.rest 10 (by kernel_rfl)).trans h10_4
 have h11_5 := (T.rest 11 (by kernel_rfl)).trans h11_4
 have h12_5 := (T.rest 12 (by kernel_rfl)).trans h12_4
 have kg2_1_5 := (T.below.block _ lg2_1_4).trans kg2_1_4
 have lg2_1_5 := Nat.lt_of_lt_of_le lg2_1_4 T.below.size
 have kg4_1_5 := (T.below.block _ lg4_1_4).trans kg4_1_4
 have lg4_1_5 := Nat.lt_of_lt_of_le lg4_1_4 T.below.size
 have kg5_2_5 := (T.below.block _ lg5_2_4).trans kg5_2_4
 have lg5_2_5 := Nat.lt_of_lt_of_le lg5_2_4 T.below.size
 have Fpp_5 := Eng.Reads.below Fpp_4 T.below
 have Fbb_5 := Eng.Reads.below Fbb_4 T.below
 have Fst_5 := Eng.Reads.below Fst_4 T.below
 have h13_5 : act5.eval (.tmp 13) = .bool q13 := T.done 0 13 rfl rfl
 have d5 := T.defers.trans d4
 have s5 := T.size.trans s4
 have bl5 := bl4.trans (T.below.mono bl4.size)
 clear T
 refine Eng.tail_nil ?_
 refine wp_seq ?_
 refine wp_cond_split h13_5 (fun hq => ?_) (fun hq => ?_)
 ·
  have c13 := Bq13.symm.trans hq
  clear hq
  have c13 := of_decide_eq_true c13
  have hk0 : k < l.length := by omega
  refine wp_skip ?_
  refine wp_seq ?_
  refine wp_block ?_
  refine wp_seq ?_
  refine Eng.regionS (Eng.still [fun u_ => u_ = Eng.elemPtr sv (k * 1), fun u_ => u_ = .string (l.getD k default), fun u_ => u_ = .string (l.getD k default)]) (fun _ => .plain) 3 0 22 s5 rfl (by kernel_rfl) (Eng.still_stable _) (Or.inr (Eng.still_any _)) ?_ ?_
  ·refine Eng.Steps.cons (fun _ => ?_) (Eng.Steps.cons (fun _ => ?_) (Eng.Steps.cons (fun _ => ?_) (Eng.Steps.nil)))
   ·refine Eng.plain rfl rfl fun a w' H => ?_
    refine Eng.val (w1 := w') (v := Eng.elemPtr sv (k * 1)) ?_ (Below.refl _ _) rfl
    exact Eng.run_index_sl rfl Tryd.underlying43 (by kernel_rfl) (show a.eval (.tmp 10) = sv from ((H.kept 10 (by kernel_rfl)).trans h10_5)) ((show a.eval (.tmp 12) = .int .i64 (k : Nat) from ((H.kept 12 (by kernel_rfl)).trans h12_5)).trans (congrArg (Value.int _) (show (k : Nat) = ((k : Nat) : Int) from by omega))) (Eng.Reads.below Fst_5 H.below) (by omega) rfl
   ·refine Eng.plain rfl rfl fun a w' H => ?_
    refine Eng.val (w1 := w') (v := .string (l.getD k default)) ?_ (Below.refl _ _) rfl
    exact Eng.run_load_el (.string (l.getD k default)) rfl (show a.eval (.tmp 14) = Eng.elemPtr sv (k * 1) from (H.dep 0 14 (by kernel_rfl) rfl)) (Eng.Reads.below Fst_5 H.below) (Nfa.strs_at l k (by omega)) (by kernel_rfl)
   ·refine Eng.plain rfl rfl fun a w' H => ?_
    exact Eng.val (w1 := w') (v := .string (l.getD k default)) (Eng.run_assign rfl (H.dep 1 15 (by kernel_rfl) rfl)) (Below.refl _ _) rfl
  intro act7 w7 T
  have h0_7 := (T.rest 0 (by kernel_rfl)).trans h0_5
  have h1_7 := (T.rest 1 (by kernel_rfl)).trans h1_5
  have h2_7 := (T.rest 2 (by kernel_rfl)).trans h2_5
  have h4_7 := (T.rest 4 (by kernel_rfl)).trans h4_5
  have h5_7 := (T.rest 5 (by kernel_rfl)).trans h5_5
  have h10_7 := (T.rest 10 (by kernel_rfl)).trans h10_5
  have h11_7 := (T.rest 11 (by kernel_rfl)).trans h11_5
  have h12_7 := (T.rest 12 (by kernel_rfl)).trans h12_5
  have kg2_1_7 := (T.below.block _ lg2_1_5).trans kg2_1_5
  have lg2_1_7 := Nat.lt_of_lt_of_le lg2_1_5 T.below.size
  have kg4_1_7 := (T.below.block _ lg4_1_5).trans kg4_1_5
  have lg4_1_7 := Nat.lt_of_lt_of_le lg4_1_5 T.below.size
  have kg5_2_7 := (T.below.block _ lg5_2_5).trans kg5_2_5
  have lg5_2_7 := Nat.lt_of_lt_of_le lg5_2_5 T.below.size
  have Fpp_7 := Eng.Reads.below Fpp_5 T.below
  have Fbb_7 := Eng.Reads.below Fbb_5 T.below
  have h7_7 : act7.eval (.tmp 7) = .string (l.getD k default) := T.done 2 7 rfl rfl
  have d7 := T.defers.trans d5
  have s7 := T.size.trans s5
  have bl7 := bl5.trans (T.below.mono bl5.size)
  clear T
  refine Eng.tail_nil ?_
  refine Eng.regionS (Eng.still [fun u_ => u_ = .agg #[pv, bv, .int .i64 many], fun u_ => u_ = .agg ((List.map (Value.int .u64) (Nfa.run ps bs (List.take k l))).toArray), fun u_ => u_ = .string (l.getD k default), fun u_ => u_ = .agg ((List.map (Value.int .u64) (Nfa.step ps bs (Nfa.run ps bs (List.take k l)) (l.getD k default))).toArray)]) (fun _ => .plain) 4 1 22 s7 rfl (by kernel_rfl) (Eng.still_stable _) (Or.inr (Eng.still_any _)) ?_ ?_
  ·refine Eng.Steps.cons (fun _ => ?_) (Eng.Steps.cons (fun _ => ?_) (Eng.Steps.cons (fun _ => ?_) (Eng.Steps.cons (fun _ => ?_) (Eng.Steps.cons (fun hlt => ?_) (Eng.Steps.nil)))))
   ·refine Eng.plain rfl rfl fun a w' H => ?_
    have kb := (H.below.block _ lg2_1_7).trans kg2_1_7
    have z0 : w'.cell? ⟨g2_1, 0, none⟩ = some (pv) := (Eng.cells kb 0).trans rfl
    have z1 : w'.cell? ⟨g2_1, 1, none⟩ = some (bv) := (Eng.cells kb 1).trans rfl
    have z2 : w'.cell? ⟨g2_1, 2, none⟩ = some (.int .i64 many) := (Eng.cells kb 2).trans rfl
    refine Eng.val (w1 := w') (v := .agg #[pv, bv, .int .i64 many]) ?_ (Below.refl _ _) rfl
    have e0 := ((H.kept 2 (by kernel_rfl)).trans h2_7)
    simp only [execOp, resolve, e0]
    go_simp
   ·refine Eng.plain rfl rfl fun a w' H => ?_
    have kb := (H.below.block _ lg5_2_7).trans kg5_2_7
    refine Eng.val (w1 := w') (v := .agg ((List.map (Value.int .u64) (Nfa.run ps bs (List.take k l))).toArray)) ?_ (Below.refl _ _) rfl
    exact Eng.run_load_all rfl ((H.kept 5 (by kernel_rfl)).trans h5_7) kb Tryd.underlying74 rfl (by rw [Nfa.cells_size (Nfa.run_len _ _ _)]; kernel_rfl)
   ·refine Eng.plain rfl rfl fun a w' H => ?_
    exact Eng.val (w1 := w') (v := .string (l.getD k default)) (Eng.run_move rfl ((H.kept 7 (by kernel_rfl)).trans h7_7)) (Below.refl _ _) rfl
   ·refine Eng.plain rfl rfl fun a w' H => ?_
    refine Eng.call Tryd.func48 (by kernel_rfl) (by kernel_rfl) rfl #[.agg #[pv, bv, .int .i64 many], .agg ((List.map (Value.int .u64) (Nfa.run ps bs (List.take k l))).toArray), .string (l.getD k default)] ?_ ?_
    ·have e0 : a.eval (.tmp 16) = .agg #[pv, bv, .int .i64 many] := (H.dep 0 16 (by kernel_rfl) rfl); have e1 : a.eval (.tmp 17) = .agg ((List.map (Value.int .u64) (Nfa.run ps bs (List.take k l))).toArray) := (H.dep 1 17 (by kernel_rfl) rfl); have e2 : a.eval (.tmp 18) = .string (l.getD k default) := (H.dep 2 18 (by kernel_rfl) rfl); simp only [List.map_toArray, List.map_cons, List.map_nil, e0, e1, e2]
    refine (Nfa.step_calls pv bv many ps bs vs (Nfa.run ps bs (List.take k l)) (l.getD k default) _ (Nfa.run_len _ _ _) hvl (Eng.Reads.below Fpp_7 H.below) (fun k hk => Eng.Reads.below (Eng.Reads.below (hin k hk) bl7) H.below) (Eng.Reads.below Fbb_7 H.below)).mono ?_
    rintro e w'' ⟨rfl, hb⟩
    exact ⟨_, rfl, rfl, hb⟩
   ·exact absurd hlt (by decide)
  intro act8 w8 T
  have h0_8 := (T.rest 0 (by kernel_rfl)).trans h0_7
  have h1_8 := (T.rest 1 (by kernel_rfl)).trans h1_7
  have h2_8 := (T.rest 2 (by kernel_rfl)).trans h2_7
  have h4_8 := (T.rest 4 (by kernel_rfl)).trans h4_7
  have h5_8 := (T.rest 5 (by kernel_rfl)).trans h5_7
  have h10_8 := (T.rest 10 (by kernel_rfl)).trans h10_7
  have h11_8 := (T.rest 11 (by kernel_rfl)).trans h11_7
  have h12_8 := (T.rest 12 (by kernel_rfl)).trans h12_7
  have kg2_1_8 := (T.below.block _ lg2_1_7).trans kg2_1_7
  have lg2_1_8 := Nat.lt_of_lt_of_le lg2_1_7 T.below.size
  have kg4_1_8 := (T.below.block _ lg4_1_7).trans kg4_1_7
  have lg4_1_8 := Nat.lt_of_lt_of_le lg4_1_7 T.below.size
  have kg5_2_8 := (T.below.block _ lg5_2_7).trans kg5_2_7
  have lg5_2_8 := Nat.lt_of_lt_of_le lg5_2_7 T.below.size
  have h19_8 : act8.eval (.tmp 19) = .agg ((List.map (Value.int .u64) (Nfa.step ps bs (Nfa.run ps bs (List.take k l)) (l.getD k default))).toArray) := T.done 3 19 rfl rfl
  have d8 := T.defers.trans d7
  have s8 := T.size.trans s7
  have bl8 := bl7.trans (T.below.mono bl7.size)
  clear T
  refine Eng.tail_arr rfl rfl rfl rfl h5_8 h19_8 kg5_2_8 (by rw [Nfa.cells_size (Nfa.step_len _ _ _ _)]; kernel_rfl) ((Nfa.cells_size (Nfa.run_len _ _ _)).trans (Nfa.cells_size (Nfa.step_len _ _ _ _)).symm) (by simp [Value.oneCell']) fun w9 S => ?_
  have kg2_1_9 := (S.far _ ne_g5_2_g2_1).trans kg2_1_8
  have lg2_1_9 := Nat.lt_of_lt_of_eq lg2_1_8 S.size.symm
  have kg4_1_9 := (S.far _ ne_g5_2_g4_1).trans kg4_1_8
  have lg4_1_9 := Nat.lt_of_lt_of_eq lg4_1_8 S.size.symm
  have kg5_2_9 := S.new
  have lg5_2_9 := Nat.lt_of_lt_of_eq lg5_2_8 S.size.symm
  have bl9 := S.below bl8 og5_2
  clear S
  refine Eng.tail_nil ?_
  refine Eng.regionS (Eng.still [fun u_ => u_ = .int .i64 (IntKind.i64.wrap ((k : Nat) + 1)), fun u_ => u_ = .int .i64 (IntKind.i64.wrap ((k : Nat) + 1))]) (fun _ => .plain) 2 0 22 s8 rfl (by kernel_rfl) (Eng.still_stable _) (Or.inr (Eng.still_any _)) ?_ ?_
  ·refine Eng.Steps.cons (fun _ => ?_) (Eng.Steps.cons (fun _ => ?_) (Eng.Steps.nil))
   ·refine Eng.plain rfl rfl fun a w' H => ?_
    refine Eng.val (w1 := w') (v := .int .i64 (IntKind.i64.wrap ((k : Nat) + 1))) ?_ (Below.refl _ _) rfl
    have e0 := ((H.kept 12 (by kernel_rfl)).trans h12_8)
    have e1 : a.eval (.const (.int .i64 1)) = .int .i64 1 := (rfl : a.eval (.const (.int .i64 1)) = .int .i64 1)
    simp only [execOp, resolve, e0, e1]
    go_simp
   ·refine Eng.plain rfl rfl fun a w' H => ?_
    exact Eng.val (w1 := w') (v := .int .i64 (IntKind.i64.wrap ((k : Nat) + 1))) (Eng.run_move rfl (H.dep 0 20 (by kernel_rfl) rfl)) (Below.refl _ _) rfl
  intro act10 w10 T
  have h0_10 := (T.rest 0 (by kernel_rfl)).trans h0_8
  have h1_10 := (T.rest 1 (by kernel_rfl)).trans h1_8
  have h2_10 := (T.rest 2 (by kernel_rfl)).trans h2_8
  have h4_10 := (T.rest 4 (by kernel_rfl)).trans h4_8
  have h5_10 := (T.rest 5 (by kernel_rfl)).trans h5_8
  have h10_10 := (T.rest 10 (by kernel_rfl)).trans h10_8
  have h11_10 := (T.rest 11 (by kernel_rfl)).trans h11_8
  have kg2_1_10 := (T.below.block _ lg2_1_9).trans kg2_1_9
  have lg2_1_10 := Nat.lt_of_lt_of_le lg2_1_9 T.below.size
  have kg4_1_10 := (T.below.block _ lg4_1_9).trans kg4_1_9
  have lg4_1_10 := Nat.lt_of_lt_of_le lg4_1_9 T.below.size
  have kg5_2_10 := (T.below.block _ lg5_2_9).trans kg5_2_9
  have lg5_2_10 := Nat.lt_of_lt_of_le lg5_2_9 T.below.size
  have h12_10 : act10.eval (.tmp 12) = .int .i64 (IntKind.i64.wrap ((k : Nat) + 1)) := T.done 1 12 rfl rfl
  have d10 := T.defers.trans d8
  have s10 := T.size.trans s8
  have bl10 := bl9.trans (T.below.mono bl9.size)
  clear T
  refine Eng.tail_nil ?_
  exact ⟨_, by omega, k + 1, rfl, by omega, d10, s10, bl10, h0_10, h1_10, h2_10, h4_10, h5_10, h10_10, h11_10, (h12_10.trans (by first | rfl | (congr 1; rw [Eng.i64_id (by omega) (by omega)]; omega) | (simp; done))), kg2_1_10, lg2_1_10, kg4_1_10, lg4_1_10, (kg5_2_10.trans (by first | rfl | (rw [Nfa.run_take _ _ hk0]; done))), lg5_2_10⟩
 ·
  have c13 := Bq13.symm.trans hq
  clear hq
  have c13 := of_decide_eq_false c13
  refine wp_exit ?_
  refine wp_seq ?_
  refine Eng.regionS (Eng.still [fun u_ => u_ = .agg ((List.map (Value.int .u64) (Nfa.run ps bs (List.take k l))).toArray)]) (fun _ => .plain) 1 1 22 s5 rfl (by kernel_rfl) (Eng.still_stable _) (Or.inr (Eng.still_any _)) ?_ ?_
  ·refine Eng.Steps.cons (fun _ => ?_) (Eng.Steps.cons (fun hlt => ?_) (Eng.Steps.nil))
   ·refine Eng.plain rfl rfl fun a w' H => ?_
    have kb := (H.below.block _ lg5_2_5).trans kg5_2_5
    refine Eng.val (w1 := w') (v := .agg ((List.map (Value.int .u64) (Nfa.run ps bs (List.take k l))).toArray)) ?_ (Below.refl _ _) rfl
    exact Eng.run_load_all rfl ((H.kept 5 (by kernel_rfl)).trans h5_5) kb Tryd.underlying74 rfl (by rw [Nfa.cells_size (Nfa.run_len _ _ _)]; kernel_rfl)
   ·exact absurd hlt (by decide)
  intro act12 w12 T
  have h4_12 := (T.rest 4 (by kernel_rfl)).trans h4_5
  have kg4_1_12 := (T.below.block _ lg4_1_5).trans kg4_1_5
  have h21_12 : act12.eval (.tmp 21) = .agg ((List.map (Value.int .u64) (Nfa.run ps bs (List.take k l))).toArray) := T.done 0 21 rfl rfl
  have d12 := T.defers.trans d5
  have bl12 := bl5.trans (T.below.mono bl5.size)
  clear T
  refine Eng.tail_arr rfl rfl rfl rfl h4_12 h21_12 kg4_1_12 (by rw [Nfa.cells_size (Nfa.run_len _ _ _)]; kernel_rfl) ((Nfa.cells_size (by simp)).trans (Nfa.cells_size (Nfa.run_len _ _ _)).symm) (by simp [Value.oneCell']) fun w13 S => ?_
  have kg4_1_13 := S.new
  have bl13 := S.below bl12 og4_1
  clear S
  refine Eng.tail_nil ?_
  refine wp_ret ?_
  repeat (first | refine Eng.in_ret ?_ | refine Eng.then_ret ?_)
  obtain rfl : k = l.length := by omega
  exact Eng.retc rfl d12 h4_12 (kg4_1_13.trans (by rw [List.take_length])) Tryd.underlying74 rfl (by rw [Nfa.cells_size (Nfa.run_len _ _ _)]; kernel_rfl) ⟨rfl, bl13⟩
end Go.Proofs.YthgafcaoibfchaaDoor.X
end
section
namespace Go.Proofs.YthgafcaoibfchaaDoor.X
open Go.RowKit Go.Shelf Go.Proofs Go.Proofs.YthgafcaoibfchaaDoorW.PrintWords Go.Proofs.YthgafcaoibfchaaDoorW.PrintLast Go.Proofs.YthgafcaoibfchaaDoorW.PrintMore
set_option linter.unusedVariables false
set_option linter.unusedSimpArgs false
set_option maxHeartbeats 4000000 in
set_option maxRecDepth 100000 in
theorem Nfa.accept_calls (pv bv : Value) (many : Int) (ps : List (List Pth.Part)) (bs : List Int) (vs : List Value) (s : List Int) (w : World) (hs : s.length = 8) (hps : ps.length ≤ 1000000) (hvl : vs.length = ps.length) (hp : Eng.Reads w pv ps.length 1 vs) (hin : ∀ k, k < ps.length → Eng.Reads w (vs.getD k undef) (ps.getD k []).length 2 (Pth.cellsP (ps.getD k []))) (hb : Eng.Reads w bv bs.length 1 (Nfa.ints bs)) : Calls Tryd.prog 44 #[.agg #[pv, bv, .int .i64 many], .agg ((List.map (Value.int .u64) s).toArray)] w fun e w' => ∃ v, e = .returned v ∧ w'.ownsRow w.heap.size 3 1 v (Nfa.accept ps bs s).length (Nfa.ints (Nfa.accept ps bs s)) ∧ Below w.heap.size w w' := by
 have hm := Eng.Reads.len_le hp
 refine Eng.enter Tryd.func44 rfl fun act0 d0 s0 v0 => ?_
 have s0 : act0.tmps.size = 29 := s0
 have h0_0 : act0.eval (.tmp 0) = .agg #[pv, bv, .int .i64 many] := v0 0 (by simp)
 have h1_0 : act0.eval (.tmp 1) = .agg ((List.map (Value.int .u64) s).toArray) := v0 1 (by simp)
 clear v0
 have bl0 : Below w.heap.size w w := Below.refl _ _
 refine wp_seq ?_
 refine Eng.regionS (Eng.still [fun u_ => True, fun u_ => True, fun u_ => u_ = .slice none 0 0]) (fun i => ([.alloc 65 #[pv, bv, .int .i64 many], .alloc 74 ((List.map (Value.int .u64) s).toArray), .plain] : List Eng.Kind).getD i .plain) 3 0 29 s0 rfl (by kernel_rfl) (Eng.still_stable _) (Or.inr (Eng.still_any _)) ?_ ?_
 ·refine Eng.Steps.cons (fun _ => ?_) (Eng.Steps.cons (fun _ => ?_) (Eng.Steps.cons (fun _ => ?_) (Eng.Steps.nil)))
  ·refine Eng.made rfl (by simp) rfl (fun a w' hd ho => ?_) (fun _ _ => trivial)
   exact Eng.run_box rfl ((ho 0 (by kernel_rfl)).trans h0_0)
  ·refine Eng.made rfl (by simp) rfl (fun a w' hd ho => ?_) (fun _ _ => trivial)
   exact Eng.run_box rfl ((ho 1 (by kernel_rfl)).trans h1_0)
  ·refine Eng.plain rfl rfl fun a w' H => ?_
   exact Eng.val (w1 := w') (v := .slice none 0 0) (Eng.run_assign rfl (rfl : a.eval (.const (.slice none 0 0)) = .slice none 0 0)) (Below.refl _ _) rfl
 intro act1 w1 T
 have h0_1 := (T.rest 0 (by kernel_rfl)).trans h0_0
 have h1_1 := (T.rest 1 (by kernel_rfl)).trans h1_0
 have Fpp_1 := Eng.Reads.below hp T.below
 obtain ⟨g2_1, h2_1, rg2_1, lg2_1_1, kg2_1_1⟩ := T.al 0 2 _ _ rfl rfl rfl (by kernel_rfl)
 obtain ⟨g3_1, h3_1, rg3_1, lg3_1_1, kg3_1_1⟩ := T.al 1 3 _ _ rfl rfl rfl (by kernel_rfl)
 have h4_1 : act1.eval (.tmp 4) = .slice none 0 0 := T.done 2 4 rfl rfl
 have d1 := T.defers.trans d0
 have s1 := T.size.trans s0
 have bl1 := bl0.trans (T.below.mono bl0.size)
 clear T
 refine Eng.tail_nil ?_
 refine wp_seq ?_
 refine wp_seq ?_
 refine Eng.regionS (Eng.still [fun u_ => u_ = .pointer (some ⟨g2_1, 0, none⟩), fun u_ => u_ = pv, fun u_ => u_ = .int .i64 ((ps.length : Nat) : Int), fun u_ => u_ = .int .i64 0]) (fun _ => .plain) 4 0 29 s1 rfl (by kernel_rfl) (Eng.still_stable _) (Or.inr (Eng.still_any _)) ?_ ?_
 ·refine Eng.Steps.cons (fun _ => ?_) (Eng.Steps.cons (fun _ => ?_) (Eng.Steps.cons (fun _ => ?_) (Eng.Steps.cons (fun _ => ?_) (Eng.Steps.nil))))
  ·refine Eng.plain rfl rfl fun a w' H => ?_
   refine Eng.val (w1 := w') (v := .pointer (some ⟨g2_1, 0, none⟩)) ?_ (Below.refl _ _) rfl
   have e0 := ((H.kept 2 (by kernel_rfl)).trans h2_1)
   simp only [execOp, resolve, e0]
   go_simp
  ·refine Eng.plain rfl rfl fun a w' H => ?_
   have kb := (H.below.block _ lg2_1_1).trans kg2_1_1
   have z0 : w'.cell? ⟨g2_1, 0, none⟩ = some (pv) := (Eng.cells kb 0).trans rfl
   refine Eng.val (w1 := w') (v := pv) ?_ (Below.refl _ _) rfl
   have e0 : a.eval (.tmp 7) = .pointer (some ⟨g2_1, 0, none⟩) := (H.dep 0 7 (by kernel_rfl) rfl)
   simp only [execOp, resolve, e0]
   go_simp
  ·refine Eng.plain rfl rfl fun a w' H => ?_
   refine Eng.val (w1 := w') (v := .int .i64 ((ps.length : Nat) : Int)) ?_ (Below.refl _ _) rfl
   exact Eng.run_len_sl rfl Tryd.underlying62 (show a.eval (.tmp 8) = pv from (H.dep 1 8 (by kernel_rfl) rfl)) (Eng.Reads.below Fpp_1 H.below)
  ·refine Eng.plain rfl rfl fun a w' H => ?_
   exact Eng.val (w1 := w') (v := .int .i64 0) (Eng.run_move rfl (rfl : a.eval (.const (.int .i64 0)) = .int .i64 0)) (Below.refl _ _) rfl
 intro act2 w2 T
 have h0_2 := (T.rest 0 (by kernel_rfl)).trans h0_1
 have h1_2 := (T.rest 1 (by kernel_rfl)).trans h1_1
 have h2_2 := (T.rest 2 (by kernel_rfl)).trans h2_1
 have h3_2 := (T.rest 3 (by kernel_rfl)).trans h3_1
 have h4_2 := (T.rest 4 (by kernel_rfl)).trans h4_1
 have kg2_1_2 := (T.below.block _ lg2_1_1).trans kg2_1_1
 have lg2_1_2 := Nat.lt_of_lt_of_le lg2_1_1 T.below.size
 have kg3_1_2 := (T.below.block _ lg3_1_1).trans kg3_1_1
 have lg3_1_2 := Nat.lt_of_lt_of_le lg3_1_1 T.below.size
 have h8_2 : act2.eval (.tmp 8) = pv := T.done 1 8 rfl rfl
 have h9_2 : act2.eval (.tmp 9) = .int .i64 ((ps.length : Nat) : Int) := T.done 2 9 rfl rfl
 have h10_2 : act2.eval (.tmp 10) = .int .i64 0 := T.done 3 10 rfl rfl
 have d2 := T.defers.trans d1
 have s2 := T.size.trans s1
 have bl2 := bl1.trans (T.below.mono bl1.size)
 clear T
 refine Eng.tail_nil ?_
 refine wp_block ?_
 refine Eng.loopN (fun n a w' => ∃ (k : Nat) (v4 : Value), ps.length - k = n ∧ (k ≤ ps.length) ∧ (w'.ownsRow w.heap.size 3 1 v4 (Nfa.acceptTo ps bs s k).length (Nfa.ints (Nfa.acceptTo ps bs s k))) ∧ a.defers = [] ∧ a.tmps.size = 29 ∧ Below w.heap.size w w' ∧ a.eval (.tmp 0) = .agg #[pv, bv, .int .i64 many] ∧ a.eval (.tmp 1) = .agg ((List.map (Value.int .u64) s).toArray) ∧ a.eval (.tmp 2) = .pointer (some ⟨g2_1, 0, none⟩) ∧ a.eval (.tmp 3) = .pointer (some ⟨g3_1, 0, none⟩) ∧ a.eval (.tmp 4) = v4 ∧ a.eval (.tmp 8) = pv ∧ a.eval (.tmp 9) = .int .i64 ((ps.length : Nat) : Int) ∧ a.eval (.tmp 10) = .int .i64 (k : Nat) ∧ w'.heap[g2_1]? = some (.cells (#[pv, bv, .int .i64 many]) 65 (0, 0)) ∧ g2_1 < w'.heap.size ∧ w'.heap[g3_1]? = some (.cells ((List.map (Value.int .u64) s).toArray) 74 (0, 0)) ∧ g3_1 < w'.heap.size) (n0 := ps.length - 0) ?_ ?_
 ·exact ⟨0, .slice none 0 0, rfl, by omega, World.ownsRow_nil _ _ _ _, d2, s2, bl2, h0_2, h1_2, h2_2, h3_2, (h4_2.trans (by first | rfl | (congr 1; rw [Eng.i64_id (by omega) (by omega)]; omega) | (simp; done))), h8_2, h9_2, (h10_2.trans (by first | rfl | (congr 1; rw [Eng.i64_id (by omega) (by omega)]; omega) | (simp; done))), kg2_1_2, lg2_1_2, kg3_1_2, lg3_1_2⟩
 rintro n act3 w3 ⟨k, v4, rfl, hc0_3, hc1_3, d3, s3, bl3, h0_3, h1_3, h2_3, h3_3, h4_3, h8_3, h9_3, h10_3, kg2_1_3, lg2_1_3, kg3_1_3, lg3_1_3⟩
 have Fpp_3 := Eng.Reads.below hp bl3
 have Fbb_3 := Eng.Reads.below hb bl3
 have hk1 := hc0_3
 refine wp_seq ?_
 obtain ⟨q11, Bq11⟩ : ∃ b : Bool, b = (decide ((k : Nat) < ((ps.length : Nat) : Int))) := ⟨_, rfl⟩
 refine Eng.regionS (Eng.still [fun u_ => u_ = .bool q11]) (fun _ => .plain) 1 0 29 s3 rfl (by kernel_rfl) (Eng.still_stable _) (Or.inr (Eng.still_any _)) ?_ ?_
 ·refine Eng.Steps.cons (fun _ => ?_) (Eng.Steps.nil)
  ·refine Eng.plain rfl rfl fun a w' H => ?_
   refine Eng.val (w1 := w') (v := .bool (decide ((k : Nat) < ((ps.length : Nat) : Int)))) ?_ (Below.refl _ _) (by show _ = Value.bool q11; rw [Bq11])
   have e0 := ((H.kept 10 (by kernel_rfl)).trans h10_3)
   have e1 := ((H.kept 9 (by kernel_rfl)).trans h9_3)
   simp only [execOp, resolve, e0, e1]
   go_simp
 intro act4 w4 T
 have h0_4 := (T.rest 0 (by kernel_rfl)).trans h0_3
 have h1_4 := (T.rest 1 (by kernel_rfl)).trans h1_3
 have h2_4 := (T.rest 2 (by kernel_rfl)).trans h2_3
 have h3_4 := (T.rest 3 (by kernel_rfl)).trans h3_3
 have h4_4 := (T.rest 4 (by kernel_rfl)).trans h4_3
 have h8_4 := (T.rest 8 (by kernel_rfl)).trans h8_3
 have h9_4 := (T.rest 9 (by kernel_rfl)).trans h9_3
 have h10_4 := (T.rest 10 (by kernel_rfl)).trans h10_3
 have kg2_1_4 := (T.below.block _ lg2_1_3).trans kg2_1_3
 have lg2_1_4 := Nat.lt_of_lt_of_le lg2_1_3 T.below.size
 have kg3_1_4 := (T.below.block _ lg3_1_3).trans kg3_1_3
 have lg3_1_4 := Nat.lt_of_lt_of_le lg3_1_3 T.below.size
 have Fpp_4 := Eng.Reads.below Fpp_3 T.below
 have Fbb_4 := Eng.Reads.below Fbb_3 T.below
 have Ot_4 := Eng.own_below hc1_3 T.below
 have h11_4 : act4.eval (.tmp 11) = .bool q11 := T.done 0 11 rfl rfl
 have d4 := T.defers.trans d3
 have s4 := T.size.trans s3
 have bl4 := bl3.trans (T.below.mono bl3.size)
 clear T
 refine Eng.tail_nil ?_
 refine wp_seq ?_
 refine wp_cond_split h11_4 (fun hq => ?_) (fun hq => ?_)
 ·
  have c11 := Bq11.symm.trans hq
  clear hq
  have c11 := of_decide_eq_true c11
  have hk0 : k < ps.length := by omega
  have Fin0 := hin k hk0
  have hmi := Eng.Reads.len_le Fin0
  have Finn6 := Eng.Reads.below Fin0 bl4
  refine wp_skip ?_
  refine wp_seq ?_
  refine wp_block ?_
  refine wp_seq ?_
  refine Eng.regionS (Eng.still [fun u_ => u_ = .int .i64 (k : Nat), fun u_ => u_ = Eng.elemPtr pv (k * 1), fun u_ => u_ = (vs.getD k undef), fun u_ => u_ = .int .i64 (k : Nat), fun u_ => u_ = (vs.getD k undef)]) (fun _ => .plain) 5 0 29 s4 rfl (by kernel_rfl) (Eng.still_stable _) (Or.inr (Eng.still_any _)) ?_ ?_
  ·refine Eng.Steps.cons (fun _ => ?_) (Eng.Steps.cons (fun _ => ?_) (Eng.Steps.cons (fun _ => ?_) (Eng.Steps.cons (fun _ => ?_) (Eng.Steps.cons (fun _ => ?_) (Eng.Steps.nil)))))
   ·refine Eng.plain rfl rfl fun a w' H => ?_
    exact Eng.val (w1 := w') (v := .int .i64 (k : Nat)) (Eng.run_move rfl ((H.kept 10 (by kernel_rfl)).trans h10_4)) (Below.refl _ _) rfl
   ·refine Eng.plain rfl rfl fun a w' H => ?_
    refine Eng.val (w1 := w') (v := Eng.elemPtr pv (k * 1)) ?_ (Below.refl _ _) rfl
    exact Eng.run_index_sl rfl Tryd.underlying62 (by kernel_rfl) (show a.eval (.tmp 8) = pv from ((H.kept 8 (by kernel_rfl)).trans h8_4)) ((show a.eval (.tmp 10) = .int .i64 (k : Nat) from ((H.kept 10 (by kernel_rfl)).trans h10_4)).trans (congrArg (Value.int _) (show (k : Nat) = ((k : Nat) : Int) from by omega))) (Eng.Reads.below Fpp_4 H.below) (by omega) rfl
   ·refine Eng.plain rfl rfl fun a w' H => ?_
    refine Eng.val (w1 := w') (v := (vs.getD k undef)) ?_ (Below.refl _ _) rfl
    exact Eng.run_load_el ((vs.getD k undef)) rfl (show a.eval (.tmp 13) = Eng.elemPtr pv (k * 1) from (H.dep 1 13 (by kernel_rfl) rfl)) (Eng.Reads.below Fpp_4 H.below) (Nfa.at_one vs hvl (by omega)) (by kernel_rfl)
   ·refine Eng.plain rfl rfl fun a w' H => ?_
    exact Eng.val (w1 := w') (v := .int .i64 (k : Nat)) (Eng.run_assign rfl (H.dep 0 12 (by kernel_rfl) rfl)) (Below.refl _ _) rfl
   ·refine Eng.plain rfl rfl fun a w' H => ?_
    exact Eng.val (w1 := w') (v := (vs.getD k undef)) (Eng.run_assign rfl (H.dep 2 14 (by kernel_rfl) rfl)) (Below.refl _ _) rfl
  intro act7 w7 T
  have h0_7 := (T.rest 0 (by kernel_rfl)).trans h0_4
  have h1_7 := (T.rest 1 (by kernel_rfl)).trans h1_4
  have h2_7 := (T.rest 2 (by kernel_rfl)).trans h2_4
  have h3_7 := (T.rest 3 (by kernel_rfl)).trans h3_4
  have h4_7 := (T.rest 4 (by kernel_rfl)).trans h4_4
  have h8_7 := (T.rest 8 (by kernel_rfl)).trans h8_4
  have h9_7 := (T.rest 9 (by kernel_rfl)).trans h9_4
  have h10_7 := (T.rest 10 (by kernel_rfl)).trans h10_4
  have kg2_1_7 := (T.below.block _ lg2_1_4).trans kg2_1_4
  have lg2_1_7 := Nat.lt_of_lt_of_le lg2_1_4 T.below.size
  have kg3_1_7 := (T.below.block _ lg3_1_4).trans kg3_1_4
  have lg3_1_7 := Nat.lt_of_lt_of_le lg3_1_4 T.below.size
  have Fbb_7 := Eng.Reads.below Fbb_4 T.below
  have Ot_7 := Eng.own_below Ot_4 T.below
  have Finn_7 := Eng.Reads.below Finn6 T.below
  have h5_7 : act7.eval (.tmp 5) = .int .i64 (k : Nat) := T.done 3 5 rfl rfl
  have h6_7 : act7.eval (.tmp 6) = (vs.getD k undef) := T.done 4 6 rfl rfl
  have d7 := T.defers.trans d4
  have s7 := T.size.trans s4
  have bl7 := bl4.trans (T.below.mono bl4.size)
  clear T
  refine Eng.tail_nil ?_
  refine wp_seq ?_
  obtain ⟨q22, Bq22⟩ : ∃ b : Bool, b = (Nfa.has s (IntKind.i64.wrap ((Nfa.beginF bs (k : Nat)) + (((ps.getD k []).length : Nat) : Int)))) := ⟨_, rfl⟩
  refine Eng.regionD (Eng.still [fun u_ => u_ = .agg ((List.map (Value.int .u64) s).toArray), fun u_ => u_ = .agg #[pv, bv, .int .i64 many], fun u_ => u_ = .int .i64 (k : Nat), fun u_ => u_ = .int .i64 (Nfa.beginF bs (k : Nat)), fun u_ => u_ = (vs.getD k undef), fun u_ => u_ = .int .i64 (((ps.getD k []).length : Nat) : Int), fun u_ => u_ = .int .i64 (IntKind.i64.wrap ((Nfa.beginF bs (k : Nat)) + (((ps.getD k []).length : Nat) : Int))), fun u_ => u_ = .bool q22]) (fun _ => .plain) 8 0 29 (by kernel_rfl) s7 rfl (by kernel_rfl) (Eng.still_stable _) (Or.inr (Eng.still_any _)) ?_ ?_
  ·refine Eng.Steps.cons (fun _ => ?_) (Eng.Steps.cons (fun _ => ?_) (Eng.Steps.cons (fun _ => ?_) (Eng.Steps.cons (fun _ => ?_) (Eng.Steps.cons (fun _ => ?_) (Eng.Steps.cons (fun _ => ?_) (Eng.Steps.cons (fun _ => ?_) (Eng.Steps.cons (fun _ => ?_) (Eng.Steps.nil))))))))
   ·refine Eng.plain rfl rfl fun a w' H => ?_
    have kb := (H.below.block _ lg3_1_7).trans kg3_1_7
    refine Eng.val (w1 := w') (v := .agg ((List.map (Value.int .u64) s).toArray)) ?_ (Below.refl _ _) rfl
    exact Eng.run_load_all rfl ((H.kept 3 (by kernel_rfl)).trans h3_7) kb Tryd.underlying74 rfl (by rw [Nfa.cells_size (hs)]; kernel_rfl)
   ·refine Eng.plain rfl rfl fun a w' H => ?_
    have kb := (H.below.block _ lg2_1_7).trans kg2_1_7
    have z0 : w'.cell? ⟨g2_1, 0, none⟩ = some (pv) := (Eng.cells kb 0).trans rfl
    have z1 : w'.cell? ⟨g2_1, 1, none⟩ = some (bv) := (Eng.cells kb 1).trans rfl
    have z2 : w'.cell? ⟨g2_1, 2, none⟩ = some (.int .i64 many) := (Eng.cells kb 2).trans rfl
    refine Eng.val (w1 := w') (v := .agg #[pv, bv, .int .i64 many]) ?_ (Below.refl _ _) rfl
    have e0 := ((H.kept 2 (by kernel_rfl)).trans h2_7)
    simp only [execOp, resolve, e0]
    go_simp
   ·refine Eng.plain rfl rfl fun a w' H => ?_
    exact Eng.val (w1 := w') (v := .int .i64 (k : Nat)) (Eng.run_move rfl ((H.kept 5 (by kernel_rfl)).trans h5_7)) (Below.refl _ _) rfl
   ·refine Eng.plain rfl rfl fun a w' H => ?_
    refine Eng.call Tryd.func86 (by kernel_rfl) (by kernel_rfl) rfl #[.agg #[pv, bv, .int .i64 many], .int .i64 (k : Nat)] ?_ ?_
    ·have e0 : a.eval (.tmp 16) = .agg #[pv, bv, .int .i64 many] := (H.dep 1 16 (by kernel_rfl) rfl); have e1 : a.eval (.tmp 17) = .int .i64 (k : Nat) := (H.dep 2 17 (by kernel_rfl) rfl); simp only [List.map_toArray, List.map_cons, List.map_nil, e0, e1]
    refine (Nfa.begin_calls pv bv bs many (k : Nat) _ (Eng.Reads.below Fbb_7 H.below) (by omega)).mono ?_
    rintro e w'' ⟨rfl, hb⟩
    exact ⟨_, rfl, rfl, hb⟩
   ·refine Eng.plain rfl rfl fun a w' H => ?_
    exact Eng.val (w1 := w') (v := (vs.getD k undef)) (Eng.run_move rfl ((H.kept 6 (by kernel_rfl)).trans h6_7)) (Below.refl _ _) rfl
   ·refine Eng.plain rfl rfl fun a w' H => ?_
    refine Eng.val (w1 := w') (v := .int .i64 (((ps.getD k []).length : Nat) : Int)) ?_ (Below.refl _ _) rfl
    exact Eng.run_len_sl rfl Tryd.underlying82 (show a.eval (.tmp 19) = (vs.getD k undef) from (H.dep 4 19 (by kernel_rfl) rfl)) (Eng.Reads.below Finn_7 H.below)
   ·refine Eng.plain rfl rfl fun a w' H => ?_
    refine Eng.val (w1 := w') (v := .int .i64 (IntKind.i64.wrap ((Nfa.beginF bs (k : Nat)) + (((ps.getD k []).length : Nat) : Int)))) ?_ (Below.refl _ _) rfl
    have e0 : a.eval (.tmp 18) = .int .i64 (Nfa.beginF bs (k : Nat)) := (H.dep 3 18 (by kernel_rfl) rfl)
    have e1 : a.eval (.tmp 20) = .int .i64 (((ps.getD k []).length : Nat) : Int) := (H.dep 5 20 (by kernel_rfl) rfl)
    simp only [execOp, resolve, e0, e1]
    go_simp
   ·refine Eng.plain rfl rfl fun a w' H => ?_
    refine Eng.call Tryd.func85 (by kernel_rfl) (by kernel_rfl) rfl #[.agg ((List.map (Value.int .u64) s).toArray), .int .i64 (IntKind.i64.wrap ((Nfa.beginF bs (k : Nat)) + (((ps.getD k []).length : Nat) : Int)))] ?_ ?_
    ·have e0 : a.eval (.tmp 15) = .agg ((List.map (Value.int .u64) s).toArray) := (H.dep 0 15 (by kernel_rfl) rfl); have e1 : a.eval (.tmp 21) = .int .i64 (IntKind.i64.wrap ((Nfa.beginF bs (k : Nat)) + (((ps.getD k []).length : Nat) : Int))) := (H.dep 6 21 (by kernel_rfl) rfl); simp only [List.map_toArray, List.map_cons, List.map_nil, e0, e1]
    refine (Nfa.has_calls s (IntKind.i64.wrap ((Nfa.beginF bs (k : Nat)) + (((ps.getD k []).length : Nat) : Int))) _ (hs)).mono ?_
    rintro e w'' ⟨rfl, hb⟩
    exact ⟨_, rfl, (by show _ = Value.bool q22; rw [Bq22]), hb⟩
  intro act8 w8 T
  have h0_8 := (T.rest 0 (by kernel_rfl)).trans h0_7
  have h1_8 := (T.rest 1 (by kernel_rfl)).trans h1_7
  have h2_8 := (T.rest 2 (by kernel_rfl)).trans h2_7
  have h3_8 := (T.rest 3 (by kernel_rfl)).trans h3_7
  have h4_8 := (T.rest 4 (by kernel_rfl)).trans h4_7
  have h5_8 := (T.rest 5 (by kernel_rfl)).trans h5_7
  have h8_8 := (T.rest 8 (by kernel_rfl)).trans h8_7
  have h9_8 := (T.rest 9 (by kernel_rfl)).trans h9_7
  have h10_8 := (T.rest 10 (by kernel_rfl)).trans h10_7
  have kg2_1_8 := (T.below.block _ lg2_1_7).trans kg2_1_7
  have lg2_1_8 := Nat.lt_of_lt_of_le lg2_1_7 T.below.size
  have kg3_1_8 := (T.below.block _ lg3_1_7).trans kg3_1_7
  have lg3_1_8 := Nat.lt_of_lt_of_le lg3_1_7 T.below.size
  have Ot_8 := Eng.own_below Ot_7 T.below
  have h22_8 : act8.eval (.tmp 22) = .bool q22 := T.done 7 22 rfl rfl
  have d8 := T.defers.trans d7
  have s8 := T.size.trans s7
  have bl8 := bl7.trans (T.below.mono bl7.size)
  clear T
  refine Eng.tail_nil ?_
  refine wp_cond_split h22_8 (fun hq => ?_) (fun hq => ?_)
  ·
   have c22 := Bq22.symm.trans hq
   clear hq
   have hbx := c22
   refine Eng.regionT (n := 5) rfl ?_
   refine Eng.tail_val rfl rfl rfl (Eng.run_move rfl h4_8) s8 rfl fun act10 d10 s10 hv hr => ?_
   have h0_10 := (hr 0 rfl).trans h0_8
   have h1_10 := (hr 1 rfl).trans h1_8
   have h2_10 := (hr 2 rfl).trans h2_8
   have h3_10 := (hr 3 rfl).trans h3_8
   have h5_10 := (hr 5 rfl).trans h5_8
   have h8_10 := (hr 8 rfl).trans h8_8
   have h9_10 := (hr 9 rfl).trans h9_8
   have h10_10 := (hr 10 rfl).trans h10_8
   have h23_10 : act10.eval (.tmp 23) = v4 := hv
   have d10 := d10.trans d8
   clear hv hr
   refine Eng.tail_val rfl rfl rfl (Eng.run_move rfl h5_10) s10 rfl fun act11 d11 s11 hv hr => ?_
   have h0_11 := (hr 0 rfl).trans h0_10
   have h1_11 := (hr 1 rfl).trans h1_10
   have h2_11 := (hr 2 rfl).trans h2_10
   have h3_11 := (hr 3 rfl).trans h3_10
   have h8_11 := (hr 8 rfl).trans h8_10
   have h9_11 := (hr 9 rfl).trans h9_10
   have h10_11 := (hr 10 rfl).trans h10_10
   have h23_11 := (hr 23 rfl).trans h23_10
   have h24_11 : act11.eval (.tmp 24) = .int .i64 (k : Nat) := hv
   have d11 := d11.trans d10
   clear hv hr
   refine Eng.tail_ex rfl rfl rfl (Eng.run_build1I (size := 1) (z := .int .i64 0) [.int .i64 (k : Nat)] rfl Tryd.underlying63 (by kernel_rfl) rfl rfl rfl (by kernel_rfl) h24_11) s11 rfl fun v_12 w12 act12 R d12 s12 hv hr => ?_
   obtain ⟨F_12, b_12⟩ := R
   have h0_12 := (hr 0 rfl).trans h0_11
   have h1_12 := (hr 1 rfl).trans h1_11
   have h2_12 := (hr 2 rfl).trans h2_11
   have h3_12 := (hr 3 rfl).trans h3_11
   have h8_12 := (hr 8 rfl).trans h8_11
   have h9_12 := (hr 9 rfl).trans h9_11
   have h10_12 := (hr 10 rfl).trans h10_11
   have h23_12 := (hr 23 rfl).trans h23_11
   have h25_12 : act12.eval (.tmp 25) = v_12 := hv
   have d12 := d12.trans d11
   clear hv hr
   have kg2_1_12 := (b_12.block _ lg2_1_8).trans kg2_1_8
   have lg2_1_12 := Nat.lt_of_lt_of_le lg2_1_8 b_12.size
   have kg3_1_12 := (b_12.block _ lg3_1_8).trans kg3_1_8
   have lg3_1_12 := Nat.lt_of_lt_of_le lg3_1_8 b_12.size
   have Ot_12 := Eng.own_below Ot_8 b_12
   have bl12 := bl8.trans (b_12.mono bl8.size)
   refine Eng.tail_ex rfl rfl rfl (Eng.run_appendI (z := .int .i64 0) rfl Tryd.underlying63 (by kernel_rfl) rfl rfl h23_12 Ot_12 h25_12 F_12 (by intro u hu; simp at hu; subst hu; rfl) (by have := Nfa.acceptTo_len ps bs s k; omega) bl12.size) s12 rfl fun v_13 w13 act13 R d13 s13 hv hr => ?_
   obtain ⟨O_13, _, b_13, G_13, _⟩ := R
   have h0_13 := (hr 0 rfl).trans h0_12
   have h1_13 := (hr 1 rfl).trans h1_12
   have h2_13 := (hr 2 rfl).trans h2_12
   have h3_13 := (hr 3 rfl).trans h3_12
   have h8_13 := (hr 8 rfl).trans h8_12
   have h9_13 := (hr 9 rfl).trans h9_12
   have h10_13 := (hr 10 rfl).trans h10_12
   have h26_13 : act13.eval (.tmp 26) = v_13 := hv
   have d13 := d13.trans d12
   clear hv hr
   have kg2_1_13 := (G_13.block _ lg2_1_12 (Eng.own_ne Ot_12 kg2_1_12 rfl)).trans kg2_1_12
   have lg2_1_13 := Nat.lt_of_lt_of_le lg2_1_12 G_13.size
   have kg3_1_13 := (G_13.block _ lg3_1_12 (Eng.own_ne Ot_12 kg3_1_12 rfl)).trans kg3_1_12
   have lg3_1_13 := Nat.lt_of_lt_of_le lg3_1_12 G_13.size
   have bl13 := bl12.trans b_13
   have Oa13 : w13.ownsRow w.heap.size 3 1 v_13 ((Nfa.acceptTo ps bs s k) ++ [((k : Nat) : Int)]).length (Nfa.ints ((Nfa.acceptTo ps bs s k) ++ [((k : Nat) : Int)])) := Nfa.ints_cat (r := [_]) O_13
   have Fa13 := Eng.Reads.of_own Oa13
   refine Eng.tail_val rfl rfl rfl (Eng.run_assign rfl h26_13) s13 rfl fun act14 d14 s14 hv hr => ?_
   have h0_14 := (hr 0 rfl).trans h0_13
   have h1_14 := (hr 1 rfl).trans h1_13
   have h2_14 := (hr 2 rfl).trans h2_13
   have h3_14 := (hr 3 rfl).trans h3_13
   have h8_14 := (hr 8 rfl).trans h8_13
   have h9_14 := (hr 9 rfl).trans h9_13
   have h10_14 := (hr 10 rfl).trans h10_13
   have h4_14 : act14.eval (.tmp 4) = v_13 := hv
   have d14 := d14.trans d13
   clear hv hr
   refine Eng.tail_nil ?_
   refine Eng.regionS (Eng.still [fun u_ => u_ = .int .i64 (IntKind.i64.wrap ((k : Nat) + 1)), fun u_ => u_ = .int .i64 (IntKind.i64.wrap ((k : Nat) + 1))]) (fun _ => .plain) 2 0 29 s14 rfl (by kernel_rfl) (Eng.still_stable _) (Or.inr (Eng.still_any _)) ?_ ?_
   ·refine Eng.Steps.cons (fun _ => ?_) (Eng.Steps.cons (fun _ => ?_) (Eng.Steps.nil))
    ·refine Eng.plain rfl rfl fun a w' H => ?_
     refine Eng.val (w1 := w') (v := .int .i64 (IntKind.i64.wrap ((k : Nat) + 1))) ?_ (Below.refl _ _) rfl
     have e0 := ((H.kept 10 (by kernel_rfl)).trans h10_14)
     have e1 : a.eval (.const (.int .i64 1)) = .int .i64 1 := (rfl : a.eval (.const (.int .i64 1)) = .int .i64 1)
     simp only [execOp, resolve, e0, e1]
     go_simp
    ·refine Eng.plain rfl rfl fun a w' H => ?_
     exact Eng.val (w1 := w') (v := .int .i64 (IntKind.i64.wrap ((k : Nat) + 1))) (Eng.run_move rfl (H.dep 0 27 (by kernel_rfl) rfl)) (Below.refl _ _) rfl
   intro act15 w15 T
   have h0_15 := (T.rest 0 (by kernel_rfl)).trans h0_14
   have h1_15 := (T.rest 1 (by kernel_rfl)).trans h1_14
   have h2_15 := (T.rest 2 (by kernel_rfl)).trans h2_14
   have h3_15 := (T.rest 3 (by kernel_rfl)).trans h3_14
   have h4_15 := (T.rest 4 (by kernel_rfl)).trans h4_14
   have h8_15 := (T.rest 8 (by kernel_rfl)).trans h8_14
   have h9_15 := (T.rest 9 (by kernel_rfl)).trans h9_14
   have kg2_1_15 := (T.below.block _ lg2_1_13).trans kg2_1_13
   have lg2_1_15 := Nat.lt_of_lt_of_le lg2_1_13 T.below.size
   have kg3_1_15 := (T.below.block _ lg3_1_13).trans kg3_1_13
   have lg3_1_15 := Nat.lt_of_lt_of_le lg3_1_13 T.below.size
   have Oa13_15 := Eng.own_below Oa13 T.below
   have h10_15 : act15.eval (.tmp 10) = .int .i64 (IntKind.i64.wrap ((k : Nat) + 1)) := T.done 1 10 rfl rfl
   have d15 := T.defers.trans d14
   have s15 := T.size.trans s14
   have bl15 := bl13.trans (T.below.mono bl13.size)
   clear T
   refine Eng.tail_nil ?_
   exact ⟨_, by omega, k + 1, v_13, rfl, by omega, by rw [Nfa.acceptTo_succ]; first | (rw [if_pos hbx]; exact Oa13_15) | (rw [if_neg (by rw [hbx]; simp)]; exact Oa13_15), d15, s15, bl15, h0_15, h1_15, h2_15, h3_15, (h4_15.trans (by first | rfl | (congr 1; rw [Eng.i64_id (by omega) (by omega)]; omega) | (simp; done))), h8_15, h9_15, (h10_15.trans (by first | rfl | (congr 1; rw [Eng.i64_id (by omega) (by omega)]; omega) | (simp; done))), kg2_1_15, lg2_1_15, kg3_1_15, lg3_1_15⟩
  ·
   have c22 := Bq22.symm.trans hq
   clear hq
   have hbx := c22
   refine wp_skip ?_
   refine Eng.regionS (Eng.still [fun u_ => u_ = .int .i64 (IntKind.i64.wrap ((k : Nat) + 1)), fun u_ => u_ = .int .i64 (IntKind.i64.wrap ((k : Nat) + 1))]) (fun _ => .plain) 2 0 29 s8 rfl (by kernel_rfl) (Eng.still_stable _) (Or.inr (Eng.still_any _)) ?_ ?_
   ·refine Eng.Steps.cons (fun _ => ?_) (Eng.Steps.cons (fun _ => ?_) (Eng.Steps.nil))
    ·refine Eng.plain rfl rfl fun a w' H => ?_
     refine Eng.val (w1 := w') (v := .int .i64 (IntKind.i64.wrap ((k : Nat) + 1))) ?_ (Below.refl _ _) rfl
     have e0 := ((H.kept 10 (by kernel_rfl)).trans h10_8)
     have e1 : a.eval (.const (.int .i64 1)) = .int .i64 1 := (rfl : a.eval (.const (.int .i64 1)) = .int .i64 1)
     simp only [execOp, resolve, e0, e1]
     go_simp
    ·refine Eng.plain rfl rfl fun a w' H => ?_
     exact Eng.val (w1 := w') (v := .int .i64 (IntKind.i64.wrap ((k : Nat) + 1))) (Eng.run_move rfl (H.dep 0 27 (by kernel_rfl) rfl)) (Below.refl _ _) rfl
   intro act17 w17 T
   have h0_17 := (T.rest 0 (by kernel_rfl)).trans h0_8
   have h1_17 := (T.rest 1 (by kernel_rfl)).trans h1_8
   have h2_17 := (T.rest 2 (by kernel_rfl)).trans h2_8
   have h3_17 := (T.rest 3 (by kernel_rfl)).trans h3_8
   have h4_17 := (T.rest 4 (by kernel_rfl)).trans h4_8
   have h8_17 := (T.rest 8 (by kernel_rfl)).trans h8_8
   have h9_17 := (T.rest 9 (by kernel_rfl)).trans h9_8
   have kg2_1_17 := (T.below.block _ lg2_1_8).trans kg2_1_8
   have lg2_1_17 := Nat.lt_of_lt_of_le lg2_1_8 T.below.size
   have kg3_1_17 := (T.below.block _ lg3_1_8).trans kg3_1_8
   have lg3_1_17 := Nat.lt_of_lt_of_le lg3_1_8 T.below.size
   have Ot_17 := Eng.own_below Ot_8 T.below
   have h10_17 : act17.eval (.tmp 10) = .int .i64 (IntKind.i64.wrap ((k : Nat) + 1)) := T.done 1 10 rfl rfl
   have d17 := T.defers.trans d8
   have s17 := T.size.trans s8
   have bl17 := bl8.trans (T.below.mono bl8.size)
   clear T
   refine Eng.tail_nil ?_
   exact ⟨_, by omega, k + 1, v4, rfl, by omega, by rw [Nfa.acceptTo_succ]; first | (rw [if_pos hbx]; exact Ot_17) | (rw [if_neg (by rw [hbx]; simp)]; exact Ot_17), d17, s17, bl17, h0_17, h1_17, h2_17, h3_17, (h4_17.trans (by first | rfl | (congr 1; rw [Eng.i64_id (by omega) (by omega)]; omega) | (simp; done))), h8_17, h9_17, (h10_17.trans (by first | rfl | (congr 1; rw [Eng.i64_id (by omega) (by omega)]; omega) | (simp; done))), kg2_1_17, lg2_1_17, kg3_1_17, lg3_1_17⟩
 ·
  have c11 := Bq11.symm.trans hq
  clear hq
  have c11 := of_decide_eq_false c11
  refine wp_exit ?_
  refine wp_seq ?_
  refine Eng.regionS (Eng.still [fun u_ => u_ = v4, fun u_ => u_ = v4]) (fun _ => .plain) 2 0 29 s4 rfl (by kernel_rfl) (Eng.still_stable _) (Or.inr (Eng.still_any _)) ?_ ?_
  ·refine Eng.Steps.cons (fun _ => ?_) (Eng.Steps.cons (fun _ => ?_) (Eng.Steps.nil))
   ·refine Eng.plain rfl rfl fun a w' H => ?_
    exact Eng.val (w1 := w') (v := v4) (Eng.run_move rfl ((H.kept 4 (by kernel_rfl)).trans h4_4)) (Below.refl _ _) rfl
   ·refine Eng.plain rfl rfl fun a w' H => ?_
    exact Eng.val (w1 := w') (v := v4) (Eng.run_assign rfl (H.dep 0 28 (by kernel_rfl) rfl)) (Below.refl _ _) rfl
  intro act19 w19 T
  have Ot_19 := Eng.own_below Ot_4 T.below
  have h4_19 : act19.eval (.tmp 4) = v4 := T.done 1 4 rfl rfl
  have d19 := T.defers.trans d4
  have bl19 := bl4.trans (T.below.mono bl4.size)
  clear T
  refine Eng.tail_nil ?_
  refine wp_ret ?_
  repeat (first | refine Eng.in_ret ?_ | refine Eng.then_ret ?_)
  obtain rfl : k = ps.length := by omega
  exact Eng.ret1 rfl d19 h4_19 ⟨_, rfl, Ot_19, bl19⟩
end Go.Proofs.YthgafcaoibfchaaDoor.X
end
