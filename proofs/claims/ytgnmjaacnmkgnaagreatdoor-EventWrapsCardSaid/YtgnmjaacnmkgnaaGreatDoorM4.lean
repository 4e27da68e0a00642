/- Words and walks that the row of EventWraps needs: printed by programs, and plain laws. -/
import Derived.Test.YtgnmjaacnmkgnaaGreatDoorM3
namespace Go.Proofs.YtgnmjaacnmkgnaaGreatDoorW.PrintWords
end Go.Proofs.YtgnmjaacnmkgnaaGreatDoorW.PrintWords
namespace Go.Proofs.YtgnmjaacnmkgnaaGreatDoorW.PrintLast
end Go.Proofs.YtgnmjaacnmkgnaaGreatDoorW.PrintLast
namespace Go.Proofs.YtgnmjaacnmkgnaaGreatDoorW.PrintMore
end Go.Proofs.YtgnmjaacnmkgnaaGreatDoorW.PrintMore
namespace Go.Proofs.YtgnmjaacnmkgnaaGreatDoor.X
open Go.RowKit Go.Shelf Go.Proofs Go.Proofs.YtgnmjaacnmkgnaaGreatDoorW.PrintWords Go.Proofs.YtgnmjaacnmkgnaaGreatDoorW.PrintLast Go.Proofs.YtgnmjaacnmkgnaaGreatDoorW.PrintMore
set_option linter.unusedVariables false
set_option linter.unusedSimpArgs false
attribute [local go_sem] max2_int min2_int max_two min_two
set_option maxHeartbeats 4000000 in
set_option maxRecDepth 100000 in
theorem Evt.take_nil (g : Nat) (o : Value) (x : Evt.Ev) (w W0 : World) (hB : Below w.heap.size w W0) (hlo : w.heap.size ≤ g) (hk : W0.heap[g]? = some (.cells #[o] 49 (0, 0))) (hO : W0.ownsRow w.heap.size 71 2 o 0 (Evt.opens [])) : Calls Tryz.prog 26 #[.pointer (some ⟨g, 0, none⟩), .agg #[.int .i64 x.kind, .string x.anchor, .string x.tag, .string x.text, .bool x.plain]] W0 fun e w' => e = .returned (.bool (Evt.takeF [] x.kind).isSome) ∧ Below w.heap.size w w' ∧ ∀ st', Evt.takeF [] x.kind = some st' → ∃ o', Evt.Is w.heap.size W0 g o st' w' o' := by
 have hst : ([] : List (Int × Int)).length ≤ 100000 := by simp
 refine Eng.enter Tryz.func26 rfl fun act0 d0 s0 v0 => ?_
 have s0 : act0.tmps.size = 53 := s0
 have h0_0 : act0.eval (.tmp 0) = .pointer (some ⟨g, 0, none⟩) := v0 0 (by simp)
 have h1_0 : act0.eval (.tmp 1) = .agg #[.int .i64 x.kind, .string x.anchor, .string x.tag, .string x.text, .bool x.plain] := v0 1 (by simp)
 clear v0
 refine wp_seq ?_
 refine Eng.regionS (Eng.still [fun u_ => True, fun u_ => u_ = .bool false]) (fun i => ([.alloc 29 #[.int .i64 x.kind, .string x.anchor, .string x.tag, .string x.text, .bool x.plain], .plain] : List Eng.Kind).getD i .plain) 2 0 53 s0 rfl (by kernel_rfl) (Eng.still_stable _) (Or.inr (Eng.still_any _)) ?_ ?_
 ·refine .cons (fun _ => ?_) (.cons (fun _ => ?_) (.nil))
  ·refine Eng.made rfl (by simp) rfl (fun a w' hd ho => ?_) (fun _ _ => trivial)
   exact Eng.run_box rfl ((ho 1 (by kernel_rfl)).trans h1_0)
  ·exact Eng.plain rfl rfl fun a w' H => Eng.vr rfl (Eng.run_assign rfl (rfl : a.eval (.const (.bool false)) = .bool false))
 intro act1 w1 T
 have h0_1 := (T.rest 0 (by kernel_rfl)).trans h0_0
 have kg_1 := (T.below.block _ (Array.getElem?_eq_some_iff.1 hk).1).trans hk
 have lg_1 := Nat.lt_of_lt_of_le (Array.getElem?_eq_some_iff.1 hk).1 T.below.size
 have Oo_1 := Eng.own_below hO T.below
 obtain ⟨g3_1, h3_1, rg3_1, lg3_1_1, kg3_1_1⟩ := T.al 0 3 _ _ rfl rfl rfl (by kernel_rfl)
 have d1 := T.defers.trans d0
 have s1 := T.size.trans s0
 have bl1 := hB.trans (T.below.mono hB.size)
 have XA_1 := Eng.Aft.step (Eng.Aft.refl (Eng.Nst g o) W0) T.below
 clear T
 refine Eng.tail_nil ?_
 first | show Code.wp Tryz.prog _ _ _ _ | skip
 refine wp_seq ?_
 refine (wpIn_wide (n := 1)).1 ?_
 refine EngI.regionS EngI.free_wide (Eng.still [fun u_ => u_ = .pointer (some ⟨g, 0, none⟩)]) (fun _ => .plain) 1 6 53 s1 rfl (by kernel_rfl) (Eng.still_stable _) (Or.inr (Eng.still_any _)) (by kernel_rfl) ?_ ?_
 ·refine .cons (fun _ => ?_) (.cons (fun h => absurd h (by decide)) (.cons (fun h => absurd h (by decide)) (.cons (fun h => absurd h (by decide)) (.cons (fun h => absurd h (by decide)) (.cons (fun h => absurd h (by decide)) (.cons (fun h => absurd h (by decide)) (.nil)))))))
  ·exact Eng.plain rfl rfl fun a w' H => Eng.vr rfl (Eng.run_move rfl ((H.kept 0 (by kernel_rfl)).trans h0_1))
 intro act2 w2 T
 have h0_2 := (T.rest 0 (by kernel_rfl)).trans h0_1
 have h3_2 := (T.rest 3 (by kernel_rfl)).trans h3_1
 have kg_2 := (T.below.block _ lg_1).trans kg_1
 have lg_2 := Nat.lt_of_lt_of_le lg_1 T.below.size
 have kg3_1_2 := (T.below.block _ lg3_1_1).trans kg3_1_1
 have lg3_1_2 := Nat.lt_of_lt_of_le lg3_1_1 T.below.size
 have Oo_2 := Eng.own_below Oo_1 T.below
 have h6_2 : act2.eval (.tmp 6) = .pointer (some ⟨g, 0, none⟩) := T.done 0 6 rfl rfl
 have d2 := T.defers.trans d1
 have s2 := T.size.trans s1
 have bl2 := bl1.trans (T.below.mono bl1.size)
 have XA_2 := Eng.Aft.step XA_1 T.below
 clear T
 refine EngI.tail_call EngI.free_wide Tryz.func41 (by kernel_rfl) (by kernel_rfl) rfl rfl rfl rfl #[.pointer (some ⟨g, 0, none⟩)] (by have e0 : act2.eval (.tmp 6) = .pointer (some ⟨g, 0, none⟩) := h6_2; simp only [List.map_toArray, List.map_cons, List.map_nil, e0]) s2 rfl (R := fun v w' => ∃ h, v = .pointer (some ⟨h, 0, none⟩) ∧ w2.heap.size ≤ h ∧ h < w'.heap.size ∧ w'.heap[h]? = some (.cells #[.int .i64 (-1), .int .i64 0] 71 (0, 0)) ∧ Below w2.heap.size w2 w') ((Evt.last_nil g o w.heap.size _ kg_2 Oo_2).mono ?_) fun v_3 w3 act3 R d3 s3 hv hr => ?_
 ·rintro e w1 ⟨h, rfl, h1⟩; exact ⟨_, rfl, h, rfl, h1⟩
 have h0_3 := (hr 0 rfl).trans h0_2
 have h3_3 := (hr 3 rfl).trans h3_2
 have h7_3 : act3.eval (.tmp 7) = v_3 := hv
 have d3 := d3.trans d2
 clear hv hr
 obtain ⟨h3, ev_3, rg_3, lgh3, kgh3, b_3⟩ := R
 have nw3 : W0.heap.size ≤ h3 := Nat.le_trans XA_2.size rg_3
 have kg_3 := (b_3.block _ lg_2).trans kg_2
 have lg_3 := Nat.lt_of_lt_of_le lg_2 b_3.size
 have kg3_1_3 := (b_3.block _ lg3_1_2).trans kg3_1_2
 have lg3_1_3 := Nat.lt_of_lt_of_le lg3_1_2 b_3.size
 have Oo_3 := Eng.own_below Oo_2 b_3
 have XA_3 := Eng.Aft.step XA_2 b_3
 have bl3 := bl2.trans (b_3.mono bl2.size)
 rw [ev_3] at h7_3
 refine EngI.tail_val (w1 := w3) (v := .pointer (some ⟨h3, 0, none⟩)) EngI.free_wide rfl rfl rfl rfl ?_ s3 rfl ?_
 ·exact Eng.run_nilb rfl h7_3
 intro act4 d4 s4 hv hr
 have h0_4 := (hr 0 rfl).trans h0_3
 have h3_4 := (hr 3 rfl).trans h3_3
 have h8_4 : act4.eval (.tmp 8) = .pointer (some ⟨h3, 0, none⟩) := hv
 have d4 := d4.trans d3
 clear hv hr
 refine EngI.tail_val (w1 := w3) (v := .pointer (some ⟨h3, 0, none⟩)) EngI.free_wide rfl rfl rfl rfl ?_ s4 rfl ?_
 ·exact Eng.run_fieldb rfl Tryz.underlying71 0 (by kernel_rfl) h8_4
 intro act5 d5 s5 hv hr
 have h0_5 := (hr 0 rfl).trans h0_4
 have h3_5 := (hr 3 rfl).trans h3_4
 have h9_5 : act5.eval (.tmp 9) = .pointer (some ⟨h3, 0, none⟩) := hv
 have d5 := d5.trans d4
 clear hv hr
 refine EngI.tail_val (w1 := w3) (v := .int .i64 (-1)) EngI.free_wide rfl rfl rfl rfl ?_ s5 rfl ?_
 ·exact Eng.run_loadb rfl h9_5 (((Below.refl _ _).block _ lgh3).trans kgh3) rfl (by kernel_rfl)
 intro act6 d6 s6 hv hr
 have h0_6 := (hr 0 rfl).trans h0_5
 have h3_6 := (hr 3 rfl).trans h3_5
 have h10_6 : act6.eval (.tmp 10) = .int .i64 (-1) := hv
 have d6 := d6.trans d5
 clear hv hr
 refine EngI.tail_val (w1 := w3) (v := .bool (decide ((-1) ≥ 0))) EngI.free_wide rfl rfl rfl rfl ?_ s6 rfl ?_
 ·have e0 : act6.eval (.tmp 10) = .int .i64 (-1) := h10_6
  have e1 : act6.eval (.const (.int .i64 0)) = .int .i64 0 := (rfl : act6.eval (.const (.int .i64 0)) = .int .i64 0)
  simp only [execOp, resolve, List.map_toArray, List.map_cons, List.map_nil, e0, e1]
  go_simp
  all_goals first | rfl | (simp; done) | (rw [Bool.eq_iff_iff]; simp; done) | omega | (split <;> first | (simp_all; done) | (split <;> simp_all; done)) | skip
 intro act7 d7 s7 hv hr
 have h0_7 := (hr 0 rfl).trans h0_6
 have h3_7 := (hr 3 rfl).trans h3_6
 have h11_7 : act7.eval (.tmp 11) = .bool false := hv.trans (congrArg Value.bool (by decide : _ = false))
 have d7 := d7.trans d6
 clear hv hr
 refine EngI.tail_val EngI.free_wide rfl rfl rfl rfl (Eng.run_assign rfl h11_7) s7 rfl fun act8 d8 s8 hv hr => ?_
 have h0_8 := (hr 0 rfl).trans h0_7
 have h3_8 := (hr 3 rfl).trans h3_7
 have h5_8 : act8.eval (.tmp 5) = .bool false := hv
 have d8 := d8.trans d7
 clear hv hr
 refine EngI.tail_nil ?_
 first | show Code.wp Tryz.prog _ _ _ _ | skip
 refine wp_seq ?_
 refine wp_seq ?_
 refine Eng.regionS (Eng.still [fun u_ => u_ = .pointer (some ⟨g3_1, 0, none⟩), fun u_ => u_ = .int .i64 x.kind]) (fun _ => .plain) 2 0 53 s8 rfl (by kernel_rfl) (Eng.still_stable _) (Or.inr (Eng.still_any _)) ?_ ?_
 ·refine .cons (fun _ => ?_) (.cons (fun _ => ?_) (.nil))
  ·exact Eng.plain rfl rfl fun a w' H => Eng.vr rfl (Eng.run_fieldb rfl Tryz.underlying29 0 (by kernel_rfl) ((H.kept 3 (by kernel_rfl)).trans h3_8))
  ·exact Eng.plain rfl rfl fun a w' H => Eng.vr rfl (Eng.run_loadb rfl (H.dep 0 12 (by kernel_rfl) rfl) ((H.below.block _ lg3_1_3).trans kg3_1_3) rfl (by kernel_rfl))
 intro act9 w9 T
 have h0_9 := (T.rest 0 (by kernel_rfl)).trans h0_8
 have h3_9 := (T.rest 3 (by kernel_rfl)).trans h3_8
 have h5_9 := (T.rest 5 (by kernel_rfl)).trans h5_8
 have kg_9 := (T.below.block _ lg_3).trans kg_3
 have lg_9 := Nat.lt_of_lt_of_le lg_3 T.below.size
 have kg3_1_9 := (T.below.block _ lg3_1_3).trans kg3_1_3
 have lg3_1_9 := Nat.lt_of_lt_of_le lg3_1_3 T.below.size
 have Oo_9 := Eng.own_below Oo_3 T.below
 have h13_9 : act9.eval (.tmp 13) = .int .i64 x.kind := T.done 1 13 rfl rfl
 have d9 := T.defers.trans d8
 have s9 := T.size.trans s8
 have bl9 := bl3.trans (T.below.mono bl3.size)
 have XA_9 := Eng.Aft.step XA_3 T.below
 clear T
 refine Eng.tail_nil ?_
 first | show Code.wp Tryz.prog _ _ _ _ | skip
 refine wp_block ?_
 refine wp_seq ?_
 obtain ⟨q15, Bq15⟩ : ∃ b : Bool, b = (x.kind == 0) := ⟨_, rfl⟩
 refine Eng.regionS (Eng.still [fun u_ => u_ = .bool q15, fun u_ => u_ = .bool q15]) (fun _ => .plain) 2 0 53 s9 rfl (by kernel_rfl) (Eng.still_stable _) (Or.inr (Eng.still_any _)) ?_ ?_
 ·refine .cons (fun _ => ?_) (.cons (fun _ => ?_) (.nil))
  ·refine Eng.plain rfl rfl fun a w' H => ?_
   refine Eng.vr (v := .bool (x.kind == 0)) (by show _ = Value.bool q15; rw [Bq15]) ?_
   have e0 : a.eval (.tmp 13) = .int .i64 x.kind := ((H.kept 13 (by kernel_rfl)).trans h13_9)
   have e1 : a.eval (.const (.int .i64 0)) = .int .i64 0 := (rfl : a.eval (.const (.int .i64 0)) = .int .i64 0)
   simp only [execOp, resolve, List.map_toArray, List.map_cons, List.map_nil, e0, e1]
   go_simp
   all_goals first | rfl | (simp; done) | (rw [Bool.eq_iff_iff]; simp; done) | omega | (split <;> first | (simp_all; done) | (split <;> simp_all; done)) | skip
  ·exact Eng.plain rfl rfl fun a w' H => Eng.vr rfl (Eng.run_assign rfl (H.dep 0 15 (by kernel_rfl) rfl))
 intro act10 w10 T
 have h0_10 := (T.rest 0 (by kernel_rfl)).trans h0_9
 have h3_10 := (T.rest 3 (by kernel_rfl)).trans h3_9
 have h5_10 := (T.rest 5 (by kernel_rfl)).trans h5_9
 have h13_10 := (T.rest 13 (by kernel_rfl)).trans h13_9
 have kg_10 := (T.below.block _ lg_9).trans kg_9
 have lg_10 := Nat.lt_of_lt_of_le lg_9 T.below.size
 have kg3_1_10 := (T.below.block _ lg3_1_9).trans kg3_1_9
 have lg3_1_10 := Nat.lt_of_lt_of_le lg3_1_9 T.below.size
 have Oo_10 := Eng.own_below Oo_9 T.below
 have h14_10 : act10.eval (.tmp 14) = .bool q15 := T.done 1 14 rfl rfl
 have d10 := T.defers.trans d9
 have s10 := T.size.trans s9
 have bl10 := bl9.trans (T.below.mono bl9.size)
 have XA_10 := Eng.Aft.step XA_9 T.below
 clear T
 refine Eng.tail_nil ?_
 first | show Code.wp Tryz.prog _ _ _ _ | skip
 refine wp_cond_split h14_10 (fun hq => ?_) (fun hq => ?_)
 ·
  have c14 := Bq15.symm.trans hq
  clear hq
  have hk_ : x.kind = 0 := by simpa using c14
  refine wp_seq ?_
  refine (wpIn_wide (n := 1)).1 ?_
  refine EngI.regionS EngI.free_wide (Eng.still [fun u_ => u_ = .pointer (some ⟨g, 0, none⟩)]) (fun _ => .plain) 1 1 53 s10 rfl (by kernel_rfl) (Eng.still_stable _) (Or.inr (Eng.still_any _)) (by kernel_rfl) ?_ ?_
  ·refine .cons (fun _ => ?_) (.cons (fun h => absurd h (by decide)) (.nil))
   ·exact Eng.plain rfl rfl fun a w' H => Eng.vr rfl (Eng.run_move rfl ((H.kept 0 (by kernel_rfl)).trans h0_10))
  intro act12 w12 T
  have h5_12 := (T.rest 5 (by kernel_rfl)).trans h5_10
  have kg_12 := (T.below.block _ lg_10).trans kg_10
  have Oo_12 := Eng.own_below Oo_10 T.below
  have h16_12 : act12.eval (.tmp 16) = .pointer (some ⟨g, 0, none⟩) := T.done 0 16 rfl rfl
  have d12 := T.defers.trans d10
  have s12 := T.size.trans s10
  have bl12 := bl10.trans (T.below.mono bl10.size)
  have XA_12 := Eng.Aft.step XA_10 T.below
  clear T
  refine EngI.tail_call EngI.free_wide Tryz.func42 (by kernel_rfl) (by kernel_rfl) rfl rfl rfl rfl #[.pointer (some ⟨g, 0, none⟩), .int .i64 0] (by have e0 : act12.eval (.tmp 16) = .pointer (some ⟨g, 0, none⟩) := h16_12; have e1 : act12.eval (.const (.int .i64 0)) = .int .i64 0 := (rfl : act12.eval (.const (.int .i64 0)) = .int .i64 0); simp only [List.map_toArray, List.map_cons, List.map_nil, e0, e1]) s12 rfl (R := fun v w' => ∃ o', Evt.Is w.heap.size w12 g o ([] ++ [(0, 0)]) w' o') ((Evt.push_calls g o [] 0 w _ bl12 hlo kg_12 Oo_12 (by first | exact hst | (simp at hst ⊢; omega))).mono ?_) fun v_13 w13 act13 R d13 s13 hv hr => ?_
  ·rintro e w1 ⟨v1, o1, rfl, h1⟩; exact ⟨_, rfl, o1, h1⟩
  have h5_13 := (hr 5 rfl).trans h5_12
  have d13 := d13.trans d12
  clear hv hr
  obtain ⟨o13, I13⟩ := R
  have bl13 := Eng.Aft.below I13.aft bl12 (Nat.le_refl _) (Evt.nst_lo hlo Oo_12)
  have XA_13 := Eng.Aft.trans XA_12 I13.aft (fun _ _ h => h)
  have kg_13 := I13.box
  have lg_13 := (Array.getElem?_eq_some_iff.1 kg_13).1
  have Oo_13 := I13.own
  refine EngI.tail_nil ?_
  first | show Code.wp Tryz.prog _ _ _ _ | skip
  refine wp_seq ?_
  obtain ⟨q19, Bq19⟩ : ∃ b : Bool, b = (!false) := ⟨_, rfl⟩
  refine Eng.regionS (Eng.still [fun u_ => u_ = .bool false, fun u_ => u_ = .bool q19, fun u_ => u_ = .bool q19]) (fun _ => .plain) 3 0 53 s13 rfl (by kernel_rfl) (Eng.still_stable _) (Or.inr (Eng.still_any _)) ?_ ?_
  ·refine .cons (fun _ => ?_) (.cons (fun _ => ?_) (.cons (fun _ => ?_) (.nil)))
   ·exact Eng.plain rfl rfl fun a w' H => Eng.vr rfl (Eng.run_move rfl ((H.kept 5 (by kernel_rfl)).trans h5_13))
   ·exact Eng.plain rfl rfl fun a w' H => Eng.vr (v := .bool (!false)) (by show _ = Value.bool q19; rw [Bq19]) (Eng.run_not rfl (H.dep 0 18 (by kernel_rfl) rfl))
   ·exact Eng.plain rfl rfl fun a w' H => Eng.vr rfl (Eng.run_assign rfl (H.dep 1 19 (by kernel_rfl) rfl))
  intro act14 w14 T
  have kg_14 := (T.below.block _ lg_13).trans kg_13
  have Oo13_14 := Eng.own_below Oo_13 T.below
  have h4_14 : act14.eval (.tmp 4) = .bool q19 := T.done 2 4 rfl rfl
  have d14 := T.defers.trans d13
  have bl14 := bl13.trans (T.below.mono bl13.size)
  have XA_14 := Eng.Aft.step XA_13 T.below
  clear T
  refine Eng.tail_nil ?_
  first | show Code.wp Tryz.prog _ _ _ _ | skip
  refine wp_ret ?_
  repeat (first | refine Eng.in_ret ?_ | refine Eng.then_ret ?_)
  have e_ : Evt.takeF [] x.kind = some [(0, 0)] := by rw [hk_]; exact Evt.takeF_0 _
  exact Eng.ret1 rfl d14 h4_14 ⟨by rw [e_]; first | rfl | (rw [Bq19]; rfl), bl14, fun st' h => by rw [e_] at h; cases h; exact ⟨_, kg_14, Oo13_14, XA_14⟩⟩
 ·
  have c14 := Bq15.symm.trans hq
  clear hq
  have hn0 : x.kind ≠ 0 := by simpa using c14
  refine wp_seq ?_
  obtain ⟨q21, Bq21⟩ : ∃ b : Bool, b = (x.kind == 1) := ⟨_, rfl⟩
  refine Eng.regionS (Eng.still [fun u_ => u_ = .bool q21, fun u_ => u_ = .bool q21]) (fun _ => .plain) 2 0 53 s10 rfl (by kernel_rfl) (Eng.still_stable _) (Or.inr (Eng.still_any _)) ?_ ?_
  ·refine .cons (fun _ => ?_) (.cons (fun _ => ?_) (.nil))
   ·refine Eng.plain rfl rfl fun a w' H => ?_
    refine Eng.vr (v := .bool (x.kind == 1)) (by show _ = Value.bool q21; rw [Bq21]) ?_
    have e0 : a.eval (.tmp 13) = .int .i64 x.kind := ((H.kept 13 (by kernel_rfl)).trans h13_10)
    have e1 : a.eval (.const (.int .i64 1)) = .int .i64 1 := (rfl : a.eval (.const (.int .i64 1)) = .int .i64 1)
    simp only [execOp, resolve, List.map_toArray, List.map_cons, List.map_nil, e0, e1]
    go_simp
    all_goals first | rfl | (simp; done) | (rw [Bool.eq_iff_iff]; simp; done) | omega | (split <;> first | (simp_all; done) | (split <;> simp_all; done)) | skip
   ·exact Eng.plain rfl rfl fun a w' H => Eng.vr rfl (Eng.run_assign rfl (H.dep 0 21 (by kernel_rfl) rfl))
  intro act16 w16 T
  have h0_16 := (T.rest 0 (by kernel_rfl)).trans h0_10
  have h3_16 := (T.rest 3 (by kernel_rfl)).trans h3_10
  have h5_16 := (T.rest 5 (by kernel_rfl)).trans h5_10
  have h13_16 := (T.rest 13 (by kernel_rfl)).trans h13_10
  have kg_16 := (T.below.block _ lg_10).trans kg_10
  have lg_16 := Nat.lt_of_lt_of_le lg_10 T.below.size
  have kg3_1_16 := (T.below.block _ lg3_1_10).trans kg3_1_10
  have lg3_1_16 := Nat.lt_of_lt_of_le lg3_1_10 T.below.size
  have Oo_16 := Eng.own_below Oo_10 T.below
  have h20_16 : act16.eval (.tmp 20) = .bool q21 := T.done 1 20 rfl rfl
  have d16 := T.defers.trans d10
  have s16 := T.size.trans s10
  have bl16 := bl10.trans (T.below.mono bl10.size)
  have XA_16 := Eng.Aft.step XA_10 T.below
  clear T
  refine Eng.tail_nil ?_
  first | show Code.wp Tryz.prog _ _ _ _ | skip
  refine wp_cond_split h20_16 (fun hq => ?_) (fun hq => ?_)
  ·
   have c20 := Bq21.symm.trans hq
   clear hq
   have hk_ : x.kind = 1 := by simpa using c20
   refine wp_seq ?_
   refine (wpIn_wide (n := 1)).1 ?_
   refine EngI.regionS EngI.free_wide (Eng.still [fun u_ => u_ = .pointer (some ⟨g, 0, none⟩)]) (fun _ => .plain) 1 2 53 s16 rfl (by kernel_rfl) (Eng.still_stable _) (Or.inr (Eng.still_any _)) (by kernel_rfl) ?_ ?_
   ·refine .cons (fun _ => ?_) (.cons (fun h => absurd h (by decide)) (.cons (fun h => absurd h (by decide)) (.nil)))
    ·exact Eng.plain rfl rfl fun a w' H => Eng.vr rfl (Eng.run_move rfl ((H.kept 0 (by kernel_rfl)).trans h0_16))
   intro act18 w18 T
   have kg_18 := (T.below.block _ lg_16).trans kg_16
   have Oo_18 := Eng.own_below Oo_16 T.below
   have h22_18 : act18.eval (.tmp 22) = .pointer (some ⟨g, 0, none⟩) := T.done 0 22 rfl rfl
   have d18 := T.defers.trans d16
   have s18 := T.size.trans s16
   have bl18 := bl16.trans (T.below.mono bl16.size)
   have XA_18 := Eng.Aft.step XA_16 T.below
   clear T
   refine EngI.tail_call EngI.free_wide Tryz.func43 (by kernel_rfl) (by kernel_rfl) rfl rfl rfl rfl #[.pointer (some ⟨g, 0, none⟩), .int .i64 0, .func (.func 44) #[] #[]] (by have e0 : act18.eval (.tmp 22) = .pointer (some ⟨g, 0, none⟩) := h22_18; have e1 : act18.eval (.const (.int .i64 0)) = .int .i64 0 := (rfl : act18.eval (.const (.int .i64 0)) = .int .i64 0); have e2 : act18.eval (.func 44) = .func (.func 44) #[] #[] := (rfl : act18.eval (.func 44) = .func (.func 44) #[] #[]); simp only [List.map_toArray, List.map_cons, List.map_nil, e0, e1, e2]) s18 rfl (R := fun v w' => v = .bool (Evt.pop [] 0 (fun m => m == 1)).isSome ∧ Below w.heap.size w w' ∧ ∀ st', Evt.pop [] 0 (fun m => m == 1) = some st' → ∃ o', Evt.Is w.heap.size w18 g o st' w' o') ((Evt.pop69_nil g o 0 w _ bl18 hlo kg_18 Oo_18 (by decide)).mono ?_) fun v_19 w19 act19 R d19 s19 hv hr => ?_
   ·rintro e w1 ⟨rfl, h1, h2⟩; exact ⟨_, rfl, rfl, h1, h2⟩
   have h23_19 : act19.eval (.tmp 23) = v_19 := hv
   have d19 := d19.trans d18
   clear hv hr
   obtain ⟨ev_19, bl19, hP0_19⟩ := R
   have hP19 : ∀ st', Evt.pop [] 0 (fun m => m == 1) = some st' → ∃ o', Evt.Is w.heap.size W0 g o st' w19 o' := fun st' h => (hP0_19 st' h).imp fun _ i => i.from XA_18
   rw [ev_19] at h23_19
   refine EngI.tail_val EngI.free_wide rfl rfl rfl rfl (Eng.run_assign rfl h23_19) s19 rfl fun act20 d20 s20 hv hr => ?_
   have h4_20 : act20.eval (.tmp 4) = .bool ((Evt.pop [] 0 (fun m => m == 1)).isSome) := hv
   have d20 := d20.trans d19
   clear hv hr
   refine EngI.tail_nil ?_
   first | show Code.wp Tryz.prog _ _ _ _ | skip
   refine wp_ret ?_
   repeat (first | refine Eng.in_ret ?_ | refine Eng.then_ret ?_)
   have e_ : Evt.takeF [] x.kind = Evt.pop [] 0 (fun m => m == 1) := by rw [hk_]; exact Evt.takeF_1 _
   exact Eng.ret1 rfl d20 h4_20 ⟨by rw [e_], bl19, by rw [e_]; exact hP19⟩
  ·
   have c20 := Bq21.symm.trans hq
   clear hq
   have hn1 : x.kind ≠ 1 := by simpa using c20
   refine wp_seq ?_
   obtain ⟨q25, Bq25⟩ : ∃ b : Bool, b = (x.kind == 3) := ⟨_, rfl⟩
   refine Eng.regionS (Eng.still [fun u_ => u_ = .bool q25, fun u_ => u_ = .bool q25]) (fun _ => .plain) 2 0 53 s16 rfl (by kernel_rfl) (Eng.still_stable _) (Or.inr (Eng.still_any _)) ?_ ?_
   ·refine .cons (fun _ => ?_) (.cons (fun _ => ?_) (.nil))
    ·refine Eng.plain rfl rfl fun a w' H => ?_
     refine Eng.vr (v := .bool (x.kind == 3)) (by show _ = Value.bool q25; rw [Bq25]) ?_
     have e0 : a.eval (.tmp 13) = .int .i64 x.kind := ((H.kept 13 (by kernel_rfl)).trans h13_16)
     have e1 : a.eval (.const (.int .i64 3)) = .int .i64 3 := (rfl : a.eval (.const (.int .i64 3)) = .int .i64 3)
     simp only [execOp, resolve, List.map_toArray, List.map_cons, List.map_nil, e0, e1]
     go_simp
     all_goals first | rfl | (simp; done) | (rw [Bool.eq_iff_iff]; simp; done) | omega | (split <;> first | (simp_all; done) | (split <;> simp_all; done)) | skip
    ·exact Eng.plain rfl rfl fun a w' H => Eng.vr rfl (Eng.run_assign rfl (H.dep 0 25 (by kernel_rfl) rfl))
   intro act22 w22 T
   have h0_22 := (T.rest 0 (by kernel_rfl)).trans h0_16
   have h3_22 := (T.rest 3 (by kernel_rfl)).trans h3_16
   have h5_22 := (T.rest 5 (by kernel_rfl)).trans h5_16
   have h13_22 := (T.rest 13 (by kernel_rfl)).trans h13_16
   have kg_22 := (T.below.block _ lg_16).trans kg_16
   have lg_22 := Nat.lt_of_lt_of_le lg_16 T.below.size
   have kg3_1_22 := (T.below.block _ lg3_1_16).trans kg3_1_16
   have lg3_1_22 := Nat.lt_of_lt_of_le lg3_1_16 T.below.size
   have Oo_22 := Eng.own_below Oo_16 T.below
   have h24_22 : act22.eval (.tmp 24) = .bool q25 := T.done 1 24 rfl rfl
   have d22 := T.defers.trans d16
   have s22 := T.size.trans s16
   have bl22 := bl16.trans (T.below.mono bl16.size)
   have XA_22 := Eng.Aft.step XA_16 T.below
   clear T
   refine Eng.tail_nil ?_
   first | show Code.wp Tryz.prog _ _ _ _ | skip
   refine wp_cond_split h24_22 (fun hq => ?_) (fun hq => ?_)
   ·
    have c24 := Bq25.symm.trans hq
    clear hq
    have hk_ : x.kind = 3 := by simpa using c24
    refine wp_seq ?_
    refine (wpIn_wide (n := 1)).1 ?_
    refine EngI.regionS EngI.free_wide (Eng.still [fun u_ => u_ = .pointer (some ⟨g, 0, none⟩)]) (fun _ => .plain) 1 2 53 s22 rfl (by kernel_rfl) (Eng.still_stable _) (Or.inr (Eng.still_any _)) (by kernel_rfl) ?_ ?_
    ·refine .cons (fun _ => ?_) (.cons (fun h => absurd h (by decide)) (.cons (fun h => absurd h (by decide)) (.nil)))
     ·exact Eng.plain rfl rfl fun a w' H => Eng.vr rfl (Eng.run_move rfl ((H.kept 0 (by kernel_rfl)).trans h0_22))
    intro act24 w24 T
    have kg_24 := (T.below.block _ lg_22).trans kg_22
    have Oo_24 := Eng.own_below Oo_22 T.below
    have h26_24 : act24.eval (.tmp 26) = .pointer (some ⟨g, 0, none⟩) := T.done 0 26 rfl rfl
    have d24 := T.defers.trans d22
    have s24 := T.size.trans s22
    have bl24 := bl22.trans (T.below.mono bl22.size)
    have XA_24 := Eng.Aft.step XA_22 T.below
    clear T
    refine EngI.tail_call EngI.free_wide Tryz.func43 (by kernel_rfl) (by kernel_rfl) rfl rfl rfl rfl #[.pointer (some ⟨g, 0, none⟩), .int .i64 2, .func (.func 45) #[] #[]] (by have e0 : act24.eval (.tmp 26) = .pointer (some ⟨g, 0, none⟩) := h26_24; have e1 : act24.eval (.const (.int .i64 2)) = .int .i64 2 := (rfl : act24.eval (.const (.int .i64 2)) = .int .i64 2); have e2 : act24.eval (.func 45) = .func (.func 45) #[] #[] := (rfl : act24.eval (.func 45) = .func (.func 45) #[] #[]); simp only [List.map_toArray, List.map_cons, List.map_nil, e0, e1, e2]) s24 rfl (R := fun v w' => v = .bool (Evt.pop [] 2 (fun _ => true)).isSome ∧ Below w.heap.size w w' ∧ ∀ st', Evt.pop [] 2 (fun _ => true) = some st' → ∃ o', Evt.Is w.heap.size w24 g o st' w' o') ((Evt.pop70_nil g o 2 w _ bl24 hlo kg_24 Oo_24 (by decide)).mono ?_) fun v_25 w25 act25 R d25 s25 hv hr => ?_
    ·rintro e w1 ⟨rfl, h1, h2⟩; exact ⟨_, rfl, rfl, h1, h2⟩
    have h27_25 : act25.eval (.tmp 27) = v_25 := hv
    have d25 := d25.trans d24
    clear hv hr
    obtain ⟨ev_25, bl25, hP0_25⟩ := R
    have hP25 : ∀ st', Evt.pop [] 2 (fun _ => true) = some st' → ∃ o', Evt.Is w.heap.size W0 g o st' w25 o' := fun st' h => (hP0_25 st' h).imp fun _ i => i.from XA_24
    rw [ev_25] at h27_25
    refine EngI.tail_val EngI.free_wide rfl rfl rfl rfl (Eng.run_assign rfl h27_25) s25 rfl fun act26 d26 s26 hv hr => ?_
    have h4_26 : act26.eval (.tmp 4) = .bool ((Evt.pop [] 2 (fun _ => true)).isSome) := hv
    have d26 := d26.trans d25
    clear hv hr
    refine EngI.tail_nil ?_
    first | show Code.wp Tryz.prog _ _ _ _ | skip
    refine wp_ret ?_
    repeat (first | refine Eng.in_ret ?_ | refine Eng.then_ret ?_)
    have e_ : Evt.takeF [] x.kind = Evt.pop [] 2 (fun _ => true) := by rw [hk_]; exact Evt.takeF_3 _
    exact Eng.ret1 rfl d26 h4_26 ⟨by rw [e_], bl25, by rw [e_]; exact hP25⟩
   ·
    have c24 := Bq25.symm.trans hq
    clear hq
    have hn3 : x.kind ≠ 3 := by simpa using c24
    refine wp_seq ?_
    obtain ⟨q29, Bq29⟩ : ∃ b : Bool, b = (x.kind == 5) := ⟨_, rfl⟩
    refine Eng.regionS (Eng.still [fun u_ => u_ = .bool q29, fun u_ => u_ = .bool q29]) (fun _ => .plain) 2 0 53 s22 rfl (by kernel_rfl) (Eng.still_stable _) (Or.inr (Eng.still_any _)) ?_ ?_
    ·refine .cons (fun _ => ?_) (.cons (fun _ => ?_) (.nil))
     ·refine Eng.plain rfl rfl fun a w' H => ?_
      refine Eng.vr (v := .bool (x.kind == 5)) (by show _ = Value.bool q29; rw [Bq29]) ?_
      have e0 : a.eval (.tmp 13) = .int .i64 x.kind := ((H.kept 13 (by kernel_rfl)).trans h13_22)
      have e1 : a.eval (.const (.int .i64 5)) = .int .i64 5 := (rfl : a.eval (.const (.int .i64 5)) = .int .i64 5)
      simp only [execOp, resolve, List.map_toArray, List.map_cons, List.map_nil, e0, e1]
      go_simp
      all_goals first | rfl | (simp; done) | (rw [Bool.eq_iff_iff]; simp; done) | omega | (split <;> first | (simp_all; done) | (split <;> simp_all; done)) | skip
     ·exact Eng.plain rfl rfl fun a w' H => Eng.vr rfl (Eng.run_assign rfl (H.dep 0 29 (by kernel_rfl) rfl))
    intro act28 w28 T
    have h0_28 := (T.rest 0 (by kernel_rfl)).trans h0_22
    have h3_28 := (T.rest 3 (by kernel_rfl)).trans h3_22
    have h5_28 := (T.rest 5 (by kernel_rfl)).trans h5_22
    have kg_28 := (T.below.block _ lg_22).trans kg_22
    have lg_28 := Nat.lt_of_lt_of_le lg_22 T.below.size
    have kg3_1_28 := (T.below.block _ lg3_1_22).trans kg3_1_22
    have lg3_1_28 := Nat.lt_of_lt_of_le lg3_1_22 T.below.size
    have Oo_28 := Eng.own_below Oo_22 T.below
    have h28_28 : act28.eval (.tmp 28) = .bool q29 := T.done 1 28 rfl rfl
    have d28 := T.defers.trans d22
    have s28 := T.size.trans s22
    have bl28 := bl22.trans (T.below.mono bl22.size)
    have XA_28 := Eng.Aft.step XA_22 T.below
    clear T
    refine Eng.tail_nil ?_
    first | show Code.wp Tryz.prog _ _ _ _ | skip
    refine wp_cond_split h28_28 (fun hq => ?_) (fun hq => ?_)
    ·
     have c28 := Bq29.symm.trans hq
     clear hq
     have hk_ : x.kind = 5 := by simpa using c28
     refine wp_seq ?_
     refine (wpIn_wide (n := 1)).1 ?_
     refine EngI.regionS EngI.free_wide (Eng.still [fun u_ => u_ = .pointer (some ⟨g, 0, none⟩)]) (fun _ => .plain) 1 2 53 s28 rfl (by kernel_rfl) (Eng.still_stable _) (Or.inr (Eng.still_any _)) (by kernel_rfl) ?_ ?_
     ·refine .cons (fun _ => ?_) (.cons (fun h => absurd h (by decide)) (.cons (fun h => absurd h (by decide)) (.nil)))
      ·exact Eng.plain rfl rfl fun a w' H => Eng.vr rfl (Eng.run_move rfl ((H.kept 0 (by kernel_rfl)).trans h0_28))
     intro act30 w30 T
     have kg_30 := (T.below.block _ lg_28).trans kg_28
     have Oo_30 := Eng.own_below Oo_28 T.below
     have h30_30 : act30.eval (.tmp 30) = .pointer (some ⟨g, 0, none⟩) := T.done 0 30 rfl rfl
     have d30 := T.defers.trans d28
     have s30 := T.size.trans s28
     have bl30 := bl28.trans (T.below.mono bl28.size)
     have XA_30 := Eng.Aft.step XA_28 T.below
     clear T
     refine EngI.tail_call EngI.free_wide Tryz.func43 (by kernel_rfl) (by kernel_rfl) rfl rfl rfl rfl #[.pointer (some ⟨g, 0, none⟩), .int .i64 4, .func (.func 46) #[] #[]] (by have e0 : act30.eval (.tmp 30) = .pointer (some ⟨g, 0, none⟩) := h30_30; have e1 : act30.eval (.const (.int .i64 4)) = .int .i64 4 := (rfl : act30.eval (.const (.int .i64 4)) = .int .i64 4); have e2 : act30.eval (.func 46) = .func (.func 46) #[] #[] := (rfl : act30.eval (.func 46) = .func (.func 46) #[] #[]); simp only [List.map_toArray, List.map_cons, List.map_nil, e0, e1, e2]) s30 rfl (R := fun v w' => v = .bool (Evt.pop [] 4 Evt.even).isSome ∧ Below w.heap.size w w' ∧ ∀ st', Evt.pop [] 4 Evt.even = some st' → ∃ o', Evt.Is w.heap.size w30 g o st' w' o') ((Evt.pop71_nil g o 4 w _ bl30 hlo kg_30 Oo_30 (by decide)).mono ?_) fun v_31 w31 act31 R d31 s31 hv hr => ?_
     ·rintro e w1 ⟨rfl, h1, h2⟩; exact ⟨_, rfl, rfl, h1, h2⟩
     have h31_31 : act31.eval (.tmp 31) = v_31 := hv
     have d31 := d31.trans d30
     clear hv hr
     obtain ⟨ev_31, bl31, hP0_31⟩ := R
     have hP31 : ∀ st', Evt.pop [] 4 Evt.even = some st' → ∃ o', Evt.Is w.heap.size W0 g o st' w31 o' := fun st' h => (hP0_31 st' h).imp fun _ i => i.from XA_30
     rw [ev_31] at h31_31
     refine EngI.tail_val EngI.free_wide rfl rfl rfl rfl (Eng.run_assign rfl h31_31) s31 rfl fun act32 d32 s32 hv hr => ?_
     have h4_32 : act32.eval (.tmp 4) = .bool ((Evt.pop [] 4 Evt.even).isSome) := hv
     have d32 := d32.trans d31
     clear hv hr
     refine EngI.tail_nil ?_
     first | show Code.wp Tryz.prog _ _ _ _ | skip
     refine wp_ret ?_
     repeat (first | refine Eng.in_ret ?_ | refine Eng.then_ret ?_)
     have e_ : Evt.takeF [] x.kind = Evt.pop [] 4 Evt.even := by rw [hk_]; exact Evt.takeF_5 _
     exact Eng.ret1 rfl d32 h4_32 ⟨by rw [e_], bl31, by rw [e_]; exact hP31⟩
    ·
     have c28 := Bq29.symm.trans hq
     clear hq
     have hn5 : x.kind ≠ 5 := by simpa using c28
     refine wp_skip ?_
     first | show Code.wp Tryz.prog _ _ _ _ | skip
     refine wp_seq ?_
     refine (wpIn_wide (n := 1)).1 ?_
     refine EngI.regionS EngI.free_wide (Eng.still [fun u_ => u_ = .pointer (some ⟨g, 0, none⟩)]) (fun _ => .plain) 1 8 53 s28 rfl (by kernel_rfl) (Eng.still_stable _) (Or.inr (Eng.still_any _)) (by kernel_rfl) ?_ ?_
     ·refine .cons (fun _ => ?_) (.cons (fun h => absurd h (by decide)) (.cons (fun h => absurd h (by decide)) (.cons (fun h => absurd h (by decide)) (.cons (fun h => absurd h (by decide)) (.cons (fun h => absurd h (by decide)) (.cons (fun h => absurd h (by decide)) (.cons (fun h => absurd h (by decide)) (.cons (fun h => absurd h (by decide)) (.nil)))))))))
      ·exact Eng.plain rfl rfl fun a w' H => Eng.vr rfl (Eng.run_move rfl ((H.kept 0 (by kernel_rfl)).trans h0_28))
     intro act34 w34 T
     have h0_34 := (T.rest 0 (by kernel_rfl)).trans h0_28
     have h3_34 := (T.rest 3 (by kernel_rfl)).trans h3_28
     have h5_34 := (T.rest 5 (by kernel_rfl)).trans h5_28
     have kg_34 := (T.below.block _ lg_28).trans kg_28
     have lg_34 := Nat.lt_of_lt_of_le lg_28 T.below.size
     have kg3_1_34 := (T.below.block _ lg3_1_28).trans kg3_1_28
     have lg3_1_34 := Nat.lt_of_lt_of_le lg3_1_28 T.below.size
     have Oo_34 := Eng.own_below Oo_28 T.below
     have h32_34 : act34.eval (.tmp 32) = .pointer (some ⟨g, 0, none⟩) := T.done 0 32 rfl rfl
     have d34 := T.defers.trans d28
     have s34 := T.size.trans s28
     have bl34 := bl28.trans (T.below.mono bl28.size)
     have XA_34 := Eng.Aft.step XA_28 T.below
     clear T
     refine EngI.tail_call EngI.free_wide Tryz.func41 (by kernel_rfl) (by kernel_rfl) rfl rfl rfl rfl #[.pointer (some ⟨g, 0, none⟩)] (by have e0 : act34.eval (.tmp 32) = .pointer (some ⟨g, 0, none⟩) := h32_34; simp only [List.map_toArray, List.map_cons, List.map_nil, e0]) s34 rfl (R := fun v w' => ∃ h, v = .pointer (some ⟨h, 0, none⟩) ∧ w34.heap.size ≤ h ∧ h < w'.heap.size ∧ w'.heap[h]? = some (.cells #[.int .i64 (-1), .int .i64 0] 71 (0, 0)) ∧ Below w34.heap.size w34 w') ((Evt.last_nil g o w.heap.size _ kg_34 Oo_34).mono ?_) fun v_35 w35 act35 R d35 s35 hv hr => ?_
     ·rintro e w1 ⟨h, rfl, h1⟩; exact ⟨_, rfl, h, rfl, h1⟩
     have h0_35 := (hr 0 rfl).trans h0_34
     have h3_35 := (hr 3 rfl).trans h3_34
     have h5_35 := (hr 5 rfl).trans h5_34
     have h33_35 : act35.eval (.tmp 33) = v_35 := hv
     have d35 := d35.trans d34
     clear hv hr
     obtain ⟨h35, ev_35, rg_35, lgh35, kgh35, b_35⟩ := R
     have ne_h35_g : g ≠ h35 := fun e => Nat.lt_irrefl _ (Nat.lt_of_lt_of_le (e ▸ lg_34) rg_35)
     have ne_h35_g3_1 : g3_1 ≠ h35 := fun e => Nat.lt_irrefl _ (Nat.lt_of_lt_of_le (e ▸ lg3_1_34) rg_35)
     have og35 : w.heap.size ≤ h35 := Nat.le_trans bl34.size rg_35
     have nw35 : W0.heap.size ≤ h35 := Nat.le_trans XA_34.size rg_35
     have kg_35 := (b_35.block _ lg_34).trans kg_34
     have lg_35 := Nat.lt_of_lt_of_le lg_34 b_35.size
     have kg3_1_35 := (b_35.block _ lg3_1_34).trans kg3_1_34
     have lg3_1_35 := Nat.lt_of_lt_of_le lg3_1_34 b_35.size
     have Oo_35 := Eng.own_below Oo_34 b_35
     have bl35 := bl34.trans (b_35.mono bl34.size)
     rw [ev_35] at h33_35
     refine EngI.tail_val (w1 := w35) (v := .pointer (some ⟨h35, 0, none⟩)) EngI.free_wide rfl rfl rfl rfl ?_ s35 rfl ?_
     ·exact Eng.run_nilb rfl h33_35
     intro act36 d36 s36 hv hr
     have h0_36 := (hr 0 rfl).trans h0_35
     have h3_36 := (hr 3 rfl).trans h3_35
     have h5_36 := (hr 5 rfl).trans h5_35
     have h33_36 := (hr 33 rfl).trans h33_35
     have h34_36 : act36.eval (.tmp 34) = .pointer (some ⟨h35, 0, none⟩) := hv
     have d36 := d36.trans d35
     clear hv hr
     refine EngI.tail_val (w1 := w35) (v := .pointer (some ⟨h35, 1, none⟩)) EngI.free_wide rfl rfl rfl rfl ?_ s36 rfl ?_
     ·exact Eng.run_fieldb rfl Tryz.underlying71 1 (by kernel_rfl) h34_36
     intro act37 d37 s37 hv hr
     have h0_37 := (hr 0 rfl).trans h0_36
     have h3_37 := (hr 3 rfl).trans h3_36
     have h5_37 := (hr 5 rfl).trans h5_36
     have h33_37 := (hr 33 rfl).trans h33_36
     have h35_37 : act37.eval (.tmp 35) = .pointer (some ⟨h35, 1, none⟩) := hv
     have d37 := d37.trans d36
     clear hv hr
     refine EngI.tail_val (w1 := w35) (v := .int .i64 0) EngI.free_wide rfl rfl rfl rfl ?_ s37 rfl ?_
     ·exact Eng.run_loadb rfl h35_37 (((Below.refl _ _).block _ lgh35).trans kgh35) rfl (by kernel_rfl)
     intro act38 d38 s38 hv hr
     have h0_38 := (hr 0 rfl).trans h0_37
     have h3_38 := (hr 3 rfl).trans h3_37
     have h5_38 := (hr 5 rfl).trans h5_37
     have h33_38 := (hr 33 rfl).trans h33_37
     have h36_38 : act38.eval (.tmp 36) = .int .i64 0 := hv
     have d38 := d38.trans d37
     clear hv hr
     refine EngI.tail_val (w1 := w35) (v := .int .i64 (IntKind.i64.wrap (0 + 1))) EngI.free_wide rfl rfl rfl rfl ?_ s38 rfl ?_
     ·have e0 : act38.eval (.tmp 36) = .int .i64 0 := h36_38
      have e1 : act38.eval (.const (.int .i64 1)) = .int .i64 1 := (rfl : act38.eval (.const (.int .i64 1)) = .int .i64 1)
      simp only [execOp, resolve, List.map_toArray, List.map_cons, List.map_nil, e0, e1]
      go_simp
      all_goals first | rfl | (simp; done) | (rw [Bool.eq_iff_iff]; simp; done) | omega | (split <;> first | (simp_all; done) | (split <;> simp_all; done)) | skip
     intro act39 d39 s39 hv hr
     have h0_39 := (hr 0 rfl).trans h0_38
     have h3_39 := (hr 3 rfl).trans h3_38
     have h5_39 := (hr 5 rfl).trans h5_38
     have h33_39 := (hr 33 rfl).trans h33_38
     have h37_39 : act39.eval (.tmp 37) = .int .i64 (IntKind.i64.wrap (0 + 1)) := hv
     have d39 := d39.trans d38
     clear hv hr
     refine EngI.tail_val (w1 := w35) (v := .pointer (some ⟨h35, 0, none⟩)) EngI.free_wide rfl rfl rfl rfl ?_ s39 rfl ?_
     ·exact Eng.run_nilb rfl h33_39
     intro act40 d40 s40 hv hr
     have h0_40 := (hr 0 rfl).trans h0_39
     have h3_40 := (hr 3 rfl).trans h3_39
     have h5_40 := (hr 5 rfl).trans h5_39
     have h37_40 := (hr 37 rfl).trans h37_39
     have h38_40 : act40.eval (.tmp 38) = .pointer (some ⟨h35, 0, none⟩) := hv
     have d40 := d40.trans d39
     clear hv hr
     refine EngI.tail_val (w1 := w35) (v := .pointer (some ⟨h35, 1, none⟩)) EngI.free_wide rfl rfl rfl rfl ?_ s40 rfl ?_
     ·exact Eng.run_fieldb rfl Tryz.underlying71 1 (by kernel_rfl) h38_40
     intro act41 d41 s41 hv hr
     have h0_41 := (hr 0 rfl).trans h0_40
     have h3_41 := (hr 3 rfl).trans h3_40
     have h5_41 := (hr 5 rfl).trans h5_40
     have h37_41 := (hr 37 rfl).trans h37_40
     have h39_41 : act41.eval (.tmp 39) = .pointer (some ⟨h35, 1, none⟩) := hv
     have d41 := d41.trans d40
     clear hv hr
     refine EngI.tail_set EngI.free_wide (n := 1) (v := .int .i64 (IntKind.i64.wrap (0 + 1))) (new := #[.int .i64 (-1), .int .i64 (IntKind.i64.wrap (0 + 1))]) rfl rfl rfl rfl kgh35 rfl ?_ fun w42 S => ?_
     ·have e0 : act41.eval (.tmp 39) = .pointer (some ⟨h35, 1, none⟩) := h39_41
      have e1 : act41.eval (.tmp 37) = .int .i64 (IntKind.i64.wrap (0 + 1)) := h37_41
      have z0 := (Eng.cells kgh35 (1)).trans (rfl)
      have f0 := Eng.unfrozen kgh35 (1)
      simp only [execOp]
      rw [e0, e1]
      go_simp
     have kg_42 := (S.far _ ne_h35_g).trans kg_35
     have lg_42 := Nat.lt_of_lt_of_eq lg_35 S.size.symm
     have kg3_1_42 := (S.far _ ne_h35_g3_1).trans kg3_1_35
     have lg3_1_42 := Nat.lt_of_lt_of_eq lg3_1_35 S.size.symm
     have bl42 := S.below bl35 og35
     have Oo_42 := Evt.own_sets_ne Oo_35 S (fun b e => by have h1 := (Eng.ownB hO e).2.1; have h2 := nw35; omega)
     clear S
     refine EngI.tail_nil ?_
     first | show Code.wp Tryz.prog _ _ _ _ | skip
     refine wp_seq ?_
     refine wp_seq ?_
     obtain ⟨q42, Bq42⟩ : ∃ b : Bool, b = (x.kind == 2) := ⟨_, rfl⟩
     obtain ⟨q46, Bq46⟩ : ∃ b : Bool, b = (x.kind == 4) := ⟨_, rfl⟩
     obtain ⟨q47, Bq47⟩ : ∃ b : Bool, b = (q42 || q46) := ⟨_, rfl⟩
     refine Eng.regionS (Eng.still [fun u_ => u_ = .pointer (some ⟨g3_1, 0, none⟩), fun u_ => u_ = .int .i64 x.kind, fun u_ => u_ = .bool q42, fun u_ => u_ = .bool q42, fun u_ => u_ = bif (q42 == false) then (.pointer (some ⟨g3_1, 0, none⟩)) else undef, fun u_ => u_ = bif (q42 == false) then (.int .i64 x.kind) else undef, fun u_ => u_ = bif (q42 == false) then (.bool q46) else undef, fun u_ => u_ = .bool q47]) (fun _ => .plain) 8 0 53 s41 rfl (by kernel_rfl) (Eng.still_stable _) (Or.inr (Eng.still_any _)) ?_ ?_
     ·refine .cons (fun _ => ?_) (.cons (fun _ => ?_) (.cons (fun _ => ?_) (.cons (fun _ => ?_) (.cons (fun _ => ?_) (.cons (fun _ => ?_) (.cons (fun _ => ?_) (.cons (fun _ => ?_) (.nil))))))))
      ·exact Eng.plain rfl rfl fun a w' H => Eng.vr rfl (Eng.run_fieldb rfl Tryz.underlying29 0 (by kernel_rfl) ((H.kept 3 (by kernel_rfl)).trans h3_41))
      ·exact Eng.plain rfl rfl fun a w' H => Eng.vr rfl (Eng.run_loadb rfl (H.dep 0 40 (by kernel_rfl) rfl) ((H.below.block _ lg3_1_42).trans kg3_1_42) rfl (by kernel_rfl))
      ·refine Eng.plain rfl rfl fun a w' H => ?_
       refine Eng.vr (v := .bool (x.kind == 2)) (by show _ = Value.bool q42; rw [Bq42]) ?_
       have e0 : a.eval (.tmp 41) = .int .i64 x.kind := (H.dep 1 41 (by kernel_rfl) rfl)
       have e1 : a.eval (.const (.int .i64 2)) = .int .i64 2 := (rfl : a.eval (.const (.int .i64 2)) = .int .i64 2)
       simp only [execOp, resolve, List.map_toArray, List.map_cons, List.map_nil, e0, e1]
       go_simp
       all_goals first | rfl | (simp; done) | (rw [Bool.eq_iff_iff]; simp; done) | omega | (split <;> first | (simp_all; done) | (split <;> simp_all; done)) | skip
      ·exact Eng.plain rfl rfl fun a w' H => Eng.vr rfl (Eng.run_move rfl (H.dep 2 42 (by kernel_rfl) rfl))
      ·refine Eng.guarded1 (j := 3) (d := 43) (b := q42) rfl rfl (by kernel_rfl) rfl (fun v w h => h) (fun hG w => Eng.off hG) fun hG a w' H => ?_
       exact Eng.val (w1 := w') (v := .pointer (some ⟨g3_1, 0, none⟩)) (Eng.run_fieldb rfl Tryz.underlying29 0 (by kernel_rfl) ((H.kept 3 (by kernel_rfl)).trans h3_41)) (Below.refl _ _) (Eng.off' hG rfl)
      ·refine Eng.guarded1 (j := 3) (d := 43) (b := q42) rfl rfl (by kernel_rfl) rfl (fun v w h => h) (fun hG w => Eng.off hG) fun hG a w' H => ?_
       exact Eng.val (w1 := w') (v := .int .i64 x.kind) (Eng.run_loadb rfl (Eng.on (H.dep 4 44 (by kernel_rfl) rfl) hG) ((H.below.block _ lg3_1_42).trans kg3_1_42) rfl (by kernel_rfl)) (Below.refl _ _) (Eng.off' hG rfl)
      ·refine Eng.guarded1 (j := 3) (d := 43) (b := q42) rfl rfl (by kernel_rfl) rfl (fun v w h => h) (fun hG w => Eng.off hG) fun hG a w' H => ?_
       refine Eng.vr (v := .bool (x.kind == 4)) (Eng.off' hG (by rw [Bq46])) ?_
       have e0 : a.eval (.tmp 45) = .int .i64 x.kind := (Eng.on (H.dep 5 45 (by kernel_rfl) rfl) hG)
       have e1 : a.eval (.const (.int .i64 4)) = .int .i64 4 := (rfl : a.eval (.const (.int .i64 4)) = .int .i64 4)
       simp only [execOp, resolve, List.map_toArray, List.map_cons, List.map_nil, e0, e1]
       go_simp
       all_goals first | rfl | (simp; done) | (rw [Bool.eq_iff_iff]; simp; done) | omega | (split <;> first | (simp_all; done) | (split <;> simp_all; done)) | skip
      ·exact Eng.plain rfl rfl fun a w' H => Eng.vr (v := .bool (q42 || q46)) (by show _ = Value.bool q47; rw [Bq47]) (Eng.run_or rfl rfl (G := true) (H.dep 3 43 (by kernel_rfl) rfl) (fun hb => (Eng.on (H.dep 6 46 (by kernel_rfl) rfl) (Eng.mk1 hb))))
     intro act43 w43 T
     have h0_43 := (T.rest 0 (by kernel_rfl)).trans h0_41
     have h3_43 := (T.rest 3 (by kernel_rfl)).trans h3_41
     have h5_43 := (T.rest 5 (by kernel_rfl)).trans h5_41
     have kg_43 := (T.below.block _ lg_42).trans kg_42
     have lg_43 := Nat.lt_of_lt_of_le lg_42 T.below.size
     have kg3_1_43 := (T.below.block _ lg3_1_42).trans kg3_1_42
     have lg3_1_43 := Nat.lt_of_lt_of_le lg3_1_42 T.below.size
     have Oo_43 := Eng.own_below Oo_42 T.below
     have h47_43 : act43.eval (.tmp 47) = .bool q47 := T.done 7 47 rfl rfl
     have d43 := T.defers.trans d41
     have s43 := T.size.trans s41
     have bl43 := bl42.trans (T.below.mono bl42.size)
     clear T
     refine Eng.tail_nil ?_
     first | show Code.wp Tryz.prog _ _ _ _ | skip
     refine wp_cond_split h47_43 (fun hq => ?_) (fun hq => ?_)
     ·
      have c47 := Bq47.symm.trans hq
      clear hq
      have h24 : x.kind = 2 ∨ x.kind = 4 := by have h := c47; rw [Bq42, Bq46] at h; simpa using h
      refine (wpIn_wide (n := 1)).1 ?_
      refine EngI.regionS EngI.free_wide (Eng.still [fun u_ => u_ = .pointer (some ⟨g, 0, none⟩), fun u_ => u_ = .pointer (some ⟨g3_1, 0, none⟩), fun u_ => u_ = .int .i64 x.kind]) (fun _ => .plain) 3 1 53 s43 rfl (by kernel_rfl) (Eng.still_stable _) (Or.inr (Eng.still_any _)) (by kernel_rfl) ?_ ?_
      ·refine .cons (fun _ => ?_) (.cons (fun _ => ?_) (.cons (fun _ => ?_) (.cons (fun h => absurd h (by decide)) (.nil))))
       ·exact Eng.plain rfl rfl fun a w' H => Eng.vr rfl (Eng.run_move rfl ((H.kept 0 (by kernel_rfl)).trans h0_43))
       ·exact Eng.plain rfl rfl fun a w' H => Eng.vr rfl (Eng.run_fieldb rfl Tryz.underlying29 0 (by kernel_rfl) ((H.kept 3 (by kernel_rfl)).trans h3_43))
       ·exact Eng.plain rfl rfl fun a w' H => Eng.vr rfl (Eng.run_loadb rfl (H.dep 1 49 (by kernel_rfl) rfl) ((H.below.block _ lg3_1_43).trans kg3_1_43) rfl (by kernel_rfl))
      intro act45 w45 T
      have h5_45 := (T.rest 5 (by kernel_rfl)).trans h5_43
      have kg_45 := (T.below.block _ lg_43).trans kg_43
      have Oo_45 := Eng.own_below Oo_43 T.below
      have h48_45 : act45.eval (.tmp 48) = .pointer (some ⟨g, 0, none⟩) := T.done 0 48 rfl rfl
      have h50_45 : act45.eval (.tmp 50) = .int .i64 x.kind := T.done 2 50 rfl rfl
      have d45 := T.defers.trans d43
      have s45 := T.size.trans s43
      have bl45 := bl43.trans (T.below.mono bl43.size)
      clear T
      refine EngI.tail_call EngI.free_wide Tryz.func42 (by kernel_rfl) (by kernel_rfl) rfl rfl rfl rfl #[.pointer (some ⟨g, 0, none⟩), .int .i64 x.kind] (by have e0 : act45.eval (.tmp 48) = .pointer (some ⟨g, 0, none⟩) := h48_45; have e1 : act45.eval (.tmp 50) = .int .i64 x.kind := h50_45; simp only [List.map_toArray, List.map_cons, List.map_nil, e0, e1]) s45 rfl (R := fun v w' => ∃ o', Evt.Is w.heap.size w45 g o ([] ++ [(x.kind, 0)]) w' o') ((Evt.push_calls g o [] x.kind w _ bl45 hlo kg_45 Oo_45 (by first | exact hst | (simp at hst ⊢; omega))).mono ?_) fun v_46 w46 act46 R d46 s46 hv hr => ?_
      ·rintro e w1 ⟨v1, o1, rfl, h1⟩; exact ⟨_, rfl, o1, h1⟩
      have h5_46 := (hr 5 rfl).trans h5_45
      have d46 := d46.trans d45
      clear hv hr
      obtain ⟨o46, I46⟩ := R
      have bl46 := Eng.Aft.below I46.aft bl45 (Nat.le_refl _) (Evt.nst_lo hlo Oo_45)
      refine EngI.tail_nil ?_
      first | show Code.wp Tryz.prog _ _ _ _ | skip
      refine wp_seq ?_
      refine Eng.regionS (Eng.still [fun u_ => u_ = .bool false, fun u_ => u_ = .bool false]) (fun _ => .plain) 2 0 53 s46 rfl (by kernel_rfl) (Eng.still_stable _) (Or.inr (Eng.still_any _)) ?_ ?_
      ·refine .cons (fun _ => ?_) (.cons (fun _ => ?_) (.nil))
       ·exact Eng.plain rfl rfl fun a w' H => Eng.vr rfl (Eng.run_move rfl ((H.kept 5 (by kernel_rfl)).trans h5_46))
       ·exact Eng.plain rfl rfl fun a w' H => Eng.vr rfl (Eng.run_assign rfl (H.dep 0 52 (by kernel_rfl) rfl))
      intro act47 w47 T
      have h4_47 : act47.eval (.tmp 4) = .bool false := T.done 1 4 rfl rfl
      have d47 := T.defers.trans d46
      have bl47 := bl46.trans (T.below.mono bl46.size)
      clear T
      refine Eng.tail_nil ?_
      first | show Code.wp Tryz.prog _ _ _ _ | skip
      refine wp_ret ?_
      repeat (first | refine Eng.in_ret ?_ | refine Eng.then_ret ?_)
      have e_ : Evt.takeF [] x.kind = none := by rw [Evt.takeF_x _ _ hn0 hn1 hn3 hn5, if_pos (show ([] : List (Int × Int)).isEmpty = true from rfl)]
      exact Eng.ret1 rfl d47 h4_47 ⟨by rw [e_]; first | rfl | (rw [Bq19]; rfl), bl47, fun st' h => by rw [e_] at h; cases h⟩
     ·
      have c47 := Bq47.symm.trans hq
      clear hq
      have h24 : ¬ (x.kind = 2 ∨ x.kind = 4) := by have h := c47; rw [Bq42, Bq46] at h; simpa using h
      refine wp_skip ?_
      first | show Code.wp Tryz.prog _ _ _ _ | skip
      refine wp_seq ?_
      refine Eng.regionS (Eng.still [fun u_ => u_ = .bool false, fun u_ => u_ = .bool false]) (fun _ => .plain) 2 0 53 s43 rfl (by kernel_rfl) (Eng.still_stable _) (Or.inr (Eng.still_any _)) ?_ ?_
      ·refine .cons (fun _ => ?_) (.cons (fun _ => ?_) (.nil))
       ·exact Eng.plain rfl rfl fun a w' H => Eng.vr rfl (Eng.run_move rfl ((H.kept 5 (by kernel_rfl)).trans h5_43))
       ·exact Eng.plain rfl rfl fun a w' H => Eng.vr rfl (Eng.run_assign rfl (H.dep 0 52 (by kernel_rfl) rfl))
      intro act49 w49 T
      have h4_49 : act49.eval (.tmp 4) = .bool false := T.done 1 4 rfl rfl
      have d49 := T.defers.trans d43
      have bl49 := bl43.trans (T.below.mono bl43.size)
      clear T
      refine Eng.tail_nil ?_
      first | show Code.wp Tryz.prog _ _ _ _ | skip
      refine wp_ret ?_
      repeat (first | refine Eng.in_ret ?_ | refine Eng.then_ret ?_)
      have e_ : Evt.takeF [] x.kind = none := by rw [Evt.takeF_x _ _ hn0 hn1 hn3 hn5, if_pos (show ([] : List (Int × Int)).isEmpty = true from rfl)]
      exact Eng.ret1 rfl d49 h4_49 ⟨by rw [e_]; first | rfl | (rw [Bq19]; rfl), bl49, fun st' h => by rw [e_] at h; cases h⟩
set_option maxHeartbeats 4000000 in
set_option maxRecDepth 100000 in
theorem Evt.take_top (g : Nat) (o : Value) (x : Evt.Ev) (pre : List (Int × Int)) (t : Int × Int) (w W0 : World) (hB : Below w.heap.size w W0) (hlo : w.heap.size ≤ g) (hk : W0.heap[g]? = some (.cells #[o] 49 (0, 0))) (hO : W0.ownsRow w.heap.size 71 2 o (pre ++ [t]).length (Evt.opens (pre ++ [t]))) (hst : (pre ++ [t]).length ≤ 100000) (ht : 0 ≤ t.1) : Calls Tryz.prog 26 #[.pointer (some ⟨g, 0, none⟩), .agg #[.int .i64 x.kind, .string x.anchor, .string x.tag, .string x.text, .bool x.plain]] W0 fun e w' => e = .returned (.bool (Evt.takeF (pre ++ [t]) x.kind).isSome) ∧ Below w.heap.size w w' ∧ ∀ st', Evt.takeF (pre ++ [t]) x.kind = some st' → ∃ o', Evt.Is w.heap.size W0 g o st' w' o' := by
 refine Eng.enter Tryz.func26 rfl fun act0 d0 s0 v0 => ?_
 have s0 : act0.tmps.size = 53 := s0
 have h0_0 : act0.eval (.tmp 0) = .pointer (some ⟨g, 0, none⟩) := v0 0 (by simp)
 have h1_0 : act0.eval (.tmp 1) = .agg #[.int .i64 x.kind, .string x.anchor, .string x.tag, .string x.text, .bool x.plain] := v0 1 (by simp)
 clear v0
 refine wp_seq ?_
 refine Eng.regionS (Eng.still [fun u_ => True, fun u_ => u_ = .bool false]) (fun i => ([.alloc 29 #[.int .i64 x.kind, .string x.anchor, .string x.tag, .string x.text, .bool x.plain], .plain] : List Eng.Kind).getD i .plain) 2 0 53 s0 rfl (by kernel_rfl) (Eng.still_stable _) (Or.inr (Eng.still_any _)) ?_ ?_
 ·refine .cons (fun _ => ?_) (.cons (fun _ => ?_) (.nil))
  ·refine Eng.made rfl (by simp) rfl (fun a w' hd ho => ?_) (fun _ _ => trivial)
   exact Eng.run_box rfl ((ho 1 (by kernel_rfl)).trans h1_0)
  ·exact Eng.plain rfl rfl fun a w' H => Eng.vr rfl (Eng.run_assign rfl (rfl : a.eval (.const (.bool false)) = .bool false))
 intro act1 w1 T
 have h0_1 := (T.rest 0 (by kernel_rfl)).trans h0_0
 have kg_1 := (T.below.block _ (Array.getElem?_eq_some_iff.1 hk).1).trans hk
 have lg_1 := Nat.lt_of_lt_of_le (Array.getElem?_eq_some_iff.1 hk).1 T.below.size
 have Fo_1 := Eng.Reads.below (Eng.Reads.of_own hO) T.below
 have Oo_1 := Eng.own_below hO T.below
 obtain ⟨g3_1, h3_1, rg3_1, lg3_1_1, kg3_1_1⟩ := T.al 0 3 _ _ rfl rfl rfl (by kernel_rfl)
 have d1 := T.defers.trans d0
 have s1 := T.size.trans s0
 have bl1 := hB.trans (T.below.mono hB.size)
 have XA_1 := Eng.Aft.step (Eng.Aft.refl (Eng.Nst g o) W0) T.below
 clear T
 refine Eng.tail_nil ?_
 first | show Code.wp Tryz.prog _ _ _ _ | skip
 refine wp_seq ?_
 refine (wpIn_wide (n := 1)).1 ?_
 refine EngI.regionS EngI.free_wide (Eng.still [fun u_ => u_ = .pointer (some ⟨g, 0, none⟩)]) (fun _ => .plain) 1 6 53 s1 rfl (by kernel_rfl) (Eng.still_stable _) (Or.inr (Eng.still_any _)) (by kernel_rfl) ?_ ?_
 ·refine .cons (fun _ => ?_) (.cons (fun h => absurd h (by decide)) (.cons (fun h => absurd h (by decide)) (.cons (fun h => absurd h (by decide)) (.cons (fun h => absurd h (by decide)) (.cons (fun h => absurd h (by decide)) (.cons (fun h => absurd h (by decide)) (.nil)))))))
  ·exact Eng.plain rfl rfl fun a w' H => Eng.vr rfl (Eng.run_move rfl ((H.kept 0 (by kernel_rfl)).trans h0_1))
 intro act2 w2 T
 have h0_2 := (T.rest 0 (by kernel_rfl)).trans h0_1
 have h3_2 := (T.rest 3 (by kernel_rfl)).trans h3_1
 have kg_2 := (T.below.block _ lg_1).trans kg_1
 have lg_2 := Nat.lt_of_lt_of_le lg_1 T.below.size
 have kg3_1_2 := (T.below.block _ lg3_1_1).trans kg3_1_1
 have lg3_1_2 := Nat.lt_of_lt_of_le lg3_1_1 T.below.size
 have Fo_2 := Eng.Reads.below Fo_1 T.below
 have Oo_2 := Eng.own_below Oo_1 T.below
 have h6_2 : act2.eval (.tmp 6) = .pointer (some ⟨g, 0, none⟩) := T.done 0 6 rfl rfl
 have d2 := T.defers.trans d1
 have s2 := T.size.trans s1
 have bl2 := bl1.trans (T.below.mono bl1.size)
 have XA_2 := Eng.Aft.step XA_1 T.below
 clear T
 refine EngI.tail_call EngI.free_wide Tryz.func41 (by kernel_rfl) (by kernel_rfl) rfl rfl rfl rfl #[.pointer (some ⟨g, 0, none⟩)] (by have e0 : act2.eval (.tmp 6) = .pointer (some ⟨g, 0, none⟩) := h6_2; simp only [List.map_toArray, List.map_cons, List.map_nil, e0]) s2 rfl (R := fun v w' => v = Eng.elemPtr o (pre.length * 2) ∧ Below w2.heap.size w2 w') ((Evt.last_top g o w.heap.size pre t _ kg_2 Oo_2).mono ?_) fun v_3 w3 act3 R d3 s3 hv hr => ?_
 ·rintro e w1 ⟨rfl, h1⟩; exact ⟨_, rfl, rfl, h1⟩
 have h0_3 := (hr 0 rfl).trans h0_2
 have h3_3 := (hr 3 rfl).trans h3_2
 have h7_3 : act3.eval (.tmp 7) = v_3 := hv
 have d3 := d3.trans d2
 clear hv hr
 obtain ⟨ev_3, b_3⟩ := R
 have kg_3 := (b_3.block _ lg_2).trans kg_2
 have lg_3 := Nat.lt_of_lt_of_le lg_2 b_3.size
 have kg3_1_3 := (b_3.block _ lg3_1_2).trans kg3_1_2
 have lg3_1_3 := Nat.lt_of_lt_of_le lg3_1_2 b_3.size
 have Fo_3 := Eng.Reads.below Fo_2 b_3
 have Oo_3 := Eng.own_below Oo_2 b_3
 have XA_3 := Eng.Aft.step XA_2 b_3
 have bl3 := bl2.trans (b_3.mono bl2.size)
 rw [ev_3] at h7_3
 refine EngI.tail_val (w1 := w3) (v := Eng.elemPtr o (pre.length * 2)) EngI.free_wide rfl rfl rfl rfl ?_ s3 rfl ?_
 ·exact Eng.run_nil_el rfl (show act3.eval (.tmp 7) = Eng.elemPtr o (pre.length * 2) from h7_3) Fo_3 (by have h_ : pre.length < (pre ++ [t]).length := (by simp); omega)
 intro act4 d4 s4 hv hr
 have h0_4 := (hr 0 rfl).trans h0_3
 have h3_4 := (hr 3 rfl).trans h3_3
 have h8_4 : act4.eval (.tmp 8) = Eng.elemPtr o (pre.length * 2) := hv
 have d4 := d4.trans d3
 clear hv hr
 refine EngI.tail_val (w1 := w3) (v := Eng.elemPtr o (pre.length * 2 + 0)) EngI.free_wide rfl rfl rfl rfl ?_ s4 rfl ?_
 ·exact Eng.run_field_el rfl Tryz.underlying71 0 (by kernel_rfl) (show act4.eval (.tmp 8) = Eng.elemPtr o (pre.length * 2) from h8_4) Fo_3 (by have h_ : pre.length < (pre ++ [t]).length := (by simp); omega)
 intro act5 d5 s5 hv hr
 have h0_5 := (hr 0 rfl).trans h0_4
 have h3_5 := (hr 3 rfl).trans h3_4
 have h9_5 : act5.eval (.tmp 9) = Eng.elemPtr o (pre.length * 2 + 0) := hv
 have d5 := d5.trans d4
 clear hv hr
 refine EngI.tail_val (w1 := w3) (v := .int .i64 t.1) EngI.free_wide rfl rfl rfl rfl ?_ s5 rfl ?_
 ·exact Eng.run_load_el (.int .i64 t.1) rfl (show act5.eval (.tmp 9) = Eng.elemPtr o (pre.length * 2 + 0) from h9_5) Fo_3 (Evt.top_0 pre t) (by kernel_rfl)
 intro act6 d6 s6 hv hr
 have h0_6 := (hr 0 rfl).trans h0_5
 have h3_6 := (hr 3 rfl).trans h3_5
 have h10_6 : act6.eval (.tmp 10) = .int .i64 t.1 := hv
 have d6 := d6.trans d5
 clear hv hr
 refine EngI.tail_val (w1 := w3) (v := .bool (decide (t.1 ≥ 0))) EngI.free_wide rfl rfl rfl rfl ?_ s6 rfl ?_
 ·have e0 : act6.eval (.tmp 10) = .int .i64 t.1 := h10_6
  have e1 : act6.eval (.const (.int .i64 0)) = .int .i64 0 := (rfl : act6.eval (.const (.int .i64 0)) = .int .i64 0)
  simp only [execOp, resolve, List.map_toArray, List.map_cons, List.map_nil, e0, e1]
  go_simp
  all_goals first | rfl | (simp; done) | (rw [Bool.eq_iff_iff]; simp; done) | omega | (split <;> first | (simp_all; done) | (split <;> simp_all; done)) | skip
 intro act7 d7 s7 hv hr
 have h0_7 := (hr 0 rfl).trans h0_6
 have h3_7 := (hr 3 rfl).trans h3_6
 have h11_7 : act7.eval (.tmp 11) = .bool true := hv.trans (congrArg Value.bool (decide_eq_true ht : _ = true))
 have d7 := d7.trans d6
 clear hv hr
 refine EngI.tail_val EngI.free_wide rfl rfl rfl rfl (Eng.run_assign rfl h11_7) s7 rfl fun act8 d8 s8 hv hr => ?_
 have h0_8 := (hr 0 rfl).trans h0_7
 have h3_8 := (hr 3 rfl).trans h3_7
 have h5_8 : act8.eval (.tmp 5) = .bool true := hv
 have d8 := d8.trans d7
 clear hv hr
 refine EngI.tail_nil ?_
 first | show Code.wp Tryz.prog _ _ _ _ | skip
 refine wp_seq ?_
 refine wp_seq ?_
 refine Eng.regionS (Eng.still [fun u_ => u_ = .pointer (some ⟨g3_1, 0, none⟩), fun u_ => u_ = .int .i64 x.kind]) (fun _ => .plain) 2 0 53 s8 rfl (by kernel_rfl) (Eng.still_stable _) (Or.inr (Eng.still_any _)) ?_ ?_
 ·refine .cons (fun _ => ?_) (.cons (fun _ => ?_) (.nil))
  ·exact Eng.plain rfl rfl fun a w' H => Eng.vr rfl (Eng.run_fieldb rfl Tryz.underlying29 0 (by kernel_rfl) ((H.kept 3 (by kernel_rfl)).trans h3_8))
  ·exact Eng.plain rfl rfl fun a w' H => Eng.vr rfl (Eng.run_loadb rfl (H.dep 0 12 (by kernel_rfl) rfl) ((H.below.block _ lg3_1_3).trans kg3_1_3) rfl (by kernel_rfl))
 intro act9 w9 T
 have h0_9 := (T.rest 0 (by kernel_rfl)).trans h0_8
 have h3_9 := (T.rest 3 (by kernel_rfl)).trans h3_8
 have h5_9 := (T.rest 5 (by kernel_rfl)).trans h5_8
 have kg_9 := (T.below.block _ lg_3).trans kg_3
 have lg_9 := Nat.lt_of_lt_of_le lg_3 T.below.size
 have kg3_1_9 := (T.below.block _ lg3_1_3).trans kg3_1_3
 have lg3_1_9 := Nat.lt_of_lt_of_le lg3_1_3 T.below.size
 have Fo_9 := Eng.Reads.below Fo_3 T.below
 have Oo_9 := Eng.own_below Oo_3 T.below
 have h13_9 : act9.eval (.tmp 13) = .int .i64 x.kind := T.done 1 13 rfl rfl
 have d9 := T.defers.trans d8
 have s9 := T.size.trans s8
 have bl9 := bl3.trans (T.below.mono bl3.size)
 have XA_9 := Eng.Aft.step XA_3 T.below
 clear T
 refine Eng.tail_nil ?_
 first | show Code.wp Tryz.prog _ _ _ _ | skip
 refine wp_block ?_
 refine wp_seq ?_
 obtain ⟨q15, Bq15⟩ : ∃ b : Bool, b = (x.kind == 0) := ⟨_, rfl⟩
 refine Eng.regionS (Eng.still [fun u_ => u_ = .bool q15, fun u_ => u_ = .bool q15]) (fun _ => .plain) 2 0 53 s9 rfl (by kernel_rfl) (Eng.still_stable _) (Or.inr (Eng.still_any _)) ?_ ?_
 ·refine .cons (fun _ => ?_) (.cons (fun _ => ?_) (.nil))
  ·refine Eng.plain rfl rfl fun a w' H => ?_
   refine Eng.vr (v := .bool (x.kind == 0)) (by show _ = Value.bool q15; rw [Bq15]) ?_
   have e0 : a.eval (.tmp 13) = .int .i64 x.kind := ((H.kept 13 (by kernel_rfl)).trans h13_9)
   have e1 : a.eval (.const (.int .i64 0)) = .int .i64 0 := (rfl : a.eval (.const (.int .i64 0)) = .int .i64 0)
   simp only [execOp, resolve, List.map_toArray, List.map_cons, List.map_nil, e0, e1]
   go_simp
   all_goals first | rfl | (simp; done) | (rw [Bool.eq_iff_iff]; simp; done) | omega | (split <;> first | (simp_all; done) | (split <;> simp_all; done)) | skip
  ·exact Eng.plain rfl rfl fun a w' H => Eng.vr rfl (Eng.run_assign rfl (H.dep 0 15 (by kernel_rfl) rfl))
 intro act10 w10 T
 have h0_10 := (T.rest 0 (by kernel_rfl)).trans h0_9
 have h3_10 := (T.rest 3 (by kernel_rfl)).trans h3_9
 have h5_10 := (T.rest 5 (by kernel_rfl)).trans h5_9
 have h13_10 := (T.rest 13 (by kernel_rfl)).trans h13_9
 have kg_10 := (T.below.block _ lg_9).trans kg_9
 have lg_10 := Nat.lt_of_lt_of_le lg_9 T.below.size
 have kg3_1_10 := (T.below.block _ lg3_1_9).trans kg3_1_9
 have lg3_1_10 := Nat.lt_of_lt_of_le lg3_1_9 T.below.size
 have Fo_10 := Eng.Reads.below Fo_9 T.below
 have Oo_10 := Eng.own_below Oo_9 T.below
 have h14_10 : act10.eval (.tmp 14) = .bool q15 := T.done 1 14 rfl rfl
 have d10 := T.defers.trans d9
 have s10 := T.size.trans s9
 have bl10 := bl9.trans (T.below.mono bl9.size)
 have XA_10 := Eng.Aft.step XA_9 T.below
 clear T
 refine Eng.tail_nil ?_
 first | show Code.wp Tryz.prog _ _ _ _ | skip
 refine wp_cond_split h14_10 (fun hq => ?_) (fun hq => ?_)
 ·
  have c14 := Bq15.symm.trans hq
  clear hq
  have hk_ : x.kind = 0 := by simpa using c14
  refine wp_seq ?_
  refine (wpIn_wide (n := 1)).1 ?_
  refine EngI.regionS EngI.free_wide (Eng.still [fun u_ => u_ = .pointer (some ⟨g, 0, none⟩)]) (fun _ => .plain) 1 1 53 s10 rfl (by kernel_rfl) (Eng.still_stable _) (Or.inr (Eng.still_any _)) (by kernel_rfl) ?_ ?_
  ·refine .cons (fun _ => ?_) (.cons (fun h => absurd h (by decide)) (.nil))
   ·exact Eng.plain rfl rfl fun a w' H => Eng.vr rfl (Eng.run_move rfl ((H.kept 0 (by kernel_rfl)).trans h0_10))
  intro act12 w12 T
  have h5_12 := (T.rest 5 (by kernel_rfl)).trans h5_10
  have kg_12 := (T.below.block _ lg_10).trans kg_10
  have Oo_12 := Eng.own_below Oo_10 T.below
  have h16_12 : act12.eval (.tmp 16) = .pointer (some ⟨g, 0, none⟩) := T.done 0 16 rfl rfl
  have d12 := T.defers.trans d10
  have s12 := T.size.trans s10
  have bl12 := bl10.trans (T.below.mono bl10.size)
  clear T
  refine EngI.tail_call EngI.free_wide Tryz.func42 (by kernel_rfl) (by kernel_rfl) rfl rfl rfl rfl #[.pointer (some ⟨g, 0, none⟩), .int .i64 0] (by have e0 : act12.eval (.tmp 16) = .pointer (some ⟨g, 0, none⟩) := h16_12; have e1 : act12.eval (.const (.int .i64 0)) = .int .i64 0 := (rfl : act12.eval (.const (.int .i64 0)) = .int .i64 0); simp only [List.map_toArray, List.map_cons, List.map_nil, e0, e1]) s12 rfl (R := fun v w' => ∃ o', Evt.Is w.heap.size w12 g o ((pre ++ [t]) ++ [(0, 0)]) w' o') ((Evt.push_calls g o (pre ++ [t]) 0 w _ bl12 hlo kg_12 Oo_12 (by first | exact hst | (simp at hst ⊢; omega))).mono ?_) fun v_13 w13 act13 R d13 s13 hv hr => ?_
  ·rintro e w1 ⟨v1, o1, rfl, h1⟩; exact ⟨_, rfl, o1, h1⟩
  have h5_13 := (hr 5 rfl).trans h5_12
  have d13 := d13.trans d12
  clear hv hr
  obtain ⟨o13, I13⟩ := R
  have bl13 := Eng.Aft.below I13.aft bl12 (Nat.le_refl _) (Evt.nst_lo hlo Oo_12)
  refine EngI.tail_nil ?_
  first | show Code.wp Tryz.prog _ _ _ _ | skip
  refine wp_seq ?_
  obtain ⟨q19, Bq19⟩ : ∃ b : Bool, b = (!true) := ⟨_, rfl⟩
  refine Eng.regionS (Eng.still [fun u_ => u_ = .bool true, fun u_ => u_ = .bool q19, fun u_ => u_ = .bool q19]) (fun _ => .plain) 3 0 53 s13 rfl (by kernel_rfl) (Eng.still_stable _) (Or.inr (Eng.still_any _)) ?_ ?_
  ·refine .cons (fun _ => ?_) (.cons (fun _ => ?_) (.cons (fun _ => ?_) (.nil)))
   ·exact Eng.plain rfl rfl fun a w' H => Eng.vr rfl (Eng.run_move rfl ((H.kept 5 (by kernel_rfl)).trans h5_13))
   ·exact Eng.plain rfl rfl fun a w' H => Eng.vr (v := .bool (!true)) (by show _ = Value.bool q19; rw [Bq19]) (Eng.run_not rfl (H.dep 0 18 (by kernel_rfl) rfl))
   ·exact Eng.plain rfl rfl fun a w' H => Eng.vr rfl (Eng.run_assign rfl (H.dep 1 19 (by kernel_rfl) rfl))
  intro act14 w14 T
  have h4_14 : act14.eval (.tmp 4) = .bool q19 := T.done 2 4 rfl rfl
  have d14 := T.defers.trans d13
  have bl14 := bl13.trans (T.below.mono bl13.size)
  clear T
  refine Eng.tail_nil ?_
  first | show Code.wp Tryz.prog _ _ _ _ | skip
  refine wp_ret ?_
  repeat (first | refine Eng.in_ret ?_ | refine Eng.then_ret ?_)
  have e_ : Evt.takeF (pre ++ [t]) x.kind = none := by rw [hk_, Evt.takeF_0, if_neg (by simp)]
  exact Eng.ret1 rfl d14 h4_14 ⟨by rw [e_]; first | rfl | (rw [Bq19]; rfl), bl14, fun st' h => by rw [e_] at h; cases h⟩
 ·
  have c14 := Bq15.symm.trans hq
  clear hq
  have hn0 : x.kind ≠ 0 := by simpa using c14
  refine wp_seq ?_
  obtain ⟨q21, Bq21⟩ : ∃ b : Bool, b = (x.kind == 1) := ⟨_, rfl⟩
  refine Eng.regionS (Eng.still [fun u_ => u_ = .bool q21, fun u_ => u_ = .bool q21]) (fun _ => .plain) 2 0 53 s10 rfl (by kernel_rfl) (Eng.still_stable _) (Or.inr (Eng.still_any _)) ?_ ?_
  ·refine .cons (fun _ => ?_) (.cons (fun _ => ?_) (.nil))
   ·refine Eng.plain rfl rfl fun a w' H => ?_
    refine Eng.vr (v := .bool (x.kind == 1)) (by show _ = Value.bool q21; rw [Bq21]) ?_
    have e0 : a.eval (.tmp 13) = .int .i64 x.kind := ((H.kept 13 (by kernel_rfl)).trans h13_10)
    have e1 : a.eval (.const (.int .i64 1)) = .int .i64 1 := (rfl : a.eval (.const (.int .i64 1)) = .int .i64 1)
    simp only [execOp, resolve, List.map_toArray, List.map_cons, List.map_nil, e0, e1]
    go_simp
    all_goals first | rfl | (simp; done) | (rw [Bool.eq_iff_iff]; simp; done) | omega | (split <;> first | (simp_all; done) | (split <;> simp_all; done)) | skip
   ·exact Eng.plain rfl rfl fun a w' H => Eng.vr rfl (Eng.run_assign rfl (H.dep 0 21 (by kernel_rfl) rfl))
  intro act16 w16 T
  have h0_16 := (T.rest 0 (by kernel_rfl)).trans h0_10
  have h3_16 := (T.rest 3 (by kernel_rfl)).trans h3_10
  have h5_16 := (T.rest 5 (by kernel_rfl)).trans h5_10
  have h13_16 := (T.rest 13 (by kernel_rfl)).trans h13_10
  have kg_16 := (T.below.block _ lg_10).trans kg_10
  have lg_16 := Nat.lt_of_lt_of_le lg_10 T.below.size
  have kg3_1_16 := (T.below.block _ lg3_1_10).trans kg3_1_10
  have lg3_1_16 := Nat.lt_of_lt_of_le lg3_1_10 T.below.size
  have Fo_16 := Eng.Reads.below Fo_10 T.below
  have Oo_16 := Eng.own_below Oo_10 T.below
  have h20_16 : act16.eval (.tmp 20) = .bool q21 := T.done 1 20 rfl rfl
  have d16 := T.defers.trans d10
  have s16 := T.size.trans s10
  have bl16 := bl10.trans (T.below.mono bl10.size)
  have XA_16 := Eng.Aft.step XA_10 T.below
  clear T
  refine Eng.tail_nil ?_
  first | show Code.wp Tryz.prog _ _ _ _ | skip
  refine wp_cond_split h20_16 (fun hq => ?_) (fun hq => ?_)
  ·
   have c20 := Bq21.symm.trans hq
   clear hq
   have hk_ : x.kind = 1 := by simpa using c20
   refine wp_seq ?_
   refine (wpIn_wide (n := 1)).1 ?_
   refine EngI.regionS EngI.free_wide (Eng.still [fun u_ => u_ = .pointer (some ⟨g, 0, none⟩)]) (fun _ => .plain) 1 2 53 s16 rfl (by kernel_rfl) (Eng.still_stable _) (Or.inr (Eng.still_any _)) (by kernel_rfl) ?_ ?_
   ·refine .cons (fun _ => ?_) (.cons (fun h => absurd h (by decide)) (.cons (fun h => absurd h (by decide)) (.nil)))
    ·exact Eng.plain rfl rfl fun a w' H => Eng.vr rfl (Eng.run_move rfl ((H.kept 0 (by kernel_rfl)).trans h0_16))
   intro act18 w18 T
   have kg_18 := (T.below.block _ lg_16).trans kg_16
   have Oo_18 := Eng.own_below Oo_16 T.below
   have h22_18 : act18.eval (.tmp 22) = .pointer (some ⟨g, 0, none⟩) := T.done 0 22 rfl rfl
   have d18 := T.defers.trans d16
   have s18 := T.size.trans s16
   have bl18 := bl16.trans (T.below.mono bl16.size)
   have XA_18 := Eng.Aft.step XA_16 T.below
   clear T
   refine EngI.tail_call EngI.free_wide Tryz.func43 (by kernel_rfl) (by kernel_rfl) rfl rfl rfl rfl #[.pointer (some ⟨g, 0, none⟩), .int .i64 0, .func (.func 44) #[] #[]] (by have e0 : act18.eval (.tmp 22) = .pointer (some ⟨g, 0, none⟩) := h22_18; have e1 : act18.eval (.const (.int .i64 0)) = .int .i64 0 := (rfl : act18.eval (.const (.int .i64 0)) = .int .i64 0); have e2 : act18.eval (.func 44) = .func (.func 44) #[] #[] := (rfl : act18.eval (.func 44) = .func (.func 44) #[] #[]); simp only [List.map_toArray, List.map_cons, List.map_nil, e0, e1, e2]) s18 rfl (R := fun v w' => v = .bool (Evt.pop (pre ++ [t]) 0 (fun m => m == 1)).isSome ∧ Below w.heap.size w w' ∧ ∀ st', Evt.pop (pre ++ [t]) 0 (fun m => m == 1) = some st' → ∃ o', Evt.Is w.heap.size w18 g o st' w' o') ((Evt.pop69_top g o 0 pre t w _ bl18 hlo kg_18 Oo_18).mono ?_) fun v_19 w19 act19 R d19 s19 hv hr => ?_
   ·rintro e w1 ⟨rfl, h1, h2⟩; exact ⟨_, rfl, rfl, h1, h2⟩
   have h23_19 : act19.eval (.tmp 23) = v_19 := hv
   have d19 := d19.trans d18
   clear hv hr
   obtain ⟨ev_19, bl19, hP0_19⟩ := R
   have hP19 : ∀ st', Evt.pop (pre ++ [t]) 0 (fun m => m == 1) = some st' → ∃ o', Evt.Is w.heap.size W0 g o st' w19 o' := fun st' h => (hP0_19 st' h).imp fun _ i => i.from XA_18
   rw [ev_19] at h23_19
   refine EngI.tail_val EngI.free_wide rfl rfl rfl rfl (Eng.run_assign rfl h23_19) s19 rfl fun act20 d20 s20 hv hr => ?_
   have h4_20 : act20.eval (.tmp 4) = .bool ((Evt.pop (pre ++ [t]) 0 (fun m => m == 1)).isSome) := hv
   have d20 := d20.trans d19
   clear hv hr
   refine EngI.tail_nil ?_
   first | show Code.wp Tryz.prog _ _ _ _ | skip
   refine wp_ret ?_
   repeat (first | refine Eng.in_ret ?_ | refine Eng.then_ret ?_)
   have e_ : Evt.takeF (pre ++ [t]) x.kind = Evt.pop (pre ++ [t]) 0 (fun m => m == 1) := by rw [hk_]; exact Evt.takeF_1 _
   exact Eng.ret1 rfl d20 h4_20 ⟨by rw [e_], bl19, by rw [e_]; exact hP19⟩
  ·
   have c20 := Bq21.symm.trans hq
   clear hq
   have hn1 : x.kind ≠ 1 := by simpa using c20
   refine wp_seq ?_
   obtain ⟨q25, Bq25⟩ : ∃ b : Bool, b = (x.kind == 3) := ⟨_, rfl⟩
   refine Eng.regionS (Eng.still [fun u_ => u_ = .bool q25, fun u_ => u_ = .bool q25]) (fun _ => .plain) 2 0 53 s16 rfl (by kernel_rfl) (Eng.still_stable _) (Or.inr (Eng.still_any _)) ?_ ?_
   ·refine .cons (fun _ => ?_) (.cons (fun _ => ?_) (.nil))
    ·refine Eng.plain rfl rfl fun a w' H => ?_
     refine Eng.vr (v := .bool (x.kind == 3)) (by show _ = Value.bool q25; rw [Bq25]) ?_
     have e0 : a.eval (.tmp 13) = .int .i64 x.kind := ((H.kept 13 (by kernel_rfl)).trans h13_16)
     have e1 : a.eval (.const (.int .i64 3)) = .int .i64 3 := (rfl : a.eval (.const (.int .i64 3)) = .int .i64 3)
     simp only [execOp, resolve, List.map_toArray, List.map_cons, List.map_nil, e0, e1]
     go_simp
     all_goals first | rfl | (simp; done) | (rw [Bool.eq_iff_iff]; simp; done) | omega | (split <;> first | (simp_all; done) | (split <;> simp_all; done)) | skip
    ·exact Eng.plain rfl rfl fun a w' H => Eng.vr rfl (Eng.run_assign rfl (H.dep 0 25 (by kernel_rfl) rfl))
   intro act22 w22 T
   have h0_22 := (T.rest 0 (by kernel_rfl)).trans h0_16
   have h3_22 := (T.rest 3 (by kernel_rfl)).trans h3_16
   have h5_22 := (T.rest 5 (by kernel_rfl)).trans h5_16
   have h13_22 := (T.rest 13 (by kernel_rfl)).trans h13_16
   have kg_22 := (T.below.block _ lg_16).trans kg_16
   have lg_22 := Nat.lt_of_lt_of_le lg_16 T.below.size
   have kg3_1_22 := (T.below.block _ lg3_1_16).trans kg3_1_16
   have lg3_1_22 := Nat.lt_of_lt_of_le lg3_1_16 T.below.size
   have Fo_22 := Eng.Reads.below Fo_16 T.below
   have Oo_22 := Eng.own_below Oo_16 T.below
   have h24_22 : act22.eval (.tmp 24) = .bool q25 := T.done 1 24 rfl rfl
   have d22 := T.defers.trans d16
   have s22 := T.size.trans s16
   have bl22 := bl16.trans (T.below.mono bl16.size)
   have XA_22 := Eng.Aft.step XA_16 T.below
   clear T
   refine Eng.tail_nil ?_
   first | show Code.wp Tryz.prog _ _ _ _ | skip
   refine wp_cond_split h24_22 (fun hq => ?_) (fun hq => ?_)
   ·
    have c24 := Bq25.symm.trans hq
    clear hq
    have hk_ : x.kind = 3 := by simpa using c24
    refine wp_seq ?_
    refine (wpIn_wide (n := 1)).1 ?_
    refine EngI.regionS EngI.free_wide (Eng.still [fun u_ => u_ = .pointer (some ⟨g, 0, none⟩)]) (fun _ => .plain) 1 2 53 s22 rfl (by kernel_rfl) (Eng.still_stable _) (Or.inr (Eng.still_any _)) (by kernel_rfl) ?_ ?_
    ·refine .cons (fun _ => ?_) (.cons (fun h => absurd h (by decide)) (.cons (fun h => absurd h (by decide)) (.nil)))
     ·exact Eng.plain rfl rfl fun a w' H => Eng.vr rfl (Eng.run_move rfl ((H.kept 0 (by kernel_rfl)).trans h0_22))
    intro act24 w24 T
    have kg_24 := (T.below.block _ lg_22).trans kg_22
    have Oo_24 := Eng.own_below Oo_22 T.below
    have h26_24 : act24.eval (.tmp 26) = .pointer (some ⟨g, 0, none⟩) := T.done 0 26 rfl rfl
    have d24 := T.defers.trans d22
    have s24 := T.size.trans s22
    have bl24 := bl22.trans (T.below.mono bl22.size)
    have XA_24 := Eng.Aft.step XA_22 T.below
    clear T
    refine EngI.tail_call EngI.free_wide Tryz.func43 (by kernel_rfl) (by kernel_rfl) rfl rfl rfl rfl #[.pointer (some ⟨g, 0, none⟩), .int .i64 2, .func (.func 45) #[] #[]] (by have e0 : act24.eval (.tmp 26) = .pointer (some ⟨g, 0, none⟩) := h26_24; have e1 : act24.eval (.const (.int .i64 2)) = .int .i64 2 := (rfl : act24.eval (.const (.int .i64 2)) = .int .i64 2); have e2 : act24.eval (.func 45) = .func (.func 45) #[] #[] := (rfl : act24.eval (.func 45) = .func (.func 45) #[] #[]); simp only [List.map_toArray, List.map_cons, List.map_nil, e0, e1, e2]) s24 rfl (R := fun v w' => v = .bool (Evt.pop (pre ++ [t]) 2 (fun _ => true)).isSome ∧ Below w.heap.size w w' ∧ ∀ st', Evt.pop (pre ++ [t]) 2 (fun _ => true) = some st' → ∃ o', Evt.Is w.heap.size w24 g o st' w' o') ((Evt.pop70_top g o 2 pre t w _ bl24 hlo kg_24 Oo_24).mono ?_) fun v_25 w25 act25 R d25 s25 hv hr => ?_
    ·rintro e w1 ⟨rfl, h1, h2⟩; exact ⟨_, rfl, rfl, h1, h2⟩
    have h27_25 : act25.eval (.tmp 27) = v_25 := hv
    have d25 := d25.trans d24
    clear hv hr
    obtain ⟨ev_25, bl25, hP0_25⟩ := R
    have hP25 : ∀ st', Evt.pop (pre ++ [t]) 2 (fun _ => true) = some st' → ∃ o', Evt.Is w.heap.size W0 g o st' w25 o' := fun st' h => (hP0_25 st' h).imp fun _ i => i.from XA_24
    rw [ev_25] at h27_25
    refine EngI.tail_val EngI.free_wide rfl rfl rfl rfl (Eng.run_assign rfl h27_25) s25 rfl fun act26 d26 s26 hv hr => ?_
    have h4_26 : act26.eval (.tmp 4) = .bool ((Evt.pop (pre ++ [t]) 2 (fun _ => true)).isSome) := hv
    have d26 := d26.trans d25
    clear hv hr
    refine EngI.tail_nil ?_
    first | show Code.wp Tryz.prog _ _ _ _ | skip
    refine wp_ret ?_
    repeat (first | refine Eng.in_ret ?_ | refine Eng.then_ret ?_)
    have e_ : Evt.takeF (pre ++ [t]) x.kind = Evt.pop (pre ++ [t]) 2 (fun _ => true) := by rw [hk_]; exact Evt.takeF_3 _
    exact Eng.ret1 rfl d26 h4_26 ⟨by rw [e_], bl25, by rw [e_]; exact hP25⟩
   ·
    have c24 := Bq25.symm.trans hq
    clear hq
    have hn3 : x.kind ≠ 3 := by simpa using c24
    refine wp_seq ?_
    obtain ⟨q29, Bq29⟩ : ∃ b : Bool, b = (x.kind == 5) := ⟨_, rfl⟩
    refine Eng.regionS (Eng.still [fun u_ => u_ = .bool q29, fun u_ => u_ = .bool q29]) (fun _ => .plain) 2 0 53 s22 rfl (by kernel_rfl) (Eng.still_stable _) (Or.inr (Eng.still_any _)) ?_ ?_
    ·refine .cons (fun _ => ?_) (.cons (fun _ => ?_) (.nil))
     ·refine Eng.plain rfl rfl fun a w' H => ?_
      refine Eng.vr (v := .bool (x.kind == 5)) (by show _ = Value.bool q29; rw [Bq29]) ?_
      have e0 : a.eval (.tmp 13) = .int .i64 x.kind := ((H.kept 13 (by kernel_rfl)).trans h13_22)
      have e1 : a.eval (.const (.int .i64 5)) = .int .i64 5 := (rfl : a.eval (.const (.int .i64 5)) = .int .i64 5)
      simp only [execOp, resolve, List.map_toArray, List.map_cons, List.map_nil, e0, e1]
      go_simp
      all_goals first | rfl | (simp; done) | (rw [Bool.eq_iff_iff]; simp; done) | omega | (split <;> first | (simp_all; done) | (split <;> simp_all; done)) | skip
     ·exact Eng.plain rfl rfl fun a w' H => Eng.vr rfl (Eng.run_assign rfl (H.dep 0 29 (by kernel_rfl) rfl))
    intro act28 w28 T
    have h0_28 := (T.rest 0 (by kernel_rfl)).trans h0_22
    have h3_28 := (T.rest 3 (by kernel_rfl)).trans h3_22
    have h5_28 := (T.rest 5 (by kernel_rfl)).trans h5_22
    have kg_28 := (T.below.block _ lg_22).trans kg_22
    have lg_28 := Nat.lt_of_lt_of_le lg_22 T.below.size
    have kg3_1_28 := (T.below.block _ lg3_1_22).trans kg3_1_22
    have lg3_1_28 := Nat.lt_of_lt_of_le lg3_1_22 T.below.size
    have Fo_28 := Eng.Reads.below Fo_22 T.below
    have Oo_28 := Eng.own_below Oo_22 T.below
    have h28_28 : act28.eval (.tmp 28) = .bool q29 := T.done 1 28 rfl rfl
    have d28 := T.defers.trans d22
    have s28 := T.size.trans s22
    have bl28 := bl22.trans (T.below.mono bl22.size)
    have XA_28 := Eng.Aft.step XA_22 T.below
    clear T
    refine Eng.tail_nil ?_
    first | show Code.wp Tryz.prog _ _ _ _ | skip
    refine wp_cond_split h28_28 (fun hq => ?_) (fun hq => ?_)
    ·
     have c28 := Bq29.symm.trans hq
     clear hq
     have hk_ : x.kind = 5 := by simpa using c28
     refine wp_seq ?_
     refine (wpIn_wide (n := 1)).1 ?_
     refine EngI.regionS EngI.free_wide (Eng.still [fun u_ => u_ = .pointer (some ⟨g, 0, none⟩)]) (fun _ => .plain) 1 2 53 s28 rfl (by kernel_rfl) (Eng.still_stable _) (Or.inr (Eng.still_any _)) (by kernel_rfl) ?_ ?_
     ·refine .cons (fun _ => ?_) (.cons (fun h => absurd h (by decide)) (.cons (fun h => absurd h (by decide)) (.nil)))
      ·exact Eng.plain rfl rfl fun a w' H => Eng.vr rfl (Eng.run_move rfl ((H.kept 0 (by kernel_rfl)).trans h0_28))
     intro act30 w30 T
     have kg_30 := (T.below.block _ lg_28).trans kg_28
     have Oo_30 := Eng.own_below Oo_28 T.below
     have h30_30 : act30.eval (.tmp 30) = .pointer (some ⟨g, 0, none⟩) := T.done 0 30 rfl rfl
     have d30 := T.defers.trans d28
     have s30 := T.size.trans s28
     have bl30 := bl28.trans (T.below.mono bl28.size)
     have XA_30 := Eng.Aft.step XA_28 T.below
     clear T
     refine EngI.tail_call EngI.free_wide Tryz.func43 (by kernel_rfl) (by kernel_rfl) rfl rfl rfl rfl #[.pointer (some ⟨g, 0, none⟩), .int .i64 4, .func (.func 46) #[] #[]] (by have e0 : act30.eval (.tmp 30) = .pointer (some ⟨g, 0, none⟩) := h30_30; have e1 : act30.eval (.const (.int .i64 4)) = .int .i64 4 := (rfl : act30.eval (.const (.int .i64 4)) = .int .i64 4); have e2 : act30.eval (.func 46) = .func (.func 46) #[] #[] := (rfl : act30.eval (.func 46) = .func (.func 46) #[] #[]); simp only [List.map_toArray, List.map_cons, List.map_nil, e0, e1, e2]) s30 rfl (R := fun v w' => v = .bool (Evt.pop (pre ++ [t]) 4 Evt.even).isSome ∧ Below w.heap.size w w' ∧ ∀ st', Evt.pop (pre ++ [t]) 4 Evt.even = some st' → ∃ o', Evt.Is w.heap.size w30 g o st' w' o') ((Evt.pop71_top g o 4 pre t w _ bl30 hlo kg_30 Oo_30).mono ?_) fun v_31 w31 act31 R d31 s31 hv hr => ?_
     ·rintro e w1 ⟨rfl, h1, h2⟩; exact ⟨_, rfl, rfl, h1, h2⟩
     have h31_31 : act31.eval (.tmp 31) = v_31 := hv
     have d31 := d31.trans d30
     clear hv hr
     obtain ⟨ev_31, bl31, hP0_31⟩ := R
     have hP31 : ∀ st', Evt.pop (pre ++ [t]) 4 Evt.even = some st' → ∃ o', Evt.Is w.heap.size W0 g o st' w31 o' := fun st' h => (hP0_31 st' h).imp fun _ i => i.from XA_30
     rw [ev_31] at h31_31
     refine EngI.tail_val EngI.free_wide rfl rfl rfl rfl (Eng.run_assign rfl h31_31) s31 rfl fun act32 d32 s32 hv hr => ?_
     have h4_32 : act32.eval (.tmp 4) = .bool ((Evt.pop (pre ++ [t]) 4 Evt.even).isSome) := hv
     have d32 := d32.trans d31
     clear hv hr
     refine EngI.tail_nil ?_
     first | show Code.wp Tryz.prog _ _ _ _ | skip
     refine wp_ret ?_
     repeat (first | refine Eng.in_ret ?_ | refine Eng.then_ret ?_)
     have e_ : Evt.takeF (pre ++ [t]) x.kind = Evt.pop (pre ++ [t]) 4 Evt.even := by rw [hk_]; exact Evt.takeF_5 _
     exact Eng.ret1 rfl d32 h4_32 ⟨by rw [e_], bl31, by rw [e_]; exact hP31⟩
    ·
     have c28 := Bq29.symm.trans hq
     clear hq
     have hn5 : x.kind ≠ 5 := by simpa using c28
     refine wp_skip ?_
     first | show Code.wp Tryz.prog _ _ _ _ | skip
     refine wp_seq ?_
     refine (wpIn_wide (n := 1)).1 ?_
     refine EngI.regionS EngI.free_wide (Eng.still [fun u_ => u_ = .pointer (some ⟨g, 0, none⟩)]) (fun _ => .plain) 1 8 53 s28 rfl (by kernel_rfl) (Eng.still_stable _) (Or.inr (Eng.still_any _)) (by kernel_rfl) ?_ ?_
     ·refine .cons (fun _ => ?_) (.cons (fun h => absurd h (by decide)) (.cons (fun h => absurd h (by decide)) (.cons (fun h => absurd h (by decide)) (.cons (fun h => absurd h (by decide)) (.cons (fun h => absurd h (by decide)) (.cons (fun h => absurd h (by decide)) (.cons (fun h => absurd h (by decide)) (.cons (fun h => absurd h (by decide)) (.nil)))))))))
      ·exact Eng.plain rfl rfl fun a w' H => Eng.vr rfl (Eng.run_move rfl ((H.kept 0 (by kernel_rfl)).trans h0_28))
     intro act34 w34 T
     have h0_34 := (T.rest 0 (by kernel_rfl)).trans h0_28
     have h3_34 := (T.rest 3 (by kernel_rfl)).trans h3_28
     have h5_34 := (T.rest 5 (by kernel_rfl)).trans h5_28
     have kg_34 := (T.below.block _ lg_28).trans kg_28
     have lg_34 := Nat.lt_of_lt_of_le lg_28 T.below.size
     have kg3_1_34 := (T.below.block _ lg3_1_28).trans kg3_1_28
     have lg3_1_34 := Nat.lt_of_lt_of_le lg3_1_28 T.below.size
     have Fo_34 := Eng.Reads.below Fo_28 T.below
     have Oo_34 := Eng.own_below Oo_28 T.below
     have h32_34 : act34.eval (.tmp 32) = .pointer (some ⟨g, 0, none⟩) := T.done 0 32 rfl rfl
     have d34 := T.defers.trans d28
     have s34 := T.size.trans s28
     have bl34 := bl28.trans (T.below.mono bl28.size)
     have XA_34 := Eng.Aft.step XA_28 T.below
     clear T
     refine EngI.tail_call EngI.free_wide Tryz.func41 (by kernel_rfl) (by kernel_rfl) rfl rfl rfl rfl #[.pointer (some ⟨g, 0, none⟩)] (by have e0 : act34.eval (.tmp 32) = .pointer (some ⟨g, 0, none⟩) := h32_34; simp only [List.map_toArray, List.map_cons, List.map_nil, e0]) s34 rfl (R := fun v w' => v = Eng.elemPtr o (pre.length * 2) ∧ Below w34.heap.size w34 w') ((Evt.last_top g o w.heap.size pre t _ kg_34 Oo_34).mono ?_) fun v_35 w35 act35 R d35 s35 hv hr => ?_
     ·rintro e w1 ⟨rfl, h1⟩; exact ⟨_, rfl, rfl, h1⟩
     have h0_35 := (hr 0 rfl).trans h0_34
     have h3_35 := (hr 3 rfl).trans h3_34
     have h5_35 := (hr 5 rfl).trans h5_34
     have h33_35 : act35.eval (.tmp 33) = v_35 := hv
     have d35 := d35.trans d34
     clear hv hr
     obtain ⟨ev_35, b_35⟩ := R
     have kg_35 := (b_35.block _ lg_34).trans kg_34
     have lg_35 := Nat.lt_of_lt_of_le lg_34 b_35.size
     have kg3_1_35 := (b_35.block _ lg3_1_34).trans kg3_1_34
     have lg3_1_35 := Nat.lt_of_lt_of_le lg3_1_34 b_35.size
     have Fo_35 := Eng.Reads.below Fo_34 b_35
     have Oo_35 := Eng.own_below Oo_34 b_35
     have XA_35 := Eng.Aft.step XA_34 b_35
     have bl35 := bl34.trans (b_35.mono bl34.size)
     rw [ev_35] at h33_35
     refine EngI.tail_val (w1 := w35) (v := Eng.elemPtr o (pre.length * 2)) EngI.free_wide rfl rfl rfl rfl ?_ s35 rfl ?_
     ·exact Eng.run_nil_el rfl (show act35.eval (.tmp 33) = Eng.elemPtr o (pre.length * 2) from h33_35) Fo_35 (by have h_ : pre.length < (pre ++ [t]).length := (by simp); omega)
     intro act36 d36 s36 hv hr
     have h0_36 := (hr 0 rfl).trans h0_35
     have h3_36 := (hr 3 rfl).trans h3_35
     have h5_36 := (hr 5 rfl).trans h5_35
     have h33_36 := (hr 33 rfl).trans h33_35
     have h34_36 : act36.eval (.tmp 34) = Eng.elemPtr o (pre.length * 2) := hv
     have d36 := d36.trans d35
     clear hv hr
     refine EngI.tail_val (w1 := w35) (v := Eng.elemPtr o (pre.length * 2 + 1)) EngI.free_wide rfl rfl rfl rfl ?_ s36 rfl ?_
     ·exact Eng.run_field_el rfl Tryz.underlying71 1 (by kernel_rfl) (show act36.eval (.tmp 34) = Eng.elemPtr o (pre.length * 2) from h34_36) Fo_35 (by have h_ : pre.length < (pre ++ [t]).length := (by simp); omega)
     intro act37 d37 s37 hv hr
     have h0_37 := (hr 0 rfl).trans h0_36
     have h3_37 := (hr 3 rfl).trans h3_36
     have h5_37 := (hr 5 rfl).trans h5_36
     have h33_37 := (hr 33 rfl).trans h33_36
     have h35_37 : act37.eval (.tmp 35) = Eng.elemPtr o (pre.length * 2 + 1) := hv
     have d37 := d37.trans d36
     clear hv hr
     refine EngI.tail_val (w1 := w35) (v := .int .i64 t.2) EngI.free_wide rfl rfl rfl rfl ?_ s37 rfl ?_
     ·exact Eng.run_load_el (.int .i64 t.2) rfl (show act37.eval (.tmp 35) = Eng.elemPtr o (pre.length * 2 + 1) from h35_37) Fo_35 (Evt.top_1 pre t) (by kernel_rfl)
     intro act38 d38 s38 hv hr
     have h0_38 := (hr 0 rfl).trans h0_37
     have h3_38 := (hr 3 rfl).trans h3_37
     have h5_38 := (hr 5 rfl).trans h5_37
     have h33_38 := (hr 33 rfl).trans h33_37
     have h36_38 : act38.eval (.tmp 36) = .int .i64 t.2 := hv
     have d38 := d38.trans d37
     clear hv hr
     refine EngI.tail_val (w1 := w35) (v := .int .i64 (IntKind.i64.wrap (t.2 + 1))) EngI.free_wide rfl rfl rfl rfl ?_ s38 rfl ?_
     ·have e0 : act38.eval (.tmp 36) = .int .i64 t.2 := h36_38
      have e1 : act38.eval (.const (.int .i64 1)) = .int .i64 1 := (rfl : act38.eval (.const (.int .i64 1)) = .int .i64 1)
      simp only [execOp, resolve, List.map_toArray, List.map_cons, List.map_nil, e0, e1]
      go_simp
      all_goals first | rfl | (simp; done) | (rw [Bool.eq_iff_iff]; simp; done) | omega | (split <;> first | (simp_all; done) | (split <;> simp_all; done)) | skip
     intro act39 d39 s39 hv hr
     have h0_39 := (hr 0 rfl).trans h0_38
     have h3_39 := (hr 3 rfl).trans h3_38
     have h5_39 := (hr 5 rfl).trans h5_38
     have h33_39 := (hr 33 rfl).trans h33_38
     have h37_39 : act39.eval (.tmp 37) = .int .i64 (IntKind.i64.wrap (t.2 + 1)) := hv
     have d39 := d39.trans d38
     clear hv hr
     refine EngI.tail_val (w1 := w35) (v := Eng.elemPtr o (pre.length * 2)) EngI.free_wide rfl rfl rfl rfl ?_ s39 rfl ?_
     ·exact Eng.run_nil_el rfl (show act39.eval (.tmp 33) = Eng.elemPtr o (pre.length * 2) from h33_39) Fo_35 (by have h_ : pre.length < (pre ++ [t]).length := (by simp); omega)
     intro act40 d40 s40 hv hr
     have h0_40 := (hr 0 rfl).trans h0_39
     have h3_40 := (hr 3 rfl).trans h3_39
     have h5_40 := (hr 5 rfl).trans h5_39
     have h37_40 := (hr 37 rfl).trans h37_39
     have h38_40 : act40.eval (.tmp 38) = Eng.elemPtr o (pre.length * 2) := hv
     have d40 := d40.trans d39
     clear hv hr
     refine EngI.tail_val (w1 := w35) (v := Eng.elemPtr o (pre.length * 2 + 1)) EngI.free_wide rfl rfl rfl rfl ?_ s40 rfl ?_
     ·exact Eng.run_field_el rfl Tryz.underlying71 1 (by kernel_rfl) (show act40.eval (.tmp 38) = Eng.elemPtr o (pre.length * 2) from h38_40) Fo_35 (by have h_ : pre.length < (pre ++ [t]).length := (by simp); omega)
     intro act41 d41 s41 hv hr
     have h0_41 := (hr 0 rfl).trans h0_40
     have h3_41 := (hr 3 rfl).trans h3_40
     have h5_41 := (hr 5 rfl).trans h5_40
     have h37_41 := (hr 37 rfl).trans h37_40
     have h39_41 : act41.eval (.tmp 39) = Eng.elemPtr o (pre.length * 2 + 1) := hv
     have d41 := d41.trans d40
     clear hv hr
     refine EngG.tail_exs EngI.free_wide rfl rfl rfl rfl (Eng.run_store_own (j := pre.length * 2 + 1) (u := .int .i64 (IntKind.i64.wrap (t.2 + 1))) rfl (show act41.eval (.tmp 39) = Eng.elemPtr o (pre.length * 2 + 1) from h39_41) h37_41 Oo_35 (by have h_ : pre.length < (pre ++ [t]).length := (by simp); omega) (by kernel_rfl) (by rfl)) fun w42 R => ?_
     obtain ⟨O_42, G_42⟩ := R
     have kg_42 := (G_42.block _ lg_35 (Eng.own_ne Oo_35 kg_35 rfl)).trans kg_35
     have lg_42 := Nat.lt_of_lt_of_le lg_35 G_42.size
     have kg3_1_42 := (G_42.block _ lg3_1_35 (Eng.own_ne Oo_35 kg3_1_35 rfl)).trans kg3_1_35
     have lg3_1_42 := Nat.lt_of_lt_of_le lg3_1_35 G_42.size
     have XA_42 := Eng.Aft.grown XA_35 G_42 (fun b e _ => Or.inr e)
     have bl42 := bl35.grown G_42 bl35.size (fun j hj => (Eng.ownB Oo_35 hj.symm).1)
     have Oo_42 := Evt.own_more O_42
     refine EngI.tail_nil ?_
     first | show Code.wp Tryz.prog _ _ _ _ | skip
     refine wp_seq ?_
     refine wp_seq ?_
     obtain ⟨q42, Bq42⟩ : ∃ b : Bool, b = (x.kind == 2) := ⟨_, rfl⟩
     obtain ⟨q46, Bq46⟩ : ∃ b : Bool, b = (x.kind == 4) := ⟨_, rfl⟩
     obtain ⟨q47, Bq47⟩ : ∃ b : Bool, b = (q42 || q46) := ⟨_, rfl⟩
     refine Eng.regionS (Eng.still [fun u_ => u_ = .pointer (some ⟨g3_1, 0, none⟩), fun u_ => u_ = .int .i64 x.kind, fun u_ => u_ = .bool q42, fun u_ => u_ = .bool q42, fun u_ => u_ = bif (q42 == false) then (.pointer (some ⟨g3_1, 0, none⟩)) else undef, fun u_ => u_ = bif (q42 == false) then (.int .i64 x.kind) else undef, fun u_ => u_ = bif (q42 == false) then (.bool q46) else undef, fun u_ => u_ = .bool q47]) (fun _ => .plain) 8 0 53 s41 rfl (by kernel_rfl) (Eng.still_stable _) (Or.inr (Eng.still_any _)) ?_ ?_
     ·refine .cons (fun _ => ?_) (.cons (fun _ => ?_) (.cons (fun _ => ?_) (.cons (fun _ => ?_) (.cons (fun _ => ?_) (.cons (fun _ => ?_) (.cons (fun _ => ?_) (.cons (fun _ => ?_) (.nil))))))))
      ·exact Eng.plain rfl rfl fun a w' H => Eng.vr rfl (Eng.run_fieldb rfl Tryz.underlying29 0 (by kernel_rfl) ((H.kept 3 (by kernel_rfl)).trans h3_41))
      ·exact Eng.plain rfl rfl fun a w' H => Eng.vr rfl (Eng.run_loadb rfl (H.dep 0 40 (by kernel_rfl) rfl) ((H.below.block _ lg3_1_42).trans kg3_1_42) rfl (by kernel_rfl))
      ·refine Eng.plain rfl rfl fun a w' H => ?_
       refine Eng.vr (v := .bool (x.kind == 2)) (by show _ = Value.bool q42; rw [Bq42]) ?_
       have e0 : a.eval (.tmp 41) = .int .i64 x.kind := (H.dep 1 41 (by kernel_rfl) rfl)
       have e1 : a.eval (.const (.int .i64 2)) = .int .i64 2 := (rfl : a.eval (.const (.int .i64 2)) = .int .i64 2)
       simp only [execOp, resolve, List.map_toArray, List.map_cons, List.map_nil, e0, e1]
       go_simp
       all_goals first | rfl | (simp; done) | (rw [Bool.eq_iff_iff]; simp; done) | omega | (split <;> first | (simp_all; done) | (split <;> simp_all; done)) | skip
      ·exact Eng.plain rfl rfl fun a w' H => Eng.vr rfl (Eng.run_move rfl (H.dep 2 42 (by kernel_rfl) rfl))
      ·refine Eng.guarded1 (j := 3) (d := 43) (b := q42) rfl rfl (by kernel_rfl) rfl (fun v w h => h) (fun hG w => Eng.off hG) fun hG a w' H => ?_
       exact Eng.val (w1 := w') (v := .pointer (some ⟨g3_1, 0, none⟩)) (Eng.run_fieldb rfl Tryz.underlying29 0 (by kernel_rfl) ((H.kept 3 (by kernel_rfl)).trans h3_41)) (Below.refl _ _) (Eng.off' hG rfl)
      ·refine Eng.guarded1 (j := 3) (d := 43) (b := q42) rfl rfl (by kernel_rfl) rfl (fun v w h => h) (fun hG w => Eng.off hG) fun hG a w' H => ?_
       exact Eng.val (w1 := w') (v := .int .i64 x.kind) (Eng.run_loadb rfl (Eng.on (H.dep 4 44 (by kernel_rfl) rfl) hG) ((H.below.block _ lg3_1_42).trans kg3_1_42) rfl (by kernel_rfl)) (Below.refl _ _) (Eng.off' hG rfl)
      ·refine Eng.guarded1 (j := 3) (d := 43) (b := q42) rfl rfl (by kernel_rfl) rfl (fun v w h => h) (fun hG w => Eng.off hG) fun hG a w' H => ?_
       refine Eng.vr (v := .bool (x.kind == 4)) (Eng.off' hG (by rw [Bq46])) ?_
       have e0 : a.eval (.tmp 45) = .int .i64 x.kind := (Eng.on (H.dep 5 45 (by kernel_rfl) rfl) hG)
       have e1 : a.eval (.const (.int .i64 4)) = .int .i64 4 := (rfl : a.eval (.const (.int .i64 4)) = .int .i64 4)
       simp only [execOp, resolve, List.map_toArray, List.map_cons, List.map_nil, e0, e1]
       go_simp
       all_goals first | rfl | (simp; done) | (rw [Bool.eq_iff_iff]; simp; done) | omega | (split <;> first | (simp_all; done) | (split <;> simp_all; done)) | skip
      ·exact Eng.plain rfl rfl fun a w' H => Eng.vr (v := .bool (q42 || q46)) (by show _ = Value.bool q47; rw [Bq47]) (Eng.run_or rfl rfl (G := true) (H.dep 3 43 (by kernel_rfl) rfl) (fun hb => (Eng.on (H.dep 6 46 (by kernel_rfl) rfl) (Eng.mk1 hb))))
     intro act43 w43 T
     have h0_43 := (T.rest 0 (by kernel_rfl)).trans h0_41
     have h3_43 := (T.rest 3 (by kernel_rfl)).trans h3_41
     have h5_43 := (T.rest 5 (by kernel_rfl)).trans h5_41
     have kg_43 := (T.below.block _ lg_42).trans kg_42
     have lg_43 := Nat.lt_of_lt_of_le lg_42 T.below.size
     have kg3_1_43 := (T.below.block _ lg3_1_42).trans kg3_1_42
     have lg3_1_43 := Nat.lt_of_lt_of_le lg3_1_42 T.below.size
     have Oo_43 := Eng.own_below Oo_42 T.below
     have h47_43 : act43.eval (.tmp 47) = .bool q47 := T.done 7 47 rfl rfl
     have d43 := T.defers.trans d41
     have s43 := T.size.trans s41
     have bl43 := bl42.trans (T.below.mono bl42.size)
     have XA_43 := Eng.Aft.step XA_42 T.below
     clear T
     refine Eng.tail_nil ?_
     first | show Code.wp Tryz.prog _ _ _ _ | skip
     refine wp_cond_split h47_43 (fun hq => ?_) (fun hq => ?_)
     ·
      have c47 := Bq47.symm.trans hq
      clear hq
      have h24 : x.kind = 2 ∨ x.kind = 4 := by have h := c47; rw [Bq42, Bq46] at h; simpa using h
      refine (wpIn_wide (n := 1)).1 ?_
      refine EngI.regionS EngI.free_wide (Eng.still [fun u_ => u_ = .pointer (some ⟨g, 0, none⟩), fun u_ => u_ = .pointer (some ⟨g3_1, 0, none⟩), fun u_ => u_ = .int .i64 x.kind]) (fun _ => .plain) 3 1 53 s43 rfl (by kernel_rfl) (Eng.still_stable _) (Or.inr (Eng.still_any _)) (by kernel_rfl) ?_ ?_
      ·refine .cons (fun _ => ?_) (.cons (fun _ => ?_) (.cons (fun _ => ?_) (.cons (fun h => absurd h (by decide)) (.nil))))
       ·exact Eng.plain rfl rfl fun a w' H => Eng.vr rfl (Eng.run_move rfl ((H.kept 0 (by kernel_rfl)).trans h0_43))
       ·exact Eng.plain rfl rfl fun a w' H => Eng.vr rfl (Eng.run_fieldb rfl Tryz.underlying29 0 (by kernel_rfl) ((H.kept 3 (by kernel_rfl)).trans h3_43))
       ·exact Eng.plain rfl rfl fun a w' H => Eng.vr rfl (Eng.run_loadb rfl (H.dep 1 49 (by kernel_rfl) rfl) ((H.below.block _ lg3_1_43).trans kg3_1_43) rfl (by kernel_rfl))
      intro act45 w45 T
      have h5_45 := (T.rest 5 (by kernel_rfl)).trans h5_43
      have kg_45 := (T.below.block _ lg_43).trans kg_43
      have Oo_45 := Eng.own_below Oo_43 T.below
      have h48_45 : act45.eval (.tmp 48) = .pointer (some ⟨g, 0, none⟩) := T.done 0 48 rfl rfl
      have h50_45 : act45.eval (.tmp 50) = .int .i64 x.kind := T.done 2 50 rfl rfl
      have d45 := T.defers.trans d43
      have s45 := T.size.trans s43
      have bl45 := bl43.trans (T.below.mono bl43.size)
      have XA_45 := Eng.Aft.step XA_43 T.below
      clear T
      refine EngI.tail_call EngI.free_wide Tryz.func42 (by kernel_rfl) (by kernel_rfl) rfl rfl rfl rfl #[.pointer (some ⟨g, 0, none⟩), .int .i64 x.kind] (by have e0 : act45.eval (.tmp 48) = .pointer (some ⟨g, 0, none⟩) := h48_45; have e1 : act45.eval (.tmp 50) = .int .i64 x.kind := h50_45; simp only [List.map_toArray, List.map_cons, List.map_nil, e0, e1]) s45 rfl (R := fun v w' => ∃ o', Evt.Is w.heap.size w45 g o ((pre ++ [(t.1, IntKind.i64.wrap (t.2 + 1))]) ++ [(x.kind, 0)]) w' o') ((Evt.push_calls g o (pre ++ [(t.1, IntKind.i64.wrap (t.2 + 1))]) x.kind w _ bl45 hlo kg_45 Oo_45 (by first | exact hst | (simp at hst ⊢; omega))).mono ?_) fun v_46 w46 act46 R d46 s46 hv hr => ?_
      ·rintro e w1 ⟨v1, o1, rfl, h1⟩; exact ⟨_, rfl, o1, h1⟩
      have h5_46 := (hr 5 rfl).trans h5_45
      have d46 := d46.trans d45
      clear hv hr
      obtain ⟨o46, I46⟩ := R
      have bl46 := Eng.Aft.below I46.aft bl45 (Nat.le_refl _) (Evt.nst_lo hlo Oo_45)
      have XA_46 := Eng.Aft.trans XA_45 I46.aft (fun _ _ h => h)
      have kg_46 := I46.box
      have lg_46 := (Array.getElem?_eq_some_iff.1 kg_46).1
      have Oo_46 := I46.own
      refine EngI.tail_nil ?_
      first | show Code.wp Tryz.prog _ _ _ _ | skip
      refine wp_seq ?_
      refine Eng.regionS (Eng.still [fun u_ => u_ = .bool true, fun u_ => u_ = .bool true]) (fun _ => .plain) 2 0 53 s46 rfl (by kernel_rfl) (Eng.still_stable _) (Or.inr (Eng.still_any _)) ?_ ?_
      ·refine .cons (fun _ => ?_) (.cons (fun _ => ?_) (.nil))
       ·exact Eng.plain rfl rfl fun a w' H => Eng.vr rfl (Eng.run_move rfl ((H.kept 5 (by kernel_rfl)).trans h5_46))
       ·exact Eng.plain rfl rfl fun a w' H => Eng.vr rfl (Eng.run_assign rfl (H.dep 0 52 (by kernel_rfl) rfl))
      intro act47 w47 T
      have kg_47 := (T.below.block _ lg_46).trans kg_46
      have Oo46_47 := Eng.own_below Oo_46 T.below
      have h4_47 : act47.eval (.tmp 4) = .bool true := T.done 1 4 rfl rfl
      have d47 := T.defers.trans d46
      have bl47 := bl46.trans (T.below.mono bl46.size)
      have XA_47 := Eng.Aft.step XA_46 T.below
      clear T
      refine Eng.tail_nil ?_
      first | show Code.wp Tryz.prog _ _ _ _ | skip
      refine wp_ret ?_
      repeat (first | refine Eng.in_ret ?_ | refine Eng.then_ret ?_)
      have e_ : Evt.takeF (pre ++ [t]) x.kind = some ((pre ++ [(t.1, IntKind.i64.wrap (t.2 + 1))]) ++ [(x.kind, 0)]) := by rw [Evt.takeF_x _ _ hn0 hn1 hn3 hn5, if_neg (by simp), Evt.more_snoc, if_pos h24]
      exact Eng.ret1 rfl d47 h4_47 ⟨by rw [e_]; first | rfl | (rw [Bq19]; rfl), bl47, fun st' h => by rw [e_] at h; cases h; exact ⟨_, kg_47, Oo46_47, XA_47⟩⟩
     ·
      have c47 := Bq47.symm.trans hq
      clear hq
      have h24 : ¬ (x.kind = 2 ∨ x.kind = 4) := by have h := c47; rw [Bq42, Bq46] at h; simpa using h
      refine wp_skip ?_
      first | show Code.wp Tryz.prog _ _ _ _ | skip
      refine wp_seq ?_
      refine Eng.regionS (Eng.still [fun u_ => u_ = .bool true, fun u_ => u_ = .bool true]) (fun _ => .plain) 2 0 53 s43 rfl (by kernel_rfl) (Eng.still_stable _) (Or.inr (Eng.still_any _)) ?_ ?_
      ·refine .cons (fun _ => ?_) (.cons (fun _ => ?_) (.nil))
       ·exact Eng.plain rfl rfl fun a w' H => Eng.vr rfl (Eng.run_move rfl ((H.kept 5 (by kernel_rfl)).trans h5_43))
       ·exact Eng.plain rfl rfl fun a w' H => Eng.vr rfl (Eng.run_assign rfl (H.dep 0 52 (by kernel_rfl) rfl))
      intro act49 w49 T
      have kg_49 := (T.below.block _ lg_43).trans kg_43
      have Oo_49 := Eng.own_below Oo_43 T.below
      have h4_49 : act49.eval (.tmp 4) = .bool true := T.done 1 4 rfl rfl
      have d49 := T.defers.trans d43
      have bl49 := bl43.trans (T.below.mono bl43.size)
      have XA_49 := Eng.Aft.step XA_43 T.below
      clear T
      refine Eng.tail_nil ?_
      first | show Code.wp Tryz.prog _ _ _ _ | skip
      refine wp_ret ?_
      repeat (first | refine Eng.in_ret ?_ | refine Eng.then_ret ?_)
      have e_ : Evt.takeF (pre ++ [t]) x.kind = some (pre ++ [(t.1, IntKind.i64.wrap (t.2 + 1))]) := by rw [Evt.takeF_x _ _ hn0 hn1 hn3 hn5, if_neg (by simp), Evt.more_snoc, if_neg h24]
      exact Eng.ret1 rfl d49 h4_49 ⟨by rw [e_]; first | rfl | (rw [Bq19]; rfl), bl49, fun st' h => by rw [e_] at h; cases h; exact ⟨_, kg_49, Oo_49, XA_49⟩⟩
end Go.Proofs.YtgnmjaacnmkgnaaGreatDoor.X
