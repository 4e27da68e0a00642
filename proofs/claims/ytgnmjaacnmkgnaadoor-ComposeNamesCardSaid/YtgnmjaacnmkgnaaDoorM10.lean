/- Words and walks that the row of ComposeNames needs: printed by programs, and plain laws. -/
import Derived.Test.YtgnmjaacnmkgnaaDoorM9
import Derived.Test.YtgnmjaacnmkgnaaDoorM3
import Derived.Test.YtgnmjaacnmkgnaaDoorM4
namespace Go.Proofs.YtgnmjaacnmkgnaaDoorW.PrintWords
end Go.Proofs.YtgnmjaacnmkgnaaDoorW.PrintWords
namespace Go.Proofs.YtgnmjaacnmkgnaaDoorW.PrintLast
end Go.Proofs.YtgnmjaacnmkgnaaDoorW.PrintLast
namespace Go.Proofs.YtgnmjaacnmkgnaaDoorW.PrintMore
end Go.Proofs.YtgnmjaacnmkgnaaDoorW.PrintMore
section
namespace Go.Proofs.YtgnmjaacnmkgnaaDoor.X
open Go.RowKit Go.Shelf Go.Proofs Go.Proofs.YtgnmjaacnmkgnaaDoorW.PrintWords Go.Proofs.YtgnmjaacnmkgnaaDoorW.PrintLast Go.Proofs.YtgnmjaacnmkgnaaDoorW.PrintMore
set_option linter.unusedVariables false
set_option linter.unusedSimpArgs false
attribute [local go_sem] max2_int min2_int max_two min_two
set_option maxHeartbeats 4000000 in
set_option maxRecDepth 100000 in
theorem Evt.take_nil (g : Nat) (o : Value) (x : Evt.Ev) (w W0 : World) (hB : Below w.heap.size w W0) (hlo : w.heap.size ≤ g) (hk : W0.heap[g]? = some (.cells #[o] 77 (0, 0))) (hO : W0.ownsRow w.heap.size 93 2 o 0 (Evt.opens [])) : Calls Tryd.prog 36 #[.pointer (some ⟨g, 0, none⟩), .agg #[.int .i64 x.kind, .string x.anchor, .string x.tag, .string x.text, .bool x.plain]] W0 fun e w' => e = .returned (.bool (Evt.takeF [] x.kind).isSome) ∧ Below w.heap.size w w' ∧ ∀ st', Evt.takeF [] x.kind = some st' → ∃ o', Evt.Is w.heap.size W0 g o st' w' o' := by
 have hst : ([] : List (Int × Int)).length ≤ 100000 := by simp
 refine Eng.enter Tryd.func36 rfl fun act0 d0 s0 v0 => ?_
 have s0 : act0.tmps.size = 53 := s0
 have h0_0 : act0.eval (.tmp 0) = .pointer (some ⟨g, 0, none⟩) := v0 0 (by simp)
 have h1_0 : act0.eval (.tmp 1) = .agg #[.int .i64 x.kind, .string x.anchor, .string x.tag, .string x.text, .bool x.plain] := v0 1 (by simp)
 clear v0
 refine wp_seq ?_
 refine Eng.regionS (Eng.still [fun u_ => True, fun u_ => u_ = .bool false]) (fun i => ([.alloc 30 #[.int .i64 x.kind, .string x.anchor, .string x.tag, .string x.text, .bool x.plain], .plain] : List Eng.Kind).getD i .plain) 2 0 53 s0 rfl (by kernel_rfl) (Eng.still_stable _) (Or.inr (Eng.still_any _)) ?_ ?_
 ·refine .c ?_ (.c ?_ (.nil))
  ·refine Eng.made rfl (by simp) rfl (fun a w' hd ho => ?_) (fun _ _ => trivial)
   exact Eng.run_box rfl ((ho 1 (by kernel_rfl)).trans h1_0)
  exact Eng.pv fun a w' H => Eng.vr rfl (Eng.run_assign rfl (rfl : a.eval (.const (.bool false)) = .bool false))
 intro act1 w1 T
 have h0_1 := T.r1 h0_0
 have kg_1 := (T.below.block _ (Array.getElem?_eq_some_iff.1 hk).1).trans hk
 have lg_1 := Nat.lt_of_lt_of_le (Array.getElem?_eq_some_iff.1 hk).1 T.below.size
 have Oo_1 := T.g hO
 obtain ⟨g3_1, h3_1, rg3_1, lg3_1_1, kg3_1_1⟩ := T.al 0 3 _ _ rfl rfl rfl (by kernel_rfl)
 have d1 := T.e d0
 have s1 := T.z s0
 have bl1 := hB.trans (T.below.mono hB.size)
 have XA_1 := Eng.Aft.step (Eng.Aft.refl (Eng.Nst g o) W0) T.below
 clear T
 refine Eng.tail_nil ?_
 refine wp_seq ?_
 refine (wpIn_wide (n := 1)).1 ?_
 refine EngI.regionS EngI.free_wide (Eng.still [fun u_ => u_ = .pointer (some ⟨g, 0, none⟩)]) (fun _ => .plain) 1 6 53 s1 rfl (by kernel_rfl) (Eng.still_stable _) (Or.inr (Eng.still_any _)) (by kernel_rfl) ?_ ?_
 ·refine .c ?_ (.cons (fun h => absurd h (by decide)) (.cons (fun h => absurd h (by decide)) (.cons (fun h => absurd h (by decide)) (.cons (fun h => absurd h (by decide)) (.cons (fun h => absurd h (by decide)) (.cons (fun h => absurd h (by decide)) (.nil)))))))
  ·exact Eng.pv fun a w' H => Eng.vr rfl (Eng.run_move rfl (H.q 0 h0_1))
 intro act2 w2 T
 have ⟨h0_2, h3_2⟩ := T.r2 h0_1 h3_1
 have kg_2 := T.x lg_1 kg_1
 have lg_2 := T.l lg_1
 have kg3_1_2 := T.x lg3_1_1 kg3_1_1
 have lg3_1_2 := T.l lg3_1_1
 have Oo_2 := T.g Oo_1
 have h6_2 : act2.eval (.tmp 6) = .pointer (some ⟨g, 0, none⟩) := T.done 0 6 rfl rfl
 have d2 := T.e d1
 have s2 := T.z s1
 have bl2 := T.b bl1
 have XA_2 := Eng.Aft.step XA_1 T.below
 clear T
 refine EngI.tail_call EngI.free_wide Tryd.func66 (by kernel_rfl) (by kernel_rfl) rfl rfl rfl rfl #[.pointer (some ⟨g, 0, none⟩)] (by have e0 : act2.eval (.tmp 6) = .pointer (some ⟨g, 0, none⟩) := h6_2; simp only [List.map_toArray, List.map_cons, List.map_nil, e0]) s2 rfl (R := fun v w' => ∃ h, v = .pointer (some ⟨h, 0, none⟩) ∧ w2.heap.size ≤ h ∧ h < w'.heap.size ∧ w'.heap[h]? = some (.cells #[.int .i64 (-1), .int .i64 0] 93 (0, 0)) ∧ Below w2.heap.size w2 w') ((Evt.last_nil g o w.heap.size _ kg_2 Oo_2).mono ?_) fun v_3 w3 act3 R d3 s3 h7_3 hr => ?_
 ·rintro e w1 ⟨h, rfl, h1⟩; exact ⟨_, rfl, h, rfl, h1⟩
 have ⟨h0_3, h3_3⟩ := Eng.k2 hr h0_2 h3_2
 have d3 := d3.trans d2
 clear hr
 obtain ⟨h3, ev_3, rg_3, lgh3, kgh3, b_3⟩ := R
 have nw3 : W0.heap.size ≤ h3 := Nat.le_trans XA_2.size rg_3
 have kg_3 := (b_3.block _ lg_2).trans kg_2
 have lg_3 := Nat.lt_of_lt_of_le lg_2 b_3.size
 have kg3_1_3 := (b_3.block _ lg3_1_2).trans kg3_1_2
 have lg3_1_3 := Nat.lt_of_lt_of_le lg3_1_2 b_3.size
 have Oo_3 := Eng.own_below Oo_2 b_3
 have XA_3 := Eng.Aft.step XA_2 b_3
 have bl3 := bl2.trans (b_3.mono bl2.size)
 rw [ev_3] at h7_3
 refine EngI.tv (w1 := w3) (v := .pointer (some ⟨h3, 0, none⟩)) rfl ?_ s3 ?_
 ·exact Eng.run_nilb rfl h7_3
 intro act4 d4 s4 h8_4 hr
 have ⟨h0_4, h3_4⟩ := Eng.k2 hr h0_3 h3_3
 have d4 := d4.trans d3
 clear hr
 refine EngI.tv (w1 := w3) (v := .pointer (some ⟨h3, 0, none⟩)) rfl ?_ s4 ?_
 ·exact Eng.run_fieldb rfl Tryd.underlying93 0 (by kernel_rfl) h8_4
 intro act5 d5 s5 h9_5 hr
 have ⟨h0_5, h3_5⟩ := Eng.k2 hr h0_4 h3_4
 have d5 := d5.trans d4
 clear hr
 refine EngI.tv (w1 := w3) (v := .int .i64 (-1)) rfl ?_ s5 ?_
 ·exact Eng.run_loadb rfl h9_5 (((Below.refl _ _).block _ lgh3).trans kgh3) rfl (by kernel_rfl)
 intro act6 d6 s6 h10_6 hr
 have ⟨h0_6, h3_6⟩ := Eng.k2 hr h0_5 h3_5
 have d6 := d6.trans d5
 clear hr
 refine EngI.tv (w1 := w3) (v := .bool (decide ((-1) ≥ 0))) rfl ?_ s6 ?_
 ·have e0 : act6.eval (.tmp 10) = .int .i64 (-1) := h10_6
  have e1 : act6.eval (.const (.int .i64 0)) = .int .i64 0 := rfl
  simp only [execOp, resolve, e0, e1]
  go_simp
 intro act7 d7 s7 hv hr
 have ⟨h0_7, h3_7⟩ := Eng.k2 hr h0_6 h3_6
 have h11_7 : act7.eval (.tmp 11) = .bool false := hv.trans (congrArg Value.bool (by decide : _ = false))
 have d7 := d7.trans d6
 clear hv hr
 refine EngI.tv rfl (Eng.run_assign rfl h11_7) s7 fun act8 d8 s8 h5_8 hr => ?_
 have ⟨h0_8, h3_8⟩ := Eng.k2 hr h0_7 h3_7
 have d8 := d8.trans d7
 clear hr
 refine EngI.tail_nil ?_
 refine wp_seq ?_
 refine wp_seq ?_
 refine Eng.rS [.pointer (some ⟨g3_1, 0, none⟩), .int .i64 x.kind] (fun _ => .plain) 2 0 s8 ?_ ?_
 ·refine .c ?_ (.c ?_ (.nil))
  ·exact Eng.pv fun a w' H => Eng.vr rfl (Eng.run_fieldb rfl Tryd.underlying30 0 (by kernel_rfl) (H.q 3 h3_8))
  exact Eng.pv fun a w' H => Eng.vr rfl (Eng.run_loadb rfl (H.d 0 12) ((H.below.block _ lg3_1_3).trans kg3_1_3) rfl (by kernel_rfl))
 intro act9 w9 T
 have ⟨h0_9, h3_9, h5_9⟩ := T.r3 h0_8 h3_8 h5_8
 have kg_9 := T.x lg_3 kg_3
 have lg_9 := T.l lg_3
 have kg3_1_9 := T.x lg3_1_3 kg3_1_3
 have lg3_1_9 := T.l lg3_1_3
 have Oo_9 := T.g Oo_3
 have h13_9 : act9.eval (.tmp 13) = .int .i64 x.kind := T.done 1 13 rfl rfl
 have d9 := T.e d8
 have s9 := T.z s8
 have bl9 := T.b bl3
 have XA_9 := Eng.Aft.step XA_3 T.below
 clear T
 refine Eng.tail_nil ?_
 refine wp_block ?_
 refine wp_seq ?_
 obtain ⟨q15, Bq15⟩ : ∃ b : Bool, b = (x.kind == 0) := ⟨_, rfl⟩
 refine Eng.rS [.bool q15, .bool q15] (fun _ => .plain) 2 0 s9 ?_ ?_
 ·refine .c ?_ (.c ?_ (.nil))
  ·refine Eng.pv fun a w' H => ?_
   refine Eng.vr (v := .bool (x.kind == 0)) (by show _ = Value.bool q15; rw [Bq15]) ?_
   have e0 := (H.q 13 h13_9)
   have e1 : a.eval (.const (.int .i64 0)) = .int .i64 0 := rfl
   simp only [execOp, resolve, e0, e1]
   go_simp
  exact Eng.pv fun a w' H => Eng.vr rfl (Eng.run_assign rfl (H.d 0 15))
 intro act10 w10 T
 have ⟨h0_10, h3_10, h5_10, h13_10⟩ := T.r4 h0_9 h3_9 h5_9 h13_9
 have kg_10 := T.x lg_9 kg_9
 have lg_10 := T.l lg_9
 have kg3_1_10 := T.x lg3_1_9 kg3_1_9
 have lg3_1_10 := T.l lg3_1_9
 have Oo_10 := T.g Oo_9
 have h14_10 : act10.eval (.tmp 14) = .bool q15 := T.done 1 14 rfl rfl
 have d10 := T.e d9
 have s10 := T.z s9
 have bl10 := T.b bl9
 have XA_10 := Eng.Aft.step XA_9 T.below
 clear T
 refine Eng.tail_nil ?_
 refine wp_cond_split h14_10 (fun hq => ?_) (fun hq => ?_)
 ·
  have c14 := Bq15.symm.trans hq
  clear hq
  have hk_ : x.kind = 0 := by simpa using c14
  refine wp_seq ?_
  refine (wpIn_wide (n := 1)).1 ?_
  refine EngI.regionS EngI.free_wide (Eng.still [fun u_ => u_ = .pointer (some ⟨g, 0, none⟩)]) (fun _ => .plain) 1 1 53 s10 rfl (by kernel_rfl) (Eng.still_stable _) (Or.inr (Eng.still_any _)) (by kernel_rfl) ?_ ?_
  ·refine .c ?_ (.cons (fun h => absurd h (by decide)) (.nil))
   ·exact Eng.pv fun a w' H => Eng.vr rfl (Eng.run_move rfl (H.q 0 h0_10))
  intro act12 w12 T
  have h5_12 := T.r1 h5_10
  have kg_12 := T.x lg_10 kg_10
  have Oo_12 := T.g Oo_10
  have h16_12 : act12.eval (.tmp 16) = .pointer (some ⟨g, 0, none⟩) := T.done 0 16 rfl rfl
  have d12 := T.e d10
  have s12 := T.z s10
  have bl12 := T.b bl10
  have XA_12 := Eng.Aft.step XA_10 T.below
  clear T
  refine EngI.tail_call EngI.free_wide Tryd.func67 (by kernel_rfl) (by kernel_rfl) rfl rfl rfl rfl #[.pointer (some ⟨g, 0, none⟩), .int .i64 0] (by have e0 : act12.eval (.tmp 16) = .pointer (some ⟨g, 0, none⟩) := h16_12; have e1 : act12.eval (.const (.int .i64 0)) = .int .i64 0 := (rfl : act12.eval (.const (.int .i64 0)) = .int .i64 0); simp only [List.map_toArray, List.map_cons, List.map_nil, e0, e1]) s12 rfl (R := fun v w' => ∃ o', Evt.Is w.heap.size w12 g o ([] ++ [(0, 0)]) w' o') ((Evt.push_calls g o [] 0 w _ bl12 hlo kg_12 Oo_12 (by first | exact hst | (simp at hst ⊢; omega))).mono ?_) fun v_13 w13 act13 R d13 s13 hv hr => ?_
  ·rintro e w1 ⟨v1, o1, rfl, h1⟩; exact ⟨_, rfl, o1, h1⟩
  have h5_13 := Eng.k1 hr h5_12
  have d13 := d13.trans d12
  clear hv hr
  obtain ⟨o13, I13⟩ := R
  have bl13 := Eng.Aft.below I13.aft bl12 (Nat.le_refl _) (Evt.nst_lo hlo Oo_12)
  have XA_13 := Eng.Aft.trans XA_12 I13.aft (fun _ _ h => h)
  have kg_13 := I13.box
  have lg_13 := (Array.getElem?_eq_some_iff.1 kg_13).1
  have Oo_13 := I13.own
  refine EngI.tail_nil ?_
  refine wp_seq ?_
  obtain ⟨q19, Bq19⟩ : ∃ b : Bool, b = (!false) := ⟨_, rfl⟩
  refine Eng.rS [.bool false, .bool q19, .bool q19] (fun _ => .plain) 3 0 s13 ?_ ?_
  ·refine .c ?_ (.c ?_ (.c ?_ (.nil)))
   ·exact Eng.pv fun a w' H => Eng.vr rfl (Eng.run_move rfl (H.q 5 h5_13))
   ·exact Eng.pv fun a w' H => Eng.vr (v := .bool (!false)) (by show _ = Value.bool q19; rw [Bq19]) (Eng.run_not rfl (H.d 0 18))
   exact Eng.pv fun a w' H => Eng.vr rfl (Eng.run_assign rfl (H.d 1 19))
  intro act14 w14 T
  have kg_14 := T.x lg_13 kg_13
  have Oo13_14 := T.g Oo_13
  have h4_14 : act14.eval (.tmp 4) = .bool q19 := T.done 2 4 rfl rfl
  have d14 := T.e d13
  have bl14 := T.b bl13
  have XA_14 := Eng.Aft.step XA_13 T.below
  clear T
  refine Eng.tail_nil ?_
  refine wp_ret ?_
  repeat (first | refine Eng.in_ret ?_ | refine Eng.then_ret ?_)
  have e_ : Evt.takeF [] x.kind = some [(0, 0)] := by rw [hk_]; exact Evt.takeF_0 _
  exact Eng.ret1 rfl d14 h4_14 ⟨by rw [e_]; first | rfl | (rw [Bq19]; rfl), bl14, fun st' h => by rw [e_] at h; cases h; exact ⟨_, kg_14, Oo13_14, XA_14⟩⟩
 have c14 := Bq15.symm.trans hq
 clear hq
 have hn0 : x.kind ≠ 0 := by simpa using c14
 refine wp_seq ?_
 obtain ⟨q21, Bq21⟩ : ∃ b : Bool, b = (x.kind == 1) := ⟨_, rfl⟩
 refine Eng.rS [.bool q21, .bool q21] (fun _ => .plain) 2 0 s10 ?_ ?_
 ·refine .c ?_ (.c ?_ (.nil))
  ·refine Eng.pv fun a w' H => ?_
   refine Eng.vr (v := .bool (x.kind == 1)) (by show _ = Value.bool q21; rw [Bq21]) ?_
   have e0 := (H.q 13 h13_10)
   have e1 : a.eval (.const (.int .i64 1)) = .int .i64 1 := rfl
   simp only [execOp, resolve, e0, e1]
   go_simp
  exact Eng.pv fun a w' H => Eng.vr rfl (Eng.run_assign rfl (H.d 0 21))
 intro act16 w16 T
 have ⟨h0_16, h3_16, h5_16, h13_16⟩ := T.r4 h0_10 h3_10 h5_10 h13_10
 have kg_16 := T.x lg_10 kg_10
 have lg_16 := T.l lg_10
 have kg3_1_16 := T.x lg3_1_10 kg3_1_10
 have lg3_1_16 := T.l lg3_1_10
 have Oo_16 := T.g Oo_10
 have h20_16 : act16.eval (.tmp 20) = .bool q21 := T.done 1 20 rfl rfl
 have d16 := T.e d10
 have s16 := T.z s10
 have bl16 := T.b bl10
 have XA_16 := Eng.Aft.step XA_10 T.below
 clear T
 refine Eng.tail_nil ?_
 refine wp_cond_split h20_16 (fun hq => ?_) (fun hq => ?_)
 ·
  have c20 := Bq21.symm.trans hq
  clear hq
  have hk_ : x.kind = 1 := by simpa using c20
  refine wp_seq ?_
  refine (wpIn_wide (n := 1)).1 ?_
  refine EngI.regionS EngI.free_wide (Eng.still [fun u_ => u_ = .pointer (some ⟨g, 0, none⟩)]) (fun _ => .plain) 1 2 53 s16 rfl (by kernel_rfl) (Eng.still_stable _) (Or.inr (Eng.still_any _)) (by kernel_rfl) ?_ ?_
  ·refine .c ?_ (.cons (fun h => absurd h (by decide)) (.cons (fun h => absurd h (by decide)) (.nil)))
   ·exact Eng.pv fun a w' H => Eng.vr rfl (Eng.run_move rfl (H.q 0 h0_16))
  intro act18 w18 T
  have kg_18 := T.x lg_16 kg_16
  have Oo_18 := T.g Oo_16
  have h22_18 : act18.eval (.tmp 22) = .pointer (some ⟨g, 0, none⟩) := T.done 0 22 rfl rfl
  have d18 := T.e d16
  have s18 := T.z s16
  have bl18 := T.b bl16
  have XA_18 := Eng.Aft.step XA_16 T.below
  clear T
  refine EngI.tail_call EngI.free_wide Tryd.func68 (by kernel_rfl) (by kernel_rfl) rfl rfl rfl rfl #[.pointer (some ⟨g, 0, none⟩), .int .i64 0, .func (.func 69) #[] #[]] (by have e0 : act18.eval (.tmp 22) = .pointer (some ⟨g, 0, none⟩) := h22_18; have e1 : act18.eval (.const (.int .i64 0)) = .int .i64 0 := (rfl : act18.eval (.const (.int .i64 0)) = .int .i64 0); have e2 : act18.eval (.func 69) = .func (.func 69) #[] #[] := (rfl : act18.eval (.func 69) = .func (.func 69) #[] #[]); simp only [List.map_toArray, List.map_cons, List.map_nil, e0, e1, e2]) s18 rfl (R := fun v w' => v = .bool (Evt.pop [] 0 (fun m => m == 1)).isSome ∧ Below w.heap.size w w' ∧ ∀ st', Evt.pop [] 0 (fun m => m == 1) = some st' → ∃ o', Evt.Is w.heap.size w18 g o st' w' o') ((Evt.pop69_nil g o 0 w _ bl18 hlo kg_18 Oo_18 (by decide)).mono ?_) fun v_19 w19 act19 R d19 s19 h23_19 hr => ?_
  ·rintro e w1 ⟨rfl, h1, h2⟩; exact ⟨_, rfl, rfl, h1, h2⟩
  have d19 := d19.trans d18
  clear hr
  obtain ⟨ev_19, bl19, hP0_19⟩ := R
  have hP19 : ∀ st', Evt.pop [] 0 (fun m => m == 1) = some st' → ∃ o', Evt.Is w.heap.size W0 g o st' w19 o' := fun st' h => (hP0_19 st' h).imp fun _ i => i.from XA_18
  rw [ev_19] at h23_19
  refine EngI.tv rfl (Eng.run_assign rfl h23_19) s19 fun act20 d20 s20 h4_20 hr => ?_
  have d20 := d20.trans d19
  clear hr
  refine EngI.tail_nil ?_
  refine wp_ret ?_
  repeat (first | refine Eng.in_ret ?_ | refine Eng.then_ret ?_)
  have e_ : Evt.takeF [] x.kind = Evt.pop [] 0 (fun m => m == 1) := by rw [hk_]; exact Evt.takeF_1 _
  exact Eng.ret1 rfl d20 h4_20 ⟨by rw [e_], bl19, by rw [e_]; exact hP19⟩
 have c20 := Bq21.symm.trans hq
 clear hq
 have hn1 : x.kind ≠ 1 := by simpa using c20
 refine wp_seq ?_
 obtain ⟨q25, Bq25⟩ : ∃ b : Bool, b = (x.kind == 3) := ⟨_, rfl⟩
 refine Eng.rS [.bool q25, .bool q25] (fun _ => .plain) 2 0 s16 ?_ ?_
 ·refine .c ?_ (.c ?_ (.nil))
  ·refine Eng.pv fun a w' H => ?_
   refine Eng.vr (v := .bool (x.kind == 3)) (by show _ = Value.bool q25; rw [Bq25]) ?_
   have e0 := (H.q 13 h13_16)
   have e1 : a.eval (.const (.int .i64 3)) = .int .i64 3 := rfl
   simp only [execOp, resolve, e0, e1]
   go_simp
  exact Eng.pv fun a w' H => Eng.vr rfl (Eng.run_assign rfl (H.d 0 25))
 intro act22 w22 T
 have ⟨h0_22, h3_22, h5_22, h13_22⟩ := T.r4 h0_16 h3_16 h5_16 h13_16
 have kg_22 := T.x lg_16 kg_16
 have lg_22 := T.l lg_16
 have kg3_1_22 := T.x lg3_1_16 kg3_1_16
 have lg3_1_22 := T.l lg3_1_16
 have Oo_22 := T.g Oo_16
 have h24_22 : act22.eval (.tmp 24) = .bool q25 := T.done 1 24 rfl rfl
 have d22 := T.e d16
 have s22 := T.z s16
 have bl22 := T.b bl16
 have XA_22 := Eng.Aft.step XA_16 T.below
 clear T
 refine Eng.tail_nil ?_
 refine wp_cond_split h24_22 (fun hq => ?_) (fun hq => ?_)
 ·
  have c24 := Bq25.symm.trans hq
  clear hq
  have hk_ : x.kind = 3 := by simpa using c24
  refine wp_seq ?_
  refine (wpIn_wide (n := 1)).1 ?_
  refine EngI.regionS EngI.free_wide (Eng.still [fun u_ => u_ = .pointer (some ⟨g, 0, none⟩)]) (fun _ => .plain) 1 2 53 s22 rfl (by kernel_rfl) (Eng.still_stable _) (Or.inr (Eng.still_any _)) (by kernel_rfl) ?_ ?_
  ·refine .c ?_ (.cons (fun h => absurd h (by decide)) (.cons (fun h => absurd h (by decide)) (.nil)))
   ·exact Eng.pv fun a w' H => Eng.vr rfl (Eng.run_move rfl (H.q 0 h0_22))
  intro act24 w24 T
  have kg_24 := T.x lg_22 kg_22
  have Oo_24 := T.g Oo_22
  have h26_24 : act24.eval (.tmp 26) = .pointer (some ⟨g, 0, none⟩) := T.done 0 26 rfl rfl
  have d24 := T.e d22
  have s24 := T.z s22
  have bl24 := T.b bl22
  have XA_24 := Eng.Aft.step XA_22 T.below
  clear T
  refine EngI.tail_call EngI.free_wide Tryd.func68 (by kernel_rfl) (by kernel_rfl) rfl rfl rfl rfl #[.pointer (some ⟨g, 0, none⟩), .int .i64 2, .func (.func 70) #[] #[]] (by have e0 : act24.eval (.tmp 26) = .pointer (some ⟨g, 0, none⟩) := h26_24; have e1 : act24.eval (.const (.int .i64 2)) = .int .i64 2 := (rfl : act24.eval (.const (.int .i64 2)) = .int .i64 2); have e2 : act24.eval (.func 70) = .func (.func 70) #[] #[] := (rfl : act24.eval (.func 70) = .func (.func 70) #[] #[]); simp only [List.map_toArray, List.map_cons, List.map_nil, e0, e1, e2]) s24 rfl (R := fun v w' => v = .bool (Evt.pop [] 2 (fun _ => true)).isSome ∧ Below w.heap.size w w' ∧ ∀ st', Evt.pop [] 2 (fun _ => true) = some st' → ∃ o', Evt.Is w.heap.size w24 g o st' w' o') ((Evt.pop70_nil g o 2 w _ bl24 hlo kg_24 Oo_24 (by decide)).mono ?_) fun v_25 w25 act25 R d25 s25 h27_25 hr => ?_
  ·rintro e w1 ⟨rfl, h1, h2⟩; exact ⟨_, rfl, rfl, h1, h2⟩
  have d25 := d25.trans d24
  clear hr
  obtain ⟨ev_25, bl25, hP0_25⟩ := R
  have hP25 : ∀ st', Evt.pop [] 2 (fun _ => true) = some st' → ∃ o', Evt.Is w.heap.size W0 g o st' w25 o' := fun st' h => (hP0_25 st' h).imp fun _ i => i.from XA_24
  rw [ev_25] at h27_25
  refine EngI.tv rfl (Eng.run_assign rfl h27_25) s25 fun act26 d26 s26 h4_26 hr => ?_
  have d26 := d26.trans d25
  clear hr
  refine EngI.tail_nil ?_
  refine wp_ret ?_
  repeat (first | refine Eng.in_ret ?_ | refine Eng.then_ret ?_)
  have e_ : Evt.takeF [] x.kind = Evt.pop [] 2 (fun _ => true) := by rw [hk_]; exact Evt.takeF_3 _
  exact Eng.ret1 rfl d26 h4_26 ⟨by rw [e_], bl25, by rw [e_]; exact hP25⟩
 have c24 := Bq25.symm.trans hq
 clear hq
 have hn3 : x.kind ≠ 3 := by simpa using c24
 refine wp_seq ?_
 obtain ⟨q29, Bq29⟩ : ∃ b : Bool, b = (x.kind == 5) := ⟨_, rfl⟩
 refine Eng.rS [.bool q29, .bool q29] (fun _ => .plain) 2 0 s22 ?_ ?_
 ·refine .c ?_ (.c ?_ (.nil))
  ·refine Eng.pv fun a w' H => ?_
   refine Eng.vr (v := .bool (x.kind == 5)) (by show _ = Value.bool q29; rw [Bq29]) ?_
   have e0 := (H.q 13 h13_22)
   have e1 : a.eval (.const (.int .i64 5)) = .int .i64 5 := rfl
   simp only [execOp, resolve, e0, e1]
   go_simp
  exact Eng.pv fun a w' H => Eng.vr rfl (Eng.run_assign rfl (H.d 0 29))
 intro act28 w28 T
 have ⟨h0_28, h3_28, h5_28⟩ := T.r3 h0_22 h3_22 h5_22
 have kg_28 := T.x lg_22 kg_22
 have lg_28 := T.l lg_22
 have kg3_1_28 := T.x lg3_1_22 kg3_1_22
 have lg3_1_28 := T.l lg3_1_22
 have Oo_28 := T.g Oo_22
 have h28_28 : act28.eval (.tmp 28) = .bool q29 := T.done 1 28 rfl rfl
 have d28 := T.e d22
 have s28 := T.z s22
 have bl28 := T.b bl22
 have XA_28 := Eng.Aft.step XA_22 T.below
 clear T
 refine Eng.tail_nil ?_
 refine wp_cond_split h28_28 (fun hq => ?_) (fun hq => ?_)
 ·
  have c28 := Bq29.symm.trans hq
  clear hq
  have hk_ : x.kind = 5 := by simpa using c28
  refine wp_seq ?_
  refine (wpIn_wide (n := 1)).1 ?_
  refine EngI.regionS EngI.free_wide (Eng.still [fun u_ => u_ = .pointer (some ⟨g, 0, none⟩)]) (fun _ => .plain) 1 2 53 s28 rfl (by kernel_rfl) (Eng.still_stable _) (Or.inr (Eng.still_any _)) (by kernel_rfl) ?_ ?_
  ·refine .c ?_ (.cons (fun h => absurd h (by decide)) (.cons (fun h => absurd h (by decide)) (.nil)))
   ·exact Eng.pv fun a w' H => Eng.vr rfl (Eng.run_move rfl (H.q 0 h0_28))
  intro act30 w30 T
  have kg_30 := T.x lg_28 kg_28
  have Oo_30 := T.g Oo_28
  have h30_30 : act30.eval (.tmp 30) = .pointer (some ⟨g, 0, none⟩) := T.done 0 30 rfl rfl
  have d30 := T.e d28
  have s30 := T.z s28
  have bl30 := T.b bl28
  have XA_30 := Eng.Aft.step XA_28 T.below
  clear T
  refine EngI.tail_call EngI.free_wide Tryd.func68 (by kernel_rfl) (by kernel_rfl) rfl rfl rfl rfl #[.pointer (some ⟨g, 0, none⟩), .int .i64 4, .func (.func 71) #[] #[]] (by have e0 : act30.eval (.tmp 30) = .pointer (some ⟨g, 0, none⟩) := h30_30; have e1 : act30.eval (.const (.int .i64 4)) = .int .i64 4 := (rfl : act30.eval (.const (.int .i64 4)) = .int .i64 4); have e2 : act30.eval (.func 71) = .func (.func 71) #[] #[] := (rfl : act30.eval (.func 71) = .func (.func 71) #[] #[]); simp only [List.map_toArray, List.map_cons, List.map_nil, e0, e1, e2]) s30 rfl (R := fun v w' => v = .bool (Evt.pop [] 4 Evt.even).isSome ∧ Below w.heap.size w w' ∧ ∀ st', Evt.pop [] 4 Evt.even = some st' → ∃ o', Evt.Is w.heap.size w30 g o st' w' o') ((Evt.pop71_nil g o 4 w _ bl30 hlo kg_30 Oo_30 (by decide)).mono ?_) fun v_31 w31 act31 R d31 s31 h31_31 hr => ?_
  ·rintro e w1 ⟨rfl, h1, h2⟩; exact ⟨_, rfl, rfl, h1, h2⟩
  have d31 := d31.trans d30
  clear hr
  obtain ⟨ev_31, bl31, hP0_31⟩ := R
  have hP31 : ∀ st', Evt.pop [] 4 Evt.even = some st' → ∃ o', Evt.Is w.heap.size W0 g o st' w31 o' := fun st' h => (hP0_31 st' h).imp fun _ i => i.from XA_30
  rw [ev_31] at h31_31
  refine EngI.tv rfl (Eng.run_assign rfl h31_31) s31 fun act32 d32 s32 h4_32 hr => ?_
  have d32 := d32.trans d31
  clear hr
  refine EngI.tail_nil ?_
  refine wp_ret ?_
  repeat (first | refine Eng.in_ret ?_ | refine Eng.then_ret ?_)
  have e_ : Evt.takeF [] x.kind = Evt.pop [] 4 Evt.even := by rw [hk_]; exact Evt.takeF_5 _
  exact Eng.ret1 rfl d32 h4_32 ⟨by rw [e_], bl31, by rw [e_]; exact hP31⟩
 have c28 := Bq29.symm.trans hq
 clear hq
 have hn5 : x.kind ≠ 5 := by simpa using c28
 refine wp_skip ?_
 refine wp_seq ?_
 refine (wpIn_wide (n := 1)).1 ?_
 refine EngI.regionS EngI.free_wide (Eng.still [fun u_ => u_ = .pointer (some ⟨g, 0, none⟩)]) (fun _ => .plain) 1 8 53 s28 rfl (by kernel_rfl) (Eng.still_stable _) (Or.inr (Eng.still_any _)) (by kernel_rfl) ?_ ?_
 ·refine .c ?_ (.cons (fun h => absurd h (by decide)) (.cons (fun h => absurd h (by decide)) (.cons (fun h => absurd h (by decide)) (.cons (fun h => absurd h (by decide)) (.cons (fun h => absurd h (by decide)) (.cons (fun h => absurd h (by decide)) (.cons (fun h => absurd h (by decide)) (.cons (fun h => absurd h (by decide)) (.nil)))))))))
  ·exact Eng.pv fun a w' H => Eng.vr rfl (Eng.run_move rfl (H.q 0 h0_28))
 intro act34 w34 T
 have ⟨h0_34, h3_34, h5_34⟩ := T.r3 h0_28 h3_28 h5_28
 have kg_34 := T.x lg_28 kg_28
 have lg_34 := T.l lg_28
 have kg3_1_34 := T.x lg3_1_28 kg3_1_28
 have lg3_1_34 := T.l lg3_1_28
 have Oo_34 := T.g Oo_28
 have h32_34 : act34.eval (.tmp 32) = .pointer (some ⟨g, 0, none⟩) := T.done 0 32 rfl rfl
 have d34 := T.e d28
 have s34 := T.z s28
 have bl34 := T.b bl28
 have XA_34 := Eng.Aft.step XA_28 T.below
 clear T
 refine EngI.tail_call EngI.free_wide Tryd.func66 (by kernel_rfl) (by kernel_rfl) rfl rfl rfl rfl #[.pointer (some ⟨g, 0, none⟩)] (by have e0 : act34.eval (.tmp 32) = .pointer (some ⟨g, 0, none⟩) := h32_34; simp only [List.map_toArray, List.map_cons, List.map_nil, e0]) s34 rfl (R := fun v w' => ∃ h, v = .pointer (some ⟨h, 0, none⟩) ∧ w34.heap.size ≤ h ∧ h < w'.heap.size ∧ w'.heap[h]? = some (.cells #[.int .i64 (-1), .int .i64 0] 93 (0, 0)) ∧ Below w34.heap.size w34 w') ((Evt.last_nil g o w.heap.size _ kg_34 Oo_34).mono ?_) fun v_35 w35 act35 R d35 s35 h33_35 hr => ?_
 ·rintro e w1 ⟨h, rfl, h1⟩; exact ⟨_, rfl, h, rfl, h1⟩
 have ⟨h0_35, h3_35, h5_35⟩ := Eng.k3 hr h0_34 h3_34 h5_34
 have d35 := d35.trans d34
 clear hr
 obtain ⟨h35, ev_35, rg_35, lgh35, kgh35, b_35⟩ := R
 have ne_h35_g : g ≠ h35 := fun e => Nat.lt_irrefl _ (Nat.lt_of_lt_of_le (e ▸ lg_34) rg_35)
 have ne_h35_g3_1 : g3_1 ≠ h35 := fun e => Nat.lt_irrefl _ (Nat.lt_of_lt_of_le (e ▸ lg3_1_34) rg_35)
 have og35 : w.heap.size ≤ h35 := Nat.le_trans bl34.size rg_35
 have nw35 : W0.heap.size ≤ h35 := Nat.le_trans XA_34.size rg_35
 have kg_35 := (b_35.block _ lg_34).trans kg_34
 have lg_35 := Nat.lt_of_lt_of_le lg_34 b_35.size
 have kg3_1_35 := (b_35.block _ lg3_1_34).trans kg3_1_34
 have lg3_1_35 := Nat.lt_of_lt_of_le lg3_1_34 b_35.size
 have Oo_35 := Eng.own_below Oo_34 b_35
 have bl35 := bl34.trans (b_35.mono bl34.size)
 rw [ev_35] at h33_35
 refine EngI.tv (w1 := w35) (v := .pointer (some ⟨h35, 0, none⟩)) rfl ?_ s35 ?_
 ·exact Eng.run_nilb rfl h33_35
 intro act36 d36 s36 h34_36 hr
 have ⟨h0_36, h3_36, h5_36, h33_36⟩ := Eng.k4 hr h0_35 h3_35 h5_35 h33_35
 have d36 := d36.trans d35
 clear hr
 refine EngI.tv (w1 := w35) (v := .pointer (some ⟨h35, 1, none⟩)) rfl ?_ s36 ?_
 ·exact Eng.run_fieldb rfl Tryd.underlying93 1 (by kernel_rfl) h34_36
 intro act37 d37 s37 h35_37 hr
 have ⟨h0_37, h3_37, h5_37, h33_37⟩ := Eng.k4 hr h0_36 h3_36 h5_36 h33_36
 have d37 := d37.trans d36
 clear hr
 refine EngI.tv (w1 := w35) (v := .int .i64 0) rfl ?_ s37 ?_
 ·exact Eng.run_loadb rfl h35_37 (((Below.refl _ _).block _ lgh35).trans kgh35) rfl (by kernel_rfl)
 intro act38 d38 s38 h36_38 hr
 have ⟨h0_38, h3_38, h5_38, h33_38⟩ := Eng.k4 hr h0_37 h3_37 h5_37 h33_37
 have d38 := d38.trans d37
 clear hr
 refine EngI.tv (w1 := w35) (v := .int .i64 (IntKind.i64.wrap (0 + 1))) rfl ?_ s38 ?_
 ·have e0 : act38.eval (.tmp 36) = .int .i64 0 := h36_38
  have e1 : act38.eval (.const (.int .i64 1)) = .int .i64 1 := rfl
  simp only [execOp, resolve, e0, e1]
  go_simp
 intro act39 d39 s39 h37_39 hr
 have ⟨h0_39, h3_39, h5_39, h33_39⟩ := Eng.k4 hr h0_38 h3_38 h5_38 h33_38
 have d39 := d39.trans d38
 clear hr
 refine EngI.tv (w1 := w35) (v := .pointer (some ⟨h35, 0, none⟩)) rfl ?_ s39 ?_
 ·exact Eng.run_nilb rfl h33_39
 intro act40 d40 s40 h38_40 hr
 have ⟨h0_40, h3_40, h5_40, h37_40⟩ := Eng.k4 hr h0_39 h3_39 h5_39 h37_39
 have d40 := d40.trans d39
 clear hr
 refine EngI.tv (w1 := w35) (v := .pointer (some ⟨h35, 1, none⟩)) rfl ?_ s40 ?_
 ·exact Eng.run_fieldb rfl Tryd.underlying93 1 (by kernel_rfl) h38_40
 intro act41 d41 s41 h39_41 hr
 have ⟨h0_41, h3_41, h5_41, h37_41⟩ := Eng.k4 hr h0_40 h3_40 h5_40 h37_40
 have d41 := d41.trans d40
 clear hr
 refine EngI.tail_set EngI.free_wide (n := 1) (v := .int .i64 (IntKind.i64.wrap (0 + 1))) (new := #[.int .i64 (-1), .int .i64 (IntKind.i64.wrap (0 + 1))]) rfl rfl rfl rfl kgh35 rfl ?_ fun w42 S => ?_
 ·have e0 : act41.eval (.tmp 39) = .pointer (some ⟨h35, 1, none⟩) := h39_41
  have e1 : act41.eval (.tmp 37) = .int .i64 (IntKind.i64.wrap (0 + 1)) := h37_41
  have z0 := (Eng.cells kgh35 (1)).trans (rfl)
  have f0 := Eng.unfrozen kgh35 (1)
  simp only [execOp]
  rw [e0, e1]
  go_simp
 have kg_42 := (S.far _ ne_h35_g).trans kg_35
 have lg_42 := Nat.lt_of_lt_of_eq lg_35 S.size.symm
 have kg3_1_42 := (S.far _ ne_h35_g3_1).trans kg3_1_35
 have lg3_1_42 := Nat.lt_of_lt_of_eq lg3_1_35 S.size.symm
 have bl42 := S.below bl35 og35
 have Oo_42 := Evt.own_sets_ne Oo_35 S (fun b e => by have h1 := (Eng.ownB hO e).2.1; have h2 := nw35; omega)
 clear S
 refine EngI.tail_nil ?_
 refine wp_seq ?_
 refine wp_seq ?_
 obtain ⟨q42, Bq42⟩ : ∃ b : Bool, b = (x.kind == 2) := ⟨_, rfl⟩
 obtain ⟨q46, Bq46⟩ : ∃ b : Bool, b = (x.kind == 4) := ⟨_, rfl⟩
 obtain ⟨q47, Bq47⟩ : ∃ b : Bool, b = (q42 || q46) := ⟨_, rfl⟩
 refine Eng.rS [.pointer (some ⟨g3_1, 0, none⟩), .int .i64 x.kind, .bool q42, .bool q42, bif (q42 == false) then (.pointer (some ⟨g3_1, 0, none⟩)) else undef, bif (q42 == false) then (.int .i64 x.kind) else undef, bif (q42 == false) then (.bool q46) else undef, .bool q47] (fun _ => .plain) 8 0 s41 ?_ ?_
 ·refine .c ?_ (.c ?_ (.c ?_ (.c ?_ (.c ?_ (.c ?_ (.c ?_ (.c ?_ (.nil))))))))
  ·exact Eng.pv fun a w' H => Eng.vr rfl (Eng.run_fieldb rfl Tryd.underlying30 0 (by kernel_rfl) (H.q 3 h3_41))
  ·exact Eng.pv fun a w' H => Eng.vr rfl (Eng.run_loadb rfl (H.d 0 40) ((H.below.block _ lg3_1_42).trans kg3_1_42) rfl (by kernel_rfl))
  ·refine Eng.pv fun a w' H => ?_
   refine Eng.vr (v := .bool (x.kind == 2)) (by show _ = Value.bool q42; rw [Bq42]) ?_
   have e0 : a.eval (.tmp 41) = .int .i64 x.kind := (H.d 1 41)
   have e1 : a.eval (.const (.int .i64 2)) = .int .i64 2 := rfl
   simp only [execOp, resolve, e0, e1]
   go_simp
  ·exact Eng.pv fun a w' H => Eng.vr rfl (Eng.run_move rfl (H.d 2 42))
  ·refine Eng.guarded1 (j := 3) (d := 43) (b := q42) rfl rfl (by kernel_rfl) rfl (fun v w h => h) (fun hG w => Eng.off hG) fun hG a w' H => ?_
   exact Eng.val (w1 := w') (v := .pointer (some ⟨g3_1, 0, none⟩)) (Eng.run_fieldb rfl Tryd.underlying30 0 (by kernel_rfl) (H.q 3 h3_41)) (Below.refl _ _) (Eng.off' hG rfl)
  ·refine Eng.guarded1 (j := 3) (d := 43) (b := q42) rfl rfl (by kernel_rfl) rfl (fun v w h => h) (fun hG w => Eng.off hG) fun hG a w' H => ?_
   exact Eng.val (w1 := w') (v := .int .i64 x.kind) (Eng.run_loadb rfl (Eng.on (H.d 4 44) hG) ((H.below.block _ lg3_1_42).trans kg3_1_42) rfl (by kernel_rfl)) (Below.refl _ _) (Eng.off' hG rfl)
  ·refine Eng.guarded1 (j := 3) (d := 43) (b := q42) rfl rfl (by kernel_rfl) rfl (fun v w h => h) (fun hG w => Eng.off hG) fun hG a w' H => ?_
   refine Eng.vr (v := .bool (x.kind == 4)) (Eng.off' hG (by rw [Bq46])) ?_
   have e0 : a.eval (.tmp 45) = .int .i64 x.kind := (Eng.on (H.d 5 45) hG)
   have e1 : a.eval (.const (.int .i64 4)) = .int .i64 4 := rfl
   simp only [execOp, resolve, e0, e1]
   go_simp
  exact Eng.pv fun a w' H => Eng.vr (v := .bool (q42 || q46)) (by show _ = Value.bool q47; rw [Bq47]) (Eng.run_or rfl rfl (G := true) (H.d 3 43) (fun hb => (Eng.on (H.d 6 46) (Eng.mk1 hb))))
 intro act43 w43 T
 have ⟨h0_43, h3_43, h5_43⟩ := T.r3 h0_41 h3_41 h5_41
 have kg_43 := T.x lg_42 kg_42
 have lg_43 := T.l lg_42
 have kg3_1_43 := T.x lg3_1_42 kg3_1_42
 have lg3_1_43 := T.l lg3_1_42
 have Oo_43 := T.g Oo_42
 have h47_43 : act43.eval (.tmp 47) = .bool q47 := T.done 7 47 rfl rfl
 have d43 := T.e d41
 have s43 := T.z s41
 have bl43 := T.b bl42
 clear T
 refine Eng.tail_nil ?_
 refine wp_cond_split h47_43 (fun hq => ?_) (fun hq => ?_)
 ·
  have c47 := Bq47.symm.trans hq
  clear hq
  have h24 : x.kind = 2 ∨ x.kind = 4 := by have h := c47; rw [Bq42, Bq46] at h; simpa using h
  refine (wpIn_wide (n := 1)).1 ?_
  refine EngI.regionS EngI.free_wide (Eng.still [fun u_ => u_ = .pointer (some ⟨g, 0, none⟩), fun u_ => u_ = .pointer (some ⟨g3_1, 0, none⟩), fun u_ => u_ = .int .i64 x.kind]) (fun _ => .plain) 3 1 53 s43 rfl (by kernel_rfl) (Eng.still_stable _) (Or.inr (Eng.still_any _)) (by kernel_rfl) ?_ ?_
  ·refine .c ?_ (.c ?_ (.c ?_ (.cons (fun h => absurd h (by decide)) (.nil))))
   ·exact Eng.pv fun a w' H => Eng.vr rfl (Eng.run_move rfl (H.q 0 h0_43))
   ·exact Eng.pv fun a w' H => Eng.vr rfl (Eng.run_fieldb rfl Tryd.underlying30 0 (by kernel_rfl) (H.q 3 h3_43))
   exact Eng.pv fun a w' H => Eng.vr rfl (Eng.run_loadb rfl (H.d 1 49) ((H.below.block _ lg3_1_43).trans kg3_1_43) rfl (by kernel_rfl))
  intro act45 w45 T
  have h5_45 := T.r1 h5_43
  have kg_45 := T.x lg_43 kg_43
  have Oo_45 := T.g Oo_43
  have h48_45 : act45.eval (.tmp 48) = .pointer (some ⟨g, 0, none⟩) := T.done 0 48 rfl rfl
  have h50_45 : act45.eval (.tmp 50) = .int .i64 x.kind := T.done 2 50 rfl rfl
  have d45 := T.e d43
  have s45 := T.z s43
  have bl45 := T.b bl43
  clear T
  refine EngI.tail_call EngI.free_wide Tryd.func67 (by kernel_rfl) (by kernel_rfl) rfl rfl rfl rfl #[.pointer (some ⟨g, 0, none⟩), .int .i64 x.kind] (by have e0 : act45.eval (.tmp 48) = .pointer (some ⟨g, 0, none⟩) := h48_45; have e1 : act45.eval (.tmp 50) = .int .i64 x.kind := h50_45; simp only [List.map_toArray, List.map_cons, List.map_nil, e0, e1]) s45 rfl (R := fun v w' => ∃ o', Evt.Is w.heap.size w45 g o ([] ++ [(x.kind, 0)]) w' o') ((Evt.push_calls g o [] x.kind w _ bl45 hlo kg_45 Oo_45 (by first | exact hst | (simp at hst ⊢; omega))).mono ?_) fun v_46 w46 act46 R d46 s46 hv hr => ?_
  ·rintro e w1 ⟨v1, o1, rfl, h1⟩; exact ⟨_, rfl, o1, h1⟩
  have h5_46 := Eng.k1 hr h5_45
  have d46 := d46.trans d45
  clear hv hr
  obtain ⟨o46, I46⟩ := R
  have bl46 := Eng.Aft.below I46.aft bl45 (Nat.le_refl _) (Evt.nst_lo hlo Oo_45)
  refine EngI.tail_nil ?_
  refine wp_seq ?_
  refine Eng.rS [.bool false, .bool false] (fun _ => .plain) 2 0 s46 ?_ ?_
  ·refine .c ?_ (.c ?_ (.nil))
   ·exact Eng.pv fun a w' H => Eng.vr rfl (Eng.run_move rfl (H.q 5 h5_46))
   exact Eng.pv fun a w' H => Eng.vr rfl (Eng.run_assign rfl (H.d 0 52))
  intro act47 w47 T
  have h4_47 : act47.eval (.tmp 4) = .bool false := T.done 1 4 rfl rfl
  have d47 := T.e d46
  have bl47 := T.b bl46
  clear T
  refine Eng.tail_nil ?_
  refine wp_ret ?_
  repeat (first | refine Eng.in_ret ?_ | refine Eng.then_ret ?_)
  have e_ : Evt.takeF [] x.kind = none := by rw [Evt.takeF_x _ _ hn0 hn1 hn3 hn5, if_pos (show ([] : List (Int × Int)).isEmpty = true from rfl)]
  exact Eng.ret1 rfl d47 h4_47 ⟨by rw [e_]; first | rfl | (rw [Bq19]; rfl), bl47, fun st' h => by rw [e_] at h; cases h⟩
 have c47 := Bq47.symm.trans hq
 clear hq
 have h24 : ¬ (x.kind = 2 ∨ x.kind = 4) := by have h := c47; rw [Bq42, Bq46] at h; simpa using h
 refine wp_skip ?_
 refine wp_seq ?_
 refine Eng.rS [.bool false, .bool false] (fun _ => .plain) 2 0 s43 ?_ ?_
 ·refine .c ?_ (.c ?_ (.nil))
  ·exact Eng.pv fun a w' H => Eng.vr rfl (Eng.run_move rfl (H.q 5 h5_43))
  exact Eng.pv fun a w' H => Eng.vr rfl (Eng.run_assign rfl (H.d 0 52))
 intro act49 w49 T
 have h4_49 : act49.eval (.tmp 4) = .bool false := T.done 1 4 rfl rfl
 have d49 := T.e d43
 have bl49 := T.b bl43
 clear T
 refine Eng.tail_nil ?_
 refine wp_ret ?_
 repeat (first | refine Eng.in_ret ?_ | refine Eng.then_ret ?_)
 have e_ : Evt.takeF [] x.kind = none := by rw [Evt.takeF_x _ _ hn0 hn1 hn3 hn5, if_pos (show ([] : List (Int × Int)).isEmpty = true from rfl)]
 exact Eng.ret1 rfl d49 h4_49 ⟨by rw [e_]; first | rfl | (rw [Bq19]; rfl), bl49, fun st' h => by rw [e_] at h; cases h⟩
set_option maxHeartbeats 4000000 in
set_option maxRecDepth 100000 in
theorem Evt.take_top (g : Nat) (o : Value) (x : Evt.Ev) (pre : List (Int × Int)) (t : Int × Int) (w W0 : World) (hB : Below w.heap.size w W0) (hlo : w.heap.size ≤ g) (hk : W0.heap[g]? = some (.cells #[o] 77 (0, 0))) (hO : W0.ownsRow w.heap.size 93 2 o (pre ++ [t]).length (Evt.opens (pre ++ [t]))) (hst : (pre ++ [t]).length ≤ 100000) (ht : 0 ≤ t.1) : Calls Tryd.prog 36 #[.pointer (some ⟨g, 0, none⟩), .agg #[.int .i64 x.kind, .string x.anchor, .string x.tag, .string x.text, .bool x.plain]] W0 fun e w' => e = .returned (.bool (Evt.takeF (pre ++ [t]) x.kind).isSome) ∧ Below w.heap.size w w' ∧ ∀ st', Evt.takeF (pre ++ [t]) x.kind = some st' → ∃ o', Evt.Is w.heap.size W0 g o st' w' o' := by
 refine Eng.enter Tryd.func36 rfl fun act0 d0 s0 v0 => ?_
 have s0 : act0.tmps.size = 53 := s0
 have h0_0 : act0.eval (.tmp 0) = .pointer (some ⟨g, 0, none⟩) := v0 0 (by simp)
 have h1_0 : act0.eval (.tmp 1) = .agg #[.int .i64 x.kind, .string x.anchor, .string x.tag, .string x.text, .bool x.plain] := v0 1 (by simp)
 clear v0
 refine wp_seq ?_
 refine Eng.regionS (Eng.still [fun u_ => True, fun u_ => u_ = .bool false]) (fun i => ([.alloc 30 #[.int .i64 x.kind, .string x.anchor, .string x.tag, .string x.text, .bool x.plain], .plain] : List Eng.Kind).getD i .plain) 2 0 53 s0 rfl (by kernel_rfl) (Eng.still_stable _) (Or.inr (Eng.still_any _)) ?_ ?_
 ·refine .c ?_ (.c ?_ (.nil))
  ·refine Eng.made rfl (by simp) rfl (fun a w' hd ho => ?_) (fun _ _ => trivial)
   exact Eng.run_box rfl ((ho 1 (by kernel_rfl)).trans h1_0)
  exact Eng.pv fun a w' H => Eng.vr rfl (Eng.run_assign rfl (rfl : a.eval (.const (.bool false)) = .bool false))
 intro act1 w1 T
 have h0_1 := T.r1 h0_0
 have kg_1 := (T.below.block _ (Array.getElem?_eq_some_iff.1 hk).1).trans hk
 have lg_1 := Nat.lt_of_lt_of_le (Array.getElem?_eq_some_iff.1 hk).1 T.below.size
 have Fo_1 := Eng.Reads.below (Eng.Reads.of_own hO) T.below
 have Oo_1 := T.g hO
 obtain ⟨g3_1, h3_1, rg3_1, lg3_1_1, kg3_1_1⟩ := T.al 0 3 _ _ rfl rfl rfl (by kernel_rfl)
 have d1 := T.e d0
 have s1 := T.z s0
 have bl1 := hB.trans (T.below.mono hB.size)
 have XA_1 := Eng.Aft.step (Eng.Aft.refl (Eng.Nst g o) W0) T.below
 clear T
 refine Eng.tail_nil ?_
 refine wp_seq ?_
 refine (wpIn_wide (n := 1)).1 ?_
 refine EngI.regionS EngI.free_wide (Eng.still [fun u_ => u_ = .pointer (some ⟨g, 0, none⟩)]) (fun _ => .plain) 1 6 53 s1 rfl (by kernel_rfl) (Eng.still_stable _) (Or.inr (Eng.still_any _)) (by kernel_rfl) ?_ ?_
 ·refine .c ?_ (.cons (fun h => absurd h (by decide)) (.cons (fun h => absurd h (by decide)) (.cons (fun h => absurd h (by decide)) (.cons (fun h => absurd h (by decide)) (.cons (fun h => absurd h (by decide)) (.cons (fun h => absurd h (by decide)) (.nil)))))))
  ·exact Eng.pv fun a w' H => Eng.vr rfl (Eng.run_move rfl (H.q 0 h0_1))
 intro act2 w2 T
 have ⟨h0_2, h3_2⟩ := T.r2 h0_1 h3_1
 have kg_2 := T.x lg_1 kg_1
 have lg_2 := T.l lg_1
 have kg3_1_2 := T.x lg3_1_1 kg3_1_1
 have lg3_1_2 := T.l lg3_1_1
 have Fo_2 := T.f Fo_1
 have Oo_2 := T.g Oo_1
 have h6_2 : act2.eval (.tmp 6) = .pointer (some ⟨g, 0, none⟩) := T.done 0 6 rfl rfl
 have d2 := T.e d1
 have s2 := T.z s1
 have bl2 := T.b bl1
 have XA_2 := Eng.Aft.step XA_1 T.below
 clear T
 refine EngI.tail_call EngI.free_wide Tryd.func66 (by kernel_rfl) (by kernel_rfl) rfl rfl rfl rfl #[.pointer (some ⟨g, 0, none⟩)] (by have e0 : act2.eval (.tmp 6) = .pointer (some ⟨g, 0, none⟩) := h6_2; simp only [List.map_toArray, List.map_cons, List.map_nil, e0]) s2 rfl (R := fun v w' => v = Eng.elemPtr o (pre.length * 2) ∧ Below w2.heap.size w2 w') ((Evt.last_top g o w.heap.size pre t _ kg_2 Oo_2).mono ?_) fun v_3 w3 act3 R d3 s3 h7_3 hr => ?_
 ·rintro e w1 ⟨rfl, h1⟩; exact ⟨_, rfl, rfl, h1⟩
 have ⟨h0_3, h3_3⟩ := Eng.k2 hr h0_2 h3_2
 have d3 := d3.trans d2
 clear hr
 obtain ⟨ev_3, b_3⟩ := R
 have kg_3 := (b_3.block _ lg_2).trans kg_2
 have lg_3 := Nat.lt_of_lt_of_le lg_2 b_3.size
 have kg3_1_3 := (b_3.block _ lg3_1_2).trans kg3_1_2
 have lg3_1_3 := Nat.lt_of_lt_of_le lg3_1_2 b_3.size
 have Fo_3 := Eng.Reads.below Fo_2 b_3
 have Oo_3 := Eng.own_below Oo_2 b_3
 have XA_3 := Eng.Aft.step XA_2 b_3
 have bl3 := bl2.trans (b_3.mono bl2.size)
 rw [ev_3] at h7_3
 refine EngI.tv (w1 := w3) (v := Eng.elemPtr o (pre.length * 2)) rfl ?_ s3 ?_
 ·exact Eng.run_nil_el rfl (show act3.eval (.tmp 7) = Eng.elemPtr o (pre.length * 2) from h7_3) Fo_3 (by have h_ : pre.length < (pre ++ [t]).length := (by simp); omega)
 intro act4 d4 s4 h8_4 hr
 have ⟨h0_4, h3_4⟩ := Eng.k2 hr h0_3 h3_3
 have d4 := d4.trans d3
 clear hr
 refine EngI.tv (w1 := w3) (v := Eng.elemPtr o (pre.length * 2 + 0)) rfl ?_ s4 ?_
 ·exact Eng.run_field_el rfl Tryd.underlying93 0 (by kernel_rfl) (show act4.eval (.tmp 8) = Eng.elemPtr o (pre.length * 2) from h8_4) Fo_3 (by have h_ : pre.length < (pre ++ [t]).length := (by simp); omega)
 intro act5 d5 s5 h9_5 hr
 have ⟨h0_5, h3_5⟩ := Eng.k2 hr h0_4 h3_4
 have d5 := d5.trans d4
 clear hr
 refine EngI.tv (w1 := w3) (v := .int .i64 t.1) rfl ?_ s5 ?_
 ·exact Eng.run_load_el (.int .i64 t.1) rfl (show act5.eval (.tmp 9) = Eng.elemPtr o (pre.length * 2 + 0) from h9_5) Fo_3 (Evt.top_0 pre t) (by kernel_rfl)
 intro act6 d6 s6 h10_6 hr
 have ⟨h0_6, h3_6⟩ := Eng.k2 hr h0_5 h3_5
 have d6 := d6.trans d5
 clear hr
 refine EngI.tv (w1 := w3) (v := .bool (decide (t.1 ≥ 0))) rfl ?_ s6 ?_
 ·have e0 : act6.eval (.tmp 10) = .int .i64 t.1 := h10_6
  have e1 : act6.eval (.const (.int .i64 0)) = .int .i64 0 := rfl
  simp only [execOp, resolve, e0, e1]
  go_simp
 intro act7 d7 s7 hv hr
 have ⟨h0_7, h3_7⟩ := Eng.k2 hr h0_6 h3_6
 have h11_7 : act7.eval (.tmp 11) = .bool true := hv.trans (congrArg Value.bool (decide_eq_true ht : _ = true))
 have d7 := d7.trans d6
 clear hv hr
 refine EngI.tv rfl (Eng.run_assign rfl h11_7) s7 fun act8 d8 s8 h5_8 hr => ?_
 have ⟨h0_8, h3_8⟩ := Eng.k2 hr h0_7 h3_7
 have d8 := d8.trans d7
 clear hr
 refine EngI.tail_nil ?_
 refine wp_seq ?_
 refine wp_seq ?_
 refine Eng.rS [.pointer (some ⟨g3_1, 0, none⟩), .int .i64 x.kind] (fun _ => .plain) 2 0 s8 ?_ ?_
 ·refine .c ?_ (.c ?_ (.nil))
  ·exact Eng.pv fun a w' H => Eng.vr rfl (Eng.run_fieldb rfl Tryd.underlying30 0 (by kernel_rfl) (H.q 3 h3_8))
  exact Eng.pv fun a w' H => Eng.vr rfl (Eng.run_loadb rfl (H.d 0 12) ((H.below.block _ lg3_1_3).trans kg3_1_3) rfl (by kernel_rfl))
 intro act9 w9 T
 have ⟨h0_9, h3_9, h5_9⟩ := T.r3 h0_8 h3_8 h5_8
 have kg_9 := T.x lg_3 kg_3
 have lg_9 := T.l lg_3
 have kg3_1_9 := T.x lg3_1_3 kg3_1_3
 have lg3_1_9 := T.l lg3_1_3
 have Fo_9 := T.f Fo_3
 have Oo_9 := T.g Oo_3
 have h13_9 : act9.eval (.tmp 13) = .int .i64 x.kind := T.done 1 13 rfl rfl
 have d9 := T.e d8
 have s9 := T.z s8
 have bl9 := T.b bl3
 have XA_9 := Eng.Aft.step XA_3 T.below
 clear T
 refine Eng.tail_nil ?_
 refine wp_block ?_
 refine wp_seq ?_
 obtain ⟨q15, Bq15⟩ : ∃ b : Bool, b = (x.kind == 0) := ⟨_, rfl⟩
 refine Eng.rS [.bool q15, .bool q15] (fun _ => .plain) 2 0 s9 ?_ ?_
 ·refine .c ?_ (.c ?_ (.nil))
  ·refine Eng.pv fun a w' H => ?_
   refine Eng.vr (v := .bool (x.kind == 0)) (by show _ = Value.bool q15; rw [Bq15]) ?_
   have e0 := (H.q 13 h13_9)
   have e1 : a.eval (.const (.int .i64 0)) = .int .i64 0 := rfl
   simp only [execOp, resolve, e0, e1]
   go_simp
  exact Eng.pv fun a w' H => Eng.vr rfl (Eng.run_assign rfl (H.d 0 15))
 intro act10 w10 T
 have ⟨h0_10, h3_10, h5_10, h13_10⟩ := T.r4 h0_9 h3_9 h5_9 h13_9
 have kg_10 := T.x lg_9 kg_9
 have lg_10 := T.l lg_9
 have kg3_1_10 := T.x lg3_1_9 kg3_1_9
 have lg3_1_10 := T.l lg3_1_9
 have Fo_10 := T.f Fo_9
 have Oo_10 := T.g Oo_9
 have h14_10 : act10.eval (.tmp 14) = .bool q15 := T.done 1 14 rfl rfl
 have d10 := T.e d9
 have s10 := T.z s9
 have bl10 := T.b bl9
 have XA_10 := Eng.Aft.step XA_9 T.below
 clear T
 refine Eng.tail_nil ?_
 refine wp_cond_split h14_10 (fun hq => ?_) (fun hq => ?_)
 ·
  have c14 := Bq15.symm.trans hq
  clear hq
  have hk_ : x.kind = 0 := by simpa using c14
  refine wp_seq ?_
  refine (wpIn_wide (n := 1)).1 ?_
  refine EngI.regionS EngI.free_wide (Eng.still [fun u_ => u_ = .pointer (some ⟨g, 0, none⟩)]) (fun _ => .plain) 1 1 53 s10 rfl (by kernel_rfl) (Eng.still_stable _) (Or.inr (Eng.still_any _)) (by kernel_rfl) ?_ ?_
  ·refine .c ?_ (.cons (fun h => absurd h (by decide)) (.nil))
   ·exact Eng.pv fun a w' H => Eng.vr rfl (Eng.run_move rfl (H.q 0 h0_10))
  intro act12 w12 T
  have h5_12 := T.r1 h5_10
  have kg_12 := T.x lg_10 kg_10
  have Oo_12 := T.g Oo_10
  have h16_12 : act12.eval (.tmp 16) = .pointer (some ⟨g, 0, none⟩) := T.done 0 16 rfl rfl
  have d12 := T.e d10
  have s12 := T.z s10
  have bl12 := T.b bl10
  clear T
  refine EngI.tail_call EngI.free_wide Tryd.func67 (by kernel_rfl) (by kernel_rfl) rfl rfl rfl rfl #[.pointer (some ⟨g, 0, none⟩), .int .i64 0] (by have e0 : act12.eval (.tmp 16) = .pointer (some ⟨g, 0, none⟩) := h16_12; have e1 : act12.eval (.const (.int .i64 0)) = .int .i64 0 := (rfl : act12.eval (.const (.int .i64 0)) = .int .i64 0); simp only [List.map_toArray, List.map_cons, List.map_nil, e0, e1]) s12 rfl (R := fun v w' => ∃ o', Evt.Is w.heap.size w12 g o ((pre ++ [t]) ++ [(0, 0)]) w' o') ((Evt.push_calls g o (pre ++ [t]) 0 w _ bl12 hlo kg_12 Oo_12 (by first | exact hst | (simp at hst ⊢; omega))).mono ?_) fun v_13 w13 act13 R d13 s13 hv hr => ?_
  ·rintro e w1 ⟨v1, o1, rfl, h1⟩; exact ⟨_, rfl, o1, h1⟩
  have h5_13 := Eng.k1 hr h5_12
  have d13 := d13.trans d12
  clear hv hr
  obtain ⟨o13, I13⟩ := R
  have bl13 := Eng.Aft.below I13.aft bl12 (Nat.le_refl _) (Evt.nst_lo hlo Oo_12)
  refine EngI.tail_nil ?_
  refine wp_seq ?_
  obtain ⟨q19, Bq19⟩ : ∃ b : Bool, b = (!true) := ⟨_, rfl⟩
  refine Eng.rS [.bool true, .bool q19, .bool q19] (fun _ => .plain) 3 0 s13 ?_ ?_
  ·refine .c ?_ (.c ?_ (.c ?_ (.nil)))
   ·exact Eng.pv fun a w' H => Eng.vr rfl (Eng.run_move rfl (H.q 5 h5_13))
   ·exact Eng.pv fun a w' H => Eng.vr (v := .bool (!true)) (by show _ = Value.bool q19; rw [Bq19]) (Eng.run_not rfl (H.d 0 18))
   exact Eng.pv fun a w' H => Eng.vr rfl (Eng.run_assign rfl (H.d 1 19))
  intro act14 w14 T
  have h4_14 : act14.eval (.tmp 4) = .bool q19 := T.done 2 4 rfl rfl
  have d14 := T.e d13
  have bl14 := T.b bl13
  clear T
  refine Eng.tail_nil ?_
  refine wp_ret ?_
  repeat (first | refine Eng.in_ret ?_ | refine Eng.then_ret ?_)
  have e_ : Evt.takeF (pre ++ [t]) x.kind = none := by rw [hk_, Evt.takeF_0, if_neg (by simp)]
  exact Eng.ret1 rfl d14 h4_14 ⟨by rw [e_]; first | rfl | (rw [Bq19]; rfl), bl14, fun st' h => by rw [e_] at h; cases h⟩
 have c14 := Bq15.symm.trans hq
 clear hq
 have hn0 : x.kind ≠ 0 := by simpa using c14
 refine wp_seq ?_
 obtain ⟨q21, Bq21⟩ : ∃ b : Bool, b = (x.kind == 1) := ⟨_, rfl⟩
 refine Eng.rS [.bool q21, .bool q21] (fun _ => .plain) 2 0 s10 ?_ ?_
 ·refine .c ?_ (.c ?_ (.nil))
  ·refine Eng.pv fun a w' H => ?_
   refine Eng.vr (v := .bool (x.kind == 1)) (by show _ = Value.bool q21; rw [Bq21]) ?_
   have e0 := (H.q 13 h13_10)
   have e1 : a.eval (.const (.int .i64 1)) = .int .i64 1 := rfl
   simp only [execOp, resolve, e0, e1]
   go_simp
  exact Eng.pv fun a w' H => Eng.vr rfl (Eng.run_assign rfl (H.d 0 21))
 intro act16 w16 T
 have ⟨h0_16, h3_16, h5_16, h13_16⟩ := T.r4 h0_10 h3_10 h5_10 h13_10
 have kg_16 := T.x lg_10 kg_10
 have lg_16 := T.l lg_10
 have kg3_1_16 := T.x lg3_1_10 kg3_1_10
 have lg3_1_16 := T.l lg3_1_10
 have Fo_16 := T.f Fo_10
 have Oo_16 := T.g Oo_10
 have h20_16 : act16.eval (.tmp 20) = .bool q21 := T.done 1 20 rfl rfl
 have d16 := T.e d10
 have s16 := T.z s10
 have bl16 := T.b bl10
 have XA_16 := Eng.Aft.step XA_10 T.below
 clear T
 refine Eng.tail_nil ?_
 refine wp_cond_split h20_16 (fun hq => ?_) (fun hq => ?_)
 ·
  have c20 := Bq21.symm.trans hq
  clear hq
  have hk_ : x.kind = 1 := by simpa using c20
  refine wp_seq ?_
  refine (wpIn_wide (n := 1)).1 ?_
  refine EngI.regionS EngI.free_wide (Eng.still [fun u_ => u_ = .pointer (some ⟨g, 0, none⟩)]) (fun _ => .plain) 1 2 53 s16 rfl (by kernel_rfl) (Eng.still_stable _) (Or.inr (Eng.still_any _)) (by kernel_rfl) ?_ ?_
  ·refine .c ?_ (.cons (fun h => absurd h (by decide)) (.cons (fun h => absurd h (by decide)) (.nil)))
   ·exact Eng.pv fun a w' H => Eng.vr rfl (Eng.run_move rfl (H.q 0 h0_16))
  intro act18 w18 T
  have kg_18 := T.x lg_16 kg_16
  have Oo_18 := T.g Oo_16
  have h22_18 : act18.eval (.tmp 22) = .pointer (some ⟨g, 0, none⟩) := T.done 0 22 rfl rfl
  have d18 := T.e d16
  have s18 := T.z s16
  have bl18 := T.b bl16
  have XA_18 := Eng.Aft.step XA_16 T.below
  clear T
  refine EngI.tail_call EngI.free_wide Tryd.func68 (by kernel_rfl) (by kernel_rfl) rfl rfl rfl rfl #[.pointer (some ⟨g, 0, none⟩), .int .i64 0, .func (.func 69) #[] #[]] (by have e0 : act18.eval (.tmp 22) = .pointer (some ⟨g, 0, none⟩) := h22_18; have e1 : act18.eval (.const (.int .i64 0)) = .int .i64 0 := (rfl : act18.eval (.const (.int .i64 0)) = .int .i64 0); have e2 : act18.eval (.func 69) = .func (.func 69) #[] #[] := (rfl : act18.eval (.func 69) = .func (.func 69) #[] #[]); simp only [List.map_toArray, List.map_cons, List.map_nil, e0, e1, e2]) s18 rfl (R := fun v w' => v = .bool (Evt.pop (pre ++ [t]) 0 (fun m => m == 1)).isSome ∧ Below w.heap.size w w' ∧ ∀ st', Evt.pop (pre ++ [t]) 0 (fun m => m == 1) = some st' → ∃ o', Evt.Is w.heap.size w18 g o st' w' o') ((Evt.pop69_top g o 0 pre t w _ bl18 hlo kg_18 Oo_18).mono ?_) fun v_19 w19 act19 R d19 s19 h23_19 hr => ?_
  ·rintro e w1 ⟨rfl, h1, h2⟩; exact ⟨_, rfl, rfl, h1, h2⟩
  have d19 := d19.trans d18
  clear hr
  obtain ⟨ev_19, bl19, hP0_19⟩ := R
  have hP19 : ∀ st', Evt.pop (pre ++ [t]) 0 (fun m => m == 1) = some st' → ∃ o', Evt.Is w.heap.size W0 g o st' w19 o' := fun st' h => (hP0_19 st' h).imp fun _ i => i.from XA_18
  rw [ev_19] at h23_19
  refine EngI.tv rfl (Eng.run_assign rfl h23_19) s19 fun act20 d20 s20 h4_20 hr => ?_
  have d20 := d20.trans d19
  clear hr
  refine EngI.tail_nil ?_
  refine wp_ret ?_
  repeat (first | refine Eng.in_ret ?_ | refine Eng.then_ret ?_)
  have e_ : Evt.takeF (pre ++ [t]) x.kind = Evt.pop (pre ++ [t]) 0 (fun m => m == 1) := by rw [hk_]; exact Evt.takeF_1 _
  exact Eng.ret1 rfl d20 h4_20 ⟨by rw [e_], bl19, by rw [e_]; exact hP19⟩
 have c20 := Bq21.symm.trans hq
 clear hq
 have hn1 : x.kind ≠ 1 := by simpa using c20
 refine wp_seq ?_
 obtain ⟨q25, Bq25⟩ : ∃ b : Bool, b = (x.kind == 3) := ⟨_, rfl⟩
 refine Eng.rS [.bool q25, .bool q25] (fun _ => .plain) 2 0 s16 ?_ ?_
 ·refine .c ?_ (.c ?_ (.nil))
  ·refine Eng.pv fun a w' H => ?_
   refine Eng.vr (v := .bool (x.kind == 3)) (by show _ = Value.bool q25; rw [Bq25]) ?_
   have e0 := (H.q 13 h13_16)
   have e1 : a.eval (.const (.int .i64 3)) = .int .i64 3 := rfl
   simp only [execOp, resolve, e0, e1]
   go_simp
  exact Eng.pv fun a w' H => Eng.vr rfl (Eng.run_assign rfl (H.d 0 25))
 intro act22 w22 T
 have ⟨h0_22, h3_22, h5_22, h13_22⟩ := T.r4 h0_16 h3_16 h5_16 h13_16
 have kg_22 := T.x lg_16 kg_16
 have lg_22 := T.l lg_16
 have kg3_1_22 := T.x lg3_1_16 kg3_1_16
 have lg3_1_22 := T.l lg3_1_16
 have Fo_22 := T.f Fo_16
 have Oo_22 := T.g Oo_16
 have h24_22 : act22.eval (.tmp 24) = .bool q25 := T.done 1 24 rfl rfl
 have d22 := T.e d16
 have s22 := T.z s16
 have bl22 := T.b bl16
 have XA_22 := Eng.Aft.step XA_16 T.below
 clear T
 refine Eng.tail_nil ?_
 refine wp_cond_split h24_22 (fun hq => ?_) (fun hq => ?_)
 ·
  have c24 := Bq25.symm.trans hq
  clear hq
  have hk_ : x.kind = 3 := by simpa using c24
  refine wp_seq ?_
  refine (wpIn_wide (n := 1)).1 ?_
  refine EngI.regionS EngI.free_wide (Eng.still [fun u_ => u_ = .pointer (some ⟨g, 0, none⟩)]) (fun _ => .plain) 1 2 53 s22 rfl (by kernel_rfl) (Eng.still_stable _) (Or.inr (Eng.still_any _)) (by kernel_rfl) ?_ ?_
  ·refine .c ?_ (.cons (fun h => absurd h (by decide)) (.cons (fun h => absurd h (by decide)) (.nil)))
   ·exact Eng.pv fun a w' H => Eng.vr rfl (Eng.run_move rfl (H.q 0 h0_22))
  intro act24 w24 T
  have kg_24 := T.x lg_22 kg_22
  have Oo_24 := T.g Oo_22
  have h26_24 : act24.eval (.tmp 26) = .pointer (some ⟨g, 0, none⟩) := T.done 0 26 rfl rfl
  have d24 := T.e d22
  have s24 := T.z s22
  have bl24 := T.b bl22
  have XA_24 := Eng.Aft.step XA_22 T.below
  clear T
  refine EngI.tail_call EngI.free_wide Tryd.func68 (by kernel_rfl) (by kernel_rfl) rfl rfl rfl rfl #[.pointer (some ⟨g, 0, none⟩), .int .i64 2, .func (.func 70) #[] #[]] (by have e0 : act24.eval (.tmp 26) = .pointer (some ⟨g, 0, none⟩) := h26_24; have e1 : act24.eval (.const (.int .i64 2)) = .int .i64 2 := (rfl : act24.eval (.const (.int .i64 2)) = .int .i64 2); have e2 : act24.eval (.func 70) = .func (.func 70) #[] #[] := (rfl : act24.eval (.func 70) = .func (.func 70) #[] #[]); simp only [List.map_toArray, List.map_cons, List.map_nil, e0, e1, e2]) s24 rfl (R := fun v w' => v = .bool (Evt.pop (pre ++ [t]) 2 (fun _ => true)).isSome ∧ Below w.heap.size w w' ∧ ∀ st', Evt.pop (pre ++ [t]) 2 (fun _ => true) = some st' → ∃ o', Evt.Is w.heap.size w24 g o st' w' o') ((Evt.pop70_top g o 2 pre t w _ bl24 hlo kg_24 Oo_24).mono ?_) fun v_25 w25 act25 R d25 s25 h27_25 hr => ?_
  ·rintro e w1 ⟨rfl, h1, h2⟩; exact ⟨_, rfl, rfl, h1, h2⟩
  have d25 := d25.trans d24
  clear hr
  obtain ⟨ev_25, bl25, hP0_25⟩ := R
  have hP25 : ∀ st', Evt.pop (pre ++ [t]) 2 (fun _ => true) = some st' → ∃ o', Evt.Is w.heap.size W0 g o st' w25 o' := fun st' h => (hP0_25 st' h).imp fun _ i => i.from XA_24
  rw [ev_25] at h27_25
  refine EngI.tv rfl (Eng.run_assign rfl h27_25) s25 fun act26 d26 s26 h4_26 hr => ?_
  have d26 := d26.trans d25
  clear hr
  refine EngI.tail_nil ?_
  refine wp_ret ?_
  repeat (first | refine Eng.in_ret ?_ | refine Eng.then_ret ?_)
  have e_ : Evt.takeF (pre ++ [t]) x.kind = Evt.pop (pre ++ [t]) 2 (fun _ => true) := by rw [hk_]; exact Evt.takeF_3 _
  exact Eng.ret1 rfl d26 h4_26 ⟨by rw [e_], bl25, by rw [e_]; exact hP25⟩
 have c24 := Bq25.symm.trans hq
 clear hq
 have hn3 : x.kind ≠ 3 := by simpa using c24
 refine wp_seq ?_
 obtain ⟨q29, Bq29⟩ : ∃ b : Bool, b = (x.kind == 5) := ⟨_, rfl⟩
 refine Eng.rS [.bool q29, .bool q29] (fun _ => .plain) 2 0 s22 ?_ ?_
 ·refine .c ?_ (.c ?_ (.nil))
  ·refine Eng.pv fun a w' H => ?_
   refine Eng.vr (v := .bool (x.kind == 5)) (by show _ = Value.bool q29; rw [Bq29]) ?_
   have e0 := (H.q 13 h13_22)
   have e1 : a.eval (.const (.int .i64 5)) = .int .i64 5 := rfl
   simp only [execOp, resolve, e0, e1]
   go_simp
  exact Eng.pv fun a w' H => Eng.vr rfl (Eng.run_assign rfl (H.d 0 29))
 intro act28 w28 T
 have ⟨h0_28, h3_28, h5_28⟩ := T.r3 h0_22 h3_22 h5_22
 have kg_28 := T.x lg_22 kg_22
 have lg_28 := T.l lg_22
 have kg3_1_28 := T.x lg3_1_22 kg3_1_22
 have lg3_1_28 := T.l lg3_1_22
 have Fo_28 := T.f Fo_22
 have Oo_28 := T.g Oo_22
 have h28_28 : act28.eval (.tmp 28) = .bool q29 := T.done 1 28 rfl rfl
 have d28 := T.e d22
 have s28 := T.z s22
 have bl28 := T.b bl22
 have XA_28 := Eng.Aft.step XA_22 T.below
 clear T
 refine Eng.tail_nil ?_
 refine wp_cond_split h28_28 (fun hq => ?_) (fun hq => ?_)
 ·
  have c28 := Bq29.symm.trans hq
  clear hq
  have hk_ : x.kind = 5 := by simpa using c28
  refine wp_seq ?_
  refine (wpIn_wide (n := 1)).1 ?_
  refine EngI.regionS EngI.free_wide (Eng.still [fun u_ => u_ = .pointer (some ⟨g, 0, none⟩)]) (fun _ => .plain) 1 2 53 s28 rfl (by kernel_rfl) (Eng.still_stable _) (Or.inr (Eng.still_any _)) (by kernel_rfl) ?_ ?_
  ·refine .c ?_ (.cons (fun h => absurd h (by decide)) (.cons (fun h => absurd h (by decide)) (.nil)))
   ·exact Eng.pv fun a w' H => Eng.vr rfl (Eng.run_move rfl (H.q 0 h0_28))
  intro act30 w30 T
  have kg_30 := T.x lg_28 kg_28
  have Oo_30 := T.g Oo_28
  have h30_30 : act30.eval (.tmp 30) = .pointer (some ⟨g, 0, none⟩) := T.done 0 30 rfl rfl
  have d30 := T.e d28
  have s30 := T.z s28
  have bl30 := T.b bl28
  have XA_30 := Eng.Aft.step XA_28 T.below
  clear T
  refine EngI.tail_call EngI.free_wide Tryd.func68 (by kernel_rfl) (by kernel_rfl) rfl rfl rfl rfl #[.pointer (some ⟨g, 0, none⟩), .int .i64 4, .func (.func 71) #[] #[]] (by have e0 : act30.eval (.tmp 30) = .pointer (some ⟨g, 0, none⟩) := h30_30; have e1 : act30.eval (.const (.int .i64 4)) = .int .i64 4 := (rfl : act30.eval (.const (.int .i64 4)) = .int .i64 4); have e2 : act30.eval (.func 71) = .func (.func 71) #[] #[] := (rfl : act30.eval (.func 71) = .func (.func 71) #[] #[]); simp only [List.map_toArray, List.map_cons, List.map_nil, e0, e1, e2]) s30 rfl (R := fun v w' => v = .bool (Evt.pop (pre ++ [t]) 4 Evt.even).isSome ∧ Below w.heap.size w w' ∧ ∀ st', Evt.pop (pre ++ [t]) 4 Evt.even = some st' → ∃ o', Evt.Is w.heap.size w30 g o st' w' o') ((Evt.pop71_top g o 4 pre t w _ bl30 hlo kg_30 Oo_30).mono ?_) fun v_31 w31 act31 R d31 s31 h31_31 hr => ?_
  ·rintro e w1 ⟨rfl, h1, h2⟩; exact ⟨_, rfl, rfl, h1, h2⟩
  have d31 := d31.trans d30
  clear hr
  obtain ⟨ev_31, bl31, hP0_31⟩ := R
  have hP31 : ∀ st', Evt.pop (pre ++ [t]) 4 Evt.even = some st' → ∃ o', Evt.Is w.heap.size W0 g o st' w31 o' := fun st' h => (hP0_31 st' h).imp fun _ i => i.from XA_30
  rw [ev_31] at h31_31
  refine EngI.tv rfl (Eng.run_assign rfl h31_31) s31 fun act32 d32 s32 h4_32 hr => ?_
  have d32 := d32.trans d31
  clear hr
  refine EngI.tail_nil ?_
  refine wp_ret ?_
  repeat (first | refine Eng.in_ret ?_ | refine Eng.then_ret ?_)
  have e_ : Evt.takeF (pre ++ [t]) x.kind = Evt.pop (pre ++ [t]) 4 Evt.even := by rw [hk_]; exact Evt.takeF_5 _
  exact Eng.ret1 rfl d32 h4_32 ⟨by rw [e_], bl31, by rw [e_]; exact hP31⟩
 have c28 := Bq29.symm.trans hq
 clear hq
 have hn5 : x.kind ≠ 5 := by simpa using c28
 refine wp_skip ?_
 refine wp_seq ?_
 refine (wpIn_wide (n := 1)).1 ?_
 refine EngI.regionS EngI.free_wide (Eng.still [fun u_ => u_ = .pointer (some ⟨g, 0, none⟩)]) (fun _ => .plain) 1 8 53 s28 rfl (by kernel_rfl) (Eng.still_stable _) (Or.inr (Eng.still_any _)) (by kernel_rfl) ?_ ?_
 ·refine .c ?_ (.cons (fun h => absurd h (by decide)) (.cons (fun h => absurd h (by decide)) (.cons (fun h => absurd h (by decide)) (.cons (fun h => absurd h (by decide)) (.cons (fun h => absurd h (by decide)) (.cons (fun h => absurd h (by decide)) (.cons (fun h => absurd h (by decide)) (.cons (fun h => absurd h (by decide)) (.nil)))))))))
  ·exact Eng.pv fun a w' H => Eng.vr rfl (Eng.run_move rfl (H.q 0 h0_28))
 intro act34 w34 T
 have ⟨h0_34, h3_34, h5_34⟩ := T.r3 h0_28 h3_28 h5_28
 have kg_34 := T.x lg_28 kg_28
 have lg_34 := T.l lg_28
 have kg3_1_34 := T.x lg3_1_28 kg3_1_28
 have lg3_1_34 := T.l lg3_1_28
 have Fo_34 := T.f Fo_28
 have Oo_34 := T.g Oo_28
 have h32_34 : act34.eval (.tmp 32) = .pointer (some ⟨g, 0, none⟩) := T.done 0 32 rfl rfl
 have d34 := T.e d28
 have s34 := T.z s28
 have bl34 := T.b bl28
 have XA_34 := Eng.Aft.step XA_28 T.below
 clear T
 refine EngI.tail_call EngI.free_wide Tryd.func66 (by kernel_rfl) (by kernel_rfl) rfl rfl rfl rfl #[.pointer (some ⟨g, 0, none⟩)] (by have e0 : act34.eval (.tmp 32) = .pointer (some ⟨g, 0, none⟩) := h32_34; simp only [List.map_toArray, List.map_cons, List.map_nil, e0]) s34 rfl (R := fun v w' => v = Eng.elemPtr o (pre.length * 2) ∧ Below w34.heap.size w34 w') ((Evt.last_top g o w.heap.size pre t _ kg_34 Oo_34).mono ?_) fun v_35 w35 act35 R d35 s35 h33_35 hr => ?_
 ·rintro e w1 ⟨rfl, h1⟩; exact ⟨_, rfl, rfl, h1⟩
 have ⟨h0_35, h3_35, h5_35⟩ := Eng.k3 hr h0_34 h3_34 h5_34
 have d35 := d35.trans d34
 clear hr
 obtain ⟨ev_35, b_35⟩ := R
 have kg_35 := (b_35.block _ lg_34).trans kg_34
 have lg_35 := Nat.lt_of_lt_of_le lg_34 b_35.size
 have kg3_1_35 := (b_35.block _ lg3_1_34).trans kg3_1_34
 have lg3_1_35 := Nat.lt_of_lt_of_le lg3_1_34 b_35.size
 have Fo_35 := Eng.Reads.below Fo_34 b_35
 have Oo_35 := Eng.own_below Oo_34 b_35
 have XA_35 := Eng.Aft.step XA_34 b_35
 have bl35 := bl34.trans (b_35.mono bl34.size)
 rw [ev_35] at h33_35
 refine EngI.tv (w1 := w35) (v := Eng.elemPtr o (pre.length * 2)) rfl ?_ s35 ?_
 ·exact Eng.run_nil_el rfl (show act35.eval (.tmp 33) = Eng.elemPtr o (pre.length * 2) from h33_35) Fo_35 (by have h_ : pre.length < (pre ++ [t]).length := (by simp); omega)
 intro act36 d36 s36 h34_36 hr
 have ⟨h0_36, h3_36, h5_36, h33_36⟩ := Eng.k4 hr h0_35 h3_35 h5_35 h33_35
 have d36 := d36.trans d35
 clear hr
 refine EngI.tv (w1 := w35) (v := Eng.elemPtr o (pre.length * 2 + 1)) rfl ?_ s36 ?_
 ·exact Eng.run_field_el rfl Tryd.underlying93 1 (by kernel_rfl) (show act36.eval (.tmp 34) = Eng.elemPtr o (pre.length * 2) from h34_36) Fo_35 (by have h_ : pre.length < (pre ++ [t]).length := (by simp); omega)
 intro act37 d37 s37 h35_37 hr
 have ⟨h0_37, h3_37, h5_37, h33_37⟩ := Eng.k4 hr h0_36 h3_36 h5_36 h33_36
 have d37 := d37.trans d36
 clear hr
 refine EngI.tv (w1 := w35) (v := .int .i64 t.2) rfl ?_ s37 ?_
 ·exact Eng.run_load_el (.int .i64 t.2) rfl (show act37.eval (.tmp 35) = Eng.elemPtr o (pre.length * 2 + 1) from h35_37) Fo_35 (Evt.top_1 pre t) (by kernel_rfl)
 intro act38 d38 s38 h36_38 hr
 have ⟨h0_38, h3_38, h5_38, h33_38⟩ := Eng.k4 hr h0_37 h3_37 h5_37 h33_37
 have d38 := d38.trans d37
 clear hr
 refine EngI.tv (w1 := w35) (v := .int .i64 (IntKind.i64.wrap (t.2 + 1))) rfl ?_ s38 ?_
 ·have e0 : act38.eval (.tmp 36) = .int .i64 t.2 := h36_38
  have e1 : act38.eval (.const (.int .i64 1)) = .int .i64 1 := rfl
  simp only [execOp, resolve, e0, e1]
  go_simp
 intro act39 d39 s39 h37_39 hr
 have ⟨h0_39, h3_39, h5_39, h33_39⟩ := Eng.k4 hr h0_38 h3_38 h5_38 h33_38
 have d39 := d39.trans d38
 clear hr
 refine EngI.tv (w1 := w35) (v := Eng.elemPtr o (pre.length * 2)) rfl ?_ s39 ?_
 ·exact Eng.run_nil_el rfl (show act39.eval (.tmp 33) = Eng.elemPtr o (pre.length * 2) from h33_39) Fo_35 (by have h_ : pre.length < (pre ++ [t]).length := (by simp); omega)
 intro act40 d40 s40 h38_40 hr
 have ⟨h0_40, h3_40, h5_40, h37_40⟩ := Eng.k4 hr h0_39 h3_39 h5_39 h37_39
 have d40 := d40.trans d39
 clear hr
 refine EngI.tv (w1 := w35) (v := Eng.elemPtr o (pre.length * 2 + 1)) rfl ?_ s40 ?_
 ·exact Eng.run_field_el rfl Tryd.underlying93 1 (by kernel_rfl) (show act40.eval (.tmp 38) = Eng.elemPtr o (pre.length * 2) from h38_40) Fo_35 (by have h_ : pre.length < (pre ++ [t]).length := (by simp); omega)
 intro act41 d41 s41 h39_41 hr
 have ⟨h0_41, h3_41, h5_41, h37_41⟩ := Eng.k4 hr h0_40 h3_40 h5_40 h37_40
 have d41 := d41.trans d40
 clear hr
 refine EngG.tail_exs EngI.free_wide rfl rfl rfl rfl (Eng.run_store_own (j := pre.length * 2 + 1) (u := .int .i64 (IntKind.i64.wrap (t.2 + 1))) rfl (show act41.eval (.tmp 39) = Eng.elemPtr o (pre.length * 2 + 1) from h39_41) h37_41 Oo_35 (by have h_ : pre.length < (pre ++ [t]).length := (by simp); omega) (by kernel_rfl) (by rfl)) fun w42 R => ?_
 obtain ⟨O_42, G_42⟩ := R
 have kg_42 := (G_42.block _ lg_35 (Eng.own_ne Oo_35 kg_35 rfl)).trans kg_35
 have lg_42 := Nat.lt_of_lt_of_le lg_35 G_42.size
 have kg3_1_42 := (G_42.block _ lg3_1_35 (Eng.own_ne Oo_35 kg3_1_35 rfl)).trans kg3_1_35
 have lg3_1_42 := Nat.lt_of_lt_of_le lg3_1_35 G_42.size
 have XA_42 := Eng.Aft.grown XA_35 G_42 (fun b e _ => Or.inr e)
 have bl42 := bl35.grown G_42 bl35.size (fun j hj => (Eng.ownB Oo_35 hj.symm).1)
 have Oo_42 := Evt.own_more O_42
 refine EngI.tail_nil ?_
 refine wp_seq ?_
 refine wp_seq ?_
 obtain ⟨q42, Bq42⟩ : ∃ b : Bool, b = (x.kind == 2) := ⟨_, rfl⟩
 obtain ⟨q46, Bq46⟩ : ∃ b : Bool, b = (x.kind == 4) := ⟨_, rfl⟩
 obtain ⟨q47, Bq47⟩ : ∃ b : Bool, b = (q42 || q46) := ⟨_, rfl⟩
 refine Eng.rS [.pointer (some ⟨g3_1, 0, none⟩), .int .i64 x.kind, .bool q42, .bool q42, bif (q42 == false) then (.pointer (some ⟨g3_1, 0, none⟩)) else undef, bif (q42 == false) then (.int .i64 x.kind) else undef, bif (q42 == false) then (.bool q46) else undef, .bool q47] (fun _ => .plain) 8 0 s41 ?_ ?_
 ·refine .c ?_ (.c ?_ (.c ?_ (.c ?_ (.c ?_ (.c ?_ (.c ?_ (.c ?_ (.nil))))))))
  ·exact Eng.pv fun a w' H => Eng.vr rfl (Eng.run_fieldb rfl Tryd.underlying30 0 (by kernel_rfl) (H.q 3 h3_41))
  ·exact Eng.pv fun a w' H => Eng.vr rfl (Eng.run_loadb rfl (H.d 0 40) ((H.below.block _ lg3_1_42).trans kg3_1_42) rfl (by kernel_rfl))
  ·refine Eng.pv fun a w' H => ?_
   refine Eng.vr (v := .bool (x.kind == 2)) (by show _ = Value.bool q42; rw [Bq42]) ?_
   have e0 : a.eval (.tmp 41) = .int .i64 x.kind := (H.d 1 41)
   have e1 : a.eval (.const (.int .i64 2)) = .int .i64 2 := rfl
   simp only [execOp, resolve, e0, e1]
   go_simp
  ·exact Eng.pv fun a w' H => Eng.vr rfl (Eng.run_move rfl (H.d 2 42))
  ·refine Eng.guarded1 (j := 3) (d := 43) (b := q42) rfl rfl (by kernel_rfl) rfl (fun v w h => h) (fun hG w => Eng.off hG) fun hG a w' H => ?_
   exact Eng.val (w1 := w') (v := .pointer (some ⟨g3_1, 0, none⟩)) (Eng.run_fieldb rfl Tryd.underlying30 0 (by kernel_rfl) (H.q 3 h3_41)) (Below.refl _ _) (Eng.off' hG rfl)
  ·refine Eng.guarded1 (j := 3) (d := 43) (b := q42) rfl rfl (by kernel_rfl) rfl (fun v w h => h) (fun hG w => Eng.off hG) fun hG a w' H => ?_
   exact Eng.val (w1 := w') (v := .int .i64 x.kind) (Eng.run_loadb rfl (Eng.on (H.d 4 44) hG) ((H.below.block _ lg3_1_42).trans kg3_1_42) rfl (by kernel_rfl)) (Below.refl _ _) (Eng.off' hG rfl)
  ·refine Eng.guarded1 (j := 3) (d := 43) (b := q42) rfl rfl (by kernel_rfl) rfl (fun v w h => h) (fun hG w => Eng.off hG) fun hG a w' H => ?_
   refine Eng.vr (v := .bool (x.kind == 4)) (Eng.off' hG (by rw [Bq46])) ?_
   have e0 : a.eval (.tmp 45) = .int .i64 x.kind := (Eng.on (H.d 5 45) hG)
   have e1 : a.eval (.const (.int .i64 4)) = .int .i64 4 := rfl
   simp only [execOp, resolve, e0, e1]
   go_simp
  exact Eng.pv fun a w' H => Eng.vr (v := .bool (q42 || q46)) (by show _ = Value.bool q47; rw [Bq47]) (Eng.run_or rfl rfl (G := true) (H.d 3 43) (fun hb => (Eng.on (H.d 6 46) (Eng.mk1 hb))))
 intro act43 w43 T
 have ⟨h0_43, h3_43, h5_43⟩ := T.r3 h0_41 h3_41 h5_41
 have kg_43 := T.x lg_42 kg_42
 have lg_43 := T.l lg_42
 have kg3_1_43 := T.x lg3_1_42 kg3_1_42
 have lg3_1_43 := T.l lg3_1_42
 have Oo_43 := T.g Oo_42
 have h47_43 : act43.eval (.tmp 47) = .bool q47 := T.done 7 47 rfl rfl
 have d43 := T.e d41
 have s43 := T.z s41
 have bl43 := T.b bl42
 have XA_43 := Eng.Aft.step XA_42 T.below
 clear T
 refine Eng.tail_nil ?_
 refine wp_cond_split h47_43 (fun hq => ?_) (fun hq => ?_)
 ·
  have c47 := Bq47.symm.trans hq
  clear hq
  have h24 : x.kind = 2 ∨ x.kind = 4 := by have h := c47; rw [Bq42, Bq46] at h; simpa using h
  refine (wpIn_wide (n := 1)).1 ?_
  refine EngI.regionS EngI.free_wide (Eng.still [fun u_ => u_ = .pointer (some ⟨g, 0, none⟩), fun u_ => u_ = .pointer (some ⟨g3_1, 0, none⟩), fun u_ => u_ = .int .i64 x.kind]) (fun _ => .plain) 3 1 53 s43 rfl (by kernel_rfl) (Eng.still_stable _) (Or.inr (Eng.still_any _)) (by kernel_rfl) ?_ ?_
  ·refine .c ?_ (.c ?_ (.c ?_ (.cons (fun h => absurd h (by decide)) (.nil))))
   ·exact Eng.pv fun a w' H => Eng.vr rfl (Eng.run_move rfl (H.q 0 h0_43))
   ·exact Eng.pv fun a w' H => Eng.vr rfl (Eng.run_fieldb rfl Tryd.underlying30 0 (by kernel_rfl) (H.q 3 h3_43))
   exact Eng.pv fun a w' H => Eng.vr rfl (Eng.run_loadb rfl (H.d 1 49) ((H.below.block _ lg3_1_43).trans kg3_1_43) rfl (by kernel_rfl))
  intro act45 w45 T
  have h5_45 := T.r1 h5_43
  have kg_45 := T.x lg_43 kg_43
  have Oo_45 := T.g Oo_43
  have h48_45 : act45.eval (.tmp 48) = .pointer (some ⟨g, 0, none⟩) := T.done 0 48 rfl rfl
  have h50_45 : act45.eval (.tmp 50) = .int .i64 x.kind := T.done 2 50 rfl rfl
  have d45 := T.e d43
  have s45 := T.z s43
  have bl45 := T.b bl43
  have XA_45 := Eng.Aft.step XA_43 T.below
  clear T
  refine EngI.tail_call EngI.free_wide Tryd.func67 (by kernel_rfl) (by kernel_rfl) rfl rfl rfl rfl #[.pointer (some ⟨g, 0, none⟩), .int .i64 x.kind] (by have e0 : act45.eval (.tmp 48) = .pointer (some ⟨g, 0, none⟩) := h48_45; have e1 : act45.eval (.tmp 50) = .int .i64 x.kind := h50_45; simp only [List.map_toArray, List.map_cons, List.map_nil, e0, e1]) s45 rfl (R := fun v w' => ∃ o', Evt.Is w.heap.size w45 g o ((pre ++ [(t.1, IntKind.i64.wrap (t.2 + 1))]) ++ [(x.kind, 0)]) w' o') ((Evt.push_calls g o (pre ++ [(t.1, IntKind.i64.wrap (t.2 + 1))]) x.kind w _ bl45 hlo kg_45 Oo_45 (by first | exact hst | (simp at hst ⊢; omega))).mono ?_) fun v_46 w46 act46 R d46 s46 hv hr => ?_
  ·rintro e w1 ⟨v1, o1, rfl, h1⟩; exact ⟨_, rfl, o1, h1⟩
  have h5_46 := Eng.k1 hr h5_45
  have d46 := d46.trans d45
  clear hv hr
  obtain ⟨o46, I46⟩ := R
  have bl46 := Eng.Aft.below I46.aft bl45 (Nat.le_refl _) (Evt.nst_lo hlo Oo_45)
  have XA_46 := Eng.Aft.trans XA_45 I46.aft (fun _ _ h => h)
  have kg_46 := I46.box
  have lg_46 := (Array.getElem?_eq_some_iff.1 kg_46).1
  have Oo_46 := I46.own
  refine EngI.tail_nil ?_
  refine wp_seq ?_
  refine Eng.rS [.bool true, .bool true] (fun _ => .plain) 2 0 s46 ?_ ?_
  ·refine .c ?_ (.c ?_ (.nil))
   ·exact Eng.pv fun a w' H => Eng.vr rfl (Eng.run_move rfl (H.q 5 h5_46))
   exact Eng.pv fun a w' H => Eng.vr rfl (Eng.run_assign rfl (H.d 0 52))
  intro act47 w47 T
  have kg_47 := T.x lg_46 kg_46
  have Oo46_47 := T.g Oo_46
  have h4_47 : act47.eval (.tmp 4) = .bool true := T.done 1 4 rfl rfl
  have d47 := T.e d46
  have bl47 := T.b bl46
  have XA_47 := Eng.Aft.step XA_46 T.below
  clear T
  refine Eng.tail_nil ?_
  refine wp_ret ?_
  repeat (first | refine Eng.in_ret ?_ | refine Eng.then_ret ?_)
  have e_ : Evt.takeF (pre ++ [t]) x.kind = some ((pre ++ [(t.1, IntKind.i64.wrap (t.2 + 1))]) ++ [(x.kind, 0)]) := by rw [Evt.takeF_x _ _ hn0 hn1 hn3 hn5, if_neg (by simp), Evt.more_snoc, if_pos h24]
  exact Eng.ret1 rfl d47 h4_47 ⟨by rw [e_]; first | rfl | (rw [Bq19]; rfl), bl47, fun st' h => by rw [e_] at h; cases h; exact ⟨_, kg_47, Oo46_47, XA_47⟩⟩
 have c47 := Bq47.symm.trans hq
 clear hq
 have h24 : ¬ (x.kind = 2 ∨ x.kind = 4) := by have h := c47; rw [Bq42, Bq46] at h; simpa using h
 refine wp_skip ?_
 refine wp_seq ?_
 refine Eng.rS [.bool true, .bool true] (fun _ => .plain) 2 0 s43 ?_ ?_
 ·refine .c ?_ (.c ?_ (.nil))
  ·exact Eng.pv fun a w' H => Eng.vr rfl (Eng.run_move rfl (H.q 5 h5_43))
  exact Eng.pv fun a w' H => Eng.vr rfl (Eng.run_assign rfl (H.d 0 52))
 intro act49 w49 T
 have kg_49 := T.x lg_43 kg_43
 have Oo_49 := T.g Oo_43
 have h4_49 : act49.eval (.tmp 4) = .bool true := T.done 1 4 rfl rfl
 have d49 := T.e d43
 have bl49 := T.b bl43
 have XA_49 := Eng.Aft.step XA_43 T.below
 clear T
 refine Eng.tail_nil ?_
 refine wp_ret ?_
 repeat (first | refine Eng.in_ret ?_ | refine Eng.then_ret ?_)
 have e_ : Evt.takeF (pre ++ [t]) x.kind = some (pre ++ [(t.1, IntKind.i64.wrap (t.2 + 1))]) := by rw [Evt.takeF_x _ _ hn0 hn1 hn3 hn5, if_neg (by simp), Evt.more_snoc, if_neg h24]
 exact Eng.ret1 rfl d49 h4_49 ⟨by rw [e_]; first | rfl | (rw [Bq19]; rfl), bl49, fun st' h => by rw [e_] at h; cases h; exact ⟨_, kg_49, Oo_49, XA_49⟩⟩
end Go.Proofs.YtgnmjaacnmkgnaaDoor.X
end
section
namespace Go.Proofs.YtgnmjaacnmkgnaaDoor.X
open Go.RowKit Go.Shelf Go.Proofs Go.Proofs.YtgnmjaacnmkgnaaDoorW.PrintWords Go.Proofs.YtgnmjaacnmkgnaaDoorW.PrintLast Go.Proofs.YtgnmjaacnmkgnaaDoorW.PrintMore
set_option linter.unusedVariables false
set_option linter.unusedSimpArgs false
attribute [local go_sem] max2_int min2_int max_two min_two
set_option maxHeartbeats 4000000 in
set_option maxRecDepth 100000 in
theorem Evt.node_calls (x : Evt.Ev) (w : World) : Calls Tryd.prog 44 #[.agg #[.int .i64 x.kind, .string x.anchor, .string x.tag, .string x.text, .bool x.plain]] w fun e w' => e = .returned (.bool (Evt.isNode x.kind)) ∧ Below w.heap.size w w' := by
 refine Eng.enter Tryd.func44 rfl fun act0 d0 s0 v0 => ?_
 have s0 : act0.tmps.size = 16 := s0
 have h0_0 : act0.eval (.tmp 0) = .agg #[.int .i64 x.kind, .string x.anchor, .string x.tag, .string x.text, .bool x.plain] := v0 0 (by simp)
 clear v0
 have bl0 : Below w.heap.size w w := Below.refl _ _
 refine wp_seq ?_
 refine Eng.regionS (Eng.still [fun u_ => True, fun u_ => u_ = .bool false]) (fun i => ([.alloc 30 #[.int .i64 x.kind, .string x.anchor, .string x.tag, .string x.text, .bool x.plain], .plain] : List Eng.Kind).getD i .plain) 2 0 16 s0 rfl (by kernel_rfl) (Eng.still_stable _) (Or.inr (Eng.still_any _)) ?_ ?_
 ·refine .c ?_ (.c ?_ (.nil))
  ·refine Eng.made rfl (by simp) rfl (fun a w' hd ho => ?_) (fun _ _ => trivial)
   exact Eng.run_box rfl ((ho 0 (by kernel_rfl)).trans h0_0)
  exact Eng.pv fun a w' H => Eng.vr rfl (Eng.run_assign rfl (rfl : a.eval (.const (.bool false)) = .bool false))
 intro act1 w1 T
 obtain ⟨g1_1, h1_1, rg1_1, lg1_1_1, kg1_1_1⟩ := T.al 0 1 _ _ rfl rfl rfl (by kernel_rfl)
 have d1 := T.e d0
 have s1 := T.z s0
 have bl1 := T.b bl0
 clear T
 refine Eng.tail_nil ?_
 refine wp_seq ?_
 obtain ⟨q5, Bq5⟩ : ∃ b : Bool, b = (x.kind == 2) := ⟨_, rfl⟩
 obtain ⟨q9, Bq9⟩ : ∃ b : Bool, b = (x.kind == 4) := ⟨_, rfl⟩
 obtain ⟨q10, Bq10⟩ : ∃ b : Bool, b = (q5 || q9) := ⟨_, rfl⟩
 obtain ⟨q14, Bq14⟩ : ∃ b : Bool, b = (x.kind == 6) := ⟨_, rfl⟩
 obtain ⟨q15, Bq15⟩ : ∃ b : Bool, b = (q10 || q14) := ⟨_, rfl⟩
 refine Eng.rS [.pointer (some ⟨g1_1, 0, none⟩), .int .i64 x.kind, .bool q5, .bool q5, bif (q5 == false) then (.pointer (some ⟨g1_1, 0, none⟩)) else undef, bif (q5 == false) then (.int .i64 x.kind) else undef, bif (q5 == false) then (.bool q9) else undef, .bool q10, .bool q10, bif (q10 == false) then (.pointer (some ⟨g1_1, 0, none⟩)) else undef, bif (q10 == false) then (.int .i64 x.kind) else undef, bif (q10 == false) then (.bool q14) else undef, .bool q15, .bool q15] (fun _ => .plain) 14 0 s1 ?_ ?_
 ·refine .c ?_ (.c ?_ (.c ?_ (.c ?_ (.c ?_ (.c ?_ (.c ?_ (.c ?_ (.c ?_ (.c ?_ (.c ?_ (.c ?_ (.c ?_ (.c ?_ (.nil))))))))))))))
  ·exact Eng.pv fun a w' H => Eng.vr rfl (Eng.run_fieldb rfl Tryd.underlying30 0 (by kernel_rfl) (H.q 1 h1_1))
  ·exact Eng.pv fun a w' H => Eng.vr rfl (Eng.run_loadb rfl (H.d 0 3) ((H.below.block _ lg1_1_1).trans kg1_1_1) rfl (by kernel_rfl))
  ·refine Eng.pv fun a w' H => ?_
   refine Eng.vr (v := .bool (x.kind == 2)) (by show _ = Value.bool q5; rw [Bq5]) ?_
   have e0 : a.eval (.tmp 4) = .int .i64 x.kind := (H.d 1 4)
   have e1 : a.eval (.const (.int .i64 2)) = .int .i64 2 := rfl
   simp only [execOp, resolve, e0, e1]
   go_simp
  ·exact Eng.pv fun a w' H => Eng.vr rfl (Eng.run_move rfl (H.d 2 5))
  ·refine Eng.guarded1 (j := 3) (d := 6) (b := q5) rfl rfl (by kernel_rfl) rfl (fun v w h => h) (fun hG w => Eng.off hG) fun hG a w' H => ?_
   exact Eng.val (w1 := w') (v := .pointer (some ⟨g1_1, 0, none⟩)) (Eng.run_fieldb rfl Tryd.underlying30 0 (by kernel_rfl) (H.q 1 h1_1)) (Below.refl _ _) (Eng.off' hG rfl)
  ·refine Eng.guarded1 (j := 3) (d := 6) (b := q5) rfl rfl (by kernel_rfl) rfl (fun v w h => h) (fun hG w => Eng.off hG) fun hG a w' H => ?_
   exact Eng.val (w1 := w') (v := .int .i64 x.kind) (Eng.run_loadb rfl (Eng.on (H.d 4 7) hG) ((H.below.block _ lg1_1_1).trans kg1_1_1) rfl (by kernel_rfl)) (Below.refl _ _) (Eng.off' hG rfl)
  ·refine Eng.guarded1 (j := 3) (d := 6) (b := q5) rfl rfl (by kernel_rfl) rfl (fun v w h => h) (fun hG w => Eng.off hG) fun hG a w' H => ?_
   refine Eng.vr (v := .bool (x.kind == 4)) (Eng.off' hG (by rw [Bq9])) ?_
   have e0 : a.eval (.tmp 8) = .int .i64 x.kind := (Eng.on (H.d 5 8) hG)
   have e1 : a.eval (.const (.int .i64 4)) = .int .i64 4 := rfl
   simp only [execOp, resolve, e0, e1]
   go_simp
  ·exact Eng.pv fun a w' H => Eng.vr (v := .bool (q5 || q9)) (by show _ = Value.bool q10; rw [Bq10]) (Eng.run_or rfl rfl (G := true) (H.d 3 6) (fun hb => (Eng.on (H.d 6 9) (Eng.mk1 hb))))
  ·exact Eng.pv fun a w' H => Eng.vr rfl (Eng.run_move rfl (H.d 7 10))
  ·refine Eng.guarded1 (j := 8) (d := 11) (b := q10) rfl rfl (by kernel_rfl) rfl (fun v w h => h) (fun hG w => Eng.off hG) fun hG a w' H => ?_
   exact Eng.val (w1 := w') (v := .pointer (some ⟨g1_1, 0, none⟩)) (Eng.run_fieldb rfl Tryd.underlying30 0 (by kernel_rfl) (H.q 1 h1_1)) (Below.refl _ _) (Eng.off' hG rfl)
  ·refine Eng.guarded1 (j := 8) (d := 11) (b := q10) rfl rfl (by kernel_rfl) rfl (fun v w h => h) (fun hG w => Eng.off hG) fun hG a w' H => ?_
   exact Eng.val (w1 := w') (v := .int .i64 x.kind) (Eng.run_loadb rfl (Eng.on (H.d 9 12) hG) ((H.below.block _ lg1_1_1).trans kg1_1_1) rfl (by kernel_rfl)) (Below.refl _ _) (Eng.off' hG rfl)
  ·refine Eng.guarded1 (j := 8) (d := 11) (b := q10) rfl rfl (by kernel_rfl) rfl (fun v w h => h) (fun hG w => Eng.off hG) fun hG a w' H => ?_
   refine Eng.vr (v := .bool (x.kind == 6)) (Eng.off' hG (by rw [Bq14])) ?_
   have e0 : a.eval (.tmp 13) = .int .i64 x.kind := (Eng.on (H.d 10 13) hG)
   have e1 : a.eval (.const (.int .i64 6)) = .int .i64 6 := rfl
   simp only [execOp, resolve, e0, e1]
   go_simp
  ·exact Eng.pv fun a w' H => Eng.vr (v := .bool (q10 || q14)) (by show _ = Value.bool q15; rw [Bq15]) (Eng.run_or rfl rfl (G := true) (H.d 8 11) (fun hb => (Eng.on (H.d 11 14) (Eng.mk1 hb))))
  exact Eng.pv fun a w' H => Eng.vr rfl (Eng.run_assign rfl (H.d 12 15))
 intro act2 w2 T
 have h2_2 : act2.eval (.tmp 2) = .bool q15 := T.done 13 2 rfl rfl
 have d2 := T.e d1
 have bl2 := T.b bl1
 clear T
 refine Eng.tail_nil ?_
 refine wp_ret ?_
 repeat (first | refine Eng.in_ret ?_ | refine Eng.then_ret ?_)
 exact Eng.ret1 rfl d2 (h2_2.trans (by rw [Bq15, Bq14, Bq10, Bq9, Bq5]; rfl)) ⟨rfl, bl2⟩
end Go.Proofs.YtgnmjaacnmkgnaaDoor.X
end
