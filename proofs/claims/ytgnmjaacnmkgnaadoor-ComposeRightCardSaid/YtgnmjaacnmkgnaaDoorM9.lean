/- Words and walks that the row of ComposeRight needs: printed by programs, and plain laws. -/
import Derived.Test.YtgnmjaacnmkgnaaDoorM8
import Derived.Test.YtgnmjaacnmkgnaaDoorM3
import Derived.Test.YtgnmjaacnmkgnaaDoorM4
import Derived.Test.YtgnmjaacnmkgnaaDoorM6
import Derived.Test.YtgnmjaacnmkgnaaDoorM0
namespace Go.Proofs.YtgnmjaacnmkgnaaDoorW.PrintWords
end Go.Proofs.YtgnmjaacnmkgnaaDoorW.PrintWords
namespace Go.Proofs.YtgnmjaacnmkgnaaDoorW.PrintLast
end Go.Proofs.YtgnmjaacnmkgnaaDoorW.PrintLast
namespace Go.Proofs.YtgnmjaacnmkgnaaDoorW.PrintMore
end Go.Proofs.YtgnmjaacnmkgnaaDoorW.PrintMore
section
namespace Go.Proofs.YtgnmjaacnmkgnaaDoor.X
open Go.RowKit Go.Shelf Go.Proofs Go.Proofs.YtgnmjaacnmkgnaaDoorW.PrintWords Go.Proofs.YtgnmjaacnmkgnaaDoorW.PrintLast Go.Proofs.YtgnmjaacnmkgnaaDoorW.PrintMore Go.Proofs.Eng
set_option linter.unusedVariables false
set_option linter.unusedSimpArgs false
attribute [local go_sem] max2_int min2_int max_two min_two
set_option maxHeartbeats 4000000 in
set_option maxRecDepth 100000 in
theorem Evt.take_nil (g : Nat) (o : Value) (x : Evt.Ev) (w W0 : World) (hB : Below w.heap.size w W0) (hlo : w.heap.size ≤ g) (hk : W0.heap[g]? = some (.cells #[o] 77 (0, 0))) (hO : W0.ownsRow w.heap.size 93 2 o 0 (Evt.opens [])) : Calls Tryd.prog 36 #[.pointer (some ⟨g, 0, none⟩), .agg #[.int .i64 x.kind, .string x.anchor, .string x.tag, .string x.text, .bool x.plain]] W0 fun e w' => e = .returned (.bool (Evt.takeF [] x.kind).isSome) ∧ Below w.heap.size w w' ∧ ∀ st', Evt.takeF [] x.kind = some st' → ∃ o', Evt.Is w.heap.size W0 g o st' w' o' := by
 have hst : ([] : List (Int × Int)).length ≤ 100000 := by simp
 refine enter Tryd.func36 rfl fun A d0 s0 v0 => ?_
 have s0 : A.tmps.size = 53 := s0
 have y0 : A.eval (.tmp 0) = .pointer (some ⟨g, 0, none⟩) := v0 0 (by simp)
 have y1 : A.eval (.tmp 1) = .agg #[.int .i64 x.kind, .string x.anchor, .string x.tag, .string x.text, .bool x.plain] := v0 1 (by simp)
 clear v0
 refine wp_seq (regionS (still [fun u_ => True, fun u_ => u_ = .bool false]) (fun i => ([.alloc 30 #[.int .i64 x.kind, .string x.anchor, .string x.tag, .string x.text, .bool x.plain], .plain] : List Kind).getD i .plain) 2 0 53 s0 rfl (by kernel_rfl) (still_stable _) (Or.inr (still_any _)) ?_ ?_)
 ·refine .c ?_ (.c ?_ (.nil))
  ·refine made rfl (by simp) rfl (fun a w' hd ho => ?_) (fun _ _ => trivial)
   exact run_box rfl ((ho 1 (by kernel_rfl)).trans y1)
  exact pq fun a w' H => ra (rfl : a.eval (.const (.bool false)) = .bool false)
 intro A w1 T
 have y0 := T.r1 y0
 have kg_ := (T.below.block _ (Array.getElem?_eq_some_iff.1 hk).1).trans hk
 have lg_ := Nat.lt_of_lt_of_le (Array.getElem?_eq_some_iff.1 hk).1 T.below.size
 have Oo_1 := T.g hO
 obtain ⟨g3_1, y3, rg3_1, lg3_1_, kg3_1_⟩ := T.al 0 3 _ _ rfl rfl rfl (by kernel_rfl)
 have d1 := T.e d0
 have s1 := T.z s0
 have bl1 := hB.trans (T.below.mono hB.size)
 have XA_1 := Aft.step (Aft.refl (Nst g o) W0) T.below
 clear T
 refine tail_nil (wp_seq ?_)
 refine (wpIn_wide (n := 1)).1 (EngI.regionS EngI.free_wide (still [fun u_ => u_ = .pointer (some ⟨g, 0, none⟩)]) (fun _ => .plain) 1 6 53 s1 rfl (by kernel_rfl) (still_stable _) (Or.inr (still_any _)) (by kernel_rfl) ?_ ?_)
 ·refine .c ?_ (.cons (fun h => absurd h (by decide)) (.cons (fun h => absurd h (by decide)) (.cons (fun h => absurd h (by decide)) (.cons (fun h => absurd h (by decide)) (.cons (fun h => absurd h (by decide)) (.cons (fun h => absurd h (by decide)) (.nil)))))))
  ·exact qq 0 y0
 intro A w2 T
 have ⟨y0, y3⟩ := T.r2 y0 y3
 have ⟨kg_, lg_⟩ := T.y kg_ lg_
 have ⟨kg3_1_, lg3_1_⟩ := T.y kg3_1_ lg3_1_
 have Oo_2 := T.g Oo_1
 have y6 : A.eval (.tmp 6) = .pointer (some ⟨g, 0, none⟩) := T.done 0 6 rfl rfl
 have ⟨d2, s2, bl2⟩ := T.h d1 s1 bl1
 have XA_2 := Aft.step XA_1 T.below
 clear T
 refine EngI.tail_call EngI.free_wide Tryd.func66 (by kernel_rfl) (by kernel_rfl) rfl rfl rfl rfl #[.pointer (some ⟨g, 0, none⟩)] (m1 y6) s2 rfl (R := fun v w' => ∃ h, v = .pointer (some ⟨h, 0, none⟩) ∧ w2.heap.size ≤ h ∧ h < w'.heap.size ∧ w'.heap[h]? = some (.cells #[.int .i64 (-1), .int .i64 0] 93 (0, 0)) ∧ Below w2.heap.size w2 w') ((Evt.last_nil g o w.heap.size _ kg_ Oo_2).mono ?_) fun v_3 w3 A R d3 s3 y7 hr => ?_
 ·rintro e w1 ⟨h, rfl, h1⟩; exact ⟨_, rfl, h, rfl, h1⟩
 have ⟨y0, y3⟩ := k2 hr y0 y3
 have d3 := d3.trans d2
 obtain ⟨h3, ev_3, rg_3, lgh3, kgh3, b_3⟩ := R
 have nw3 : W0.heap.size ≤ h3 := Nat.le_trans XA_2.size rg_3
 have kg_ := (b_3.block _ lg_).trans kg_
 have lg_ := Nat.lt_of_lt_of_le lg_ b_3.size
 have kg3_1_ := (b_3.block _ lg3_1_).trans kg3_1_
 have lg3_1_ := Nat.lt_of_lt_of_le lg3_1_ b_3.size
 have Oo_3 := own_below Oo_2 b_3
 have XA_3 := Aft.step XA_2 b_3
 have bl3 := bl2.trans (b_3.mono bl2.size)
 rw [ev_3] at y7
 refine EngI.tw (w1 := w3) (v := .pointer (some ⟨h3, 0, none⟩)) rfl ?_ s3 d3 ?_
 ·exact run_nilb rfl y7
 intro A d4 s4 y8 hr
 have ⟨y0, y3⟩ := k2 hr y0 y3
 refine EngI.tw (w1 := w3) (v := .pointer (some ⟨h3, 0, none⟩)) rfl ?_ s4 d4 ?_
 ·exact fb Tryd.underlying93 0 y8
 intro A d5 s5 y9 hr
 have ⟨y0, y3⟩ := k2 hr y0 y3
 refine EngI.tw (w1 := w3) (v := .int .i64 (-1)) rfl ?_ s5 d5 ?_
 ·exact lb y9 (((Below.refl _ _).block _ lgh3).trans kgh3)
 intro A d6 s6 y10 hr
 have ⟨y0, y3⟩ := k2 hr y0 y3
 refine EngI.tw (w1 := w3) (v := .bool (decide ((-1) ≥ 0))) rfl (ok (.int .i64 0) y10) s6 d6 ?_
 intro A d7 s7 hv hr
 have ⟨y0, y3⟩ := k2 hr y0 y3
 have y11 : A.eval (.tmp 11) = .bool false := hv.trans (congrArg Value.bool (by decide : _ = false))
 clear hv hr
 refine EngI.tw rfl (ra y11) s7 d7 fun A d8 s8 y5 hr => ?_
 have ⟨y0, y3⟩ := k2 hr y0 y3
 refine EngI.tail_nil (wp_seq (wp_seq ?_))
 refine rP [.pointer (some ⟨g3_1, 0, none⟩), .int .i64 x.kind] 2 0 s8 (.c (pq fun a w' H => fb Tryd.underlying30 0 (H.q 3 y3)) (.c (pq fun a w' H => lb (H.d 0 12) (H.x lg3_1_ kg3_1_)) .nil)) fun A w9 T => ?_
 have ⟨y0, y3, y5⟩ := T.r3 y0 y3 y5
 have ⟨kg_, lg_⟩ := T.y kg_ lg_
 have ⟨kg3_1_, lg3_1_⟩ := T.y kg3_1_ lg3_1_
 have Oo_9 := T.g Oo_3
 have y13 := T.u 1 13
 have ⟨d9, s9, bl9⟩ := T.h d8 s8 bl3
 have XA_9 := Aft.step XA_3 T.below
 clear T
 refine tail_nil (wp_block ?_)
 refine wp_seq ?_
 obtain ⟨q15, Bq15⟩ := nm (x.kind == 0)
 refine rP [.bool q15, .bool q15] 2 0 s9 (.c (pv fun a w' H => vr (bb Bq15) (ok (.int .i64 0) (H.q 13 y13))) (.c (qe 0 15) .nil)) fun A w10 T => ?_
 have ⟨y0, y3, y5, y13⟩ := T.r4 y0 y3 y5 y13
 have ⟨kg_, lg_⟩ := T.y kg_ lg_
 have ⟨kg3_1_, lg3_1_⟩ := T.y kg3_1_ lg3_1_
 have Oo_10 := T.g Oo_9
 have y14 := T.u 1 14
 have ⟨d10, s10, bl10⟩ := T.h d9 s9 bl9
 have XA_10 := Aft.step XA_9 T.below
 clear T
 refine tail_nil (wp_cond_split y14 (fun hq => ?_) (fun hq => ?_))
 ·
  have c14 := Bq15.symm.trans hq
  clear hq
  have hk_ : x.kind = 0 := by simpa using c14
  refine wp_seq ((wpIn_wide (n := 1)).1 ?_)
  refine EngI.regionS EngI.free_wide (still [fun u_ => u_ = .pointer (some ⟨g, 0, none⟩)]) (fun _ => .plain) 1 1 53 s10 rfl (by kernel_rfl) (still_stable _) (Or.inr (still_any _)) (by kernel_rfl) ?_ ?_
  ·refine .c ?_ (.cons (fun h => absurd h (by decide)) (.nil))
   ·exact qq 0 y0
  intro A w12 T
  have y5 := T.r1 y5
  have kg_ := T.x lg_ kg_
  have Oo_12 := T.g Oo_10
  have y16 : A.eval (.tmp 16) = .pointer (some ⟨g, 0, none⟩) := T.done 0 16 rfl rfl
  have ⟨d12, s12, bl12⟩ := T.h d10 s10 bl10
  have XA_12 := Aft.step XA_10 T.below
  clear T
  refine EngI.tail_call EngI.free_wide Tryd.func67 (by kernel_rfl) (by kernel_rfl) rfl rfl rfl rfl #[.pointer (some ⟨g, 0, none⟩), .int .i64 0] (m2 y16 ((rfl : A.eval (.const (.int .i64 0)) = .int .i64 0))) s12 rfl (R := fun v w' => ∃ o', Evt.Is w.heap.size w12 g o ([] ++ [(0, 0)]) w' o') ((Evt.push_calls g o [] 0 w _ bl12 hlo kg_ Oo_12 (by first | exact hst | (simp at hst ⊢; omega))).mono ?_) fun v_13 w13 A R d13 s13 hv hr => ?_
  ·rintro e w1 ⟨v1, o1, rfl, h1⟩; exact ⟨_, rfl, o1, h1⟩
  have y5 := k1 hr y5
  have d13 := d13.trans d12
  clear hv hr
  obtain ⟨o13, I13⟩ := R
  have bl13 := Aft.below I13.aft bl12 (Nat.le_refl _) (Evt.nst_lo hlo Oo_12)
  have XA_13 := Aft.trans XA_12 I13.aft (fun _ _ h => h)
  have kg_ := I13.box
  have lg_ := (Array.getElem?_eq_some_iff.1 kg_).1
  have Oo_13 := I13.own
  refine EngI.tail_nil (wp_seq ?_)
  obtain ⟨q19, Bq19⟩ := nm (!false)
  refine rP [.bool false, .bool q19, .bool q19] 3 0 s13 (.c (qq 5 y5) (.c (pv fun a w' H => vr (bb Bq19) (run_not rfl (H.d 0 18))) (.c (qe 1 19) .nil))) fun A w14 T => ?_
  have kg_ := T.x lg_ kg_
  have Oo13_14 := T.g Oo_13
  have y4 := T.u 2 4
  have d14 := T.e d13
  have bl14 := T.b bl13
  have XA_14 := Aft.step XA_13 T.below
  clear T
  refine tail_nil (wp_ret ?_)
  repeat (first | refine in_ret ?_ | refine then_ret ?_)
  have e_ : Evt.takeF [] x.kind = some [(0, 0)] := by rw [hk_]; exact Evt.takeF_0 _
  exact ret1 rfl d14 y4 ⟨by rw [e_]; first | rfl | (rw [Bq19]; rfl), bl14, fun st' h => by rw [e_] at h; cases h; exact ⟨_, kg_, Oo13_14, XA_14⟩⟩
 have c14 := Bq15.symm.trans hq
 clear hq
 have hn0 : x.kind ≠ 0 := by simpa using c14
 refine wp_seq ?_
 obtain ⟨q21, Bq21⟩ := nm (x.kind == 1)
 refine rP [.bool q21, .bool q21] 2 0 s10 (.c (pv fun a w' H => vr (bb Bq21) (ok (.int .i64 1) (H.q 13 y13))) (.c (qe 0 21) .nil)) fun A w16 T => ?_
 have ⟨y0, y3, y5, y13⟩ := T.r4 y0 y3 y5 y13
 have ⟨kg_, lg_⟩ := T.y kg_ lg_
 have ⟨kg3_1_, lg3_1_⟩ := T.y kg3_1_ lg3_1_
 have Oo_16 := T.g Oo_10
 have y20 := T.u 1 20
 have ⟨d16, s16, bl16⟩ := T.h d10 s10 bl10
 have XA_16 := Aft.step XA_10 T.below
 clear T
 refine tail_nil (wp_cond_split y20 (fun hq => ?_) (fun hq => ?_))
 ·
  have c20 := Bq21.symm.trans hq
  clear hq
  have hk_ : x.kind = 1 := by simpa using c20
  refine wp_seq ((wpIn_wide (n := 1)).1 ?_)
  refine EngI.regionS EngI.free_wide (still [fun u_ => u_ = .pointer (some ⟨g, 0, none⟩)]) (fun _ => .plain) 1 2 53 s16 rfl (by kernel_rfl) (still_stable _) (Or.inr (still_any _)) (by kernel_rfl) ?_ ?_
  ·refine .c ?_ (.cons (fun h => absurd h (by decide)) (.cons (fun h => absurd h (by decide)) (.nil)))
   ·exact qq 0 y0
  intro A w18 T
  have kg_ := T.x lg_ kg_
  have Oo_18 := T.g Oo_16
  have y22 : A.eval (.tmp 22) = .pointer (some ⟨g, 0, none⟩) := T.done 0 22 rfl rfl
  have ⟨d18, s18, bl18⟩ := T.h d16 s16 bl16
  have XA_18 := Aft.step XA_16 T.below
  clear T
  refine EngI.tail_call EngI.free_wide Tryd.func68 (by kernel_rfl) (by kernel_rfl) rfl rfl rfl rfl #[.pointer (some ⟨g, 0, none⟩), .int .i64 0, .func (.func 69) #[] #[]] (m3 y22 ((rfl : A.eval (.const (.int .i64 0)) = .int .i64 0)) ((rfl : A.eval (.func 69) = .func (.func 69) #[] #[]))) s18 rfl (R := fun v w' => v = .bool (Evt.pop [] 0 (fun m => m == 1)).isSome ∧ Below w.heap.size w w' ∧ ∀ st', Evt.pop [] 0 (fun m => m == 1) = some st' → ∃ o', Evt.Is w.heap.size w18 g o st' w' o') ((Evt.pop69_nil g o 0 w _ bl18 hlo kg_ Oo_18 (by decide)).mono ?_) fun v_19 w19 A R d19 s19 y23 hr => ?_
  ·rintro e w1 ⟨rfl, h1, h2⟩; exact ⟨_, rfl, rfl, h1, h2⟩
  have d19 := d19.trans d18
  obtain ⟨ev_19, bl19, hP0_19⟩ := R
  have hP19 : ∀ st', Evt.pop [] 0 (fun m => m == 1) = some st' → ∃ o', Evt.Is w.heap.size W0 g o st' w19 o' := fun st' h => (hP0_19 st' h).imp fun _ i => i.from XA_18
  rw [ev_19] at y23
  refine EngI.tw rfl (ra y23) s19 d19 fun A d20 s20 y4 hr => EngI.tail_nil (wp_ret ?_)
  repeat (first | refine in_ret ?_ | refine then_ret ?_)
  have e_ : Evt.takeF [] x.kind = Evt.pop [] 0 (fun m => m == 1) := by rw [hk_]; exact Evt.takeF_1 _
  exact ret1 rfl d20 y4 ⟨by rw [e_], bl19, by rw [e_]; exact hP19⟩
 have c20 := Bq21.symm.trans hq
 clear hq
 have hn1 : x.kind ≠ 1 := by simpa using c20
 refine wp_seq ?_
 obtain ⟨q25, Bq25⟩ := nm (x.kind == 3)
 refine rP [.bool q25, .bool q25] 2 0 s16 (.c (pv fun a w' H => vr (bb Bq25) (ok (.int .i64 3) (H.q 13 y13))) (.c (qe 0 25) .nil)) fun A w22 T => ?_
 have ⟨y0, y3, y5, y13⟩ := T.r4 y0 y3 y5 y13
 have ⟨kg_, lg_⟩ := T.y kg_ lg_
 have ⟨kg3_1_, lg3_1_⟩ := T.y kg3_1_ lg3_1_
 have Oo_22 := T.g Oo_16
 have y24 := T.u 1 24
 have ⟨d22, s22, bl22⟩ := T.h d16 s16 bl16
 have XA_22 := Aft.step XA_16 T.below
 clear T
 refine tail_nil (wp_cond_split y24 (fun hq => ?_) (fun hq => ?_))
 ·
  have c24 := Bq25.symm.trans hq
  clear hq
  have hk_ : x.kind = 3 := by simpa using c24
  refine wp_seq ((wpIn_wide (n := 1)).1 ?_)
  refine EngI.regionS EngI.free_wide (still [fun u_ => u_ = .pointer (some ⟨g, 0, none⟩)]) (fun _ => .plain) 1 2 53 s22 rfl (by kernel_rfl) (still_stable _) (Or.inr (still_any _)) (by kernel_rfl) ?_ ?_
  ·refine .c ?_ (.cons (fun h => absurd h (by decide)) (.cons (fun h => absurd h (by decide)) (.nil)))
   ·exact qq 0 y0
  intro A w24 T
  have kg_ := T.x lg_ kg_
  have Oo_24 := T.g Oo_22
  have y26 : A.eval (.tmp 26) = .pointer (some ⟨g, 0, none⟩) := T.done 0 26 rfl rfl
  have ⟨d24, s24, bl24⟩ := T.h d22 s22 bl22
  have XA_24 := Aft.step XA_22 T.below
  clear T
  refine EngI.tail_call EngI.free_wide Tryd.func68 (by kernel_rfl) (by kernel_rfl) rfl rfl rfl rfl #[.pointer (some ⟨g, 0, none⟩), .int .i64 2, .func (.func 70) #[] #[]] (m3 y26 ((rfl : A.eval (.const (.int .i64 2)) = .int .i64 2)) ((rfl : A.eval (.func 70) = .func (.func 70) #[] #[]))) s24 rfl (R := fun v w' => v = .bool (Evt.pop [] 2 (fun _ => true)).isSome ∧ Below w.heap.size w w' ∧ ∀ st', Evt.pop [] 2 (fun _ => true) = some st' → ∃ o', Evt.Is w.heap.size w24 g o st' w' o') ((Evt.pop70_nil g o 2 w _ bl24 hlo kg_ Oo_24 (by decide)).mono ?_) fun v_25 w25 A R d25 s25 y27 hr => ?_
  ·rintro e w1 ⟨rfl, h1, h2⟩; exact ⟨_, rfl, rfl, h1, h2⟩
  have d25 := d25.trans d24
  obtain ⟨ev_25, bl25, hP0_25⟩ := R
  have hP25 : ∀ st', Evt.pop [] 2 (fun _ => true) = some st' → ∃ o', Evt.Is w.heap.size W0 g o st' w25 o' := fun st' h => (hP0_25 st' h).imp fun _ i => i.from XA_24
  rw [ev_25] at y27
  refine EngI.tw rfl (ra y27) s25 d25 fun A d26 s26 y4 hr => EngI.tail_nil (wp_ret ?_)
  repeat (first | refine in_ret ?_ | refine then_ret ?_)
  have e_ : Evt.takeF [] x.kind = Evt.pop [] 2 (fun _ => true) := by rw [hk_]; exact Evt.takeF_3 _
  exact ret1 rfl d26 y4 ⟨by rw [e_], bl25, by rw [e_]; exact hP25⟩
 have c24 := Bq25.symm.trans hq
 clear hq
 have hn3 : x.kind ≠ 3 := by simpa using c24
 refine wp_seq ?_
 obtain ⟨q29, Bq29⟩ := nm (x.kind == 5)
 refine rP [.bool q29, .bool q29] 2 0 s22 (.c (pv fun a w' H => vr (bb Bq29) (ok (.int .i64 5) (H.q 13 y13))) (.c (qe 0 29) .nil)) fun A w28 T => ?_
 have ⟨y0, y3, y5⟩ := T.r3 y0 y3 y5
 have ⟨kg_, lg_⟩ := T.y kg_ lg_
 have ⟨kg3_1_, lg3_1_⟩ := T.y kg3_1_ lg3_1_
 have Oo_28 := T.g Oo_22
 have y28 := T.u 1 28
 have ⟨d28, s28, bl28⟩ := T.h d22 s22 bl22
 have XA_28 := Aft.step XA_22 T.below
 clear T
 refine tail_nil (wp_cond_split y28 (fun hq => ?_) (fun hq => ?_))
 ·
  have c28 := Bq29.symm.trans hq
  clear hq
  have hk_ : x.kind = 5 := by simpa using c28
  refine wp_seq ((wpIn_wide (n := 1)).1 ?_)
  refine EngI.regionS EngI.free_wide (still [fun u_ => u_ = .pointer (some ⟨g, 0, none⟩)]) (fun _ => .plain) 1 2 53 s28 rfl (by kernel_rfl) (still_stable _) (Or.inr (still_any _)) (by kernel_rfl) ?_ ?_
  ·refine .c ?_ (.cons (fun h => absurd h (by decide)) (.cons (fun h => absurd h (by decide)) (.nil)))
   ·exact qq 0 y0
  intro A w30 T
  have kg_ := T.x lg_ kg_
  have Oo_30 := T.g Oo_28
  have y30 : A.eval (.tmp 30) = .pointer (some ⟨g, 0, none⟩) := T.done 0 30 rfl rfl
  have ⟨d30, s30, bl30⟩ := T.h d28 s28 bl28
  have XA_30 := Aft.step XA_28 T.below
  clear T
  refine EngI.tail_call EngI.free_wide Tryd.func68 (by kernel_rfl) (by kernel_rfl) rfl rfl rfl rfl #[.pointer (some ⟨g, 0, none⟩), .int .i64 4, .func (.func 71) #[] #[]] (m3 y30 ((rfl : A.eval (.const (.int .i64 4)) = .int .i64 4)) ((rfl : A.eval (.func 71) = .func (.func 71) #[] #[]))) s30 rfl (R := fun v w' => v = .bool (Evt.pop [] 4 Evt.even).isSome ∧ Below w.heap.size w w' ∧ ∀ st', Evt.pop [] 4 Evt.even = some st' → ∃ o', Evt.Is w.heap.size w30 g o st' w' o') ((Evt.pop71_nil g o 4 w _ bl30 hlo kg_ Oo_30 (by decide)).mono ?_) fun v_31 w31 A R d31 s31 y31 hr => ?_
  ·rintro e w1 ⟨rfl, h1, h2⟩; exact ⟨_, rfl, rfl, h1, h2⟩
  have d31 := d31.trans d30
  obtain ⟨ev_31, bl31, hP0_31⟩ := R
  have hP31 : ∀ st', Evt.pop [] 4 Evt.even = some st' → ∃ o', Evt.Is w.heap.size W0 g o st' w31 o' := fun st' h => (hP0_31 st' h).imp fun _ i => i.from XA_30
  rw [ev_31] at y31
  refine EngI.tw rfl (ra y31) s31 d31 fun A d32 s32 y4 hr => EngI.tail_nil (wp_ret ?_)
  repeat (first | refine in_ret ?_ | refine then_ret ?_)
  have e_ : Evt.takeF [] x.kind = Evt.pop [] 4 Evt.even := by rw [hk_]; exact Evt.takeF_5 _
  exact ret1 rfl d32 y4 ⟨by rw [e_], bl31, by rw [e_]; exact hP31⟩
 have c28 := Bq29.symm.trans hq
 clear hq
 have hn5 : x.kind ≠ 5 := by simpa using c28
 refine wp_skip (wp_seq ?_)
 refine (wpIn_wide (n := 1)).1 (EngI.regionS EngI.free_wide (still [fun u_ => u_ = .pointer (some ⟨g, 0, none⟩)]) (fun _ => .plain) 1 8 53 s28 rfl (by kernel_rfl) (still_stable _) (Or.inr (still_any _)) (by kernel_rfl) ?_ ?_)
 ·refine .c ?_ (.cons (fun h => absurd h (by decide)) (.cons (fun h => absurd h (by decide)) (.cons (fun h => absurd h (by decide)) (.cons (fun h => absurd h (by decide)) (.cons (fun h => absurd h (by decide)) (.cons (fun h => absurd h (by decide)) (.cons (fun h => absurd h (by decide)) (.cons (fun h => absurd h (by decide)) (.nil)))))))))
  ·exact qq 0 y0
 intro A w34 T
 have ⟨y0, y3, y5⟩ := T.r3 y0 y3 y5
 have ⟨kg_, lg_⟩ := T.y kg_ lg_
 have ⟨kg3_1_, lg3_1_⟩ := T.y kg3_1_ lg3_1_
 have Oo_34 := T.g Oo_28
 have y32 : A.eval (.tmp 32) = .pointer (some ⟨g, 0, none⟩) := T.done 0 32 rfl rfl
 have ⟨d34, s34, bl34⟩ := T.h d28 s28 bl28
 have XA_34 := Aft.step XA_28 T.below
 clear T
 refine EngI.tail_call EngI.free_wide Tryd.func66 (by kernel_rfl) (by kernel_rfl) rfl rfl rfl rfl #[.pointer (some ⟨g, 0, none⟩)] (m1 y32) s34 rfl (R := fun v w' => ∃ h, v = .pointer (some ⟨h, 0, none⟩) ∧ w34.heap.size ≤ h ∧ h < w'.heap.size ∧ w'.heap[h]? = some (.cells #[.int .i64 (-1), .int .i64 0] 93 (0, 0)) ∧ Below w34.heap.size w34 w') ((Evt.last_nil g o w.heap.size _ kg_ Oo_34).mono ?_) fun v_35 w35 A R d35 s35 y33 hr => ?_
 ·rintro e w1 ⟨h, rfl, h1⟩; exact ⟨_, rfl, h, rfl, h1⟩
 have ⟨y0, y3, y5⟩ := k3 hr y0 y3 y5
 have d35 := d35.trans d34
 obtain ⟨h35, ev_35, rg_35, lgh35, kgh35, b_35⟩ := R
 have ne_h35_g : g ≠ h35 := fun e => Nat.lt_irrefl _ (Nat.lt_of_lt_of_le (e ▸ lg_) rg_35)
 have ne_h35_g3_1 : g3_1 ≠ h35 := fun e => Nat.lt_irrefl _ (Nat.lt_of_lt_of_le (e ▸ lg3_1_) rg_35)
 have og35 : w.heap.size ≤ h35 := Nat.le_trans bl34.size rg_35
 have nw35 : W0.heap.size ≤ h35 := Nat.le_trans XA_34.size rg_35
 have kg_ := (b_35.block _ lg_).trans kg_
 have lg_ := Nat.lt_of_lt_of_le lg_ b_35.size
 have kg3_1_ := (b_35.block _ lg3_1_).trans kg3_1_
 have lg3_1_ := Nat.lt_of_lt_of_le lg3_1_ b_35.size
 have Oo_35 := own_below Oo_34 b_35
 have bl35 := bl34.trans (b_35.mono bl34.size)
 rw [ev_35] at y33
 refine EngI.tw (w1 := w35) (v := .pointer (some ⟨h35, 0, none⟩)) rfl ?_ s35 d35 ?_
 ·exact run_nilb rfl y33
 intro A d36 s36 y34 hr
 have ⟨y0, y3, y5, y33⟩ := k4 hr y0 y3 y5 y33
 refine EngI.tw (w1 := w35) (v := .pointer (some ⟨h35, 1, none⟩)) rfl ?_ s36 d36 ?_
 ·exact fb Tryd.underlying93 1 y34
 intro A d37 s37 y35 hr
 have ⟨y0, y3, y5, y33⟩ := k4 hr y0 y3 y5 y33
 refine EngI.tw (w1 := w35) (v := .int .i64 0) rfl ?_ s37 d37 ?_
 ·exact lb y35 (((Below.refl _ _).block _ lgh35).trans kgh35)
 intro A d38 s38 y36 hr
 have ⟨y0, y3, y5, y33⟩ := k4 hr y0 y3 y5 y33
 refine EngI.tw (w1 := w35) (v := .int .i64 (IntKind.i64.wrap (0 + 1))) rfl (ok (.int .i64 1) y36) s38 d38 ?_
 intro A d39 s39 y37 hr
 have ⟨y0, y3, y5, y33⟩ := k4 hr y0 y3 y5 y33
 refine EngI.tw (w1 := w35) (v := .pointer (some ⟨h35, 0, none⟩)) rfl ?_ s39 d39 ?_
 ·exact run_nilb rfl y33
 intro A d40 s40 y38 hr
 have ⟨y0, y3, y5, y37⟩ := k4 hr y0 y3 y5 y37
 refine EngI.tw (w1 := w35) (v := .pointer (some ⟨h35, 1, none⟩)) rfl ?_ s40 d40 ?_
 ·exact fb Tryd.underlying93 1 y38
 intro A d41 s41 y39 hr
 have ⟨y0, y3, y5, y37⟩ := k4 hr y0 y3 y5 y37
 refine EngI.tail_set EngI.free_wide (n := 1) (v := .int .i64 (IntKind.i64.wrap (0 + 1))) (new := #[.int .i64 (-1), .int .i64 (IntKind.i64.wrap (0 + 1))]) rfl rfl rfl rfl kgh35 rfl ?_ fun w42 S => ?_
 ·have e0 : A.eval (.tmp 39) = .pointer (some ⟨h35, 1, none⟩) := y39
  have e1 : A.eval (.tmp 37) = .int .i64 (IntKind.i64.wrap (0 + 1)) := y37
  have z0 := (Eng.cells kgh35 (1)).trans (rfl)
  have f0 := unfrozen kgh35 (1)
  simp only [execOp]
  rw [e0, e1]
  go_simp
 have kg_ := (S.far _ ne_h35_g).trans kg_
 have lg_ := Nat.lt_of_lt_of_eq lg_ S.size.symm
 have kg3_1_ := (S.far _ ne_h35_g3_1).trans kg3_1_
 have lg3_1_ := Nat.lt_of_lt_of_eq lg3_1_ S.size.symm
 have bl42 := S.below bl35 og35
 have Oo_42 := Evt.own_sets_ne Oo_35 S (fun b e => by have h1 := (ownB hO e).2.1; have h2 := nw35; omega)
 clear S
 refine EngI.tail_nil (wp_seq (wp_seq ?_))
 obtain ⟨q42, Bq42⟩ := nm (x.kind == 2)
 obtain ⟨q46, Bq46⟩ := nm (x.kind == 4)
 obtain ⟨q47, Bq47⟩ := nm (q42 || q46)
 refine rP [.pointer (some ⟨g3_1, 0, none⟩), .int .i64 x.kind, .bool q42, .bool q42, bif (q42 == false) then (.pointer (some ⟨g3_1, 0, none⟩)) else undef, bif (q42 == false) then (.int .i64 x.kind) else undef, bif (q42 == false) then (.bool q46) else undef, .bool q47] 8 0 s41 (.c (pq fun a w' H => fb Tryd.underlying30 0 (H.q 3 y3)) (.c (pq fun a w' H => lb (H.d 0 40) (H.x lg3_1_ kg3_1_)) (.c (pv fun a w' H => vr (bb Bq42) (ok (.int .i64 2) (H.d 1 41))) (.c (qd 2 42) (.c (g1 3 43 q42 fun hG a w' H => vr (off' hG rfl) (fb Tryd.underlying30 0 (H.q 3 y3))) (.c (g1 3 43 q42 fun hG a w' H => vr (off' hG rfl) (lb (on (H.d 4 44) hG) (H.x lg3_1_ kg3_1_))) (.c (g1 3 43 q42 fun hG a w' H => vr (v := .bool (x.kind == 4)) (off' hG (by rw [Bq46])) (ok (.int .i64 4) (on (H.d 5 45) hG))) (.c (pv fun a w' H => vr (bb Bq47) (run_or rfl rfl (G := true) (H.d 3 43) (fun hb => (on (H.d 6 46) (mk1 hb))))) .nil)))))))) fun A w43 T => ?_
 have ⟨y0, y3, y5⟩ := T.r3 y0 y3 y5
 have ⟨kg_, lg_⟩ := T.y kg_ lg_
 have ⟨kg3_1_, lg3_1_⟩ := T.y kg3_1_ lg3_1_
 have Oo_43 := T.g Oo_42
 have y47 := T.u 7 47
 have ⟨d43, s43, bl43⟩ := T.h d41 s41 bl42
 clear T
 refine tail_nil (wp_cond_split y47 (fun hq => ?_) (fun hq => ?_))
 ·
  have c47 := Bq47.symm.trans hq
  clear hq
  have h24 : x.kind = 2 ∨ x.kind = 4 := by have h := c47; rw [Bq42, Bq46] at h; simpa using h
  refine (wpIn_wide (n := 1)).1 (EngI.regionS EngI.free_wide (still [fun u_ => u_ = .pointer (some ⟨g, 0, none⟩), fun u_ => u_ = .pointer (some ⟨g3_1, 0, none⟩), fun u_ => u_ = .int .i64 x.kind]) (fun _ => .plain) 3 1 53 s43 rfl (by kernel_rfl) (still_stable _) (Or.inr (still_any _)) (by kernel_rfl) ?_ ?_)
  ·refine .c ?_ (.c ?_ (.c ?_ (.cons (fun h => absurd h (by decide)) (.nil))))
   ·exact qq 0 y0
   ·exact pq fun a w' H => fb Tryd.underlying30 0 (H.q 3 y3)
   exact pq fun a w' H => lb (H.d 1 49) (H.x lg3_1_ kg3_1_)
  intro A w45 T
  have y5 := T.r1 y5
  have kg_ := T.x lg_ kg_
  have Oo_45 := T.g Oo_43
  have y48 : A.eval (.tmp 48) = .pointer (some ⟨g, 0, none⟩) := T.done 0 48 rfl rfl
  have y50 : A.eval (.tmp 50) = .int .i64 x.kind := T.done 2 50 rfl rfl
  have ⟨d45, s45, bl45⟩ := T.h d43 s43 bl43
  clear T
  refine EngI.tail_call EngI.free_wide Tryd.func67 (by kernel_rfl) (by kernel_rfl) rfl rfl rfl rfl #[.pointer (some ⟨g, 0, none⟩), .int .i64 x.kind] (m2 y48 y50) s45 rfl (R := fun v w' => ∃ o', Evt.Is w.heap.size w45 g o ([] ++ [(x.kind, 0)]) w' o') ((Evt.push_calls g o [] x.kind w _ bl45 hlo kg_ Oo_45 (by first | exact hst | (simp at hst ⊢; omega))).mono ?_) fun v_46 w46 A R d46 s46 hv hr => ?_
  ·rintro e w1 ⟨v1, o1, rfl, h1⟩; exact ⟨_, rfl, o1, h1⟩
  have y5 := k1 hr y5
  have d46 := d46.trans d45
  clear hv hr
  obtain ⟨o46, I46⟩ := R
  have bl46 := Aft.below I46.aft bl45 (Nat.le_refl _) (Evt.nst_lo hlo Oo_45)
  refine EngI.tail_nil (wp_seq ?_)
  refine rP [.bool false, .bool false] 2 0 s46 (.c (qq 5 y5) (.c (qe 0 52) .nil)) fun A w47 T => ?_
  have y4 := T.u 1 4
  have d47 := T.e d46
  have bl47 := T.b bl46
  clear T
  refine tail_nil (wp_ret ?_)
  repeat (first | refine in_ret ?_ | refine then_ret ?_)
  have e_ : Evt.takeF [] x.kind = none := by rw [Evt.takeF_x _ _ hn0 hn1 hn3 hn5, if_pos (show ([] : List (Int × Int)).isEmpty = true from rfl)]
  exact ret1 rfl d47 y4 ⟨by rw [e_]; first | rfl | (rw [Bq19]; rfl), bl47, fun st' h => by rw [e_] at h; cases h⟩
 have c47 := Bq47.symm.trans hq
 clear hq
 have h24 : ¬ (x.kind = 2 ∨ x.kind = 4) := by have h := c47; rw [Bq42, Bq46] at h; simpa using h
 refine wp_skip (wp_seq ?_)
 refine rP [.bool false, .bool false] 2 0 s43 (.c (qq 5 y5) (.c (qe 0 52) .nil)) fun A w49 T => ?_
 have y4 := T.u 1 4
 have d49 := T.e d43
 have bl49 := T.b bl43
 clear T
 refine tail_nil (wp_ret ?_)
 repeat (first | refine in_ret ?_ | refine then_ret ?_)
 have e_ : Evt.takeF [] x.kind = none := by rw [Evt.takeF_x _ _ hn0 hn1 hn3 hn5, if_pos (show ([] : List (Int × Int)).isEmpty = true from rfl)]
 exact ret1 rfl d49 y4 ⟨by rw [e_]; first | rfl | (rw [Bq19]; rfl), bl49, fun st' h => by rw [e_] at h; cases h⟩
set_option maxHeartbeats 4000000 in
set_option maxRecDepth 100000 in
theorem Evt.take_top (g : Nat) (o : Value) (x : Evt.Ev) (pre : List (Int × Int)) (t : Int × Int) (w W0 : World) (hB : Below w.heap.size w W0) (hlo : w.heap.size ≤ g) (hk : W0.heap[g]? = some (.cells #[o] 77 (0, 0))) (hO : W0.ownsRow w.heap.size 93 2 o (pre ++ [t]).length (Evt.opens (pre ++ [t]))) (hst : (pre ++ [t]).length ≤ 100000) (ht : 0 ≤ t.1) : Calls Tryd.prog 36 #[.pointer (some ⟨g, 0, none⟩), .agg #[.int .i64 x.kind, .string x.anchor, .string x.tag, .string x.text, .bool x.plain]] W0 fun e w' => e = .returned (.bool (Evt.takeF (pre ++ [t]) x.kind).isSome) ∧ Below w.heap.size w w' ∧ ∀ st', Evt.takeF (pre ++ [t]) x.kind = some st' → ∃ o', Evt.Is w.heap.size W0 g o st' w' o' := by
 refine enter Tryd.func36 rfl fun A d0 s0 v0 => ?_
 have s0 : A.tmps.size = 53 := s0
 have y0 : A.eval (.tmp 0) = .pointer (some ⟨g, 0, none⟩) := v0 0 (by simp)
 have y1 : A.eval (.tmp 1) = .agg #[.int .i64 x.kind, .string x.anchor, .string x.tag, .string x.text, .bool x.plain] := v0 1 (by simp)
 clear v0
 refine wp_seq (regionS (still [fun u_ => True, fun u_ => u_ = .bool false]) (fun i => ([.alloc 30 #[.int .i64 x.kind, .string x.anchor, .string x.tag, .string x.text, .bool x.plain], .plain] : List Kind).getD i .plain) 2 0 53 s0 rfl (by kernel_rfl) (still_stable _) (Or.inr (still_any _)) ?_ ?_)
 ·refine .c ?_ (.c ?_ (.nil))
  ·refine made rfl (by simp) rfl (fun a w' hd ho => ?_) (fun _ _ => trivial)
   exact run_box rfl ((ho 1 (by kernel_rfl)).trans y1)
  exact pq fun a w' H => ra (rfl : a.eval (.const (.bool false)) = .bool false)
 intro A w1 T
 have y0 := T.r1 y0
 have kg_ := (T.below.block _ (Array.getElem?_eq_some_iff.1 hk).1).trans hk
 have lg_ := Nat.lt_of_lt_of_le (Array.getElem?_eq_some_iff.1 hk).1 T.below.size
 have Fo_ := Reads.below (Reads.of_own hO) T.below
 have Oo_1 := T.g hO
 obtain ⟨g3_1, y3, rg3_1, lg3_1_, kg3_1_⟩ := T.al 0 3 _ _ rfl rfl rfl (by kernel_rfl)
 have d1 := T.e d0
 have s1 := T.z s0
 have bl1 := hB.trans (T.below.mono hB.size)
 have XA_1 := Aft.step (Aft.refl (Nst g o) W0) T.below
 clear T
 refine tail_nil (wp_seq ?_)
 refine (wpIn_wide (n := 1)).1 (EngI.regionS EngI.free_wide (still [fun u_ => u_ = .pointer (some ⟨g, 0, none⟩)]) (fun _ => .plain) 1 6 53 s1 rfl (by kernel_rfl) (still_stable _) (Or.inr (still_any _)) (by kernel_rfl) ?_ ?_)
 ·refine .c ?_ (.cons (fun h => absurd h (by decide)) (.cons (fun h => absurd h (by decide)) (.cons (fun h => absurd h (by decide)) (.cons (fun h => absurd h (by decide)) (.cons (fun h => absurd h (by decide)) (.cons (fun h => absurd h (by decide)) (.nil)))))))
  ·exact qq 0 y0
 intro A w2 T
 have ⟨y0, y3⟩ := T.r2 y0 y3
 have ⟨kg_, lg_⟩ := T.y kg_ lg_
 have ⟨kg3_1_, lg3_1_⟩ := T.y kg3_1_ lg3_1_
 have Fo_ := T.f Fo_
 have Oo_2 := T.g Oo_1
 have y6 : A.eval (.tmp 6) = .pointer (some ⟨g, 0, none⟩) := T.done 0 6 rfl rfl
 have ⟨d2, s2, bl2⟩ := T.h d1 s1 bl1
 have XA_2 := Aft.step XA_1 T.below
 clear T
 refine EngI.tail_call EngI.free_wide Tryd.func66 (by kernel_rfl) (by kernel_rfl) rfl rfl rfl rfl #[.pointer (some ⟨g, 0, none⟩)] (m1 y6) s2 rfl (R := fun v w' => v = elemPtr o (pre.length * 2) ∧ Below w2.heap.size w2 w') ((Evt.last_top g o w.heap.size pre t _ kg_ Oo_2).mono ?_) fun v_3 w3 A R d3 s3 y7 hr => ?_
 ·rintro e w1 ⟨rfl, h1⟩; exact ⟨_, rfl, rfl, h1⟩
 have ⟨y0, y3⟩ := k2 hr y0 y3
 have d3 := d3.trans d2
 obtain ⟨ev_3, b_3⟩ := R
 have kg_ := (b_3.block _ lg_).trans kg_
 have lg_ := Nat.lt_of_lt_of_le lg_ b_3.size
 have kg3_1_ := (b_3.block _ lg3_1_).trans kg3_1_
 have lg3_1_ := Nat.lt_of_lt_of_le lg3_1_ b_3.size
 have Fo_ := Reads.below Fo_ b_3
 have Oo_3 := own_below Oo_2 b_3
 have XA_3 := Aft.step XA_2 b_3
 have bl3 := bl2.trans (b_3.mono bl2.size)
 rw [ev_3] at y7
 refine EngI.tw (w1 := w3) (v := elemPtr o (pre.length * 2)) rfl ?_ s3 d3 ?_
 ·exact run_nil_el rfl y7 Fo_ (by have h_ : pre.length < (pre ++ [t]).length := (by simp); omega)
 intro A d4 s4 y8 hr
 have ⟨y0, y3⟩ := k2 hr y0 y3
 refine EngI.tw (w1 := w3) (v := elemPtr o (pre.length * 2 + 0)) rfl ?_ s4 d4 ?_
 ·exact run_field_el rfl Tryd.underlying93 0 (by kernel_rfl) y8 Fo_ (by have h_ : pre.length < (pre ++ [t]).length := (by simp); omega)
 intro A d5 s5 y9 hr
 have ⟨y0, y3⟩ := k2 hr y0 y3
 refine EngI.tw (w1 := w3) (v := .int .i64 t.1) rfl ?_ s5 d5 ?_
 ·exact run_load_el (.int .i64 t.1) rfl y9 Fo_ (Evt.top_0 pre t) (by kernel_rfl)
 intro A d6 s6 y10 hr
 have ⟨y0, y3⟩ := k2 hr y0 y3
 refine EngI.tw (w1 := w3) (v := .bool (decide (t.1 ≥ 0))) rfl (ok (.int .i64 0) y10) s6 d6 ?_
 intro A d7 s7 hv hr
 have ⟨y0, y3⟩ := k2 hr y0 y3
 have y11 : A.eval (.tmp 11) = .bool true := hv.trans (congrArg Value.bool (decide_eq_true ht : _ = true))
 clear hv hr
 refine EngI.tw rfl (ra y11) s7 d7 fun A d8 s8 y5 hr => ?_
 have ⟨y0, y3⟩ := k2 hr y0 y3
 refine EngI.tail_nil (wp_seq (wp_seq ?_))
 refine rP [.pointer (some ⟨g3_1, 0, none⟩), .int .i64 x.kind] 2 0 s8 (.c (pq fun a w' H => fb Tryd.underlying30 0 (H.q 3 y3)) (.c (pq fun a w' H => lb (H.d 0 12) (H.x lg3_1_ kg3_1_)) .nil)) fun A w9 T => ?_
 have ⟨y0, y3, y5⟩ := T.r3 y0 y3 y5
 have ⟨kg_, lg_⟩ := T.y kg_ lg_
 have ⟨kg3_1_, lg3_1_⟩ := T.y kg3_1_ lg3_1_
 have Fo_ := T.f Fo_
 have Oo_9 := T.g Oo_3
 have y13 := T.u 1 13
 have ⟨d9, s9, bl9⟩ := T.h d8 s8 bl3
 have XA_9 := Aft.step XA_3 T.below
 clear T
 refine tail_nil (wp_block ?_)
 refine wp_seq ?_
 obtain ⟨q15, Bq15⟩ := nm (x.kind == 0)
 refine rP [.bool q15, .bool q15] 2 0 s9 (.c (pv fun a w' H => vr (bb Bq15) (ok (.int .i64 0) (H.q 13 y13))) (.c (qe 0 15) .nil)) fun A w10 T => ?_
 have ⟨y0, y3, y5, y13⟩ := T.r4 y0 y3 y5 y13
 have ⟨kg_, lg_⟩ := T.y kg_ lg_
 have ⟨kg3_1_, lg3_1_⟩ := T.y kg3_1_ lg3_1_
 have Fo_ := T.f Fo_
 have Oo_10 := T.g Oo_9
 have y14 := T.u 1 14
 have ⟨d10, s10, bl10⟩ := T.h d9 s9 bl9
 have XA_10 := Aft.step XA_9 T.below
 clear T
 refine tail_nil (wp_cond_split y14 (fun hq => ?_) (fun hq => ?_))
 ·
  have c14 := Bq15.symm.trans hq
  clear hq
  have hk_ : x.kind = 0 := by simpa using c14
  refine wp_seq ((wpIn_wide (n := 1)).1 ?_)
  refine EngI.regionS EngI.free_wide (still [fun u_ => u_ = .pointer (some ⟨g, 0, none⟩)]) (fun _ => .plain) 1 1 53 s10 rfl (by kernel_rfl) (still_stable _) (Or.inr (still_any _)) (by kernel_rfl) ?_ ?_
  ·refine .c ?_ (.cons (fun h => absurd h (by decide)) (.nil))
   ·exact qq 0 y0
  intro A w12 T
  have y5 := T.r1 y5
  have kg_ := T.x lg_ kg_
  have Oo_12 := T.g Oo_10
  have y16 : A.eval (.tmp 16) = .pointer (some ⟨g, 0, none⟩) := T.done 0 16 rfl rfl
  have ⟨d12, s12, bl12⟩ := T.h d10 s10 bl10
  clear T
  refine EngI.tail_call EngI.free_wide Tryd.func67 (by kernel_rfl) (by kernel_rfl) rfl rfl rfl rfl #[.pointer (some ⟨g, 0, none⟩), .int .i64 0] (m2 y16 ((rfl : A.eval (.const (.int .i64 0)) = .int .i64 0))) s12 rfl (R := fun v w' => ∃ o', Evt.Is w.heap.size w12 g o ((pre ++ [t]) ++ [(0, 0)]) w' o') ((Evt.push_calls g o (pre ++ [t]) 0 w _ bl12 hlo kg_ Oo_12 (by first | exact hst | (simp at hst ⊢; omega))).mono ?_) fun v_13 w13 A R d13 s13 hv hr => ?_
  ·rintro e w1 ⟨v1, o1, rfl, h1⟩; exact ⟨_, rfl, o1, h1⟩
  have y5 := k1 hr y5
  have d13 := d13.trans d12
  clear hv hr
  obtain ⟨o13, I13⟩ := R
  have bl13 := Aft.below I13.aft bl12 (Nat.le_refl _) (Evt.nst_lo hlo Oo_12)
  refine EngI.tail_nil (wp_seq ?_)
  obtain ⟨q19, Bq19⟩ := nm (!true)
  refine rP [.bool true, .bool q19, .bool q19] 3 0 s13 (.c (qq 5 y5) (.c (pv fun a w' H => vr (bb Bq19) (run_not rfl (H.d 0 18))) (.c (qe 1 19) .nil))) fun A w14 T => ?_
  have y4 := T.u 2 4
  have d14 := T.e d13
  have bl14 := T.b bl13
  clear T
  refine tail_nil (wp_ret ?_)
  repeat (first | refine in_ret ?_ | refine then_ret ?_)
  have e_ : Evt.takeF (pre ++ [t]) x.kind = none := by rw [hk_, Evt.takeF_0, if_neg (by simp)]
  exact ret1 rfl d14 y4 ⟨by rw [e_]; first | rfl | (rw [Bq19]; rfl), bl14, fun st' h => by rw [e_] at h; cases h⟩
 have c14 := Bq15.symm.trans hq
 clear hq
 have hn0 : x.kind ≠ 0 := by simpa using c14
 refine wp_seq ?_
 obtain ⟨q21, Bq21⟩ := nm (x.kind == 1)
 refine rP [.bool q21, .bool q21] 2 0 s10 (.c (pv fun a w' H => vr (bb Bq21) (ok (.int .i64 1) (H.q 13 y13))) (.c (qe 0 21) .nil)) fun A w16 T => ?_
 have ⟨y0, y3, y5, y13⟩ := T.r4 y0 y3 y5 y13
 have ⟨kg_, lg_⟩ := T.y kg_ lg_
 have ⟨kg3_1_, lg3_1_⟩ := T.y kg3_1_ lg3_1_
 have Fo_ := T.f Fo_
 have Oo_16 := T.g Oo_10
 have y20 := T.u 1 20
 have ⟨d16, s16, bl16⟩ := T.h d10 s10 bl10
 have XA_16 := Aft.step XA_10 T.below
 clear T
 refine tail_nil (wp_cond_split y20 (fun hq => ?_) (fun hq => ?_))
 ·
  have c20 := Bq21.symm.trans hq
  clear hq
  have hk_ : x.kind = 1 := by simpa using c20
  refine wp_seq ((wpIn_wide (n := 1)).1 ?_)
  refine EngI.regionS EngI.free_wide (still [fun u_ => u_ = .pointer (some ⟨g, 0, none⟩)]) (fun _ => .plain) 1 2 53 s16 rfl (by kernel_rfl) (still_stable _) (Or.inr (still_any _)) (by kernel_rfl) ?_ ?_
  ·refine .c ?_ (.cons (fun h => absurd h (by decide)) (.cons (fun h => absurd h (by decide)) (.nil)))
   ·exact qq 0 y0
  intro A w18 T
  have kg_ := T.x lg_ kg_
  have Oo_18 := T.g Oo_16
  have y22 : A.eval (.tmp 22) = .pointer (some ⟨g, 0, none⟩) := T.done 0 22 rfl rfl
  have ⟨d18, s18, bl18⟩ := T.h d16 s16 bl16
  have XA_18 := Aft.step XA_16 T.below
  clear T
  refine EngI.tail_call EngI.free_wide Tryd.func68 (by kernel_rfl) (by kernel_rfl) rfl rfl rfl rfl #[.pointer (some ⟨g, 0, none⟩), .int .i64 0, .func (.func 69) #[] #[]] (m3 y22 ((rfl : A.eval (.const (.int .i64 0)) = .int .i64 0)) ((rfl : A.eval (.func 69) = .func (.func 69) #[] #[]))) s18 rfl (R := fun v w' => v = .bool (Evt.pop (pre ++ [t]) 0 (fun m => m == 1)).isSome ∧ Below w.heap.size w w' ∧ ∀ st', Evt.pop (pre ++ [t]) 0 (fun m => m == 1) = some st' → ∃ o', Evt.Is w.heap.size w18 g o st' w' o') ((Evt.pop69_top g o 0 pre t w _ bl18 hlo kg_ Oo_18).mono ?_) fun v_19 w19 A R d19 s19 y23 hr => ?_
  ·rintro e w1 ⟨rfl, h1, h2⟩; exact ⟨_, rfl, rfl, h1, h2⟩
  have d19 := d19.trans d18
  obtain ⟨ev_19, bl19, hP0_19⟩ := R
  have hP19 : ∀ st', Evt.pop (pre ++ [t]) 0 (fun m => m == 1) = some st' → ∃ o', Evt.Is w.heap.size W0 g o st' w19 o' := fun st' h => (hP0_19 st' h).imp fun _ i => i.from XA_18
  rw [ev_19] at y23
  refine EngI.tw rfl (ra y23) s19 d19 fun A d20 s20 y4 hr => EngI.tail_nil (wp_ret ?_)
  repeat (first | refine in_ret ?_ | refine then_ret ?_)
  have e_ : Evt.takeF (pre ++ [t]) x.kind = Evt.pop (pre ++ [t]) 0 (fun m => m == 1) := by rw [hk_]; exact Evt.takeF_1 _
  exact ret1 rfl d20 y4 ⟨by rw [e_], bl19, by rw [e_]; exact hP19⟩
 have c20 := Bq21.symm.trans hq
 clear hq
 have hn1 : x.kind ≠ 1 := by simpa using c20
 refine wp_seq ?_
 obtain ⟨q25, Bq25⟩ := nm (x.kind == 3)
 refine rP [.bool q25, .bool q25] 2 0 s16 (.c (pv fun a w' H => vr (bb Bq25) (ok (.int .i64 3) (H.q 13 y13))) (.c (qe 0 25) .nil)) fun A w22 T => ?_
 have ⟨y0, y3, y5, y13⟩ := T.r4 y0 y3 y5 y13
 have ⟨kg_, lg_⟩ := T.y kg_ lg_
 have ⟨kg3_1_, lg3_1_⟩ := T.y kg3_1_ lg3_1_
 have Fo_ := T.f Fo_
 have Oo_22 := T.g Oo_16
 have y24 := T.u 1 24
 have ⟨d22, s22, bl22⟩ := T.h d16 s16 bl16
 have XA_22 := Aft.step XA_16 T.below
 clear T
 refine tail_nil (wp_cond_split y24 (fun hq => ?_) (fun hq => ?_))
 ·
  have c24 := Bq25.symm.trans hq
  clear hq
  have hk_ : x.kind = 3 := by simpa using c24
  refine wp_seq ((wpIn_wide (n := 1)).1 ?_)
  refine EngI.regionS EngI.free_wide (still [fun u_ => u_ = .pointer (some ⟨g, 0, none⟩)]) (fun _ => .plain) 1 2 53 s22 rfl (by kernel_rfl) (still_stable _) (Or.inr (still_any _)) (by kernel_rfl) ?_ ?_
  ·refine .c ?_ (.cons (fun h => absurd h (by decide)) (.cons (fun h => absurd h (by decide)) (.nil)))
   ·exact qq 0 y0
  intro A w24 T
  have kg_ := T.x lg_ kg_
  have Oo_24 := T.g Oo_22
  have y26 : A.eval (.tmp 26) = .pointer (some ⟨g, 0, none⟩) := T.done 0 26 rfl rfl
  have ⟨d24, s24, bl24⟩ := T.h d22 s22 bl22
  have XA_24 := Aft.step XA_22 T.below
  clear T
  refine EngI.tail_call EngI.free_wide Tryd.func68 (by kernel_rfl) (by kernel_rfl) rfl rfl rfl rfl #[.pointer (some ⟨g, 0, none⟩), .int .i64 2, .func (.func 70) #[] #[]] (m3 y26 ((rfl : A.eval (.const (.int .i64 2)) = .int .i64 2)) ((rfl : A.eval (.func 70) = .func (.func 70) #[] #[]))) s24 rfl (R := fun v w' => v = .bool (Evt.pop (pre ++ [t]) 2 (fun _ => true)).isSome ∧ Below w.heap.size w w' ∧ ∀ st', Evt.pop (pre ++ [t]) 2 (fun _ => true) = some st' → ∃ o', Evt.Is w.heap.size w24 g o st' w' o') ((Evt.pop70_top g o 2 pre t w _ bl24 hlo kg_ Oo_24).mono ?_) fun v_25 w25 A R d25 s25 y27 hr => ?_
  ·rintro e w1 ⟨rfl, h1, h2⟩; exact ⟨_, rfl, rfl, h1, h2⟩
  have d25 := d25.trans d24
  obtain ⟨ev_25, bl25, hP0_25⟩ := R
  have hP25 : ∀ st', Evt.pop (pre ++ [t]) 2 (fun _ => true) = some st' → ∃ o', Evt.Is w.heap.size W0 g o st' w25 o' := fun st' h => (hP0_25 st' h).imp fun _ i => i.from XA_24
  rw [ev_25] at y27
  refine EngI.tw rfl (ra y27) s25 d25 fun A d26 s26 y4 hr => EngI.tail_nil (wp_ret ?_)
  repeat (first | refine in_ret ?_ | refine then_ret ?_)
  have e_ : Evt.takeF (pre ++ [t]) x.kind = Evt.pop (pre ++ [t]) 2 (fun _ => true) := by rw [hk_]; exact Evt.takeF_3 _
  exact ret1 rfl d26 y4 ⟨by rw [e_], bl25, by rw [e_]; exact hP25⟩
 have c24 := Bq25.symm.trans hq
 clear hq
 have hn3 : x.kind ≠ 3 := by simpa using c24
 refine wp_seq ?_
 obtain ⟨q29, Bq29⟩ := nm (x.kind == 5)
 refine rP [.bool q29, .bool q29] 2 0 s22 (.c (pv fun a w' H => vr (bb Bq29) (ok (.int .i64 5) (H.q 13 y13))) (.c (qe 0 29) .nil)) fun A w28 T => ?_
 have ⟨y0, y3, y5⟩ := T.r3 y0 y3 y5
 have ⟨kg_, lg_⟩ := T.y kg_ lg_
 have ⟨kg3_1_, lg3_1_⟩ := T.y kg3_1_ lg3_1_
 have Fo_ := T.f Fo_
 have Oo_28 := T.g Oo_22
 have y28 := T.u 1 28
 have ⟨d28, s28, bl28⟩ := T.h d22 s22 bl22
 have XA_28 := Aft.step XA_22 T.below
 clear T
 refine tail_nil (wp_cond_split y28 (fun hq => ?_) (fun hq => ?_))
 ·
  have c28 := Bq29.symm.trans hq
  clear hq
  have hk_ : x.kind = 5 := by simpa using c28
  refine wp_seq ((wpIn_wide (n := 1)).1 ?_)
  refine EngI.regionS EngI.free_wide (still [fun u_ => u_ = .pointer (some ⟨g, 0, none⟩)]) (fun _ => .plain) 1 2 53 s28 rfl (by kernel_rfl) (still_stable _) (Or.inr (still_any _)) (by kernel_rfl) ?_ ?_
  ·refine .c ?_ (.cons (fun h => absurd h (by decide)) (.cons (fun h => absurd h (by decide)) (.nil)))
   ·exact qq 0 y0
  intro A w30 T
  have kg_ := T.x lg_ kg_
  have Oo_30 := T.g Oo_28
  have y30 : A.eval (.tmp 30) = .pointer (some ⟨g, 0, none⟩) := T.done 0 30 rfl rfl
  have ⟨d30, s30, bl30⟩ := T.h d28 s28 bl28
  have XA_30 := Aft.step XA_28 T.below
  clear T
  refine EngI.tail_call EngI.free_wide Tryd.func68 (by kernel_rfl) (by kernel_rfl) rfl rfl rfl rfl #[.pointer (some ⟨g, 0, none⟩), .int .i64 4, .func (.func 71) #[] #[]] (m3 y30 ((rfl : A.eval (.const (.int .i64 4)) = .int .i64 4)) ((rfl : A.eval (.func 71) = .func (.func 71) #[] #[]))) s30 rfl (R := fun v w' => v = .bool (Evt.pop (pre ++ [t]) 4 Evt.even).isSome ∧ Below w.heap.size w w' ∧ ∀ st', Evt.pop (pre ++ [t]) 4 Evt.even = some st' → ∃ o', Evt.Is w.heap.size w30 g o st' w' o') ((Evt.pop71_top g o 4 pre t w _ bl30 hlo kg_ Oo_30).mono ?_) fun v_31 w31 A R d31 s31 y31 hr => ?_
  ·rintro e w1 ⟨rfl, h1, h2⟩; exact ⟨_, rfl, rfl, h1, h2⟩
  have d31 := d31.trans d30
  obtain ⟨ev_31, bl31, hP0_31⟩ := R
  have hP31 : ∀ st', Evt.pop (pre ++ [t]) 4 Evt.even = some st' → ∃ o', Evt.Is w.heap.size W0 g o st' w31 o' := fun st' h => (hP0_31 st' h).imp fun _ i => i.from XA_30
  rw [ev_31] at y31
  refine EngI.tw rfl (ra y31) s31 d31 fun A d32 s32 y4 hr => EngI.tail_nil (wp_ret ?_)
  repeat (first | refine in_ret ?_ | refine then_ret ?_)
  have e_ : Evt.takeF (pre ++ [t]) x.kind = Evt.pop (pre ++ [t]) 4 Evt.even := by rw [hk_]; exact Evt.takeF_5 _
  exact ret1 rfl d32 y4 ⟨by rw [e_], bl31, by rw [e_]; exact hP31⟩
 have c28 := Bq29.symm.trans hq
 clear hq
 have hn5 : x.kind ≠ 5 := by simpa using c28
 refine wp_skip (wp_seq ?_)
 refine (wpIn_wide (n := 1)).1 (EngI.regionS EngI.free_wide (still [fun u_ => u_ = .pointer (some ⟨g, 0, none⟩)]) (fun _ => .plain) 1 8 53 s28 rfl (by kernel_rfl) (still_stable _) (Or.inr (still_any _)) (by kernel_rfl) ?_ ?_)
 ·refine .c ?_ (.cons (fun h => absurd h (by decide)) (.cons (fun h => absurd h (by decide)) (.cons (fun h => absurd h (by decide)) (.cons (fun h => absurd h (by decide)) (.cons (fun h => absurd h (by decide)) (.cons (fun h => absurd h (by decide)) (.cons (fun h => absurd h (by decide)) (.cons (fun h => absurd h (by decide)) (.nil)))))))))
  ·exact qq 0 y0
 intro A w34 T
 have ⟨y0, y3, y5⟩ := T.r3 y0 y3 y5
 have ⟨kg_, lg_⟩ := T.y kg_ lg_
 have ⟨kg3_1_, lg3_1_⟩ := T.y kg3_1_ lg3_1_
 have Fo_ := T.f Fo_
 have Oo_34 := T.g Oo_28
 have y32 : A.eval (.tmp 32) = .pointer (some ⟨g, 0, none⟩) := T.done 0 32 rfl rfl
 have ⟨d34, s34, bl34⟩ := T.h d28 s28 bl28
 have XA_34 := Aft.step XA_28 T.below
 clear T
 refine EngI.tail_call EngI.free_wide Tryd.func66 (by kernel_rfl) (by kernel_rfl) rfl rfl rfl rfl #[.pointer (some ⟨g, 0, none⟩)] (m1 y32) s34 rfl (R := fun v w' => v = elemPtr o (pre.length * 2) ∧ Below w34.heap.size w34 w') ((Evt.last_top g o w.heap.size pre t _ kg_ Oo_34).mono ?_) fun v_35 w35 A R d35 s35 y33 hr => ?_
 ·rintro e w1 ⟨rfl, h1⟩; exact ⟨_, rfl, rfl, h1⟩
 have ⟨y0, y3, y5⟩ := k3 hr y0 y3 y5
 have d35 := d35.trans d34
 obtain ⟨ev_35, b_35⟩ := R
 have kg_ := (b_35.block _ lg_).trans kg_
 have lg_ := Nat.lt_of_lt_of_le lg_ b_35.size
 have kg3_1_ := (b_35.block _ lg3_1_).trans kg3_1_
 have lg3_1_ := Nat.lt_of_lt_of_le lg3_1_ b_35.size
 have Fo_ := Reads.below Fo_ b_35
 have Oo_35 := own_below Oo_34 b_35
 have XA_35 := Aft.step XA_34 b_35
 have bl35 := bl34.trans (b_35.mono bl34.size)
 rw [ev_35] at y33
 refine EngI.tw (w1 := w35) (v := elemPtr o (pre.length * 2)) rfl ?_ s35 d35 ?_
 ·exact run_nil_el rfl y33 Fo_ (by have h_ : pre.length < (pre ++ [t]).length := (by simp); omega)
 intro A d36 s36 y34 hr
 have ⟨y0, y3, y5, y33⟩ := k4 hr y0 y3 y5 y33
 refine EngI.tw (w1 := w35) (v := elemPtr o (pre.length * 2 + 1)) rfl ?_ s36 d36 ?_
 ·exact run_field_el rfl Tryd.underlying93 1 (by kernel_rfl) y34 Fo_ (by have h_ : pre.length < (pre ++ [t]).length := (by simp); omega)
 intro A d37 s37 y35 hr
 have ⟨y0, y3, y5, y33⟩ := k4 hr y0 y3 y5 y33
 refine EngI.tw (w1 := w35) (v := .int .i64 t.2) rfl ?_ s37 d37 ?_
 ·exact run_load_el (.int .i64 t.2) rfl y35 Fo_ (Evt.top_1 pre t) (by kernel_rfl)
 intro A d38 s38 y36 hr
 have ⟨y0, y3, y5, y33⟩ := k4 hr y0 y3 y5 y33
 refine EngI.tw (w1 := w35) (v := .int .i64 (IntKind.i64.wrap (t.2 + 1))) rfl (ok (.int .i64 1) y36) s38 d38 ?_
 intro A d39 s39 y37 hr
 have ⟨y0, y3, y5, y33⟩ := k4 hr y0 y3 y5 y33
 refine EngI.tw (w1 := w35) (v := elemPtr o (pre.length * 2)) rfl ?_ s39 d39 ?_
 ·exact run_nil_el rfl y33 Fo_ (by have h_ : pre.length < (pre ++ [t]).length := (by simp); omega)
 intro A d40 s40 y38 hr
 have ⟨y0, y3, y5, y37⟩ := k4 hr y0 y3 y5 y37
 refine EngI.tw (w1 := w35) (v := elemPtr o (pre.length * 2 + 1)) rfl ?_ s40 d40 ?_
 ·exact run_field_el rfl Tryd.underlying93 1 (by kernel_rfl) y38 Fo_ (by have h_ : pre.length < (pre ++ [t]).length := (by simp); omega)
 intro A d41 s41 y39 hr
 have ⟨y0, y3, y5, y37⟩ := k4 hr y0 y3 y5 y37
 refine EngG.tail_exs EngI.free_wide rfl rfl rfl rfl (run_store_own (j := pre.length * 2 + 1) (u := .int .i64 (IntKind.i64.wrap (t.2 + 1))) rfl y39 y37 Oo_35 (by have h_ : pre.length < (pre ++ [t]).length := (by simp); omega) (by kernel_rfl) (by rfl)) fun w42 R => ?_
 obtain ⟨O_42, G_42⟩ := R
 have kg_ := (G_42.block _ lg_ (own_ne Oo_35 kg_ rfl)).trans kg_
 have lg_ := Nat.lt_of_lt_of_le lg_ G_42.size
 have kg3_1_ := (G_42.block _ lg3_1_ (own_ne Oo_35 kg3_1_ rfl)).trans kg3_1_
 have lg3_1_ := Nat.lt_of_lt_of_le lg3_1_ G_42.size
 have XA_42 := Aft.grown XA_35 G_42 (fun b e _ => Or.inr e)
 have bl42 := bl35.grown G_42 bl35.size (fun j hj => (ownB Oo_35 hj.symm).1)
 have Oo_42 := Evt.own_more O_42
 refine EngI.tail_nil (wp_seq (wp_seq ?_))
 obtain ⟨q42, Bq42⟩ := nm (x.kind == 2)
 obtain ⟨q46, Bq46⟩ := nm (x.kind == 4)
 obtain ⟨q47, Bq47⟩ := nm (q42 || q46)
 refine rP [.pointer (some ⟨g3_1, 0, none⟩), .int .i64 x.kind, .bool q42, .bool q42, bif (q42 == false) then (.pointer (some ⟨g3_1, 0, none⟩)) else undef, bif (q42 == false) then (.int .i64 x.kind) else undef, bif (q42 == false) then (.bool q46) else undef, .bool q47] 8 0 s41 (.c (pq fun a w' H => fb Tryd.underlying30 0 (H.q 3 y3)) (.c (pq fun a w' H => lb (H.d 0 40) (H.x lg3_1_ kg3_1_)) (.c (pv fun a w' H => vr (bb Bq42) (ok (.int .i64 2) (H.d 1 41))) (.c (qd 2 42) (.c (g1 3 43 q42 fun hG a w' H => vr (off' hG rfl) (fb Tryd.underlying30 0 (H.q 3 y3))) (.c (g1 3 43 q42 fun hG a w' H => vr (off' hG rfl) (lb (on (H.d 4 44) hG) (H.x lg3_1_ kg3_1_))) (.c (g1 3 43 q42 fun hG a w' H => vr (v := .bool (x.kind == 4)) (off' hG (by rw [Bq46])) (ok (.int .i64 4) (on (H.d 5 45) hG))) (.c (pv fun a w' H => vr (bb Bq47) (run_or rfl rfl (G := true) (H.d 3 43) (fun hb => (on (H.d 6 46) (mk1 hb))))) .nil)))))))) fun A w43 T => ?_
 have ⟨y0, y3, y5⟩ := T.r3 y0 y3 y5
 have ⟨kg_, lg_⟩ := T.y kg_ lg_
 have ⟨kg3_1_, lg3_1_⟩ := T.y kg3_1_ lg3_1_
 have Oo_43 := T.g Oo_42
 have y47 := T.u 7 47
 have ⟨d43, s43, bl43⟩ := T.h d41 s41 bl42
 have XA_43 := Aft.step XA_42 T.below
 clear T
 refine tail_nil (wp_cond_split y47 (fun hq => ?_) (fun hq => ?_))
 ·
  have c47 := Bq47.symm.trans hq
  clear hq
  have h24 : x.kind = 2 ∨ x.kind = 4 := by have h := c47; rw [Bq42, Bq46] at h; simpa using h
  refine (wpIn_wide (n := 1)).1 (EngI.regionS EngI.free_wide (still [fun u_ => u_ = .pointer (some ⟨g, 0, none⟩), fun u_ => u_ = .pointer (some ⟨g3_1, 0, none⟩), fun u_ => u_ = .int .i64 x.kind]) (fun _ => .plain) 3 1 53 s43 rfl (by kernel_rfl) (still_stable _) (Or.inr (still_any _)) (by kernel_rfl) ?_ ?_)
  ·refine .c ?_ (.c ?_ (.c ?_ (.cons (fun h => absurd h (by decide)) (.nil))))
   ·exact qq 0 y0
   ·exact pq fun a w' H => fb Tryd.underlying30 0 (H.q 3 y3)
   exact pq fun a w' H => lb (H.d 1 49) (H.x lg3_1_ kg3_1_)
  intro A w45 T
  have y5 := T.r1 y5
  have kg_ := T.x lg_ kg_
  have Oo_45 := T.g Oo_43
  have y48 : A.eval (.tmp 48) = .pointer (some ⟨g, 0, none⟩) := T.done 0 48 rfl rfl
  have y50 : A.eval (.tmp 50) = .int .i64 x.kind := T.done 2 50 rfl rfl
  have ⟨d45, s45, bl45⟩ := T.h d43 s43 bl43
  have XA_45 := Aft.step XA_43 T.below
  clear T
  refine EngI.tail_call EngI.free_wide Tryd.func67 (by kernel_rfl) (by kernel_rfl) rfl rfl rfl rfl #[.pointer (some ⟨g, 0, none⟩), .int .i64 x.kind] (m2 y48 y50) s45 rfl (R := fun v w' => ∃ o', Evt.Is w.heap.size w45 g o ((pre ++ [(t.1, IntKind.i64.wrap (t.2 + 1))]) ++ [(x.kind, 0)]) w' o') ((Evt.push_calls g o (pre ++ [(t.1, IntKind.i64.wrap (t.2 + 1))]) x.kind w _ bl45 hlo kg_ Oo_45 (by first | exact hst | (simp at hst ⊢; omega))).mono ?_) fun v_46 w46 A R d46 s46 hv hr => ?_
  ·rintro e w1 ⟨v1, o1, rfl, h1⟩; exact ⟨_, rfl, o1, h1⟩
  have y5 := k1 hr y5
  have d46 := d46.trans d45
  clear hv hr
  obtain ⟨o46, I46⟩ := R
  have bl46 := Aft.below I46.aft bl45 (Nat.le_refl _) (Evt.nst_lo hlo Oo_45)
  have XA_46 := Aft.trans XA_45 I46.aft (fun _ _ h => h)
  have kg_ := I46.box
  have lg_ := (Array.getElem?_eq_some_iff.1 kg_).1
  have Oo_46 := I46.own
  refine EngI.tail_nil (wp_seq ?_)
  refine rP [.bool true, .bool true] 2 0 s46 (.c (qq 5 y5) (.c (qe 0 52) .nil)) fun A w47 T => ?_
  have kg_ := T.x lg_ kg_
  have Oo46_47 := T.g Oo_46
  have y4 := T.u 1 4
  have d47 := T.e d46
  have bl47 := T.b bl46
  have XA_47 := Aft.step XA_46 T.below
  clear T
  refine tail_nil (wp_ret ?_)
  repeat (first | refine in_ret ?_ | refine then_ret ?_)
  have e_ : Evt.takeF (pre ++ [t]) x.kind = some ((pre ++ [(t.1, IntKind.i64.wrap (t.2 + 1))]) ++ [(x.kind, 0)]) := by rw [Evt.takeF_x _ _ hn0 hn1 hn3 hn5, if_neg (by simp), Evt.more_snoc, if_pos h24]
  exact ret1 rfl d47 y4 ⟨by rw [e_]; first | rfl | (rw [Bq19]; rfl), bl47, fun st' h => by rw [e_] at h; cases h; exact ⟨_, kg_, Oo46_47, XA_47⟩⟩
 have c47 := Bq47.symm.trans hq
 clear hq
 have h24 : ¬ (x.kind = 2 ∨ x.kind = 4) := by have h := c47; rw [Bq42, Bq46] at h; simpa using h
 refine wp_skip (wp_seq ?_)
 refine rP [.bool true, .bool true] 2 0 s43 (.c (qq 5 y5) (.c (qe 0 52) .nil)) fun A w49 T => ?_
 have kg_ := T.x lg_ kg_
 have Oo_49 := T.g Oo_43
 have y4 := T.u 1 4
 have d49 := T.e d43
 have bl49 := T.b bl43
 have XA_49 := Aft.step XA_43 T.below
 clear T
 refine tail_nil (wp_ret ?_)
 repeat (first | refine in_ret ?_ | refine then_ret ?_)
 have e_ : Evt.takeF (pre ++ [t]) x.kind = some (pre ++ [(t.1, IntKind.i64.wrap (t.2 + 1))]) := by rw [Evt.takeF_x _ _ hn0 hn1 hn3 hn5, if_neg (by simp), Evt.more_snoc, if_neg h24]
 exact ret1 rfl d49 y4 ⟨by rw [e_]; first | rfl | (rw [Bq19]; rfl), bl49, fun st' h => by rw [e_] at h; cases h; exact ⟨_, kg_, Oo_49, XA_49⟩⟩
end Go.Proofs.YtgnmjaacnmkgnaaDoor.X
end
section
namespace Go.Proofs.YtgnmjaacnmkgnaaDoor.X
open Go.RowKit Go.Shelf Go.Proofs Go.Proofs.YtgnmjaacnmkgnaaDoorW.PrintWords Go.Proofs.YtgnmjaacnmkgnaaDoorW.PrintLast Go.Proofs.YtgnmjaacnmkgnaaDoorW.PrintMore Go.Proofs.Eng
set_option linter.unusedVariables false
set_option linter.unusedSimpArgs false
attribute [local go_sem] max2_int min2_int max_two min_two
set_option maxHeartbeats 4000000 in
set_option maxRecDepth 100000 in
theorem Evt.node_calls (x : Evt.Ev) (w : World) : Calls Tryd.prog 44 #[.agg #[.int .i64 x.kind, .string x.anchor, .string x.tag, .string x.text, .bool x.plain]] w fun e w' => e = .returned (.bool (Evt.isNode x.kind)) ∧ Below w.heap.size w w' := by
 refine enter Tryd.func44 rfl fun A d0 s0 v0 => ?_
 have s0 : A.tmps.size = 16 := s0
 have y0 : A.eval (.tmp 0) = .agg #[.int .i64 x.kind, .string x.anchor, .string x.tag, .string x.text, .bool x.plain] := v0 0 (by simp)
 clear v0
 have bl0 : Below w.heap.size w w := Below.refl _ _
 refine wp_seq (regionS (still [fun u_ => True, fun u_ => u_ = .bool false]) (fun i => ([.alloc 30 #[.int .i64 x.kind, .string x.anchor, .string x.tag, .string x.text, .bool x.plain], .plain] : List Kind).getD i .plain) 2 0 16 s0 rfl (by kernel_rfl) (still_stable _) (Or.inr (still_any _)) ?_ ?_)
 ·refine .c ?_ (.c ?_ (.nil))
  ·refine made rfl (by simp) rfl (fun a w' hd ho => ?_) (fun _ _ => trivial)
   exact run_box rfl ((ho 0 (by kernel_rfl)).trans y0)
  exact pq fun a w' H => ra (rfl : a.eval (.const (.bool false)) = .bool false)
 intro A w1 T
 obtain ⟨g1_1, y1, rg1_1, lg1_1_, kg1_1_⟩ := T.al 0 1 _ _ rfl rfl rfl (by kernel_rfl)
 have ⟨d1, s1, bl1⟩ := T.h d0 s0 bl0
 clear T
 refine tail_nil (wp_seq ?_)
 obtain ⟨q5, Bq5⟩ := nm (x.kind == 2)
 obtain ⟨q9, Bq9⟩ := nm (x.kind == 4)
 obtain ⟨q10, Bq10⟩ := nm (q5 || q9)
 obtain ⟨q14, Bq14⟩ := nm (x.kind == 6)
 obtain ⟨q15, Bq15⟩ := nm (q10 || q14)
 refine rP [.pointer (some ⟨g1_1, 0, none⟩), .int .i64 x.kind, .bool q5, .bool q5, bif (q5 == false) then (.pointer (some ⟨g1_1, 0, none⟩)) else undef, bif (q5 == false) then (.int .i64 x.kind) else undef, bif (q5 == false) then (.bool q9) else undef, .bool q10, .bool q10, bif (q10 == false) then (.pointer (some ⟨g1_1, 0, none⟩)) else undef, bif (q10 == false) then (.int .i64 x.kind) else undef, bif (q10 == false) then (.bool q14) else undef, .bool q15, .bool q15] 14 0 s1 (.c (pq fun a w' H => fb Tryd.underlying30 0 (H.q 1 y1)) (.c (pq fun a w' H => lb (H.d 0 3) (H.x lg1_1_ kg1_1_)) (.c (pv fun a w' H => vr (bb Bq5) (ok (.int .i64 2) (H.d 1 4))) (.c (qd 2 5) (.c (g1 3 6 q5 fun hG a w' H => vr (off' hG rfl) (fb Tryd.underlying30 0 (H.q 1 y1))) (.c (g1 3 6 q5 fun hG a w' H => vr (off' hG rfl) (lb (on (H.d 4 7) hG) (H.x lg1_1_ kg1_1_))) (.c (g1 3 6 q5 fun hG a w' H => vr (v := .bool (x.kind == 4)) (off' hG (by rw [Bq9])) (ok (.int .i64 4) (on (H.d 5 8) hG))) (.c (pv fun a w' H => vr (bb Bq10) (run_or rfl rfl (G := true) (H.d 3 6) (fun hb => (on (H.d 6 9) (mk1 hb))))) (.c (qd 7 10) (.c (g1 8 11 q10 fun hG a w' H => vr (off' hG rfl) (fb Tryd.underlying30 0 (H.q 1 y1))) (.c (g1 8 11 q10 fun hG a w' H => vr (off' hG rfl) (lb (on (H.d 9 12) hG) (H.x lg1_1_ kg1_1_))) (.c (g1 8 11 q10 fun hG a w' H => vr (v := .bool (x.kind == 6)) (off' hG (by rw [Bq14])) (ok (.int .i64 6) (on (H.d 10 13) hG))) (.c (pv fun a w' H => vr (bb Bq15) (run_or rfl rfl (G := true) (H.d 8 11) (fun hb => (on (H.d 11 14) (mk1 hb))))) (.c (qe 12 15) .nil)))))))))))))) fun A w2 T => ?_
 have y2 := T.u 13 2
 have d2 := T.e d1
 have bl2 := T.b bl1
 clear T
 refine tail_nil (wp_ret ?_)
 repeat (first | refine in_ret ?_ | refine then_ret ?_)
 exact ret1 rfl d2 (y2.trans (by rw [Bq15, Bq14, Bq10, Bq9, Bq5]; rfl)) ⟨rfl, bl2⟩
end Go.Proofs.YtgnmjaacnmkgnaaDoor.X
end
section
namespace Go.Proofs.YtgnmjaacnmkgnaaDoor.X
open Go.RowKit Go.Shelf Go.Proofs Go.Proofs.YtgnmjaacnmkgnaaDoorW.PrintWords Go.Proofs.YtgnmjaacnmkgnaaDoorW.PrintLast Go.Proofs.YtgnmjaacnmkgnaaDoorW.PrintMore Go.Proofs.Eng
set_option linter.unusedVariables false
set_option linter.unusedSimpArgs false
attribute [local go_sem] max2_int min2_int max_two min_two
set_option maxHeartbeats 4000000 in
set_option maxRecDepth 100000 in
theorem Evt.right_calls (x : Evt.Ev) (w : World) (hT : Tabs.Holds w) (hsz : x.text.size ≤ 9223372036854775807) : Calls Tryd.prog 35 #[.agg #[.int .i64 x.kind, .string x.anchor, .string x.tag, .string x.text, .bool x.plain]] w fun e w' => e = .returned (.bool (Evt.rightE x)) ∧ Below w.heap.size w w' := by
 refine enter Tryd.func35 rfl fun A d0 s0 v0 => ?_
 have s0 : A.tmps.size = 80 := s0
 have y0 : A.eval (.tmp 0) = .agg #[.int .i64 x.kind, .string x.anchor, .string x.tag, .string x.text, .bool x.plain] := v0 0 (by simp)
 clear v0
 have bl0 : Below w.heap.size w w := Below.refl _ _
 refine wp_seq (regionS (still [fun u_ => True, fun u_ => u_ = .bool false]) (fun i => ([.alloc 30 #[.int .i64 x.kind, .string x.anchor, .string x.tag, .string x.text, .bool x.plain], .plain] : List Kind).getD i .plain) 2 0 80 s0 rfl (by kernel_rfl) (still_stable _) (Or.inr (still_any _)) ?_ ?_)
 ·refine .c ?_ (.c ?_ (.nil))
  ·refine made rfl (by simp) rfl (fun a w' hd ho => ?_) (fun _ _ => trivial)
   exact run_box rfl ((ho 0 (by kernel_rfl)).trans y0)
  exact pq fun a w' H => ra (rfl : a.eval (.const (.bool false)) = .bool false)
 intro A w1 T
 obtain ⟨g1_1, y1, rg1_1, lg1_1_, kg1_1_⟩ := T.al 0 1 _ _ rfl rfl rfl (by kernel_rfl)
 have ⟨d1, s1, bl1⟩ := T.h d0 s0 bl0
 clear T
 refine tail_nil (wp_seq ?_)
 refine wp_block (wp_seq ?_)
 obtain ⟨q6, Bq6⟩ := nm (decide (x.kind < 0))
 obtain ⟨q10, Bq10⟩ := nm (decide (x.kind > 7))
 obtain ⟨q11, Bq11⟩ := nm (q6 || q10)
 obtain ⟨q15, Bq15⟩ := nm (Lib.validD x.text.data.toList)
 obtain ⟨q16, Bq16⟩ := nm (!q15)
 obtain ⟨q17, Bq17⟩ := nm (q11 || q16)
 refine rS [.pointer (some ⟨g1_1, 0, none⟩), .int .i64 x.kind, .bool q6, .bool q6, bif (q6 == false) then (.pointer (some ⟨g1_1, 0, none⟩)) else undef, bif (q6 == false) then (.int .i64 x.kind) else undef, bif (q6 == false) then (.bool q10) else undef, .bool q11, .bool q11, bif (q11 == false) then (.pointer (some ⟨g1_1, 3, none⟩)) else undef, bif (q11 == false) then (.string x.text) else undef, bif (q11 == false) then (.bool q15) else undef, bif (q11 == false) then (.bool q16) else undef, .bool q17, .bool q17] (fun _ => .plain) 15 0 s1 ?_ ?_
 ·refine .c ?_ (.c ?_ (.c ?_ (.c ?_ (.c ?_ (.c ?_ (.c ?_ (.c ?_ (.c ?_ (.c ?_ (.c ?_ (.c ?_ (.c ?_ (.c ?_ (.c ?_ (.nil)))))))))))))))
  ·exact pq fun a w' H => fb Tryd.underlying30 0 (H.q 1 y1)
  ·exact pq fun a w' H => lb (H.d 0 4) (H.x lg1_1_ kg1_1_)
  ·exact pv fun a w' H => vr (bb Bq6) (ok (.int .i64 0) (H.d 1 5))
  ·exact qd 2 6
  ·exact g1 3 7 q6 fun hG a w' H => vr (off' hG rfl) (fb Tryd.underlying30 0 (H.q 1 y1))
  ·exact g1 3 7 q6 fun hG a w' H => vr (off' hG rfl) (lb (on (H.d 4 8) hG) (H.x lg1_1_ kg1_1_))
  ·exact g1 3 7 q6 fun hG a w' H => vr (v := .bool (decide (x.kind > 7))) (off' hG (by rw [Bq10])) (ok (.int .i64 7) (on (H.d 5 9) hG))
  ·exact pv fun a w' H => vr (bb Bq11) (run_or rfl rfl (G := true) (H.d 3 7) (fun hb => (on (H.d 6 10) (mk1 hb))))
  ·exact qd 7 11
  ·exact g1 8 12 q11 fun hG a w' H => vr (off' hG rfl) (fb Tryd.underlying30 3 (H.q 1 y1))
  ·exact g1 8 12 q11 fun hG a w' H => vr (off' hG rfl) (lb (on (H.d 9 13) hG) (H.x lg1_1_ kg1_1_))
  ·refine g1 8 12 q11 fun hG a w' H => call Tryd.func64 (by kernel_rfl) (by kernel_rfl) rfl #[.string x.text] ?_ ?_
   ·have e0 : a.eval (.tmp 14) = .string x.text := (on (H.d 10 14) hG); simp only [List.map_toArray, List.map_cons, List.map_nil, e0]
   refine (Tabs.valid x.text _ hsz (Tabs.below (Tabs.below hT bl1) H.below)).mono ?_
   rintro e w'' ⟨rfl, hb⟩
   exact ⟨_, rfl, (off' hG (by rw [Bq15])), hb⟩
  ·exact g1 8 12 q11 fun hG a w' H => vr (off' hG (by rw [Bq16])) (run_not rfl (on (H.d 11 15) hG))
  ·exact pv fun a w' H => vr (bb Bq17) (run_or rfl rfl (G := true) (H.d 8 12) (fun hb => (on (H.d 12 16) (mk1 hb))))
  exact qe 13 17
 intro A w2 T
 have y1 := T.r1 y1
 have ⟨kg1_1_, lg1_1_⟩ := T.y kg1_1_ lg1_1_
 have y3 := T.u 14 3
 have ⟨d2, s2, bl2⟩ := T.h d1 s1 bl1
 clear T
 refine tail_nil (wp_cond_split y3 (fun hq => ?_) (fun hq => ?_))
 ·
  have c3 := Bq17.symm.trans hq
  clear hq
  refine wp_seq (rS [.bool false] (fun _ => .plain) 1 0 s2 ?_ ?_)
  ·refine .c ?_ (.nil)
   ·exact pq fun a w' H => ra (rfl : a.eval (.const (.bool false)) = .bool false)
  intro A w4 T
  have y2 := T.u 0 2
  have d4 := T.e d2
  have bl4 := T.b bl2
  clear T
  refine tail_nil (wp_ret ?_)
  repeat (first | refine in_ret ?_ | refine then_ret ?_)
  have fin : false = Evt.rightE x := by
   have a3 := c3
   try simp only [Bq17, Bq16, Bq15, Bq11, Bq10, Bq6] at a3
   try simp only [Bq17, Bq16, Bq15, Bq11, Bq10, Bq6]
   unfold Evt.rightE
   simp only [a3, cond_true, cond_false]
  exact ret1 rfl d4 (y2.trans (congrArg Value.bool fin)) ⟨rfl, bl4⟩
 have c3 := Bq17.symm.trans hq
 clear hq
 refine wp_seq ?_
 obtain ⟨q21, Bq21⟩ := nm (x.kind == 7)
 refine rP [.pointer (some ⟨g1_1, 0, none⟩), .int .i64 x.kind, .bool q21, .bool q21] 4 0 s2 (.c (pq fun a w' H => fb Tryd.underlying30 0 (H.q 1 y1)) (.c (pq fun a w' H => lb (H.d 0 19) (H.x lg1_1_ kg1_1_)) (.c (pv fun a w' H => vr (bb Bq21) (ok (.int .i64 7) (H.d 1 20))) (.c (qe 2 21) .nil)))) fun A w6 T => ?_
 have y1 := T.r1 y1
 have ⟨kg1_1_, lg1_1_⟩ := T.y kg1_1_ lg1_1_
 have y18 := T.u 3 18
 have ⟨d6, s6, bl6⟩ := T.h d2 s2 bl2
 clear T
 refine tail_nil (wp_cond_split y18 (fun hq => ?_) (fun hq => ?_))
 ·
  have c18 := Bq21.symm.trans hq
  clear hq
  refine wp_seq ?_
  obtain ⟨q24, Bq24⟩ := nm (T.lex_Name.g x.anchor)
  obtain ⟨q28, Bq28⟩ := nm (x.tag.toList.isEmpty)
  obtain ⟨q29, Bq29⟩ := nm (q24 && q28)
  obtain ⟨q33, Bq33⟩ := nm (x.text.toList.isEmpty)
  obtain ⟨q34, Bq34⟩ := nm (q29 && q33)
  obtain ⟨q38, Bq38⟩ := nm (!x.plain)
  obtain ⟨q39, Bq39⟩ := nm (q34 && q38)
  refine rS [.pointer (some ⟨g1_1, 1, none⟩), .string x.anchor, .bool q24, .bool q24, bif (q24 == true) then (.pointer (some ⟨g1_1, 2, none⟩)) else undef, bif (q24 == true) then (.string x.tag) else undef, bif (q24 == true) then (.bool q28) else undef, .bool q29, .bool q29, bif (q29 == true) then (.pointer (some ⟨g1_1, 3, none⟩)) else undef, bif (q29 == true) then (.string x.text) else undef, bif (q29 == true) then (.bool q33) else undef, .bool q34, .bool q34, bif (q34 == true) then (.pointer (some ⟨g1_1, 4, none⟩)) else undef, bif (q34 == true) then (.bool x.plain) else undef, bif (q34 == true) then (.bool q38) else undef, .bool q39, .bool q39] (fun _ => .plain) 19 0 s6 ?_ ?_
  ·refine .c ?_ (.c ?_ (.c ?_ (.c ?_ (.c ?_ (.c ?_ (.c ?_ (.c ?_ (.c ?_ (.c ?_ (.c ?_ (.c ?_ (.c ?_ (.c ?_ (.c ?_ (.c ?_ (.c ?_ (.c ?_ (.c ?_ (.nil)))))))))))))))))))
   ·exact pq fun a w' H => fb Tryd.underlying30 1 (H.q 1 y1)
   ·exact pq fun a w' H => lb (H.d 0 22) (H.x lg1_1_ kg1_1_)
   ·refine pv fun a w' H => call Tryd.func65 (by kernel_rfl) (by kernel_rfl) rfl #[.string x.anchor] ?_ ?_
    ·have e0 : a.eval (.tmp 23) = .string x.anchor := (H.d 1 23); simp only [List.map_toArray, List.map_cons, List.map_nil, e0]
    refine (T.lex_Name.calls x.anchor _ _ rfl).mono ?_
    rintro e w'' ⟨rfl, hb⟩
    exact ⟨_, rfl, (by show _ = Value.bool q24; rw [Bq24]), hb⟩
   ·exact qd 2 24
   ·exact g1 3 25 q24 fun hG a w' H => vr (off' hG rfl) (fb Tryd.underlying30 2 (H.q 1 y1))
   ·exact g1 3 25 q24 fun hG a w' H => vr (off' hG rfl) (lb (on (H.d 4 26) hG) (H.x lg1_1_ kg1_1_))
   ·exact g1 3 25 q24 fun hG a w' H => vr (v := .bool x.tag.toList.isEmpty) (off' hG (by rw [Bq28])) (ok (.string ⟨#[]⟩) (on (H.d 5 27) hG))
   ·exact pv fun a w' H => vr (bb Bq29) (run_and rfl rfl (G := true) (H.d 3 25) (fun hb => (on (H.d 6 28) (mk1 hb))))
   ·exact qd 7 29
   ·exact g1 8 30 q29 fun hG a w' H => vr (off' hG rfl) (fb Tryd.underlying30 3 (H.q 1 y1))
   ·exact g1 8 30 q29 fun hG a w' H => vr (off' hG rfl) (lb (on (H.d 9 31) hG) (H.x lg1_1_ kg1_1_))
   ·exact g1 8 30 q29 fun hG a w' H => vr (v := .bool x.text.toList.isEmpty) (off' hG (by rw [Bq33])) (ok (.string ⟨#[]⟩) (on (H.d 10 32) hG))
   ·exact pv fun a w' H => vr (bb Bq34) (run_and rfl rfl (G := true) (H.d 8 30) (fun hb => (on (H.d 11 33) (mk1 hb))))
   ·exact qd 12 34
   ·exact g1 13 35 q34 fun hG a w' H => vr (off' hG rfl) (fb Tryd.underlying30 4 (H.q 1 y1))
   ·exact g1 13 35 q34 fun hG a w' H => vr (off' hG rfl) (lb (on (H.d 14 36) hG) (H.x lg1_1_ kg1_1_))
   ·exact g1 13 35 q34 fun hG a w' H => vr (off' hG (by rw [Bq38])) (run_not rfl (on (H.d 15 37) hG))
   ·exact pv fun a w' H => vr (bb Bq39) (run_and rfl rfl (G := true) (H.d 13 35) (fun hb => (on (H.d 16 38) (mk1 hb))))
   exact qe 17 39
  intro A w8 T
  have y2 := T.u 18 2
  have d8 := T.e d6
  have bl8 := T.b bl6
  clear T
  refine tail_nil (wp_ret ?_)
  repeat (first | refine in_ret ?_ | refine then_ret ?_)
  have fin : q39 = Evt.rightE x := by
   have a3 := c3
   try simp only [Bq39, Bq38, Bq34, Bq33, Bq29, Bq28, Bq24, Bq21, Bq17, Bq16, Bq15, Bq11, Bq10, Bq6] at a3
   have a18 := c18
   try simp only [Bq39, Bq38, Bq34, Bq33, Bq29, Bq28, Bq24, Bq21, Bq17, Bq16, Bq15, Bq11, Bq10, Bq6] at a18
   try simp only [Bq39, Bq38, Bq34, Bq33, Bq29, Bq28, Bq24, Bq21, Bq17, Bq16, Bq15, Bq11, Bq10, Bq6]
   unfold Evt.rightE
   simp only [a3, a18, cond_true, cond_false]
  exact ret1 rfl d8 (y2.trans (congrArg Value.bool fin)) ⟨rfl, bl8⟩
 have c18 := Bq21.symm.trans hq
 clear hq
 refine wp_seq ?_
 obtain ⟨q42, Bq42⟩ := nm (Evt.isNode x.kind)
 obtain ⟨q43, Bq43⟩ := nm (!q42)
 refine rS [.agg #[.int .i64 x.kind, .string x.anchor, .string x.tag, .string x.text, .bool x.plain], .bool q42, .bool q43, .bool q43] (fun _ => .plain) 4 0 s6 ?_ ?_
 ·refine .c ?_ (.c ?_ (.c ?_ (.c ?_ (.nil))))
  ·refine pv fun a w' H => ?_
   have kb := (H.below.block _ lg1_1_).trans kg1_1_
   have z0 : w'.cell? ⟨g1_1, 0, none⟩ = some (.int .i64 x.kind) := (Eng.cells kb 0).trans rfl
   have z1 : w'.cell? ⟨g1_1, 1, none⟩ = some (.string x.anchor) := (Eng.cells kb 1).trans rfl
   have z2 : w'.cell? ⟨g1_1, 2, none⟩ = some (.string x.tag) := (Eng.cells kb 2).trans rfl
   have z3 : w'.cell? ⟨g1_1, 3, none⟩ = some (.string x.text) := (Eng.cells kb 3).trans rfl
   have z4 : w'.cell? ⟨g1_1, 4, none⟩ = some (.bool x.plain) := (Eng.cells kb 4).trans rfl
   exact vr (v := .agg #[.int .i64 x.kind, .string x.anchor, .string x.tag, .string x.text, .bool x.plain]) rfl (o1 (H.q 1 y1))
  ·refine pv fun a w' H => call Tryd.func44 (by kernel_rfl) (by kernel_rfl) rfl #[.agg #[.int .i64 x.kind, .string x.anchor, .string x.tag, .string x.text, .bool x.plain]] ?_ ?_
   ·have e0 : a.eval (.tmp 41) = .agg #[.int .i64 x.kind, .string x.anchor, .string x.tag, .string x.text, .bool x.plain] := (H.d 0 41); simp only [List.map_toArray, List.map_cons, List.map_nil, e0]
   refine (Evt.node_calls x _).mono ?_
   rintro e w'' ⟨rfl, hb⟩
   exact ⟨_, rfl, (by show _ = Value.bool q42; rw [Bq42]), hb⟩
  ·exact pv fun a w' H => vr (bb Bq43) (run_not rfl (H.d 1 42))
  exact qe 2 43
 intro A w10 T
 have y1 := T.r1 y1
 have ⟨kg1_1_, lg1_1_⟩ := T.y kg1_1_ lg1_1_
 have y40 := T.u 3 40
 have ⟨d10, s10, bl10⟩ := T.h d6 s6 bl6
 clear T
 refine tail_nil (wp_cond_split y40 (fun hq => ?_) (fun hq => ?_))
 ·
  have c40 := Bq43.symm.trans hq
  clear hq
  refine wp_seq (rS [.agg #[.int .i64 x.kind, .string x.anchor, .string x.tag, .string x.text, .bool x.plain], .pointer (some ⟨g1_1, 0, none⟩), .int .i64 x.kind, .agg #[.int .i64 x.kind, .string ⟨#[]⟩, .string ⟨#[]⟩, .string ⟨#[]⟩, .bool false], .bool (Evt.plainE x), .bool (Evt.plainE x)] (fun _ => .plain) 6 0 s10 ?_ ?_)
  ·refine .c ?_ (.c ?_ (.c ?_ (.c ?_ (.c ?_ (.c ?_ (.nil))))))
   ·refine pv fun a w' H => ?_
    have kb := (H.below.block _ lg1_1_).trans kg1_1_
    have z0 : w'.cell? ⟨g1_1, 0, none⟩ = some (.int .i64 x.kind) := (Eng.cells kb 0).trans rfl
    have z1 : w'.cell? ⟨g1_1, 1, none⟩ = some (.string x.anchor) := (Eng.cells kb 1).trans rfl
    have z2 : w'.cell? ⟨g1_1, 2, none⟩ = some (.string x.tag) := (Eng.cells kb 2).trans rfl
    have z3 : w'.cell? ⟨g1_1, 3, none⟩ = some (.string x.text) := (Eng.cells kb 3).trans rfl
    have z4 : w'.cell? ⟨g1_1, 4, none⟩ = some (.bool x.plain) := (Eng.cells kb 4).trans rfl
    exact vr (v := .agg #[.int .i64 x.kind, .string x.anchor, .string x.tag, .string x.text, .bool x.plain]) rfl (o1 (H.q 1 y1))
   ·exact pq fun a w' H => fb Tryd.underlying30 0 (H.q 1 y1)
   ·exact pq fun a w' H => lb (H.d 1 45) (H.x lg1_1_ kg1_1_)
   ·exact pv fun a w' H => vr (v := .agg #[.int .i64 x.kind, .string ⟨#[]⟩, .string ⟨#[]⟩, .string ⟨#[]⟩, .bool false]) rfl (o1 (H.d 2 46))
   ·refine pv fun a w' H => vr (v := .bool (Evt.plainE x)) rfl ?_
    have e0 : a.eval (.tmp 44) = .agg #[.int .i64 x.kind, .string x.anchor, .string x.tag, .string x.text, .bool x.plain] := (H.d 0 44)
    have e1 : a.eval (.tmp 47) = .agg #[.int .i64 x.kind, .string ⟨#[]⟩, .string ⟨#[]⟩, .string ⟨#[]⟩, .bool false] := (H.d 3 47)
    simp only [execOp, resolve, List.map_toArray, List.map_cons, List.map_nil, e0, e1]
    go_simp
    (cases hp : x.plain <;> by_cases h1 : x.anchor.toList = [] <;> by_cases h2 : x.tag.toList = [] <;> by_cases h3 : x.text.toList = [] <;> simp [Evt.plainE, h1, h2, h3, hp])
   exact qe 4 48
  intro A w12 T
  have y2 := T.u 5 2
  have d12 := T.e d10
  have bl12 := T.b bl10
  clear T
  refine tail_nil (wp_ret ?_)
  repeat (first | refine in_ret ?_ | refine then_ret ?_)
  have fin : Evt.plainE x = Evt.rightE x := by
   have a3 := c3
   try simp only [Bq43, Bq42, Bq21, Bq17, Bq16, Bq15, Bq11, Bq10, Bq6] at a3
   have a18 := c18
   try simp only [Bq43, Bq42, Bq21, Bq17, Bq16, Bq15, Bq11, Bq10, Bq6] at a18
   have a40 := c40
   try simp only [Bq43, Bq42, Bq21, Bq17, Bq16, Bq15, Bq11, Bq10, Bq6] at a40
   try simp only [Bq43, Bq42, Bq21, Bq17, Bq16, Bq15, Bq11, Bq10, Bq6]
   unfold Evt.rightE
   simp only [a3, a18, a40, cond_true, cond_false]
  exact ret1 rfl d12 (y2.trans (congrArg Value.bool fin)) ⟨rfl, bl12⟩
 have c40 := Bq43.symm.trans hq
 clear hq
 refine wp_seq ?_
 obtain ⟨q52, Bq52⟩ := nm (!(x.kind == 6))
 obtain ⟨q56, Bq56⟩ := nm (!(x.text.toList.isEmpty))
 obtain ⟨q60, Bq60⟩ := nm (q56 || x.plain)
 obtain ⟨q61, Bq61⟩ := nm (q52 && q60)
 refine rP [.pointer (some ⟨g1_1, 0, none⟩), .int .i64 x.kind, .bool q52, .bool q52, bif (q52 == true) then (.pointer (some ⟨g1_1, 3, none⟩)) else undef, bif (q52 == true) then (.string x.text) else undef, bif (q52 == true) then (.bool q56) else undef, bif (q52 == true) then (.bool q56) else undef, bif ((q52 == true) && (q56 == false)) then (.pointer (some ⟨g1_1, 4, none⟩)) else undef, bif ((q52 == true) && (q56 == false)) then (.bool x.plain) else undef, bif (q52 == true) then (.bool q60) else undef, .bool q61, .bool q61] 13 0 s10 (.c (pq fun a w' H => fb Tryd.underlying30 0 (H.q 1 y1)) (.c (pq fun a w' H => lb (H.d 0 50) (H.x lg1_1_ kg1_1_)) (.c (pv fun a w' H => vr (bb Bq52) (okz (.int .i64 6) (H.d 1 51))) (.c (qd 2 52) (.c (g1 3 53 q52 fun hG a w' H => vr (off' hG rfl) (fb Tryd.underlying30 3 (H.q 1 y1))) (.c (g1 3 53 q52 fun hG a w' H => vr (off' hG rfl) (lb (on (H.d 4 54) hG) (H.x lg1_1_ kg1_1_))) (.c (g1 3 53 q52 fun hG a w' H => vr (v := .bool (!(x.text.toList.isEmpty))) (off' hG (by rw [Bq56])) (ok (.string ⟨#[]⟩) (on (H.d 5 55) hG))) (.c (g1 3 53 q52 fun hG a w' H => vr (off' hG rfl) (rv (on (H.d 6 56) hG))) (.c (guarded (j := 7) (d := 57) (b := q56) (G := (q52 == true)) rfl rfl (by kernel_rfl) rfl (fun v w h => h) (fun hG w => off hG) fun hG a w' H => vr (off' hG rfl) (fb Tryd.underlying30 4 (H.q 1 y1))) (.c (guarded (j := 7) (d := 57) (b := q56) (G := (q52 == true)) rfl rfl (by kernel_rfl) rfl (fun v w h => h) (fun hG w => off hG) fun hG a w' H => vr (off' hG rfl) (lb (on (H.d 8 58) hG) (H.x lg1_1_ kg1_1_))) (.c (g1 3 53 q52 fun hG a w' H => vr (off' hG (by rw [Bq60])) (run_or rfl rfl (G := true) (on (H.d 7 57) hG) (fun hb => (on (H.d 9 59) (mk2 (mk1 (one2 hG)) hb))))) (.c (pv fun a w' H => vr (bb Bq61) (run_and rfl rfl (G := true) (H.d 3 53) (fun hb => (on (H.d 10 60) (mk1 hb))))) (.c (qe 11 61) .nil))))))))))))) fun A w14 T => ?_
 have y1 := T.r1 y1
 have ⟨kg1_1_, lg1_1_⟩ := T.y kg1_1_ lg1_1_
 have y49 := T.u 12 49
 have ⟨d14, s14, bl14⟩ := T.h d10 s10 bl10
 clear T
 refine tail_nil (wp_cond_split y49 (fun hq => ?_) (fun hq => ?_))
 ·
  have c49 := Bq61.symm.trans hq
  clear hq
  refine wp_seq (rS [.bool false] (fun _ => .plain) 1 0 s14 ?_ ?_)
  ·refine .c ?_ (.nil)
   ·exact pq fun a w' H => ra (rfl : a.eval (.const (.bool false)) = .bool false)
  intro A w16 T
  have y2 := T.u 0 2
  have d16 := T.e d14
  have bl16 := T.b bl14
  clear T
  refine tail_nil (wp_ret ?_)
  repeat (first | refine in_ret ?_ | refine then_ret ?_)
  have fin : false = Evt.rightE x := by
   have a3 := c3
   try simp only [Bq61, Bq60, Bq56, Bq52, Bq43, Bq42, Bq21, Bq17, Bq16, Bq15, Bq11, Bq10, Bq6] at a3
   have a18 := c18
   try simp only [Bq61, Bq60, Bq56, Bq52, Bq43, Bq42, Bq21, Bq17, Bq16, Bq15, Bq11, Bq10, Bq6] at a18
   have a40 := c40
   try simp only [Bq61, Bq60, Bq56, Bq52, Bq43, Bq42, Bq21, Bq17, Bq16, Bq15, Bq11, Bq10, Bq6] at a40
   have a49 := c49
   try simp only [Bq61, Bq60, Bq56, Bq52, Bq43, Bq42, Bq21, Bq17, Bq16, Bq15, Bq11, Bq10, Bq6] at a49
   try simp only [Bq61, Bq60, Bq56, Bq52, Bq43, Bq42, Bq21, Bq17, Bq16, Bq15, Bq11, Bq10, Bq6]
   unfold Evt.rightE
   simp only [a3, a18, a40, a49, cond_true, cond_false]
  exact ret1 rfl d16 (y2.trans (congrArg Value.bool fin)) ⟨rfl, bl16⟩
 have c49 := Bq61.symm.trans hq
 clear hq
 refine wp_skip (wp_seq ?_)
 obtain ⟨q64, Bq64⟩ := nm (x.anchor.toList.isEmpty)
 obtain ⟨q68, Bq68⟩ := nm (T.lex_Name.g x.anchor)
 obtain ⟨q69, Bq69⟩ := nm (q64 || q68)
 obtain ⟨q73, Bq73⟩ := nm (x.tag.toList.isEmpty)
 obtain ⟨q77, Bq77⟩ := nm (Evt.tagR x.tag)
 obtain ⟨q78, Bq78⟩ := nm (q73 || q77)
 obtain ⟨q79, Bq79⟩ := nm (q69 && q78)
 refine rS [.pointer (some ⟨g1_1, 1, none⟩), .string x.anchor, .bool q64, .bool q64, bif (q64 == false) then (.pointer (some ⟨g1_1, 1, none⟩)) else undef, bif (q64 == false) then (.string x.anchor) else undef, bif (q64 == false) then (.bool q68) else undef, .bool q69, .bool q69, bif (q69 == true) then (.pointer (some ⟨g1_1, 2, none⟩)) else undef, bif (q69 == true) then (.string x.tag) else undef, bif (q69 == true) then (.bool q73) else undef, bif (q69 == true) then (.bool q73) else undef, bif ((q69 == true) && (q73 == false)) then (.pointer (some ⟨g1_1, 2, none⟩)) else undef, bif ((q69 == true) && (q73 == false)) then (.string x.tag) else undef, bif ((q69 == true) && (q73 == false)) then (.bool q77) else undef, bif (q69 == true) then (.bool q78) else undef, .bool q79, .bool q79] (fun _ => .plain) 19 0 s14 ?_ ?_
 ·refine .c ?_ (.c ?_ (.c ?_ (.c ?_ (.c ?_ (.c ?_ (.c ?_ (.c ?_ (.c ?_ (.c ?_ (.c ?_ (.c ?_ (.c ?_ (.c ?_ (.c ?_ (.c ?_ (.c ?_ (.c ?_ (.c ?_ (.nil)))))))))))))))))))
  ·exact pq fun a w' H => fb Tryd.underlying30 1 (H.q 1 y1)
  ·exact pq fun a w' H => lb (H.d 0 62) (H.x lg1_1_ kg1_1_)
  ·exact pv fun a w' H => vr (bb Bq64) (ok (.string ⟨#[]⟩) (H.d 1 63))
  ·exact qd 2 64
  ·exact g1 3 65 q64 fun hG a w' H => vr (off' hG rfl) (fb Tryd.underlying30 1 (H.q 1 y1))
  ·exact g1 3 65 q64 fun hG a w' H => vr (off' hG rfl) (lb (on (H.d 4 66) hG) (H.x lg1_1_ kg1_1_))
  ·refine g1 3 65 q64 fun hG a w' H => call Tryd.func65 (by kernel_rfl) (by kernel_rfl) rfl #[.string x.anchor] ?_ ?_
   ·have e0 : a.eval (.tmp 67) = .string x.anchor := (on (H.d 5 67) hG); simp only [List.map_toArray, List.map_cons, List.map_nil, e0]
   refine (T.lex_Name.calls x.anchor _ _ rfl).mono ?_
   rintro e w'' ⟨rfl, hb⟩
   exact ⟨_, rfl, (off' hG (by rw [Bq68])), hb⟩
  ·exact pv fun a w' H => vr (bb Bq69) (run_or rfl rfl (G := true) (H.d 3 65) (fun hb => (on (H.d 6 68) (mk1 hb))))
  ·exact qd 7 69
  ·exact g1 8 70 q69 fun hG a w' H => vr (off' hG rfl) (fb Tryd.underlying30 2 (H.q 1 y1))
  ·exact g1 8 70 q69 fun hG a w' H => vr (off' hG rfl) (lb (on (H.d 9 71) hG) (H.x lg1_1_ kg1_1_))
  ·exact g1 8 70 q69 fun hG a w' H => vr (v := .bool x.tag.toList.isEmpty) (off' hG (by rw [Bq73])) (ok (.string ⟨#[]⟩) (on (H.d 10 72) hG))
  ·exact g1 8 70 q69 fun hG a w' H => vr (off' hG rfl) (rv (on (H.d 11 73) hG))
  ·exact guarded (j := 12) (d := 74) (b := q73) (G := (q69 == true)) rfl rfl (by kernel_rfl) rfl (fun v w h => h) (fun hG w => off hG) fun hG a w' H => vr (off' hG rfl) (fb Tryd.underlying30 2 (H.q 1 y1))
  ·exact guarded (j := 12) (d := 74) (b := q73) (G := (q69 == true)) rfl rfl (by kernel_rfl) rfl (fun v w h => h) (fun hG w => off hG) fun hG a w' H => vr (off' hG rfl) (lb (on (H.d 13 75) hG) (H.x lg1_1_ kg1_1_))
  ·refine guarded (j := 12) (d := 74) (b := q73) (G := (q69 == true)) rfl rfl (by kernel_rfl) rfl (fun v w h => h) (fun hG w => off hG) fun hG a w' H => call Tryd.func45 (by kernel_rfl) (by kernel_rfl) rfl #[.string x.tag] ?_ ?_
   ·have e0 : a.eval (.tmp 76) = .string x.tag := (on (H.d 14 76) hG); simp only [List.map_toArray, List.map_cons, List.map_nil, e0]
   refine (T.tag_Right.calls x.tag _ _ (Evt.tagR_eq x.tag)).mono ?_
   rintro e w'' ⟨rfl, hb⟩
   exact ⟨_, rfl, (off' hG (by rw [Bq77])), hb⟩
  ·exact g1 8 70 q69 fun hG a w' H => vr (off' hG (by rw [Bq78])) (run_or rfl rfl (G := true) (on (H.d 12 74) hG) (fun hb => (on (H.d 15 77) (mk2 (mk1 (one2 hG)) hb))))
  ·exact pv fun a w' H => vr (bb Bq79) (run_and rfl rfl (G := true) (H.d 8 70) (fun hb => (on (H.d 16 78) (mk1 hb))))
  exact qe 17 79
 intro A w18 T
 have y2 := T.u 18 2
 have d18 := T.e d14
 have bl18 := T.b bl14
 clear T
 refine tail_nil (wp_ret ?_)
 repeat (first | refine in_ret ?_ | refine then_ret ?_)
 have fin : q79 = Evt.rightE x := by
  have a3 := c3
  try simp only [Bq79, Bq78, Bq77, Bq73, Bq69, Bq68, Bq64, Bq61, Bq60, Bq56, Bq52, Bq43, Bq42, Bq21, Bq17, Bq16, Bq15, Bq11, Bq10, Bq6] at a3
  have a18 := c18
  try simp only [Bq79, Bq78, Bq77, Bq73, Bq69, Bq68, Bq64, Bq61, Bq60, Bq56, Bq52, Bq43, Bq42, Bq21, Bq17, Bq16, Bq15, Bq11, Bq10, Bq6] at a18
  have a40 := c40
  try simp only [Bq79, Bq78, Bq77, Bq73, Bq69, Bq68, Bq64, Bq61, Bq60, Bq56, Bq52, Bq43, Bq42, Bq21, Bq17, Bq16, Bq15, Bq11, Bq10, Bq6] at a40
  have a49 := c49
  try simp only [Bq79, Bq78, Bq77, Bq73, Bq69, Bq68, Bq64, Bq61, Bq60, Bq56, Bq52, Bq43, Bq42, Bq21, Bq17, Bq16, Bq15, Bq11, Bq10, Bq6] at a49
  try simp only [Bq79, Bq78, Bq77, Bq73, Bq69, Bq68, Bq64, Bq61, Bq60, Bq56, Bq52, Bq43, Bq42, Bq21, Bq17, Bq16, Bq15, Bq11, Bq10, Bq6]
  unfold Evt.rightE
  simp only [a3, a18, a40, a49, cond_true, cond_false]
 exact ret1 rfl d18 (y2.trans (congrArg Value.bool fin)) ⟨rfl, bl18⟩
end Go.Proofs.YtgnmjaacnmkgnaaDoor.X
end
section
namespace Go.Proofs.YtgnmjaacnmkgnaaDoor.X
open Go.RowKit Go.Shelf Go.Proofs
set_option linter.unusedVariables false
set_option linter.unusedSimpArgs false
namespace Evt
theorem rightR_bad {st : List (Int × Int)} {l : List Ev} {k : Nat} (hk : k < l.length) (h : rightE (l.getD k default) = false) : rightR rightE st (l.drop k) = false := by
  rw [Rwt.drop_one hk, rightR, h, Bool.false_and]
theorem rightR_none {st : List (Int × Int)} {l : List Ev} {k : Nat} (hk : k < l.length) (h : takeF st (l.getD k default).kind = none) : rightR rightE st (l.drop k) = false := by
  rw [Rwt.drop_one hk, rightR, h, Bool.and_false]
theorem rightR_go {st st' : List (Int × Int)} {l : List Ev} {k : Nat} (hk : k < l.length) (h1 : rightE (l.getD k default) = true) (h : takeF st (l.getD k default).kind = some st') : rightR rightE st (l.drop k) = rightR rightE st' (l.drop (k + 1)) := by
  rw [Rwt.drop_one hk, rightR, h, h1, Bool.true_and]
theorem rightR_end {st : List (Int × Int)} {l : List Ev} {k : Nat} (hk : k = l.length) : rightR rightE st (l.drop k) = st.isEmpty := by
  rw [hk, List.drop_length]; rfl
theorem pos_drop {st : List (Int × Int)} (h : ∀ t ∈ st, 0 ≤ t.1) : ∀ t ∈ st.dropLast, 0 ≤ t.1 := fun t ht => h t (List.dropLast_subset _ ht)
theorem pop_st {st st' : List (Int × Int)} {k : Int} {may : Int → Bool} (h : pop st k may = some st') : st' = st.dropLast := by
  unfold pop at h
  split at h
  · cases h
  · split at h
    · injection h with h; exact h.symm
    · cases h
theorem more_len {st : List (Int × Int)} : (more st).length = st.length := by
  rcases List.eq_nil_or_concat st with rfl | ⟨pre, t, rfl⟩
  · rfl
  · rw [List.concat_eq_append, more_snoc]; simp
theorem more_pos {st : List (Int × Int)} (h : ∀ t ∈ st, 0 ≤ t.1) : ∀ t ∈ more st, 0 ≤ t.1 := by
  rcases List.eq_nil_or_concat st with rfl | ⟨pre, t, rfl⟩
  · exact h
  · rw [List.concat_eq_append] at h; rw [List.concat_eq_append, more_snoc]
    intro u hu
    rcases List.mem_append.1 hu with hu | hu
    · exact h u (List.mem_append_left _ hu)
    · rw [List.mem_singleton.1 hu]; exact h t (by simp)
theorem take_good {st st' : List (Int × Int)} {k : Int} (h : takeF st k = some st') (hp : ∀ t ∈ st, 0 ≤ t.1) : (∀ t ∈ st', 0 ≤ t.1) ∧ st'.length ≤ st.length + 1 := by
  unfold takeF at h
  split at h
  · split at h
    · injection h with h; subst h; simp
    · cases h
  · split at h
    · rw [pop_st h]; exact ⟨pos_drop hp, by rw [List.length_dropLast]; omega⟩
    · split at h
      · rw [pop_st h]; exact ⟨pos_drop hp, by rw [List.length_dropLast]; omega⟩
      · split at h
        · rw [pop_st h]; exact ⟨pos_drop hp, by rw [List.length_dropLast]; omega⟩
        · split at h
          · cases h
          · split at h
            · rename_i hk
              injection h with h; subst h
              refine ⟨fun t ht => ?_, by rw [List.length_append, more_len]; exact Nat.le_refl _⟩
              rcases List.mem_append.1 ht with ht | ht
              · exact more_pos hp t ht
              · rw [List.mem_singleton.1 ht]; show (0 : Int) ≤ k; omega
            · injection h with h; subst h
              exact ⟨more_pos hp, by rw [more_len]; omega⟩
theorem take_calls (g : Nat) (o : Value) (x : Ev) (st : List (Int × Int)) (w W0 : World) (hB : Below w.heap.size w W0) (hlo : w.heap.size ≤ g) (hk : W0.heap[g]? = some (.cells #[o] 77 (0, 0))) (hO : W0.ownsRow w.heap.size 93 2 o st.length (opens st)) (hst : st.length ≤ 100000) (hp : ∀ t ∈ st, 0 ≤ t.1) :
    Calls Tryd.prog 36 #[.pointer (some ⟨g, 0, none⟩), .agg #[.int .i64 x.kind, .string x.anchor, .string x.tag, .string x.text, .bool x.plain]] W0 fun e w' => e = .returned (.bool (takeF st x.kind).isSome) ∧ Below w.heap.size w w' ∧ ∀ st', takeF st x.kind = some st' → ∃ o', Is w.heap.size W0 g o st' w' o' := by
  rcases List.eq_nil_or_concat st with rfl | ⟨pre, t, rfl⟩
  · exact take_nil g o x w W0 hB hlo hk hO
  · rw [List.concat_eq_append] at *
    exact take_top g o x pre t w W0 hB hlo hk hO hst (hp t (by simp))
end Evt
end Go.Proofs.YtgnmjaacnmkgnaaDoor.X
end
section
namespace Go.Proofs.YtgnmjaacnmkgnaaDoor.X
open Go.RowKit Go.Shelf Go.Proofs Go.Maps Go.WideMaps
set_option linter.unusedVariables false
set_option linter.unusedSimpArgs false
namespace Dc
def stepF (d : Dc) (x : Evt.Ev) : Dc × Bool × Int :=
  if x.kind = 0 then (⟨[], [], []⟩, false, 0)
  else if x.kind = 1 then (d, !twiceF d.nodes, if twiceF d.nodes = true then 12 else 0)
  else if x.kind = 3 ∨ x.kind = 5 then (⟨d.nodes, d.opn.dropLast, d.names⟩, false, 0)
  else if x.kind = 7 then ((aliasF d x).1, false, (aliasF d x).2)
  else ((nodeF d x).1, false, (nodeF d x).2)
def runF : Dc → List (List Nd) → List Evt.Ev → List (List Nd) × Int
  | _, out, [] => (out, 0)
  | d, out, x :: t => if (stepF d x).2.2 = 0 then runF (stepF d x).1 (if (stepF d x).2.1 = true then out ++ [(stepF d x).1.nodes] else out) t else ([], (stepF d x).2.2)
def graphsF (l : List Evt.Ev) : List (List Nd) × Int := if Evt.rightG Evt.rightE l = true then runF ⟨[], [], []⟩ [] l else ([], 5)
def TwAll : Dc → List Evt.Ev → Prop
  | _, [] => True
  | d, x :: t => (x.kind = 1 → TwOK d.nodes) ∧ TwAll (stepF d x).1 t
structure Good (d : Dc) (k : Nat) : Prop where
  op : ∀ o ∈ d.opn, 0 ≤ o ∧ o.toNat < d.nodes.length
  nm : ∀ s c, find d.names s = some c → 0 ≤ c ∧ c.toNat < d.nodes.length
  kd : ∀ i, i < d.nodes.length → (d.nodes.getD i default).kids.length ≤ k
  nl : d.names.length ≤ k
  ol : d.opn.length ≤ k
theorem Good.nil (k : Nat) : Good ⟨[], [], []⟩ k := ⟨fun o h => absurd h List.not_mem_nil, fun s c h => (by cases h), fun i h => absurd h (Nat.not_lt_zero _), Nat.zero_le _, Nat.zero_le _⟩
theorem Good.more {d : Dc} {k k' : Nat} (h : Good d k) (hk : k ≤ k') : Good d k' := ⟨h.op, h.nm, fun i hi => Nat.le_trans (h.kd i hi) hk, Nat.le_trans h.nl hk, Nat.le_trans h.ol hk⟩
theorem addKid_len (nodes : List Nd) (o a : Nat) : (addKid nodes o a).length = nodes.length := List.length_set
theorem addKid_kids {nodes : List Nd} {o a k : Nat} (h : ∀ i, i < nodes.length → (nodes.getD i default).kids.length ≤ k) : ∀ i, i < nodes.length → ((addKid nodes o a).getD i default).kids.length ≤ k + 1 := by
  intro i hi
  unfold addKid
  by_cases hio : i = o
  · subst hio
    rw [List.getD_eq_getElem?_getD, List.getElem?_set_self hi]
    have := h i hi
    simp only [Option.getD_some, List.length_append, List.length_cons, List.length_nil]; omega
  · rw [List.getD_eq_getElem?_getD, List.getElem?_set_ne (Ne.symm hio), ← List.getD_eq_getElem?_getD]
    have := h i hi; omega
theorem kidF_good {d : Dc} {k a : Nat} (h : Good d k) : Good (kidF d a).1 (k + 1) := by
  unfold kidF
  split
  · exact h.more (by omega)
  · split
    · exact h.more (by omega)
    · refine ⟨fun o ho => ?_, fun s c hc => ?_, ?_, Nat.le_succ_of_le h.nl, Nat.le_succ_of_le h.ol⟩
      · rw [addKid_len]; exact h.op o ho
      · rw [addKid_len]; exact h.nm s c hc
      · rw [addKid_len]; exact addKid_kids h.kd
theorem kidF_nlen {d : Dc} {a : Nat} : (kidF d a).1.nodes.length = d.nodes.length := by
  unfold kidF
  split
  · rfl
  · split
    · rfl
    · exact addKid_len _ _ _
theorem nodeF_good {d : Dc} {k : Nat} {x : Evt.Ev} (h : Good d k) : Good (nodeF d x).1 (k + 1) := by
  unfold nodeF
  split
  · exact h.more (by omega)
  · split
    · have h1 : Good ⟨d.nodes ++ [⟨kindN x.kind, (Evt.tagF x).1, x.text, []⟩], d.opn, nameF d x⟩ (k + 1) := by
        refine ⟨fun o ho => ?_, fun s c hc => ?_, fun i hi => ?_, ?_, Nat.le_succ_of_le h.ol⟩
        · have := h.op o ho; simp only [List.length_append, List.length_cons, List.length_nil]; exact ⟨this.1, by omega⟩
        · simp only [List.length_append, List.length_cons, List.length_nil]
          unfold nameF at hc
          split at hc
          · have := h.nm s c hc; exact ⟨this.1, by omega⟩
          · rw [find_cons] at hc
            split at hc
            · injection hc with hc; subst hc; exact ⟨by omega, by omega⟩
            · have := h.nm s c hc; exact ⟨this.1, by omega⟩
        · simp only [List.length_append, List.length_cons, List.length_nil] at hi
          simp only
          rcases Nat.lt_or_ge i d.nodes.length with hl | hl
          · rw [List.getD_eq_getElem?_getD, List.getElem?_append_left hl, ← List.getD_eq_getElem?_getD]; have := h.kd i hl; omega
          · obtain rfl : i = d.nodes.length := by omega
            rw [List.getD_eq_getElem?_getD, List.getElem?_append_right (Nat.le_refl _), Nat.sub_self]; simp
        · unfold nameF
          split
          · exact Nat.le_succ_of_le h.nl
          · simp only [List.length_cons]; exact Nat.succ_le_succ h.nl
      have h2 : Good (kidF ⟨d.nodes ++ [⟨kindN x.kind, (Evt.tagF x).1, x.text, []⟩], d.opn, nameF d x⟩ d.nodes.length).1 (k + 1) := by
        unfold kidF
        split
        · exact h1
        · split
          · exact h1
          · refine ⟨fun o ho => ?_, fun s c hc => ?_, ?_, h1.nl, h1.ol⟩
            · rw [addKid_len]; exact h1.op o ho
            · rw [addKid_len]; exact h1.nm s c hc
            · rw [addKid_len]
              refine addKid_kids fun i hi => ?_
              simp only [List.length_append, List.length_cons, List.length_nil] at hi
              rcases Nat.lt_or_ge i d.nodes.length with hl | hl
              · rw [List.getD_eq_getElem?_getD, List.getElem?_append_left hl, ← List.getD_eq_getElem?_getD]; exact h.kd i hl
              · obtain rfl : i = d.nodes.length := by omega
                rw [List.getD_eq_getElem?_getD, List.getElem?_append_right (Nat.le_refl _), Nat.sub_self]; simp
      split
      · exact h2
      · refine ⟨fun o ho => ?_, h2.nm, h2.kd, h2.nl, ?_⟩
        · rcases List.mem_append.1 ho with ho | ho
          · exact h2.op o ho
          · rw [List.mem_singleton.1 ho]
            simp only [kidF_nlen, List.length_append, List.length_cons, List.length_nil]; exact ⟨by omega, by omega⟩
        · simp only [List.length_append, List.length_cons, List.length_nil]
          rw [(kidF_same _ _).1]; have := h.ol; simp only; omega
    · exact h.more (by omega)
theorem aliasF_good {d : Dc} {k : Nat} {x : Evt.Ev} (h : Good d k) : Good (aliasF d x).1 (k + 1) := by
  unfold aliasF
  split
  · exact h.more (by omega)
  · exact kidF_good h
theorem stepF_good {d : Dc} {k : Nat} {x : Evt.Ev} (h : Good d k) : Good (stepF d x).1 (k + 1) := by
  unfold stepF
  split
  · exact Good.nil _
  · split
    · exact h.more (by omega)
    · split
      · refine ⟨fun o ho => h.op o (List.dropLast_subset _ ho), h.nm, fun i hi => Nat.le_succ_of_le (h.kd i hi), Nat.le_succ_of_le h.nl, ?_⟩
        have := h.ol; simp only [List.length_dropLast]; omega
      · split
        · exact aliasF_good h
        · exact nodeF_good h
def Rel (st : List (Int × Int)) (opn : List Int) : Prop := ∃ m rest, st = (0, m) :: rest ∧ (∀ t ∈ rest, t.1 = 2 ∨ t.1 = 4) ∧ rest.length = opn.length
theorem last_kind {m : Int} {rest : List (Int × Int)} (h : ∀ t ∈ rest, t.1 = 2 ∨ t.1 = 4) : (rest = [] ∧ ((0, m) :: rest).getLast? = some (0, m)) ∨ ∃ pre t, rest = pre ++ [t] ∧ (t.1 = 2 ∨ t.1 = 4) ∧ ((0, m) :: rest).getLast? = some t := by
  rcases List.eq_nil_or_concat rest with rfl | ⟨pre, t, rfl⟩
  · exact .inl ⟨rfl, rfl⟩
  · rw [List.concat_eq_append] at *
    exact .inr ⟨pre, t, rfl, h t (by simp), by rw [← List.cons_append, List.getLast?_append]; simp⟩
end Dc
end Go.Proofs.YtgnmjaacnmkgnaaDoor.X
end
