/- Words and walks that the row of ComposeRight needs: printed by programs, and plain laws. -/
import Derived.Test.YtgnmjaacnmkgnaaDoorM7
import Derived.Test.YtgnmjaacnmkgnaaDoorM3
import Derived.Test.YtgnmjaacnmkgnaaDoorM4
namespace Go.Proofs.YtgnmjaacnmkgnaaDoorW.PrintWords
end Go.Proofs.YtgnmjaacnmkgnaaDoorW.PrintWords
namespace Go.Proofs.YtgnmjaacnmkgnaaDoorW.PrintLast
end Go.Proofs.YtgnmjaacnmkgnaaDoorW.PrintLast
namespace Go.Proofs.YtgnmjaacnmkgnaaDoorW.PrintMore
end Go.Proofs.YtgnmjaacnmkgnaaDoorW.PrintMore
section
namespace Go.Proofs.YtgnmjaacnmkgnaaDoor.X
open Go.RowKit Go.Shelf Go.Proofs Go.Proofs.YtgnmjaacnmkgnaaDoorW.PrintWords Go.Proofs.YtgnmjaacnmkgnaaDoorW.PrintLast Go.Proofs.YtgnmjaacnmkgnaaDoorW.PrintMore Go.Proofs.Eng
set_option linter.unusedVariables false
set_option linter.unusedSimpArgs false
attribute [local go_sem] max2_int min2_int max_two min_two
set_option maxHeartbeats 4000000 in
set_option maxRecDepth 100000 in
theorem Dc.take_begin (dg : Nat) (gv ov mv : Value) (x : Evt.Ev) (w W0 : World) (hB : Below w.heap.size w W0) (hlo : w.heap.size ≤ dg) (hk : W0.heap[dg]? = some (.cells #[gv, ov, mv] 64 (0, 0))) (hkd : x.kind = 0) : Calls Tryd.prog 30 #[.pointer (some ⟨dg, 0, none⟩), .agg #[.int .i64 x.kind, .string x.anchor, .string x.tag, .string x.text, .bool x.plain]] W0 fun e w' => e = .returned (.tuple #[.bool false, .int .i64 0]) ∧ ∃ mb, Dc.Rep w.heap.size w' [] [] [] (.slice none 0 0) (.slice none 0 0) mb ∧ w'.heap[dg]? = some (.cells #[.slice none 0 0, .slice none 0 0, .map (some mb)] 64 (0, 0)) ∧ Aft (fun b => b = dg) W0 w' ∧ W0.heap.size ≤ mb := by
 refine enter Tryd.func30 rfl fun A d0 s0 v0 => ?_
 have s0 : A.tmps.size = 60 := s0
 have y0 : A.eval (.tmp 0) = .pointer (some ⟨dg, 0, none⟩) := v0 0 (by simp)
 have y1 : A.eval (.tmp 1) = .agg #[.int .i64 x.kind, .string x.anchor, .string x.tag, .string x.text, .bool x.plain] := v0 1 (by simp)
 clear v0
 refine wp_seq (regionS (still [fun u_ => True, fun u_ => u_ = .bool false, fun u_ => u_ = .int .i64 0]) (fun i => ([.alloc 30 #[.int .i64 x.kind, .string x.anchor, .string x.tag, .string x.text, .bool x.plain], .plain, .plain] : List Kind).getD i .plain) 3 0 60 s0 rfl (by kernel_rfl) (still_stable _) (Or.inr (still_any _)) ?_ ?_)
 ·refine .c ?_ (.c ?_ (.c ?_ (.nil)))
  ·refine made rfl (by simp) rfl (fun a w' hd ho => ?_) (fun _ _ => trivial)
   exact run_box rfl ((ho 1 (by kernel_rfl)).trans y1)
  ·exact pq fun a w' H => ra (rfl : a.eval (.const (.bool false)) = .bool false)
  exact pq fun a w' H => ra (rfl : a.eval (.const (.int .i64 0)) = .int .i64 0)
 intro A w1 T
 have y0 := T.r1 y0
 have kdg_1 := (T.below.block _ (Array.getElem?_eq_some_iff.1 hk).1).trans hk
 have ldg_1 := Nat.lt_of_lt_of_le (Array.getElem?_eq_some_iff.1 hk).1 T.below.size
 obtain ⟨g3_1, y3, rg3_1, lg3_1_1, kg3_1_1⟩ := T.al 0 3 _ _ rfl rfl rfl (by kernel_rfl)
 have d1 := T.e d0
 have s1 := T.z s0
 have bl1 := hB.trans (T.below.mono hB.size)
 have XX_1 := Aft.step (Aft.refl (fun b => b = dg) W0) T.below
 clear T
 refine tail_nil (wp_seq (wp_seq ?_))
 refine rP [.pointer (some ⟨g3_1, 0, none⟩), .int .i64 x.kind] 2 0 s1 (.c (pq fun a w' H => fb Tryd.underlying30 0 (H.q 3 y3)) (.c (pq fun a w' H => lb (H.d 0 8) (H.x lg3_1_1 kg3_1_1)) .nil)) fun A w2 T => ?_
 have y0 := T.r1 y0
 have ⟨kdg_2, ldg_2⟩ := T.y kdg_1 ldg_1
 have y9 := T.u 1 9
 have ⟨d2, s2, bl2⟩ := T.h d1 s1 bl1
 have XX_2 := Aft.step XX_1 T.below
 clear T
 refine tail_nil (wp_block ?_)
 refine wp_seq ?_
 obtain ⟨q14, Bq14⟩ := nm (x.kind == 0)
 refine rP [.bool q14, .bool q14] 2 0 s2 (.c (pv fun a w' H => vr (bb Bq14) (ok (.int .i64 0) (H.q 9 y9))) (.c (qe 0 14) .nil)) fun A w3 T => ?_
 have y0 := T.r1 y0
 have ⟨kdg_3, ldg_3⟩ := T.y kdg_2 ldg_2
 have y13 := T.u 1 13
 have ⟨d3, s3, bl3⟩ := T.h d2 s2 bl2
 have XX_3 := Aft.step XX_2 T.below
 clear T
 refine tail_nil ?_
 have n13_0 : q14 = true := by
  simp only [Bq14]
  rw [hkd]; rfl
 refine wp_cond_true (y13.trans (by rw [n13_0])) (regionT (n := 5) rfl ?_)
 refine tail_val rfl rfl rfl (rv y0) s3 rfl fun A d4 s4 hv hr => ?_
 have y15 : A.eval (.tmp 15) = .pointer (some ⟨dg, 0, none⟩) := hv
 have d4 := d4.trans d3
 clear hv hr
 refine tail_ex rfl rfl rfl (Dc.make_ex (B := w.heap.size) rfl bl3.size) s4 rfl fun v_5 w5 A R d5 s5 hv hr => ?_
 obtain ⟨mb5, ev_5, rm_5, M_5, b_5⟩ := R
 have y15 := k1 hr y15
 have y16 : A.eval (.tmp 16) = v_5 := hv
 have d5 := d5.trans d4
 clear hv hr
 have nm5 : W0.heap.size ≤ mb5 := Nat.le_trans XX_3.size rm_5
 have kdg_5 := (b_5.block _ ldg_3).trans kdg_3
 have ldg_5 := Nat.lt_of_lt_of_le ldg_3 b_5.size
 have XX_5 := Aft.step XX_3 b_5
 rw [ev_5] at y16
 refine tail_val (w1 := w5) (v := .agg #[.slice none 0 0, .slice none 0 0, .map (some mb5)]) rfl rfl rfl (o1 y16) s5 rfl ?_
 intro A d6 s6 hv hr
 have y15 := k1 hr y15
 have y17 : A.eval (.tmp 17) = .agg #[.slice none 0 0, .slice none 0 0, .map (some mb5)] := hv
 have d6 := d6.trans d5
 clear hv hr
 refine tail_val (w1 := w5) (v := .pointer (some ⟨dg, 0, none⟩)) rfl rfl rfl ?_ s6 rfl ?_
 ·exact run_nilb rfl y15
 intro A d7 s7 hv hr
 have y17 := k1 hr y17
 have y18 : A.eval (.tmp 18) = .pointer (some ⟨dg, 0, none⟩) := hv
 have d7 := d7.trans d6
 clear hv hr
 refine tail_put [.slice none 0 0, .slice none 0 0, .map (some mb5)] (n := 0) (new := #[.slice none 0 0, .slice none 0 0, .map (some mb5)]) rfl rfl rfl kdg_5 rfl ?_ fun w8 S => ?_
 ·have e0 : A.eval (.tmp 18) = .pointer (some ⟨dg, 0, none⟩) := y18
  have e1 : A.eval (.tmp 17) = .agg #[.slice none 0 0, .slice none 0 0, .map (some mb5)] := y17
  have z0 := (Eng.cells kdg_5 (0)).trans (rfl)
  have f0 := unfrozen kdg_5 (0)
  have z1 := (Eng.cells kdg_5 (1)).trans (rfl)
  have f1 := unfrozen kdg_5 (1)
  have z2 := (Eng.cells kdg_5 (2)).trans (rfl)
  have f2 := unfrozen kdg_5 (2)
  simp only [execOp]
  rw [e0, e1]
  go_simp
  try rfl
 have kdg_8 := S.new
 have ldg_8 := Nat.lt_of_lt_of_eq ldg_5 S.size.symm
 have XX_8 := Aft.sets XX_5 S (fun _ => rfl)
 have XM_8 := Dc.mrep_sets M_5 S kdg_5
 clear S
 refine tail_nil (wp_seq ?_)
 refine rP [.bool false, .int .i64 0] 2 0 s7 (.c (pq fun a w' H => ra (rfl : a.eval (.const (.bool false)) = .bool false)) (.c (pq fun a w' H => ra (rfl : a.eval (.const (.int .i64 0)) = .int .i64 0)) .nil)) fun A w9 T => ?_
 have kdg_9 := T.x ldg_8 kdg_8
 have y4 := T.u 0 4
 have y5 := T.u 1 5
 have d9 := T.e d7
 have XX_9 := Aft.step XX_8 T.below
 have XM_9 := Dc.mrep_below XM_8 T.below
 clear T
 refine tail_nil (wp_ret ?_)
 repeat (first | refine in_ret ?_ | refine then_ret ?_)
 exact ret2 rfl d9 y4 y5 ⟨rfl, mb5, Dc.rep_nil XM_9, kdg_9, XX_9, nm5⟩
set_option maxHeartbeats 4000000 in
set_option maxRecDepth 100000 in
theorem Dc.take_end (dg mb : Nat) (gv ov : Value) (h : List Dc.NV) (opn : List Int) (names : List (List UInt8 × Int)) (x : Evt.Ev) (w W0 : World) (hB : Below w.heap.size w W0) (hlo : w.heap.size ≤ dg) (hk : W0.heap[dg]? = some (.cells #[gv, ov, .map (some mb)] 64 (0, 0))) (hR : Dc.Rep w.heap.size W0 h opn names gv ov mb) (hkd : x.kind = 1) (hTw : Dc.TwOK (h.map (·.1))) : Calls Tryd.prog 30 #[.pointer (some ⟨dg, 0, none⟩), .agg #[.int .i64 x.kind, .string x.anchor, .string x.tag, .string x.text, .bool x.plain]] W0 fun e w' => e = .returned (.tuple #[.bool (!Dc.twiceF (h.map (·.1))), .int .i64 (if Dc.twiceF (h.map (·.1)) = true then 12 else 0)]) ∧ Dc.St w.heap.size W0 w' dg (Dc.Blk h gv ov mb) h opn names gv ov mb ∧ w'.heap[dg]? = some (.cells #[gv, ov, .map (some mb)] 64 (0, 0)) := by
 refine enter Tryd.func30 rfl fun A d0 s0 v0 => ?_
 have s0 : A.tmps.size = 60 := s0
 have y0 : A.eval (.tmp 0) = .pointer (some ⟨dg, 0, none⟩) := v0 0 (by simp)
 have y1 : A.eval (.tmp 1) = .agg #[.int .i64 x.kind, .string x.anchor, .string x.tag, .string x.text, .bool x.plain] := v0 1 (by simp)
 clear v0
 refine wp_seq (regionS (still [fun u_ => True, fun u_ => u_ = .bool false, fun u_ => u_ = .int .i64 0]) (fun i => ([.alloc 30 #[.int .i64 x.kind, .string x.anchor, .string x.tag, .string x.text, .bool x.plain], .plain, .plain] : List Kind).getD i .plain) 3 0 60 s0 rfl (by kernel_rfl) (still_stable _) (Or.inr (still_any _)) ?_ ?_)
 ·refine .c ?_ (.c ?_ (.c ?_ (.nil)))
  ·refine made rfl (by simp) rfl (fun a w' hd ho => ?_) (fun _ _ => trivial)
   exact run_box rfl ((ho 1 (by kernel_rfl)).trans y1)
  ·exact pq fun a w' H => ra (rfl : a.eval (.const (.bool false)) = .bool false)
  exact pq fun a w' H => ra (rfl : a.eval (.const (.int .i64 0)) = .int .i64 0)
 intro A w1 T
 have y0 := T.r1 y0
 have kdg_1 := (T.below.block _ (Array.getElem?_eq_some_iff.1 hk).1).trans hk
 have ldg_1 := Nat.lt_of_lt_of_le (Array.getElem?_eq_some_iff.1 hk).1 T.below.size
 obtain ⟨g3_1, y3, rg3_1, lg3_1_1, kg3_1_1⟩ := T.al 0 3 _ _ rfl rfl rfl (by kernel_rfl)
 have d1 := T.e d0
 have s1 := T.z s0
 have XX_1 := Dc.St.below (Dc.St.start (dg := dg) hR) T.below
 clear T
 refine tail_nil (wp_seq (wp_seq ?_))
 refine rP [.pointer (some ⟨g3_1, 0, none⟩), .int .i64 x.kind] 2 0 s1 (.c (pq fun a w' H => fb Tryd.underlying30 0 (H.q 3 y3)) (.c (pq fun a w' H => lb (H.d 0 8) (H.x lg3_1_1 kg3_1_1)) .nil)) fun A w2 T => ?_
 have y0 := T.r1 y0
 have ⟨kdg_2, ldg_2⟩ := T.y kdg_1 ldg_1
 have y9 := T.u 1 9
 have d2 := T.e d1
 have s2 := T.z s1
 have XX_2 := Dc.St.below XX_1 T.below
 clear T
 refine tail_nil (wp_block ?_)
 refine wp_seq ?_
 obtain ⟨q14, Bq14⟩ := nm (x.kind == 0)
 refine rP [.bool q14, .bool q14] 2 0 s2 (.c (pv fun a w' H => vr (bb Bq14) (ok (.int .i64 0) (H.q 9 y9))) (.c (qe 0 14) .nil)) fun A w3 T => ?_
 have ⟨y0, y9⟩ := T.r2 y0 y9
 have ⟨kdg_3, ldg_3⟩ := T.y kdg_2 ldg_2
 have y13 := T.u 1 13
 have d3 := T.e d2
 have s3 := T.z s2
 have XX_3 := Dc.St.below XX_2 T.below
 clear T
 refine tail_nil ?_
 have n13_0 : q14 = false := by
  simp only [Bq14]
  rw [hkd]; rfl
 refine wp_cond_false (y13.trans (by rw [n13_0])) (wp_seq ?_)
 obtain ⟨q20, Bq20⟩ := nm (x.kind == 1)
 refine rP [.bool q20, .bool q20] 2 0 s3 (.c (pv fun a w' H => vr (bb Bq20) (ok (.int .i64 1) (H.q 9 y9))) (.c (qe 0 20) .nil)) fun A w4 T => ?_
 have y0 := T.r1 y0
 have ⟨kdg_4, ldg_4⟩ := T.y kdg_3 ldg_3
 have y19 := T.u 1 19
 have d4 := T.e d3
 have s4 := T.z s3
 have XX_4 := Dc.St.below XX_3 T.below
 clear T
 refine tail_nil ?_
 have n19_1 : q20 = true := by
  simp only [Bq20, Bq14]
  rw [hkd]; rfl
 refine wp_cond_true (y19.trans (by rw [n19_1])) (wp_seq (wp_seq ?_))
 obtain ⟨q25, Bq25⟩ := nm (Dc.twiceF (h.map (·.1)))
 refine rS [.pointer (some ⟨dg, 0, none⟩), .pointer (some ⟨dg, 0, none⟩), .pointer (some ⟨dg, 0, none⟩), gv, .bool q25] (fun _ => .plain) 5 0 s4 ?_ ?_
 ·refine .c ?_ (.c ?_ (.c ?_ (.c ?_ (.c ?_ (.nil)))))
  ·exact qq 0 y0
  ·exact pq fun a w' H => run_nilb rfl (H.d 0 21)
  ·exact pq fun a w' H => fb Tryd.underlying64 0 (H.d 1 22)
  ·exact pq fun a w' H => lb (H.d 2 23) (H.x ldg_4 kdg_4)
  refine pv fun a w' H => call Tryd.func41 (by kernel_rfl) (by kernel_rfl) rfl #[gv] ?_ ?_
  ·have e0 : a.eval (.tmp 24) = gv := (H.d 3 24); simp only [List.map_toArray, List.map_cons, List.map_nil, e0]
  refine (hTw w.heap.size _ h opn names gv ov mb rfl (Dc.Rep.below XX_4.R H.below)).mono ?_
  rintro e w'' ⟨rfl, hb⟩
  exact ⟨_, rfl, (by show _ = Value.bool q25; rw [Bq25]), hb⟩
 intro A w5 T
 have ⟨kdg_5, ldg_5⟩ := T.y kdg_4 ldg_4
 have y25 := T.u 4 25
 have d5 := T.e d4
 have s5 := T.z s4
 have XX_5 := Dc.St.below XX_4 T.below
 clear T
 refine tail_nil (wp_cond_split y25 (fun hq => ?_) (fun hq => ?_))
 ·
  have c25 := Bq25.symm.trans hq
  clear hq
  refine wp_seq (rP [.bool false, .int .i64 12] 2 0 s5 (.c (pq fun a w' H => ra (rfl : a.eval (.const (.bool false)) = .bool false)) (.c (pq fun a w' H => ra (rfl : a.eval (.const (.int .i64 12)) = .int .i64 12)) .nil)) fun A w7 T => ?_)
  have kdg_7 := T.x ldg_5 kdg_5
  have y4 := T.u 0 4
  have y5 := T.u 1 5
  have d7 := T.e d5
  have XX_7 := Dc.St.below XX_5 T.below
  clear T
  refine tail_nil (wp_ret ?_)
  repeat (first | refine in_ret ?_ | refine then_ret ?_)
  have htw : Dc.twiceF (h.map (·.1)) = true := by have h1 := c25; simpa using h1
  exact ret2 rfl d7 y4 y5 ⟨by rw [htw]; rfl, XX_7, kdg_7⟩
 have c25 := Bq25.symm.trans hq
 clear hq
 refine wp_skip (wp_seq ?_)
 refine rP [.bool true, .int .i64 0] 2 0 s5 (.c (pq fun a w' H => ra (rfl : a.eval (.const (.bool true)) = .bool true)) (.c (pq fun a w' H => ra (rfl : a.eval (.const (.int .i64 0)) = .int .i64 0)) .nil)) fun A w9 T => ?_
 have kdg_9 := T.x ldg_5 kdg_5
 have y4 := T.u 0 4
 have y5 := T.u 1 5
 have d9 := T.e d5
 have XX_9 := Dc.St.below XX_5 T.below
 clear T
 refine tail_nil (wp_ret ?_)
 repeat (first | refine in_ret ?_ | refine then_ret ?_)
 have htw : Dc.twiceF (h.map (·.1)) = false := by have h1 := c25; simpa using h1
 exact ret2 rfl d9 y4 y5 ⟨by rw [htw]; rfl, XX_9, kdg_9⟩
set_option maxHeartbeats 4000000 in
set_option maxRecDepth 100000 in
theorem Dc.take_close3 (dg mb : Nat) (gv ov : Value) (h : List Dc.NV) (pre : List Int) (o : Int) (names : List (List UInt8 × Int)) (x : Evt.Ev) (w W0 : World) (hB : Below w.heap.size w W0) (hlo : w.heap.size ≤ dg) (hk : W0.heap[dg]? = some (.cells #[gv, ov, .map (some mb)] 64 (0, 0))) (hR : Dc.Rep w.heap.size W0 h (pre ++ [o]) names gv ov mb) (hkd : x.kind = 3) : Calls Tryd.prog 30 #[.pointer (some ⟨dg, 0, none⟩), .agg #[.int .i64 x.kind, .string x.anchor, .string x.tag, .string x.text, .bool x.plain]] W0 fun e w' => e = .returned (.tuple #[.bool false, .int .i64 0]) ∧ ∃ ov', Dc.St w.heap.size W0 w' dg (Dc.Blk h gv ov mb) h pre names gv ov' mb ∧ w'.heap[dg]? = some (.cells #[gv, ov', .map (some mb)] 64 (0, 0)) := by
 have hm := Reads.len_le (Reads.of_own hR.op)
 rw [List.length_append] at hm
 have hm1 : pre.length + 1 ≤ 9223372036854775807 := hm
 refine enter Tryd.func30 rfl fun A d0 s0 v0 => ?_
 have s0 : A.tmps.size = 60 := s0
 have y0 : A.eval (.tmp 0) = .pointer (some ⟨dg, 0, none⟩) := v0 0 (by simp)
 have y1 : A.eval (.tmp 1) = .agg #[.int .i64 x.kind, .string x.anchor, .string x.tag, .string x.text, .bool x.plain] := v0 1 (by simp)
 clear v0
 refine wp_seq (regionS (still [fun u_ => True, fun u_ => u_ = .bool false, fun u_ => u_ = .int .i64 0]) (fun i => ([.alloc 30 #[.int .i64 x.kind, .string x.anchor, .string x.tag, .string x.text, .bool x.plain], .plain, .plain] : List Kind).getD i .plain) 3 0 60 s0 rfl (by kernel_rfl) (still_stable _) (Or.inr (still_any _)) ?_ ?_)
 ·refine .c ?_ (.c ?_ (.c ?_ (.nil)))
  ·refine made rfl (by simp) rfl (fun a w' hd ho => ?_) (fun _ _ => trivial)
   exact run_box rfl ((ho 1 (by kernel_rfl)).trans y1)
  ·exact pq fun a w' H => ra (rfl : a.eval (.const (.bool false)) = .bool false)
  exact pq fun a w' H => ra (rfl : a.eval (.const (.int .i64 0)) = .int .i64 0)
 intro A w1 T
 have y0 := T.r1 y0
 have kdg_1 := (T.below.block _ (Array.getElem?_eq_some_iff.1 hk).1).trans hk
 have ldg_1 := Nat.lt_of_lt_of_le (Array.getElem?_eq_some_iff.1 hk).1 T.below.size
 have Fop_1 := Reads.below (Reads.of_own hR.op) T.below
 obtain ⟨g3_1, y3, rg3_1, lg3_1_1, kg3_1_1⟩ := T.al 0 3 _ _ rfl rfl rfl (by kernel_rfl)
 have d1 := T.e d0
 have s1 := T.z s0
 have XX_1 := Dc.St.below (Dc.St.start (dg := dg) hR) T.below
 clear T
 refine tail_nil (wp_seq (wp_seq ?_))
 refine rP [.pointer (some ⟨g3_1, 0, none⟩), .int .i64 x.kind] 2 0 s1 (.c (pq fun a w' H => fb Tryd.underlying30 0 (H.q 3 y3)) (.c (pq fun a w' H => lb (H.d 0 8) (H.x lg3_1_1 kg3_1_1)) .nil)) fun A w2 T => ?_
 have y0 := T.r1 y0
 have ⟨kdg_2, ldg_2⟩ := T.y kdg_1 ldg_1
 have Fop_2 := T.f Fop_1
 have y9 := T.u 1 9
 have d2 := T.e d1
 have s2 := T.z s1
 have XX_2 := Dc.St.below XX_1 T.below
 clear T
 refine tail_nil (wp_block ?_)
 refine wp_seq ?_
 obtain ⟨q14, Bq14⟩ := nm (x.kind == 0)
 refine rP [.bool q14, .bool q14] 2 0 s2 (.c (pv fun a w' H => vr (bb Bq14) (ok (.int .i64 0) (H.q 9 y9))) (.c (qe 0 14) .nil)) fun A w3 T => ?_
 have ⟨y0, y9⟩ := T.r2 y0 y9
 have ⟨kdg_3, ldg_3⟩ := T.y kdg_2 ldg_2
 have Fop_3 := T.f Fop_2
 have y13 := T.u 1 13
 have d3 := T.e d2
 have s3 := T.z s2
 have XX_3 := Dc.St.below XX_2 T.below
 clear T
 refine tail_nil ?_
 have n13_0 : q14 = false := by
  simp only [Bq14]
  rw [hkd]; rfl
 refine wp_cond_false (y13.trans (by rw [n13_0])) (wp_seq ?_)
 obtain ⟨q20, Bq20⟩ := nm (x.kind == 1)
 refine rP [.bool q20, .bool q20] 2 0 s3 (.c (pv fun a w' H => vr (bb Bq20) (ok (.int .i64 1) (H.q 9 y9))) (.c (qe 0 20) .nil)) fun A w4 T => ?_
 have ⟨y0, y9⟩ := T.r2 y0 y9
 have ⟨kdg_4, ldg_4⟩ := T.y kdg_3 ldg_3
 have Fop_4 := T.f Fop_3
 have y19 := T.u 1 19
 have d4 := T.e d3
 have s4 := T.z s3
 have XX_4 := Dc.St.below XX_3 T.below
 clear T
 refine tail_nil ?_
 have n19_1 : q20 = false := by
  simp only [Bq20, Bq14]
  rw [hkd]; rfl
 refine wp_cond_false (y19.trans (by rw [n19_1])) (wp_seq (wp_seq ?_))
 obtain ⟨q27, Bq27⟩ := nm (x.kind == 3)
 refine rP [.bool q27, .bool q27] 2 0 s4 (.c (pv fun a w' H => vr (bb Bq27) (ok (.int .i64 3) (H.q 9 y9))) (.c (qe 0 27) .nil)) fun A w5 T => ?_
 have y0 := T.r1 y0
 have ⟨kdg_5, ldg_5⟩ := T.y kdg_4 ldg_4
 have Fop_5 := T.f Fop_4
 have y26 := T.u 1 26
 have d5 := T.e d4
 have s5 := T.z s4
 have XX_5 := Dc.St.below XX_4 T.below
 clear T
 refine tail_nil ?_
 have n26_3 : q27 = true := by
  simp only [Bq27, Bq20, Bq14]
  rw [hkd]; rfl
 refine wp_cond_true (y26.trans (by rw [n26_3])) (wp_skip ?_)
 have n26_3 : q27 = true := by
  simp only [Bq27, Bq20, Bq14]
  rw [hkd]; rfl
 refine wp_cond_true (y26.trans (by rw [n26_3])) (rD [.pointer (some ⟨dg, 0, none⟩), .pointer (some ⟨dg, 0, none⟩), .pointer (some ⟨dg, 0, none⟩), .pointer (some ⟨dg, 1, none⟩), ov, .pointer (some ⟨dg, 0, none⟩), .pointer (some ⟨dg, 0, none⟩), .pointer (some ⟨dg, 1, none⟩), ov, .int .i64 (((pre ++ [o]).length : Nat) : Int), .int .i64 (IntKind.i64.wrap ((((pre ++ [o]).length : Nat) : Int) - 1)), (cutVal ov 0 pre.length 1), .pointer (some ⟨dg, 0, none⟩), .pointer (some ⟨dg, 1, none⟩)] (fun _ => .plain) 14 1 s5 ?_ ?_)
 ·refine .c ?_ (.c ?_ (.c ?_ (.c ?_ (.c ?_ (.c ?_ (.c ?_ (.c ?_ (.c ?_ (.c ?_ (.c ?_ (.c ?_ (.c ?_ (.c ?_ (.cons (fun h => absurd h (by decide)) (.nil)))))))))))))))
  ·exact qq 0 y0
  ·exact qq 0 y0
  ·exact pq fun a w' H => run_nilb rfl (H.d 1 30)
  ·exact pq fun a w' H => fb Tryd.underlying64 1 (H.d 2 31)
  ·exact pq fun a w' H => lb (H.d 3 32) (H.x ldg_5 kdg_5)
  ·exact qq 0 y0
  ·exact pq fun a w' H => run_nilb rfl (H.d 5 34)
  ·exact pq fun a w' H => fb Tryd.underlying64 1 (H.d 6 35)
  ·exact pq fun a w' H => lb (H.d 7 36) (H.x ldg_5 kdg_5)
  ·exact pv fun a w' H => vr (v := .int .i64 (((pre ++ [o]).length : Nat) : Int)) rfl (run_len_sl rfl Tryd.underlying55 (H.d 8 37) (Reads.below Fop_5 H.below))
  ·exact pv fun a w' H => vr (v := .int .i64 (IntKind.i64.wrap ((((pre ++ [o]).length : Nat) : Int) - 1))) rfl (ok (.int .i64 1) (H.d 9 38))
  ·exact pv fun a w' H => vr (v := (cutVal ov 0 pre.length 1)) rfl (run_cutv (l := 0) (h := pre.length) (size := 1) rfl Tryd.underlying55 (by kernel_rfl) (H.d 4 33) (Reads.below Fop_5 H.below) rfl (congrArg some ((H.d 10 39).trans (congrArg (Value.int _) (show IntKind.i64.wrap ((((pre ++ [o]).length : Nat) : Int) - 1) = ((pre.length : Nat) : Int) from by exact Dc.last_ix pre o hm1)))) (Or.inl ⟨rfl, rfl⟩) (Or.inr ⟨_, rfl⟩) (by omega) (by first | omega | (simp; done) | (simp; omega)))
  ·exact pq fun a w' H => run_nilb rfl (H.d 0 29)
  exact pq fun a w' H => fb Tryd.underlying64 1 (H.d 12 41)
 intro A w6 T
 have ⟨kdg_6, ldg_6⟩ := T.y kdg_5 ldg_5
 have y40 := T.u 11 40
 have y42 := T.u 13 42
 have d6 := T.e d5
 have s6 := T.z s5
 have XX_6 := Dc.St.below XX_5 T.below
 obtain ⟨cv6, hcv6⟩ : ∃ v, v = cutVal ov 0 pre.length 1 := ⟨_, rfl⟩
 have Xp6 := Dc.St.pop XX_6
 rw [← hcv6] at Xp6
 have hx6 := y40.trans hcv6.symm
 have Oc6 := Xp6.R.op
 have Fc6 := Reads.of_own Oc6
 clear hcv6
 clear T
 refine tail_set (n := 1) (v := cv6) (new := #[gv, cv6, .map (some mb)]) rfl rfl rfl kdg_6 rfl ?_ fun w7 S => ?_
 ·have e0 : A.eval (.tmp 42) = .pointer (some ⟨dg, 1, none⟩) := y42
  have e1 : A.eval (.tmp 40) = cv6 := hx6
  obtain ⟨A0_, c0_, ev0_⟩ := Reads.shape Fc6
  subst ev0_
  have z0 := (Eng.cells kdg_6 (1)).trans (rfl)
  have f0 := unfrozen kdg_6 (1)
  simp only [execOp]
  rw [e0, e1]
  go_simp
 have kdg_7 := S.new
 have ldg_7 := Nat.lt_of_lt_of_eq ldg_6 S.size.symm
 have XX_7 := Dc.St.setd Xp6 S kdg_6
 clear S
 refine tail_nil (wp_seq ?_)
 refine rP [.bool false, .int .i64 0] 2 0 s6 (.c (pq fun a w' H => ra (rfl : a.eval (.const (.bool false)) = .bool false)) (.c (pq fun a w' H => ra (rfl : a.eval (.const (.int .i64 0)) = .int .i64 0)) .nil)) fun A w8 T => ?_
 have kdg_8 := T.x ldg_7 kdg_7
 have y4 := T.u 0 4
 have y5 := T.u 1 5
 have d8 := T.e d6
 have XX_8 := Dc.St.below XX_7 T.below
 clear T
 refine tail_nil (wp_ret ?_)
 repeat (first | refine in_ret ?_ | refine then_ret ?_)
 exact ret2 rfl d8 y4 y5 ⟨rfl, cv6, XX_8, kdg_8⟩
set_option maxHeartbeats 4000000 in
set_option maxRecDepth 100000 in
theorem Dc.take_close5 (dg mb : Nat) (gv ov : Value) (h : List Dc.NV) (pre : List Int) (o : Int) (names : List (List UInt8 × Int)) (x : Evt.Ev) (w W0 : World) (hB : Below w.heap.size w W0) (hlo : w.heap.size ≤ dg) (hk : W0.heap[dg]? = some (.cells #[gv, ov, .map (some mb)] 64 (0, 0))) (hR : Dc.Rep w.heap.size W0 h (pre ++ [o]) names gv ov mb) (hkd : x.kind = 5) : Calls Tryd.prog 30 #[.pointer (some ⟨dg, 0, none⟩), .agg #[.int .i64 x.kind, .string x.anchor, .string x.tag, .string x.text, .bool x.plain]] W0 fun e w' => e = .returned (.tuple #[.bool false, .int .i64 0]) ∧ ∃ ov', Dc.St w.heap.size W0 w' dg (Dc.Blk h gv ov mb) h pre names gv ov' mb ∧ w'.heap[dg]? = some (.cells #[gv, ov', .map (some mb)] 64 (0, 0)) := by
 have hm := Reads.len_le (Reads.of_own hR.op)
 rw [List.length_append] at hm
 have hm1 : pre.length + 1 ≤ 9223372036854775807 := hm
 refine enter Tryd.func30 rfl fun A d0 s0 v0 => ?_
 have s0 : A.tmps.size = 60 := s0
 have y0 : A.eval (.tmp 0) = .pointer (some ⟨dg, 0, none⟩) := v0 0 (by simp)
 have y1 : A.eval (.tmp 1) = .agg #[.int .i64 x.kind, .string x.anchor, .string x.tag, .string x.text, .bool x.plain] := v0 1 (by simp)
 clear v0
 refine wp_seq (regionS (still [fun u_ => True, fun u_ => u_ = .bool false, fun u_ => u_ = .int .i64 0]) (fun i => ([.alloc 30 #[.int .i64 x.kind, .string x.anchor, .string x.tag, .string x.text, .bool x.plain], .plain, .plain] : List Kind).getD i .plain) 3 0 60 s0 rfl (by kernel_rfl) (still_stable _) (Or.inr (still_any _)) ?_ ?_)
 ·refine .c ?_ (.c ?_ (.c ?_ (.nil)))
  ·refine made rfl (by simp) rfl (fun a w' hd ho => ?_) (fun _ _ => trivial)
   exact run_box rfl ((ho 1 (by kernel_rfl)).trans y1)
  ·exact pq fun a w' H => ra (rfl : a.eval (.const (.bool false)) = .bool false)
  exact pq fun a w' H => ra (rfl : a.eval (.const (.int .i64 0)) = .int .i64 0)
 intro A w1 T
 have y0 := T.r1 y0
 have kdg_1 := (T.below.block _ (Array.getElem?_eq_some_iff.1 hk).1).trans hk
 have ldg_1 := Nat.lt_of_lt_of_le (Array.getElem?_eq_some_iff.1 hk).1 T.below.size
 have Fop_1 := Reads.below (Reads.of_own hR.op) T.below
 obtain ⟨g3_1, y3, rg3_1, lg3_1_1, kg3_1_1⟩ := T.al 0 3 _ _ rfl rfl rfl (by kernel_rfl)
 have d1 := T.e d0
 have s1 := T.z s0
 have XX_1 := Dc.St.below (Dc.St.start (dg := dg) hR) T.below
 clear T
 refine tail_nil (wp_seq (wp_seq ?_))
 refine rP [.pointer (some ⟨g3_1, 0, none⟩), .int .i64 x.kind] 2 0 s1 (.c (pq fun a w' H => fb Tryd.underlying30 0 (H.q 3 y3)) (.c (pq fun a w' H => lb (H.d 0 8) (H.x lg3_1_1 kg3_1_1)) .nil)) fun A w2 T => ?_
 have y0 := T.r1 y0
 have ⟨kdg_2, ldg_2⟩ := T.y kdg_1 ldg_1
 have Fop_2 := T.f Fop_1
 have y9 := T.u 1 9
 have d2 := T.e d1
 have s2 := T.z s1
 have XX_2 := Dc.St.below XX_1 T.below
 clear T
 refine tail_nil (wp_block ?_)
 refine wp_seq ?_
 obtain ⟨q14, Bq14⟩ := nm (x.kind == 0)
 refine rP [.bool q14, .bool q14] 2 0 s2 (.c (pv fun a w' H => vr (bb Bq14) (ok (.int .i64 0) (H.q 9 y9))) (.c (qe 0 14) .nil)) fun A w3 T => ?_
 have ⟨y0, y9⟩ := T.r2 y0 y9
 have ⟨kdg_3, ldg_3⟩ := T.y kdg_2 ldg_2
 have Fop_3 := T.f Fop_2
 have y13 := T.u 1 13
 have d3 := T.e d2
 have s3 := T.z s2
 have XX_3 := Dc.St.below XX_2 T.below
 clear T
 refine tail_nil ?_
 have n13_0 : q14 = false := by
  simp only [Bq14]
  rw [hkd]; rfl
 refine wp_cond_false (y13.trans (by rw [n13_0])) (wp_seq ?_)
 obtain ⟨q20, Bq20⟩ := nm (x.kind == 1)
 refine rP [.bool q20, .bool q20] 2 0 s3 (.c (pv fun a w' H => vr (bb Bq20) (ok (.int .i64 1) (H.q 9 y9))) (.c (qe 0 20) .nil)) fun A w4 T => ?_
 have ⟨y0, y9⟩ := T.r2 y0 y9
 have ⟨kdg_4, ldg_4⟩ := T.y kdg_3 ldg_3
 have Fop_4 := T.f Fop_3
 have y19 := T.u 1 19
 have d4 := T.e d3
 have s4 := T.z s3
 have XX_4 := Dc.St.below XX_3 T.below
 clear T
 refine tail_nil ?_
 have n19_1 : q20 = false := by
  simp only [Bq20, Bq14]
  rw [hkd]; rfl
 refine wp_cond_false (y19.trans (by rw [n19_1])) (wp_seq (wp_seq ?_))
 obtain ⟨q27, Bq27⟩ := nm (x.kind == 3)
 refine rP [.bool q27, .bool q27] 2 0 s4 (.c (pv fun a w' H => vr (bb Bq27) (ok (.int .i64 3) (H.q 9 y9))) (.c (qe 0 27) .nil)) fun A w5 T => ?_
 have ⟨y0, y9⟩ := T.r2 y0 y9
 have ⟨kdg_5, ldg_5⟩ := T.y kdg_4 ldg_4
 have Fop_5 := T.f Fop_4
 have y26 := T.u 1 26
 have d5 := T.e d4
 have s5 := T.z s4
 have XX_5 := Dc.St.below XX_4 T.below
 clear T
 refine tail_nil ?_
 have n26_3 : q27 = false := by
  simp only [Bq27, Bq20, Bq14]
  rw [hkd]; rfl
 refine wp_cond_false (y26.trans (by rw [n26_3])) ?_
 obtain ⟨q28, Bq28⟩ := nm (x.kind == 5)
 refine rP [.bool q28, .bool q28] 2 0 s5 (.c (pv fun a w' H => vr (bb Bq28) (ok (.int .i64 5) (H.q 9 y9))) (.c (qe 0 28) .nil)) fun A w6 T => ?_
 have y0 := T.r1 y0
 have ⟨kdg_6, ldg_6⟩ := T.y kdg_5 ldg_5
 have Fop_6 := T.f Fop_5
 have y26 := T.u 1 26
 have d6 := T.e d5
 have s6 := T.z s5
 have XX_6 := Dc.St.below XX_5 T.below
 clear T
 refine tail_nil ?_
 have n26_5 : q28 = true := by
  simp only [Bq28, Bq27, Bq20, Bq14]
  rw [hkd]; rfl
 refine wp_cond_true (y26.trans (by rw [n26_5])) (rD [.pointer (some ⟨dg, 0, none⟩), .pointer (some ⟨dg, 0, none⟩), .pointer (some ⟨dg, 0, none⟩), .pointer (some ⟨dg, 1, none⟩), ov, .pointer (some ⟨dg, 0, none⟩), .pointer (some ⟨dg, 0, none⟩), .pointer (some ⟨dg, 1, none⟩), ov, .int .i64 (((pre ++ [o]).length : Nat) : Int), .int .i64 (IntKind.i64.wrap ((((pre ++ [o]).length : Nat) : Int) - 1)), (cutVal ov 0 pre.length 1), .pointer (some ⟨dg, 0, none⟩), .pointer (some ⟨dg, 1, none⟩)] (fun _ => .plain) 14 1 s6 ?_ ?_)
 ·refine .c ?_ (.c ?_ (.c ?_ (.c ?_ (.c ?_ (.c ?_ (.c ?_ (.c ?_ (.c ?_ (.c ?_ (.c ?_ (.c ?_ (.c ?_ (.c ?_ (.cons (fun h => absurd h (by decide)) (.nil)))))))))))))))
  ·exact qq 0 y0
  ·exact qq 0 y0
  ·exact pq fun a w' H => run_nilb rfl (H.d 1 30)
  ·exact pq fun a w' H => fb Tryd.underlying64 1 (H.d 2 31)
  ·exact pq fun a w' H => lb (H.d 3 32) (H.x ldg_6 kdg_6)
  ·exact qq 0 y0
  ·exact pq fun a w' H => run_nilb rfl (H.d 5 34)
  ·exact pq fun a w' H => fb Tryd.underlying64 1 (H.d 6 35)
  ·exact pq fun a w' H => lb (H.d 7 36) (H.x ldg_6 kdg_6)
  ·exact pv fun a w' H => vr (v := .int .i64 (((pre ++ [o]).length : Nat) : Int)) rfl (run_len_sl rfl Tryd.underlying55 (H.d 8 37) (Reads.below Fop_6 H.below))
  ·exact pv fun a w' H => vr (v := .int .i64 (IntKind.i64.wrap ((((pre ++ [o]).length : Nat) : Int) - 1))) rfl (ok (.int .i64 1) (H.d 9 38))
  ·exact pv fun a w' H => vr (v := (cutVal ov 0 pre.length 1)) rfl (run_cutv (l := 0) (h := pre.length) (size := 1) rfl Tryd.underlying55 (by kernel_rfl) (H.d 4 33) (Reads.below Fop_6 H.below) rfl (congrArg some ((H.d 10 39).trans (congrArg (Value.int _) (show IntKind.i64.wrap ((((pre ++ [o]).length : Nat) : Int) - 1) = ((pre.length : Nat) : Int) from by exact Dc.last_ix pre o hm1)))) (Or.inl ⟨rfl, rfl⟩) (Or.inr ⟨_, rfl⟩) (by omega) (by first | omega | (simp; done) | (simp; omega)))
  ·exact pq fun a w' H => run_nilb rfl (H.d 0 29)
  exact pq fun a w' H => fb Tryd.underlying64 1 (H.d 12 41)
 intro A w7 T
 have ⟨kdg_7, ldg_7⟩ := T.y kdg_6 ldg_6
 have y40 := T.u 11 40
 have y42 := T.u 13 42
 have d7 := T.e d6
 have s7 := T.z s6
 have XX_7 := Dc.St.below XX_6 T.below
 obtain ⟨cv7, hcv7⟩ : ∃ v, v = cutVal ov 0 pre.length 1 := ⟨_, rfl⟩
 have Xp7 := Dc.St.pop XX_7
 rw [← hcv7] at Xp7
 have hx7 := y40.trans hcv7.symm
 have Oc7 := Xp7.R.op
 have Fc7 := Reads.of_own Oc7
 clear hcv7
 clear T
 refine tail_set (n := 1) (v := cv7) (new := #[gv, cv7, .map (some mb)]) rfl rfl rfl kdg_7 rfl ?_ fun w8 S => ?_
 ·have e0 : A.eval (.tmp 42) = .pointer (some ⟨dg, 1, none⟩) := y42
  have e1 : A.eval (.tmp 40) = cv7 := hx7
  obtain ⟨A0_, c0_, ev0_⟩ := Reads.shape Fc7
  subst ev0_
  have z0 := (Eng.cells kdg_7 (1)).trans (rfl)
  have f0 := unfrozen kdg_7 (1)
  simp only [execOp]
  rw [e0, e1]
  go_simp
 have kdg_8 := S.new
 have ldg_8 := Nat.lt_of_lt_of_eq ldg_7 S.size.symm
 have XX_8 := Dc.St.setd Xp7 S kdg_7
 clear S
 refine tail_nil (wp_seq ?_)
 refine rP [.bool false, .int .i64 0] 2 0 s7 (.c (pq fun a w' H => ra (rfl : a.eval (.const (.bool false)) = .bool false)) (.c (pq fun a w' H => ra (rfl : a.eval (.const (.int .i64 0)) = .int .i64 0)) .nil)) fun A w9 T => ?_
 have kdg_9 := T.x ldg_8 kdg_8
 have y4 := T.u 0 4
 have y5 := T.u 1 5
 have d9 := T.e d7
 have XX_9 := Dc.St.below XX_8 T.below
 clear T
 refine tail_nil (wp_ret ?_)
 repeat (first | refine in_ret ?_ | refine then_ret ?_)
 exact ret2 rfl d9 y4 y5 ⟨rfl, cv7, XX_9, kdg_9⟩
set_option maxHeartbeats 4000000 in
set_option maxRecDepth 100000 in
theorem Dc.take_alias (dg mb : Nat) (gv ov : Value) (h : List Dc.NV) (opn : List Int) (names : List (List UInt8 × Int)) (x : Evt.Ev) (w W0 : World) (hB : Below w.heap.size w W0) (hlo : w.heap.size ≤ dg) (hk : W0.heap[dg]? = some (.cells #[gv, ov, .map (some mb)] 64 (0, 0))) (hR : Dc.Rep w.heap.size W0 h opn names gv ov mb) (hkd : x.kind = 7) (hasz : x.anchor.size ≤ maxLen) (hnv : ∀ s d, Dc.find names s = some d → 0 ≤ d ∧ d.toNat < h.length) (hop : ∀ o ∈ opn, 0 ≤ o ∧ o.toNat < h.length) (hkl : ∀ i, i < h.length → (h.getD i default).1.kids.length ≤ 1000000) : Calls Tryd.prog 30 #[.pointer (some ⟨dg, 0, none⟩), .agg #[.int .i64 x.kind, .string x.anchor, .string x.tag, .string x.text, .bool x.plain]] W0 fun e w' => ∃ h', e = .returned (.tuple #[.bool false, .int .i64 (Dc.aliasF ⟨h.map (·.1), opn, names⟩ x).2]) ∧ h'.map (·.1) = (Dc.aliasF ⟨h.map (·.1), opn, names⟩ x).1.nodes ∧ Dc.St w.heap.size W0 w' dg (Dc.Blk h gv ov mb) h' opn names gv ov mb ∧ w'.heap[dg]? = some (.cells #[gv, ov, .map (some mb)] 64 (0, 0)) := by
 refine enter Tryd.func30 rfl fun A d0 s0 v0 => ?_
 have s0 : A.tmps.size = 60 := s0
 have y0 : A.eval (.tmp 0) = .pointer (some ⟨dg, 0, none⟩) := v0 0 (by simp)
 have y1 : A.eval (.tmp 1) = .agg #[.int .i64 x.kind, .string x.anchor, .string x.tag, .string x.text, .bool x.plain] := v0 1 (by simp)
 clear v0
 refine wp_seq (regionS (still [fun u_ => True, fun u_ => u_ = .bool false, fun u_ => u_ = .int .i64 0]) (fun i => ([.alloc 30 #[.int .i64 x.kind, .string x.anchor, .string x.tag, .string x.text, .bool x.plain], .plain, .plain] : List Kind).getD i .plain) 3 0 60 s0 rfl (by kernel_rfl) (still_stable _) (Or.inr (still_any _)) ?_ ?_)
 ·refine .c ?_ (.c ?_ (.c ?_ (.nil)))
  ·refine made rfl (by simp) rfl (fun a w' hd ho => ?_) (fun _ _ => trivial)
   exact run_box rfl ((ho 1 (by kernel_rfl)).trans y1)
  ·exact pq fun a w' H => ra (rfl : a.eval (.const (.bool false)) = .bool false)
  exact pq fun a w' H => ra (rfl : a.eval (.const (.int .i64 0)) = .int .i64 0)
 intro A w1 T
 have y0 := T.r1 y0
 have kdg_1 := (T.below.block _ (Array.getElem?_eq_some_iff.1 hk).1).trans hk
 have ldg_1 := Nat.lt_of_lt_of_le (Array.getElem?_eq_some_iff.1 hk).1 T.below.size
 obtain ⟨g3_1, y3, rg3_1, lg3_1_1, kg3_1_1⟩ := T.al 0 3 _ _ rfl rfl rfl (by kernel_rfl)
 have d1 := T.e d0
 have s1 := T.z s0
 have bl1 := hB.trans (T.below.mono hB.size)
 have XX_1 := Dc.St.below (Dc.St.start (dg := dg) hR) T.below
 clear T
 refine tail_nil (wp_seq (wp_seq ?_))
 refine rP [.pointer (some ⟨g3_1, 0, none⟩), .int .i64 x.kind] 2 0 s1 (.c (pq fun a w' H => fb Tryd.underlying30 0 (H.q 3 y3)) (.c (pq fun a w' H => lb (H.d 0 8) (H.x lg3_1_1 kg3_1_1)) .nil)) fun A w2 T => ?_
 have ⟨y0, y3⟩ := T.r2 y0 y3
 have ⟨kdg_2, ldg_2⟩ := T.y kdg_1 ldg_1
 have ⟨kg3_1_2, lg3_1_2⟩ := T.y kg3_1_1 lg3_1_1
 have y9 := T.u 1 9
 have ⟨d2, s2, bl2⟩ := T.h d1 s1 bl1
 have XX_2 := Dc.St.below XX_1 T.below
 clear T
 refine tail_nil (wp_block ?_)
 refine wp_seq ?_
 obtain ⟨q14, Bq14⟩ := nm (x.kind == 0)
 refine rP [.bool q14, .bool q14] 2 0 s2 (.c (pv fun a w' H => vr (bb Bq14) (ok (.int .i64 0) (H.q 9 y9))) (.c (qe 0 14) .nil)) fun A w3 T => ?_
 have ⟨y0, y3, y9⟩ := T.r3 y0 y3 y9
 have ⟨kdg_3, ldg_3⟩ := T.y kdg_2 ldg_2
 have ⟨kg3_1_3, lg3_1_3⟩ := T.y kg3_1_2 lg3_1_2
 have y13 := T.u 1 13
 have ⟨d3, s3, bl3⟩ := T.h d2 s2 bl2
 have XX_3 := Dc.St.below XX_2 T.below
 clear T
 refine tail_nil ?_
 have n13_0 : q14 = false := by
  simp only [Bq14]
  rw [hkd]; rfl
 refine wp_cond_false (y13.trans (by rw [n13_0])) (wp_seq ?_)
 obtain ⟨q20, Bq20⟩ := nm (x.kind == 1)
 refine rP [.bool q20, .bool q20] 2 0 s3 (.c (pv fun a w' H => vr (bb Bq20) (ok (.int .i64 1) (H.q 9 y9))) (.c (qe 0 20) .nil)) fun A w4 T => ?_
 have ⟨y0, y3, y9⟩ := T.r3 y0 y3 y9
 have ⟨kdg_4, ldg_4⟩ := T.y kdg_3 ldg_3
 have ⟨kg3_1_4, lg3_1_4⟩ := T.y kg3_1_3 lg3_1_3
 have y19 := T.u 1 19
 have ⟨d4, s4, bl4⟩ := T.h d3 s3 bl3
 have XX_4 := Dc.St.below XX_3 T.below
 clear T
 refine tail_nil ?_
 have n19_1 : q20 = false := by
  simp only [Bq20, Bq14]
  rw [hkd]; rfl
 refine wp_cond_false (y19.trans (by rw [n19_1])) (wp_seq (wp_seq ?_))
 obtain ⟨q27, Bq27⟩ := nm (x.kind == 3)
 refine rP [.bool q27, .bool q27] 2 0 s4 (.c (pv fun a w' H => vr (bb Bq27) (ok (.int .i64 3) (H.q 9 y9))) (.c (qe 0 27) .nil)) fun A w5 T => ?_
 have ⟨y0, y3, y9⟩ := T.r3 y0 y3 y9
 have ⟨kdg_5, ldg_5⟩ := T.y kdg_4 ldg_4
 have ⟨kg3_1_5, lg3_1_5⟩ := T.y kg3_1_4 lg3_1_4
 have y26 := T.u 1 26
 have ⟨d5, s5, bl5⟩ := T.h d4 s4 bl4
 have XX_5 := Dc.St.below XX_4 T.below
 clear T
 refine tail_nil ?_
 have n26_3 : q27 = false := by
  simp only [Bq27, Bq20, Bq14]
  rw [hkd]; rfl
 refine wp_cond_false (y26.trans (by rw [n26_3])) ?_
 obtain ⟨q28, Bq28⟩ := nm (x.kind == 5)
 refine rP [.bool q28, .bool q28] 2 0 s5 (.c (pv fun a w' H => vr (bb Bq28) (ok (.int .i64 5) (H.q 9 y9))) (.c (qe 0 28) .nil)) fun A w6 T => ?_
 have ⟨y0, y3, y9⟩ := T.r3 y0 y3 y9
 have ⟨kdg_6, ldg_6⟩ := T.y kdg_5 ldg_5
 have ⟨kg3_1_6, lg3_1_6⟩ := T.y kg3_1_5 lg3_1_5
 have y26 := T.u 1 26
 have ⟨d6, s6, bl6⟩ := T.h d5 s5 bl5
 have XX_6 := Dc.St.below XX_5 T.below
 clear T
 refine tail_nil ?_
 have n26_5 : q28 = false := by
  simp only [Bq28, Bq27, Bq20, Bq14]
  rw [hkd]; rfl
 refine wp_cond_false (y26.trans (by rw [n26_5])) (wp_seq ?_)
 obtain ⟨q44, Bq44⟩ := nm (x.kind == 7)
 refine rP [.bool q44, .bool q44] 2 0 s6 (.c (pv fun a w' H => vr (bb Bq44) (ok (.int .i64 7) (H.q 9 y9))) (.c (qe 0 44) .nil)) fun A w7 T => ?_
 have ⟨y0, y3⟩ := T.r2 y0 y3
 have ⟨kdg_7, ldg_7⟩ := T.y kdg_6 ldg_6
 have ⟨kg3_1_7, lg3_1_7⟩ := T.y kg3_1_6 lg3_1_6
 have y43 := T.u 1 43
 have ⟨d7, s7, bl7⟩ := T.h d6 s6 bl6
 have XX_7 := Dc.St.below XX_6 T.below
 clear T
 refine tail_nil ?_
 have n43_7 : q44 = true := by
  simp only [Bq44, Bq28, Bq27, Bq20, Bq14]
  rw [hkd]; rfl
 refine wp_cond_true (y43.trans (by rw [n43_7])) (wp_seq ?_)
 refine rD [.pointer (some ⟨dg, 0, none⟩), .pointer (some ⟨dg, 0, none⟩), .pointer (some ⟨dg, 2, none⟩), .map (some mb), .pointer (some ⟨g3_1, 1, none⟩), .string x.anchor, .tuple #[.int .i64 ((Dc.find names x.anchor.data.toList).getD 0), .bool (Dc.find names x.anchor.data.toList).isSome], .tuple #[.int .i64 ((Dc.find names x.anchor.data.toList).getD 0), .bool (Dc.find names x.anchor.data.toList).isSome], .int .i64 ((Dc.find names x.anchor.data.toList).getD 0), .bool ((Dc.find names x.anchor.data.toList).isSome), .int .i64 ((Dc.find names x.anchor.data.toList).getD 0), .bool ((Dc.find names x.anchor.data.toList).isSome)] (fun _ => .plain) 12 0 s7 (.c (qq 0 y0) (.c (pq fun a w' H => run_nilb rfl (H.d 0 46)) (.c (pq fun a w' H => fb Tryd.underlying64 2 (H.d 1 47)) (.c (pq fun a w' H => lb (H.d 2 48) (H.x ldg_7 kdg_7)) (.c (pq fun a w' H => fb Tryd.underlying30 1 (H.q 3 y3)) (.c (pq fun a w' H => lb (H.d 4 50) (H.x lg3_1_7 kg3_1_7)) (.c (pv fun a w' H => vr (v := .tuple #[.int .i64 ((Dc.find names x.anchor.data.toList).getD 0), .bool (Dc.find names x.anchor.data.toList).isSome]) rfl (Dc.run_look2 (Dc.Rep.below XX_7.R H.below) rfl (H.d 3 49) (H.d 5 51) hasz)) (.c (qd 6 52) (.c (pv fun a w' H => vr (v := .int .i64 ((Dc.find names x.anchor.data.toList).getD 0)) rfl (o1 (H.d 7 45))) (.c (pv fun a w' H => vr (v := .bool ((Dc.find names x.anchor.data.toList).isSome)) rfl (o1 (H.d 7 45))) (.c (qe 8 53) (.c (qe 9 54) .nil)))))))))))) fun A w8 T => ?_
 have y0 := T.r1 y0
 have ⟨kdg_8, ldg_8⟩ := T.y kdg_7 ldg_7
 have y6 := T.u 10 6
 have y7 := T.u 11 7
 have ⟨d8, s8, bl8⟩ := T.h d7 s7 bl7
 have XX_8 := Dc.St.below XX_7 T.below
 clear T
 refine tail_nil (wp_seq (wp_seq ?_))
 obtain ⟨q56, Bq56⟩ := nm (!(Dc.find names x.anchor.data.toList).isSome)
 refine rP [.bool ((Dc.find names x.anchor.data.toList).isSome), .bool q56] 2 0 s8 (.c (qq 7 y7) (.c (pv fun a w' H => vr (bb Bq56) (run_not rfl (H.d 0 55))) .nil)) fun A w9 T => ?_
 have ⟨y0, y6⟩ := T.r2 y0 y6
 have ⟨kdg_9, ldg_9⟩ := T.y kdg_8 ldg_8
 have y56 := T.u 1 56
 have ⟨d9, s9, bl9⟩ := T.h d8 s8 bl8
 have XX_9 := Dc.St.below XX_8 T.below
 clear T
 refine tail_nil (wp_cond_split y56 (fun hq => ?_) (fun hq => ?_))
 ·
  have c56 := Bq56.symm.trans hq
  clear hq
  have hno_ : Dc.find names x.anchor.data.toList = none := by rw [← Option.not_isSome_iff_eq_none]; revert c56; cases (Dc.find names x.anchor.data.toList).isSome <;> simp
  refine wp_seq (rP [.bool false, .int .i64 11] 2 0 s9 (.c (pq fun a w' H => ra (rfl : a.eval (.const (.bool false)) = .bool false)) (.c (pq fun a w' H => ra (rfl : a.eval (.const (.int .i64 11)) = .int .i64 11)) .nil)) fun A w11 T => ?_)
  have kdg_11 := T.x ldg_9 kdg_9
  have y4 := T.u 0 4
  have y5 := T.u 1 5
  have d11 := T.e d9
  have XX_11 := Dc.St.below XX_9 T.below
  clear T
  refine tail_nil (wp_ret ?_)
  repeat (first | refine in_ret ?_ | refine then_ret ?_)
  have e_ : Dc.aliasF ⟨h.map (·.1), opn, names⟩ x = (⟨h.map (·.1), opn, names⟩, 11) := Dc.aliasF_no hno_
  exact ret2 rfl d11 y4 y5 ⟨h, by rw [e_], by rw [e_], XX_11, kdg_11⟩
 have c56 := Bq56.symm.trans hq
 clear hq
 obtain ⟨d_, hd_⟩ := Option.isSome_iff_exists.1 (show (Dc.find names x.anchor.data.toList).isSome = true from by revert c56; cases (Dc.find names x.anchor.data.toList).isSome <;> simp)
 have hdr_ := hnv _ _ hd_
 obtain ⟨at_, hat_⟩ : ∃ n : Nat, d_ = (n : Int) := ⟨d_.toNat, by omega⟩
 subst hat_
 have hgd_ : (Dc.find names x.anchor.data.toList).getD 0 = (at_ : Int) := by rw [hd_]; rfl
 have ha6_ := y6.trans (congrArg (Value.int .i64) hgd_)
 refine wp_skip (wp_seq ?_)
 refine (wpIn_wide (n := 1)).1 (EngI.regionS EngI.free_wide (still [fun u_ => u_ = .pointer (some ⟨dg, 0, none⟩), fun u_ => u_ = .int .i64 (at_ : Int)]) (fun _ => .plain) 2 3 60 s9 rfl (by kernel_rfl) (still_stable _) (Or.inr (still_any _)) (by kernel_rfl) ?_ ?_)
 ·refine .c ?_ (.c ?_ (.cons (fun h => absurd h (by decide)) (.cons (fun h => absurd h (by decide)) (.cons (fun h => absurd h (by decide)) (.nil)))))
  ·exact qq 0 y0
  exact pq fun a w' H => rv ((H.kept 6 (by kernel_rfl)).trans ha6_)
 intro A w13 T
 have kdg_13 := T.x ldg_9 kdg_9
 have y57 : A.eval (.tmp 57) = .pointer (some ⟨dg, 0, none⟩) := T.done 0 57 rfl rfl
 have y58 : A.eval (.tmp 58) = .int .i64 (at_ : Int) := T.done 1 58 rfl rfl
 have ⟨d13, s13, bl13⟩ := T.h d9 s9 bl9
 have XX_13 := Dc.St.below XX_9 T.below
 clear T
 refine EngI.tail_call EngI.free_wide Tryd.func56 (by kernel_rfl) (by kernel_rfl) rfl rfl rfl rfl #[.pointer (some ⟨dg, 0, none⟩), .int .i64 (at_ : Int)] (m2 y57 y58) s13 rfl (R := fun v w' => ∃ h', v = .int .i64 (Dc.kidF ⟨h.map (·.1), opn, names⟩ at_).2 ∧ h'.map (·.1) = (Dc.kidF ⟨h.map (·.1), opn, names⟩ at_).1.nodes ∧ Dc.St w.heap.size w13 w' dg (Dc.Blk h gv ov mb) h' opn names gv ov mb ∧ w'.heap[dg]? = some (.cells #[gv, ov, .map (some mb)] 64 (0, 0))) ((Dc.kid_calls dg mb gv ov h opn names at_ w _ bl13 hlo kdg_13 XX_13.R (by have := hdr_.2; omega) hop hkl).mono ?_) fun v_14 w14 A R d14 s14 hv hr => ?_
 ·rintro e w1 ⟨h1, rfl, r1⟩; exact ⟨_, rfl, h1, rfl, r1⟩
 have y59 : A.eval (.tmp 59) = v_14 := hv
 have d14 := d14.trans d13
 clear hv hr
 obtain ⟨h14, ev_14, hm14, Y14, kb14⟩ := R
 obtain ⟨kr14, hkr14⟩ : ∃ k, k = (Dc.kidF ⟨h.map (·.1), opn, names⟩ at_).2 := ⟨_, rfl⟩
 rw [ev_14, ← hkr14] at y59
 have X_14 := Dc.St.call XX_13 Y14
 have lb14 := (Array.getElem?_eq_some_iff.1 kb14).1
 refine EngI.tw rfl (ra (rfl : A.eval (.const (.bool false)) = .bool false)) s14 d14 fun A d15 s15 hv hr => ?_
 have y59 := k1 hr y59
 have y4 : A.eval (.tmp 4) = .bool false := hv
 clear hv hr
 refine EngI.tw rfl (ra y59) s15 d15 fun A d16 s16 hv hr => ?_
 have y4 := k1 hr y4
 have y5 : A.eval (.tmp 5) = .int .i64 kr14 := hv
 clear hv hr
 refine EngI.tail_nil (wp_ret ?_)
 repeat (first | refine in_ret ?_ | refine then_ret ?_)
 have e_ : Dc.aliasF ⟨h.map (·.1), opn, names⟩ x = Dc.kidF ⟨h.map (·.1), opn, names⟩ at_ := Dc.aliasF_is hd_
 exact ret2 rfl d16 y4 y5 ⟨h14, by rw [e_, hkr14], by rw [e_]; exact hm14, X_14, kb14⟩
set_option maxHeartbeats 4000000 in
set_option maxRecDepth 100000 in
theorem Dc.take_node (dg mb : Nat) (gv ov : Value) (h : List Dc.NV) (opn : List Int) (names : List (List UInt8 × Int)) (x : Evt.Ev) (w W0 : World) (hB : Below w.heap.size w W0) (hlo : w.heap.size ≤ dg) (hk : W0.heap[dg]? = some (.cells #[gv, ov, .map (some mb)] 64 (0, 0))) (hR : Dc.Rep w.heap.size W0 h opn names gv ov mb) (hn0 : x.kind ≠ 0) (hn1 : x.kind ≠ 1) (hn3 : x.kind ≠ 3) (hn5 : x.kind ≠ 5) (hn7 : x.kind ≠ 7) (hsz : x.text.size ≤ 2000) (hasz : x.anchor.size ≤ maxLen) (hnl : names.length ≤ 1000000) (hop : ∀ o ∈ opn, 0 ≤ o ∧ o.toNat < h.length) (hopl : opn.length ≤ 1000000) (hkl : ∀ i, i < h.length → (h.getD i default).1.kids.length ≤ 1000000) : Calls Tryd.prog 30 #[.pointer (some ⟨dg, 0, none⟩), .agg #[.int .i64 x.kind, .string x.anchor, .string x.tag, .string x.text, .bool x.plain]] W0 fun e w' => ∃ h' opn' names' gv' ov', e = .returned (.tuple #[.bool false, .int .i64 (Dc.nodeF ⟨h.map (·.1), opn, names⟩ x).2]) ∧ (⟨h'.map (·.1), opn', names'⟩ : Dc.Dc) = (Dc.nodeF ⟨h.map (·.1), opn, names⟩ x).1 ∧ Dc.St w.heap.size W0 w' dg (Dc.Blk h gv ov mb) h' opn' names' gv' ov' mb ∧ w'.heap[dg]? = some (.cells #[gv', ov', .map (some mb)] 64 (0, 0)) := by
 refine enter Tryd.func30 rfl fun A d0 s0 v0 => ?_
 have s0 : A.tmps.size = 60 := s0
 have y0 : A.eval (.tmp 0) = .pointer (some ⟨dg, 0, none⟩) := v0 0 (by simp)
 have y1 : A.eval (.tmp 1) = .agg #[.int .i64 x.kind, .string x.anchor, .string x.tag, .string x.text, .bool x.plain] := v0 1 (by simp)
 clear v0
 refine wp_seq (regionS (still [fun u_ => True, fun u_ => u_ = .bool false, fun u_ => u_ = .int .i64 0]) (fun i => ([.alloc 30 #[.int .i64 x.kind, .string x.anchor, .string x.tag, .string x.text, .bool x.plain], .plain, .plain] : List Kind).getD i .plain) 3 0 60 s0 rfl (by kernel_rfl) (still_stable _) (Or.inr (still_any _)) ?_ ?_)
 ·refine .c ?_ (.c ?_ (.c ?_ (.nil)))
  ·refine made rfl (by simp) rfl (fun a w' hd ho => ?_) (fun _ _ => trivial)
   exact run_box rfl ((ho 1 (by kernel_rfl)).trans y1)
  ·exact pq fun a w' H => ra (rfl : a.eval (.const (.bool false)) = .bool false)
  exact pq fun a w' H => ra (rfl : a.eval (.const (.int .i64 0)) = .int .i64 0)
 intro A w1 T
 have y0 := T.r1 y0
 have kdg_1 := (T.below.block _ (Array.getElem?_eq_some_iff.1 hk).1).trans hk
 have ldg_1 := Nat.lt_of_lt_of_le (Array.getElem?_eq_some_iff.1 hk).1 T.below.size
 obtain ⟨g3_1, y3, rg3_1, lg3_1_1, kg3_1_1⟩ := T.al 0 3 _ _ rfl rfl rfl (by kernel_rfl)
 have d1 := T.e d0
 have s1 := T.z s0
 have bl1 := hB.trans (T.below.mono hB.size)
 have XX_1 := Dc.St.below (Dc.St.start (dg := dg) hR) T.below
 clear T
 refine tail_nil (wp_seq (wp_seq ?_))
 refine rP [.pointer (some ⟨g3_1, 0, none⟩), .int .i64 x.kind] 2 0 s1 (.c (pq fun a w' H => fb Tryd.underlying30 0 (H.q 3 y3)) (.c (pq fun a w' H => lb (H.d 0 8) (H.x lg3_1_1 kg3_1_1)) .nil)) fun A w2 T => ?_
 have ⟨y0, y3⟩ := T.r2 y0 y3
 have ⟨kdg_2, ldg_2⟩ := T.y kdg_1 ldg_1
 have ⟨kg3_1_2, lg3_1_2⟩ := T.y kg3_1_1 lg3_1_1
 have y9 := T.u 1 9
 have ⟨d2, s2, bl2⟩ := T.h d1 s1 bl1
 have XX_2 := Dc.St.below XX_1 T.below
 clear T
 refine tail_nil (wp_block ?_)
 refine wp_seq ?_
 obtain ⟨q14, Bq14⟩ := nm (x.kind == 0)
 refine rP [.bool q14, .bool q14] 2 0 s2 (.c (pv fun a w' H => vr (bb Bq14) (ok (.int .i64 0) (H.q 9 y9))) (.c (qe 0 14) .nil)) fun A w3 T => ?_
 have ⟨y0, y3, y9⟩ := T.r3 y0 y3 y9
 have ⟨kdg_3, ldg_3⟩ := T.y kdg_2 ldg_2
 have ⟨kg3_1_3, lg3_1_3⟩ := T.y kg3_1_2 lg3_1_2
 have y13 := T.u 1 13
 have ⟨d3, s3, bl3⟩ := T.h d2 s2 bl2
 have XX_3 := Dc.St.below XX_2 T.below
 clear T
 refine tail_nil ?_
 have n13_0 : q14 = false := by
  simp only [Bq14]
  simpa using hn0
 refine wp_cond_false (y13.trans (by rw [n13_0])) (wp_seq ?_)
 obtain ⟨q20, Bq20⟩ := nm (x.kind == 1)
 refine rP [.bool q20, .bool q20] 2 0 s3 (.c (pv fun a w' H => vr (bb Bq20) (ok (.int .i64 1) (H.q 9 y9))) (.c (qe 0 20) .nil)) fun A w4 T => ?_
 have ⟨y0, y3, y9⟩ := T.r3 y0 y3 y9
 have ⟨kdg_4, ldg_4⟩ := T.y kdg_3 ldg_3
 have ⟨kg3_1_4, lg3_1_4⟩ := T.y kg3_1_3 lg3_1_3
 have y19 := T.u 1 19
 have ⟨d4, s4, bl4⟩ := T.h d3 s3 bl3
 have XX_4 := Dc.St.below XX_3 T.below
 clear T
 refine tail_nil ?_
 have n19_1 : q20 = false := by
  simp only [Bq20, Bq14]
  simpa using hn1
 refine wp_cond_false (y19.trans (by rw [n19_1])) (wp_seq (wp_seq ?_))
 obtain ⟨q27, Bq27⟩ := nm (x.kind == 3)
 refine rP [.bool q27, .bool q27] 2 0 s4 (.c (pv fun a w' H => vr (bb Bq27) (ok (.int .i64 3) (H.q 9 y9))) (.c (qe 0 27) .nil)) fun A w5 T => ?_
 have ⟨y0, y3, y9⟩ := T.r3 y0 y3 y9
 have ⟨kdg_5, ldg_5⟩ := T.y kdg_4 ldg_4
 have ⟨kg3_1_5, lg3_1_5⟩ := T.y kg3_1_4 lg3_1_4
 have y26 := T.u 1 26
 have ⟨d5, s5, bl5⟩ := T.h d4 s4 bl4
 have XX_5 := Dc.St.below XX_4 T.below
 clear T
 refine tail_nil ?_
 have n26_3 : q27 = false := by
  simp only [Bq27, Bq20, Bq14]
  simpa using hn3
 refine wp_cond_false (y26.trans (by rw [n26_3])) ?_
 obtain ⟨q28, Bq28⟩ := nm (x.kind == 5)
 refine rP [.bool q28, .bool q28] 2 0 s5 (.c (pv fun a w' H => vr (bb Bq28) (ok (.int .i64 5) (H.q 9 y9))) (.c (qe 0 28) .nil)) fun A w6 T => ?_
 have ⟨y0, y3, y9⟩ := T.r3 y0 y3 y9
 have ⟨kdg_6, ldg_6⟩ := T.y kdg_5 ldg_5
 have ⟨kg3_1_6, lg3_1_6⟩ := T.y kg3_1_5 lg3_1_5
 have y26 := T.u 1 26
 have ⟨d6, s6, bl6⟩ := T.h d5 s5 bl5
 have XX_6 := Dc.St.below XX_5 T.below
 clear T
 refine tail_nil ?_
 have n26_5 : q28 = false := by
  simp only [Bq28, Bq27, Bq20, Bq14]
  simpa using hn5
 refine wp_cond_false (y26.trans (by rw [n26_5])) (wp_seq ?_)
 obtain ⟨q44, Bq44⟩ := nm (x.kind == 7)
 refine rP [.bool q44, .bool q44] 2 0 s6 (.c (pv fun a w' H => vr (bb Bq44) (ok (.int .i64 7) (H.q 9 y9))) (.c (qe 0 44) .nil)) fun A w7 T => ?_
 have ⟨y0, y3⟩ := T.r2 y0 y3
 have ⟨kdg_7, ldg_7⟩ := T.y kdg_6 ldg_6
 have ⟨kg3_1_7, lg3_1_7⟩ := T.y kg3_1_6 lg3_1_6
 have y43 := T.u 1 43
 have ⟨d7, s7, bl7⟩ := T.h d6 s6 bl6
 have XX_7 := Dc.St.below XX_6 T.below
 clear T
 refine tail_nil ?_
 have n43_7 : q44 = false := by
  simp only [Bq44, Bq28, Bq27, Bq20, Bq14]
  simpa using hn7
 refine wp_cond_false (y43.trans (by rw [n43_7])) (wp_seq ?_)
 refine (wpIn_wide (n := 1)).1 (EngI.regionS EngI.free_wide (still [fun u_ => u_ = .pointer (some ⟨dg, 0, none⟩), fun u_ => u_ = .agg #[.int .i64 x.kind, .string x.anchor, .string x.tag, .string x.text, .bool x.plain]]) (fun _ => .plain) 2 3 60 s7 rfl (by kernel_rfl) (still_stable _) (Or.inr (still_any _)) (by kernel_rfl) ?_ ?_)
 ·refine .c ?_ (.c ?_ (.cons (fun h => absurd h (by decide)) (.cons (fun h => absurd h (by decide)) (.cons (fun h => absurd h (by decide)) (.nil)))))
  ·exact qq 0 y0
  refine pv fun a w' H => ?_
  have kb := (H.below.block _ lg3_1_7).trans kg3_1_7
  have z0 : w'.cell? ⟨g3_1, 0, none⟩ = some (.int .i64 x.kind) := (Eng.cells kb 0).trans rfl
  have z1 : w'.cell? ⟨g3_1, 1, none⟩ = some (.string x.anchor) := (Eng.cells kb 1).trans rfl
  have z2 : w'.cell? ⟨g3_1, 2, none⟩ = some (.string x.tag) := (Eng.cells kb 2).trans rfl
  have z3 : w'.cell? ⟨g3_1, 3, none⟩ = some (.string x.text) := (Eng.cells kb 3).trans rfl
  have z4 : w'.cell? ⟨g3_1, 4, none⟩ = some (.bool x.plain) := (Eng.cells kb 4).trans rfl
  exact vr (v := .agg #[.int .i64 x.kind, .string x.anchor, .string x.tag, .string x.text, .bool x.plain]) rfl (o1 (H.q 3 y3))
 intro A w8 T
 have kdg_8 := T.x ldg_7 kdg_7
 have y10 : A.eval (.tmp 10) = .pointer (some ⟨dg, 0, none⟩) := T.done 0 10 rfl rfl
 have y11 : A.eval (.tmp 11) = .agg #[.int .i64 x.kind, .string x.anchor, .string x.tag, .string x.text, .bool x.plain] := T.done 1 11 rfl rfl
 have ⟨d8, s8, bl8⟩ := T.h d7 s7 bl7
 have XX_8 := Dc.St.below XX_7 T.below
 clear T
 refine EngI.tail_call EngI.free_wide Tryd.func57 (by kernel_rfl) (by kernel_rfl) rfl rfl rfl rfl #[.pointer (some ⟨dg, 0, none⟩), .agg #[.int .i64 x.kind, .string x.anchor, .string x.tag, .string x.text, .bool x.plain]] (m2 y10 y11) s8 rfl (R := fun v w' => ∃ h' opn' names' gv' ov', v = .int .i64 (Dc.nodeF ⟨h.map (·.1), opn, names⟩ x).2 ∧ (⟨h'.map (·.1), opn', names'⟩ : Dc.Dc) = (Dc.nodeF ⟨h.map (·.1), opn, names⟩ x).1 ∧ Dc.St w.heap.size w8 w' dg (Dc.Blk h gv ov mb) h' opn' names' gv' ov' mb ∧ w'.heap[dg]? = some (.cells #[gv', ov', .map (some mb)] 64 (0, 0))) ((Dc.node_calls dg mb gv ov h opn names x w _ bl8 hlo kdg_8 XX_8.R hsz hasz hnl hop hopl hkl).mono ?_) fun v_9 w9 A R d9 s9 hv hr => ?_
 ·rintro e w1 ⟨h1, o1, n1, g1, v1, rfl, r1⟩; exact ⟨_, rfl, h1, o1, n1, g1, v1, rfl, r1⟩
 have y12 : A.eval (.tmp 12) = v_9 := hv
 have d9 := d9.trans d8
 clear hv hr
 obtain ⟨h9, op9, nm9, gv9, ov9, ev_9, hm9, Y9, kb9⟩ := R
 obtain ⟨nr9, hnr9⟩ : ∃ k, k = (Dc.nodeF ⟨h.map (·.1), opn, names⟩ x).2 := ⟨_, rfl⟩
 rw [ev_9, ← hnr9] at y12
 have X_9 := Dc.St.call XX_8 Y9
 have lb9 := (Array.getElem?_eq_some_iff.1 kb9).1
 refine EngI.tw rfl (ra (rfl : A.eval (.const (.bool false)) = .bool false)) s9 d9 fun A d10 s10 hv hr => ?_
 have y12 := k1 hr y12
 have y4 : A.eval (.tmp 4) = .bool false := hv
 clear hv hr
 refine EngI.tw rfl (ra y12) s10 d10 fun A d11 s11 hv hr => ?_
 have y4 := k1 hr y4
 have y5 : A.eval (.tmp 5) = .int .i64 nr9 := hv
 clear hv hr
 refine EngI.tail_nil (wp_ret ?_)
 repeat (first | refine in_ret ?_ | refine then_ret ?_)
 exact ret2 rfl d11 y4 y5 ⟨h9, op9, nm9, gv9, ov9, by rw [hnr9], hm9, X_9, kb9⟩
end Go.Proofs.YtgnmjaacnmkgnaaDoor.X
end
section
namespace Go.Proofs.YtgnmjaacnmkgnaaDoor.X
open Go.RowKit Go.Shelf Go.Proofs Go.Proofs.YtgnmjaacnmkgnaaDoorW.PrintWords Go.Proofs.YtgnmjaacnmkgnaaDoorW.PrintLast Go.Proofs.YtgnmjaacnmkgnaaDoorW.PrintMore Go.Proofs.Eng
set_option linter.unusedVariables false
set_option linter.unusedSimpArgs false
attribute [local go_sem] max2_int min2_int max_two min_two
set_option maxHeartbeats 4000000 in
set_option maxRecDepth 100000 in
theorem Evt.last_nil (g : Nat) (o : Value) (B : Nat) (w : World) (hk : w.heap[g]? = some (.cells #[o] 77 (0, 0))) (hO : w.ownsRow B 93 2 o 0 (Evt.opens [])) : Calls Tryd.prog 66 #[.pointer (some ⟨g, 0, none⟩)] w fun e w' => ∃ h, e = .returned (.pointer (some ⟨h, 0, none⟩)) ∧ w.heap.size ≤ h ∧ h < w'.heap.size ∧ w'.heap[h]? = some (.cells #[.int .i64 (-1), .int .i64 0] 93 (0, 0)) ∧ Below w.heap.size w w' := by
 refine enter Tryd.func66 rfl fun A d0 s0 v0 => ?_
 have s0 : A.tmps.size = 22 := s0
 have y0 : A.eval (.tmp 0) = .pointer (some ⟨g, 0, none⟩) := v0 0 (by simp)
 clear v0
 have bl0 : Below w.heap.size w w := Below.refl _ _
 refine wp_seq ?_
 refine rS [.pointer none] (fun _ => .plain) 1 0 s0 ?_ ?_
 ·refine .c ?_ (.nil)
  ·exact pq fun a w' H => ra (rfl : a.eval (.const (.pointer none)) = .pointer none)
 intro A w1 T
 have y0 := T.r1 y0
 have kg_ := (T.below.block _ (Array.getElem?_eq_some_iff.1 hk).1).trans hk
 have lg_ := Nat.lt_of_lt_of_le (Array.getElem?_eq_some_iff.1 hk).1 T.below.size
 have Fo_ := Reads.below (Reads.of_own hO) T.below
 have ⟨d1, s1, bl1⟩ := T.h d0 s0 bl0
 clear T
 refine tail_nil (wp_seq (wp_seq ?_))
 obtain ⟨q8, Bq8⟩ := nm ((0 : Int) == 0)
 refine rS [.pointer (some ⟨g, 0, none⟩), .pointer (some ⟨g, 0, none⟩), .pointer (some ⟨g, 0, none⟩), o, .int .i64 (0 : Int), .bool q8] (fun _ => .plain) 6 0 s1 ?_ ?_
 ·refine .c ?_ (.c ?_ (.c ?_ (.c ?_ (.c ?_ (.c ?_ (.nil))))))
  ·exact qq 0 y0
  ·exact pq fun a w' H => run_nilb rfl (H.d 0 3)
  ·exact pq fun a w' H => fb Tryd.underlying77 0 (H.d 1 4)
  ·exact pq fun a w' H => lb (H.d 2 5) (H.x lg_ kg_)
  ·exact pv fun a w' H => vr (v := .int .i64 (0 : Int)) rfl (run_len_sl rfl Tryd.underlying75 (H.d 3 6) (Reads.below Fo_ H.below))
  refine pv fun a w' H => ?_
  exact vr (bb Bq8) (ok (.int .i64 0) (H.d 4 7))
 intro A w2 T
 have y8 := T.u 5 8
 have ⟨d2, s2, bl2⟩ := T.h d1 s1 bl1
 clear T
 refine tail_nil ?_
 have n8 : q8 = true := by
  try simp only [Bq8]
  rfl
 refine wp_cond_true (y8.trans (by rw [n8])) ?_
 refine wp_seq ?_
 refine regionT (n := 3) rfl ?_
 refine tail_val (w1 := w2) (v := .agg #[.int .i64 (-1), .int .i64 0]) rfl rfl rfl (o1 (rfl : A.eval (.const (.int .i64 (-1))) = .int .i64 (-1))) s2 rfl ?_
 intro A d3 s3 y9 hr
 have d3 := d3.trans d2
 refine tail_ex rfl rfl rfl (box_ex (cs := #[.int .i64 (-1), .int .i64 0]) rfl y9 (by rfl)) s3 rfl fun v_4 w4 A R d4 s4 y10 hr => ?_
 obtain ⟨g10_4, ev_4, rg_4, lg10_, kg10_, b_4⟩ := R
 have d4 := d4.trans d3
 have og10_4 : w.heap.size ≤ g10_4 := Nat.le_trans bl2.size rg_4
 have bl4 := bl2.trans (b_4.mono bl2.size)
 rw [ev_4] at y10
 refine tail_val rfl rfl rfl (ra y10) s4 rfl fun A d5 s5 y2 hr => ?_
 have d5 := d5.trans d4
 refine tail_nil ?_
 refine wp_ret ?_
 repeat (first | refine in_ret ?_ | refine then_ret ?_)
 exact ret1 rfl d5 y2 ⟨_, rfl, og10_4, lg10_, kg10_, bl4⟩
set_option maxHeartbeats 4000000 in
set_option maxRecDepth 100000 in
theorem Evt.last_top (g : Nat) (o : Value) (B : Nat) (pre : List (Int × Int)) (t : Int × Int) (w : World) (hk : w.heap[g]? = some (.cells #[o] 77 (0, 0))) (hO : w.ownsRow B 93 2 o (pre ++ [t]).length (Evt.opens (pre ++ [t]))) : Calls Tryd.prog 66 #[.pointer (some ⟨g, 0, none⟩)] w fun e w' => e = .returned (elemPtr o (pre.length * 2)) ∧ Below w.heap.size w w' := by
 have hm := Reads.len_le (Reads.of_own hO)
 rw [List.length_append] at hm
 have hm1 : pre.length + 1 ≤ 9223372036854775807 := hm
 refine enter Tryd.func66 rfl fun A d0 s0 v0 => ?_
 have s0 : A.tmps.size = 22 := s0
 have y0 : A.eval (.tmp 0) = .pointer (some ⟨g, 0, none⟩) := v0 0 (by simp)
 clear v0
 have bl0 : Below w.heap.size w w := Below.refl _ _
 refine wp_seq (rS [.pointer none] (fun _ => .plain) 1 0 s0 ?_ ?_)
 ·refine .c ?_ (.nil)
  ·exact pq fun a w' H => ra (rfl : a.eval (.const (.pointer none)) = .pointer none)
 intro A w1 T
 have y0 := T.r1 y0
 have kg_ := (T.below.block _ (Array.getElem?_eq_some_iff.1 hk).1).trans hk
 have lg_ := Nat.lt_of_lt_of_le (Array.getElem?_eq_some_iff.1 hk).1 T.below.size
 have Fo_ := Reads.below (Reads.of_own hO) T.below
 have ⟨d1, s1, bl1⟩ := T.h d0 s0 bl0
 clear T
 refine tail_nil (wp_seq (wp_seq ?_))
 obtain ⟨q8, Bq8⟩ := nm ((((pre ++ [t]).length : Nat) : Int) == 0)
 refine rP [.pointer (some ⟨g, 0, none⟩), .pointer (some ⟨g, 0, none⟩), .pointer (some ⟨g, 0, none⟩), o, .int .i64 (((pre ++ [t]).length : Nat) : Int), .bool q8] 6 0 s1 (.c (qq 0 y0) (.c (pq fun a w' H => run_nilb rfl (H.d 0 3)) (.c (pq fun a w' H => fb Tryd.underlying77 0 (H.d 1 4)) (.c (pq fun a w' H => lb (H.d 2 5) (H.x lg_ kg_)) (.c (pv fun a w' H => vr (v := .int .i64 (((pre ++ [t]).length : Nat) : Int)) rfl (run_len_sl rfl Tryd.underlying75 (H.d 3 6) (Reads.below Fo_ H.below))) (.c (pv fun a w' H => vr (bb Bq8) (ok (.int .i64 0) (H.d 4 7))) .nil)))))) fun A w2 T => ?_
 have y0 := T.r1 y0
 have ⟨kg_, lg_⟩ := T.y kg_ lg_
 have Fo_ := T.f Fo_
 have y8 := T.u 5 8
 have ⟨d2, s2, bl2⟩ := T.h d1 s1 bl1
 clear T
 refine tail_nil ?_
 have n8 : q8 = false := by
  try simp only [Bq8]
  rw [beq_eq_false_iff_ne]; simp; omega
 refine wp_cond_false (y8.trans (by rw [n8])) (wp_skip ?_)
 refine wp_seq (rD [.pointer (some ⟨g, 0, none⟩), .pointer (some ⟨g, 0, none⟩), .pointer (some ⟨g, 0, none⟩), o, .pointer (some ⟨g, 0, none⟩), .pointer (some ⟨g, 0, none⟩), .pointer (some ⟨g, 0, none⟩), o, .int .i64 (((pre ++ [t]).length : Nat) : Int), .int .i64 (IntKind.i64.wrap ((((pre ++ [t]).length : Nat) : Int) - 1)), elemPtr o (pre.length * 2), elemPtr o (pre.length * 2)] (fun _ => .plain) 12 0 s2 (.c (qq 0 y0) (.c (pq fun a w' H => run_nilb rfl (H.d 0 11)) (.c (pq fun a w' H => fb Tryd.underlying77 0 (H.d 1 12)) (.c (pq fun a w' H => lb (H.d 2 13) (H.x lg_ kg_)) (.c (qq 0 y0) (.c (pq fun a w' H => run_nilb rfl (H.d 4 15)) (.c (pq fun a w' H => fb Tryd.underlying77 0 (H.d 5 16)) (.c (pq fun a w' H => lb (H.d 6 17) (H.x lg_ kg_)) (.c (pv fun a w' H => vr (v := .int .i64 (((pre ++ [t]).length : Nat) : Int)) rfl (run_len_sl rfl Tryd.underlying75 (H.d 7 18) (Reads.below Fo_ H.below))) (.c (pv fun a w' H => vr (v := .int .i64 (IntKind.i64.wrap ((((pre ++ [t]).length : Nat) : Int) - 1))) rfl (ok (.int .i64 1) (H.d 8 19))) (.c (pv fun a w' H => vr (v := elemPtr o (pre.length * 2)) rfl (run_index_sl rfl Tryd.underlying75 (by kernel_rfl) (H.d 3 14) ((H.d 9 20).trans (congrArg (Value.int _) (show IntKind.i64.wrap ((((pre ++ [t]).length : Nat) : Int) - 1) = ((pre.length : Nat) : Int) from by first | exact Evt.last_ix pre t hm1 | (simp; done)))) (Reads.below Fo_ H.below) (by first | exact Evt.last_ix pre t hm1 | (simp; done)) rfl)) (.c (qe 10 21) .nil)))))))))))) fun A w3 T => ?_)
 have y2 := T.u 11 2
 have d3 := T.e d2
 have bl3 := T.b bl2
 clear T
 refine tail_nil (wp_ret ?_)
 repeat (first | refine in_ret ?_ | refine then_ret ?_)
 exact ret1 rfl d3 y2 ⟨rfl, bl3⟩
end Go.Proofs.YtgnmjaacnmkgnaaDoor.X
end
section
namespace Go.Proofs.YtgnmjaacnmkgnaaDoor.X
open Go.RowKit Go.Shelf Go.Proofs Go.Proofs.YtgnmjaacnmkgnaaDoorW.PrintWords Go.Proofs.YtgnmjaacnmkgnaaDoorW.PrintLast Go.Proofs.YtgnmjaacnmkgnaaDoorW.PrintMore Go.Proofs.Eng
set_option linter.unusedVariables false
set_option linter.unusedSimpArgs false
attribute [local go_sem] max2_int min2_int max_two min_two
set_option maxHeartbeats 4000000 in
set_option maxRecDepth 100000 in
theorem Evt.may69_calls (m : Int) (w : World) : Calls Tryd.prog 69 #[.int .i64 m] w fun e w' => e = .returned (.bool (m == 1)) ∧ Below w.heap.size w w' := by
 refine enter Tryd.func69 rfl fun A d0 s0 v0 => ?_
 have s0 : A.tmps.size = 5 := s0
 have y0 : A.eval (.tmp 0) = .int .i64 m := v0 0 (by simp)
 clear v0
 have bl0 : Below w.heap.size w w := Below.refl _ _
 refine wp_seq (rS [.bool false] (fun _ => .plain) 1 0 s0 ?_ ?_)
 ·refine .c ?_ (.nil)
  ·exact pq fun a w' H => ra (rfl : a.eval (.const (.bool false)) = .bool false)
 intro A w1 T
 have y0 := T.r1 y0
 have ⟨d1, s1, bl1⟩ := T.h d0 s0 bl0
 clear T
 refine tail_nil (wp_seq ?_)
 obtain ⟨q4, Bq4⟩ := nm (m == 1)
 refine rP [.int .i64 m, .bool q4, .bool q4] 3 0 s1 (.c (qq 0 y0) (.c (pv fun a w' H => vr (bb Bq4) (ok (.int .i64 1) (H.d 0 3))) (.c (qe 1 4) .nil))) fun A w2 T => ?_
 have y2 := T.u 2 2
 have d2 := T.e d1
 have bl2 := T.b bl1
 clear T
 refine tail_nil (wp_ret ?_)
 repeat (first | refine in_ret ?_ | refine then_ret ?_)
 exact ret1 rfl d2 (y2.trans (by first | rfl | (rw [Bq4]; done) | (rw [Bq4]; rfl))) ⟨rfl, bl2⟩
set_option maxHeartbeats 4000000 in
set_option maxRecDepth 100000 in
theorem Evt.may70_calls (m : Int) (w : World) : Calls Tryd.prog 70 #[.int .i64 m] w fun e w' => e = .returned (.bool (true)) ∧ Below w.heap.size w w' := by
 refine enter Tryd.func70 rfl fun A d0 s0 v0 => ?_
 have s0 : A.tmps.size = 3 := s0
 clear v0
 have bl0 : Below w.heap.size w w := Below.refl _ _
 refine wp_seq (rS [.bool false] (fun _ => .plain) 1 0 s0 ?_ ?_)
 ·refine .c ?_ (.nil)
  ·exact pq fun a w' H => ra (rfl : a.eval (.const (.bool false)) = .bool false)
 intro A w1 T
 have ⟨d1, s1, bl1⟩ := T.h d0 s0 bl0
 clear T
 refine tail_nil (wp_seq ?_)
 refine rS [.bool true] (fun _ => .plain) 1 0 s1 ?_ ?_
 ·refine .c ?_ (.nil)
  ·exact pq fun a w' H => ra (rfl : a.eval (.const (.bool true)) = .bool true)
 intro A w2 T
 have y2 := T.u 0 2
 have d2 := T.e d1
 have bl2 := T.b bl1
 clear T
 refine tail_nil (wp_ret ?_)
 repeat (first | refine in_ret ?_ | refine then_ret ?_)
 exact ret1 rfl d2 (y2.trans (by first | rfl | (rw [id]; done) | (rw [id]; rfl))) ⟨rfl, bl2⟩
set_option maxHeartbeats 4000000 in
set_option maxRecDepth 100000 in
theorem Evt.may71_calls (m : Int) (w : World) : Calls Tryd.prog 71 #[.int .i64 m] w fun e w' => e = .returned (.bool (Evt.even m)) ∧ Below w.heap.size w w' := by
 refine enter Tryd.func71 rfl fun A d0 s0 v0 => ?_
 have s0 : A.tmps.size = 6 := s0
 have y0 : A.eval (.tmp 0) = .int .i64 m := v0 0 (by simp)
 clear v0
 have bl0 : Below w.heap.size w w := Below.refl _ _
 refine wp_seq (rS [.bool false] (fun _ => .plain) 1 0 s0 ?_ ?_)
 ·refine .c ?_ (.nil)
  ·exact pq fun a w' H => ra (rfl : a.eval (.const (.bool false)) = .bool false)
 intro A w1 T
 have y0 := T.r1 y0
 have ⟨d1, s1, bl1⟩ := T.h d0 s0 bl0
 clear T
 refine tail_nil (wp_seq ?_)
 obtain ⟨q5, Bq5⟩ := nm ((Int.tmod m 2) == 0)
 refine rS [.int .i64 m, .int .i64 (Int.tmod m 2), .bool q5, .bool q5] (fun _ => .plain) 4 0 s1 ?_ ?_
 ·refine .c ?_ (.c ?_ (.c ?_ (.c ?_ (.nil))))
  ·exact qq 0 y0
  ·refine pv fun a w' H => vr (v := .int .i64 (Int.tmod m 2)) rfl ?_
   have e0 : a.eval (.tmp 3) = .int .i64 m := (H.d 0 3)
   have e1 : a.eval (.const (.int .i64 2)) = .int .i64 2 := rfl
   simp only [execOp, resolve, e0, e1]
   go_simp
   try rfl
  ·exact pv fun a w' H => vr (bb Bq5) (ok (.int .i64 0) (H.d 1 4))
  exact qe 2 5
 intro A w2 T
 have y2 := T.u 3 2
 have d2 := T.e d1
 have bl2 := T.b bl1
 clear T
 refine tail_nil (wp_ret ?_)
 repeat (first | refine in_ret ?_ | refine then_ret ?_)
 exact ret1 rfl d2 (y2.trans (by first | rfl | (rw [Bq5]; done) | (rw [Bq5]; rfl))) ⟨rfl, bl2⟩
end Go.Proofs.YtgnmjaacnmkgnaaDoor.X
end
section
namespace Go.Proofs.YtgnmjaacnmkgnaaDoor.X
open Go.RowKit Go.Shelf Go.Proofs Go.Proofs.YtgnmjaacnmkgnaaDoorW.PrintWords Go.Proofs.YtgnmjaacnmkgnaaDoorW.PrintLast Go.Proofs.YtgnmjaacnmkgnaaDoorW.PrintMore Go.Proofs.Eng
set_option linter.unusedVariables false
set_option linter.unusedSimpArgs false
attribute [local go_sem] max2_int min2_int max_two min_two
set_option maxHeartbeats 4000000 in
set_option maxRecDepth 100000 in
theorem Evt.pop_nilW (g : Nat) (o : Value) (k : Int) (ff : Nat) (fn : Func) (may : Int → Bool) (hff : Tryd.prog.funcs[ff]? = some fn) (hfn : (fn.name == "runtime.NumGoroutine") = false) (hfb : fn.body.isNone = false) (hmay : ∀ (m : Int) (w : World), Calls Tryd.prog ff #[.int .i64 m] w fun e w' => e = .returned (.bool (may m)) ∧ Below w.heap.size w w') (w W0 : World) (hB : Below w.heap.size w W0) (hlo : w.heap.size ≤ g) (hk : W0.heap[g]? = some (.cells #[o] 77 (0, 0))) (hO : W0.ownsRow w.heap.size 93 2 o 0 (Evt.opens [])) (hk0 : 0 ≤ k) : Calls Tryd.prog 68 #[.pointer (some ⟨g, 0, none⟩), .int .i64 k, .func (.func ff) #[] #[]] W0 fun e w' => e = .returned (.bool (Evt.pop [] k may).isSome) ∧ Below w.heap.size w w' ∧ ∀ st', Evt.pop [] k may = some st' → ∃ o', Evt.Is w.heap.size W0 g o st' w' o' := by
 refine enter Tryd.func68 rfl fun A d0 s0 v0 => ?_
 have s0 : A.tmps.size = 39 := s0
 have y0 : A.eval (.tmp 0) = .pointer (some ⟨g, 0, none⟩) := v0 0 (by simp)
 have y1 : A.eval (.tmp 1) = .int .i64 k := v0 1 (by simp)
 have y2 : A.eval (.tmp 2) = .func (.func ff) #[] #[] := v0 2 (by simp)
 clear v0
 refine wp_seq (rS [.bool false] (fun _ => .plain) 1 0 s0 ?_ ?_)
 ·refine .c ?_ (.nil)
  ·exact pq fun a w' H => ra (rfl : a.eval (.const (.bool false)) = .bool false)
 intro A w1 T
 have ⟨y0, y1, y2⟩ := T.r3 y0 y1 y2
 have kg_1 := (T.below.block _ (Array.getElem?_eq_some_iff.1 hk).1).trans hk
 have lg_1 := Nat.lt_of_lt_of_le (Array.getElem?_eq_some_iff.1 hk).1 T.below.size
 have Oo_1 := T.g hO
 have d1 := T.e d0
 have s1 := T.z s0
 have bl1 := hB.trans (T.below.mono hB.size)
 have XA_1 := Aft.step (Aft.refl (Nst g o) W0) T.below
 clear T
 refine tail_nil (wp_seq (wp_seq ?_))
 refine (wpIn_wide (n := 1)).1 (EngI.regionS EngI.free_wide (still [fun u_ => u_ = .pointer (some ⟨g, 0, none⟩)]) (fun _ => .plain) 1 2 39 s1 rfl (by kernel_rfl) (still_stable _) (Or.inr (still_any _)) (by kernel_rfl) ?_ ?_)
 ·refine .c ?_ (.cons (fun h => absurd h (by decide)) (.cons (fun h => absurd h (by decide)) (.nil)))
  ·exact qq 0 y0
 intro A w2 T
 have ⟨y1, y2⟩ := T.r2 y1 y2
 have kg_2 := T.x lg_1 kg_1
 have Oo_2 := T.g Oo_1
 have y8 : A.eval (.tmp 8) = .pointer (some ⟨g, 0, none⟩) := T.done 0 8 rfl rfl
 have ⟨d2, s2, bl2⟩ := T.h d1 s1 bl1
 have XA_2 := Aft.step XA_1 T.below
 clear T
 refine EngI.tail_call EngI.free_wide Tryd.func66 (by kernel_rfl) (by kernel_rfl) rfl rfl rfl rfl #[.pointer (some ⟨g, 0, none⟩)] (m1 y8) s2 rfl (R := fun v w' => ∃ h, v = .pointer (some ⟨h, 0, none⟩) ∧ w2.heap.size ≤ h ∧ h < w'.heap.size ∧ w'.heap[h]? = some (.cells #[.int .i64 (-1), .int .i64 0] 93 (0, 0)) ∧ Below w2.heap.size w2 w') ((Evt.last_nil g o w.heap.size _ kg_2 Oo_2).mono ?_) fun v_3 w3 A R d3 s3 y9 hr => ?_
 ·rintro e w1 ⟨h, rfl, h1⟩; exact ⟨_, rfl, h, rfl, h1⟩
 have ⟨y1, y2⟩ := k2 hr y1 y2
 have d3 := d3.trans d2
 obtain ⟨h3, ev_3, rg_3, lgh3, kgh3, b_3⟩ := R
 have nw3 : W0.heap.size ≤ h3 := Nat.le_trans XA_2.size rg_3
 have bl3 := bl2.trans (b_3.mono bl2.size)
 rw [ev_3] at y9
 refine EngI.tw rfl (ra y9) s3 d3 fun A d4 s4 y7 hr => ?_
 have ⟨y1, y2⟩ := k2 hr y1 y2
 refine EngI.tail_nil (wp_seq ?_)
 obtain ⟨q15, Bq15⟩ := nm (!((-1) == k))
 obtain ⟨q22, Bq22⟩ := nm (may 0)
 obtain ⟨q23, Bq23⟩ := nm (!q22)
 obtain ⟨q24, Bq24⟩ := nm (q15 || q23)
 refine rS [.pointer (some ⟨h3, 0, none⟩), .pointer (some ⟨h3, 0, none⟩), .pointer (some ⟨h3, 0, none⟩), .int .i64 (-1), .int .i64 k, .bool q15, .bool q15, bif (q15 == false) then (.func (.func ff) #[] #[]) else undef, bif (q15 == false) then (.pointer (some ⟨h3, 0, none⟩)) else undef, bif (q15 == false) then (.pointer (some ⟨h3, 0, none⟩)) else undef, bif (q15 == false) then (.pointer (some ⟨h3, 1, none⟩)) else undef, bif (q15 == false) then (.int .i64 0) else undef, bif (q15 == false) then (.bool q22) else undef, bif (q15 == false) then (.bool q23) else undef, .bool q24] (fun _ => .plain) 15 0 s4 ?_ ?_
 ·refine .c ?_ (.c ?_ (.c ?_ (.c ?_ (.c ?_ (.c ?_ (.c ?_ (.c ?_ (.c ?_ (.c ?_ (.c ?_ (.c ?_ (.c ?_ (.c ?_ (.c ?_ (.nil)))))))))))))))
  ·exact qq 7 y7
  ·exact pq fun a w' H => run_nilb rfl (H.d 0 10)
  ·exact pq fun a w' H => fb Tryd.underlying93 0 (H.d 1 11)
  ·exact pq fun a w' H => lb (H.d 2 12) (H.x lgh3 kgh3)
  ·exact qq 1 y1
  ·exact pv fun a w' H => vr (bb Bq15) (o2z (H.d 3 13) (H.d 4 14))
  ·exact qd 5 15
  ·exact g1 6 16 q15 fun hG a w' H => vr (off' hG rfl) (rv (H.q 2 y2))
  ·exact g1 6 16 q15 fun hG a w' H => vr (off' hG rfl) (rv (H.q 7 y7))
  ·exact g1 6 16 q15 fun hG a w' H => vr (off' hG rfl) (run_nilb rfl (on (H.d 8 18) hG))
  ·exact g1 6 16 q15 fun hG a w' H => vr (off' hG rfl) (fb Tryd.underlying93 1 (on (H.d 9 19) hG))
  ·exact g1 6 16 q15 fun hG a w' H => vr (off' hG rfl) (lb (on (H.d 10 20) hG) (H.x lgh3 kgh3))
  ·refine g1 6 16 q15 fun hG a w' H => callv hff hfn hfb rfl (on (H.d 7 17) hG) #[.int .i64 0] ?_ ?_
   ·have e0 : a.eval (.tmp 21) = .int .i64 0 := (on (H.d 11 21) hG); simp only [List.map_toArray, List.map_cons, List.map_nil, e0]
   refine (hmay 0 _).mono ?_
   rintro e w'' ⟨rfl, hb⟩
   exact ⟨_, rfl, (off' hG (by rw [Bq22])), hb⟩
  ·exact g1 6 16 q15 fun hG a w' H => vr (off' hG (by rw [Bq23])) (run_not rfl (on (H.d 12 22) hG))
  exact pv fun a w' H => vr (bb Bq24) (run_or rfl rfl (G := true) (H.d 6 16) (fun hb => (on (H.d 13 23) (mk1 hb))))
 intro A w5 T
 have y24 := T.u 14 24
 have ⟨d5, s5, bl5⟩ := T.h d4 s4 bl3
 clear T
 refine tail_nil ?_
 have n24 : q24 = true := by
  try simp only [Bq24, Bq23, Bq22, Bq15]
  rw [Bool.or_eq_true]; left; simp; omega
 refine wp_cond_true (y24.trans (by rw [n24])) (wp_seq ?_)
 refine rS [.bool false] (fun _ => .plain) 1 0 s5 ?_ ?_
 ·refine .c ?_ (.nil)
  ·exact pq fun a w' H => ra (rfl : a.eval (.const (.bool false)) = .bool false)
 intro A w6 T
 have y6 := T.u 0 6
 have d6 := T.e d5
 have bl6 := T.b bl5
 clear T
 refine tail_nil (wp_ret ?_)
 repeat (first | refine in_ret ?_ | refine then_ret ?_)
 exact ret1 rfl d6 y6 ⟨rfl, bl6, fun st' h => nomatch h⟩
set_option maxHeartbeats 4000000 in
set_option maxRecDepth 100000 in
theorem Evt.pop_topW (g : Nat) (o : Value) (k : Int) (pre : List (Int × Int)) (t : Int × Int) (ff : Nat) (fn : Func) (may : Int → Bool) (hff : Tryd.prog.funcs[ff]? = some fn) (hfn : (fn.name == "runtime.NumGoroutine") = false) (hfb : fn.body.isNone = false) (hmay : ∀ (m : Int) (w : World), Calls Tryd.prog ff #[.int .i64 m] w fun e w' => e = .returned (.bool (may m)) ∧ Below w.heap.size w w') (w W0 : World) (hB : Below w.heap.size w W0) (hlo : w.heap.size ≤ g) (hk : W0.heap[g]? = some (.cells #[o] 77 (0, 0))) (hO : W0.ownsRow w.heap.size 93 2 o (pre ++ [t]).length (Evt.opens (pre ++ [t]))) : Calls Tryd.prog 68 #[.pointer (some ⟨g, 0, none⟩), .int .i64 k, .func (.func ff) #[] #[]] W0 fun e w' => e = .returned (.bool (Evt.pop (pre ++ [t]) k may).isSome) ∧ Below w.heap.size w w' ∧ ∀ st', Evt.pop (pre ++ [t]) k may = some st' → ∃ o', Evt.Is w.heap.size W0 g o st' w' o' := by
 have hm := Reads.len_le (Reads.of_own hO)
 rw [List.length_append] at hm
 have hm1 : pre.length + 1 ≤ 9223372036854775807 := hm
 refine enter Tryd.func68 rfl fun A d0 s0 v0 => ?_
 have s0 : A.tmps.size = 39 := s0
 have y0 : A.eval (.tmp 0) = .pointer (some ⟨g, 0, none⟩) := v0 0 (by simp)
 have y1 : A.eval (.tmp 1) = .int .i64 k := v0 1 (by simp)
 have y2 : A.eval (.tmp 2) = .func (.func ff) #[] #[] := v0 2 (by simp)
 clear v0
 refine wp_seq (rS [.bool false] (fun _ => .plain) 1 0 s0 ?_ ?_)
 ·refine .c ?_ (.nil)
  ·exact pq fun a w' H => ra (rfl : a.eval (.const (.bool false)) = .bool false)
 intro A w1 T
 have ⟨y0, y1, y2⟩ := T.r3 y0 y1 y2
 have kg_1 := (T.below.block _ (Array.getElem?_eq_some_iff.1 hk).1).trans hk
 have lg_1 := Nat.lt_of_lt_of_le (Array.getElem?_eq_some_iff.1 hk).1 T.below.size
 have Fo_1 := Reads.below (Reads.of_own hO) T.below
 have Oo_1 := T.g hO
 have d1 := T.e d0
 have s1 := T.z s0
 have bl1 := hB.trans (T.below.mono hB.size)
 have XA_1 := Aft.step (Aft.refl (Nst g o) W0) T.below
 clear T
 refine tail_nil (wp_seq (wp_seq ?_))
 refine (wpIn_wide (n := 1)).1 (EngI.regionS EngI.free_wide (still [fun u_ => u_ = .pointer (some ⟨g, 0, none⟩)]) (fun _ => .plain) 1 2 39 s1 rfl (by kernel_rfl) (still_stable _) (Or.inr (still_any _)) (by kernel_rfl) ?_ ?_)
 ·refine .c ?_ (.cons (fun h => absurd h (by decide)) (.cons (fun h => absurd h (by decide)) (.nil)))
  ·exact qq 0 y0
 intro A w2 T
 have ⟨y0, y1, y2⟩ := T.r3 y0 y1 y2
 have ⟨kg_2, lg_2⟩ := T.y kg_1 lg_1
 have Fo_2 := T.f Fo_1
 have Oo_2 := T.g Oo_1
 have y8 : A.eval (.tmp 8) = .pointer (some ⟨g, 0, none⟩) := T.done 0 8 rfl rfl
 have ⟨d2, s2, bl2⟩ := T.h d1 s1 bl1
 have XA_2 := Aft.step XA_1 T.below
 clear T
 refine EngI.tail_call EngI.free_wide Tryd.func66 (by kernel_rfl) (by kernel_rfl) rfl rfl rfl rfl #[.pointer (some ⟨g, 0, none⟩)] (m1 y8) s2 rfl (R := fun v w' => v = elemPtr o (pre.length * 2) ∧ Below w2.heap.size w2 w') ((Evt.last_top g o w.heap.size pre t _ kg_2 Oo_2).mono ?_) fun v_3 w3 A R d3 s3 y9 hr => ?_
 ·rintro e w1 ⟨rfl, h1⟩; exact ⟨_, rfl, rfl, h1⟩
 have ⟨y0, y1, y2⟩ := k3 hr y0 y1 y2
 have d3 := d3.trans d2
 obtain ⟨ev_3, b_3⟩ := R
 have kg_3 := (b_3.block _ lg_2).trans kg_2
 have lg_3 := Nat.lt_of_lt_of_le lg_2 b_3.size
 have Fo_3 := Reads.below Fo_2 b_3
 have Oo_3 := own_below Oo_2 b_3
 have XA_3 := Aft.step XA_2 b_3
 have bl3 := bl2.trans (b_3.mono bl2.size)
 rw [ev_3] at y9
 refine EngI.tw rfl (ra y9) s3 d3 fun A d4 s4 y7 hr => ?_
 have ⟨y0, y1, y2⟩ := k3 hr y0 y1 y2
 refine EngI.tail_nil (wp_seq ?_)
 obtain ⟨q15, Bq15⟩ := nm (!(t.1 == k))
 obtain ⟨q22, Bq22⟩ := nm (may t.2)
 obtain ⟨q23, Bq23⟩ := nm (!q22)
 obtain ⟨q24, Bq24⟩ := nm (q15 || q23)
 refine rS [elemPtr o (pre.length * 2), elemPtr o (pre.length * 2), elemPtr o (pre.length * 2 + 0), .int .i64 t.1, .int .i64 k, .bool q15, .bool q15, bif (q15 == false) then (.func (.func ff) #[] #[]) else undef, bif (q15 == false) then (elemPtr o (pre.length * 2)) else undef, bif (q15 == false) then (elemPtr o (pre.length * 2)) else undef, bif (q15 == false) then (elemPtr o (pre.length * 2 + 1)) else undef, bif (q15 == false) then (.int .i64 t.2) else undef, bif (q15 == false) then (.bool q22) else undef, bif (q15 == false) then (.bool q23) else undef, .bool q24] (fun _ => .plain) 15 0 s4 ?_ ?_
 ·refine .c ?_ (.c ?_ (.c ?_ (.c ?_ (.c ?_ (.c ?_ (.c ?_ (.c ?_ (.c ?_ (.c ?_ (.c ?_ (.c ?_ (.c ?_ (.c ?_ (.c ?_ (.nil)))))))))))))))
  ·exact qq 7 y7
  ·exact pv fun a w' H => vr (v := elemPtr o (pre.length * 2)) rfl (run_nil_el rfl (H.d 0 10) (Reads.below Fo_3 H.below) (by have h_ : pre.length < (pre ++ [t]).length := (by simp); omega))
  ·exact pv fun a w' H => vr (v := elemPtr o (pre.length * 2 + 0)) rfl (run_field_el rfl Tryd.underlying93 0 (by kernel_rfl) (H.d 1 11) (Reads.below Fo_3 H.below) (by have h_ : pre.length < (pre ++ [t]).length := (by simp); omega))
  ·exact pv fun a w' H => vr (v := .int .i64 t.1) rfl (run_load_el (.int .i64 t.1) rfl (H.d 2 12) (Reads.below Fo_3 H.below) (Evt.top_0 pre t) (by kernel_rfl))
  ·exact qq 1 y1
  ·exact pv fun a w' H => vr (bb Bq15) (o2z (H.d 3 13) (H.d 4 14))
  ·exact qd 5 15
  ·exact g1 6 16 q15 fun hG a w' H => vr (off' hG rfl) (rv (H.q 2 y2))
  ·exact g1 6 16 q15 fun hG a w' H => vr (off' hG rfl) (rv (H.q 7 y7))
  ·exact g1 6 16 q15 fun hG a w' H => vr (v := elemPtr o (pre.length * 2)) (off' hG rfl) (run_nil_el rfl (on (H.d 8 18) hG) (Reads.below Fo_3 H.below) (by have h_ : pre.length < (pre ++ [t]).length := (by simp); omega))
  ·exact g1 6 16 q15 fun hG a w' H => vr (v := elemPtr o (pre.length * 2 + 1)) (off' hG rfl) (run_field_el rfl Tryd.underlying93 1 (by kernel_rfl) (on (H.d 9 19) hG) (Reads.below Fo_3 H.below) (by have h_ : pre.length < (pre ++ [t]).length := (by simp); omega))
  ·exact g1 6 16 q15 fun hG a w' H => vr (v := .int .i64 t.2) (off' hG rfl) (run_load_el (.int .i64 t.2) rfl (on (H.d 10 20) hG) (Reads.below Fo_3 H.below) (Evt.top_1 pre t) (by kernel_rfl))
  ·refine g1 6 16 q15 fun hG a w' H => callv hff hfn hfb rfl (on (H.d 7 17) hG) #[.int .i64 t.2] ?_ ?_
   ·have e0 : a.eval (.tmp 21) = .int .i64 t.2 := (on (H.d 11 21) hG); simp only [List.map_toArray, List.map_cons, List.map_nil, e0]
   refine (hmay t.2 _).mono ?_
   rintro e w'' ⟨rfl, hb⟩
   exact ⟨_, rfl, (off' hG (by rw [Bq22])), hb⟩
  ·exact g1 6 16 q15 fun hG a w' H => vr (off' hG (by rw [Bq23])) (run_not rfl (on (H.d 12 22) hG))
  exact pv fun a w' H => vr (bb Bq24) (run_or rfl rfl (G := true) (H.d 6 16) (fun hb => (on (H.d 13 23) (mk1 hb))))
 intro A w5 T
 have y0 := T.r1 y0
 have ⟨kg_5, lg_5⟩ := T.y kg_3 lg_3
 have Fo_5 := T.f Fo_3
 have Oo_5 := T.g Oo_3
 have y24 := T.u 14 24
 have ⟨d5, s5, bl5⟩ := T.h d4 s4 bl3
 have XA_5 := Aft.step XA_3 T.below
 clear T
 refine tail_nil (wp_cond_split y24 (fun hq => ?_) (fun hq => ?_))
 ·
  have c24 := Bq24.symm.trans hq
  clear hq
  have hc := c24
  refine wp_seq (rS [.bool false] (fun _ => .plain) 1 0 s5 ?_ ?_)
  ·refine .c ?_ (.nil)
   ·exact pq fun a w' H => ra (rfl : a.eval (.const (.bool false)) = .bool false)
  intro A w7 T
  have y6 := T.u 0 6
  have d7 := T.e d5
  have bl7 := T.b bl5
  clear T
  refine tail_nil (wp_ret ?_)
  repeat (first | refine in_ret ?_ | refine then_ret ?_)
  have hn : Evt.pop (pre ++ [t]) k may = none := by rw [Evt.pop_snoc, if_neg]; intro h; obtain ⟨h1, h2⟩ := h; revert hc; simp only [Bq24, Bq23, Bq22, Bq15]; simp [h1, h2]
  exact ret1 rfl d7 y6 ⟨by rw [hn]; rfl, bl7, fun st' h => by rw [hn] at h; cases h⟩
 have c24 := Bq24.symm.trans hq
 clear hq
 have hc := c24
 refine wp_skip (wp_seq ?_)
 refine rD [.pointer (some ⟨g, 0, none⟩), .pointer (some ⟨g, 0, none⟩), .pointer (some ⟨g, 0, none⟩), .pointer (some ⟨g, 0, none⟩), o, .pointer (some ⟨g, 0, none⟩), .pointer (some ⟨g, 0, none⟩), .pointer (some ⟨g, 0, none⟩), o, .int .i64 (((pre ++ [t]).length : Nat) : Int), .int .i64 (IntKind.i64.wrap ((((pre ++ [t]).length : Nat) : Int) - 1)), (cutVal o 0 pre.length 2), .pointer (some ⟨g, 0, none⟩), .pointer (some ⟨g, 0, none⟩)] (fun _ => .plain) 14 1 s5 ?_ ?_
 ·refine .c ?_ (.c ?_ (.c ?_ (.c ?_ (.c ?_ (.c ?_ (.c ?_ (.c ?_ (.c ?_ (.c ?_ (.c ?_ (.c ?_ (.c ?_ (.c ?_ (.cons (fun h => absurd h (by decide)) (.nil)))))))))))))))
  ·exact qq 0 y0
  ·exact qq 0 y0
  ·exact pq fun a w' H => run_nilb rfl (H.d 1 26)
  ·exact pq fun a w' H => fb Tryd.underlying77 0 (H.d 2 27)
  ·exact pq fun a w' H => lb (H.d 3 28) (H.x lg_5 kg_5)
  ·exact qq 0 y0
  ·exact pq fun a w' H => run_nilb rfl (H.d 5 30)
  ·exact pq fun a w' H => fb Tryd.underlying77 0 (H.d 6 31)
  ·exact pq fun a w' H => lb (H.d 7 32) (H.x lg_5 kg_5)
  ·exact pv fun a w' H => vr (v := .int .i64 (((pre ++ [t]).length : Nat) : Int)) rfl (run_len_sl rfl Tryd.underlying75 (H.d 8 33) (Reads.below Fo_5 H.below))
  ·exact pv fun a w' H => vr (v := .int .i64 (IntKind.i64.wrap ((((pre ++ [t]).length : Nat) : Int) - 1))) rfl (ok (.int .i64 1) (H.d 9 34))
  ·exact pv fun a w' H => vr (v := (cutVal o 0 pre.length 2)) rfl (run_cutv (l := 0) (h := pre.length) (size := 2) rfl Tryd.underlying75 (by kernel_rfl) (H.d 4 29) (Reads.below Fo_5 H.below) rfl (congrArg some ((H.d 10 35).trans (congrArg (Value.int _) (show IntKind.i64.wrap ((((pre ++ [t]).length : Nat) : Int) - 1) = ((pre.length : Nat) : Int) from by exact Evt.last_ix pre t hm1)))) (Or.inl ⟨rfl, rfl⟩) (Or.inr ⟨_, rfl⟩) (by omega) (by first | omega | (simp; done) | (simp; omega)))
  ·exact pq fun a w' H => run_nilb rfl (H.d 0 25)
  exact pq fun a w' H => fb Tryd.underlying77 0 (H.d 12 37)
 intro A w9 T
 have ⟨kg_9, lg_9⟩ := T.y kg_5 lg_5
 have Oo_9 := T.g Oo_5
 have y36 := T.u 11 36
 have y38 := T.u 13 38
 have ⟨d9, s9, bl9⟩ := T.h d5 s5 bl5
 have XA_9 := Aft.step XA_5 T.below
 obtain ⟨cv9, hcv9⟩ : ∃ v, v = cutVal o 0 pre.length 2 := ⟨_, rfl⟩
 have Oc9 := Evt.own_popped Oo_9
 rw [← hcv9] at Oc9
 have hx9 := y36.trans hcv9.symm
 have Fc9 := Reads.of_own Oc9
 clear hcv9
 clear T
 refine tail_set (n := 0) (v := cv9) (new := #[cv9]) rfl rfl rfl kg_9 rfl ?_ fun w10 S => ?_
 ·have e0 : A.eval (.tmp 38) = .pointer (some ⟨g, 0, none⟩) := y38
  have e1 : A.eval (.tmp 36) = cv9 := hx9
  obtain ⟨A0_, c0_, ev0_⟩ := Reads.shape Fc9
  subst ev0_
  have z0 := (Eng.cells kg_9 (0)).trans (rfl)
  have f0 := unfrozen kg_9 (0)
  simp only [execOp]
  rw [e0, e1]
  go_simp
 have kg_10 := S.new
 have lg_10 := Nat.lt_of_lt_of_eq lg_9 S.size.symm
 have bl10 := S.below bl9 hlo
 have Opc_10 := own_sets Oc9 S kg_9 rfl
 have XA_10 := Aft.sets XA_9 S (fun _ => Or.inl rfl)
 clear S
 refine tail_nil (wp_seq ?_)
 refine rS [.bool true] (fun _ => .plain) 1 0 s9 ?_ ?_
 ·refine .c ?_ (.nil)
  ·exact pq fun a w' H => ra (rfl : a.eval (.const (.bool true)) = .bool true)
 intro A w11 T
 have kg_11 := T.x lg_10 kg_10
 have Opc_11 := T.g Opc_10
 have y6 := T.u 0 6
 have d11 := T.e d9
 have bl11 := T.b bl10
 have XA_11 := Aft.step XA_10 T.below
 clear T
 refine tail_nil (wp_ret ?_)
 repeat (first | refine in_ret ?_ | refine then_ret ?_)
 have hn : Evt.pop (pre ++ [t]) k may = some pre := by rw [Evt.pop_snoc, if_pos]; revert hc; simp only [Bq24, Bq23, Bq22, Bq15]; simp
 exact ret1 rfl d11 y6 ⟨by rw [hn]; rfl, bl11, fun st' h => by rw [hn] at h; cases h; exact ⟨_, kg_11, Opc_11, XA_11⟩⟩
theorem Evt.pop69_nil (g : Nat) (o : Value) (k : Int) (w W0 : World) (hB : Below w.heap.size w W0) (hlo : w.heap.size ≤ g) (hk : W0.heap[g]? = some (.cells #[o] 77 (0, 0))) (hO : W0.ownsRow w.heap.size 93 2 o 0 (Evt.opens [])) (hk0 : 0 ≤ k) : Calls Tryd.prog 68 #[.pointer (some ⟨g, 0, none⟩), .int .i64 k, .func (.func 69) #[] #[]] W0 fun e w' => e = .returned (.bool (Evt.pop [] k (fun m => m == 1)).isSome) ∧ Below w.heap.size w w' ∧ ∀ st', Evt.pop [] k (fun m => m == 1) = some st' → ∃ o', Evt.Is w.heap.size W0 g o st' w' o' := Evt.pop_nilW g o k 69 Tryd.f69 (fun m => m == 1) Tryd.func69 (by kernel_rfl) (by kernel_rfl) (fun m w => Evt.may69_calls m w) w W0 hB hlo hk hO hk0
theorem Evt.pop69_top (g : Nat) (o : Value) (k : Int) (pre : List (Int × Int)) (t : Int × Int) (w W0 : World) (hB : Below w.heap.size w W0) (hlo : w.heap.size ≤ g) (hk : W0.heap[g]? = some (.cells #[o] 77 (0, 0))) (hO : W0.ownsRow w.heap.size 93 2 o (pre ++ [t]).length (Evt.opens (pre ++ [t]))) : Calls Tryd.prog 68 #[.pointer (some ⟨g, 0, none⟩), .int .i64 k, .func (.func 69) #[] #[]] W0 fun e w' => e = .returned (.bool (Evt.pop (pre ++ [t]) k (fun m => m == 1)).isSome) ∧ Below w.heap.size w w' ∧ ∀ st', Evt.pop (pre ++ [t]) k (fun m => m == 1) = some st' → ∃ o', Evt.Is w.heap.size W0 g o st' w' o' := Evt.pop_topW g o k pre t 69 Tryd.f69 (fun m => m == 1) Tryd.func69 (by kernel_rfl) (by kernel_rfl) (fun m w => Evt.may69_calls m w) w W0 hB hlo hk hO
theorem Evt.pop70_nil (g : Nat) (o : Value) (k : Int) (w W0 : World) (hB : Below w.heap.size w W0) (hlo : w.heap.size ≤ g) (hk : W0.heap[g]? = some (.cells #[o] 77 (0, 0))) (hO : W0.ownsRow w.heap.size 93 2 o 0 (Evt.opens [])) (hk0 : 0 ≤ k) : Calls Tryd.prog 68 #[.pointer (some ⟨g, 0, none⟩), .int .i64 k, .func (.func 70) #[] #[]] W0 fun e w' => e = .returned (.bool (Evt.pop [] k (fun _ => true)).isSome) ∧ Below w.heap.size w w' ∧ ∀ st', Evt.pop [] k (fun _ => true) = some st' → ∃ o', Evt.Is w.heap.size W0 g o st' w' o' := Evt.pop_nilW g o k 70 Tryd.f70 (fun _ => true) Tryd.func70 (by kernel_rfl) (by kernel_rfl) (fun m w => Evt.may70_calls m w) w W0 hB hlo hk hO hk0
theorem Evt.pop70_top (g : Nat) (o : Value) (k : Int) (pre : List (Int × Int)) (t : Int × Int) (w W0 : World) (hB : Below w.heap.size w W0) (hlo : w.heap.size ≤ g) (hk : W0.heap[g]? = some (.cells #[o] 77 (0, 0))) (hO : W0.ownsRow w.heap.size 93 2 o (pre ++ [t]).length (Evt.opens (pre ++ [t]))) : Calls Tryd.prog 68 #[.pointer (some ⟨g, 0, none⟩), .int .i64 k, .func (.func 70) #[] #[]] W0 fun e w' => e = .returned (.bool (Evt.pop (pre ++ [t]) k (fun _ => true)).isSome) ∧ Below w.heap.size w w' ∧ ∀ st', Evt.pop (pre ++ [t]) k (fun _ => true) = some st' → ∃ o', Evt.Is w.heap.size W0 g o st' w' o' := Evt.pop_topW g o k pre t 70 Tryd.f70 (fun _ => true) Tryd.func70 (by kernel_rfl) (by kernel_rfl) (fun m w => Evt.may70_calls m w) w W0 hB hlo hk hO
theorem Evt.pop71_nil (g : Nat) (o : Value) (k : Int) (w W0 : World) (hB : Below w.heap.size w W0) (hlo : w.heap.size ≤ g) (hk : W0.heap[g]? = some (.cells #[o] 77 (0, 0))) (hO : W0.ownsRow w.heap.size 93 2 o 0 (Evt.opens [])) (hk0 : 0 ≤ k) : Calls Tryd.prog 68 #[.pointer (some ⟨g, 0, none⟩), .int .i64 k, .func (.func 71) #[] #[]] W0 fun e w' => e = .returned (.bool (Evt.pop [] k Evt.even).isSome) ∧ Below w.heap.size w w' ∧ ∀ st', Evt.pop [] k Evt.even = some st' → ∃ o', Evt.Is w.heap.size W0 g o st' w' o' := Evt.pop_nilW g o k 71 Tryd.f71 Evt.even Tryd.func71 (by kernel_rfl) (by kernel_rfl) (fun m w => Evt.may71_calls m w) w W0 hB hlo hk hO hk0
theorem Evt.pop71_top (g : Nat) (o : Value) (k : Int) (pre : List (Int × Int)) (t : Int × Int) (w W0 : World) (hB : Below w.heap.size w W0) (hlo : w.heap.size ≤ g) (hk : W0.heap[g]? = some (.cells #[o] 77 (0, 0))) (hO : W0.ownsRow w.heap.size 93 2 o (pre ++ [t]).length (Evt.opens (pre ++ [t]))) : Calls Tryd.prog 68 #[.pointer (some ⟨g, 0, none⟩), .int .i64 k, .func (.func 71) #[] #[]] W0 fun e w' => e = .returned (.bool (Evt.pop (pre ++ [t]) k Evt.even).isSome) ∧ Below w.heap.size w w' ∧ ∀ st', Evt.pop (pre ++ [t]) k Evt.even = some st' → ∃ o', Evt.Is w.heap.size W0 g o st' w' o' := Evt.pop_topW g o k pre t 71 Tryd.f71 Evt.even Tryd.func71 (by kernel_rfl) (by kernel_rfl) (fun m w => Evt.may71_calls m w) w W0 hB hlo hk hO
end Go.Proofs.YtgnmjaacnmkgnaaDoor.X
end
section
namespace Go.Proofs.YtgnmjaacnmkgnaaDoor.X
open Go.RowKit Go.Shelf Go.Proofs Go.Proofs.YtgnmjaacnmkgnaaDoorW.PrintWords Go.Proofs.YtgnmjaacnmkgnaaDoorW.PrintLast Go.Proofs.YtgnmjaacnmkgnaaDoorW.PrintMore Go.Proofs.Eng
set_option linter.unusedVariables false
set_option linter.unusedSimpArgs false
attribute [local go_sem] max2_int min2_int max_two min_two
set_option maxHeartbeats 4000000 in
set_option maxRecDepth 100000 in
theorem Evt.push_calls (g : Nat) (o : Value) (st : List (Int × Int)) (k : Int) (w W0 : World) (hB : Below w.heap.size w W0) (hlo : w.heap.size ≤ g) (hk : W0.heap[g]? = some (.cells #[o] 77 (0, 0))) (hO : W0.ownsRow w.heap.size 93 2 o st.length (Evt.opens st)) (hst : st.length ≤ 100000) : Calls Tryd.prog 67 #[.pointer (some ⟨g, 0, none⟩), .int .i64 k] W0 fun e w' => ∃ v o', e = .returned v ∧ Evt.Is w.heap.size W0 g o (st ++ [(k, 0)]) w' o' := by
 refine enter Tryd.func67 rfl fun A d0 s0 v0 => ?_
 have s0 : A.tmps.size = 15 := s0
 have y0 : A.eval (.tmp 0) = .pointer (some ⟨g, 0, none⟩) := v0 0 (by simp)
 have y1 : A.eval (.tmp 1) = .int .i64 k := v0 1 (by simp)
 clear v0
 refine regionT (n := 12) rfl (tail_val rfl rfl rfl (rv y0) s0 rfl fun A d1 s1 y4 hr => ?_)
 have ⟨y0, y1⟩ := k2 hr y0 y1
 have d1 := d1.trans d0
 refine tail_val rfl rfl rfl (rv y0) s1 rfl fun A d2 s2 y5 hr => ?_
 have ⟨y1, y4⟩ := k2 hr y1 y4
 have d2 := d2.trans d1
 refine tail_val (w1 := W0) (v := .pointer (some ⟨g, 0, none⟩)) rfl rfl rfl ?_ s2 rfl ?_
 ·exact run_nilb rfl y5
 intro A d3 s3 y6 hr
 have ⟨y1, y4⟩ := k2 hr y1 y4
 have d3 := d3.trans d2
 refine tail_val (w1 := W0) (v := .pointer (some ⟨g, 0, none⟩)) rfl rfl rfl ?_ s3 rfl ?_
 ·exact fb Tryd.underlying77 0 y6
 intro A d4 s4 y7 hr
 have ⟨y1, y4⟩ := k2 hr y1 y4
 have d4 := d4.trans d3
 refine tail_val (w1 := W0) (v := o) rfl rfl rfl ?_ s4 rfl ?_
 ·exact lb y7 (((Below.refl _ _).block _ (Array.getElem?_eq_some_iff.1 hk).1).trans hk)
 intro A d5 s5 y8 hr
 have ⟨y1, y4⟩ := k2 hr y1 y4
 have d5 := d5.trans d4
 refine tail_val rfl rfl rfl (rv y1) s5 rfl fun A d6 s6 y9 hr => ?_
 have ⟨y4, y8⟩ := k2 hr y4 y8
 have d6 := d6.trans d5
 refine tail_val (w1 := W0) (v := .agg #[.int .i64 k, .int .i64 0]) rfl rfl rfl (o1 y9) s6 rfl ?_
 intro A d7 s7 y10 hr
 have ⟨y4, y8⟩ := k2 hr y4 y8
 have d7 := d7.trans d6
 refine tail_ex rfl rfl rfl (run_build1I (size := 2) (z := .agg #[.int .i64 0, .int .i64 0]) [.int .i64 k, .int .i64 0] rfl Tryd.underlying75 (by kernel_rfl) rfl rfl rfl (by kernel_rfl) y10) s7 rfl fun v_8 w8 A R d8 s8 y11 hr => ?_
 obtain ⟨F_8, b_8⟩ := R
 have ⟨y4, y8⟩ := k2 hr y4 y8
 have d8 := d8.trans d7
 have kg_8 := (b_8.block _ (Array.getElem?_eq_some_iff.1 hk).1).trans hk
 have lg_8 := Nat.lt_of_lt_of_le (Array.getElem?_eq_some_iff.1 hk).1 b_8.size
 have Oo_8 := own_below hO b_8
 have XA_8 := Aft.step (Aft.refl (Nst g o) W0) b_8
 have bl8 := hB.trans (b_8.mono hB.size)
 refine tail_ex rfl rfl rfl (run_appendI (z := .agg #[.int .i64 0, .int .i64 0]) rfl Tryd.underlying75 (by kernel_rfl) rfl rfl y8 Oo_8 y11 F_8 (by intro u hu; simp only [List.mem_cons, List.not_mem_nil, or_false] at hu; rcases hu with rfl | rfl <;> rfl) (by omega) bl8.size) s8 rfl fun v_9 w9 A R d9 s9 y12 hr => ?_
 obtain ⟨O_9, _, b_9, G_9, EO_9⟩ := R
 have y4 := k1 hr y4
 have d9 := d9.trans d8
 have kg_9 := (G_9.block _ lg_8 (own_ne Oo_8 kg_8 rfl)).trans kg_8
 have XA_9 := Aft.grown XA_8 G_9 (fun b e _ => Or.inr e)
 have Oa9 : w9.ownsRow w.heap.size 93 2 v_9 (st ++ [(k, 0)]).length (Evt.opens (st ++ [(k, 0)])) := Evt.own_snoc O_9
 have Fa9 := Reads.of_own Oa9
 refine tail_val (w1 := w9) (v := .pointer (some ⟨g, 0, none⟩)) rfl rfl rfl ?_ s9 rfl ?_
 ·exact run_nilb rfl y4
 intro A d10 s10 y13 hr
 have y12 := k1 hr y12
 have d10 := d10.trans d9
 refine tail_val (w1 := w9) (v := .pointer (some ⟨g, 0, none⟩)) rfl rfl rfl ?_ s10 rfl ?_
 ·exact fb Tryd.underlying77 0 y13
 intro A d11 s11 y14 hr
 have y12 := k1 hr y12
 have d11 := d11.trans d10
 refine tail_set (n := 0) (v := v_9) (new := #[v_9]) rfl rfl rfl kg_9 rfl ?_ fun w12 S => ?_
 ·have e0 : A.eval (.tmp 14) = .pointer (some ⟨g, 0, none⟩) := y14
  have e1 : A.eval (.tmp 12) = v_9 := y12
  obtain ⟨A0_, c0_, ev0_⟩ := Reads.shape Fa9
  subst ev0_
  have z0 := (Eng.cells kg_9 (0)).trans (rfl)
  have f0 := unfrozen kg_9 (0)
  simp only [execOp]
  rw [e0, e1]
  go_simp
 have kg_12 := S.new
 have Oa9_12 := own_sets Oa9 S kg_9 rfl
 have XA_12 := Aft.sets XA_9 S (fun _ => Or.inl rfl)
 clear S
 exact tail_nil (ret0 rfl d11 (fun v => ⟨v, v_9, rfl, kg_12, Oa9_12, XA_12⟩))
end Go.Proofs.YtgnmjaacnmkgnaaDoor.X
end
