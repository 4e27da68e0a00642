/- Words and walks that the row of ComposeRight needs: printed by programs, and plain laws. -/
import Derived.Test.YtgnmjaacnmkgnaaDoorM6
import Derived.Test.YtgnmjaacnmkgnaaDoorM3
import Derived.Carry
namespace Go.Proofs.YtgnmjaacnmkgnaaDoorW.PrintWords
end Go.Proofs.YtgnmjaacnmkgnaaDoorW.PrintWords
namespace Go.Proofs.YtgnmjaacnmkgnaaDoorW.PrintLast
end Go.Proofs.YtgnmjaacnmkgnaaDoorW.PrintLast
namespace Go.Proofs.YtgnmjaacnmkgnaaDoorW.PrintMore
end Go.Proofs.YtgnmjaacnmkgnaaDoorW.PrintMore
section
namespace Go.Proofs.YtgnmjaacnmkgnaaDoor.X
open Go.RowKit Go.Shelf Go.Proofs Go.Proofs.YtgnmjaacnmkgnaaDoorW.PrintWords Go.Proofs.YtgnmjaacnmkgnaaDoorW.PrintLast Go.Proofs.YtgnmjaacnmkgnaaDoorW.PrintMore
set_option linter.unusedVariables false
set_option linter.unusedSimpArgs false
attribute [local go_sem] max2_int min2_int max_two min_two
set_option maxHeartbeats 4000000 in
set_option maxRecDepth 100000 in
theorem Dc.node_calls (dg mb : Nat) (gv ov : Value) (h : List Dc.NV) (opn : List Int) (names : List (List UInt8 × Int)) (x : Evt.Ev) (w W0 : World) (hB : Below w.heap.size w W0) (hlo : w.heap.size ≤ dg) (hk : W0.heap[dg]? = some (.cells #[gv, ov, .map (some mb)] 64 (0, 0))) (hR : Dc.Rep w.heap.size W0 h opn names gv ov mb) (hsz : x.text.size ≤ 2000) (hasz : x.anchor.size ≤ maxLen) (hnl : names.length ≤ 1000000) (hop : ∀ o ∈ opn, 0 ≤ o ∧ o.toNat < h.length) (hopl : opn.length ≤ 1000000) (hkl : ∀ i, i < h.length → (h.getD i default).1.kids.length ≤ 1000000) : Calls Tryd.prog 57 #[.pointer (some ⟨dg, 0, none⟩), .agg #[.int .i64 x.kind, .string x.anchor, .string x.tag, .string x.text, .bool x.plain]] W0 fun e w' => ∃ h' opn' names' gv' ov', e = .returned (.int .i64 (Dc.nodeF ⟨h.map (·.1), opn, names⟩ x).2) ∧ (⟨h'.map (·.1), opn', names'⟩ : Dc.Dc) = (Dc.nodeF ⟨h.map (·.1), opn, names⟩ x).1 ∧ Dc.St w.heap.size W0 w' dg (Dc.Blk h gv ov mb) h' opn' names' gv' ov' mb ∧ w'.heap[dg]? = some (.cells #[gv', ov', .map (some mb)] 64 (0, 0)) := by
 have hnl1 : names.length ≤ 1000000 := hnl
 refine Eng.enter Tryd.func57 rfl fun A d0 s0 v0 => ?_
 have s0 : A.tmps.size = 77 := s0
 have y0 : A.eval (.tmp 0) = .pointer (some ⟨dg, 0, none⟩) := v0 0 (by simp)
 have y1 : A.eval (.tmp 1) = .agg #[.int .i64 x.kind, .string x.anchor, .string x.tag, .string x.text, .bool x.plain] := v0 1 (by simp)
 clear v0
 refine wp_seq (Eng.regionS (Eng.still [fun u_ => True, fun u_ => u_ = .int .i64 0]) (fun i => ([.alloc 30 #[.int .i64 x.kind, .string x.anchor, .string x.tag, .string x.text, .bool x.plain], .plain] : List Eng.Kind).getD i .plain) 2 0 77 s0 rfl (by kernel_rfl) (Eng.still_stable _) (Or.inr (Eng.still_any _)) ?_ ?_)
 ·refine .c ?_ (.c ?_ (.nil))
  ·refine Eng.made rfl (by simp) rfl (fun a w' hd ho => ?_) (fun _ _ => trivial)
   exact Eng.run_box rfl ((ho 1 (by kernel_rfl)).trans y1)
  exact Eng.pq fun a w' H => Eng.ra (rfl : a.eval (.const (.int .i64 0)) = .int .i64 0)
 intro A w1 T
 have ⟨y0, y1⟩ := T.r2 y0 y1
 have kdg_1 := (T.below.block _ (Array.getElem?_eq_some_iff.1 hk).1).trans hk
 have ldg_1 := Nat.lt_of_lt_of_le (Array.getElem?_eq_some_iff.1 hk).1 T.below.size
 have Fgr_1 := Eng.Reads.below (Eng.Reads.of_own hR.gr) T.below
 obtain ⟨g3_1, y3, rg3_1, lg3_1_1, kg3_1_1⟩ := T.al 0 3 _ _ rfl rfl rfl (by kernel_rfl)
 have ne_g3_1_dg : dg ≠ g3_1 := fun e => Nat.lt_irrefl _ (Nat.lt_of_lt_of_le (e ▸ (Array.getElem?_eq_some_iff.1 hk).1) rg3_1)
 have y4 : A.eval (.tmp 4) = .int .i64 0 := T.done 1 4 rfl rfl
 have d1 := T.e d0
 have s1 := T.z s0
 have bl1 := hB.trans (T.below.mono hB.size)
 have XX_1 := Dc.St.below (Dc.St.start (dg := dg) hR) T.below
 clear T
 refine Eng.tail_nil (wp_seq (wp_seq ?_))
 obtain ⟨q14, Bq14⟩ := Eng.nm (decide (((h.length : Nat) : Int) ≥ 2000))
 refine Eng.rP [.pointer (some ⟨dg, 0, none⟩), .pointer (some ⟨dg, 0, none⟩), .pointer (some ⟨dg, 0, none⟩), gv, .int .i64 ((h.length : Nat) : Int), .bool q14] 6 0 s1 (.c (Eng.qq 0 y0) (.c (Eng.pq fun a w' H => Eng.run_nilb rfl (H.d 0 9)) (.c (Eng.pq fun a w' H => Eng.fb Tryd.underlying64 0 (H.d 1 10)) (.c (Eng.pq fun a w' H => Eng.lb (H.d 2 11) (H.x ldg_1 kdg_1)) (.c (Eng.pv fun a w' H => Eng.vr (v := .int .i64 ((h.length : Nat) : Int)) rfl (Eng.run_len_sl rfl Tryd.underlying48 (H.d 3 12) (Eng.Reads.below Fgr_1 H.below))) (.c (Eng.pv fun a w' H => Eng.vr (Eng.bb Bq14) (Eng.ok (.int .i64 2000) (H.d 4 13))) .nil)))))) fun A w2 T => ?_
 have ⟨y0, y1, y3, y4⟩ := T.r4 y0 y1 y3 y4
 have ⟨kdg_2, ldg_2⟩ := T.y kdg_1 ldg_1
 have ⟨kg3_1_2, lg3_1_2⟩ := T.y kg3_1_1 lg3_1_1
 have Fgr_2 := T.f Fgr_1
 have y14 := T.u 5 14
 have ⟨d2, s2, bl2⟩ := T.h d1 s1 bl1
 have XX_2 := Dc.St.below XX_1 T.below
 clear T
 refine Eng.tail_nil (wp_cond_split y14 (fun hq => ?_) (fun hq => ?_))
 ·
  have c14 := Bq14.symm.trans hq
  clear hq
  have c14 := of_decide_eq_true c14
  have hfull : 2000 ≤ h.length := by omega
  refine wp_seq (Eng.rS [.int .i64 16] (fun _ => .plain) 1 0 s2 ?_ ?_)
  ·refine .c ?_ (.nil)
   ·exact Eng.pq fun a w' H => Eng.ra (rfl : a.eval (.const (.int .i64 16)) = .int .i64 16)
  intro A w4 T
  have kdg_4 := T.x ldg_2 kdg_2
  have y4 := T.u 0 4
  have d4 := T.e d2
  have XX_4 := Dc.St.below XX_2 T.below
  clear T
  refine Eng.tail_nil (wp_ret ?_)
  repeat (first | refine Eng.in_ret ?_ | refine Eng.then_ret ?_)
  have e_ : Dc.nodeF ⟨h.map (·.1), opn, names⟩ x = (⟨h.map (·.1), opn, names⟩, 16) := Dc.nodeF_full (by simpa using hfull)
  exact Eng.ret1 rfl d4 y4 ⟨h, opn, names, gv, ov, by rw [e_], by rw [e_], XX_4, kdg_4⟩
 have c14 := Bq14.symm.trans hq
 clear hq
 have c14 := of_decide_eq_false c14
 have hfull : ¬ 2000 ≤ h.length := by omega
 refine wp_skip (wp_seq ?_)
 refine Eng.rS [.agg #[.int .i64 x.kind, .string x.anchor, .string x.tag, .string x.text, .bool x.plain], .tuple #[.string ((Evt.tagF x).1), .int .i64 ((Evt.tagF x).2)], .tuple #[.string ((Evt.tagF x).1), .int .i64 ((Evt.tagF x).2)], .string ((Evt.tagF x).1), .int .i64 ((Evt.tagF x).2), .string ((Evt.tagF x).1), .int .i64 ((Evt.tagF x).2)] (fun _ => .plain) 7 0 s2 ?_ ?_
 ·refine .c ?_ (.c ?_ (.c ?_ (.c ?_ (.c ?_ (.c ?_ (.c ?_ (.nil)))))))
  ·refine Eng.pv fun a w' H => ?_
   have kb := (H.below.block _ lg3_1_2).trans kg3_1_2
   have z0 : w'.cell? ⟨g3_1, 0, none⟩ = some (.int .i64 x.kind) := (Eng.cells kb 0).trans rfl
   have z1 : w'.cell? ⟨g3_1, 1, none⟩ = some (.string x.anchor) := (Eng.cells kb 1).trans rfl
   have z2 : w'.cell? ⟨g3_1, 2, none⟩ = some (.string x.tag) := (Eng.cells kb 2).trans rfl
   have z3 : w'.cell? ⟨g3_1, 3, none⟩ = some (.string x.text) := (Eng.cells kb 3).trans rfl
   have z4 : w'.cell? ⟨g3_1, 4, none⟩ = some (.bool x.plain) := (Eng.cells kb 4).trans rfl
   exact Eng.vr (v := .agg #[.int .i64 x.kind, .string x.anchor, .string x.tag, .string x.text, .bool x.plain]) rfl (Eng.o1 (H.q 3 y3))
  ·refine Eng.pv fun a w' H => Eng.call Tryd.func10 (by kernel_rfl) (by kernel_rfl) rfl #[.agg #[.int .i64 x.kind, .string x.anchor, .string x.tag, .string x.text, .bool x.plain]] ?_ ?_
   ·have e0 : a.eval (.tmp 16) = .agg #[.int .i64 x.kind, .string x.anchor, .string x.tag, .string x.text, .bool x.plain] := (H.d 0 16); simp only [List.map_toArray, List.map_cons, List.map_nil, e0]
   refine (Evt.tag_calls x _ hsz).mono ?_
   rintro e w'' ⟨rfl, hb⟩
   exact ⟨_, rfl, rfl, hb⟩
  ·exact Eng.qd 1 17
  ·exact Eng.pv fun a w' H => Eng.vr (v := .string ((Evt.tagF x).1)) rfl (Eng.o1 (H.d 2 15))
  ·exact Eng.pv fun a w' H => Eng.vr (v := .int .i64 ((Evt.tagF x).2)) rfl (Eng.o1 (H.d 2 15))
  ·exact Eng.qe 3 18
  exact Eng.qe 4 19
 intro A w6 T
 have ⟨y0, y1, y3, y4, y14⟩ := T.r5 y0 y1 y3 y4 y14
 have ⟨kdg_6, ldg_6⟩ := T.y kdg_2 ldg_2
 have ⟨kg3_1_6, lg3_1_6⟩ := T.y kg3_1_2 lg3_1_2
 have Fgr_6 := T.f Fgr_2
 have y5 := T.u 5 5
 have y6 := T.u 6 6
 have ⟨d6, s6, bl6⟩ := T.h d2 s2 bl2
 have XX_6 := Dc.St.below XX_2 T.below
 clear T
 refine Eng.tail_nil (wp_seq (wp_seq ?_))
 obtain ⟨q21, Bq21⟩ := Eng.nm (!(((Evt.tagF x).2) == 0))
 refine Eng.rP [.int .i64 ((Evt.tagF x).2), .bool q21] 2 0 s6 (.c (Eng.qq 6 y6) (.c (Eng.pv fun a w' H => Eng.vr (Eng.bb Bq21) (Eng.okz (.int .i64 0) (H.d 0 20))) .nil)) fun A w7 T => ?_
 have ⟨y0, y1, y3, y4, y5, y6, y14⟩ := T.r7 y0 y1 y3 y4 y5 y6 y14
 have ⟨kdg_7, ldg_7⟩ := T.y kdg_6 ldg_6
 have ⟨kg3_1_7, lg3_1_7⟩ := T.y kg3_1_6 lg3_1_6
 have Fgr_7 := T.f Fgr_6
 have y21 := T.u 1 21
 have ⟨d7, s7, bl7⟩ := T.h d6 s6 bl6
 have XX_7 := Dc.St.below XX_6 T.below
 clear T
 refine Eng.tail_nil (wp_cond_split y21 (fun hq => ?_) (fun hq => ?_))
 ·
  have c21 := Bq21.symm.trans hq
  clear hq
  have htg : ¬ (Evt.tagF x).2 = 0 := by have h1 := c21; simpa using h1
  refine wp_seq (Eng.rP [.int .i64 ((Evt.tagF x).2), .int .i64 ((Evt.tagF x).2)] 2 0 s7 (.c (Eng.qq 6 y6) (.c (Eng.qe 0 22) .nil)) fun A w9 T => ?_)
  have kdg_9 := T.x ldg_7 kdg_7
  have y4 := T.u 1 4
  have d9 := T.e d7
  have XX_9 := Dc.St.below XX_7 T.below
  clear T
  refine Eng.tail_nil (wp_ret ?_)
  repeat (first | refine Eng.in_ret ?_ | refine Eng.then_ret ?_)
  have e_ : Dc.nodeF ⟨h.map (·.1), opn, names⟩ x = (⟨h.map (·.1), opn, names⟩, (Evt.tagF x).2) := Dc.nodeF_tag (by simpa using hfull) htg
  exact Eng.ret1 rfl d9 y4 ⟨h, opn, names, gv, ov, by rw [e_], by rw [e_], XX_9, kdg_9⟩
 have c21 := Bq21.symm.trans hq
 clear hq
 have htg : (Evt.tagF x).2 = 0 := by have h1 := c21; simpa using h1
 refine wp_skip (wp_seq ?_)
 refine Eng.rP [.pointer (some ⟨dg, 0, none⟩), .pointer (some ⟨dg, 0, none⟩), .pointer (some ⟨dg, 0, none⟩), gv, .int .i64 ((h.length : Nat) : Int), .int .i64 ((h.length : Nat) : Int)] 6 0 s7 (.c (Eng.qq 0 y0) (.c (Eng.pq fun a w' H => Eng.run_nilb rfl (H.d 0 23)) (.c (Eng.pq fun a w' H => Eng.fb Tryd.underlying64 0 (H.d 1 24)) (.c (Eng.pq fun a w' H => Eng.lb (H.d 2 25) (H.x ldg_7 kdg_7)) (.c (Eng.pv fun a w' H => Eng.vr (v := .int .i64 ((h.length : Nat) : Int)) rfl (Eng.run_len_sl rfl Tryd.underlying48 (H.d 3 26) (Eng.Reads.below Fgr_7 H.below))) (.c (Eng.qe 4 27) .nil)))))) fun A w11 T => ?_
 have ⟨y0, y1, y3, y4, y5, y6, y14, y21⟩ := T.r8 y0 y1 y3 y4 y5 y6 y14 y21
 have ⟨kdg_11, ldg_11⟩ := T.y kdg_7 ldg_7
 have ⟨kg3_1_11, lg3_1_11⟩ := T.y kg3_1_7 lg3_1_7
 have y7 := T.u 5 7
 have ⟨d11, s11, bl11⟩ := T.h d7 s7 bl7
 have XX_11 := Dc.St.below XX_7 T.below
 clear T
 refine Eng.tail_nil (wp_seq ?_)
 refine Eng.regionS (Eng.still [fun u_ => u_ = .string ((Evt.tagF x).1), fun u_ => u_ = .pointer (some ⟨g3_1, 3, none⟩), fun u_ => u_ = .string x.text, fun u_ => u_ = .agg #[.int .i64 0, .string ((Evt.tagF x).1), .string x.text, .slice none 0 0], fun u_ => True, fun u_ => True]) (fun i => ([.plain, .plain, .plain, .plain, .alloc 57 #[.int .i64 0, .string ⟨#[]⟩, .string ⟨#[]⟩, .slice none 0 0], .store 4 #[.int .i64 0, .string ((Evt.tagF x).1), .string x.text, .slice none 0 0]] : List Eng.Kind).getD i .plain) 6 0 77 s11 rfl (by kernel_rfl) (Eng.still_stable _) (Or.inr (Eng.still_any _)) ?_ ?_
 ·refine .c ?_ (.c ?_ (.c ?_ (.c ?_ (.c ?_ (.c ?_ (.nil))))))
  ·exact Eng.qq 5 y5
  ·exact Eng.pq fun a w' H => Eng.fb Tryd.underlying30 3 (H.q 3 y3)
  ·exact Eng.pq fun a w' H => Eng.lb (H.d 1 29) (H.x lg3_1_11 kg3_1_11)
  ·exact Eng.pv fun a w' H => Eng.vr (v := .agg #[.int .i64 0, .string ((Evt.tagF x).1), .string x.text, .slice none 0 0]) rfl (Eng.o2 (H.d 0 28) (H.d 2 30))
  ·refine Eng.made rfl (by simp) rfl (fun a w' hd ho => ?_) (fun _ _ => trivial)
   simp only [execOp]
   go_simp
  refine Eng.stored [.int .i64 0, .string ((Evt.tagF x).1), .string x.text, .slice none 0 0] rfl rfl rfl (j := 4) (d := 8) (by kernel_rfl) rfl rfl (Eng.store_uniq (by kernel_rfl)) rfl rfl fun a w' g e hc hd ho => ?_
  have e0 : a.eval _ = .agg #[.int .i64 0, .string ((Evt.tagF x).1), .string x.text, .slice none 0 0] := (hd 3 31 (by kernel_rfl) rfl)
  have z0 := (Eng.cells hc 0).trans rfl
  have z1 := (Eng.cells hc 1).trans rfl
  have z2 := (Eng.cells hc 2).trans rfl
  have z3 := (Eng.cells hc 3).trans rfl
  have f0 := Eng.unfrozen hc 0
  have f1 := Eng.unfrozen hc 1
  have f2 := Eng.unfrozen hc 2
  have f3 := Eng.unfrozen hc 3
  simp only [execOp, e, e0]
  go_simp
  rfl
 intro A w12 T
 have ⟨y0, y1, y3, y4, y5, y6, y7, y14, y21⟩ := T.r9 y0 y1 y3 y4 y5 y6 y7 y14 y21
 have ⟨kdg_12, ldg_12⟩ := T.y kdg_11 ldg_11
 have ⟨kg3_1_12, lg3_1_12⟩ := T.y kg3_1_11 lg3_1_11
 obtain ⟨g8_12, y8, rg8_12, lg8_12_12, kg8_12_12⟩ := T.st 4 8 5 _ _ _ rfl rfl rfl rfl rfl
 have og8_12 : w.heap.size ≤ g8_12 := Nat.le_trans bl11.size rg8_12
 have ne_g8_12_dg : dg ≠ g8_12 := fun e => Nat.lt_irrefl _ (Nat.lt_of_lt_of_le (e ▸ ldg_11) rg8_12)
 have ne_g8_12_g3_1 : g3_1 ≠ g8_12 := fun e => Nat.lt_irrefl _ (Nat.lt_of_lt_of_le (e ▸ lg3_1_11) rg8_12)
 have ⟨d12, s12, bl12⟩ := T.h d11 s11 bl11
 have XX_12 := Dc.St.below XX_11 T.below
 clear T
 have ap8 : ¬ Dc.Blk h gv ov mb g8_12 := fun hb => Nat.lt_irrefl _ (Nat.lt_of_lt_of_le (XX_11.R.lt hb).2 rg8_12)
 have nw8 : W0.heap.size ≤ g8_12 := Nat.le_trans XX_11.A.size rg8_12
 refine Eng.tail_nil (wp_seq (wp_seq ?_))
 refine Eng.rP [.pointer (some ⟨g3_1, 0, none⟩), .int .i64 x.kind] 2 0 s12 (.c (Eng.pq fun a w' H => Eng.fb Tryd.underlying30 0 (H.q 3 y3)) (.c (Eng.pq fun a w' H => Eng.lb (H.d 0 32) (H.x lg3_1_12 kg3_1_12)) .nil)) fun A w13 T => ?_
 have ⟨y0, y1, y3, y4, y5, y6, y7, y8, y14, y21⟩ := T.r10 y0 y1 y3 y4 y5 y6 y7 y8 y14 y21
 have ⟨kdg_13, ldg_13⟩ := T.y kdg_12 ldg_12
 have ⟨kg3_1_13, lg3_1_13⟩ := T.y kg3_1_12 lg3_1_12
 have ⟨kg8_12_13, lg8_12_13⟩ := T.y kg8_12_12 lg8_12_12
 have y33 := T.u 1 33
 have ⟨d13, s13, bl13⟩ := T.h d12 s12 bl12
 have XX_13 := Dc.St.below XX_12 T.below
 clear T
 refine Eng.tail_nil (Eng.join (fun a w' => ∃ (K : Int), (Dc.kindN x.kind = K) ∧ (Dc.St w.heap.size W0 w' dg (Dc.Blk h gv ov mb) h opn names gv ov mb) ∧ a.defers = [] ∧ a.tmps.size = 77 ∧ Below w.heap.size w w' ∧ a.eval (.tmp 0) = .pointer (some ⟨dg, 0, none⟩) ∧ a.eval (.tmp 1) = .agg #[.int .i64 x.kind, .string x.anchor, .string x.tag, .string x.text, .bool x.plain] ∧ a.eval (.tmp 3) = .pointer (some ⟨g3_1, 0, none⟩) ∧ a.eval (.tmp 4) = .int .i64 0 ∧ a.eval (.tmp 5) = .string ((Evt.tagF x).1) ∧ a.eval (.tmp 6) = .int .i64 ((Evt.tagF x).2) ∧ a.eval (.tmp 7) = .int .i64 ((h.length : Nat) : Int) ∧ a.eval (.tmp 8) = .pointer (some ⟨g8_12, 0, none⟩) ∧ a.eval (.tmp 14) = .bool q14 ∧ a.eval (.tmp 21) = .bool q21 ∧ a.eval (.tmp 33) = .int .i64 x.kind ∧ w'.heap[dg]? = some (.cells (#[gv, ov, .map (some mb)]) 64 (0, 0)) ∧ dg < w'.heap.size ∧ w'.heap[g3_1]? = some (.cells (#[.int .i64 x.kind, .string x.anchor, .string x.tag, .string x.text, .bool x.plain]) 30 (0, 0)) ∧ g3_1 < w'.heap.size ∧ w'.heap[g8_12]? = some (.cells (#[.int .i64 K, .string ((Evt.tagF x).1), .string x.text, .slice none 0 0]) 57 (0, 0)) ∧ g8_12 < w'.heap.size) ?_ ?_)
 ·
  refine wp_block (wp_seq ?_)
  obtain ⟨q35, Bq35⟩ := Eng.nm (x.kind == 2)
  refine Eng.rP [.bool q35, .bool q35] 2 0 s13 (.c (Eng.pv fun a w' H => Eng.vr (Eng.bb Bq35) (Eng.ok (.int .i64 2) (H.q 33 y33))) (.c (Eng.qe 0 35) .nil)) fun A w14 T => ?_
  have ⟨y0, y1, y3, y4, y5, y6, y7, y8, y14, y21⟩ := T.r10 y0 y1 y3 y4 y5 y6 y7 y8 y14 y21
  have y33 := T.r1 y33
  have ⟨kdg_14, ldg_14⟩ := T.y kdg_13 ldg_13
  have ⟨kg3_1_14, lg3_1_14⟩ := T.y kg3_1_13 lg3_1_13
  have ⟨kg8_12_14, lg8_12_14⟩ := T.y kg8_12_13 lg8_12_13
  have y34 := T.u 1 34
  have ⟨d14, s14, bl14⟩ := T.h d13 s13 bl13
  have XX_14 := Dc.St.below XX_13 T.below
  clear T
  refine Eng.tail_nil (wp_cond_split y34 (fun hq => ?_) (fun hq => ?_))
  ·
   have c34 := Bq35.symm.trans hq
   clear hq
   have hk2 : x.kind = 2 := by simpa using c34
   refine Eng.rS [.pointer (some ⟨g8_12, 0, none⟩)] (fun _ => .plain) 1 1 s14 ?_ ?_
   ·refine .c ?_ (.cons (fun h => absurd h (by decide)) (.nil))
    ·exact Eng.pq fun a w' H => Eng.fb Tryd.underlying57 0 (H.q 8 y8)
   intro A w16 T
   have ⟨y0, y1, y3, y4, y5, y6, y7, y8, y14, y21⟩ := T.r10 y0 y1 y3 y4 y5 y6 y7 y8 y14 y21
   have y33 := T.r1 y33
   have ⟨kdg_16, ldg_16⟩ := T.y kdg_14 ldg_14
   have ⟨kg3_1_16, lg3_1_16⟩ := T.y kg3_1_14 lg3_1_14
   have ⟨kg8_12_16, lg8_12_16⟩ := T.y kg8_12_14 lg8_12_14
   have y36 := T.u 0 36
   have ⟨d16, s16, bl16⟩ := T.h d14 s14 bl14
   have XX_16 := Dc.St.below XX_14 T.below
   clear T
   refine Eng.tail_set (n := 0) (v := .int .i64 1) (new := #[.int .i64 1, .string ((Evt.tagF x).1), .string x.text, .slice none 0 0]) rfl rfl rfl kg8_12_16 rfl ?_ fun w17 S => ?_
   ·have e0 : A.eval (.tmp 36) = .pointer (some ⟨g8_12, 0, none⟩) := y36
    have e1 : A.eval (.const (.int .i64 1)) = .int .i64 1 := rfl
    have z0 := (Eng.cells kg8_12_16 (0)).trans (rfl)
    have f0 := Eng.unfrozen kg8_12_16 (0)
    simp only [execOp]
    rw [e0, e1]
    go_simp
   have kdg_17 := (S.far _ ne_g8_12_dg).trans kdg_16
   have ldg_17 := Nat.lt_of_lt_of_eq ldg_16 S.size.symm
   have kg3_1_17 := (S.far _ ne_g8_12_g3_1).trans kg3_1_16
   have lg3_1_17 := Nat.lt_of_lt_of_eq lg3_1_16 S.size.symm
   have kg8_12_17 := S.new
   have lg8_12_17 := Nat.lt_of_lt_of_eq lg8_12_16 S.size.symm
   have bl17 := S.below bl16 og8_12
   have XX_17 := Dc.St.setx XX_16 S ap8 nw8
   clear S
   exact Eng.tail_nil (⟨1, Dc.kindN_2 hk2, XX_17, d16, s16, bl17, y0, y1, y3, y4, y5, y6, y7, y8, y14, y21, y33, kdg_17, ldg_17, kg3_1_17, lg3_1_17, kg8_12_17, lg8_12_17⟩)
  have c34 := Bq35.symm.trans hq
  clear hq
  have hk2 : ¬ x.kind = 2 := by simpa using c34
  refine wp_seq ?_
  obtain ⟨q38, Bq38⟩ := Eng.nm (x.kind == 4)
  refine Eng.rP [.bool q38, .bool q38] 2 0 s14 (.c (Eng.pv fun a w' H => Eng.vr (Eng.bb Bq38) (Eng.ok (.int .i64 4) (H.q 33 y33))) (.c (Eng.qe 0 38) .nil)) fun A w19 T => ?_
  have ⟨y0, y1, y3, y4, y5, y6, y7, y8, y14, y21⟩ := T.r10 y0 y1 y3 y4 y5 y6 y7 y8 y14 y21
  have y33 := T.r1 y33
  have ⟨kdg_19, ldg_19⟩ := T.y kdg_14 ldg_14
  have ⟨kg3_1_19, lg3_1_19⟩ := T.y kg3_1_14 lg3_1_14
  have ⟨kg8_12_19, lg8_12_19⟩ := T.y kg8_12_14 lg8_12_14
  have y37 := T.u 1 37
  have ⟨d19, s19, bl19⟩ := T.h d14 s14 bl14
  have XX_19 := Dc.St.below XX_14 T.below
  clear T
  refine Eng.tail_nil (wp_cond_split y37 (fun hq => ?_) (fun hq => ?_))
  ·
   have c37 := Bq38.symm.trans hq
   clear hq
   have hk4 : x.kind = 4 := by simpa using c37
   refine Eng.rS [.pointer (some ⟨g8_12, 0, none⟩)] (fun _ => .plain) 1 1 s19 ?_ ?_
   ·refine .c ?_ (.cons (fun h => absurd h (by decide)) (.nil))
    ·exact Eng.pq fun a w' H => Eng.fb Tryd.underlying57 0 (H.q 8 y8)
   intro A w21 T
   have ⟨y0, y1, y3, y4, y5, y6, y7, y8, y14, y21⟩ := T.r10 y0 y1 y3 y4 y5 y6 y7 y8 y14 y21
   have y33 := T.r1 y33
   have ⟨kdg_21, ldg_21⟩ := T.y kdg_19 ldg_19
   have ⟨kg3_1_21, lg3_1_21⟩ := T.y kg3_1_19 lg3_1_19
   have ⟨kg8_12_21, lg8_12_21⟩ := T.y kg8_12_19 lg8_12_19
   have y39 := T.u 0 39
   have ⟨d21, s21, bl21⟩ := T.h d19 s19 bl19
   have XX_21 := Dc.St.below XX_19 T.below
   clear T
   refine Eng.tail_set (n := 0) (v := .int .i64 2) (new := #[.int .i64 2, .string ((Evt.tagF x).1), .string x.text, .slice none 0 0]) rfl rfl rfl kg8_12_21 rfl ?_ fun w22 S => ?_
   ·have e0 : A.eval (.tmp 39) = .pointer (some ⟨g8_12, 0, none⟩) := y39
    have e1 : A.eval (.const (.int .i64 2)) = .int .i64 2 := rfl
    have z0 := (Eng.cells kg8_12_21 (0)).trans (rfl)
    have f0 := Eng.unfrozen kg8_12_21 (0)
    simp only [execOp]
    rw [e0, e1]
    go_simp
   have kdg_22 := (S.far _ ne_g8_12_dg).trans kdg_21
   have ldg_22 := Nat.lt_of_lt_of_eq ldg_21 S.size.symm
   have kg3_1_22 := (S.far _ ne_g8_12_g3_1).trans kg3_1_21
   have lg3_1_22 := Nat.lt_of_lt_of_eq lg3_1_21 S.size.symm
   have kg8_12_22 := S.new
   have lg8_12_22 := Nat.lt_of_lt_of_eq lg8_12_21 S.size.symm
   have bl22 := S.below bl21 og8_12
   have XX_22 := Dc.St.setx XX_21 S ap8 nw8
   clear S
   exact Eng.tail_nil (⟨2, Dc.kindN_4 hk2 hk4, XX_22, d21, s21, bl22, y0, y1, y3, y4, y5, y6, y7, y8, y14, y21, y33, kdg_22, ldg_22, kg3_1_22, lg3_1_22, kg8_12_22, lg8_12_22⟩)
  have c37 := Bq38.symm.trans hq
  clear hq
  have hk4 : ¬ x.kind = 4 := by simpa using c37
  exact wp_skip (⟨0, Dc.kindN_0 hk2 hk4, XX_19, d19, s19, bl19, y0, y1, y3, y4, y5, y6, y7, y8, y14, y21, y33, kdg_19, ldg_19, kg3_1_19, lg3_1_19, kg8_12_19, lg8_12_19⟩)
 rintro A w24 ⟨K, hj0_24, hj1_24, d24, s24, bl24, y0, y1, y3, y4, y5, y6, y7, y8, y14, y21, y33, kdg_24, ldg_24, kg3_1_24, lg3_1_24, kg8_12_24, lg8_12_24⟩
 have hK := hj0_24
 have Ogr_24 := hj1_24.R.gr
 refine wp_seq (Eng.regionDE 7 0 (Eng.tell [.still fun u_ => u_ = .pointer (some ⟨dg, 0, none⟩), .still fun u_ => u_ = .pointer (some ⟨dg, 0, none⟩), .still fun u_ => u_ = .pointer (some ⟨dg, 0, none⟩), .still fun u_ => u_ = .pointer (some ⟨dg, 0, none⟩), .still fun u_ => u_ = gv, .still fun u_ => u_ = .agg #[.int .i64 K, .string ((Evt.tagF x).1), .string x.text, .slice none 0 0], Eng.Tl.reads 1 4 [.int .i64 K, .string ((Evt.tagF x).1), .string x.text, .slice none 0 0]]) (fun i => ([.plain, .plain, .plain, .plain, .plain, .plain, .plain] : List Eng.Kind).getD i .plain) 7 4 77 (by kernel_rfl) s24 rfl (by kernel_rfl) rfl rfl rfl rfl (by kernel_rfl) (by kernel_rfl) (by kernel_rfl) (by kernel_rfl) (fun _ _ _ _ h => h) (Eng.tell_stable _) (Or.inl (Eng.no_stores (by kernel_rfl))) ?_ ?_)
 ·refine .c ?_ (.c ?_ (.c ?_ (.c ?_ (.c ?_ (.c ?_ (.c ?_ (.cons (fun h => absurd h (by decide)) (.cons (fun h => absurd h (by decide)) (.cons (fun h => absurd h (by decide)) (.cons (fun h => absurd h (by decide)) (.nil)))))))))))
  ·exact Eng.pv fun a w' H => Eng.vr (v := .pointer (some ⟨dg, 0, none⟩)) rfl (Eng.rv (H.q 0 y0))
  ·exact Eng.pv fun a w' H => Eng.vr (v := .pointer (some ⟨dg, 0, none⟩)) rfl (Eng.rv (H.q 0 y0))
  ·exact Eng.pv fun a w' H => Eng.vr (v := .pointer (some ⟨dg, 0, none⟩)) rfl (Eng.run_nilb rfl (H.d 1 41))
  ·exact Eng.pv fun a w' H => Eng.vr (v := .pointer (some ⟨dg, 0, none⟩)) rfl (Eng.fb Tryd.underlying64 0 (H.d 2 42))
  ·exact Eng.pv fun a w' H => Eng.vr (v := gv) rfl (Eng.lb (H.d 3 43) (H.x ldg_24 kdg_24))
  ·refine Eng.pv fun a w' H => ?_
   have kb := (H.below.block _ lg8_12_24).trans kg8_12_24
   have z0 : w'.cell? ⟨g8_12, 0, none⟩ = some (.int .i64 K) := (Eng.cells kb 0).trans rfl
   have z1 : w'.cell? ⟨g8_12, 1, none⟩ = some (.string ((Evt.tagF x).1)) := (Eng.cells kb 1).trans rfl
   have z2 : w'.cell? ⟨g8_12, 2, none⟩ = some (.string x.text) := (Eng.cells kb 2).trans rfl
   have z3 : w'.cell? ⟨g8_12, 3, none⟩ = some (.slice none 0 0) := (Eng.cells kb 3).trans rfl
   exact Eng.vr (v := .agg #[.int .i64 K, .string ((Evt.tagF x).1), .string x.text, .slice none 0 0]) rfl (Eng.o1 (H.q 8 y8))
  refine Eng.pv fun a w' H => Eng.val_ex (Eng.run_build1I (size := 4) (z := .agg #[.int .i64 0, .string ⟨#[]⟩, .string ⟨#[]⟩, .slice none 0 0]) [.int .i64 K, .string ((Evt.tagF x).1), .string x.text, .slice none 0 0] rfl Tryd.underlying48 (by kernel_rfl) rfl rfl rfl (by kernel_rfl) (H.d 5 45)) fun v1 w'' R => ?_
  obtain ⟨F, hb⟩ := R
  exact ⟨hb, F⟩
 intro A w25 T
 have ⟨y0, y1, y3, y4, y5, y6, y7, y8, y14, y21⟩ := T.r10 y0 y1 y3 y4 y5 y6 y7 y8 y14 y21
 have y33 := T.r1 y33
 have ⟨kdg_25, ldg_25⟩ := T.y kdg_24 ldg_24
 have ⟨kg3_1_25, lg3_1_25⟩ := T.y kg3_1_24 lg3_1_24
 have ⟨kg8_12_25, lg8_12_25⟩ := T.y kg8_12_24 lg8_12_24
 have Ogr_25 := T.g Ogr_24
 have y40 : A.eval (.tmp 40) = .pointer (some ⟨dg, 0, none⟩) := T.done 0 40 rfl rfl
 have y44 : A.eval (.tmp 44) = gv := T.done 4 44 rfl rfl
 have OO46_25 := T.done 6 46 rfl rfl
 obtain ⟨v46_25, y46⟩ : ∃ v, A.eval (.tmp 46) = v := ⟨_, rfl⟩
 have ⟨d25, s25, bl25⟩ := T.h d24 s24 bl24
 have XX_25 := Dc.St.below hj1_24 T.below
 have OP46_25 : Eng.Reads w25 v46_25 1 4 [.int .i64 K, .string ((Evt.tagF x).1), .string x.text, .slice none 0 0] := by rw [← y46]; exact OO46_25
 clear OO46_25
 clear T
 refine Eng.tail_ex rfl rfl rfl (Eng.run_appendI (z := .agg #[.int .i64 0, .string ⟨#[]⟩, .string ⟨#[]⟩, .slice none 0 0]) rfl Tryd.underlying48 (by kernel_rfl) rfl rfl y44 Ogr_25 y46 OP46_25 (by intro u hu; simp only [List.mem_cons, List.not_mem_nil, or_false] at hu; rcases hu with rfl | rfl | rfl | rfl <;> rfl) (by omega) bl25.size) s25 rfl fun v_26 w26 A R d26 s26 y47 hr => ?_
 obtain ⟨O_26, _, b_26, G_26, EO_26⟩ := R
 have ⟨y0, y1, y3, y4, y5, y6, y7, y8, y14, y21⟩ := Eng.k10 hr y0 y1 y3 y4 y5 y6 y7 y8 y14 y21
 have ⟨y33, y40⟩ := Eng.k2 hr y33 y40
 have d26 := d26.trans d25
 have kdg_26 := (G_26.block _ ldg_25 (Eng.own_ne Ogr_25 kdg_25 rfl)).trans kdg_25
 have ldg_26 := Nat.lt_of_lt_of_le ldg_25 G_26.size
 have kg3_1_26 := (G_26.block _ lg3_1_25 (Eng.own_ne Ogr_25 kg3_1_25 rfl)).trans kg3_1_25
 have lg3_1_26 := Nat.lt_of_lt_of_le lg3_1_25 G_26.size
 have kg8_12_26 := (G_26.block _ lg8_12_25 (fun e => ap8 (.inl e))).trans kg8_12_25
 have lg8_12_26 := Nat.lt_of_lt_of_le lg8_12_25 G_26.size
 have XX_26 := Dc.St.snoc XX_25 (⟨K, (Evt.tagF x).1, x.text, []⟩ : Dc.Nd) rfl O_26 G_26 EO_26
 have bl26 := bl25.trans b_26
 obtain ⟨hh26, eh26⟩ : ∃ l : List Dc.NV, l = (h ++ [((⟨K, (Evt.tagF x).1, x.text, []⟩ : Dc.Nd), Value.slice none 0 0)]) := ⟨_, rfl⟩
 rw [← eh26] at XX_26
 have ap8_26 := Dc.ap_snoc (n := (⟨K, (Evt.tagF x).1, x.text, []⟩ : Dc.Nd)) ap8 lg8_12_25 EO_26
 rw [← eh26] at ap8_26
 have Oa26 : w26.ownsRow w.heap.size 57 4 v_26 hh26.length (Dc.cells hh26) := XX_26.R.gr
 have Fa26 := Eng.Reads.of_own Oa26
 refine Eng.tail_val (w1 := w26) (v := .pointer (some ⟨dg, 0, none⟩)) rfl rfl rfl ?_ s26 rfl ?_
 ·exact Eng.run_nilb rfl y40
 intro A d27 s27 y48 hr
 have ⟨y0, y1, y3, y4, y5, y6, y7, y8, y14, y21⟩ := Eng.k10 hr y0 y1 y3 y4 y5 y6 y7 y8 y14 y21
 have ⟨y33, y47⟩ := Eng.k2 hr y33 y47
 have d27 := d27.trans d26
 refine Eng.tail_val (w1 := w26) (v := .pointer (some ⟨dg, 0, none⟩)) rfl rfl rfl ?_ s27 rfl ?_
 ·exact Eng.fb Tryd.underlying64 0 y48
 intro A d28 s28 y49 hr
 have ⟨y0, y1, y3, y4, y5, y6, y7, y8, y14, y21⟩ := Eng.k10 hr y0 y1 y3 y4 y5 y6 y7 y8 y14 y21
 have ⟨y33, y47⟩ := Eng.k2 hr y33 y47
 have d28 := d28.trans d27
 refine Eng.tail_set (n := 0) (v := v_26) (new := #[v_26, ov, .map (some mb)]) rfl rfl rfl kdg_26 rfl ?_ fun w29 S => ?_
 ·have e0 : A.eval (.tmp 49) = .pointer (some ⟨dg, 0, none⟩) := y49
  have e1 : A.eval (.tmp 47) = v_26 := y47
  obtain ⟨A0_, c0_, ev0_⟩ := Eng.Reads.shape Fa26
  subst ev0_
  have z0 := (Eng.cells kdg_26 (0)).trans (rfl)
  have f0 := Eng.unfrozen kdg_26 (0)
  simp only [execOp]
  rw [e0, e1]
  go_simp
 have kdg_29 := S.new
 have ldg_29 := Nat.lt_of_lt_of_eq ldg_26 S.size.symm
 have kg3_1_29 := (S.far _ ne_g3_1_dg.symm).trans kg3_1_26
 have lg3_1_29 := Nat.lt_of_lt_of_eq lg3_1_26 S.size.symm
 have kg8_12_29 := (S.far _ ne_g8_12_dg.symm).trans kg8_12_26
 have lg8_12_29 := Nat.lt_of_lt_of_eq lg8_12_26 S.size.symm
 have bl29 := S.below bl26 hlo
 have XX_29 := Dc.St.setd XX_26 S kdg_26
 clear S
 refine Eng.tail_nil (wp_seq (wp_seq ?_))
 obtain ⟨q52, Bq52⟩ := Eng.nm (!(x.anchor.toList.isEmpty))
 refine Eng.rP [.pointer (some ⟨g3_1, 1, none⟩), .string x.anchor, .bool q52] 3 0 s28 (.c (Eng.pq fun a w' H => Eng.fb Tryd.underlying30 1 (H.q 3 y3)) (.c (Eng.pq fun a w' H => Eng.lb (H.d 0 50) (H.x lg3_1_29 kg3_1_29)) (.c (Eng.pv fun a w' H => Eng.vr (Eng.bb Bq52) (Eng.ok (.string ⟨#[]⟩) (H.d 1 51))) .nil))) fun A w30 T => ?_
 have ⟨y0, y1, y3, y4, y5, y6, y7, y8, y14, y21⟩ := T.r10 y0 y1 y3 y4 y5 y6 y7 y8 y14 y21
 have y33 := T.r1 y33
 have ⟨kdg_30, ldg_30⟩ := T.y kdg_29 ldg_29
 have ⟨kg3_1_30, lg3_1_30⟩ := T.y kg3_1_29 lg3_1_29
 have ⟨kg8_12_30, lg8_12_30⟩ := T.y kg8_12_29 lg8_12_29
 have y52 := T.u 2 52
 have ⟨d30, s30, bl30⟩ := T.h d28 s28 bl29
 have XX_30 := Dc.St.below XX_29 T.below
 clear T
 refine Eng.tail_nil (Eng.join (fun a w' => ∃ (nm2 : List (List UInt8 × Int)), (Dc.nameF ⟨h.map (·.1), opn, names⟩ x = nm2) ∧ (Dc.St w.heap.size W0 w' dg (Dc.Blk h gv ov mb) hh26 opn nm2 v_26 ov mb) ∧ a.defers = [] ∧ a.tmps.size = 77 ∧ Below w.heap.size w w' ∧ a.eval (.tmp 0) = .pointer (some ⟨dg, 0, none⟩) ∧ a.eval (.tmp 1) = .agg #[.int .i64 x.kind, .string x.anchor, .string x.tag, .string x.text, .bool x.plain] ∧ a.eval (.tmp 3) = .pointer (some ⟨g3_1, 0, none⟩) ∧ a.eval (.tmp 4) = .int .i64 0 ∧ a.eval (.tmp 5) = .string ((Evt.tagF x).1) ∧ a.eval (.tmp 6) = .int .i64 ((Evt.tagF x).2) ∧ a.eval (.tmp 7) = .int .i64 ((h.length : Nat) : Int) ∧ a.eval (.tmp 8) = .pointer (some ⟨g8_12, 0, none⟩) ∧ a.eval (.tmp 14) = .bool q14 ∧ a.eval (.tmp 21) = .bool q21 ∧ a.eval (.tmp 33) = .int .i64 x.kind ∧ a.eval (.tmp 52) = .bool q52 ∧ w'.heap[dg]? = some (.cells (#[v_26, ov, .map (some mb)]) 64 (0, 0)) ∧ dg < w'.heap.size ∧ w'.heap[g3_1]? = some (.cells (#[.int .i64 x.kind, .string x.anchor, .string x.tag, .string x.text, .bool x.plain]) 30 (0, 0)) ∧ g3_1 < w'.heap.size ∧ w'.heap[g8_12]? = some (.cells (#[.int .i64 K, .string ((Evt.tagF x).1), .string x.text, .slice none 0 0]) 57 (0, 0)) ∧ g8_12 < w'.heap.size) ?_ ?_)
 ·
  refine wp_cond_split y52 (fun hq => ?_) (fun hq => ?_)
  ·
   have c52 := Bq52.symm.trans hq
   clear hq
   have han : ¬ x.anchor.toList.isEmpty = true := by have h1 := c52; simpa using h1
   refine (wpIn_wide (n := 1)).1 (EngI.regionD EngI.free_wide (Eng.still [fun u_ => u_ = .pointer (some ⟨dg, 0, none⟩), fun u_ => u_ = .pointer (some ⟨dg, 0, none⟩), fun u_ => u_ = .pointer (some ⟨dg, 2, none⟩), fun u_ => u_ = .map (some mb), fun u_ => u_ = .pointer (some ⟨g3_1, 1, none⟩), fun u_ => u_ = .string x.anchor, fun u_ => u_ = .int .i64 ((h.length : Nat) : Int)]) (fun _ => .plain) 7 1 77 (by kernel_rfl) s30 rfl (by kernel_rfl) (Eng.still_stable _) (Or.inr (Eng.still_any _)) (by kernel_rfl) ?_ ?_)
   ·refine .c ?_ (.c ?_ (.c ?_ (.c ?_ (.c ?_ (.c ?_ (.c ?_ (.cons (fun h => absurd h (by decide)) (.nil))))))))
    ·exact Eng.qq 0 y0
    ·exact Eng.pq fun a w' H => Eng.run_nilb rfl (H.d 0 53)
    ·exact Eng.pq fun a w' H => Eng.fb Tryd.underlying64 2 (H.d 1 54)
    ·exact Eng.pq fun a w' H => Eng.lb (H.d 2 55) (H.x ldg_30 kdg_30)
    ·exact Eng.pq fun a w' H => Eng.fb Tryd.underlying30 1 (H.q 3 y3)
    ·exact Eng.pq fun a w' H => Eng.lb (H.d 4 57) (H.x lg3_1_30 kg3_1_30)
    exact Eng.qq 7 y7
   intro A w32 T
   have ⟨y0, y1, y3, y4, y5, y6, y7, y8, y14, y21⟩ := T.r10 y0 y1 y3 y4 y5 y6 y7 y8 y14 y21
   have ⟨y33, y52⟩ := T.r2 y33 y52
   have ⟨kdg_32, ldg_32⟩ := T.y kdg_30 ldg_30
   have ⟨kg3_1_32, lg3_1_32⟩ := T.y kg3_1_30 lg3_1_30
   have ⟨kg8_12_32, lg8_12_32⟩ := T.y kg8_12_30 lg8_12_30
   have y56 : A.eval (.tmp 56) = .map (some mb) := T.done 3 56 rfl rfl
   have y58 : A.eval (.tmp 58) = .string x.anchor := T.done 5 58 rfl rfl
   have y59 : A.eval (.tmp 59) = .int .i64 ((h.length : Nat) : Int) := T.done 6 59 rfl rfl
   have ⟨d32, s32, bl32⟩ := T.h d30 s30 bl30
   have XX_32 := Dc.St.below XX_30 T.below
   clear T
   refine EngG.tail_exs EngI.free_wide rfl rfl rfl rfl (Dc.run_put (s := x.anchor) (c := ((h.length : Nat) : Int)) XX_32 rfl y56 y58 y59 hasz (Dc.wf_nat (by omega)) (by unfold maxLen; omega)) fun w33 R => ?_
   obtain ⟨X33, G_33⟩ := R
   have kdg_33 := (G_33.block _ ldg_32 (Dc.box_map kdg_32 XX_32.R.mp)).trans kdg_32
   have ldg_33 := Nat.lt_of_lt_of_le ldg_32 G_33.size
   have kg3_1_33 := (G_33.block _ lg3_1_32 (Dc.box_map kg3_1_32 XX_32.R.mp)).trans kg3_1_32
   have lg3_1_33 := Nat.lt_of_lt_of_le lg3_1_32 G_33.size
   have kg8_12_33 := (G_33.block _ lg8_12_32 (Dc.box_map kg8_12_32 XX_32.R.mp)).trans kg8_12_32
   have lg8_12_33 := Nat.lt_of_lt_of_le lg8_12_32 G_33.size
   have bl33 := bl32.grown G_33 bl32.size (fun j hj => by injection hj with hj; subst hj; exact XX_32.R.mp.1)
   exact EngI.tail_nil (⟨((x.anchor.data.toList, (h.length : Int)) :: names), (by unfold Dc.nameF; rw [if_neg han]; simp), X33, d32, s32, bl33, y0, y1, y3, y4, y5, y6, y7, y8, y14, y21, y33, y52, kdg_33, ldg_33, kg3_1_33, lg3_1_33, kg8_12_33, lg8_12_33⟩)
  have c52 := Bq52.symm.trans hq
  clear hq
  have han : x.anchor.toList.isEmpty = true := by have h1 := c52; simpa using h1
  exact wp_skip (⟨names, (by unfold Dc.nameF; rw [if_pos han]), XX_30, d30, s30, bl30, y0, y1, y3, y4, y5, y6, y7, y8, y14, y21, y33, y52, kdg_30, ldg_30, kg3_1_30, lg3_1_30, kg8_12_30, lg8_12_30⟩)
 rintro A w35 ⟨nm2, hj0_35, hj1_35, d35, s35, bl35, y0, y1, y3, y4, y5, y6, y7, y8, y14, y21, y33, y52, kdg_35, ldg_35, kg3_1_35, lg3_1_35, kg8_12_35, lg8_12_35⟩
 have hnm2 := hj0_35
 refine wp_seq ((wpIn_wide (n := 1)).1 ?_)
 refine EngI.regionS EngI.free_wide (Eng.still [fun u_ => u_ = .pointer (some ⟨dg, 0, none⟩), fun u_ => u_ = .int .i64 ((h.length : Nat) : Int)]) (fun _ => .plain) 2 2 77 s35 rfl (by kernel_rfl) (Eng.still_stable _) (Or.inr (Eng.still_any _)) (by kernel_rfl) ?_ ?_
 ·refine .c ?_ (.c ?_ (.cons (fun h => absurd h (by decide)) (.cons (fun h => absurd h (by decide)) (.nil))))
  ·exact Eng.qq 0 y0
  exact Eng.qq 7 y7
 intro A w36 T
 have ⟨y0, y7, y8⟩ := T.r3 y0 y7 y8
 have kdg_36 := T.x ldg_35 kdg_35
 have ⟨kg8_12_36, lg8_12_36⟩ := T.y kg8_12_35 lg8_12_35
 have y60 : A.eval (.tmp 60) = .pointer (some ⟨dg, 0, none⟩) := T.done 0 60 rfl rfl
 have y61 : A.eval (.tmp 61) = .int .i64 ((h.length : Nat) : Int) := T.done 1 61 rfl rfl
 have ⟨d36, s36, bl36⟩ := T.h d35 s35 bl35
 have XX_36 := Dc.St.below hj1_35 T.below
 clear T
 refine EngI.tail_call EngI.free_wide Tryd.func56 (by kernel_rfl) (by kernel_rfl) rfl rfl rfl rfl #[.pointer (some ⟨dg, 0, none⟩), .int .i64 ((h.length : Nat) : Int)] (Eng.m2 y60 y61) s36 rfl (R := fun v w' => ∃ h', v = .int .i64 (Dc.kidF ⟨hh26.map (·.1), opn, nm2⟩ h.length).2 ∧ h'.map (·.1) = (Dc.kidF ⟨hh26.map (·.1), opn, nm2⟩ h.length).1.nodes ∧ Dc.St w.heap.size w36 w' dg (Dc.Blk hh26 v_26 ov mb) h' opn nm2 v_26 ov mb ∧ w'.heap[dg]? = some (.cells #[v_26, ov, .map (some mb)] 64 (0, 0))) ((Dc.kid_calls dg mb v_26 ov hh26 opn nm2 h.length w _ bl36 hlo kdg_36 XX_36.R (by rw [eh26]; simp) (fun o ho => ⟨(hop o ho).1, Nat.lt_of_lt_of_le (hop o ho).2 (by rw [eh26]; simp)⟩) (by rw [eh26]; exact Dc.snoc_kids rfl hkl)).mono ?_) fun v_37 w37 A R d37 s37 y62 hr => ?_
 ·rintro e w1 ⟨h1, rfl, r1⟩; exact ⟨_, rfl, h1, rfl, r1⟩
 have ⟨y0, y7, y8⟩ := Eng.k3 hr y0 y7 y8
 have d37 := d37.trans d36
 obtain ⟨h37, ev_37, hm37, Y37, kb37⟩ := R
 obtain ⟨kr37, hkr37⟩ : ∃ k, k = (Dc.kidF ⟨hh26.map (·.1), opn, nm2⟩ h.length).2 := ⟨_, rfl⟩
 rw [ev_37, ← hkr37] at y62
 have kg8_12_37 := Y37.A.at_ kg8_12_36 (fun h => h.elim (ne_g8_12_dg.symm) ap8_26)
 have lg8_12_37 := Nat.lt_of_lt_of_le lg8_12_36 Y37.A.size
 have bl37 := Eng.Aft.below Y37.A bl36 (Nat.le_refl _) (fun b hb => hb.elim (fun e => e ▸ hlo) (fun e => (XX_36.R.lt e).1))
 have X_37 := Dc.St.call XX_36 Y37
 have lb37 := (Array.getElem?_eq_some_iff.1 kb37).1
 have Oop_37 := X_37.R.op
 refine EngI.tw rfl (Eng.ra y62) s37 d37 fun A d38 s38 y6 hr => ?_
 have ⟨y0, y7, y8⟩ := Eng.k3 hr y0 y7 y8
 refine EngI.tail_nil (wp_seq (wp_seq ?_))
 obtain ⟨q65, Bq65⟩ := Eng.nm (!(K == 0))
 refine Eng.rP [.pointer (some ⟨g8_12, 0, none⟩), .int .i64 K, .bool q65] 3 0 s38 (.c (Eng.pq fun a w' H => Eng.fb Tryd.underlying57 0 (H.q 8 y8)) (.c (Eng.pq fun a w' H => Eng.lb (H.d 0 63) (H.x lg8_12_37 kg8_12_37)) (.c (Eng.pv fun a w' H => Eng.vr (Eng.bb Bq65) (Eng.okz (.int .i64 0) (H.d 1 64))) .nil))) fun A w39 T => ?_
 have ⟨y0, y6, y7⟩ := T.r3 y0 y6 y7
 have ⟨kdg_39, ldg_39⟩ := T.y kb37 lb37
 have Oop_39 := T.g Oop_37
 have y65 := T.u 2 65
 have ⟨d39, s39, bl39⟩ := T.h d38 s38 bl37
 have XX_39 := Dc.St.below X_37 T.below
 clear T
 refine Eng.tail_nil (wp_cond_split y65 (fun hq => ?_) (fun hq => ?_))
 ·
  have c65 := Bq65.symm.trans hq
  clear hq
  have hK0 : ¬ K = 0 := by have h1 := c65; simpa using h1
  refine Eng.regionT (n := 11) rfl (Eng.tail_val rfl rfl rfl (Eng.rv y0) s39 rfl fun A d41 s41 y66 hr => ?_)
  have ⟨y0, y6, y7⟩ := Eng.k3 hr y0 y6 y7
  have d41 := d41.trans d39
  refine Eng.tail_val rfl rfl rfl (Eng.rv y0) s41 rfl fun A d42 s42 y67 hr => ?_
  have ⟨y6, y7, y66⟩ := Eng.k3 hr y6 y7 y66
  have d42 := d42.trans d41
  refine Eng.tail_val (w1 := w39) (v := .pointer (some ⟨dg, 0, none⟩)) rfl rfl rfl ?_ s42 rfl ?_
  ·exact Eng.run_nilb rfl y67
  intro A d43 s43 y68 hr
  have ⟨y6, y7, y66⟩ := Eng.k3 hr y6 y7 y66
  have d43 := d43.trans d42
  refine Eng.tail_val (w1 := w39) (v := .pointer (some ⟨dg, 1, none⟩)) rfl rfl rfl ?_ s43 rfl ?_
  ·exact Eng.fb Tryd.underlying64 1 y68
  intro A d44 s44 y69 hr
  have ⟨y6, y7, y66⟩ := Eng.k3 hr y6 y7 y66
  have d44 := d44.trans d43
  refine Eng.tail_val (w1 := w39) (v := ov) rfl rfl rfl ?_ s44 rfl ?_
  ·exact Eng.lb y69 (((Below.refl _ _).block _ ldg_39).trans kdg_39)
  intro A d45 s45 y70 hr
  have ⟨y6, y7, y66⟩ := Eng.k3 hr y6 y7 y66
  have d45 := d45.trans d44
  refine Eng.tail_val rfl rfl rfl (Eng.rv y7) s45 rfl fun A d46 s46 y71 hr => ?_
  have ⟨y6, y66, y70⟩ := Eng.k3 hr y6 y66 y70
  have d46 := d46.trans d45
  refine Eng.tail_ex rfl rfl rfl (Eng.run_buildN1 (z := .int .i64 0) [.int .i64 ((h.length : Nat) : Int)] rfl Tryd.underlying55 (by kernel_rfl) rfl rfl rfl rfl (by intro v hv; have h := List.mem_singleton.1 hv; rw [h]; exact rfl) (by have e0 : A.eval (.tmp 71) = .int .i64 ((h.length : Nat) : Int) := y71; simp [e0])) s46 rfl fun v_47 w47 A R d47 s47 y72 hr => ?_
  obtain ⟨F_47, b_47⟩ := R
  have ⟨y6, y66, y70⟩ := Eng.k3 hr y6 y66 y70
  have d47 := d47.trans d46
  have kdg_47 := (b_47.block _ ldg_39).trans kdg_39
  have ldg_47 := Nat.lt_of_lt_of_le ldg_39 b_47.size
  have Oop_47 := Eng.own_below Oop_39 b_47
  have XX_47 := Dc.St.below XX_39 b_47
  have bl47 := bl39.trans (b_47.mono bl39.size)
  refine Eng.tail_ex rfl rfl rfl (Eng.run_appendI (z := .int .i64 0) rfl Tryd.underlying55 (by kernel_rfl) rfl rfl y70 Oop_47 y72 F_47 (by intro u hu; simp at hu; subst hu; rfl) (by omega) bl47.size) s47 rfl fun v_48 w48 A R d48 s48 y73 hr => ?_
  obtain ⟨O_48, _, b_48, G_48, EO_48⟩ := R
  have ⟨y6, y66⟩ := Eng.k2 hr y6 y66
  have d48 := d48.trans d47
  have kdg_48 := (G_48.block _ ldg_47 (Eng.own_ne Oop_47 kdg_47 rfl)).trans kdg_47
  have ldg_48 := Nat.lt_of_lt_of_le ldg_47 G_48.size
  have XX_48 := Dc.St.push XX_47 (h.length : Int) O_48 G_48 EO_48
  have Oa48 : w48.ownsRow w.heap.size 3 1 v_48 (opn ++ [(h.length : Int)]).length (Dc.ints (opn ++ [(h.length : Int)])) := XX_48.R.op
  have Fa48 := Eng.Reads.of_own Oa48
  refine Eng.tail_val (w1 := w48) (v := .pointer (some ⟨dg, 0, none⟩)) rfl rfl rfl ?_ s48 rfl ?_
  ·exact Eng.run_nilb rfl y66
  intro A d49 s49 y74 hr
  have ⟨y6, y73⟩ := Eng.k2 hr y6 y73
  have d49 := d49.trans d48
  refine Eng.tail_val (w1 := w48) (v := .pointer (some ⟨dg, 1, none⟩)) rfl rfl rfl ?_ s49 rfl ?_
  ·exact Eng.fb Tryd.underlying64 1 y74
  intro A d50 s50 y75 hr
  have ⟨y6, y73⟩ := Eng.k2 hr y6 y73
  have d50 := d50.trans d49
  refine Eng.tail_set (n := 1) (v := v_48) (new := #[v_26, v_48, .map (some mb)]) rfl rfl rfl kdg_48 rfl ?_ fun w51 S => ?_
  ·have e0 : A.eval (.tmp 75) = .pointer (some ⟨dg, 1, none⟩) := y75
   have e1 : A.eval (.tmp 73) = v_48 := y73
   obtain ⟨A0_, c0_, ev0_⟩ := Eng.Reads.shape Fa48
   subst ev0_
   have z0 := (Eng.cells kdg_48 (1)).trans (rfl)
   have f0 := Eng.unfrozen kdg_48 (1)
   simp only [execOp]
   rw [e0, e1]
   go_simp
  have kdg_51 := S.new
  have ldg_51 := Nat.lt_of_lt_of_eq ldg_48 S.size.symm
  have XX_51 := Dc.St.setd XX_48 S kdg_48
  clear S
  refine Eng.tail_nil (wp_seq ?_)
  refine Eng.rP [.int .i64 kr37, .int .i64 kr37] 2 0 s50 (.c (Eng.qq 6 y6) (.c (Eng.qe 0 76) .nil)) fun A w52 T => ?_
  have kdg_52 := T.x ldg_51 kdg_51
  have y4 := T.u 1 4
  have d52 := T.e d50
  have XX_52 := Dc.St.below XX_51 T.below
  clear T
  refine Eng.tail_nil (wp_ret ?_)
  repeat (first | refine Eng.in_ret ?_ | refine Eng.then_ret ?_)
  have e_ := Dc.nodeF_ok (d := ⟨h.map (·.1), opn, names⟩) (x := x) (by simpa using hfull) htg hK hnm2
  simp only [List.length_map] at e_
  rw [eh26, Dc.snoc_map] at hm37 hkr37
  have eta_ := Dc.kidF_eta hm37
  rw [if_neg hK0] at e_
  exact Eng.ret1 rfl d52 y4 ⟨h37, (opn ++ [(h.length : Int)]), nm2, v_26, v_48, by rw [e_]; rw [hkr37], by rw [e_]; simp only; rw [← eta_], XX_52, kdg_52⟩
 have c65 := Bq65.symm.trans hq
 clear hq
 have hK0 : K = 0 := by have h1 := c65; simpa using h1
 refine wp_skip (wp_seq ?_)
 refine Eng.rP [.int .i64 kr37, .int .i64 kr37] 2 0 s39 (.c (Eng.qq 6 y6) (.c (Eng.qe 0 76) .nil)) fun A w54 T => ?_
 have kdg_54 := T.x ldg_39 kdg_39
 have y4 := T.u 1 4
 have d54 := T.e d39
 have XX_54 := Dc.St.below XX_39 T.below
 clear T
 refine Eng.tail_nil (wp_ret ?_)
 repeat (first | refine Eng.in_ret ?_ | refine Eng.then_ret ?_)
 have e_ := Dc.nodeF_ok (d := ⟨h.map (·.1), opn, names⟩) (x := x) (by simpa using hfull) htg hK hnm2
 simp only [List.length_map] at e_
 rw [eh26, Dc.snoc_map] at hm37 hkr37
 have eta_ := Dc.kidF_eta hm37
 rw [if_pos hK0] at e_
 exact Eng.ret1 rfl d54 y4 ⟨h37, opn, nm2, v_26, ov, by rw [e_]; rw [hkr37], by rw [e_]; exact eta_, XX_54, kdg_54⟩
end Go.Proofs.YtgnmjaacnmkgnaaDoor.X
end
section
namespace Go.Proofs.Eng
open Go Go.RowKit
theorem ret2 {P : Program} {fn : Func} {s t : Nat} {R : Ending → World → Prop} {a : Act} {w : World} (h : fn.results = #[.tmp s, .tmp t]) (hd : a.defers = []) {v u : Value} (e : a.eval (.tmp s) = v) (e2 : a.eval (.tmp t) = u) (hR : R (.returned (.tuple #[v, u])) w) : bodyPost P fn R .ret a w := by
  refine ⟨hd, .tuple #[v, u], ?_, hR⟩
  subst e; subst e2
  have e1 : a.tmps[s]?.getD undef = a.eval (.tmp s) := by show _ = a.tmps.getD s undef; simp
  have e3 : a.tmps[t]?.getD undef = a.eval (.tmp t) := by show _ = a.tmps.getD t undef; simp
  simp [results, h, e1, e3]
end Go.Proofs.Eng
namespace Go.Proofs.YtgnmjaacnmkgnaaDoor.X
open Go.RowKit Go.Shelf Go.Proofs Go.Maps Go.WideMaps
set_option linter.unusedVariables false
set_option linter.unusedSimpArgs false
namespace Dc
theorem make_ex {B : Nat} {w : World} {a : Act} {o : Oper} (hop : o.op = .makeMap 46 none) (hB : B ≤ w.heap.size) : ∃ v w1, (execOp a.eval o).run Tryd.prog w = .ok (.value v) w1 ∧ ∃ mb, v = .map (some mb) ∧ w.heap.size ≤ mb ∧ MapRep B w1 mb [] ∧ Below w.heap.size w w1 := by
  refine ⟨.map (some w.heap.size), w.alloc (.map #[] 0), ?_, w.heap.size, rfl, Nat.le_refl _, ⟨hB, 0, .map [], World.ownsMap_made _ _ _ _, Nat.le_refl _, told_nil⟩, (Below.refl _ _).alloc (Nat.le_refl _) _⟩
  unfold execOp
  rw [hop]
  simp [run_makeMap]
theorem run_look2 {B : Nat} {w : World} {a : Act} {o : Oper} {m x : Operand} {s : ByteArray} {h : List NV} {opn : List Int} {names : List (List UInt8 × Int)} {gv ov : Value} {mb : Nat} (R : Rep B w h opn names gv ov mb) (hop : o.op = .lookup 46 m x true) (hm : a.eval m = .map (some mb)) (hx : a.eval x = .string s) (hs : s.size ≤ maxLen) :
    (execOp a.eval o).run Tryd.prog w = .ok (.value (.tuple #[.int .i64 ((find names s.data.toList).getD 0), .bool (find names s.data.toList).isSome])) w := by
  obtain ⟨hB, n, D, hown, hle, hT⟩ := R.mp
  obtain ⟨v, ps, hr, hv⟩ := hown.look_ok key_law Tryd.underlying46 (zero3 w) (plainElem_int Tryd.underlying3 (by decide)) (keyOf_string_mk Tryd.underlying9 hs)
  obtain ⟨c, rfl, hc, hwc⟩ := plainElem_int_inv Tryd.underlying3 hv
  have h2 : (D.atKey (.string s.data.toList) (.lit (.int .i64 0)), ps).1 = (DataW.lit (.int .i64 c), []).1 := congrArg Prod.fst hc
  have hcd : c = (find names s.data.toList).getD 0 := by
    cases hf : find names s.data.toList with
    | none =>
      have h1 := (hT.2 s.data.toList).1
      rw [hf] at h1
      have h3 : DataW.lit (H := Unit) (Lit.int .i64 0) = DataW.lit (Lit.int .i64 c) := (atKey_of_not_has h1 _).symm.trans h2
      exact ((Lit.int.inj (DataW.lit.inj h3)).2).symm
    | some d =>
      have h3 : DataW.lit (H := Unit) (Lit.int .i64 d) = DataW.lit (Lit.int .i64 c) := ((hT.2 s.data.toList).2 d hf).symm.trans h2
      exact ((Lit.int.inj (DataW.lit.inj h3)).2).symm
  rw [(hT.2 _).1, hcd] at hr
  unfold execOp; rw [hop]; simp only [hm, hx]; go_simp
def keysL : List Int → List Int
  | a :: _ :: t => a :: keysL t
  | [a] => [a]
  | [] => []
def hasI (nodes : List Nd) (i : Int) : Bool := decide (0 ≤ i) && decide (i < nodes.length)
def leaf (nodes : List Nd) (i : Int) : Option (List UInt8 × List UInt8) := if (nodes.getD i.toNat default).kind = 0 then some ((nodes.getD i.toNat default).tag.data.toList, (nodes.getD i.toNat default).text.data.toList) else none
def dupNode (nodes : List Nd) (n : Nd) : Bool := n.kind == 2 && (!decide ((keysL n.kids).filter (hasI nodes)).Nodup || !decide (((keysL n.kids).filter (hasI nodes)).filterMap (leaf nodes)).Nodup)
def twiceF (nodes : List Nd) : Bool := nodes.any (dupNode nodes)
def TwOK (nodes : List Nd) : Prop := ∀ (B : Nat) (w : World) (h : List NV) (opn : List Int) (names : List (List UInt8 × Int)) (gv ov : Value) (mb : Nat), h.map (·.1) = nodes → Rep B w h opn names gv ov mb →
  Calls Tryd.prog 41 #[gv] w fun e w' => e = .returned (.bool (twiceF nodes)) ∧ Below w.heap.size w w'
theorem rep_nil {B : Nat} {w : World} {mb : Nat} (M : MapRep B w mb []) : Rep B w [] [] [] (.slice none 0 0) (.slice none 0 0) mb :=
  ⟨World.ownsRow_nil _ _ _ _, World.ownsRow_nil _ _ _ _, fun i hi => absurd hi (by simp), fun i j hi => absurd hi (by simp), fun i hi => absurd hi (by simp), M⟩
theorem blk_nil {mb b : Nat} (h : Blk [] (.slice none 0 0) (.slice none 0 0) mb b) : b = mb := by
  rcases h with e | e | ⟨i, hi, _⟩ | e
  · cases e
  · cases e
  · simp at hi
  · exact e
theorem mrep_below {B : Nat} {w w' : World} {mb : Nat} {names : List (List UInt8 × Int)} (M : MapRep B w mb names) (h : Below w.heap.size w w') : MapRep B w' mb names := M.kept (h.block mb M.lt)
theorem mrep_sets {B : Nat} {w w' : World} {mb g : Nat} {o : Obj} {T : TypeId} {cs : Array Value} {names : List (List UInt8 × Int)} (M : MapRep B w mb names) (S : Eng.Sets w w' g o) (hk : w.heap[g]? = some (.cells cs T (0, 0))) : MapRep B w' mb names := M.kept (S.far mb fun e => box_map hk M (by rw [e]))
def aliasF (d : Dc) (x : Evt.Ev) : Dc × Int :=
  match find d.names x.anchor.data.toList with
  | none => (d, 11)
  | some c => kidF d c.toNat
theorem aliasF_no {d : Dc} {x : Evt.Ev} (h : find d.names x.anchor.data.toList = none) : aliasF d x = (d, 11) := by unfold aliasF; rw [h]
theorem aliasF_is {d : Dc} {x : Evt.Ev} {n : Nat} (h : find d.names x.anchor.data.toList = some (n : Int)) : aliasF d x = kidF d n := by unfold aliasF; rw [h]; rfl
end Dc
end Go.Proofs.YtgnmjaacnmkgnaaDoor.X
end
