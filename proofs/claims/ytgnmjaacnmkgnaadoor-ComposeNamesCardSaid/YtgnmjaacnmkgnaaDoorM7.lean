/- Words and walks that the row of ComposeNames needs: printed by programs, and plain laws. -/
import Derived.Test.YtgnmjaacnmkgnaaDoorM6
import Derived.Test.YtgnmjaacnmkgnaaDoorM3
import Derived.Carry
import Derived.Test.YtgnmjaacnmkgnaaDoorM2
namespace Go.Proofs.YtgnmjaacnmkgnaaDoorW.PrintWords
end Go.Proofs.YtgnmjaacnmkgnaaDoorW.PrintWords
namespace Go.Proofs.YtgnmjaacnmkgnaaDoorW.PrintLast
end Go.Proofs.YtgnmjaacnmkgnaaDoorW.PrintLast
namespace Go.Proofs.YtgnmjaacnmkgnaaDoorW.PrintMore
end Go.Proofs.YtgnmjaacnmkgnaaDoorW.PrintMore
section
namespace Go.Proofs.YtgnmjaacnmkgnaaDoor.X
open Go.RowKit Go.Shelf Go.Proofs Go.Proofs.YtgnmjaacnmkgnaaDoorW.PrintWords Go.Proofs.YtgnmjaacnmkgnaaDoorW.PrintLast Go.Proofs.YtgnmjaacnmkgnaaDoorW.PrintMore
set_option linter.unusedVariables false
set_option linter.unusedSimpArgs false
attribute [local go_sem] max2_int min2_int max_two min_two
set_option maxHeartbeats 4000000 in
set_option maxRecDepth 100000 in
theorem Dc.node_calls (dg mb : Nat) (gv ov : Value) (h : List Dc.NV) (opn : List Int) (names : List (List UInt8 × Int)) (x : Evt.Ev) (w W0 : World) (hB : Below w.heap.size w W0) (hlo : w.heap.size ≤ dg) (hk : W0.heap[dg]? = some (.cells #[gv, ov, .map (some mb)] 64 (0, 0))) (hR : Dc.Rep w.heap.size W0 h opn names gv ov mb) (hsz : x.text.size ≤ 2000) (hasz : x.anchor.size ≤ maxLen) (hnl : names.length ≤ 1000000) (hop : ∀ o ∈ opn, 0 ≤ o ∧ o.toNat < h.length) (hopl : opn.length ≤ 1000000) (hkl : ∀ i, i < h.length → (h.getD i default).1.kids.length ≤ 1000000) : Calls Tryd.prog 57 #[.pointer (some ⟨dg, 0, none⟩), .agg #[.int .i64 x.kind, .string x.anchor, .string x.tag, .string x.text, .bool x.plain]] W0 fun e w' => ∃ h' opn' names' gv' ov', e = .returned (.int .i64 (Dc.nodeF ⟨h.map (·.1), opn, names⟩ x).2) ∧ (⟨h'.map (·.1), opn', names'⟩ : Dc.Dc) = (Dc.nodeF ⟨h.map (·.1), opn, names⟩ x).1 ∧ Dc.St w.heap.size W0 w' dg (Dc.Blk h gv ov mb) h' opn' names' gv' ov' mb ∧ w'.heap[dg]? = some (.cells #[gv', ov', .map (some mb)] 64 (0, 0)) := by
 have hnl1 : names.length ≤ 1000000 := hnl
 refine Eng.enter Tryd.func57 rfl fun act0 d0 s0 v0 => ?_
 have s0 : act0.tmps.size = 77 := s0
 have h0_0 : act0.eval (.tmp 0) = .pointer (some ⟨dg, 0, none⟩) := v0 0 (by simp)
 have h1_0 : act0.eval (.tmp 1) = .agg #[.int .i64 x.kind, .string x.anchor, .string x.tag, .string x.text, .bool x.plain] := v0 1 (by simp)
 clear v0
 refine wp_seq ?_
 refine Eng.regionS (Eng.still [fun u_ => True, fun u_ => u_ = .int .i64 0]) (fun i => ([.alloc 30 #[.int .i64 x.kind, .string x.anchor, .string x.tag, .string x.text, .bool x.plain], .plain] : List Eng.Kind).getD i .plain) 2 0 77 s0 rfl (by kernel_rfl) (Eng.still_stable _) (Or.inr (Eng.still_any _)) ?_ ?_
 ·refine .c ?_ (.c ?_ (.nil))
  ·refine Eng.made rfl (by simp) rfl (fun a w' hd ho => ?_) (fun _ _ => trivial)
   exact Eng.run_box rfl ((ho 1 (by kernel_rfl)).trans h1_0)
  exact Eng.pv fun a w' H => Eng.vr rfl (Eng.run_assign rfl (rfl : a.eval (.const (.int .i64 0)) = .int .i64 0))
 intro act1 w1 T
 have ⟨h0_1, h1_1⟩ := T.r2 h0_0 h1_0
 have kdg_1 := (T.below.block _ (Array.getElem?_eq_some_iff.1 hk).1).trans hk
 have ldg_1 := Nat.lt_of_lt_of_le (Array.getElem?_eq_some_iff.1 hk).1 T.below.size
 have Fgr_1 := Eng.Reads.below (Eng.Reads.of_own hR.gr) T.below
 obtain ⟨g3_1, h3_1, rg3_1, lg3_1_1, kg3_1_1⟩ := T.al 0 3 _ _ rfl rfl rfl (by kernel_rfl)
 have ne_g3_1_dg : dg ≠ g3_1 := fun e => Nat.lt_irrefl _ (Nat.lt_of_lt_of_le (e ▸ (Array.getElem?_eq_some_iff.1 hk).1) rg3_1)
 have h4_1 : act1.eval (.tmp 4) = .int .i64 0 := T.done 1 4 rfl rfl
 have d1 := T.e d0
 have s1 := T.z s0
 have bl1 := hB.trans (T.below.mono hB.size)
 have XX_1 := Dc.St.below (Dc.St.start (dg := dg) hR) T.below
 clear T
 refine Eng.tail_nil ?_
 refine wp_seq ?_
 refine wp_seq ?_
 obtain ⟨q14, Bq14⟩ : ∃ b : Bool, b = (decide (((h.length : Nat) : Int) ≥ 2000)) := ⟨_, rfl⟩
 refine Eng.rS [.pointer (some ⟨dg, 0, none⟩), .pointer (some ⟨dg, 0, none⟩), .pointer (some ⟨dg, 0, none⟩), gv, .int .i64 ((h.length : Nat) : Int), .bool q14] (fun _ => .plain) 6 0 s1 ?_ ?_
 ·refine .c ?_ (.c ?_ (.c ?_ (.c ?_ (.c ?_ (.c ?_ (.nil))))))
  ·exact Eng.pv fun a w' H => Eng.vr rfl (Eng.run_move rfl (H.q 0 h0_1))
  ·exact Eng.pv fun a w' H => Eng.vr rfl (Eng.run_nilb rfl (H.d 0 9))
  ·exact Eng.pv fun a w' H => Eng.vr rfl (Eng.run_fieldb rfl Tryd.underlying64 0 (by kernel_rfl) (H.d 1 10))
  ·exact Eng.pv fun a w' H => Eng.vr rfl (Eng.run_loadb rfl (H.d 2 11) ((H.below.block _ ldg_1).trans kdg_1) rfl (by kernel_rfl))
  ·exact Eng.pv fun a w' H => Eng.vr (v := .int .i64 ((h.length : Nat) : Int)) rfl (Eng.run_len_sl rfl Tryd.underlying48 (show a.eval (.tmp 12) = gv from (H.d 3 12)) (Eng.Reads.below Fgr_1 H.below))
  refine Eng.pv fun a w' H => ?_
  refine Eng.vr (v := .bool (decide (((h.length : Nat) : Int) ≥ 2000))) (by show _ = Value.bool q14; rw [Bq14]) ?_
  have e0 : a.eval (.tmp 13) = .int .i64 ((h.length : Nat) : Int) := (H.d 4 13)
  have e1 : a.eval (.const (.int .i64 2000)) = .int .i64 2000 := rfl
  simp only [execOp, resolve, List.map_toArray, List.map_cons, List.map_nil, e0, e1]
  go_simp
 intro act2 w2 T
 have ⟨h0_2, h1_2, h3_2, h4_2⟩ := T.r4 h0_1 h1_1 h3_1 h4_1
 have kdg_2 := T.x ldg_1 kdg_1
 have ldg_2 := T.l ldg_1
 have kg3_1_2 := T.x lg3_1_1 kg3_1_1
 have lg3_1_2 := T.l lg3_1_1
 have Fgr_2 := T.f Fgr_1
 have h14_2 : act2.eval (.tmp 14) = .bool q14 := T.done 5 14 rfl rfl
 have d2 := T.e d1
 have s2 := T.z s1
 have bl2 := T.b bl1
 have XX_2 := Dc.St.below XX_1 T.below
 clear T
 refine Eng.tail_nil ?_
 refine wp_cond_split h14_2 (fun hq => ?_) (fun hq => ?_)
 ·
  have c14 := Bq14.symm.trans hq
  clear hq
  have c14 := of_decide_eq_true c14
  have hfull : 2000 ≤ h.length := by omega
  refine wp_seq ?_
  refine Eng.rS [.int .i64 16] (fun _ => .plain) 1 0 s2 ?_ ?_
  ·refine .c ?_ (.nil)
   ·exact Eng.pv fun a w' H => Eng.vr rfl (Eng.run_assign rfl (rfl : a.eval (.const (.int .i64 16)) = .int .i64 16))
  intro act4 w4 T
  have kdg_4 := T.x ldg_2 kdg_2
  have h4_4 : act4.eval (.tmp 4) = .int .i64 16 := T.done 0 4 rfl rfl
  have d4 := T.e d2
  have XX_4 := Dc.St.below XX_2 T.below
  clear T
  refine Eng.tail_nil ?_
  refine wp_ret ?_
  repeat (first | refine Eng.in_ret ?_ | refine Eng.then_ret ?_)
  have e_ : Dc.nodeF ⟨h.map (·.1), opn, names⟩ x = (⟨h.map (·.1), opn, names⟩, 16) := Dc.nodeF_full (by simpa using hfull)
  exact Eng.ret1 rfl d4 h4_4 ⟨h, opn, names, gv, ov, by rw [e_], by rw [e_], XX_4, kdg_4⟩
 have c14 := Bq14.symm.trans hq
 clear hq
 have c14 := of_decide_eq_false c14
 have hfull : ¬ 2000 ≤ h.length := by omega
 refine wp_skip ?_
 refine wp_seq ?_
 refine Eng.rS [.agg #[.int .i64 x.kind, .string x.anchor, .string x.tag, .string x.text, .bool x.plain], .tuple #[.string ((Evt.tagF x).1), .int .i64 ((Evt.tagF x).2)], .tuple #[.string ((Evt.tagF x).1), .int .i64 ((Evt.tagF x).2)], .string ((Evt.tagF x).1), .int .i64 ((Evt.tagF x).2), .string ((Evt.tagF x).1), .int .i64 ((Evt.tagF x).2)] (fun _ => .plain) 7 0 s2 ?_ ?_
 ·refine .c ?_ (.c ?_ (.c ?_ (.c ?_ (.c ?_ (.c ?_ (.c ?_ (.nil)))))))
  ·refine Eng.pv fun a w' H => ?_
   have kb := (H.below.block _ lg3_1_2).trans kg3_1_2
   have z0 : w'.cell? ⟨g3_1, 0, none⟩ = some (.int .i64 x.kind) := (Eng.cells kb 0).trans rfl
   have z1 : w'.cell? ⟨g3_1, 1, none⟩ = some (.string x.anchor) := (Eng.cells kb 1).trans rfl
   have z2 : w'.cell? ⟨g3_1, 2, none⟩ = some (.string x.tag) := (Eng.cells kb 2).trans rfl
   have z3 : w'.cell? ⟨g3_1, 3, none⟩ = some (.string x.text) := (Eng.cells kb 3).trans rfl
   have z4 : w'.cell? ⟨g3_1, 4, none⟩ = some (.bool x.plain) := (Eng.cells kb 4).trans rfl
   refine Eng.vr (v := .agg #[.int .i64 x.kind, .string x.anchor, .string x.tag, .string x.text, .bool x.plain]) rfl ?_
   have e0 := (H.q 3 h3_2)
   simp only [execOp, resolve, List.map_toArray, List.map_cons, List.map_nil, e0]
   go_simp
  ·refine Eng.pv fun a w' H => ?_
   refine Eng.call Tryd.func10 (by kernel_rfl) (by kernel_rfl) rfl #[.agg #[.int .i64 x.kind, .string x.anchor, .string x.tag, .string x.text, .bool x.plain]] ?_ ?_
   ·have e0 : a.eval (.tmp 16) = .agg #[.int .i64 x.kind, .string x.anchor, .string x.tag, .string x.text, .bool x.plain] := (H.d 0 16); simp only [List.map_toArray, List.map_cons, List.map_nil, e0]
   refine (Evt.tag_calls x _ hsz).mono ?_
   rintro e w'' ⟨rfl, hb⟩
   exact ⟨_, rfl, rfl, hb⟩
  ·exact Eng.pv fun a w' H => Eng.vr rfl (Eng.run_move rfl (H.d 1 17))
  ·refine Eng.pv fun a w' H => ?_
   refine Eng.vr (v := .string ((Evt.tagF x).1)) rfl ?_
   have e0 : a.eval (.tmp 15) = .tuple #[.string ((Evt.tagF x).1), .int .i64 ((Evt.tagF x).2)] := (H.d 2 15)
   simp only [execOp, resolve, List.map_toArray, List.map_cons, List.map_nil, e0]
   go_simp
  ·refine Eng.pv fun a w' H => ?_
   refine Eng.vr (v := .int .i64 ((Evt.tagF x).2)) rfl ?_
   have e0 : a.eval (.tmp 15) = .tuple #[.string ((Evt.tagF x).1), .int .i64 ((Evt.tagF x).2)] := (H.d 2 15)
   simp only [execOp, resolve, List.map_toArray, List.map_cons, List.map_nil, e0]
   go_simp
  ·exact Eng.pv fun a w' H => Eng.vr rfl (Eng.run_assign rfl (H.d 3 18))
  exact Eng.pv fun a w' H => Eng.vr rfl (Eng.run_assign rfl (H.d 4 19))
 intro act6 w6 T
 have ⟨h0_6, h1_6, h3_6, h4_6, h14_6⟩ := T.r5 h0_2 h1_2 h3_2 h4_2 h14_2
 have kdg_6 := T.x ldg_2 kdg_2
 have ldg_6 := T.l ldg_2
 have kg3_1_6 := T.x lg3_1_2 kg3_1_2
 have lg3_1_6 := T.l lg3_1_2
 have Fgr_6 := T.f Fgr_2
 have h5_6 : act6.eval (.tmp 5) = .string ((Evt.tagF x).1) := T.done 5 5 rfl rfl
 have h6_6 : act6.eval (.tmp 6) = .int .i64 ((Evt.tagF x).2) := T.done 6 6 rfl rfl
 have d6 := T.e d2
 have s6 := T.z s2
 have bl6 := T.b bl2
 have XX_6 := Dc.St.below XX_2 T.below
 clear T
 refine Eng.tail_nil ?_
 refine wp_seq ?_
 refine wp_seq ?_
 obtain ⟨q21, Bq21⟩ : ∃ b : Bool, b = (!(((Evt.tagF x).2) == 0)) := ⟨_, rfl⟩
 refine Eng.rS [.int .i64 ((Evt.tagF x).2), .bool q21] (fun _ => .plain) 2 0 s6 ?_ ?_
 ·refine .c ?_ (.c ?_ (.nil))
  ·exact Eng.pv fun a w' H => Eng.vr rfl (Eng.run_move rfl (H.q 6 h6_6))
  refine Eng.pv fun a w' H => ?_
  refine Eng.vr (v := .bool (!(((Evt.tagF x).2) == 0))) (by show _ = Value.bool q21; rw [Bq21]) ?_
  have e0 : a.eval (.tmp 20) = .int .i64 ((Evt.tagF x).2) := (H.d 0 20)
  have e1 : a.eval (.const (.int .i64 0)) = .int .i64 0 := rfl
  simp only [execOp, resolve, List.map_toArray, List.map_cons, List.map_nil, e0, e1]
  go_simp
  all_goals first | rfl | (simp; done) | (rw [Bool.eq_iff_iff]; simp; done) | omega | (split <;> first | (simp_all; done) | (split <;> simp_all; done)) | skip
 intro act7 w7 T
 have ⟨h0_7, h1_7, h3_7, h4_7, h5_7, h6_7, h14_7⟩ := T.r7 h0_6 h1_6 h3_6 h4_6 h5_6 h6_6 h14_6
 have kdg_7 := T.x ldg_6 kdg_6
 have ldg_7 := T.l ldg_6
 have kg3_1_7 := T.x lg3_1_6 kg3_1_6
 have lg3_1_7 := T.l lg3_1_6
 have Fgr_7 := T.f Fgr_6
 have h21_7 : act7.eval (.tmp 21) = .bool q21 := T.done 1 21 rfl rfl
 have d7 := T.e d6
 have s7 := T.z s6
 have bl7 := T.b bl6
 have XX_7 := Dc.St.below XX_6 T.below
 clear T
 refine Eng.tail_nil ?_
 refine wp_cond_split h21_7 (fun hq => ?_) (fun hq => ?_)
 ·
  have c21 := Bq21.symm.trans hq
  clear hq
  have htg : ¬ (Evt.tagF x).2 = 0 := by have h1 := c21; simpa using h1
  refine wp_seq ?_
  refine Eng.rS [.int .i64 ((Evt.tagF x).2), .int .i64 ((Evt.tagF x).2)] (fun _ => .plain) 2 0 s7 ?_ ?_
  ·refine .c ?_ (.c ?_ (.nil))
   ·exact Eng.pv fun a w' H => Eng.vr rfl (Eng.run_move rfl (H.q 6 h6_7))
   exact Eng.pv fun a w' H => Eng.vr rfl (Eng.run_assign rfl (H.d 0 22))
  intro act9 w9 T
  have kdg_9 := T.x ldg_7 kdg_7
  have h4_9 : act9.eval (.tmp 4) = .int .i64 ((Evt.tagF x).2) := T.done 1 4 rfl rfl
  have d9 := T.e d7
  have XX_9 := Dc.St.below XX_7 T.below
  clear T
  refine Eng.tail_nil ?_
  refine wp_ret ?_
  repeat (first | refine Eng.in_ret ?_ | refine Eng.then_ret ?_)
  have e_ : Dc.nodeF ⟨h.map (·.1), opn, names⟩ x = (⟨h.map (·.1), opn, names⟩, (Evt.tagF x).2) := Dc.nodeF_tag (by simpa using hfull) htg
  exact Eng.ret1 rfl d9 h4_9 ⟨h, opn, names, gv, ov, by rw [e_], by rw [e_], XX_9, kdg_9⟩
 have c21 := Bq21.symm.trans hq
 clear hq
 have htg : (Evt.tagF x).2 = 0 := by have h1 := c21; simpa using h1
 refine wp_skip ?_
 refine wp_seq ?_
 refine Eng.rS [.pointer (some ⟨dg, 0, none⟩), .pointer (some ⟨dg, 0, none⟩), .pointer (some ⟨dg, 0, none⟩), gv, .int .i64 ((h.length : Nat) : Int), .int .i64 ((h.length : Nat) : Int)] (fun _ => .plain) 6 0 s7 ?_ ?_
 ·refine .c ?_ (.c ?_ (.c ?_ (.c ?_ (.c ?_ (.c ?_ (.nil))))))
  ·exact Eng.pv fun a w' H => Eng.vr rfl (Eng.run_move rfl (H.q 0 h0_7))
  ·exact Eng.pv fun a w' H => Eng.vr rfl (Eng.run_nilb rfl (H.d 0 23))
  ·exact Eng.pv fun a w' H => Eng.vr rfl (Eng.run_fieldb rfl Tryd.underlying64 0 (by kernel_rfl) (H.d 1 24))
  ·exact Eng.pv fun a w' H => Eng.vr rfl (Eng.run_loadb rfl (H.d 2 25) ((H.below.block _ ldg_7).trans kdg_7) rfl (by kernel_rfl))
  ·exact Eng.pv fun a w' H => Eng.vr (v := .int .i64 ((h.length : Nat) : Int)) rfl (Eng.run_len_sl rfl Tryd.underlying48 (show a.eval (.tmp 26) = gv from (H.d 3 26)) (Eng.Reads.below Fgr_7 H.below))
  exact Eng.pv fun a w' H => Eng.vr rfl (Eng.run_assign rfl (H.d 4 27))
 intro act11 w11 T
 have ⟨h0_11, h1_11, h3_11, h4_11, h5_11, h6_11, h14_11, h21_11⟩ := T.r8 h0_7 h1_7 h3_7 h4_7 h5_7 h6_7 h14_7 h21_7
 have kdg_11 := T.x ldg_7 kdg_7
 have ldg_11 := T.l ldg_7
 have kg3_1_11 := T.x lg3_1_7 kg3_1_7
 have lg3_1_11 := T.l lg3_1_7
 have h7_11 : act11.eval (.tmp 7) = .int .i64 ((h.length : Nat) : Int) := T.done 5 7 rfl rfl
 have d11 := T.e d7
 have s11 := T.z s7
 have bl11 := T.b bl7
 have XX_11 := Dc.St.below XX_7 T.below
 clear T
 refine Eng.tail_nil ?_
 refine wp_seq ?_
 refine Eng.regionS (Eng.still [fun u_ => u_ = .string ((Evt.tagF x).1), fun u_ => u_ = .pointer (some ⟨g3_1, 3, none⟩), fun u_ => u_ = .string x.text, fun u_ => u_ = .agg #[.int .i64 0, .string ((Evt.tagF x).1), .string x.text, .slice none 0 0], fun u_ => True, fun u_ => True]) (fun i => ([.plain, .plain, .plain, .plain, .alloc 57 #[.int .i64 0, .string ⟨#[]⟩, .string ⟨#[]⟩, .slice none 0 0], .store 4 #[.int .i64 0, .string ((Evt.tagF x).1), .string x.text, .slice none 0 0]] : List Eng.Kind).getD i .plain) 6 0 77 s11 rfl (by kernel_rfl) (Eng.still_stable _) (Or.inr (Eng.still_any _)) ?_ ?_
 ·refine .c ?_ (.c ?_ (.c ?_ (.c ?_ (.c ?_ (.c ?_ (.nil))))))
  ·exact Eng.pv fun a w' H => Eng.vr rfl (Eng.run_move rfl (H.q 5 h5_11))
  ·exact Eng.pv fun a w' H => Eng.vr rfl (Eng.run_fieldb rfl Tryd.underlying30 3 (by kernel_rfl) (H.q 3 h3_11))
  ·exact Eng.pv fun a w' H => Eng.vr rfl (Eng.run_loadb rfl (H.d 1 29) ((H.below.block _ lg3_1_11).trans kg3_1_11) rfl (by kernel_rfl))
  ·refine Eng.pv fun a w' H => ?_
   refine Eng.vr (v := .agg #[.int .i64 0, .string ((Evt.tagF x).1), .string x.text, .slice none 0 0]) rfl ?_
   have e0 : a.eval (.tmp 28) = .string ((Evt.tagF x).1) := (H.d 0 28)
   have e1 : a.eval (.tmp 30) = .string x.text := (H.d 2 30)
   simp only [execOp, resolve, List.map_toArray, List.map_cons, List.map_nil, e0, e1]
   go_simp
  ·refine Eng.made rfl (by simp) rfl (fun a w' hd ho => ?_) (fun _ _ => trivial)
   simp only [execOp]
   go_simp
  refine Eng.stored [.int .i64 0, .string ((Evt.tagF x).1), .string x.text, .slice none 0 0] rfl rfl rfl (j := 4) (d := 8) (by kernel_rfl) rfl rfl (Eng.store_uniq (by kernel_rfl)) rfl rfl fun a w' g e hc hd ho => ?_
  have e0 : a.eval _ = .agg #[.int .i64 0, .string ((Evt.tagF x).1), .string x.text, .slice none 0 0] := (hd 3 31 (by kernel_rfl) rfl)
  have z0 := (Eng.cells hc 0).trans rfl
  have z1 := (Eng.cells hc 1).trans rfl
  have z2 := (Eng.cells hc 2).trans rfl
  have z3 := (Eng.cells hc 3).trans rfl
  have f0 := Eng.unfrozen hc 0
  have f1 := Eng.unfrozen hc 1
  have f2 := Eng.unfrozen hc 2
  have f3 := Eng.unfrozen hc 3
  simp only [execOp, e, e0]
  go_simp
  rfl
 intro act12 w12 T
 have ⟨h0_12, h1_12, h3_12, h4_12, h5_12, h6_12, h7_12, h14_12, h21_12⟩ := T.r9 h0_11 h1_11 h3_11 h4_11 h5_11 h6_11 h7_11 h14_11 h21_11
 have kdg_12 := T.x ldg_11 kdg_11
 have ldg_12 := T.l ldg_11
 have kg3_1_12 := T.x lg3_1_11 kg3_1_11
 have lg3_1_12 := T.l lg3_1_11
 obtain ⟨g8_12, h8_12, rg8_12, lg8_12_12, kg8_12_12⟩ := T.st 4 8 5 _ _ _ rfl rfl rfl rfl rfl
 have og8_12 : w.heap.size ≤ g8_12 := Nat.le_trans bl11.size rg8_12
 have ne_g8_12_dg : dg ≠ g8_12 := fun e => Nat.lt_irrefl _ (Nat.lt_of_lt_of_le (e ▸ ldg_11) rg8_12)
 have ne_g8_12_g3_1 : g3_1 ≠ g8_12 := fun e => Nat.lt_irrefl _ (Nat.lt_of_lt_of_le (e ▸ lg3_1_11) rg8_12)
 have d12 := T.e d11
 have s12 := T.z s11
 have bl12 := T.b bl11
 have XX_12 := Dc.St.below XX_11 T.below
 clear T
 have ap8 : ¬ Dc.Blk h gv ov mb g8_12 := fun hb => Nat.lt_irrefl _ (Nat.lt_of_lt_of_le (XX_11.R.lt hb).2 rg8_12)
 have nw8 : W0.heap.size ≤ g8_12 := Nat.le_trans XX_11.A.size rg8_12
 refine Eng.tail_nil ?_
 refine wp_seq ?_
 refine wp_seq ?_
 refine Eng.rS [.pointer (some ⟨g3_1, 0, none⟩), .int .i64 x.kind] (fun _ => .plain) 2 0 s12 ?_ ?_
 ·refine .c ?_ (.c ?_ (.nil))
  ·exact Eng.pv fun a w' H => Eng.vr rfl (Eng.run_fieldb rfl Tryd.underlying30 0 (by kernel_rfl) (H.q 3 h3_12))
  exact Eng.pv fun a w' H => Eng.vr rfl (Eng.run_loadb rfl (H.d 0 32) ((H.below.block _ lg3_1_12).trans kg3_1_12) rfl (by kernel_rfl))
 intro act13 w13 T
 have ⟨h0_13, h1_13, h3_13, h4_13, h5_13, h6_13, h7_13, h8_13, h14_13, h21_13⟩ := T.r10 h0_12 h1_12 h3_12 h4_12 h5_12 h6_12 h7_12 h8_12 h14_12 h21_12
 have kdg_13 := T.x ldg_12 kdg_12
 have ldg_13 := T.l ldg_12
 have kg3_1_13 := T.x lg3_1_12 kg3_1_12
 have lg3_1_13 := T.l lg3_1_12
 have kg8_12_13 := T.x lg8_12_12 kg8_12_12
 have lg8_12_13 := T.l lg8_12_12
 have h33_13 : act13.eval (.tmp 33) = .int .i64 x.kind := T.done 1 33 rfl rfl
 have d13 := T.e d12
 have s13 := T.z s12
 have bl13 := T.b bl12
 have XX_13 := Dc.St.below XX_12 T.below
 clear T
 refine Eng.tail_nil ?_
 refine Eng.join (fun a w' => ∃ (K : Int), (Dc.kindN x.kind = K) ∧ (Dc.St w.heap.size W0 w' dg (Dc.Blk h gv ov mb) h opn names gv ov mb) ∧ a.defers = [] ∧ a.tmps.size = 77 ∧ Below w.heap.size w w' ∧ a.eval (.tmp 0) = .pointer (some ⟨dg, 0, none⟩) ∧ a.eval (.tmp 1) = .agg #[.int .i64 x.kind, .string x.anchor, .string x.tag, .string x.text, .bool x.plain] ∧ a.eval (.tmp 3) = .pointer (some ⟨g3_1, 0, none⟩) ∧ a.eval (.tmp 4) = .int .i64 0 ∧ a.eval (.tmp 5) = .string ((Evt.tagF x).1) ∧ a.eval (.tmp 6) = .int .i64 ((Evt.tagF x).2) ∧ a.eval (.tmp 7) = .int .i64 ((h.length : Nat) : Int) ∧ a.eval (.tmp 8) = .pointer (some ⟨g8_12, 0, none⟩) ∧ a.eval (.tmp 14) = .bool q14 ∧ a.eval (.tmp 21) = .bool q21 ∧ a.eval (.tmp 33) = .int .i64 x.kind ∧ w'.heap[dg]? = some (.cells (#[gv, ov, .map (some mb)]) 64 (0, 0)) ∧ dg < w'.heap.size ∧ w'.heap[g3_1]? = some (.cells (#[.int .i64 x.kind, .string x.anchor, .string x.tag, .string x.text, .bool x.plain]) 30 (0, 0)) ∧ g3_1 < w'.heap.size ∧ w'.heap[g8_12]? = some (.cells (#[.int .i64 K, .string ((Evt.tagF x).1), .string x.text, .slice none 0 0]) 57 (0, 0)) ∧ g8_12 < w'.heap.size) ?_ ?_
 ·
  refine wp_block ?_
  refine wp_seq ?_
  obtain ⟨q35, Bq35⟩ : ∃ b : Bool, b = (x.kind == 2) := ⟨_, rfl⟩
  refine Eng.rS [.bool q35, .bool q35] (fun _ => .plain) 2 0 s13 ?_ ?_
  ·refine .c ?_ (.c ?_ (.nil))
   ·refine Eng.pv fun a w' H => ?_
    refine Eng.vr (v := .bool (x.kind == 2)) (by show _ = Value.bool q35; rw [Bq35]) ?_
    have e0 := (H.q 33 h33_13)
    have e1 : a.eval (.const (.int .i64 2)) = .int .i64 2 := rfl
    simp only [execOp, resolve, List.map_toArray, List.map_cons, List.map_nil, e0, e1]
    go_simp
   exact Eng.pv fun a w' H => Eng.vr rfl (Eng.run_assign rfl (H.d 0 35))
  intro act14 w14 T
  have ⟨h0_14, h1_14, h3_14, h4_14, h5_14, h6_14, h7_14, h8_14, h14_14, h21_14⟩ := T.r10 h0_13 h1_13 h3_13 h4_13 h5_13 h6_13 h7_13 h8_13 h14_13 h21_13
  have h33_14 := T.r1 h33_13
  have kdg_14 := T.x ldg_13 kdg_13
  have ldg_14 := T.l ldg_13
  have kg3_1_14 := T.x lg3_1_13 kg3_1_13
  have lg3_1_14 := T.l lg3_1_13
  have kg8_12_14 := T.x lg8_12_13 kg8_12_13
  have lg8_12_14 := T.l lg8_12_13
  have h34_14 : act14.eval (.tmp 34) = .bool q35 := T.done 1 34 rfl rfl
  have d14 := T.e d13
  have s14 := T.z s13
  have bl14 := T.b bl13
  have XX_14 := Dc.St.below XX_13 T.below
  clear T
  refine Eng.tail_nil ?_
  refine wp_cond_split h34_14 (fun hq => ?_) (fun hq => ?_)
  ·
   have c34 := Bq35.symm.trans hq
   clear hq
   have hk2 : x.kind = 2 := by simpa using c34
   refine Eng.rS [.pointer (some ⟨g8_12, 0, none⟩)] (fun _ => .plain) 1 1 s14 ?_ ?_
   ·refine .c ?_ (.cons (fun h => absurd h (by decide)) (.nil))
    ·exact Eng.pv fun a w' H => Eng.vr rfl (Eng.run_fieldb rfl Tryd.underlying57 0 (by kernel_rfl) (H.q 8 h8_14))
   intro act16 w16 T
   have ⟨h0_16, h1_16, h3_16, h4_16, h5_16, h6_16, h7_16, h8_16, h14_16, h21_16⟩ := T.r10 h0_14 h1_14 h3_14 h4_14 h5_14 h6_14 h7_14 h8_14 h14_14 h21_14
   have h33_16 := T.r1 h33_14
   have kdg_16 := T.x ldg_14 kdg_14
   have ldg_16 := T.l ldg_14
   have kg3_1_16 := T.x lg3_1_14 kg3_1_14
   have lg3_1_16 := T.l lg3_1_14
   have kg8_12_16 := T.x lg8_12_14 kg8_12_14
   have lg8_12_16 := T.l lg8_12_14
   have h36_16 : act16.eval (.tmp 36) = .pointer (some ⟨g8_12, 0, none⟩) := T.done 0 36 rfl rfl
   have d16 := T.e d14
   have s16 := T.z s14
   have bl16 := T.b bl14
   have XX_16 := Dc.St.below XX_14 T.below
   clear T
   refine Eng.tail_set (n := 0) (v := .int .i64 1) (new := #[.int .i64 1, .string ((Evt.tagF x).1), .string x.text, .slice none 0 0]) rfl rfl rfl kg8_12_16 rfl ?_ fun w17 S => ?_
   ·have e0 : act16.eval (.tmp 36) = .pointer (some ⟨g8_12, 0, none⟩) := h36_16
    have e1 : act16.eval (.const (.int .i64 1)) = .int .i64 1 := rfl
    have z0 := (Eng.cells kg8_12_16 (0)).trans (rfl)
    have f0 := Eng.unfrozen kg8_12_16 (0)
    simp only [execOp]
    rw [e0, e1]
    go_simp
   have kdg_17 := (S.far _ ne_g8_12_dg).trans kdg_16
   have ldg_17 := Nat.lt_of_lt_of_eq ldg_16 S.size.symm
   have kg3_1_17 := (S.far _ ne_g8_12_g3_1).trans kg3_1_16
   have lg3_1_17 := Nat.lt_of_lt_of_eq lg3_1_16 S.size.symm
   have kg8_12_17 := S.new
   have lg8_12_17 := Nat.lt_of_lt_of_eq lg8_12_16 S.size.symm
   have bl17 := S.below bl16 og8_12
   have XX_17 := Dc.St.setx XX_16 S ap8 nw8
   clear S
   refine Eng.tail_nil ?_
   exact ⟨1, Dc.kindN_2 hk2, XX_17, d16, s16, bl17, h0_16, h1_16, h3_16, h4_16, h5_16, h6_16, h7_16, h8_16, h14_16, h21_16, h33_16, kdg_17, ldg_17, kg3_1_17, lg3_1_17, kg8_12_17, lg8_12_17⟩
  have c34 := Bq35.symm.trans hq
  clear hq
  have hk2 : ¬ x.kind = 2 := by simpa using c34
  refine wp_seq ?_
  obtain ⟨q38, Bq38⟩ : ∃ b : Bool, b = (x.kind == 4) := ⟨_, rfl⟩
  refine Eng.rS [.bool q38, .bool q38] (fun _ => .plain) 2 0 s14 ?_ ?_
  ·refine .c ?_ (.c ?_ (.nil))
   ·refine Eng.pv fun a w' H => ?_
    refine Eng.vr (v := .bool (x.kind == 4)) (by show _ = Value.bool q38; rw [Bq38]) ?_
    have e0 := (H.q 33 h33_14)
    have e1 : a.eval (.const (.int .i64 4)) = .int .i64 4 := rfl
    simp only [execOp, resolve, List.map_toArray, List.map_cons, List.map_nil, e0, e1]
    go_simp
   exact Eng.pv fun a w' H => Eng.vr rfl (Eng.run_assign rfl (H.d 0 38))
  intro act19 w19 T
  have ⟨h0_19, h1_19, h3_19, h4_19, h5_19, h6_19, h7_19, h8_19, h14_19, h21_19⟩ := T.r10 h0_14 h1_14 h3_14 h4_14 h5_14 h6_14 h7_14 h8_14 h14_14 h21_14
  have h33_19 := T.r1 h33_14
  have kdg_19 := T.x ldg_14 kdg_14
  have ldg_19 := T.l ldg_14
  have kg3_1_19 := T.x lg3_1_14 kg3_1_14
  have lg3_1_19 := T.l lg3_1_14
  have kg8_12_19 := T.x lg8_12_14 kg8_12_14
  have lg8_12_19 := T.l lg8_12_14
  have h37_19 : act19.eval (.tmp 37) = .bool q38 := T.done 1 37 rfl rfl
  have d19 := T.e d14
  have s19 := T.z s14
  have bl19 := T.b bl14
  have XX_19 := Dc.St.below XX_14 T.below
  clear T
  refine Eng.tail_nil ?_
  refine wp_cond_split h37_19 (fun hq => ?_) (fun hq => ?_)
  ·
   have c37 := Bq38.symm.trans hq
   clear hq
   have hk4 : x.kind = 4 := by simpa using c37
   refine Eng.rS [.pointer (some ⟨g8_12, 0, none⟩)] (fun _ => .plain) 1 1 s19 ?_ ?_
   ·refine .c ?_ (.cons (fun h => absurd h (by decide)) (.nil))
    ·exact Eng.pv fun a w' H => Eng.vr rfl (Eng.run_fieldb rfl Tryd.underlying57 0 (by kernel_rfl) (H.q 8 h8_19))
   intro act21 w21 T
   have ⟨h0_21, h1_21, h3_21, h4_21, h5_21, h6_21, h7_21, h8_21, h14_21, h21_21⟩ := T.r10 h0_19 h1_19 h3_19 h4_19 h5_19 h6_19 h7_19 h8_19 h14_19 h21_19
   have h33_21 := T.r1 h33_19
   have kdg_21 := T.x ldg_19 kdg_19
   have ldg_21 := T.l ldg_19
   have kg3_1_21 := T.x lg3_1_19 kg3_1_19
   have lg3_1_21 := T.l lg3_1_19
   have kg8_12_21 := T.x lg8_12_19 kg8_12_19
   have lg8_12_21 := T.l lg8_12_19
   have h39_21 : act21.eval (.tmp 39) = .pointer (some ⟨g8_12, 0, none⟩) := T.done 0 39 rfl rfl
   have d21 := T.e d19
   have s21 := T.z s19
   have bl21 := T.b bl19
   have XX_21 := Dc.St.below XX_19 T.below
   clear T
   refine Eng.tail_set (n := 0) (v := .int .i64 2) (new := #[.int .i64 2, .string ((Evt.tagF x).1), .string x.text, .slice none 0 0]) rfl rfl rfl kg8_12_21 rfl ?_ fun w22 S => ?_
   ·have e0 : act21.eval (.tmp 39) = .pointer (some ⟨g8_12, 0, none⟩) := h39_21
    have e1 : act21.eval (.const (.int .i64 2)) = .int .i64 2 := rfl
    have z0 := (Eng.cells kg8_12_21 (0)).trans (rfl)
    have f0 := Eng.unfrozen kg8_12_21 (0)
    simp only [execOp]
    rw [e0, e1]
    go_simp
   have kdg_22 := (S.far _ ne_g8_12_dg).trans kdg_21
   have ldg_22 := Nat.lt_of_lt_of_eq ldg_21 S.size.symm
   have kg3_1_22 := (S.far _ ne_g8_12_g3_1).trans kg3_1_21
   have lg3_1_22 := Nat.lt_of_lt_of_eq lg3_1_21 S.size.symm
   have kg8_12_22 := S.new
   have lg8_12_22 := Nat.lt_of_lt_of_eq lg8_12_21 S.size.symm
   have bl22 := S.below bl21 og8_12
   have XX_22 := Dc.St.setx XX_21 S ap8 nw8
   clear S
   refine Eng.tail_nil ?_
   exact ⟨2, Dc.kindN_4 hk2 hk4, XX_22, d21, s21, bl22, h0_21, h1_21, h3_21, h4_21, h5_21, h6_21, h7_21, h8_21, h14_21, h21_21, h33_21, kdg_22, ldg_22, kg3_1_22, lg3_1_22, kg8_12_22, lg8_12_22⟩
  have c37 := Bq38.symm.trans hq
  clear hq
  have hk4 : ¬ x.kind = 4 := by simpa using c37
  refine wp_skip ?_
  exact ⟨0, Dc.kindN_0 hk2 hk4, XX_19, d19, s19, bl19, h0_19, h1_19, h3_19, h4_19, h5_19, h6_19, h7_19, h8_19, h14_19, h21_19, h33_19, kdg_19, ldg_19, kg3_1_19, lg3_1_19, kg8_12_19, lg8_12_19⟩
 rintro act24 w24 ⟨K, hj0_24, hj1_24, d24, s24, bl24, h0_24, h1_24, h3_24, h4_24, h5_24, h6_24, h7_24, h8_24, h14_24, h21_24, h33_24, kdg_24, ldg_24, kg3_1_24, lg3_1_24, kg8_12_24, lg8_12_24⟩
 have hK := hj0_24
 have Ogr_24 := hj1_24.R.gr
 refine wp_seq ?_
 refine Eng.regionDE 7 0 (Eng.tell [.still fun u_ => u_ = .pointer (some ⟨dg, 0, none⟩), .still fun u_ => u_ = .pointer (some ⟨dg, 0, none⟩), .still fun u_ => u_ = .pointer (some ⟨dg, 0, none⟩), .still fun u_ => u_ = .pointer (some ⟨dg, 0, none⟩), .still fun u_ => u_ = gv, .still fun u_ => u_ = .agg #[.int .i64 K, .string ((Evt.tagF x).1), .string x.text, .slice none 0 0], Eng.Tl.reads 1 4 [.int .i64 K, .string ((Evt.tagF x).1), .string x.text, .slice none 0 0]]) (fun i => ([.plain, .plain, .plain, .plain, .plain, .plain, .plain] : List Eng.Kind).getD i .plain) 7 4 77 (by kernel_rfl) s24 rfl (by kernel_rfl) rfl rfl rfl rfl (by kernel_rfl) (by kernel_rfl) (by kernel_rfl) (by kernel_rfl) (fun _ _ _ _ h => h) (Eng.tell_stable _) (Or.inl (Eng.no_stores (by kernel_rfl))) ?_ ?_
 ·refine .c ?_ (.c ?_ (.c ?_ (.c ?_ (.c ?_ (.c ?_ (.c ?_ (.cons (fun h => absurd h (by decide)) (.cons (fun h => absurd h (by decide)) (.cons (fun h => absurd h (by decide)) (.cons (fun h => absurd h (by decide)) (.nil)))))))))))
  ·exact Eng.pv fun a w' H => Eng.vr (v := .pointer (some ⟨dg, 0, none⟩)) rfl (Eng.run_move rfl (H.q 0 h0_24))
  ·exact Eng.pv fun a w' H => Eng.vr (v := .pointer (some ⟨dg, 0, none⟩)) rfl (Eng.run_move rfl (H.q 0 h0_24))
  ·exact Eng.pv fun a w' H => Eng.vr (v := .pointer (some ⟨dg, 0, none⟩)) rfl (Eng.run_nilb rfl (H.d 1 41))
  ·exact Eng.pv fun a w' H => Eng.vr (v := .pointer (some ⟨dg, 0, none⟩)) rfl (Eng.run_fieldb rfl Tryd.underlying64 0 (by kernel_rfl) (H.d 2 42))
  ·exact Eng.pv fun a w' H => Eng.vr (v := gv) rfl (Eng.run_loadb rfl (H.d 3 43) ((H.below.block _ ldg_24).trans kdg_24) rfl (by kernel_rfl))
  ·refine Eng.pv fun a w' H => ?_
   have kb := (H.below.block _ lg8_12_24).trans kg8_12_24
   have z0 : w'.cell? ⟨g8_12, 0, none⟩ = some (.int .i64 K) := (Eng.cells kb 0).trans rfl
   have z1 : w'.cell? ⟨g8_12, 1, none⟩ = some (.string ((Evt.tagF x).1)) := (Eng.cells kb 1).trans rfl
   have z2 : w'.cell? ⟨g8_12, 2, none⟩ = some (.string x.text) := (Eng.cells kb 2).trans rfl
   have z3 : w'.cell? ⟨g8_12, 3, none⟩ = some (.slice none 0 0) := (Eng.cells kb 3).trans rfl
   refine Eng.vr (v := .agg #[.int .i64 K, .string ((Evt.tagF x).1), .string x.text, .slice none 0 0]) rfl ?_
   have e0 := (H.q 8 h8_24)
   simp only [execOp, resolve, List.map_toArray, List.map_cons, List.map_nil, e0]
   go_simp
  refine Eng.pv fun a w' H => ?_
  refine Eng.val_ex (Eng.run_build1I (size := 4) (z := .agg #[.int .i64 0, .string ⟨#[]⟩, .string ⟨#[]⟩, .slice none 0 0]) [.int .i64 K, .string ((Evt.tagF x).1), .string x.text, .slice none 0 0] rfl Tryd.underlying48 (by kernel_rfl) rfl rfl rfl (by kernel_rfl) (show a.eval (.tmp 45) = .agg #[.int .i64 K, .string ((Evt.tagF x).1), .string x.text, .slice none 0 0] from (H.d 5 45))) fun v1 w'' R => ?_
  obtain ⟨F, hb⟩ := R
  exact ⟨hb, F⟩
 intro act25 w25 T
 have ⟨h0_25, h1_25, h3_25, h4_25, h5_25, h6_25, h7_25, h8_25, h14_25, h21_25⟩ := T.r10 h0_24 h1_24 h3_24 h4_24 h5_24 h6_24 h7_24 h8_24 h14_24 h21_24
 have h33_25 := T.r1 h33_24
 have kdg_25 := T.x ldg_24 kdg_24
 have ldg_25 := T.l ldg_24
 have kg3_1_25 := T.x lg3_1_24 kg3_1_24
 have lg3_1_25 := T.l lg3_1_24
 have kg8_12_25 := T.x lg8_12_24 kg8_12_24
 have lg8_12_25 := T.l lg8_12_24
 have Ogr_25 := T.g Ogr_24
 have h40_25 : act25.eval (.tmp 40) = .pointer (some ⟨dg, 0, none⟩) := T.done 0 40 rfl rfl
 have h44_25 : act25.eval (.tmp 44) = gv := T.done 4 44 rfl rfl
 have OO46_25 := T.done 6 46 rfl rfl
 obtain ⟨v46_25, h46_25⟩ : ∃ v, act25.eval (.tmp 46) = v := ⟨_, rfl⟩
 have d25 := T.e d24
 have s25 := T.z s24
 have bl25 := T.b bl24
 have XX_25 := Dc.St.below hj1_24 T.below
 have OP46_25 : Eng.Reads w25 v46_25 1 4 [.int .i64 K, .string ((Evt.tagF x).1), .string x.text, .slice none 0 0] := by rw [← h46_25]; exact OO46_25
 clear OO46_25
 clear T
 refine Eng.tail_ex rfl rfl rfl (Eng.run_appendI (z := .agg #[.int .i64 0, .string ⟨#[]⟩, .string ⟨#[]⟩, .slice none 0 0]) rfl Tryd.underlying48 (by kernel_rfl) rfl rfl h44_25 Ogr_25 h46_25 OP46_25 (by intro u hu; simp only [List.mem_cons, List.not_mem_nil, or_false] at hu; rcases hu with rfl | rfl | rfl | rfl <;> rfl) (by omega) bl25.size) s25 rfl fun v_26 w26 act26 R d26 s26 h47_26 hr => ?_
 obtain ⟨O_26, _, b_26, G_26, EO_26⟩ := R
 have ⟨h0_26, h1_26, h3_26, h4_26, h5_26, h6_26, h7_26, h8_26, h14_26, h21_26⟩ := Eng.k10 hr h0_25 h1_25 h3_25 h4_25 h5_25 h6_25 h7_25 h8_25 h14_25 h21_25
 have ⟨h33_26, h40_26⟩ := Eng.k2 hr h33_25 h40_25
 have d26 := d26.trans d25
 clear hr
 have kdg_26 := (G_26.block _ ldg_25 (Eng.own_ne Ogr_25 kdg_25 rfl)).trans kdg_25
 have ldg_26 := Nat.lt_of_lt_of_le ldg_25 G_26.size
 have kg3_1_26 := (G_26.block _ lg3_1_25 (Eng.own_ne Ogr_25 kg3_1_25 rfl)).trans kg3_1_25
 have lg3_1_26 := Nat.lt_of_lt_of_le lg3_1_25 G_26.size
 have kg8_12_26 := (G_26.block _ lg8_12_25 (fun e => ap8 (.inl e))).trans kg8_12_25
 have lg8_12_26 := Nat.lt_of_lt_of_le lg8_12_25 G_26.size
 have XX_26 := Dc.St.snoc XX_25 (⟨K, (Evt.tagF x).1, x.text, []⟩ : Dc.Nd) rfl O_26 G_26 EO_26
 have bl26 := bl25.trans b_26
 obtain ⟨hh26, eh26⟩ : ∃ l : List Dc.NV, l = (h ++ [((⟨K, (Evt.tagF x).1, x.text, []⟩ : Dc.Nd), Value.slice none 0 0)]) := ⟨_, rfl⟩
 rw [← eh26] at XX_26
 have ap8_26 := Dc.ap_snoc (n := (⟨K, (Evt.tagF x).1, x.text, []⟩ : Dc.Nd)) ap8 lg8_12_25 EO_26
 rw [← eh26] at ap8_26
 have Oa26 : w26.ownsRow w.heap.size 57 4 v_26 hh26.length (Dc.cells hh26) := XX_26.R.gr
 have Fa26 := Eng.Reads.of_own Oa26
 refine Eng.tail_val (w1 := w26) (v := .pointer (some ⟨dg, 0, none⟩)) rfl rfl rfl ?_ s26 rfl ?_
 ·exact Eng.run_nilb rfl h40_26
 intro act27 d27 s27 h48_27 hr
 have ⟨h0_27, h1_27, h3_27, h4_27, h5_27, h6_27, h7_27, h8_27, h14_27, h21_27⟩ := Eng.k10 hr h0_26 h1_26 h3_26 h4_26 h5_26 h6_26 h7_26 h8_26 h14_26 h21_26
 have ⟨h33_27, h47_27⟩ := Eng.k2 hr h33_26 h47_26
 have d27 := d27.trans d26
 clear hr
 refine Eng.tail_val (w1 := w26) (v := .pointer (some ⟨dg, 0, none⟩)) rfl rfl rfl ?_ s27 rfl ?_
 ·exact Eng.run_fieldb rfl Tryd.underlying64 0 (by kernel_rfl) h48_27
 intro act28 d28 s28 h49_28 hr
 have ⟨h0_28, h1_28, h3_28, h4_28, h5_28, h6_28, h7_28, h8_28, h14_28, h21_28⟩ := Eng.k10 hr h0_27 h1_27 h3_27 h4_27 h5_27 h6_27 h7_27 h8_27 h14_27 h21_27
 have ⟨h33_28, h47_28⟩ := Eng.k2 hr h33_27 h47_27
 have d28 := d28.trans d27
 clear hr
 refine Eng.tail_set (n := 0) (v := v_26) (new := #[v_26, ov, .map (some mb)]) rfl rfl rfl kdg_26 rfl ?_ fun w29 S => ?_
 ·have e0 : act28.eval (.tmp 49) = .pointer (some ⟨dg, 0, none⟩) := h49_28
  have e1 : act28.eval (.tmp 47) = v_26 := h47_28
  obtain ⟨A0_, c0_, ev0_⟩ := Eng.Reads.shape Fa26
  subst ev0_
  have z0 := (Eng.cells kdg_26 (0)).trans (rfl)
  have f0 := Eng.unfrozen kdg_26 (0)
  simp only [execOp]
  rw [e0, e1]
  go_simp
 have kdg_29 := S.new
 have ldg_29 := Nat.lt_of_lt_of_eq ldg_26 S.size.symm
 have kg3_1_29 := (S.far _ ne_g3_1_dg.symm).trans kg3_1_26
 have lg3_1_29 := Nat.lt_of_lt_of_eq lg3_1_26 S.size.symm
 have kg8_12_29 := (S.far _ ne_g8_12_dg.symm).trans kg8_12_26
 have lg8_12_29 := Nat.lt_of_lt_of_eq lg8_12_26 S.size.symm
 have bl29 := S.below bl26 hlo
 have XX_29 := Dc.St.setd XX_26 S kdg_26
 clear S
 refine Eng.tail_nil ?_
 refine wp_seq ?_
 refine wp_seq ?_
 obtain ⟨q52, Bq52⟩ : ∃ b : Bool, b = (!(x.anchor.toList.isEmpty)) := ⟨_, rfl⟩
 refine Eng.rS [.pointer (some ⟨g3_1, 1, none⟩), .string x.anchor, .bool q52] (fun _ => .plain) 3 0 s28 ?_ ?_
 ·refine .c ?_ (.c ?_ (.c ?_ (.nil)))
  ·exact Eng.pv fun a w' H => Eng.vr rfl (Eng.run_fieldb rfl Tryd.underlying30 1 (by kernel_rfl) (H.q 3 h3_28))
  ·exact Eng.pv fun a w' H => Eng.vr rfl (Eng.run_loadb rfl (H.d 0 50) ((H.below.block _ lg3_1_29).trans kg3_1_29) rfl (by kernel_rfl))
  refine Eng.pv fun a w' H => ?_
  refine Eng.vr (v := .bool (!(x.anchor.toList.isEmpty))) (by show _ = Value.bool q52; rw [Bq52]) ?_
  have e0 : a.eval (.tmp 51) = .string x.anchor := (H.d 1 51)
  have e1 : a.eval (.const (.string ⟨#[]⟩)) = .string ⟨#[]⟩ := rfl
  simp only [execOp, resolve, List.map_toArray, List.map_cons, List.map_nil, e0, e1]
  go_simp
 intro act30 w30 T
 have ⟨h0_30, h1_30, h3_30, h4_30, h5_30, h6_30, h7_30, h8_30, h14_30, h21_30⟩ := T.r10 h0_28 h1_28 h3_28 h4_28 h5_28 h6_28 h7_28 h8_28 h14_28 h21_28
 have h33_30 := T.r1 h33_28
 have kdg_30 := T.x ldg_29 kdg_29
 have ldg_30 := T.l ldg_29
 have kg3_1_30 := T.x lg3_1_29 kg3_1_29
 have lg3_1_30 := T.l lg3_1_29
 have kg8_12_30 := T.x lg8_12_29 kg8_12_29
 have lg8_12_30 := T.l lg8_12_29
 have h52_30 : act30.eval (.tmp 52) = .bool q52 := T.done 2 52 rfl rfl
 have d30 := T.e d28
 have s30 := T.z s28
 have bl30 := T.b bl29
 have XX_30 := Dc.St.below XX_29 T.below
 clear T
 refine Eng.tail_nil ?_
 refine Eng.join (fun a w' => ∃ (nm2 : List (List UInt8 × Int)), (Dc.nameF ⟨h.map (·.1), opn, names⟩ x = nm2) ∧ (Dc.St w.heap.size W0 w' dg (Dc.Blk h gv ov mb) hh26 opn nm2 v_26 ov mb) ∧ a.defers = [] ∧ a.tmps.size = 77 ∧ Below w.heap.size w w' ∧ a.eval (.tmp 0) = .pointer (some ⟨dg, 0, none⟩) ∧ a.eval (.tmp 1) = .agg #[.int .i64 x.kind, .string x.anchor, .string x.tag, .string x.text, .bool x.plain] ∧ a.eval (.tmp 3) = .pointer (some ⟨g3_1, 0, none⟩) ∧ a.eval (.tmp 4) = .int .i64 0 ∧ a.eval (.tmp 5) = .string ((Evt.tagF x).1) ∧ a.eval (.tmp 6) = .int .i64 ((Evt.tagF x).2) ∧ a.eval (.tmp 7) = .int .i64 ((h.length : Nat) : Int) ∧ a.eval (.tmp 8) = .pointer (some ⟨g8_12, 0, none⟩) ∧ a.eval (.tmp 14) = .bool q14 ∧ a.eval (.tmp 21) = .bool q21 ∧ a.eval (.tmp 33) = .int .i64 x.kind ∧ a.eval (.tmp 52) = .bool q52 ∧ w'.heap[dg]? = some (.cells (#[v_26, ov, .map (some mb)]) 64 (0, 0)) ∧ dg < w'.heap.size ∧ w'.heap[g3_1]? = some (.cells (#[.int .i64 x.kind, .string x.anchor, .string x.tag, .string x.text, .bool x.plain]) 30 (0, 0)) ∧ g3_1 < w'.heap.size ∧ w'.heap[g8_12]? = some (.cells (#[.int .i64 K, .string ((Evt.tagF x).1), .string x.text, .slice none 0 0]) 57 (0, 0)) ∧ g8_12 < w'.heap.size) ?_ ?_
 ·
  refine wp_cond_split h52_30 (fun hq => ?_) (fun hq => ?_)
  ·
   have c52 := Bq52.symm.trans hq
   clear hq
   have han : ¬ x.anchor.toList.isEmpty = true := by have h1 := c52; simpa using h1
   refine (wpIn_wide (n := 1)).1 ?_
   refine EngI.regionD EngI.free_wide (Eng.still [fun u_ => u_ = .pointer (some ⟨dg, 0, none⟩), fun u_ => u_ = .pointer (some ⟨dg, 0, none⟩), fun u_ => u_ = .pointer (some ⟨dg, 2, none⟩), fun u_ => u_ = .map (some mb), fun u_ => u_ = .pointer (some ⟨g3_1, 1, none⟩), fun u_ => u_ = .string x.anchor, fun u_ => u_ = .int .i64 ((h.length : Nat) : Int)]) (fun _ => .plain) 7 1 77 (by kernel_rfl) s30 rfl (by kernel_rfl) (Eng.still_stable _) (Or.inr (Eng.still_any _)) (by kernel_rfl) ?_ ?_
   ·refine .c ?_ (.c ?_ (.c ?_ (.c ?_ (.c ?_ (.c ?_ (.c ?_ (.cons (fun h => absurd h (by decide)) (.nil))))))))
    ·exact Eng.pv fun a w' H => Eng.vr rfl (Eng.run_move rfl (H.q 0 h0_30))
    ·exact Eng.pv fun a w' H => Eng.vr rfl (Eng.run_nilb rfl (H.d 0 53))
    ·exact Eng.pv fun a w' H => Eng.vr rfl (Eng.run_fieldb rfl Tryd.underlying64 2 (by kernel_rfl) (H.d 1 54))
    ·exact Eng.pv fun a w' H => Eng.vr rfl (Eng.run_loadb rfl (H.d 2 55) ((H.below.block _ ldg_30).trans kdg_30) rfl (by kernel_rfl))
    ·exact Eng.pv fun a w' H => Eng.vr rfl (Eng.run_fieldb rfl Tryd.underlying30 1 (by kernel_rfl) (H.q 3 h3_30))
    ·exact Eng.pv fun a w' H => Eng.vr rfl (Eng.run_loadb rfl (H.d 4 57) ((H.below.block _ lg3_1_30).trans kg3_1_30) rfl (by kernel_rfl))
    exact Eng.pv fun a w' H => Eng.vr rfl (Eng.run_move rfl (H.q 7 h7_30))
   intro act32 w32 T
   have ⟨h0_32, h1_32, h3_32, h4_32, h5_32, h6_32, h7_32, h8_32, h14_32, h21_32⟩ := T.r10 h0_30 h1_30 h3_30 h4_30 h5_30 h6_30 h7_30 h8_30 h14_30 h21_30
   have ⟨h33_32, h52_32⟩ := T.r2 h33_30 h52_30
   have kdg_32 := T.x ldg_30 kdg_30
   have ldg_32 := T.l ldg_30
   have kg3_1_32 := T.x lg3_1_30 kg3_1_30
   have lg3_1_32 := T.l lg3_1_30
   have kg8_12_32 := T.x lg8_12_30 kg8_12_30
   have lg8_12_32 := T.l lg8_12_30
   have h56_32 : act32.eval (.tmp 56) = .map (some mb) := T.done 3 56 rfl rfl
   have h58_32 : act32.eval (.tmp 58) = .string x.anchor := T.done 5 58 rfl rfl
   have h59_32 : act32.eval (.tmp 59) = .int .i64 ((h.length : Nat) : Int) := T.done 6 59 rfl rfl
   have d32 := T.e d30
   have s32 := T.z s30
   have bl32 := T.b bl30
   have XX_32 := Dc.St.below XX_30 T.below
   clear T
   refine EngG.tail_exs EngI.free_wide rfl rfl rfl rfl (Dc.run_put (s := x.anchor) (c := ((h.length : Nat) : Int)) XX_32 rfl h56_32 h58_32 h59_32 hasz (Dc.wf_nat (by omega)) (by unfold maxLen; omega)) fun w33 R => ?_
   obtain ⟨X33, G_33⟩ := R
   have kdg_33 := (G_33.block _ ldg_32 (Dc.box_map kdg_32 XX_32.R.mp)).trans kdg_32
   have ldg_33 := Nat.lt_of_lt_of_le ldg_32 G_33.size
   have kg3_1_33 := (G_33.block _ lg3_1_32 (Dc.box_map kg3_1_32 XX_32.R.mp)).trans kg3_1_32
   have lg3_1_33 := Nat.lt_of_lt_of_le lg3_1_32 G_33.size
   have kg8_12_33 := (G_33.block _ lg8_12_32 (Dc.box_map kg8_12_32 XX_32.R.mp)).trans kg8_12_32
   have lg8_12_33 := Nat.lt_of_lt_of_le lg8_12_32 G_33.size
   have bl33 := bl32.grown G_33 bl32.size (fun j hj => by injection hj with hj; subst hj; exact XX_32.R.mp.1)
   refine EngI.tail_nil ?_
   exact ⟨((x.anchor.data.toList, (h.length : Int)) :: names), (by unfold Dc.nameF; rw [if_neg han]; simp), X33, d32, s32, bl33, h0_32, h1_32, h3_32, h4_32, h5_32, h6_32, h7_32, h8_32, h14_32, h21_32, h33_32, h52_32, kdg_33, ldg_33, kg3_1_33, lg3_1_33, kg8_12_33, lg8_12_33⟩
  have c52 := Bq52.symm.trans hq
  clear hq
  have han : x.anchor.toList.isEmpty = true := by have h1 := c52; simpa using h1
  refine wp_skip ?_
  exact ⟨names, (by unfold Dc.nameF; rw [if_pos han]), XX_30, d30, s30, bl30, h0_30, h1_30, h3_30, h4_30, h5_30, h6_30, h7_30, h8_30, h14_30, h21_30, h33_30, h52_30, kdg_30, ldg_30, kg3_1_30, lg3_1_30, kg8_12_30, lg8_12_30⟩
 rintro act35 w35 ⟨nm2, hj0_35, hj1_35, d35, s35, bl35, h0_35, h1_35, h3_35, h4_35, h5_35, h6_35, h7_35, h8_35, h14_35, h21_35, h33_35, h52_35, kdg_35, ldg_35, kg3_1_35, lg3_1_35, kg8_12_35, lg8_12_35⟩
 have hnm2 := hj0_35
 refine wp_seq ?_
 refine (wpIn_wide (n := 1)).1 ?_
 refine EngI.regionS EngI.free_wide (Eng.still [fun u_ => u_ = .pointer (some ⟨dg, 0, none⟩), fun u_ => u_ = .int .i64 ((h.length : Nat) : Int)]) (fun _ => .plain) 2 2 77 s35 rfl (by kernel_rfl) (Eng.still_stable _) (Or.inr (Eng.still_any _)) (by kernel_rfl) ?_ ?_
 ·refine .c ?_ (.c ?_ (.cons (fun h => absurd h (by decide)) (.cons (fun h => absurd h (by decide)) (.nil))))
  ·exact Eng.pv fun a w' H => Eng.vr rfl (Eng.run_move rfl (H.q 0 h0_35))
  exact Eng.pv fun a w' H => Eng.vr rfl (Eng.run_move rfl (H.q 7 h7_35))
 intro act36 w36 T
 have ⟨h0_36, h7_36, h8_36⟩ := T.r3 h0_35 h7_35 h8_35
 have kdg_36 := T.x ldg_35 kdg_35
 have kg8_12_36 := T.x lg8_12_35 kg8_12_35
 have lg8_12_36 := T.l lg8_12_35
 have h60_36 : act36.eval (.tmp 60) = .pointer (some ⟨dg, 0, none⟩) := T.done 0 60 rfl rfl
 have h61_36 : act36.eval (.tmp 61) = .int .i64 ((h.length : Nat) : Int) := T.done 1 61 rfl rfl
 have d36 := T.e d35
 have s36 := T.z s35
 have bl36 := T.b bl35
 have XX_36 := Dc.St.below hj1_35 T.below
 clear T
 refine EngI.tail_call EngI.free_wide Tryd.func56 (by kernel_rfl) (by kernel_rfl) rfl rfl rfl rfl #[.pointer (some ⟨dg, 0, none⟩), .int .i64 ((h.length : Nat) : Int)] (by have e0 : act36.eval (.tmp 60) = .pointer (some ⟨dg, 0, none⟩) := h60_36; have e1 : act36.eval (.tmp 61) = .int .i64 ((h.length : Nat) : Int) := h61_36; simp only [List.map_toArray, List.map_cons, List.map_nil, e0, e1]) s36 rfl (R := fun v w' => ∃ h', v = .int .i64 (Dc.kidF ⟨hh26.map (·.1), opn, nm2⟩ h.length).2 ∧ h'.map (·.1) = (Dc.kidF ⟨hh26.map (·.1), opn, nm2⟩ h.length).1.nodes ∧ Dc.St w.heap.size w36 w' dg (Dc.Blk hh26 v_26 ov mb) h' opn nm2 v_26 ov mb ∧ w'.heap[dg]? = some (.cells #[v_26, ov, .map (some mb)] 64 (0, 0))) ((Dc.kid_calls dg mb v_26 ov hh26 opn nm2 h.length w _ bl36 hlo kdg_36 XX_36.R (by rw [eh26]; simp) (fun o ho => ⟨(hop o ho).1, Nat.lt_of_lt_of_le (hop o ho).2 (by rw [eh26]; simp)⟩) (by rw [eh26]; exact Dc.snoc_kids rfl hkl)).mono ?_) fun v_37 w37 act37 R d37 s37 h62_37 hr => ?_
 ·rintro e w1 ⟨h1, rfl, r1⟩; exact ⟨_, rfl, h1, rfl, r1⟩
 have ⟨h0_37, h7_37, h8_37⟩ := Eng.k3 hr h0_36 h7_36 h8_36
 have d37 := d37.trans d36
 clear hr
 obtain ⟨h37, ev_37, hm37, Y37, kb37⟩ := R
 obtain ⟨kr37, hkr37⟩ : ∃ k, k = (Dc.kidF ⟨hh26.map (·.1), opn, nm2⟩ h.length).2 := ⟨_, rfl⟩
 rw [ev_37, ← hkr37] at h62_37
 have kg8_12_37 := Y37.A.at_ kg8_12_36 (fun h => h.elim (ne_g8_12_dg.symm) ap8_26)
 have lg8_12_37 := Nat.lt_of_lt_of_le lg8_12_36 Y37.A.size
 have bl37 := Eng.Aft.below Y37.A bl36 (Nat.le_refl _) (fun b hb => hb.elim (fun e => e ▸ hlo) (fun e => (XX_36.R.lt e).1))
 have X_37 := Dc.St.call XX_36 Y37
 have lb37 := (Array.getElem?_eq_some_iff.1 kb37).1
 have Oop_37 := X_37.R.op
 refine EngI.tv rfl (Eng.run_assign rfl h62_37) s37 fun act38 d38 s38 h6_38 hr => ?_
 have ⟨h0_38, h7_38, h8_38⟩ := Eng.k3 hr h0_37 h7_37 h8_37
 have d38 := d38.trans d37
 clear hr
 refine EngI.tail_nil ?_
 refine wp_seq ?_
 refine wp_seq ?_
 obtain ⟨q65, Bq65⟩ : ∃ b : Bool, b = (!(K == 0)) := ⟨_, rfl⟩
 refine Eng.rS [.pointer (some ⟨g8_12, 0, none⟩), .int .i64 K, .bool q65] (fun _ => .plain) 3 0 s38 ?_ ?_
 ·refine .c ?_ (.c ?_ (.c ?_ (.nil)))
  ·exact Eng.pv fun a w' H => Eng.vr rfl (Eng.run_fieldb rfl Tryd.underlying57 0 (by kernel_rfl) (H.q 8 h8_38))
  ·exact Eng.pv fun a w' H => Eng.vr rfl (Eng.run_loadb rfl (H.d 0 63) ((H.below.block _ lg8_12_37).trans kg8_12_37) rfl (by kernel_rfl))
  refine Eng.pv fun a w' H => ?_
  refine Eng.vr (v := .bool (!(K == 0))) (by show _ = Value.bool q65; rw [Bq65]) ?_
  have e0 : a.eval (.tmp 64) = .int .i64 K := (H.d 1 64)
  have e1 : a.eval (.const (.int .i64 0)) = .int .i64 0 := rfl
  simp only [execOp, resolve, List.map_toArray, List.map_cons, List.map_nil, e0, e1]
  go_simp
  all_goals first | rfl | (simp; done) | (rw [Bool.eq_iff_iff]; simp; done) | omega | (split <;> first | (simp_all; done) | (split <;> simp_all; done)) | skip
 intro act39 w39 T
 have ⟨h0_39, h6_39, h7_39⟩ := T.r3 h0_38 h6_38 h7_38
 have kdg_39 := T.x lb37 kb37
 have ldg_39 := T.l lb37
 have Oop_39 := T.g Oop_37
 have h65_39 : act39.eval (.tmp 65) = .bool q65 := T.done 2 65 rfl rfl
 have d39 := T.e d38
 have s39 := T.z s38
 have bl39 := T.b bl37
 have XX_39 := Dc.St.below X_37 T.below
 clear T
 refine Eng.tail_nil ?_
 refine wp_cond_split h65_39 (fun hq => ?_) (fun hq => ?_)
 ·
  have c65 := Bq65.symm.trans hq
  clear hq
  have hK0 : ¬ K = 0 := by have h1 := c65; simpa using h1
  refine Eng.regionT (n := 11) rfl ?_
  refine Eng.tail_val rfl rfl rfl (Eng.run_move rfl h0_39) s39 rfl fun act41 d41 s41 h66_41 hr => ?_
  have ⟨h0_41, h6_41, h7_41⟩ := Eng.k3 hr h0_39 h6_39 h7_39
  have d41 := d41.trans d39
  clear hr
  refine Eng.tail_val rfl rfl rfl (Eng.run_move rfl h0_41) s41 rfl fun act42 d42 s42 h67_42 hr => ?_
  have ⟨h6_42, h7_42, h66_42⟩ := Eng.k3 hr h6_41 h7_41 h66_41
  have d42 := d42.trans d41
  clear hr
  refine Eng.tail_val (w1 := w39) (v := .pointer (some ⟨dg, 0, none⟩)) rfl rfl rfl ?_ s42 rfl ?_
  ·exact Eng.run_nilb rfl h67_42
  intro act43 d43 s43 h68_43 hr
  have ⟨h6_43, h7_43, h66_43⟩ := Eng.k3 hr h6_42 h7_42 h66_42
  have d43 := d43.trans d42
  clear hr
  refine Eng.tail_val (w1 := w39) (v := .pointer (some ⟨dg, 1, none⟩)) rfl rfl rfl ?_ s43 rfl ?_
  ·exact Eng.run_fieldb rfl Tryd.underlying64 1 (by kernel_rfl) h68_43
  intro act44 d44 s44 h69_44 hr
  have ⟨h6_44, h7_44, h66_44⟩ := Eng.k3 hr h6_43 h7_43 h66_43
  have d44 := d44.trans d43
  clear hr
  refine Eng.tail_val (w1 := w39) (v := ov) rfl rfl rfl ?_ s44 rfl ?_
  ·exact Eng.run_loadb rfl h69_44 (((Below.refl _ _).block _ ldg_39).trans kdg_39) rfl (by kernel_rfl)
  intro act45 d45 s45 h70_45 hr
  have ⟨h6_45, h7_45, h66_45⟩ := Eng.k3 hr h6_44 h7_44 h66_44
  have d45 := d45.trans d44
  clear hr
  refine Eng.tail_val rfl rfl rfl (Eng.run_move rfl h7_45) s45 rfl fun act46 d46 s46 h71_46 hr => ?_
  have ⟨h6_46, h66_46, h70_46⟩ := Eng.k3 hr h6_45 h66_45 h70_45
  have d46 := d46.trans d45
  clear hr
  refine Eng.tail_ex rfl rfl rfl (Eng.run_buildN1 (z := .int .i64 0) [.int .i64 ((h.length : Nat) : Int)] rfl Tryd.underlying55 (by kernel_rfl) rfl rfl rfl rfl (by intro v hv; have h := List.mem_singleton.1 hv; rw [h]; exact rfl) (by have e0 : act46.eval (.tmp 71) = .int .i64 ((h.length : Nat) : Int) := h71_46; simp [e0])) s46 rfl fun v_47 w47 act47 R d47 s47 h72_47 hr => ?_
  obtain ⟨F_47, b_47⟩ := R
  have ⟨h6_47, h66_47, h70_47⟩ := Eng.k3 hr h6_46 h66_46 h70_46
  have d47 := d47.trans d46
  clear hr
  have kdg_47 := (b_47.block _ ldg_39).trans kdg_39
  have ldg_47 := Nat.lt_of_lt_of_le ldg_39 b_47.size
  have Oop_47 := Eng.own_below Oop_39 b_47
  have XX_47 := Dc.St.below XX_39 b_47
  have bl47 := bl39.trans (b_47.mono bl39.size)
  refine Eng.tail_ex rfl rfl rfl (Eng.run_appendI (z := .int .i64 0) rfl Tryd.underlying55 (by kernel_rfl) rfl rfl h70_47 Oop_47 h72_47 F_47 (by intro u hu; simp at hu; subst hu; rfl) (by omega) bl47.size) s47 rfl fun v_48 w48 act48 R d48 s48 h73_48 hr => ?_
  obtain ⟨O_48, _, b_48, G_48, EO_48⟩ := R
  have ⟨h6_48, h66_48⟩ := Eng.k2 hr h6_47 h66_47
  have d48 := d48.trans d47
  clear hr
  have kdg_48 := (G_48.block _ ldg_47 (Eng.own_ne Oop_47 kdg_47 rfl)).trans kdg_47
  have ldg_48 := Nat.lt_of_lt_of_le ldg_47 G_48.size
  have XX_48 := Dc.St.push XX_47 (h.length : Int) O_48 G_48 EO_48
  have Oa48 : w48.ownsRow w.heap.size 3 1 v_48 (opn ++ [(h.length : Int)]).length (Dc.ints (opn ++ [(h.length : Int)])) := XX_48.R.op
  have Fa48 := Eng.Reads.of_own Oa48
  refine Eng.tail_val (w1 := w48) (v := .pointer (some ⟨dg, 0, none⟩)) rfl rfl rfl ?_ s48 rfl ?_
  ·exact Eng.run_nilb rfl h66_48
  intro act49 d49 s49 h74_49 hr
  have ⟨h6_49, h73_49⟩ := Eng.k2 hr h6_48 h73_48
  have d49 := d49.trans d48
  clear hr
  refine Eng.tail_val (w1 := w48) (v := .pointer (some ⟨dg, 1, none⟩)) rfl rfl rfl ?_ s49 rfl ?_
  ·exact Eng.run_fieldb rfl Tryd.underlying64 1 (by kernel_rfl) h74_49
  intro act50 d50 s50 h75_50 hr
  have ⟨h6_50, h73_50⟩ := Eng.k2 hr h6_49 h73_49
  have d50 := d50.trans d49
  clear hr
  refine Eng.tail_set (n := 1) (v := v_48) (new := #[v_26, v_48, .map (some mb)]) rfl rfl rfl kdg_48 rfl ?_ fun w51 S => ?_
  ·have e0 : act50.eval (.tmp 75) = .pointer (some ⟨dg, 1, none⟩) := h75_50
   have e1 : act50.eval (.tmp 73) = v_48 := h73_50
   obtain ⟨A0_, c0_, ev0_⟩ := Eng.Reads.shape Fa48
   subst ev0_
   have z0 := (Eng.cells kdg_48 (1)).trans (rfl)
   have f0 := Eng.unfrozen kdg_48 (1)
   simp only [execOp]
   rw [e0, e1]
   go_simp
  have kdg_51 := S.new
  have ldg_51 := Nat.lt_of_lt_of_eq ldg_48 S.size.symm
  have XX_51 := Dc.St.setd XX_48 S kdg_48
  clear S
  refine Eng.tail_nil ?_
  refine wp_seq ?_
  refine Eng.rS [.int .i64 kr37, .int .i64 kr37] (fun _ => .plain) 2 0 s50 ?_ ?_
  ·refine .c ?_ (.c ?_ (.nil))
   ·exact Eng.pv fun a w' H => Eng.vr rfl (Eng.run_move rfl (H.q 6 h6_50))
   exact Eng.pv fun a w' H => Eng.vr rfl (Eng.run_assign rfl (H.d 0 76))
  intro act52 w52 T
  have kdg_52 := T.x ldg_51 kdg_51
  have h4_52 : act52.eval (.tmp 4) = .int .i64 kr37 := T.done 1 4 rfl rfl
  have d52 := T.e d50
  have XX_52 := Dc.St.below XX_51 T.below
  clear T
  refine Eng.tail_nil ?_
  refine wp_ret ?_
  repeat (first | refine Eng.in_ret ?_ | refine Eng.then_ret ?_)
  have e_ := Dc.nodeF_ok (d := ⟨h.map (·.1), opn, names⟩) (x := x) (by simpa using hfull) htg hK hnm2
  simp only [List.length_map] at e_
  rw [eh26, Dc.snoc_map] at hm37 hkr37
  have eta_ := Dc.kidF_eta hm37
  rw [if_neg hK0] at e_
  exact Eng.ret1 rfl d52 h4_52 ⟨h37, (opn ++ [(h.length : Int)]), nm2, v_26, v_48, by rw [e_]; rw [hkr37], by rw [e_]; simp only; rw [← eta_], XX_52, kdg_52⟩
 have c65 := Bq65.symm.trans hq
 clear hq
 have hK0 : K = 0 := by have h1 := c65; simpa using h1
 refine wp_skip ?_
 refine wp_seq ?_
 refine Eng.rS [.int .i64 kr37, .int .i64 kr37] (fun _ => .plain) 2 0 s39 ?_ ?_
 ·refine .c ?_ (.c ?_ (.nil))
  ·exact Eng.pv fun a w' H => Eng.vr rfl (Eng.run_move rfl (H.q 6 h6_39))
  exact Eng.pv fun a w' H => Eng.vr rfl (Eng.run_assign rfl (H.d 0 76))
 intro act54 w54 T
 have kdg_54 := T.x ldg_39 kdg_39
 have h4_54 : act54.eval (.tmp 4) = .int .i64 kr37 := T.done 1 4 rfl rfl
 have d54 := T.e d39
 have XX_54 := Dc.St.below XX_39 T.below
 clear T
 refine Eng.tail_nil ?_
 refine wp_ret ?_
 repeat (first | refine Eng.in_ret ?_ | refine Eng.then_ret ?_)
 have e_ := Dc.nodeF_ok (d := ⟨h.map (·.1), opn, names⟩) (x := x) (by simpa using hfull) htg hK hnm2
 simp only [List.length_map] at e_
 rw [eh26, Dc.snoc_map] at hm37 hkr37
 have eta_ := Dc.kidF_eta hm37
 rw [if_pos hK0] at e_
 exact Eng.ret1 rfl d54 h4_54 ⟨h37, opn, nm2, v_26, ov, by rw [e_]; rw [hkr37], by rw [e_]; exact eta_, XX_54, kdg_54⟩
end Go.Proofs.YtgnmjaacnmkgnaaDoor.X
end
section
namespace Go.Proofs.Eng
open Go Go.RowKit
theorem ret2 {P : Program} {fn : Func} {s t : Nat} {R : Ending → World → Prop} {a : Act} {w : World} (h : fn.results = #[.tmp s, .tmp t]) (hd : a.defers = []) {v u : Value} (e : a.eval (.tmp s) = v) (e2 : a.eval (.tmp t) = u) (hR : R (.returned (.tuple #[v, u])) w) : bodyPost P fn R .ret a w := by
  refine ⟨hd, .tuple #[v, u], ?_, hR⟩
  subst e; subst e2
  have e1 : a.tmps[s]?.getD undef = a.eval (.tmp s) := by show _ = a.tmps.getD s undef; simp
  have e3 : a.tmps[t]?.getD undef = a.eval (.tmp t) := by show _ = a.tmps.getD t undef; simp
  simp [results, h, e1, e3]
end Go.Proofs.Eng
namespace Go.Proofs.YtgnmjaacnmkgnaaDoor.X
open Go.RowKit Go.Shelf Go.Proofs Go.Maps Go.WideMaps
set_option linter.unusedVariables false
set_option linter.unusedSimpArgs false
namespace Dc
theorem make_ex {B : Nat} {w : World} {a : Act} {o : Oper} (hop : o.op = .makeMap 46 none) (hB : B ≤ w.heap.size) : ∃ v w1, (execOp a.eval o).run Tryd.prog w = .ok (.value v) w1 ∧ ∃ mb, v = .map (some mb) ∧ w.heap.size ≤ mb ∧ MapRep B w1 mb [] ∧ Below w.heap.size w w1 := by
  refine ⟨.map (some w.heap.size), w.alloc (.map #[] 0), ?_, w.heap.size, rfl, Nat.le_refl _, ⟨hB, 0, .map [], World.ownsMap_made _ _ _ _, Nat.le_refl _, told_nil⟩, (Below.refl _ _).alloc (Nat.le_refl _) _⟩
  unfold execOp
  rw [hop]
  simp [run_makeMap]
theorem run_look2 {B : Nat} {w : World} {a : Act} {o : Oper} {m x : Operand} {s : ByteArray} {h : List NV} {opn : List Int} {names : List (List UInt8 × Int)} {gv ov : Value} {mb : Nat} (R : Rep B w h opn names gv ov mb) (hop : o.op = .lookup 46 m x true) (hm : a.eval m = .map (some mb)) (hx : a.eval x = .string s) (hs : s.size ≤ maxLen) :
    (execOp a.eval o).run Tryd.prog w = .ok (.value (.tuple #[.int .i64 ((find names s.data.toList).getD 0), .bool (find names s.data.toList).isSome])) w := by
  obtain ⟨hB, n, D, hown, hle, hT⟩ := R.mp
  obtain ⟨v, ps, hr, hv⟩ := hown.look_ok key_law Tryd.underlying46 (zero3 w) (plainElem_int Tryd.underlying3 (by decide)) (keyOf_string_mk Tryd.underlying9 hs)
  obtain ⟨c, rfl, hc, hwc⟩ := plainElem_int_inv Tryd.underlying3 hv
  have h2 : (D.atKey (.string s.data.toList) (.lit (.int .i64 0)), ps).1 = (DataW.lit (.int .i64 c), []).1 := congrArg Prod.fst hc
  have hcd : c = (find names s.data.toList).getD 0 := by
    cases hf : find names s.data.toList with
    | none =>
      have h1 := (hT.2 s.data.toList).1
      rw [hf] at h1
      have h3 : DataW.lit (H := Unit) (Lit.int .i64 0) = DataW.lit (Lit.int .i64 c) := (atKey_of_not_has h1 _).symm.trans h2
      exact ((Lit.int.inj (DataW.lit.inj h3)).2).symm
    | some d =>
      have h3 : DataW.lit (H := Unit) (Lit.int .i64 d) = DataW.lit (Lit.int .i64 c) := ((hT.2 s.data.toList).2 d hf).symm.trans h2
      exact ((Lit.int.inj (DataW.lit.inj h3)).2).symm
  rw [(hT.2 _).1, hcd] at hr
  unfold execOp; rw [hop]; simp only [hm, hx]; go_simp
def keysL : List Int → List Int
  | a :: _ :: t => a :: keysL t
  | [a] => [a]
  | [] => []
def hasI (nodes : List Nd) (i : Int) : Bool := decide (0 ≤ i) && decide (i < nodes.length)
def leaf (nodes : List Nd) (i : Int) : Option (List UInt8 × List UInt8) := if (nodes.getD i.toNat default).kind = 0 then some ((nodes.getD i.toNat default).tag.data.toList, (nodes.getD i.toNat default).text.data.toList) else none
def dupNode (nodes : List Nd) (n : Nd) : Bool := n.kind == 2 && (!decide ((keysL n.kids).filter (hasI nodes)).Nodup || !decide (((keysL n.kids).filter (hasI nodes)).filterMap (leaf nodes)).Nodup)
def twiceF (nodes : List Nd) : Bool := nodes.any (dupNode nodes)
def TwOK (nodes : List Nd) : Prop := ∀ (B : Nat) (w : World) (h : List NV) (opn : List Int) (names : List (List UInt8 × Int)) (gv ov : Value) (mb : Nat), h.map (·.1) = nodes → Rep B w h opn names gv ov mb →
  Calls Tryd.prog 41 #[gv] w fun e w' => e = .returned (.bool (twiceF nodes)) ∧ Below w.heap.size w w'
theorem rep_nil {B : Nat} {w : World} {mb : Nat} (M : MapRep B w mb []) : Rep B w [] [] [] (.slice none 0 0) (.slice none 0 0) mb :=
  ⟨World.ownsRow_nil _ _ _ _, World.ownsRow_nil _ _ _ _, fun i hi => absurd hi (by simp), fun i j hi => absurd hi (by simp), fun i hi => absurd hi (by simp), M⟩
theorem blk_nil {mb b : Nat} (h : Blk [] (.slice none 0 0) (.slice none 0 0) mb b) : b = mb := by
  rcases h with e | e | ⟨i, hi, _⟩ | e
  · cases e
  · cases e
  · simp at hi
  · exact e
theorem mrep_below {B : Nat} {w w' : World} {mb : Nat} {names : List (List UInt8 × Int)} (M : MapRep B w mb names) (h : Below w.heap.size w w') : MapRep B w' mb names := M.kept (h.block mb M.lt)
theorem mrep_sets {B : Nat} {w w' : World} {mb g : Nat} {o : Obj} {T : TypeId} {cs : Array Value} {names : List (List UInt8 × Int)} (M : MapRep B w mb names) (S : Eng.Sets w w' g o) (hk : w.heap[g]? = some (.cells cs T (0, 0))) : MapRep B w' mb names := M.kept (S.far mb fun e => box_map hk M (by rw [e]))
def aliasF (d : Dc) (x : Evt.Ev) : Dc × Int :=
  match find d.names x.anchor.data.toList with
  | none => (d, 11)
  | some c => kidF d c.toNat
theorem aliasF_no {d : Dc} {x : Evt.Ev} (h : find d.names x.anchor.data.toList = none) : aliasF d x = (d, 11) := by unfold aliasF; rw [h]
theorem aliasF_is {d : Dc} {x : Evt.Ev} {n : Nat} (h : find d.names x.anchor.data.toList = some (n : Int)) : aliasF d x = kidF d n := by unfold aliasF; rw [h]; rfl
end Dc
end Go.Proofs.YtgnmjaacnmkgnaaDoor.X
end
section
namespace Go.Proofs.YtgnmjaacnmkgnaaDoor.X
open Go.RowKit Go.Shelf Go.Proofs Go.Maps
set_option linter.unusedVariables false
set_option linter.unusedSimpArgs false
namespace Tm
section
variable {w w' : World} {B mb n : Nat} {kt : TypeId} {L : List Value}
theorem Cn.mono (X : Cn w B mb kt n L) {n' : Nat} (h : n ≤ n') : Cn w B mb kt n' L := by
  obtain ⟨l, D, h1, h2⟩ := X; exact ⟨l, D, h1.mono h, h2⟩
theorem Cn.sets {g : Nat} {o : Obj} {T : TypeId} {cs : Array Value} (X : Cn w B mb kt n L) (S : Eng.Sets w w' g o) (hk : w.heap[g]? = some (.cells cs T (0, 0))) : Cn w' B mb kt n L := X.keep (S.far _ (fun e => X.ne hk e.symm))
theorem Cn.eqL (X : Cn w B mb kt n L) {L' : List Value} (h : L' = L) : Cn w B mb kt n L' := h ▸ X
theorem mem_of {v : Value} (h : cnt (v :: L) v > 1) : v ∈ L := by
  by_cases hm : v ∈ L
  · exact hm
  · rw [cnt_same, cnt_zero hm] at h; omega
theorem not_of {v : Value} (h : ¬ cnt (v :: L) v > 1) : v ∉ L := fun hm => h (by rw [cnt_same]; have := cnt_pos hm; omega)
end
def leafB (nd : List Dc.Nd) (i : Int) : Option (ByteArray × ByteArray) := if (nd.getD i.toNat default).kind = 0 then some ((nd.getD i.toNat default).tag, (nd.getD i.toNat default).text) else none
def kv1 (i : Int) : Value := .int .i64 i
def kv2 (p : ByteArray × ByteArray) : Value := .agg #[.string p.1, .string p.2]
def fil (nd : List Dc.Nd) (ks : List Int) (m : Nat) : List Int := (ks.take m).filter (Dc.hasI nd)
def K1 (nd : List Dc.Nd) (ks : List Int) (m : Nat) : List Value := ((fil nd ks m).map kv1).reverse
def K2 (nd : List Dc.Nd) (ks : List Int) (m : Nat) : List Value := (((fil nd ks m).filterMap (leafB nd)).map kv2).reverse
def Ok (nd : List Dc.Nd) (ks : List Int) (m : Nat) : Prop := (fil nd ks m).Nodup ∧ ((fil nd ks m).filterMap (leafB nd)).Nodup
section
variable {nd : List Dc.Nd} {ks : List Int} {m : Nat} {key : Int}
theorem fil_len : (fil nd ks m).length ≤ m := by
  unfold fil; have h1 := List.length_filter_le (Dc.hasI nd) (ks.take m); have h2 := List.length_take_le m ks; omega
theorem K1_len : (K1 nd ks m).length ≤ m := by unfold K1; rw [List.length_reverse, List.length_map]; exact fil_len
theorem K2_len : (K2 nd ks m).length ≤ m := by
  unfold K2; rw [List.length_reverse, List.length_map]; have h1 := List.length_filterMap_le (leafB nd) (fil nd ks m); have h2 := fil_len (nd := nd) (ks := ks) (m := m); omega
theorem fil_not (hm : m < ks.length) (hk : key = ks.getD m 0) (h : Dc.hasI nd key = false) : fil nd ks (m + 1) = fil nd ks m := by
  have hk' : key = ks.getD m default := hk
  unfold fil; rw [Rwt.take_one hm, List.filter_append, ← hk', List.filter_cons_of_neg (by simp [h]), List.filter_nil, List.append_nil]
theorem fil_has (hm : m < ks.length) (hk : key = ks.getD m 0) (h : Dc.hasI nd key = true) : fil nd ks (m + 1) = fil nd ks m ++ [key] := by
  have hk' : key = ks.getD m default := hk
  unfold fil; rw [Rwt.take_one hm, List.filter_append, ← hk', List.filter_cons_of_pos h, List.filter_nil]
theorem K1_not (hm : m < ks.length) (hk : key = ks.getD m 0) (h : Dc.hasI nd key = false) : K1 nd ks (m + 1) = K1 nd ks m := by unfold K1; rw [fil_not hm hk h]
theorem K2_not (hm : m < ks.length) (hk : key = ks.getD m 0) (h : Dc.hasI nd key = false) : K2 nd ks (m + 1) = K2 nd ks m := by unfold K2; rw [fil_not hm hk h]
theorem K1_has (hm : m < ks.length) (hk : key = ks.getD m 0) (h : Dc.hasI nd key = true) : K1 nd ks (m + 1) = kv1 key :: K1 nd ks m := by unfold K1; rw [fil_has hm hk h]; simp
theorem K2_none (hm : m < ks.length) (hk : key = ks.getD m 0) (h : Dc.hasI nd key = true) (hl : leafB nd key = none) : K2 nd ks (m + 1) = K2 nd ks m := by unfold K2; rw [fil_has hm hk h, List.filterMap_append]; simp [hl]
theorem K2_some (hm : m < ks.length) (hk : key = ks.getD m 0) (h : Dc.hasI nd key = true) {p : ByteArray × ByteArray} (hl : leafB nd key = some p) : K2 nd ks (m + 1) = kv2 p :: K2 nd ks m := by unfold K2; rw [fil_has hm hk h, List.filterMap_append]; simp [hl]
theorem mem1 : kv1 key ∈ K1 nd ks m ↔ key ∈ fil nd ks m := by
  unfold K1
  rw [List.mem_reverse, List.mem_map]
  refine ⟨?_, fun h => ⟨key, h, rfl⟩⟩
  rintro ⟨x, hx, he⟩
  unfold kv1 at he; injection he with _ he; exact he ▸ hx
theorem mem2 {p : ByteArray × ByteArray} : kv2 p ∈ K2 nd ks m ↔ p ∈ (fil nd ks m).filterMap (leafB nd) := by
  unfold K2
  rw [List.mem_reverse, List.mem_map]
  refine ⟨?_, fun h => ⟨p, h, rfl⟩⟩
  rintro ⟨x, hx, he⟩
  have : x = p := by
    unfold kv2 at he
    simp at he
    exact Prod.ext he.1 he.2
  exact this ▸ hx
theorem nodup_snoc {α : Type} {l : List α} {x : α} : (l ++ [x]).Nodup ↔ l.Nodup ∧ x ∉ l := by
  rw [List.nodup_append]
  simp only [List.nodup_cons, List.not_mem_nil, not_false_eq_true, List.nodup_nil, and_self, true_and, List.mem_singleton]
  refine ⟨fun ⟨h1, h2⟩ => ⟨h1, fun h => h2 x h x rfl rfl⟩, fun ⟨h1, h2⟩ => ⟨h1, fun a ha b hb e => h2 ?_⟩⟩
  subst hb; subst e; exact ha
theorem ok_zero : Ok nd ks 0 := by unfold Ok fil; simp
theorem ok_not (hm : m < ks.length) (hk : key = ks.getD m 0) (h : Dc.hasI nd key = false) (H : Ok nd ks m) : Ok nd ks (m + 1) := by unfold Ok; rw [fil_not hm hk h]; exact H
theorem ok_none (hm : m < ks.length) (hk : key = ks.getD m 0) (h : Dc.hasI nd key = true) (hl : leafB nd key = none) (h1 : kv1 key ∉ K1 nd ks m) (H : Ok nd ks m) : Ok nd ks (m + 1) := by
  unfold Ok; rw [fil_has hm hk h, List.filterMap_append]; simp only [List.filterMap_cons, hl, List.filterMap_nil, List.append_nil]
  exact ⟨nodup_snoc.2 ⟨H.1, fun h => h1 (mem1.2 h)⟩, H.2⟩
theorem ok_some (hm : m < ks.length) (hk : key = ks.getD m 0) (h : Dc.hasI nd key = true) {p : ByteArray × ByteArray} (hl : leafB nd key = some p) (h1 : kv1 key ∉ K1 nd ks m) (h2 : kv2 p ∉ K2 nd ks m) (H : Ok nd ks m) : Ok nd ks (m + 1) := by
  unfold Ok; rw [fil_has hm hk h, List.filterMap_append]; simp only [List.filterMap_cons, hl, List.filterMap_nil]
  exact ⟨nodup_snoc.2 ⟨H.1, fun h => h1 (mem1.2 h)⟩, nodup_snoc.2 ⟨H.2, fun h => h2 (mem2.2 h)⟩⟩
theorem leaf_eq (i : Int) : Dc.leaf nd i = (leafB nd i).map fun p => (p.1.data.toList, p.2.data.toList) := by
  unfold Dc.leaf leafB; split <;> rfl
theorem data_inj {a b : ByteArray} (h : a.data.toList = b.data.toList) : a = b := by
  cases a; cases b; simp at h; rw [h]
theorem leaves (l : List Int) : (l.filterMap (Dc.leaf nd)).Nodup ↔ (l.filterMap (leafB nd)).Nodup := by
  have e : l.filterMap (Dc.leaf nd) = (l.filterMap (leafB nd)).map fun p => (p.1.data.toList, p.2.data.toList) := by
    rw [List.map_filterMap]; congr 1; funext i; exact leaf_eq i
  rw [e]
  unfold List.Nodup
  rw [List.pairwise_map]
  refine ⟨fun h => h.imp fun hn he => hn (by rw [he]), fun h => h.imp fun hn he => hn ?_⟩
  simp only [Prod.mk.injEq] at he
  exact Prod.ext (data_inj he.1) (data_inj he.2)
theorem sub_fil (h : m ≤ ks.length) : (fil nd ks m).Sublist (ks.filter (Dc.hasI nd)) := (List.take_sublist m ks).filter _
theorem dup_iff {n : Dc.Nd} (h2 : n.kind = 2) (hk : ks = Dc.keysL n.kids) : Dc.dupNode nd n = false ↔ Ok nd ks ks.length := by
  unfold Dc.dupNode Ok fil
  rw [← hk, List.take_length, ← leaves]
  simp [h2]
theorem dup_kind {n : Dc.Nd} (h2 : n.kind ≠ 2) : Dc.dupNode nd n = false := by
  unfold Dc.dupNode
  have : (n.kind == 2) = false := by simpa using h2
  rw [this]; rfl
theorem dup_one {n : Dc.Nd} (h2 : n.kind = 2) (hk : ks = Dc.keysL n.kids) (hm : m < ks.length) (hkey : key = ks.getD m 0) (h : Dc.hasI nd key = true) (hin : kv1 key ∈ K1 nd ks m) : Dc.dupNode nd n = true := by
  cases hd : Dc.dupNode nd n with
  | true => rfl
  | false =>
    have H := ((dup_iff h2 hk).1 hd).1
    have hs : (fil nd ks (m + 1)).Nodup := by
      have h1 := sub_fil (nd := nd) (m := m + 1) (ks := ks) hm
      unfold fil at H; rw [List.take_length] at H
      exact h1.nodup H
    rw [fil_has hm hkey h] at hs
    exact absurd (mem1.1 hin) (nodup_snoc.1 hs).2
theorem dup_two {n : Dc.Nd} (h2 : n.kind = 2) (hk : ks = Dc.keysL n.kids) (hm : m < ks.length) (hkey : key = ks.getD m 0) (h : Dc.hasI nd key = true) {p : ByteArray × ByteArray} (hl : leafB nd key = some p) (hin : kv2 p ∈ K2 nd ks m) : Dc.dupNode nd n = true := by
  cases hd : Dc.dupNode nd n with
  | true => rfl
  | false =>
    have H := ((dup_iff h2 hk).1 hd).2
    have hs : ((fil nd ks (m + 1)).filterMap (leafB nd)).Nodup := by
      have h1 := (sub_fil (nd := nd) (m := m + 1) (ks := ks) hm).filterMap (leafB nd)
      unfold fil at H; rw [List.take_length] at H
      exact h1.nodup H
    rw [fil_has hm hkey h, List.filterMap_append] at hs
    simp only [List.filterMap_cons, hl, List.filterMap_nil] at hs
    exact absurd (mem2.1 hin) (nodup_snoc.1 hs).2
theorem twice_true {k : Nat} (hk : k < nd.length) (h : Dc.dupNode nd (nd.getD k default) = true) : Dc.twiceF nd = true := by
  unfold Dc.twiceF; rw [List.any_eq_true]
  refine ⟨nd.getD k default, ?_, h⟩
  rw [List.getD_eq_getElem?_getD, List.getElem?_eq_getElem hk]; exact List.getElem_mem hk
theorem twice_false (h : ∀ j, j < nd.length → Dc.dupNode nd (nd.getD j default) = false) : Dc.twiceF nd = false := by
  unfold Dc.twiceF; rw [List.any_eq_false]
  intro n hn
  obtain ⟨j, hj, rfl⟩ := List.mem_iff_getElem.1 hn
  have := h j hj
  rw [List.getD_eq_getElem?_getD, List.getElem?_eq_getElem hj] at this
  simpa using this
theorem none_step {k : Nat} (h : ∀ j, j < k → Dc.dupNode nd (nd.getD j default) = false) (h1 : Dc.dupNode nd (nd.getD k default) = false) : ∀ j, j < k + 1 → Dc.dupNode nd (nd.getD j default) = false := fun j hj => by
  rcases Nat.lt_or_eq_of_le (Nat.le_of_lt_succ hj) with h2 | rfl
  · exact h j h2
  · exact h1
end
def Small (nd : List Dc.Nd) : Prop := ∀ n ∈ nd, n.kids.length ≤ 1000000 ∧ n.tag.size ≤ 1000000 ∧ n.text.size ≤ 1000000
theorem Small.at_ {nd : List Dc.Nd} (h : Small nd) {k : Nat} (hk : k < nd.length) : (nd.getD k default).kids.length ≤ 1000000 ∧ (nd.getD k default).tag.size ≤ 1000000 ∧ (nd.getD k default).text.size ≤ 1000000 := by
  refine h _ ?_
  rw [List.getD_eq_getElem?_getD, List.getElem?_eq_getElem hk]; exact List.getElem_mem hk
theorem keys_len : ∀ l : List Int, (Dc.keysL l).length ≤ l.length
  | [] => Nat.le_refl _
  | [a] => Nat.le_refl _
  | a :: b :: t => by
    have := keys_len t
    show (Dc.keysL t).length + 1 ≤ t.length + 1 + 1
    omega
theorem own_drew {w : World} {B size m d : Nat} {e : TypeId} {v : Value} {xs : List Value} (h : w.ownsRow B e size v m xs) : ({ w with drawn := d } : World).ownsRow B e size v m xs := h
theorem Cn.drew {w : World} {B mb n d : Nat} {kt : TypeId} {L : List Value} (X : Cn w B mb kt n L) : Cn ({ w with drawn := d } : World) B mb kt n L := X.keep rfl
theorem run_leaf {a : Act} {o : Oper} {x y : Operand} {s t : ByteArray} {u : World} (hop : o.op = .build 105 #[(0, x), (1, y)]) (hx : a.eval x = .string s) (hy : a.eval y = .string t) : (execOp a.eval o).run Tryd.prog u = .ok (.value (.agg #[.string s, .string t])) u := by
  unfold execOp; rw [hop]; simp only [List.map_toArray, List.map_cons, List.map_nil, hx, hy]; go_simp
end Tm
end Go.Proofs.YtgnmjaacnmkgnaaDoor.X
end
section
namespace Go.Proofs.Eng
open Go Go.RowKit
set_option linter.unusedSimpArgs false
set_option linter.unusedVariables false
variable {P : Program} {ops : Array Oper} {Q : Exit → Act → World → Prop}
def DutyZ (P : Program) (ops : Array Oper) (Q : Exit → Act → World → Prop) (D : Nat → Value → World → Prop) (Z : (Nat → Bool) → World → Prop) (a0 : Act) (i : Nat) (o : Oper) : Prop :=
  ∀ (L : Nat → Bool) (a : Act) (w : World), L i = false → Z L w → (∀ j d, bound o j = true → dstOf ops j = some d → D j (a.tmps.getD d undef) w) → (∀ t, old ops i t = true → a.eval (.tmp t) = a0.eval (.tmp t)) →
    o.guard = none ∧ o.wp P a w (fun a' w' => ∃ v, a' = a.put o.dst v ∧ (o.dst ≠ none → D i v w') ∧ Z (fun j => if j = i then true else L j) w' ∧ ∀ j v, L j = true → D j v w → D j v w') Q
def StepsZ (P : Program) (ops : Array Oper) (Q : Exit → Act → World → Prop) (D : Nat → Value → World → Prop) (Z : (Nat → Bool) → World → Prop) (a0 : Act) (m : Nat) : Nat → List Oper → Prop
  | _, [] => True
  | i, o :: os => (i < m → DutyZ P ops Q D Z a0 i o) ∧ StepsZ P ops Q D Z a0 m (i + 1) os
theorem StepsZ.cons {D : Nat → Value → World → Prop} {Z : (Nat → Bool) → World → Prop} {a0 : Act} {m i : Nat} {o : Oper} {os : List Oper} (h : i < m → DutyZ P ops Q D Z a0 i o) (hs : StepsZ P ops Q D Z a0 m (i + 1) os) : StepsZ P ops Q D Z a0 m i (o :: os) := ⟨h, hs⟩
theorem StepsZ.nil {D : Nat → Value → World → Prop} {Z : (Nat → Bool) → World → Prop} {a0 : Act} {m i : Nat} : StepsZ P ops Q D Z a0 m i [] := trivial
theorem StepsZ.get {D : Nat → Value → World → Prop} {Z : (Nat → Bool) → World → Prop} {a0 : Act} {m : Nat} : ∀ {l : List Oper} {i : Nat}, StepsZ P ops Q D Z a0 m i l → ∀ n o, l[n]? = some o → i + n < m → DutyZ P ops Q D Z a0 (i + n) o
  | [], _, _, _, _, h, _ => by simp at h
  | o :: os, i, h, 0, o', he, hm => by simp at he; subst he; exact h.1 hm
  | o :: os, i, h, n + 1, o', he, hm => by
    have e : i + 1 + n = i + (n + 1) := by omega
    have := StepsZ.get h.2 n o' (by simpa using he) (by omega)
    rw [e] at this; exact this
structure InvZ (ops : Array Oper) (D : Nat → Value → World → Prop) (Z : (Nat → Bool) → World → Prop) (a0 : Act) (L : Array Bool) (a : Act) (w : World) : Prop where
  z : Z (fun j => L.getD j false) w
  defers : a.defers = a0.defers
  size : a.tmps.size = a0.tmps.size
  done : ∀ j d, L.getD j false = true → dstOf ops j = some d → D j (a.tmps.getD d undef) w
  rest : ∀ t, (∀ j, L.getD j false = true → dstOf ops j ≠ some t) → a.tmps.getD t undef = a0.tmps.getD t undef
section main
variable {D : Nat → Value → World → Prop} {Z : (Nat → Bool) → World → Prop} {a0 : Act} {m : Nat}
theorem step_invZ (hs : shape ops m a0.tmps.size = true) (hS : StepsZ P ops Q D Z a0 m 0 ops.toList) {L : Array Bool} (hL : lits L ops) (hlow : ∀ k, m ≤ k → L.getD k false = false) {a : Act} {w : World} (I : InvZ ops D Z a0 L a w)
    {i : Nat} (hi : i < m) (him : i < ops.size) (hnot : L.getD i false = false) (hr : ∀ o, ops[i]? = some o → ∀ j, bound o j = true → L.getD j false = true)
    {K : Act → World → Prop} (hK : ∀ a' w', InvZ ops D Z a0 (L.setIfInBounds i true) a' w' → K a' w') : wpOp P ops Q i K a w := by
  obtain ⟨o, ho⟩ : ∃ o, ops[i]? = some o := ⟨ops[i], Array.getElem?_eq_getElem him⟩
  have hst := hS.get i o (by simpa using ho) (by omega)
  rw [Nat.zero_add] at hst
  have hdo : dstOf ops i = o.dst := by unfold dstOf; rw [ho]; rfl
  have hd3 := (shape_edge hs ho).2.2
  have hjm : ∀ j, L.getD j false = true → j < m := fun j hj => by
    rcases Nat.lt_or_ge j m with h | h
    · exact h
    · rw [hlow j h] at hj; cases hj
  have hjs : ∀ j, L.getD j false = true → j < ops.size := fun j hj => by
    rcases Nat.lt_or_ge j L.size with h | h
    · rw [← hL.1]; exact h
    · rw [Array.getD_eq_getD_getElem?, Array.getElem?_eq_none h] at hj; cases hj
  have holds : ∀ t, old ops i t = true → a.eval (.tmp t) = a0.eval (.tmp t) := fun t ht => by
    show a.tmps.getD t undef = a0.tmps.getD t undef
    refine I.rest t fun j hj hjd => ?_
    unfold old at ht
    rw [all_range] at ht
    have := ht j (hjs j hj)
    obtain ⟨oj, hoj⟩ : ∃ oj, ops[j]? = some oj := ⟨ops[j]'(hjs j hj), Array.getElem?_eq_getElem _⟩
    unfold dstOf at hjd
    rw [hoj] at hjd this
    simp only [Option.bind_some] at hjd
    simp only [hjd, bne_self_eq_false, Bool.false_or, Bool.or_eq_true, beq_iff_eq] at this
    rcases this with h | h
    · subst h; rw [hj] at hnot; cases hnot
    · have := hL.2 j oj hoj hj i h
      rw [this] at hnot; cases hnot
  have hiL : i < L.size := by rw [hL.1]; exact him
  have hdsz : ∀ d, o.dst = some d → d < a.tmps.size := fun d hd => by rw [I.size]; exact hd3 d hd
  have hset : ∀ j, (L.setIfInBounds i true).getD j false = true → j ≠ i → L.getD j false = true := fun j hj hne => by rw [getD_set hiL, if_neg hne] at hj; exact hj
  have hkeep : ∀ j, L.getD j false = true → (L.setIfInBounds i true).getD j false = true := fun j hj => by
    rw [getD_set hiL]; split
    · rfl
    · exact hj
  have hslot : ∀ v j d, L.getD j false = true → dstOf ops j = some d → (a.put o.dst v).tmps.getD d undef = a.tmps.getD d undef := fun v j d hj hd => by
    rw [put_getD _ _ _ _ hdsz, if_neg]
    intro he
    have := shape_dst hs (hjm j hj) hi hd (hdo.trans he)
    subst this; rw [hj] at hnot; cases hnot
  obtain ⟨hg, h1⟩ := hst (fun j => L.getD j false) a w hnot I.z (fun j d hb hd => I.done j d (hr o ho j hb) hd) holds
  unfold wpOp
  rw [ho]
  simp only
  have hw : Region.wanted o (yielded ops a.tmps) = true := by unfold Region.wanted; rw [hg]
  rw [if_pos hw]
  refine .inl (Oper.wp_mono (fun a' w' ⟨v, hv, hD, hZ, hkD⟩ => ?_) h1)
  subst hv
  have eL : (fun j => (L.setIfInBounds i true).getD j false) = fun j => if j = i then true else L.getD j false := by funext j; exact getD_set hiL
  refine hK _ _ ⟨by rw [eL]; exact hZ, by rw [← I.defers]; cases o.dst <;> rfl, by rw [← I.size]; cases o.dst <;> simp [Act.put], ?_, fun t ht => ?_⟩
  · intro j d hj hjd
    by_cases hji : j = i
    · subst hji
      rw [put_getD _ _ _ _ hdsz, if_pos (hdo ▸ hjd)]
      exact hD (by rw [← hdo, hjd]; simp)
    · rw [hslot v j d (hset j hj hji) hjd]
      exact hkD j _ (hset j hj hji) (I.done j d (hset j hj hji) hjd)
  · rw [put_getD _ _ _ _ hdsz, if_neg (fun he => ht i (by rw [getD_set hiL, if_pos rfl]) (hdo.trans he))]
    exact I.rest t fun j hj => ht j (hkeep j hj)
theorem wp_freeZ (hs : shape ops m a0.tmps.size = true) (hm : m ≤ ops.size) (hS : StepsZ P ops Q D Z a0 m 0 ops.toList)
    (hE : ∀ a w, Z (fun j => decide (j < m)) w → a.defers = a0.defers → a.tmps.size = a0.tmps.size → (∀ j d, j < m → dstOf ops j = some d → D j (a.tmps.getD d undef) w) →
      (∀ t, (∀ j, j < m → dstOf ops j ≠ some t) → a.tmps.getD t undef = a0.tmps.getD t undef) → wpOps P ops Q (List.range' m (ops.size - m)) a w) :
    ∀ (fuel : Nat) (L : Array Bool) (a : Act) (w : World), fuel = cnt L m + (ops.size - m) → L.size = ops.size → lits L ops → (∀ k, m ≤ k → L.getD k false = false) → InvZ ops D Z a0 L a w → wpAny P .any ops Q fuel L a w := by
  have fin : ∀ (L : Array Bool) (a : Act) (w : World), cnt L m = 0 → L.size = ops.size → (∀ k, m ≤ k → L.getD k false = false) → InvZ ops D Z a0 L a w → wpAny P .any ops Q (ops.size - m) L a w := by
    intro L a w hc hsz hlow I
    have hall := cnt_zero hc
    refine wp_tail hs (ops.size - m) m L a w (Nat.le_refl _) (by omega) ⟨hsz, ?_⟩ ?_
    · intro j
      rcases Nat.lt_or_ge j m with h | h
      · rw [hall j h]; simp; omega
      · rw [hlow j h]; simp; omega
    · have eL : (fun j => L.getD j false) = fun j => decide (j < m) := by
        funext j
        rcases Nat.lt_or_ge j m with h | h
        · rw [hall j h]; simp [h]
        · rw [hlow j h]; simp [h]
      refine hE a w (eL ▸ I.z) I.defers I.size (fun j d hj hd => I.done j d (hall j hj) hd) (fun t ht => I.rest t fun j hj => ht j ?_)
      rcases Nat.lt_or_ge j m with h | h
      · exact h
      · rw [hlow j h] at hj; cases hj
  intro fuel
  induction fuel with
  | zero =>
    intro L a w hf hsz hl hlow I
    have := fin L a w (by omega) hsz hlow I
    rw [show ops.size - m = 0 by omega] at this
    exact this
  | succ fuel ih =>
    intro L a w hf hsz hl hlow I
    by_cases hc : cnt L m = 0
    · have := fin L a w hc hsz hlow I
      rw [show ops.size - m = fuel + 1 by omega] at this
      exact this
    · constructor
      · intro hnil
        exfalso
        have hex : ∃ i, i < m ∧ L.getD i false = false := by
          apply Classical.byContradiction
          intro hno
          refine hc ?_
          unfold cnt
          rw [List.length_eq_zero_iff, List.filter_eq_nil_iff]
          intro k hk
          rw [List.mem_range] at hk
          cases hv : L.getD k false with
          | true => simp
          | false => exact absurd ⟨k, hk, hv⟩ hno
        have hmin : ∀ n i, i < n → i < m → L.getD i false = false → ∃ i, i < m ∧ L.getD i false = false ∧ ∀ j, j < i → L.getD j false = true := by
          intro n
          induction n with
          | zero => intro i h; omega
          | succ n ihn =>
            intro i hin him hf
            by_cases hall : ∀ j, j < i → L.getD j false = true
            · exact ⟨i, him, hf, hall⟩
            · have : ∃ j, j < i ∧ L.getD j false = false := by
                apply Classical.byContradiction
                intro hno
                refine hall fun j hj => ?_
                cases hv : L.getD j false with
                | true => rfl
                | false => exact absurd ⟨j, hj, hv⟩ hno
              obtain ⟨j, hj, hjf⟩ := this
              exact ihn j (by omega) (by omega) hjf
        obtain ⟨i0, hi0, hf0⟩ := hex
        obtain ⟨i, him, hif, hlt⟩ := hmin (i0 + 1) i0 (by omega) hi0 hf0
        have : i ∈ Region.ready .any ops L := by
          rw [mem_ready hsz]
          refine ⟨by omega, hif, ?_⟩
          intro o ho j hj
          exact hlt j (bound_lt hs ho hj)
        rw [hnil] at this; cases this
      · intro i hi
        obtain ⟨h1, h2, h3⟩ := (mem_ready hsz).1 hi
        have him : i < m := by
          rcases Nat.lt_or_ge i m with h | h
          · exact h
          · exfalso
            obtain ⟨o, ho⟩ : ∃ o, ops[i]? = some o := ⟨ops[i], Array.getElem?_eq_getElem h1⟩
            refine hc ?_
            unfold cnt
            rw [List.length_eq_zero_iff, List.filter_eq_nil_iff]
            intro k hk
            rw [List.mem_range] at hk
            have := anc_ready hl.2 ((shape_edge hs ho).2.1 h k (by omega)) h3
            simp [this]
        refine step_invZ hs hS hl hlow I him h1 h2 h3 fun a' w' I' => ih _ a' w' ?_ (by simp [hsz]) ?_ ?_ I'
        · have := cnt_set (L := L) (by omega) h2 m him
          omega
        · refine ⟨by simp [hl.1], fun k o ho hk j hj => ?_⟩
          rw [getD_set (by omega)] at hk ⊢
          split
          · rfl
          · split at hk
            · rename_i hki; subst hki; exact h3 o ho j hj
            · exact hl.2 k o ho hk j hj
        · intro k hk
          rw [getD_set (by omega), if_neg (by omega)]
          exact hlow k hk
end main
theorem regionZ {id : Nat} {a : Act} {w : World} (D : Nat → Value → World → Prop) (Z : (Nat → Bool) → World → Prop) (m c n : Nat) (hm : P.follows .mixedOrders = true) (hn : a.tmps.size = n) (hc : ops.size = m + c) (hs : shape ops m n = true) (hZ : Z (fun _ => false) { w with drawn := w.drawn + 1 })
    (hS : StepsZ P ops Q D Z a m 0 ops.toList)
    (hE : ∀ a' w', Z (fun j => decide (j < m)) w' → a'.defers = a.defers → a'.tmps.size = n → (∀ j d, decide (j < m) = true → dstOf ops j = some d → D j (a'.eval (.tmp d)) w') →
      (∀ t, (List.range m).all (fun j => dstOf ops j != some t) = true → a'.eval (.tmp t) = a.eval (.tmp t)) → wpOps P ops Q (List.range' m c) a' w') :
    (Code.region id ops true).wp P Q a w := by
  subst hn
  refine wp_region_any hm ?_
  have hle : m ≤ ops.size := by omega
  have eZ : Z (fun j => (Array.replicate ops.size false).getD j false) { w with drawn := w.drawn + 1 } := by
    have eL : (fun j => (Array.replicate ops.size false).getD j false) = fun _ => false := by
      funext j
      rw [Array.getD_eq_getD_getElem?, Array.getElem?_replicate]
      split <;> rfl
    rw [eL]; exact hZ
  have key := wp_freeZ hs hle hS (fun a' w' h1 h2 h3 h4 h5 => by
    rw [hc, Nat.add_sub_cancel_left]
    exact hE a' w' h1 h2 h3 (fun j d hj => h4 j d (of_decide_eq_true hj)) (fun t ht => h5 t (notdst ht))) ops.size (Array.replicate ops.size false) a { w with drawn := w.drawn + 1 } ?_ (by simp) ⟨by simp, fun i o _ h => ?_⟩ (fun k _ => ?_) ⟨eZ, rfl, rfl, fun j d h => ?_, fun t _ => rfl⟩
  · exact key
  · have : cnt (Array.replicate ops.size false) m = m := by
      unfold cnt
      have : ∀ k ∈ List.range m, (!(Array.replicate ops.size false).getD k false) = true := by
        intro k _
        simp [Array.getD_eq_getD_getElem?, Array.getElem?_replicate]
        split <;> rfl
      rw [List.filter_eq_self.2 this, List.length_range]
    omega
  all_goals
    first
    | (simp [Array.getD_eq_getD_getElem?, Array.getElem?_replicate] at h; split at h <;> simp at h)
    | (simp [Array.getD_eq_getD_getElem?, Array.getElem?_replicate]; split <;> rfl)
end Go.Proofs.Eng
end
section
namespace Go.Proofs.Eng
open Go Go.RowKit
set_option linter.unusedSimpArgs false
set_option linter.unusedVariables false
variable {P : Program} {ops : Array Oper} {Q : Exit → Act → World → Prop}
def Zt (e : Nat) (w0 w1 : World) (L : Nat → Bool) (u : World) : Prop := u = if L e = true then w1 else w0
structure AtZ (ops : Array Oper) (Ds : List (Value → Prop)) (a0 : Act) (w0 w1 : World) (i : Nat) (o : Oper) (a : Act) (u : World) : Prop where
  or : u = w0 ∨ u = w1
  dep : ∀ j d, bound o j = true → dstOf ops j = some d → still Ds j (a.eval (.tmp d)) u
  kept : ∀ t, old ops i t = true → a.eval (.tmp t) = a0.eval (.tmp t)
section
variable {Ds : List (Value → Prop)} {e i : Nat} {w0 w1 : World} {a0 : Act} {o : Oper}
theorem zval (hi : (i == e) = false) (hg : o.guard = none) (h : ∀ (a : Act) (u : World), AtZ ops Ds a0 w0 w1 i o a u → ∃ v, (execOp a.eval o).run P u = .ok (.value v) u ∧ still Ds i v u) : DutyZ P ops Q (still Ds) (Zt e w0 w1) a0 i o := by
  intro L a u hL hZ hd ho
  have hor : u = w0 ∨ u = w1 := by
    unfold Zt at hZ
    split at hZ
    · exact .inr hZ
    · exact .inl hZ
  obtain ⟨v, hr, hD⟩ := h a u ⟨hor, hd, ho⟩
  refine ⟨hg, ?_⟩
  unfold Oper.wp
  rw [hr]
  refine ⟨v, rfl, fun _ => hD, ?_, fun _ _ _ h => h⟩
  have he : (if e = i then true else L e) = L e := if_neg fun h => by subst h; simp at hi
  show u = if (if e = i then true else L e) = true then w1 else w0
  rw [he]; exact hZ
theorem zturn (hg : o.guard = none) (h : ∀ (a : Act), AtZ ops Ds a0 w0 w1 e o a w0 → ∃ v, (execOp a.eval o).run P w0 = .ok (.value v) w1 ∧ still Ds e v w1) : DutyZ P ops Q (still Ds) (Zt e w0 w1) a0 e o := by
  intro L a u hL hZ hd ho
  have hu : u = w0 := by unfold Zt at hZ; rw [hL] at hZ; exact hZ
  subst hu
  obtain ⟨v, hr, hD⟩ := h a ⟨.inl rfl, hd, ho⟩
  refine ⟨hg, ?_⟩
  unfold Oper.wp
  rw [hr]
  refine ⟨v, rfl, fun _ => hD, ?_, fun _ _ _ h => h⟩
  show w1 = if (if e = e then true else L e) = true then w1 else _
  rw [if_pos rfl, if_pos rfl]
theorem regionX {id : Nat} {a : Act} {w : World} (Ds : List (Value → Prop)) (e m c n : Nat) (hm : P.follows .mixedOrders = true) (hn : a.tmps.size = n) (hc : ops.size = m + c) (hs : shape ops m n = true) (he : decide (e < m) = true) (w1 : World)
    (hS : StepsZ P ops Q (still Ds) (Zt e { w with drawn := w.drawn + 1 } w1) a m 0 ops.toList)
    (hE : ∀ a', a'.defers = a.defers → a'.tmps.size = n → (∀ j d, decide (j < m) = true → dstOf ops j = some d → still Ds j (a'.eval (.tmp d)) w1) →
      (∀ t, (List.range m).all (fun j => dstOf ops j != some t) = true → a'.eval (.tmp t) = a.eval (.tmp t)) → wpOps P ops Q (List.range' m c) a' w1) :
    (Code.region id ops true).wp P Q a w := by
  refine regionZ (still Ds) (Zt e { w with drawn := w.drawn + 1 } w1) m c n hm hn hc hs rfl hS fun a' w' hZ => ?_
  have hw : w' = w1 := hZ.trans (if_pos he)
  subst hw
  exact hE a'
end
section
variable {a : Act} {o : Oper} {t : TypeId} {m x y : Operand} {mv kv v : Value} {u u1 : World}
theorem run_look0 (hop : o.op = .lookup t m x false) (hm : a.eval m = mv) (hx : a.eval x = kv) (h : (Instr.lookup t mv kv false).run P u = .ok v u) : (execOp a.eval o).run P u = .ok (.value v) u := by
  unfold execOp; rw [hop]; simp only [hm, hx]; simp [h, Result.andThen]
theorem run_upd (hop : o.op = .mapUpdate t m x y) (hm : a.eval m = mv) (hx : a.eval x = kv) (hy : a.eval y = v) (h : (Instr.mapUpdate t mv kv v).run P u = .ok () u1) : (execOp a.eval o).run P u = .ok .skip u1 := by
  unfold execOp; rw [hop]; simp only [hm, hx, hy]; simp [h, Result.andThen]
theorem run_entry (hop : o.op = .mapEntry t m x) (hm : a.eval m = mv) (hx : a.eval x = kv) (h : (Instr.mapEntry t mv kv).run P u = .ok v u1) : (execOp a.eval o).run P u = .ok (.value v) u1 := by
  unfold execOp; rw [hop]; simp only [hm, hx]; simp [h, Result.andThen]
theorem run_estore (hop : o.op = .entryStore t m x y) (hm : a.eval m = mv) (hx : a.eval x = kv) (hy : a.eval y = v) (h : (Instr.entryStore t mv kv v).run P u = .ok () u1) : (execOp a.eval o).run P u = .ok .skip u1 := by
  unfold execOp; rw [hop]; simp only [hm, hx, hy]; simp [h, Result.andThen]
theorem run_ext1 {v1 : Value} (hop : o.op = .extract x 1) (hx : a.eval x = .tuple #[v, v1]) : (execOp a.eval o).run P u = .ok (.value v1) u := by
  unfold execOp; rw [hop]; simp only [hx]; rfl
theorem run_inc {c : Int} {T T2 : TypeId} (hop : o.op = .binOp .add T x (.const (.int .i64 1)) T2) (hx : a.eval x = .int .i64 c) (hu : P.underlying T = some (.int .i64)) (h0 : 0 ≤ c) (h1 : c ≤ 1000000000) : (execOp a.eval o).run P u = .ok (.value (.int .i64 (c + 1))) u := by
  have hw := i64_id (x := c + 1) (by omega) (by omega)
  have e1 : a.eval (.const (.int .i64 1)) = .int .i64 1 := rfl
  unfold execOp; rw [hop]; simp only [resolve, hx, e1]
  go_simp
end
end Go.Proofs.Eng
end
section
namespace Go.Proofs.YtgnmjaacnmkgnaaDoor.X
open Go.RowKit Go.Shelf Go.Proofs
set_option linter.unusedVariables false
set_option linter.unusedSimpArgs false
namespace Dc
theorem ints_one (l : List Int) : ∀ u ∈ ints l, u.oneCell' = true := by
  intro u hu
  obtain ⟨x, _, rfl⟩ := List.mem_map.1 hu
  rfl
theorem ints_get1 (l : List Int) (j : Nat) (h : j < l.length) : (ints l)[j * 1]? = some (.int .i64 (l.getD j 0)) := by
  rw [Nat.mul_one]; exact ints_get l j h
end Dc
end Go.Proofs.YtgnmjaacnmkgnaaDoor.X
end
section
namespace Go.Proofs.YtgnmjaacnmkgnaaDoor.X
open Go.RowKit Go.Shelf Go.Proofs
set_option linter.unusedVariables false
set_option linter.unusedSimpArgs false
namespace Dc
def keysI (l : List Int) (m : Nat) : List Int := (List.range m).map fun i => l.getD (2 * i) 0
theorem keysI_succ (l : List Int) (m : Nat) : keysI l (m + 1) = keysI l m ++ [l.getD (2 * m) 0] := by
  unfold keysI; rw [List.range_succ, List.map_append]; rfl
theorem keysI_len (l : List Int) (m : Nat) : (keysI l m).length = m := by unfold keysI; simp
theorem keysI_cons (a b : Int) (t : List Int) (m : Nat) : keysI (a :: b :: t) (m + 1) = a :: keysI t m := by
  unfold keysI
  rw [List.range_succ_eq_map, List.map_cons, List.map_map]
  rfl
theorem keys_end : ∀ (l : List Int) (m : Nat), l.length ≤ 2 * m → 2 * m ≤ l.length + 1 → keysI l m = keysL l
  | [], m, h1, h2 => by
    simp only [List.length_nil] at h2
    obtain rfl : m = 0 := by omega
    rfl
  | [a], m, h1, h2 => by
    simp only [List.length_cons, List.length_nil] at h1 h2
    obtain rfl : m = 1 := by omega
    rfl
  | a :: b :: t, m, h1, h2 => by
    simp only [List.length_cons] at h1 h2
    obtain ⟨m, rfl⟩ : ∃ n, m = n + 1 := ⟨m - 1, by omega⟩
    rw [keysI_cons, keys_end t m (by omega) (by omega)]
    rfl
theorem own_keys {w : World} {B m : Nat} {v : Value} {l : List Int} (O : w.ownsRow B 3 1 v ((keysI l m).length + 1) (ints (keysI l m) ++ [.int .i64 (l.getD (2 * m) 0)])) : w.ownsRow B 3 1 v (keysI l (m + 1)).length (ints (keysI l (m + 1))) := by
  rw [keysI_succ, ints_snoc, List.length_append]; exact O
end Dc
end Go.Proofs.YtgnmjaacnmkgnaaDoor.X
end
