/- Words and walks that the row of ComposeParts needs: printed by programs, and plain laws. -/
import Derived.Test.YtgnmjaacnmkgnaaDoorM6
import Derived.Test.YtgnmjaacnmkgnaaDoorM3
import Derived.Carry
namespace Go.Proofs.YtgnmjaacnmkgnaaDoorW.PrintWords
end Go.Proofs.YtgnmjaacnmkgnaaDoorW.PrintWords
namespace Go.Proofs.YtgnmjaacnmkgnaaDoorW.PrintLast
end Go.Proofs.YtgnmjaacnmkgnaaDoorW.PrintLast
namespace Go.Proofs.YtgnmjaacnmkgnaaDoorW.PrintMore
end Go.Proofs.YtgnmjaacnmkgnaaDoorW.PrintMore
section
namespace Go.Proofs.YtgnmjaacnmkgnaaDoor.X
open Go.RowKit Go.Shelf Go.Proofs Go.Proofs.YtgnmjaacnmkgnaaDoorW.PrintWords Go.Proofs.YtgnmjaacnmkgnaaDoorW.PrintLast Go.Proofs.YtgnmjaacnmkgnaaDoorW.PrintMore
set_option linter.unusedVariables false
set_option linter.unusedSimpArgs false
attribute [local go_sem] max2_int min2_int max_two min_two
set_option maxHeartbeats 4000000 in
set_option maxRecDepth 100000 in
theorem Dc.node_calls (dg mb : Nat) (gv ov : Value) (h : List Dc.NV) (opn : List Int) (names : List (List UInt8 × Int)) (x : Evt.Ev) (w W0 : World) (hB : Below w.heap.size w W0) (hlo : w.heap.size ≤ dg) (hk : W0.heap[dg]? = some (.cells #[gv, ov, .map (some mb)] 64 (0, 0))) (hR : Dc.Rep w.heap.size W0 h opn names gv ov mb) (hsz : x.text.size ≤ 2000) (hasz : x.anchor.size ≤ maxLen) (hnl : names.length ≤ 1000000) (hop : ∀ o ∈ opn, 0 ≤ o ∧ o.toNat < h.length) (hopl : opn.length ≤ 1000000) (hkl : ∀ i, i < h.length → (h.getD i default).1.kids.length ≤ 1000000) : Calls Tryd.prog 57 #[.pointer (some ⟨dg, 0, none⟩), .agg #[.int .i64 x.kind, .string x.anchor, .string x.tag, .string x.text, .bool x.plain]] W0 fun e w' => ∃ h' opn' names' gv' ov', e = .returned (.int .i64 (Dc.nodeF ⟨h.map (·.1), opn, names⟩ x).2) ∧ (⟨h'.map (·.1), opn', names'⟩ : Dc.Dc) = (Dc.nodeF ⟨h.map (·.1), opn, names⟩ x).1 ∧ Dc.St w.heap.size W0 w' dg (Dc.Blk h gv ov mb) h' opn' names' gv' ov' mb ∧ w'.heap[dg]? = some (.cells #[gv', ov', .map (some mb)] 64 (0, 0)) := by
 have hnl1 : names.length ≤ 1000000 := hnl
 refine Eng.enter Tryd.func57 rfl fun act0 d0 s0 v0 => ?_
 have s0 : act0.tmps.size = 77 := s0
 have h0_0 : act0.eval (.tmp 0) = .pointer (some ⟨dg, 0, none⟩) := v0 0 (by simp)
 have h1_0 : act0.eval (.tmp 1) = .agg #[.int .i64 x.kind, .string x.anchor, .string x.tag, .string x.text, .bool x.plain] := v0 1 (by simp)
 clear v0
 refine wp_seq ?_
 refine Eng.regionS (Eng.still [fun u_ => True, fun u_ => u_ = .int .i64 0]) (fun i => ([.alloc 30 #[.int .i64 x.kind, .string x.anchor, .string x.tag, .string x.text, .bool x.plain], .plain] : List Eng.Kind).getD i .plain) 2 0 77 s0 rfl (by kernel_rfl) (Eng.still_stable _) (Or.inr (Eng.still_any _)) ?_ ?_
 ·refine .c ?_ (.c ?_ (.nil))
  ·refine Eng.made rfl (by simp) rfl (fun a w' hd ho => ?_) (fun _ _ => trivial)
   exact Eng.run_box rfl ((ho 1 (by kernel_rfl)).trans h1_0)
  ·exact Eng.pv fun a w' H => Eng.vr rfl (Eng.run_assign rfl (rfl : a.eval (.const (.int .i64 0)) = .int .i64 0))
 intro act1 w1 T
 have h0_1 := T.r 0 h0_0
 have h1_1 := T.r 1 h1_0
 have kdg_1 := (T.below.block _ (Array.getElem?_eq_some_iff.1 hk).1).trans hk
 have ldg_1 := Nat.lt_of_lt_of_le (Array.getElem?_eq_some_iff.1 hk).1 T.below.size
 have Fgr_1 := Eng.Reads.below (Eng.Reads.of_own hR.gr) T.below
 obtain ⟨g3_1, h3_1, rg3_1, lg3_1_1, kg3_1_1⟩ := T.al 0 3 _ _ rfl rfl rfl (by kernel_rfl)
 have ne_g3_1_dg : dg ≠ g3_1 := fun e => Nat.lt_irrefl _ (Nat.lt_of_lt_of_le (e ▸ (Array.getElem?_eq_some_iff.1 hk).1) rg3_1)
 have h4_1 : act1.eval (.tmp 4) = .int .i64 0 := T.done 1 4 rfl rfl
 have d1 := T.defers.trans d0
 have s1 := T.size.trans s0
 have bl1 := hB.trans (T.below.mono hB.size)
 have XX_1 := Dc.St.below (Dc.St.start (dg := dg) hR) T.below
 clear T
 refine Eng.tail_nil ?_
 refine wp_seq ?_
 refine wp_seq ?_
 obtain ⟨q14, Bq14⟩ : ∃ b : Bool, b = (decide (((h.length : Nat) : Int) ≥ 2000)) := ⟨_, rfl⟩
 refine Eng.regionS (Eng.still [fun u_ => u_ = .pointer (some ⟨dg, 0, none⟩), fun u_ => u_ = .pointer (some ⟨dg, 0, none⟩), fun u_ => u_ = .pointer (some ⟨dg, 0, none⟩), fun u_ => u_ = gv, fun u_ => u_ = .int .i64 ((h.length : Nat) : Int), fun u_ => u_ = .bool q14]) (fun _ => .plain) 6 0 77 s1 rfl (by kernel_rfl) (Eng.still_stable _) (Or.inr (Eng.still_any _)) ?_ ?_
 ·refine .c ?_ (.c ?_ (.c ?_ (.c ?_ (.c ?_ (.c ?_ (.nil))))))
  ·exact Eng.pv fun a w' H => Eng.vr rfl (Eng.run_move rfl (H.q 0 h0_1))
  ·exact Eng.pv fun a w' H => Eng.vr rfl (Eng.run_nilb rfl (H.d 0 9))
  ·exact Eng.pv fun a w' H => Eng.vr rfl (Eng.run_fieldb rfl Tryd.underlying64 0 (by kernel_rfl) (H.d 1 10))
  ·exact Eng.pv fun a w' H => Eng.vr rfl (Eng.run_loadb rfl (H.d 2 11) ((H.below.block _ ldg_1).trans kdg_1) rfl (by kernel_rfl))
  ·exact Eng.pv fun a w' H => Eng.vr (v := .int .i64 ((h.length : Nat) : Int)) rfl (Eng.run_len_sl rfl Tryd.underlying48 (show a.eval (.tmp 12) = gv from (H.d 3 12)) (Eng.Reads.below Fgr_1 H.below))
  ·refine Eng.pv fun a w' H => ?_
   refine Eng.vr (v := .bool (decide (((h.length : Nat) : Int) ≥ 2000))) (by show _ = Value.bool q14; rw [Bq14]) ?_
   have e0 : a.eval (.tmp 13) = .int .i64 ((h.length : Nat) : Int) := (H.d 4 13)
   have e1 : a.eval (.const (.int .i64 2000)) = .int .i64 2000 := rfl
   simp only [execOp, resolve, List.map_toArray, List.map_cons, List.map_nil, e0, e1]
   go_simp
 intro act2 w2 T
 have h0_2 := T.r 0 h0_1
 have h1_2 := T.r 1 h1_1
 have h3_2 := T.r 3 h3_1
 have h4_2 := T.r 4 h4_1
 have kdg_2 := (T.below.block _ ldg_1).trans kdg_1
 have ldg_2 := Nat.lt_of_lt_of_le ldg_1 T.below.size
 have kg3_1_2 := (T.below.block _ lg3_1_1).trans kg3_1_1
 have lg3_1_2 := Nat.lt_of_lt_of_le lg3_1_1 T.below.size
 have Fgr_2 := Eng.Reads.below Fgr_1 T.below
 have h14_2 : act2.eval (.tmp 14) = .bool q14 := T.done 5 14 rfl rfl
 have d2 := T.defers.trans d1
 have s2 := T.size.trans s1
 have bl2 := bl1.trans (T.below.mono bl1.size)
 have XX_2 := Dc.St.below XX_1 T.below
 clear T
 refine Eng.tail_nil ?_
 refine wp_cond_split h14_2 (fun hq => ?_) (fun hq => ?_)
 ·
  have c14 := Bq14.symm.trans hq
  clear hq
  have c14 := of_decide_eq_true c14
  have hfull : 2000 ≤ h.length := by omega
  refine wp_seq ?_
  refine Eng.regionS (Eng.still [fun u_ => u_ = .int .i64 16]) (fun _ => .plain) 1 0 77 s2 rfl (by kernel_rfl) (Eng.still_stable _) (Or.inr (Eng.still_any _)) ?_ ?_
  ·refine .c ?_ (.nil)
   ·exact Eng.pv fun a w' H => Eng.vr rfl (Eng.run_assign rfl (rfl : a.eval (.const (.int .i64 16)) = .int .i64 16))
  intro act4 w4 T
  have kdg_4 := (T.below.block _ ldg_2).trans kdg_2
  have h4_4 : act4.eval (.tmp 4) = .int .i64 16 := T.done 0 4 rfl rfl
  have d4 := T.defers.trans d2
  have XX_4 := Dc.St.below XX_2 T.below
  clear T
  refine Eng.tail_nil ?_
  refine wp_ret ?_
  repeat (first | refine Eng.in_ret ?_ | refine Eng.then_ret ?_)
  have e_ : Dc.nodeF ⟨h.map (·.1), opn, names⟩ x = (⟨h.map (·.1), opn, names⟩, 16) := Dc.nodeF_full (by simpa using hfull)
  exact Eng.ret1 rfl d4 h4_4 ⟨h, opn, names, gv, ov, by rw [e_], by rw [e_], XX_4, kdg_4⟩
 ·
  have c14 := Bq14.symm.trans hq
  clear hq
  have c14 := of_decide_eq_false c14
  have hfull : ¬ 2000 ≤ h.length := by omega
  refine wp_skip ?_
  refine wp_seq ?_
  refine Eng.regionS (Eng.still [fun u_ => u_ = .agg #[.int .i64 x.kind, .string x.anchor, .string x.tag, .string x.text, .bool x.plain], fun u_ => u_ = .tuple #[.string ((Evt.tagF x).1), .int .i64 ((Evt.tagF x).2)], fun u_ => u_ = .tuple #[.string ((Evt.tagF x).1), .int .i64 ((Evt.tagF x).2)], fun u_ => u_ = .string ((Evt.tagF x).1), fun u_ => u_ = .int .i64 ((Evt.tagF x).2), fun u_ => u_ = .string ((Evt.tagF x).1), fun u_ => u_ = .int .i64 ((Evt.tagF x).2)]) (fun _ => .plain) 7 0 77 s2 rfl (by kernel_rfl) (Eng.still_stable _) (Or.inr (Eng.still_any _)) ?_ ?_
  ·refine .c ?_ (.c ?_ (.c ?_ (.c ?_ (.c ?_ (.c ?_ (.c ?_ (.nil)))))))
   ·refine Eng.pv fun a w' H => ?_
    have kb := (H.below.block _ lg3_1_2).trans kg3_1_2
    have z0 : w'.cell? ⟨g3_1, 0, none⟩ = some (.int .i64 x.kind) := (Eng.cells kb 0).trans rfl
    have z1 : w'.cell? ⟨g3_1, 1, none⟩ = some (.string x.anchor) := (Eng.cells kb 1).trans rfl
    have z2 : w'.cell? ⟨g3_1, 2, none⟩ = some (.string x.tag) := (Eng.cells kb 2).trans rfl
    have z3 : w'.cell? ⟨g3_1, 3, none⟩ = some (.string x.text) := (Eng.cells kb 3).trans rfl
    have z4 : w'.cell? ⟨g3_1, 4, none⟩ = some (.bool x.plain) := (Eng.cells kb 4).trans rfl
    refine Eng.vr (v := .agg #[.int .i64 x.kind, .string x.anchor, .string x.tag, .string x.text, .bool x.plain]) rfl ?_
    have e0 := (H.q 3 h3_2)
    simp only [execOp, resolve, List.map_toArray, List.map_cons, List.map_nil, e0]
    go_simp
   ·refine Eng.pv fun a w' H => ?_
    refine Eng.call Tryd.func10 (by kernel_rfl) (by kernel_rfl) rfl #[.agg #[.int .i64 x.kind, .string x.anchor, .string x.tag, .string x.text, .bool x.plain]] ?_ ?_
    ·have e0 : a.eval (.tmp 16) = .agg #[.int .i64 x.kind, .string x.anchor, .string x.tag, .string x.text, .bool x.plain] := (H.d 0 16); simp only [List.map_toArray, List.map_cons, List.map_nil, e0]
    refine (Evt.tag_calls x _ hsz).mono ?_
    rintro e w'' ⟨rfl, hb⟩
    exact ⟨_, rfl, rfl, hb⟩
   ·exact Eng.pv fun a w' H => Eng.vr rfl (Eng.run_move rfl (H.d 1 17))
   ·refine Eng.pv fun a w' H => ?_
    refine Eng.vr (v := .string ((Evt.tagF x).1)) rfl ?_
    have e0 : a.eval (.tmp 15) = .tuple #[.string ((Evt.tagF x).1), .int .i64 ((Evt.tagF x).2)] := (H.d 2 15)
    simp only [execOp, resolve, List.map_toArray, List.map_cons, List.map_nil, e0]
    go_simp
   ·refine Eng.pv fun a w' H => ?_
    refine Eng.vr (v := .int .i64 ((Evt.tagF x).2)) rfl ?_
    have e0 : a.eval (.tmp 15) = .tuple #[.string ((Evt.tagF x).1), .int .i64 ((Evt.tagF x).2)] := (H.d 2 15)
    simp only [execOp, resolve, List.map_toArray, List.map_cons, List.map_nil, e0]
    go_simp
   ·exact Eng.pv fun a w' H => Eng.vr rfl (Eng.run_assign rfl (H.d 3 18))
   ·exact Eng.pv fun a w' H => Eng.vr rfl (Eng.run_assign rfl (H.d 4 19))
  intro act6 w6 T
  have h0_6 := T.r 0 h0_2
  have h1_6 := T.r 1 h1_2
  have h3_6 := T.r 3 h3_2
  have h4_6 := T.r 4 h4_2
  have h14_6 := T.r 14 h14_2
  have kdg_6 := (T.below.block _ ldg_2).trans kdg_2
  have ldg_6 := Nat.lt_of_lt_of_le ldg_2 T.below.size
  have kg3_1_6 := (T.below.block _ lg3_1_2).trans kg3_1_2
  have lg3_1_6 := Nat.lt_of_lt_of_le lg3_1_2 T.below.size
  have Fgr_6 := Eng.Reads.below Fgr_2 T.below
  have h5_6 : act6.eval (.tmp 5) = .string ((Evt.tagF x).1) := T.done 5 5 rfl rfl
  have h6_6 : act6.eval (.tmp 6) = .int .i64 ((Evt.tagF x).2) := T.done 6 6 rfl rfl
  have d6 := T.defers.trans d2
  have s6 := T.size.trans s2
  have bl6 := bl2.trans (T.below.mono bl2.size)
  have XX_6 := Dc.St.below XX_2 T.below
  clear T
  refine Eng.tail_nil ?_
  refine wp_seq ?_
  refine wp_seq ?_
  obtain ⟨q21, Bq21⟩ : ∃ b : Bool, b = (!(((Evt.tagF x).2) == 0)) := ⟨_, rfl⟩
  refine Eng.regionS (Eng.still [fun u_ => u_ = .int .i64 ((Evt.tagF x).2), fun u_ => u_ = .bool q21]) (fun _ => .plain) 2 0 77 s6 rfl (by kernel_rfl) (Eng.still_stable _) (Or.inr (Eng.still_any _)) ?_ ?_
  ·refine .c ?_ (.c ?_ (.nil))
   ·exact Eng.pv fun a w' H => Eng.vr rfl (Eng.run_move rfl (H.q 6 h6_6))
   ·refine Eng.pv fun a w' H => ?_
    refine Eng.vr (v := .bool (!(((Evt.tagF x).2) == 0))) (by show _ = Value.bool q21; rw [Bq21]) ?_
    have e0 : a.eval (.tmp 20) = .int .i64 ((Evt.tagF x).2) := (H.d 0 20)
    have e1 : a.eval (.const (.int .i64 0)) = .int .i64 0 := rfl
    simp only [execOp, resolve, List.map_toArray, List.map_cons, List.map_nil, e0, e1]
    go_simp
    all_goals first | rfl | (simp; done) | (rw [Bool.eq_iff_iff]; simp; done) | omega | (split <;> first | (simp_all; done) | (split <;> simp_all; done)) | skip
  intro act7 w7 T
  have h0_7 := T.r 0 h0_6
  have h1_7 := T.r 1 h1_6
  have h3_7 := T.r 3 h3_6
  have h4_7 := T.r 4 h4_6
  have h5_7 := T.r 5 h5_6
  have h6_7 := T.r 6 h6_6
  have h14_7 := T.r 14 h14_6
  have kdg_7 := (T.below.block _ ldg_6).trans kdg_6
  have ldg_7 := Nat.lt_of_lt_of_le ldg_6 T.below.size
  have kg3_1_7 := (T.below.block _ lg3_1_6).trans kg3_1_6
  have lg3_1_7 := Nat.lt_of_lt_of_le lg3_1_6 T.below.size
  have Fgr_7 := Eng.Reads.below Fgr_6 T.below
  have h21_7 : act7.eval (.tmp 21) = .bool q21 := T.done 1 21 rfl rfl
  have d7 := T.defers.trans d6
  have s7 := T.size.trans s6
  have bl7 := bl6.trans (T.below.mono bl6.size)
  have XX_7 := Dc.St.below XX_6 T.below
  clear T
  refine Eng.tail_nil ?_
  refine wp_cond_split h21_7 (fun hq => ?_) (fun hq => ?_)
  ·
   have c21 := Bq21.symm.trans hq
   clear hq
   have htg : ¬ (Evt.tagF x).2 = 0 := by have h1 := c21; simpa using h1
   refine wp_seq ?_
   refine Eng.regionS (Eng.still [fun u_ => u_ = .int .i64 ((Evt.tagF x).2), fun u_ => u_ = .int .i64 ((Evt.tagF x).2)]) (fun _ => .plain) 2 0 77 s7 rfl (by kernel_rfl) (Eng.still_stable _) (Or.inr (Eng.still_any _)) ?_ ?_
   ·refine .c ?_ (.c ?_ (.nil))
    ·exact Eng.pv fun a w' H => Eng.vr rfl (Eng.run_move rfl (H.q 6 h6_7))
    ·exact Eng.pv fun a w' H => Eng.vr rfl (Eng.run_assign rfl (H.d 0 22))
   intro act9 w9 T
   have kdg_9 := (T.below.block _ ldg_7).trans kdg_7
   have h4_9 : act9.eval (.tmp 4) = .int .i64 ((Evt.tagF x).2) := T.done 1 4 rfl rfl
   have d9 := T.defers.trans d7
   have XX_9 := Dc.St.below XX_7 T.below
   clear T
   refine Eng.tail_nil ?_
   refine wp_ret ?_
   repeat (first | refine Eng.in_ret ?_ | refine Eng.then_ret ?_)
   have e_ : Dc.nodeF ⟨h.map (·.1), opn, names⟩ x = (⟨h.map (·.1), opn, names⟩, (Evt.tagF x).2) := Dc.nodeF_tag (by simpa using hfull) htg
   exact Eng.ret1 rfl d9 h4_9 ⟨h, opn, names, gv, ov, by rw [e_], by rw [e_], XX_9, kdg_9⟩
  ·
   have c21 := Bq21.symm.trans hq
   clear hq
   have htg : (Evt.tagF x).2 = 0 := by have h1 := c21; simpa using h1
   refine wp_skip ?_
   refine wp_seq ?_
   refine Eng.regionS (Eng.still [fun u_ => u_ = .pointer (some ⟨dg, 0, none⟩), fun u_ => u_ = .pointer (some ⟨dg, 0, none⟩), fun u_ => u_ = .pointer (some ⟨dg, 0, none⟩), fun u_ => u_ = gv, fun u_ => u_ = .int .i64 ((h.length : Nat) : Int), fun u_ => u_ = .int .i64 ((h.length : Nat) : Int)]) (fun _ => .plain) 6 0 77 s7 rfl (by kernel_rfl) (Eng.still_stable _) (Or.inr (Eng.still_any _)) ?_ ?_
   ·refine .c ?_ (.c ?_ (.c ?_ (.c ?_ (.c ?_ (.c ?_ (.nil))))))
    ·exact Eng.pv fun a w' H => Eng.vr rfl (Eng.run_move rfl (H.q 0 h0_7))
    ·exact Eng.pv fun a w' H => Eng.vr rfl (Eng.run_nilb rfl (H.d 0 23))
    ·exact Eng.pv fun a w' H => Eng.vr rfl (Eng.run_fieldb rfl Tryd.underlying64 0 (by kernel_rfl) (H.d 1 24))
    ·exact Eng.pv fun a w' H => Eng.vr rfl (Eng.run_loadb rfl (H.d 2 25) ((H.below.block _ ldg_7).trans kdg_7) rfl (by kernel_rfl))
    ·exact Eng.pv fun a w' H => Eng.vr (v := .int .i64 ((h.length : Nat) : Int)) rfl (Eng.run_len_sl rfl Tryd.underlying48 (show a.eval (.tmp 26) = gv from (H.d 3 26)) (Eng.Reads.below Fgr_7 H.below))
    ·exact Eng.pv fun a w' H => Eng.vr rfl (Eng.run_assign rfl (H.d 4 27))
   intro act11 w11 T
   have h0_11 := T.r 0 h0_7
   have h1_11 := T.r 1 h1_7
   have h3_11 := T.r 3 h3_7
   have h4_11 := T.r 4 h4_7
   have h5_11 := T.r 5 h5_7
   have h6_11 := T.r 6 h6_7
   have h14_11 := T.r 14 h14_7
   have h21_11 := T.r 21 h21_7
   have kdg_11 := (T.below.block _ ldg_7).trans kdg_7
   have ldg_11 := Nat.lt_of_lt_of_le ldg_7 T.below.size
   have kg3_1_11 := (T.below.block _ lg3_1_7).trans kg3_1_7
   have lg3_1_11 := Nat.lt_of_lt_of_le lg3_1_7 T.below.size
   have h7_11 : act11.eval (.tmp 7) = .int .i64 ((h.length : Nat) : Int) := T.done 5 7 rfl rfl
   have d11 := T.defers.trans d7
   have s11 := T.size.trans s7
   have bl11 := bl7.trans (T.below.mono bl7.size)
   have XX_11 := Dc.St.below XX_7 T.below
   clear T
   refine Eng.tail_nil ?_
   refine wp_seq ?_
   refine Eng.regionS (Eng.still [fun u_ => u_ = .string ((Evt.tagF x).1), fun u_ => u_ = .pointer (some ⟨g3_1, 3, none⟩), fun u_ => u_ = .string x.text, fun u_ => u_ = .agg #[.int .i64 0, .string ((Evt.tagF x).1), .string x.text, .slice none 0 0], fun u_ => True, fun u_ => True]) (fun i => ([.plain, .plain, .plain, .plain, .alloc 57 #[.int .i64 0, .string ⟨#[]⟩, .string ⟨#[]⟩, .slice none 0 0], .store 4 #[.int .i64 0, .string ((Evt.tagF x).1), .string x.text, .slice none 0 0]] : List Eng.Kind).getD i .plain) 6 0 77 s11 rfl (by kernel_rfl) (Eng.still_stable _) (Or.inr (Eng.still_any _)) ?_ ?_
   ·refine .c ?_ (.c ?_ (.c ?_ (.c ?_ (.c ?_ (.c ?_ (.nil))))))
    ·exact Eng.pv fun a w' H => Eng.vr rfl (Eng.run_move rfl (H.q 5 h5_11))
    ·exact Eng.pv fun a w' H => Eng.vr rfl (Eng.run_fieldb rfl Tryd.underlying30 3 (by kernel_rfl) (H.q 3 h3_11))
    ·exact Eng.pv fun a w' H => Eng.vr rfl (Eng.run_loadb rfl (H.d 1 29) ((H.below.block _ lg3_1_11).trans kg3_1_11) rfl (by kernel_rfl))
    ·refine Eng.pv fun a w' H => ?_
     refine Eng.vr (v := .agg #[.int .i64 0, .string ((Evt.tagF x).1), .string x.text, .slice none 0 0]) rfl ?_
     have e0 : a.eval (.tmp 28) = .string ((Evt.tagF x).1) := (H.d 0 28)
     have e1 : a.eval (.tmp 30) = .string x.text := (H.d 2 30)
     simp only [execOp, resolve, List.map_toArray, List.map_cons, List.map_nil, e0, e1]
     go_simp
    ·refine Eng.made rfl (by simp) rfl (fun a w' hd ho => ?_) (fun _ _ => trivial)
     simp only [execOp]
     go_simp
    ·refine Eng.stored [.int .i64 0, .string ((Evt.tagF x).1), .string x.text, .slice none 0 0] rfl rfl rfl (j := 4) (d := 8) (by kernel_rfl) rfl rfl (Eng.store_uniq (by kernel_rfl)) rfl rfl fun a w' g e hc hd ho => ?_
     have e0 : a.eval _ = .agg #[.int .i64 0, .string ((Evt.tagF x).1), .string x.text, .slice none 0 0] := (hd 3 31 (by kernel_rfl) rfl)
     have z0 := (Eng.cells hc 0).trans rfl
     have z1 := (Eng.cells hc 1).trans rfl
     have z2 := (Eng.cells hc 2).trans rfl
     have z3 := (Eng.cells hc 3).trans rfl
     have f0 := Eng.unfrozen hc 0
     have f1 := Eng.unfrozen hc 1
     have f2 := Eng.unfrozen hc 2
     have f3 := Eng.unfrozen hc 3
     simp only [execOp, e, e0]
     go_simp
     rfl
   intro act12 w12 T
   have h0_12 := T.r 0 h0_11
   have h1_12 := T.r 1 h1_11
   have h3_12 := T.r 3 h3_11
   have h4_12 := T.r 4 h4_11
   have h5_12 := T.r 5 h5_11
   have h6_12 := T.r 6 h6_11
   have h7_12 := T.r 7 h7_11
   have h14_12 := T.r 14 h14_11
   have h21_12 := T.r 21 h21_11
   have kdg_12 := (T.below.block _ ldg_11).trans kdg_11
   have ldg_12 := Nat.lt_of_lt_of_le ldg_11 T.below.size
   have kg3_1_12 := (T.below.block _ lg3_1_11).trans kg3_1_11
   have lg3_1_12 := Nat.lt_of_lt_of_le lg3_1_11 T.below.size
   obtain ⟨g8_12, h8_12, rg8_12, lg8_12_12, kg8_12_12⟩ := T.st 4 8 5 _ _ _ rfl rfl rfl rfl rfl
   have og8_12 : w.heap.size ≤ g8_12 := Nat.le_trans bl11.size rg8_12
   have ne_g8_12_dg : dg ≠ g8_12 := fun e => Nat.lt_irrefl _ (Nat.lt_of_lt_of_le (e ▸ ldg_11) rg8_12)
   have ne_g8_12_g3_1 : g3_1 ≠ g8_12 := fun e => Nat.lt_irrefl _ (Nat.lt_of_lt_of_le (e ▸ lg3_1_11) rg8_12)
   have d12 := T.defers.trans d11
   have s12 := T.size.trans s11
   have bl12 := bl11.trans (T.below.mono bl11.size)
   have XX_12 := Dc.St.below XX_11 T.below
   clear T
   have ap8 : ¬ Dc.Blk h gv ov mb g8_12 := fun hb => Nat.lt_irrefl _ (Nat.lt_of_lt_of_le (XX_11.R.lt hb).2 rg8_12)
   have nw8 : W0.heap.size ≤ g8_12 := Nat.le_trans XX_11.A.size rg8_12
   refine Eng.tail_nil ?_
   refine wp_seq ?_
   refine wp_seq ?_
   refine Eng.regionS (Eng.still [fun u_ => u_ = .pointer (some ⟨g3_1, 0, none⟩), fun u_ => u_ = .int .i64 x.kind]) (fun _ => .plain) 2 0 77 s12 rfl (by kernel_rfl) (Eng.still_stable _) (Or.inr (Eng.still_any _)) ?_ ?_
   ·refine .c ?_ (.c ?_ (.nil))
    ·exact Eng.pv fun a w' H => Eng.vr rfl (Eng.run_fieldb rfl Tryd.underlying30 0 (by kernel_rfl) (H.q 3 h3_12))
    ·exact Eng.pv fun a w' H => Eng.vr rfl (Eng.run_loadb rfl (H.d 0 32) ((H.below.block _ lg3_1_12).trans kg3_1_12) rfl (by kernel_rfl))
   intro act13 w13 T
   have h0_13 := T.r 0 h0_12
   have h1_13 := T.r 1 h1_12
   have h3_13 := T.r 3 h3_12
   have h4_13 := T.r 4 h4_12
   have h5_13 := T.r 5 h5_12
   have h6_13 := T.r 6 h6_12
   have h7_13 := T.r 7 h7_12
   have h8_13 := T.r 8 h8_12
   have h14_13 := T.r 14 h14_12
   have h21_13 := T.r 21 h21_12
   have kdg_13 := (T.below.block _ ldg_12).trans kdg_12
   have ldg_13 := Nat.lt_of_lt_of_le ldg_12 T.below.size
   have kg3_1_13 := (T.below.block _ lg3_1_12).trans kg3_1_12
   have lg3_1_13 := Nat.lt_of_lt_of_le lg3_1_12 T.below.size
   have kg8_12_13 := (T.below.block _ lg8_12_12).trans kg8_12_12
   have lg8_12_13 := Nat.lt_of_lt_of_le lg8_12_12 T.below.size
   have h33_13 : act13.eval (.tmp 33) = .int .i64 x.kind := T.done 1 33 rfl rfl
   have d13 := T.defers.trans d12
   have s13 := T.size.trans s12
   have bl13 := bl12.trans (T.below.mono bl12.size)
   have XX_13 := Dc.St.below XX_12 T.below
   clear T
   refine Eng.tail_nil ?_
   refine Eng.join (fun a w' => ∃ (K : Int), (Dc.kindN x.kind = K) ∧ (Dc.St w.heap.size W0 w' dg (Dc.Blk h gv ov mb) h opn names gv ov mb) ∧ a.defers = [] ∧ a.tmps.size = 77 ∧ Below w.heap.size w w' ∧ a.eval (.tmp 0) = .pointer (some ⟨dg, 0, none⟩) ∧ a.eval (.tmp 1) = .agg #[.int .i64 x.kind, .string x.anchor, .string x.tag, .string x.text, .bool x.plain] ∧ a.eval (.tmp 3) = .pointer (some ⟨g3_1, 0, none⟩) ∧ a.eval (.tmp 4) = .int .i64 0 ∧ a.eval (.tmp 5) = .string ((Evt.tagF x).1) ∧ a.eval (.tmp 6) = .int .i64 ((Evt.tagF x).2) ∧ a.eval (.tmp 7) = .int .i64 ((h.length : Nat) : Int) ∧ a.eval (.tmp 8) = .pointer (some ⟨g8_12, 0, none⟩) ∧ a.eval (.tmp 14) = .bool q14 ∧ a.eval (.tmp 21) = .bool q21 ∧ a.eval (.tmp 33) = .int .i64 x.kind ∧ w'.heap[dg]? = some (.cells (#[gv, ov, .map (some mb)]) 64 (0, 0)) ∧ dg < w'.heap.size ∧ w'.heap[g3_1]? = some (.cells (#[.int .i64 x.kind, .string x.anchor, .string x.tag, .string x.text, .bool x.plain]) 30 (0, 0)) ∧ g3_1 < w'.heap.size ∧ w'.heap[g8_12]? = some (.cells (#[.int .i64 K, .string ((Evt.tagF x).1), .string x.text, .slice none 0 0]) 57 (0, 0)) ∧ g8_12 < w'.heap.size) ?_ ?_
   ·
    refine wp_block ?_
    refine wp_seq ?_
    obtain ⟨q35, Bq35⟩ : ∃ b : Bool, b = (x.kind == 2) := ⟨_, rfl⟩
    refine Eng.regionS (Eng.still [fun u_ => u_ = .bool q35, fun u_ => u_ = .bool q35]) (fun _ => .plain) 2 0 77 s13 rfl (by kernel_rfl) (Eng.still_stable _) (Or.inr (Eng.still_any _)) ?_ ?_
    ·refine .c ?_ (.c ?_ (.nil))
     ·refine Eng.pv fun a w' H => ?_
      refine Eng.vr (v := .bool (x.kind == 2)) (by show _ = Value.bool q35; rw [Bq35]) ?_
      have e0 := (H.q 33 h33_13)
      have e1 : a.eval (.const (.int .i64 2)) = .int .i64 2 := rfl
      simp only [execOp, resolve, List.map_toArray, List.map_cons, List.map_nil, e0, e1]
      go_simp
     ·exact Eng.pv fun a w' H => Eng.vr rfl (Eng.run_assign rfl (H.d 0 35))
    intro act14 w14 T
    have h0_14 := T.r 0 h0_13
    have h1_14 := T.r 1 h1_13
    have h3_14 := T.r 3 h3_13
    have h4_14 := T.r 4 h4_13
    have h5_14 := T.r 5 h5_13
    have h6_14 := T.r 6 h6_13
    have h7_14 := T.r 7 h7_13
    have h8_14 := T.r 8 h8_13
    have h14_14 := T.r 14 h14_13
    have h21_14 := T.r 21 h21_13
    have h33_14 := T.r 33 h33_13
    have kdg_14 := (T.below.block _ ldg_13).trans kdg_13
    have ldg_14 := Nat.lt_of_lt_of_le ldg_13 T.below.size
    have kg3_1_14 := (T.below.block _ lg3_1_13).trans kg3_1_13
    have lg3_1_14 := Nat.lt_of_lt_of_le lg3_1_13 T.below.size
    have kg8_12_14 := (T.below.block _ lg8_12_13).trans kg8_12_13
    have lg8_12_14 := Nat.lt_of_lt_of_le lg8_12_13 T.below.size
    have h34_14 : act14.eval (.tmp 34) = .bool q35 := T.done 1 34 rfl rfl
    have d14 := T.defers.trans d13
    have s14 := T.size.trans s13
    have bl14 := bl13.trans (T.below.mono bl13.size)
    have XX_14 := Dc.St.below XX_13 T.below
    clear T
    refine Eng.tail_nil ?_
    refine wp_cond_split h34_14 (fun hq => ?_) (fun hq => ?_)
    ·
     have c34 := Bq35.symm.trans hq
     clear hq
     have hk2 : x.kind = 2 := by simpa using c34
     refine Eng.regionS (Eng.still [fun u_ => u_ = .pointer (some ⟨g8_12, 0, none⟩)]) (fun _ => .plain) 1 1 77 s14 rfl (by kernel_rfl) (Eng.still_stable _) (Or.inr (Eng.still_any _)) ?_ ?_
     ·refine .c ?_ (.cons (fun h => absurd h (by decide)) (.nil))
      ·exact Eng.pv fun a w' H => Eng.vr rfl (Eng.run_fieldb rfl Tryd.underlying57 0 (by kernel_rfl) (H.q 8 h8_14))
     intro act16 w16 T
     have h0_16 := T.r 0 h0_14
     have h1_16 := T.r 1 h1_14
     have h3_16 := T.r 3 h3_14
     have h4_16 := T.r 4 h4_14
     have h5_16 := T.r 5 h5_14
     have h6_16 := T.r 6 h6_14
     have h7_16 := T.r 7 h7_14
     have h8_16 := T.r 8 h8_14
     have h14_16 := T.r 14 h14_14
     have h21_16 := T.r 21 h21_14
     have h33_16 := T.r 33 h33_14
     have kdg_16 := (T.below.block _ ldg_14).trans kdg_14
     have ldg_16 := Nat.lt_of_lt_of_le ldg_14 T.below.size
     have kg3_1_16 := (T.below.block _ lg3_1_14).trans kg3_1_14
     have lg3_1_16 := Nat.lt_of_lt_of_le lg3_1_14 T.below.size
     have kg8_12_16 := (T.below.block _ lg8_12_14).trans kg8_12_14
     have lg8_12_16 := Nat.lt_of_lt_of_le lg8_12_14 T.below.size
     have h36_16 : act16.eval (.tmp 36) = .pointer (some ⟨g8_12, 0, none⟩) := T.done 0 36 rfl rfl
     have d16 := T.defers.trans d14
     have s16 := T.size.trans s14
     have bl16 := bl14.trans (T.below.mono bl14.size)
     have XX_16 := Dc.St.below XX_14 T.below
     clear T
     refine Eng.tail_set (n := 0) (v := .int .i64 1) (new := #[.int .i64 1, .string ((Evt.tagF x).1), .string x.text, .slice none 0 0]) rfl rfl rfl kg8_12_16 rfl ?_ fun w17 S => ?_
     ·have e0 : act16.eval (.tmp 36) = .pointer (some ⟨g8_12, 0, none⟩) := h36_16
      have e1 : act16.eval (.const (.int .i64 1)) = .int .i64 1 := rfl
      have z0 := (Eng.cells kg8_12_16 (0)).trans (rfl)
      have f0 := Eng.unfrozen kg8_12_16 (0)
      simp only [execOp]
      rw [e0, e1]
      go_simp
     have kdg_17 := (S.far _ ne_g8_12_dg).trans kdg_16
     have ldg_17 := Nat.lt_of_lt_of_eq ldg_16 S.size.symm
     have kg3_1_17 := (S.far _ ne_g8_12_g3_1).trans kg3_1_16
     have lg3_1_17 := Nat.lt_of_lt_of_eq lg3_1_16 S.size.symm
     have kg8_12_17 := S.new
     have lg8_12_17 := Nat.lt_of_lt_of_eq lg8_12_16 S.size.symm
     have bl17 := S.below bl16 og8_12
     have XX_17 := Dc.St.setx XX_16 S ap8 nw8
     clear S
     refine Eng.tail_nil ?_
     exact ⟨1, Dc.kindN_2 hk2, XX_17, d16, s16, bl17, h0_16, h1_16, h3_16, h4_16, h5_16, h6_16, h7_16, h8_16, h14_16, h21_16, h33_16, kdg_17, ldg_17, kg3_1_17, lg3_1_17, kg8_12_17, lg8_12_17⟩
    ·
     have c34 := Bq35.symm.trans hq
     clear hq
     have hk2 : ¬ x.kind = 2 := by simpa using c34
     refine wp_seq ?_
     obtain ⟨q38, Bq38⟩ : ∃ b : Bool, b = (x.kind == 4) := ⟨_, rfl⟩
     refine Eng.regionS (Eng.still [fun u_ => u_ = .bool q38, fun u_ => u_ = .bool q38]) (fun _ => .plain) 2 0 77 s14 rfl (by kernel_rfl) (Eng.still_stable _) (Or.inr (Eng.still_any _)) ?_ ?_
     ·refine .c ?_ (.c ?_ (.nil))
      ·refine Eng.pv fun a w' H => ?_
       refine Eng.vr (v := .bool (x.kind == 4)) (by show _ = Value.bool q38; rw [Bq38]) ?_
       have e0 := (H.q 33 h33_14)
       have e1 : a.eval (.const (.int .i64 4)) = .int .i64 4 := rfl
       simp only [execOp, resolve, List.map_toArray, List.map_cons, List.map_nil, e0, e1]
       go_simp
      ·exact Eng.pv fun a w' H => Eng.vr rfl (Eng.run_assign rfl (H.d 0 38))
     intro act19 w19 T
     have h0_19 := T.r 0 h0_14
     have h1_19 := T.r 1 h1_14
     have h3_19 := T.r 3 h3_14
     have h4_19 := T.r 4 h4_14
     have h5_19 := T.r 5 h5_14
     have h6_19 := T.r 6 h6_14
     have h7_19 := T.r 7 h7_14
     have h8_19 := T.r 8 h8_14
     have h14_19 := T.r 14 h14_14
     have h21_19 := T.r 21 h21_14
     have h33_19 := T.r 33 h33_14
     have kdg_19 := (T.below.block _ ldg_14).trans kdg_14
     have ldg_19 := Nat.lt_of_lt_of_le ldg_14 T.below.size
     have kg3_1_19 := (T.below.block _ lg3_1_14).trans kg3_1_14
     have lg3_1_19 := Nat.lt_of_lt_of_le lg3_1_14 T.below.size
     have kg8_12_19 := (T.below.block _ lg8_12_14).trans kg8_12_14
     have lg8_12_19 := Nat.lt_of_lt_of_le lg8_12_14 T.below.size
     have h37_19 : act19.eval (.tmp 37) = .bool q38 := T.done 1 37 rfl rfl
     have d19 := T.defers.trans d14
     have s19 := T.size.trans s14
     have bl19 := bl14.trans (T.below.mono bl14.size)
     have XX_19 := Dc.St.below XX_14 T.below
     clear T
     refine Eng.tail_nil ?_
     refine wp_cond_split h37_19 (fun hq => ?_) (fun hq => ?_)
     ·
      have c37 := Bq38.symm.trans hq
      clear hq
      have hk4 : x.kind = 4 := by simpa using c37
      refine Eng.regionS (Eng.still [fun u_ => u_ = .pointer (some ⟨g8_12, 0, none⟩)]) (fun _ => .plain) 1 1 77 s19 rfl (by kernel_rfl) (Eng.still_stable _) (Or.inr (Eng.still_any _)) ?_ ?_
      ·refine .c ?_ (.cons (fun h => absurd h (by decide)) (.nil))
       ·exact Eng.pv fun a w' H => Eng.vr rfl (Eng.run_fieldb rfl Tryd.underlying57 0 (by kernel_rfl) (H.q 8 h8_19))
      intro act21 w21 T
      have h0_21 := T.r 0 h0_19
      have h1_21 := T.r 1 h1_19
      have h3_21 := T.r 3 h3_19
      have h4_21 := T.r 4 h4_19
      have h5_21 := T.r 5 h5_19
      have h6_21 := T.r 6 h6_19
      have h7_21 := T.r 7 h7_19
      have h8_21 := T.r 8 h8_19
      have h14_21 := T.r 14 h14_19
      have h21_21 := T.r 21 h21_19
      have h33_21 := T.r 33 h33_19
      have kdg_21 := (T.below.block _ ldg_19).trans kdg_19
      have ldg_21 := Nat.lt_of_lt_of_le ldg_19 T.below.size
      have kg3_1_21 := (T.below.block _ lg3_1_19).trans kg3_1_19
      have lg3_1_21 := Nat.lt_of_lt_of_le lg3_1_19 T.below.size
      have kg8_12_21 := (T.below.block _ lg8_12_19).trans kg8_12_19
      have lg8_12_21 := Nat.lt_of_lt_of_le lg8_12_19 T.below.size
      have h39_21 : act21.eval (.tmp 39) = .pointer (some ⟨g8_12, 0, none⟩) := T.done 0 39 rfl rfl
      have d21 := T.defers.trans d19
      have s21 := T.size.trans s19
      have bl21 := bl19.trans (T.below.mono bl19.size)
      have XX_21 := Dc.St.below XX_19 T.below
      clear T
      refine Eng.tail_set (n := 0) (v := .int .i64 2) (new := #[.int .i64 2, .string ((Evt.tagF x).1), .string x.text, .slice none 0 0]) rfl rfl rfl kg8_12_21 rfl ?_ fun w22 S => ?_
      ·have e0 : act21.eval (.tmp 39) = .pointer (some ⟨g8_12, 0, none⟩) := h39_21
       have e1 : act21.eval (.const (.int .i64 2)) = .int .i64 2 := rfl
       have z0 := (Eng.cells kg8_12_21 (0)).trans (rfl)
       have f0 := Eng.unfrozen kg8_12_21 (0)
       simp only [execOp]
       rw [e0, e1]
       go_simp
      have kdg_22 := (S.far _ ne_g8_12_dg).trans kdg_21
      have ldg_22 := Nat.lt_of_lt_of_eq ldg_21 S.size.symm
      have kg3_1_22 := (S.far _ ne_g8_12_g3_1).trans kg3_1_21
      have lg3_1_22 := Nat.lt_of_lt_of_eq lg3_1_21 S.size.symm
      have kg8_12_22 := S.new
      have lg8_12_22 := Nat.lt_of_lt_of_eq lg8_12_21 S.size.symm
      have bl22 := S.below bl21 og8_12
      have XX_22 := Dc.St.setx XX_21 S ap8 nw8
      clear S
      refine Eng.tail_nil ?_
      exact ⟨2, Dc.kindN_4 hk2 hk4, XX_22, d21, s21, bl22, h0_21, h1_21, h3_21, h4_21, h5_21, h6_21, h7_21, h8_21, h14_21, h21_21, h33_21, kdg_22, ldg_22, kg3_1_22, lg3_1_22, kg8_12_22, lg8_12_22⟩
     ·
      have c37 := Bq38.symm.trans hq
      clear hq
      have hk4 : ¬ x.kind = 4 := by simpa using c37
      refine wp_skip ?_
      exact ⟨0, Dc.kindN_0 hk2 hk4, XX_19, d19, s19, bl19, h0_19, h1_19, h3_19, h4_19, h5_19, h6_19, h7_19, h8_19, h14_19, h21_19, h33_19, kdg_19, ldg_19, kg3_1_19, lg3_1_19, kg8_12_19, lg8_12_19⟩
   rintro act24 w24 ⟨K, hj0_24, hj1_24, d24, s24, bl24, h0_24, h1_24, h3_24, h4_24, h5_24, h6_24, h7_24, h8_24, h14_24, h21_24, h33_24, kdg_24, ldg_24, kg3_1_24, lg3_1_24, kg8_12_24, lg8_12_24⟩
   have hK := hj0_24
   have Ogr_24 := hj1_24.R.gr
   refine wp_seq ?_
   refine Eng.regionDE 7 0 (Eng.tell [.still fun u_ => u_ = .pointer (some ⟨dg, 0, none⟩), .still fun u_ => u_ = .pointer (some ⟨dg, 0, none⟩), .still fun u_ => u_ = .pointer (some ⟨dg, 0, none⟩), .still fun u_ => u_ = .pointer (some ⟨dg, 0, none⟩), .still fun u_ => u_ = gv, .still fun u_ => u_ = .agg #[.int .i64 K, .string ((Evt.tagF x).1), .string x.text, .slice none 0 0], Eng.Tl.reads 1 4 [.int .i64 K, .string ((Evt.tagF x).1), .string x.text, .slice none 0 0]]) (fun i => ([.plain, .plain, .plain, .plain, .plain, .plain, .plain] : List Eng.Kind).getD i .plain) 7 4 77 (by kernel_rfl) s24 rfl (by kernel_rfl) rfl rfl rfl rfl (by kernel_rfl) (by kernel_rfl) (by kernel_rfl) (by kernel_rfl) (fun _ _ _ _ h => h) (Eng.tell_stable _) (Or.inl (Eng.no_stores (by kernel_rfl))) ?_ ?_
   ·refine .c ?_ (.c ?_ (.c ?_ (.c ?_ (.c ?_ (.c ?_ (.c ?_ (.cons (fun h => absurd h (by decide)) (.cons (fun h => absurd h (by decide)) (.cons (fun h => absurd h (by decide)) (.cons (fun h => absurd h (by decide)) (.nil)))))))))))
    ·exact Eng.pv fun a w' H => Eng.vr (v := .pointer (some ⟨dg, 0, none⟩)) rfl (Eng.run_move rfl (H.q 0 h0_24))
    ·exact Eng.pv fun a w' H => Eng.vr (v := .pointer (some ⟨dg, 0, none⟩)) rfl (Eng.run_move rfl (H.q 0 h0_24))
    ·exact Eng.pv fun a w' H => Eng.vr (v := .pointer (some ⟨dg, 0, none⟩)) rfl (Eng.run_nilb rfl (H.d 1 41))
    ·exact Eng.pv fun a w' H => Eng.vr (v := .pointer (some ⟨dg, 0, none⟩)) rfl (Eng.run_fieldb rfl Tryd.underlying64 0 (by kernel_rfl) (H.d 2 42))
    ·exact Eng.pv fun a w' H => Eng.vr (v := gv) rfl (Eng.run_loadb rfl (H.d 3 43) ((H.below.block _ ldg_24).trans kdg_24) rfl (by kernel_rfl))
    ·refine Eng.pv fun a w' H => ?_
     have kb := (H.below.block _ lg8_12_24).trans kg8_12_24
     have z0 : w'.cell? ⟨g8_12, 0, none⟩ = some (.int .i64 K) := (Eng.cells kb 0).trans rfl
     have z1 : w'.cell? ⟨g8_12, 1, none⟩ = some (.string ((Evt.tagF x).1)) := (Eng.cells kb 1).trans rfl
     have z2 : w'.cell? ⟨g8_12, 2, none⟩ = some (.string x.text) := (Eng.cells kb 2).trans rfl
     have z3 : w'.cell? ⟨g8_12, 3, none⟩ = some (.slice none 0 0) := (Eng.cells kb 3).trans rfl
     refine Eng.vr (v := .agg #[.int .i64 K, .string ((Evt.tagF x).1), .string x.text, .slice none 0 0]) rfl ?_
     have e0 := (H.q 8 h8_24)
     simp only [execOp, resolve, List.map_toArray, List.map_cons, List.map_nil, e0]
     go_simp
    ·refine Eng.pv fun a w' H => ?_
     refine Eng.val_ex (Eng.run_build1I (size := 4) (z := .agg #[.int .i64 0, .string ⟨#[]⟩, .string ⟨#[]⟩, .slice none 0 0]) [.int .i64 K, .string ((Evt.tagF x).1), .string x.text, .slice none 0 0] rfl Tryd.underlying48 (by kernel_rfl) rfl rfl rfl (by kernel_rfl) (show a.eval (.tmp 45) = .agg #[.int .i64 K, .string ((Evt.tagF x).1), .string x.text, .slice none 0 0] from (H.d 5 45))) fun v1 w'' R => ?_
     obtain ⟨F, hb⟩ := R
     exact ⟨hb, F⟩
   intro act25 w25 T
   have h0_25 := T.r 0 h0_24
   have h1_25 := T.r 1 h1_24
   have h3_25 := T.r 3 h3_24
   have h4_25 := T.r 4 h4_24
   have h5_25 := T.r 5 h5_24
   have h6_25 := T.r 6 h6_24
   have h7_25 := T.r 7 h7_24
   have h8_25 := T.r 8 h8_24
   have h14_25 := T.r 14 h14_24
   have h21_25 := T.r 21 h21_24
   have h33_25 := T.r 33 h33_24
   have kdg_25 := (T.below.block _ ldg_24).trans kdg_24
   have ldg_25 := Nat.lt_of_lt_of_le ldg_24 T.below.size
   have kg3_1_25 := (T.below.block _ lg3_1_24).trans kg3_1_24
   have lg3_1_25 := Nat.lt_of_lt_of_le lg3_1_24 T.below.size
   have kg8_12_25 := (T.below.block _ lg8_12_24).trans kg8_12_24
   have lg8_12_25 := Nat.lt_of_lt_of_le lg8_12_24 T.below.size
   have Ogr_25 := Eng.own_below Ogr_24 T.below
   have h40_25 : act25.eval (.tmp 40) = .pointer (some ⟨dg, 0, none⟩) := T.done 0 40 rfl rfl
   have h44_25 : act25.eval (.tmp 44) = gv := T.done 4 44 rfl rfl
   have OO46_25 := T.done 6 46 rfl rfl
   obtain ⟨v46_25, h46_25⟩ : ∃ v, act25.eval (.tmp 46) = v := ⟨_, rfl⟩
   have d25 := T.defers.trans d24
   have s25 := T.size.trans s24
   have bl25 := bl24.trans (T.below.mono bl24.size)
   have XX_25 := Dc.St.below hj1_24 T.below
   have OP46_25 : Eng.Reads w25 v46_25 1 4 [.int .i64 K, .string ((Evt.tagF x).1), .string x.text, .slice none 0 0] := by rw [← h46_25]; exact OO46_25
   clear OO46_25
   clear T
   refine Eng.tail_ex rfl rfl rfl (Eng.run_appendI (z := .agg #[.int .i64 0, .string ⟨#[]⟩, .string ⟨#[]⟩, .slice none 0 0]) rfl Tryd.underlying48 (by kernel_rfl) rfl rfl h44_25 Ogr_25 h46_25 OP46_25 (by intro u hu; simp only [List.mem_cons, List.not_mem_nil, or_false] at hu; rcases hu with rfl | rfl | rfl | rfl <;> rfl) (by omega) bl25.size) s25 rfl fun v_26 w26 act26 R d26 s26 hv hr => ?_
   obtain ⟨O_26, _, b_26, G_26, EO_26⟩ := R
   have h0_26 := (hr 0 rfl).trans h0_25
   have h1_26 := (hr 1 rfl).trans h1_25
   have h3_26 := (hr 3 rfl).trans h3_25
   have h4_26 := (hr 4 rfl).trans h4_25
   have h5_26 := (hr 5 rfl).trans h5_25
   have h6_26 := (hr 6 rfl).trans h6_25
   have h7_26 := (hr 7 rfl).trans h7_25
   have h8_26 := (hr 8 rfl).trans h8_25
   have h14_26 := (hr 14 rfl).trans h14_25
   have h21_26 := (hr 21 rfl).trans h21_25
   have h33_26 := (hr 33 rfl).trans h33_25
   have h40_26 := (hr 40 rfl).trans h40_25
   have h47_26 : act26.eval (.tmp 47) = v_26 := hv
   have d26 := d26.trans d25
   clear hv hr
   have kdg_26 := (G_26.block _ ldg_25 (Eng.own_ne Ogr_25 kdg_25 rfl)).trans kdg_25
   have ldg_26 := Nat.lt_of_lt_of_le ldg_25 G_26.size
   have kg3_1_26 := (G_26.block _ lg3_1_25 (Eng.own_ne Ogr_25 kg3_1_25 rfl)).trans kg3_1_25
   have lg3_1_26 := Nat.lt_of_lt_of_le lg3_1_25 G_26.size
   have kg8_12_26 := (G_26.block _ lg8_12_25 (fun e => ap8 (.inl e))).trans kg8_12_25
   have lg8_12_26 := Nat.lt_of_lt_of_le lg8_12_25 G_26.size
   have XX_26 := Dc.St.snoc XX_25 (⟨K, (Evt.tagF x).1, x.text, []⟩ : Dc.Nd) rfl O_26 G_26 EO_26
   have bl26 := bl25.trans b_26
   obtain ⟨hh26, eh26⟩ : ∃ l : List Dc.NV, l = (h ++ [((⟨K, (Evt.tagF x).1, x.text, []⟩ : Dc.Nd), Value.slice none 0 0)]) := ⟨_, rfl⟩
   rw [← eh26] at XX_26
   have ap8_26 := Dc.ap_snoc (n := (⟨K, (Evt.tagF x).1, x.text, []⟩ : Dc.Nd)) ap8 lg8_12_25 EO_26
   rw [← eh26] at ap8_26
   have Oa26 : w26.ownsRow w.heap.size 57 4 v_26 hh26.length (Dc.cells hh26) := XX_26.R.gr
   have Fa26 := Eng.Reads.of_own Oa26
   refine Eng.tail_val (w1 := w26) (v := .pointer (some ⟨dg, 0, none⟩)) rfl rfl rfl ?_ s26 rfl ?_
   ·exact Eng.run_nilb rfl h40_26
   intro act27 d27 s27 hv hr
   have h0_27 := (hr 0 rfl).trans h0_26
   have h1_27 := (hr 1 rfl).trans h1_26
   have h3_27 := (hr 3 rfl).trans h3_26
   have h4_27 := (hr 4 rfl).trans h4_26
   have h5_27 := (hr 5 rfl).trans h5_26
   have h6_27 := (hr 6 rfl).trans h6_26
   have h7_27 := (hr 7 rfl).trans h7_26
   have h8_27 := (hr 8 rfl).trans h8_26
   have h14_27 := (hr 14 rfl).trans h14_26
   have h21_27 := (hr 21 rfl).trans h21_26
   have h33_27 := (hr 33 rfl).trans h33_26
   have h47_27 := (hr 47 rfl).trans h47_26
   have h48_27 : act27.eval (.tmp 48) = .pointer (some ⟨dg, 0, none⟩) := hv
   have d27 := d27.trans d26
   clear hv hr
   refine Eng.tail_val (w1 := w26) (v := .pointer (some ⟨dg, 0, none⟩)) rfl rfl rfl ?_ s27 rfl ?_
   ·exact Eng.run_fieldb rfl Tryd.underlying64 0 (by kernel_rfl) h48_27
   intro act28 d28 s28 hv hr
   have h0_28 := (hr 0 rfl).trans h0_27
   have h1_28 := (hr 1 rfl).trans h1_27
   have h3_28 := (hr 3 rfl).trans h3_27
   have h4_28 := (hr 4 rfl).trans h4_27
   have h5_28 := (hr 5 rfl).trans h5_27
   have h6_28 := (hr 6 rfl).trans h6_27
   have h7_28 := (hr 7 rfl).trans h7_27
   have h8_28 := (hr 8 rfl).trans h8_27
   have h14_28 := (hr 14 rfl).trans h14_27
   have h21_28 := (hr 21 rfl).trans h21_27
   have h33_28 := (hr 33 rfl).trans h33_27
   have h47_28 := (hr 47 rfl).trans h47_27
   have h49_28 : act28.eval (.tmp 49) = .pointer (some ⟨dg, 0, none⟩) := hv
   have d28 := d28.trans d27
   clear hv hr
   refine Eng.tail_set (n := 0) (v := v_26) (new := #[v_26, ov, .map (some mb)]) rfl rfl rfl kdg_26 rfl ?_ fun w29 S => ?_
   ·have e0 : act28.eval (.tmp 49) = .pointer (some ⟨dg, 0, none⟩) := h49_28
    have e1 : act28.eval (.tmp 47) = v_26 := h47_28
    obtain ⟨A0_, c0_, ev0_⟩ := Eng.Reads.shape Fa26
    subst ev0_
    have z0 := (Eng.cells kdg_26 (0)).trans (rfl)
    have f0 := Eng.unfrozen kdg_26 (0)
    simp only [execOp]
    rw [e0, e1]
    go_simp
   have kdg_29 := S.new
   have ldg_29 := Nat.lt_of_lt_of_eq ldg_26 S.size.symm
   have kg3_1_29 := (S.far _ ne_g3_1_dg.symm).trans kg3_1_26
   have lg3_1_29 := Nat.lt_of_lt_of_eq lg3_1_26 S.size.symm
   have kg8_12_29 := (S.far _ ne_g8_12_dg.symm).trans kg8_12_26
   have lg8_12_29 := Nat.lt_of_lt_of_eq lg8_12_26 S.size.symm
   have bl29 := S.below bl26 hlo
   have XX_29 := Dc.St.setd XX_26 S kdg_26
   clear S
   refine Eng.tail_nil ?_
   refine wp_seq ?_
   refine wp_seq ?_
   obtain ⟨q52, Bq52⟩ : ∃ b : Bool, b = (!(x.anchor.toList.isEmpty)) := ⟨_, rfl⟩
   refine Eng.regionS (Eng.still [fun u_ => u_ = .pointer (some ⟨g3_1, 1, none⟩), fun u_ => u_ = .string x.anchor, fun u_ => u_ = .bool q52]) (fun _ => .plain) 3 0 77 s28 rfl (by kernel_rfl) (Eng.still_stable _) (Or.inr (Eng.still_any _)) ?_ ?_
   ·refine .c ?_ (.c ?_ (.c ?_ (.nil)))
    ·exact Eng.pv fun a w' H => Eng.vr rfl (Eng.run_fieldb rfl Tryd.underlying30 1 (by kernel_rfl) (H.q 3 h3_28))
    ·exact Eng.pv fun a w' H => Eng.vr rfl (Eng.run_loadb rfl (H.d 0 50) ((H.below.block _ lg3_1_29).trans kg3_1_29) rfl (by kernel_rfl))
    ·refine Eng.pv fun a w' H => ?_
     refine Eng.vr (v := .bool (!(x.anchor.toList.isEmpty))) (by show _ = Value.bool q52; rw [Bq52]) ?_
     have e0 : a.eval (.tmp 51) = .string x.anchor := (H.d 1 51)
     have e1 : a.eval (.const (.string ⟨#[]⟩)) = .string ⟨#[]⟩ := rfl
     simp only [execOp, resolve, List.map_toArray, List.map_cons, List.map_nil, e0, e1]
     go_simp
   intro act30 w30 T
   have h0_30 := T.r 0 h0_28
   have h1_30 := T.r 1 h1_28
   have h3_30 := T.r 3 h3_28
   have h4_30 := T.r 4 h4_28
   have h5_30 := T.r 5 h5_28
   have h6_30 := T.r 6 h6_28
   have h7_30 := T.r 7 h7_28
   have h8_30 := T.r 8 h8_28
   have h14_30 := T.r 14 h14_28
   have h21_30 := T.r 21 h21_28
   have h33_30 := T.r 33 h33_28
   have kdg_30 := (T.below.block _ ldg_29).trans kdg_29
   have ldg_30 := Nat.lt_of_lt_of_le ldg_29 T.below.size
   have kg3_1_30 := (T.below.block _ lg3_1_29).trans kg3_1_29
   have lg3_1_30 := Nat.lt_of_lt_of_le lg3_1_29 T.below.size
   have kg8_12_30 := (T.below.block _ lg8_12_29).trans kg8_12_29
   have lg8_12_30 := Nat.lt_of_lt_of_le lg8_12_29 T.below.size
   have h52_30 : act30.eval (.tmp 52) = .bool q52 := T.done 2 52 rfl rfl
   have d30 := T.defers.trans d28
   have s30 := T.size.trans s28
   have bl30 := bl29.trans (T.below.mono bl29.size)
   have XX_30 := Dc.St.below XX_29 T.below
   clear T
   refine Eng.tail_nil ?_
   refine Eng.join (fun a w' => ∃ (nm2 : List (List UInt8 × Int)), (Dc.nameF ⟨h.map (·.1), opn, names⟩ x = nm2) ∧ (Dc.St w.heap.size W0 w' dg (Dc.Blk h gv ov mb) hh26 opn nm2 v_26 ov mb) ∧ a.defers = [] ∧ a.tmps.size = 77 ∧ Below w.heap.size w w' ∧ a.eval (.tmp 0) = .pointer (some ⟨dg, 0, none⟩) ∧ a.eval (.tmp 1) = .agg #[.int .i64 x.kind, .string x.anchor, .string x.tag, .string x.text, .bool x.plain] ∧ a.eval (.tmp 3) = .pointer (some ⟨g3_1, 0, none⟩) ∧ a.eval (.tmp 4) = .int .i64 0 ∧ a.eval (.tmp 5) = .string ((Evt.tagF x).1) ∧ a.eval (.tmp 6) = .int .i64 ((Evt.tagF x).2) ∧ a.eval (.tmp 7) = .int .i64 ((h.length : Nat) : Int) ∧ a.eval (.tmp 8) = .pointer (some ⟨g8_12, 0, none⟩) ∧ a.eval (.tmp 14) = .bool q14 ∧ a.eval (.tmp 21) = .bool q21 ∧ a.eval (.tmp 33) = .int .i64 x.kind ∧ a.eval (.tmp 52) = .bool q52 ∧ w'.heap[dg]? = some (.cells (#[v_26, ov, .map (some mb)]) 64 (0, 0)) ∧ dg < w'.heap.size ∧ w'.heap[g3_1]? = some (.cells (#[.int .i64 x.kind, .string x.anchor, .string x.tag, .string x.text, .bool x.plain]) 30 (0, 0)) ∧ g3_1 < w'.heap.size ∧ w'.heap[g8_12]? = some (.cells (#[.int .i64 K, .string ((Evt.tagF x).1), .string x.text, .slice none 0 0]) 57 (0, 0)) ∧ g8_12 < w'.heap.size) ?_ ?_
   ·
    refine wp_cond_split h52_30 (fun hq => ?_) (fun hq => ?_)
    ·
     have c52 := Bq52.symm.trans hq
     clear hq
     have han : ¬ x.anchor.toList.isEmpty = true := by have h1 := c52; simpa using h1
     refine (wpIn_wide (n := 1)).1 ?_
     refine EngI.regionD EngI.free_wide (Eng.still [fun u_ => u_ = .pointer (some ⟨dg, 0, none⟩), fun u_ => u_ = .pointer (some ⟨dg, 0, none⟩), fun u_ => u_ = .pointer (some ⟨dg, 2, none⟩), fun u_ => u_ = .map (some mb), fun u_ => u_ = .pointer (some ⟨g3_1, 1, none⟩), fun u_ => u_ = .string x.anchor, fun u_ => u_ = .int .i64 ((h.length : Nat) : Int)]) (fun _ => .plain) 7 1 77 (by kernel_rfl) s30 rfl (by kernel_rfl) (Eng.still_stable _) (Or.inr (Eng.still_any _)) (by kernel_rfl) ?_ ?_
     ·refine .c ?_ (.c ?_ (.c ?_ (.c ?_ (.c ?_ (.c ?_ (.c ?_ (.cons (fun h => absurd h (by decide)) (.nil))))))))
      ·exact Eng.pv fun a w' H => Eng.vr rfl (Eng.run_move rfl (H.q 0 h0_30))
      ·exact Eng.pv fun a w' H => Eng.vr rfl (Eng.run_nilb rfl (H.d 0 53))
      ·exact Eng.pv fun a w' H => Eng.vr rfl (Eng.run_fieldb rfl Tryd.underlying64 2 (by kernel_rfl) (H.d 1 54))
      ·exact Eng.pv fun a w' H => Eng.vr rfl (Eng.run_loadb rfl (H.d 2 55) ((H.below.block _ ldg_30).trans kdg_30) rfl (by kernel_rfl))
      ·exact Eng.pv fun a w' H => Eng.vr rfl (Eng.run_fieldb rfl Tryd.underlying30 1 (by kernel_rfl) (H.q 3 h3_30))
      ·exact Eng.pv fun a w' H => Eng.vr rfl (Eng.run_loadb rfl (H.d 4 57) ((H.below.block _ lg3_1_30).trans kg3_1_30) rfl (by kernel_rfl))
      ·exact Eng.pv fun a w' H => Eng.vr rfl (Eng.run_move rfl (H.q 7 h7_30))
     intro act32 w32 T
     have h0_32 := T.r 0 h0_30
     have h1_32 := T.r 1 h1_30
     have h3_32 := T.r 3 h3_30
     have h4_32 := T.r 4 h4_30
     have h5_32 := T.r 5 h5_30
     have h6_32 := T.r 6 h6_30
     have h7_32 := T.r 7 h7_30
     have h8_32 := T.r 8 h8_30
     have h14_32 := T.r 14 h14_30
     have h21_32 := T.r 21 h21_30
     have h33_32 := T.r 33 h33_30
     have h52_32 := T.r 52 h52_30
     have kdg_32 := (T.below.block _ ldg_30).trans kdg_30
     have ldg_32 := Nat.lt_of_lt_of_le ldg_30 T.below.size
     have kg3_1_32 := (T.below.block _ lg3_1_30).trans kg3_1_30
     have lg3_1_32 := Nat.lt_of_lt_of_le lg3_1_30 T.below.size
     have kg8_12_32 := (T.below.block _ lg8_12_30).trans kg8_12_30
     have lg8_12_32 := Nat.lt_of_lt_of_le lg8_12_30 T.below.size
     have h56_32 : act32.eval (.tmp 56) = .map (some mb) := T.done 3 56 rfl rfl
     have h58_32 : act32.eval (.tmp 58) = .string x.anchor := T.done 5 58 rfl rfl
     have h59_32 : act32.eval (.tmp 59) = .int .i64 ((h.length : Nat) : Int) := T.done 6 59 rfl rfl
     have d32 := T.defers.trans d30
     have s32 := T.size.trans s30
     have bl32 := bl30.trans (T.below.mono bl30.size)
     have XX_32 := Dc.St.below XX_30 T.below
     clear T
     refine EngG.tail_exs EngI.free_wide rfl rfl rfl rfl (Dc.run_put (s := x.anchor) (c := ((h.length : Nat) : Int)) XX_32 rfl h56_32 h58_32 h59_32 hasz (Dc.wf_nat (by omega)) (by unfold maxLen; omega)) fun w33 R => ?_
     obtain ⟨X33, G_33⟩ := R
     have kdg_33 := (G_33.block _ ldg_32 (Dc.box_map kdg_32 XX_32.R.mp)).trans kdg_32
     have ldg_33 := Nat.lt_of_lt_of_le ldg_32 G_33.size
     have kg3_1_33 := (G_33.block _ lg3_1_32 (Dc.box_map kg3_1_32 XX_32.R.mp)).trans kg3_1_32
     have lg3_1_33 := Nat.lt_of_lt_of_le lg3_1_32 G_33.size
     have kg8_12_33 := (G_33.block _ lg8_12_32 (Dc.box_map kg8_12_32 XX_32.R.mp)).trans kg8_12_32
     have lg8_12_33 := Nat.lt_of_lt_of_le lg8_12_32 G_33.size
     have bl33 := bl32.grown G_33 bl32.size (fun j hj => by injection hj with hj; subst hj; exact XX_32.R.mp.1)
     refine EngI.tail_nil ?_
     exact ⟨((x.anchor.data.toList, (h.length : Int)) :: names), (by unfold Dc.nameF; rw [if_neg han]; simp), X33, d32, s32, bl33, h0_32, h1_32, h3_32, h4_32, h5_32, h6_32, h7_32, h8_32, h14_32, h21_32, h33_32, h52_32, kdg_33, ldg_33, kg3_1_33, lg3_1_33, kg8_12_33, lg8_12_33⟩
    ·
     have c52 := Bq52.symm.trans hq
     clear hq
     have han : x.anchor.toList.isEmpty = true := by have h1 := c52; simpa using h1
     refine wp_skip ?_
     exact ⟨names, (by unfold Dc.nameF; rw [if_pos han]), XX_30, d30, s30, bl30, h0_30, h1_30, h3_30, h4_30, h5_30, h6_30, h7_30, h8_30, h14_30, h21_30, h33_30, h52_30, kdg_30, ldg_30, kg3_1_30, lg3_1_30, kg8_12_30, lg8_12_30⟩
   rintro act35 w35 ⟨nm2, hj0_35, hj1_35, d35, s35, bl35, h0_35, h1_35, h3_35, h4_35, h5_35, h6_35, h7_35, h8_35, h14_35, h21_35, h33_35, h52_35, kdg_35, ldg_35, kg3_1_35, lg3_1_35, kg8_12_35, lg8_12_35⟩
   have hnm2 := hj0_35
   refine wp_seq ?_
   refine (wpIn_wide (n := 1)).1 ?_
   refine EngI.regionS EngI.free_wide (Eng.still [fun u_ => u_ = .pointer (some ⟨dg, 0, none⟩), fun u_ => u_ = .int .i64 ((h.length : Nat) : Int)]) (fun _ => .plain) 2 2 77 s35 rfl (by kernel_rfl) (Eng.still_stable _) (Or.inr (Eng.still_any _)) (by kernel_rfl) ?_ ?_
   ·refine .c ?_ (.c ?_ (.cons (fun h => absurd h (by decide)) (.cons (fun h => absurd h (by decide)) (.nil))))
    ·exact Eng.pv fun a w' H => Eng.vr rfl (Eng.run_move rfl (H.q 0 h0_35))
    ·exact Eng.pv fun a w' H => Eng.vr rfl (Eng.run_move rfl (H.q 7 h7_35))
   intro act36 w36 T
   have h0_36 := T.r 0 h0_35
   have h7_36 := T.r 7 h7_35
   have h8_36 := T.r 8 h8_35
   have kdg_36 := (T.below.block _ ldg_35).trans kdg_35
   have kg8_12_36 := (T.below.block _ lg8_12_35).trans kg8_12_35
   have lg8_12_36 := Nat.lt_of_lt_of_le lg8_12_35 T.below.size
   have h60_36 : act36.eval (.tmp 60) = .pointer (some ⟨dg, 0, none⟩) := T.done 0 60 rfl rfl
   have h61_36 : act36.eval (.tmp 61) = .int .i64 ((h.length : Nat) : Int) := T.done 1 61 rfl rfl
   have d36 := T.defers.trans d35
   have s36 := T.size.trans s35
   have bl36 := bl35.trans (T.below.mono bl35.size)
   have XX_36 := Dc.St.below hj1_35 T.below
   clear T
   refine EngI.tail_call EngI.free_wide Tryd.func56 (by kernel_rfl) (by kernel_rfl) rfl rfl rfl rfl #[.pointer (some ⟨dg, 0, none⟩), .int .i64 ((h.length : Nat) : Int)] (by have e0 : act36.eval (.tmp 60) = .pointer (some ⟨dg, 0, none⟩) := h60_36; have e1 : act36.eval (.tmp 61) = .int .i64 ((h.length : Nat) : Int) := h61_36; simp only [List.map_toArray, List.map_cons, List.map_nil, e0, e1]) s36 rfl (R := fun v w' => ∃ h', v = .int .i64 (Dc.kidF ⟨hh26.map (·.1), opn, nm2⟩ h.length).2 ∧ h'.map (·.1) = (Dc.kidF ⟨hh26.map (·.1), opn, nm2⟩ h.length).1.nodes ∧ Dc.St w.heap.size w36 w' dg (Dc.Blk hh26 v_26 ov mb) h' opn nm2 v_26 ov mb ∧ w'.heap[dg]? = some (.cells #[v_26, ov, .map (some mb)] 64 (0, 0))) ((Dc.kid_calls dg mb v_26 ov hh26 opn nm2 h.length w _ bl36 hlo kdg_36 XX_36.R (by rw [eh26]; simp) (fun o ho => ⟨(hop o ho).1, Nat.lt_of_lt_of_le (hop o ho).2 (by rw [eh26]; simp)⟩) (by rw [eh26]; exact Dc.snoc_kids rfl hkl)).mono ?_) fun v_37 w37 act37 R d37 s37 hv hr => ?_
   ·rintro e w1 ⟨h1, rfl, r1⟩; exact ⟨_, rfl, h1, rfl, r1⟩
   have h0_37 := (hr 0 rfl).trans h0_36
   have h7_37 := (hr 7 rfl).trans h7_36
   have h8_37 := (hr 8 rfl).trans h8_36
   have h62_37 : act37.eval (.tmp 62) = v_37 := hv
   have d37 := d37.trans d36
   clear hv hr
   obtain ⟨h37, ev_37, hm37, Y37, kb37⟩ := R
   obtain ⟨kr37, hkr37⟩ : ∃ k, k = (Dc.kidF ⟨hh26.map (·.1), opn, nm2⟩ h.length).2 := ⟨_, rfl⟩
   rw [ev_37, ← hkr37] at h62_37
   have kg8_12_37 := Y37.A.at_ kg8_12_36 (fun h => h.elim (ne_g8_12_dg.symm) ap8_26)
   have lg8_12_37 := Nat.lt_of_lt_of_le lg8_12_36 Y37.A.size
   have bl37 := Eng.Aft.below Y37.A bl36 (Nat.le_refl _) (fun b hb => hb.elim (fun e => e ▸ hlo) (fun e => (XX_36.R.lt e).1))
   have X_37 := Dc.St.call XX_36 Y37
   have lb37 := (Array.getElem?_eq_some_iff.1 kb37).1
   have Oop_37 := X_37.R.op
   refine EngI.tail_val EngI.free_wide rfl rfl rfl rfl (Eng.run_assign rfl h62_37) s37 rfl fun act38 d38 s38 hv hr => ?_
   have h0_38 := (hr 0 rfl).trans h0_37
   have h7_38 := (hr 7 rfl).trans h7_37
   have h8_38 := (hr 8 rfl).trans h8_37
   have h6_38 : act38.eval (.tmp 6) = .int .i64 kr37 := hv
   have d38 := d38.trans d37
   clear hv hr
   refine EngI.tail_nil ?_
   refine wp_seq ?_
   refine wp_seq ?_
   obtain ⟨q65, Bq65⟩ : ∃ b : Bool, b = (!(K == 0)) := ⟨_, rfl⟩
   refine Eng.regionS (Eng.still [fun u_ => u_ = .pointer (some ⟨g8_12, 0, none⟩), fun u_ => u_ = .int .i64 K, fun u_ => u_ = .bool q65]) (fun _ => .plain) 3 0 77 s38 rfl (by kernel_rfl) (Eng.still_stable _) (Or.inr (Eng.still_any _)) ?_ ?_
   ·refine .c ?_ (.c ?_ (.c ?_ (.nil)))
    ·exact Eng.pv fun a w' H => Eng.vr rfl (Eng.run_fieldb rfl Tryd.underlying57 0 (by kernel_rfl) (H.q 8 h8_38))
    ·exact Eng.pv fun a w' H => Eng.vr rfl (Eng.run_loadb rfl (H.d 0 63) ((H.below.block _ lg8_12_37).trans kg8_12_37) rfl (by kernel_rfl))
    ·refine Eng.pv fun a w' H => ?_
     refine Eng.vr (v := .bool (!(K == 0))) (by show _ = Value.bool q65; rw [Bq65]) ?_
     have e0 : a.eval (.tmp 64) = .int .i64 K := (H.d 1 64)
     have e1 : a.eval (.const (.int .i64 0)) = .int .i64 0 := rfl
     simp only [execOp, resolve, List.map_toArray, List.map_cons, List.map_nil, e0, e1]
     go_simp
     all_goals first | rfl | (simp; done) | (rw [Bool.eq_iff_iff]; simp; done) | omega | (split <;> first | (simp_all; done) | (split <;> simp_all; done)) | skip
   intro act39 w39 T
   have h0_39 := T.r 0 h0_38
   have h6_39 := T.r 6 h6_38
   have h7_39 := T.r 7 h7_38
   have kdg_39 := (T.below.block _ lb37).trans kb37
   have ldg_39 := Nat.lt_of_lt_of_le lb37 T.below.size
   have Oop_39 := Eng.own_below Oop_37 T.below
   have h65_39 : act39.eval (.tmp 65) = .bool q65 := T.done 2 65 rfl rfl
   have d39 := T.defers.trans d38
   have s39 := T.size.trans s38
   have bl39 := bl37.trans (T.below.mono bl37.size)
   have XX_39 := Dc.St.below X_37 T.below
   clear T
   refine Eng.tail_nil ?_
   refine wp_cond_split h65_39 (fun hq => ?_) (fun hq => ?_)
   ·
    have c65 := Bq65.symm.trans hq
    clear hq
    have hK0 : ¬ K = 0 := by have h1 := c65; simpa using h1
    refine Eng.regionT (n := 11) rfl ?_
    refine Eng.tail_val rfl rfl rfl (Eng.run_move rfl h0_39) s39 rfl fun act41 d41 s41 hv hr => ?_
    have h0_41 := (hr 0 rfl).trans h0_39
    have h6_41 := (hr 6 rfl).trans h6_39
    have h7_41 := (hr 7 rfl).trans h7_39
    have h66_41 : act41.eval (.tmp 66) = .pointer (some ⟨dg, 0, none⟩) := hv
    have d41 := d41.trans d39
    clear hv hr
    refine Eng.tail_val rfl rfl rfl (Eng.run_move rfl h0_41) s41 rfl fun act42 d42 s42 hv hr => ?_
    have h6_42 := (hr 6 rfl).trans h6_41
    have h7_42 := (hr 7 rfl).trans h7_41
    have h66_42 := (hr 66 rfl).trans h66_41
    have h67_42 : act42.eval (.tmp 67) = .pointer (some ⟨dg, 0, none⟩) := hv
    have d42 := d42.trans d41
    clear hv hr
    refine Eng.tail_val (w1 := w39) (v := .pointer (some ⟨dg, 0, none⟩)) rfl rfl rfl ?_ s42 rfl ?_
    ·exact Eng.run_nilb rfl h67_42
    intro act43 d43 s43 hv hr
    have h6_43 := (hr 6 rfl).trans h6_42
    have h7_43 := (hr 7 rfl).trans h7_42
    have h66_43 := (hr 66 rfl).trans h66_42
    have h68_43 : act43.eval (.tmp 68) = .pointer (some ⟨dg, 0, none⟩) := hv
    have d43 := d43.trans d42
    clear hv hr
    refine Eng.tail_val (w1 := w39) (v := .pointer (some ⟨dg, 1, none⟩)) rfl rfl rfl ?_ s43 rfl ?_
    ·exact Eng.run_fieldb rfl Tryd.underlying64 1 (by kernel_rfl) h68_43
    intro act44 d44 s44 hv hr
    have h6_44 := (hr 6 rfl).trans h6_43
    have h7_44 := (hr 7 rfl).trans h7_43
    have h66_44 := (hr 66 rfl).trans h66_43
    have h69_44 : act44.eval (.tmp 69) = .pointer (some ⟨dg, 1, none⟩) := hv
    have d44 := d44.trans d43
    clear hv hr
    refine Eng.tail_val (w1 := w39) (v := ov) rfl rfl rfl ?_ s44 rfl ?_
    ·exact Eng.run_loadb rfl h69_44 (((Below.refl _ _).block _ ldg_39).trans kdg_39) rfl (by kernel_rfl)
    intro act45 d45 s45 hv hr
    have h6_45 := (hr 6 rfl).trans h6_44
    have h7_45 := (hr 7 rfl).trans h7_44
    have h66_45 := (hr 66 rfl).trans h66_44
    have h70_45 : act45.eval (.tmp 70) = ov := hv
    have d45 := d45.trans d44
    clear hv hr
    refine Eng.tail_val rfl rfl rfl (Eng.run_move rfl h7_45) s45 rfl fun act46 d46 s46 hv hr => ?_
    have h6_46 := (hr 6 rfl).trans h6_45
    have h66_46 := (hr 66 rfl).trans h66_45
    have h70_46 := (hr 70 rfl).trans h70_45
    have h71_46 : act46.eval (.tmp 71) = .int .i64 ((h.length : Nat) : Int) := hv
    have d46 := d46.trans d45
    clear hv hr
    refine Eng.tail_ex rfl rfl rfl (Eng.run_buildN1 (z := .int .i64 0) [.int .i64 ((h.length : Nat) : Int)] rfl Tryd.underlying55 (by kernel_rfl) rfl rfl rfl rfl (by intro v hv; have h := List.mem_singleton.1 hv; rw [h]; exact rfl) (by have e0 : act46.eval (.tmp 71) = .int .i64 ((h.length : Nat) : Int) := h71_46; simp [e0])) s46 rfl fun v_47 w47 act47 R d47 s47 hv hr => ?_
    obtain ⟨F_47, b_47⟩ := R
    have h6_47 := (hr 6 rfl).trans h6_46
    have h66_47 := (hr 66 rfl).trans h66_46
    have h70_47 := (hr 70 rfl).trans h70_46
    have h72_47 : act47.eval (.tmp 72) = v_47 := hv
    have d47 := d47.trans d46
    clear hv hr
    have kdg_47 := (b_47.block _ ldg_39).trans kdg_39
    have ldg_47 := Nat.lt_of_lt_of_le ldg_39 b_47.size
    have Oop_47 := Eng.own_below Oop_39 b_47
    have XX_47 := Dc.St.below XX_39 b_47
    have bl47 := bl39.trans (b_47.mono bl39.size)
    refine Eng.tail_ex rfl rfl rfl (Eng.run_appendI (z := .int .i64 0) rfl Tryd.underlying55 (by kernel_rfl) rfl rfl h70_47 Oop_47 h72_47 F_47 (by intro u hu; simp at hu; subst hu; rfl) (by omega) bl47.size) s47 rfl fun v_48 w48 act48 R d48 s48 hv hr => ?_
    obtain ⟨O_48, _, b_48, G_48, EO_48⟩ := R
    have h6_48 := (hr 6 rfl).trans h6_47
    have h66_48 := (hr 66 rfl).trans h66_47
    have h73_48 : act48.eval (.tmp 73) = v_48 := hv
    have d48 := d48.trans d47
    clear hv hr
    have kdg_48 := (G_48.block _ ldg_47 (Eng.own_ne Oop_47 kdg_47 rfl)).trans kdg_47
    have ldg_48 := Nat.lt_of_lt_of_le ldg_47 G_48.size
    have XX_48 := Dc.St.push XX_47 (h.length : Int) O_48 G_48 EO_48
    have Oa48 : w48.ownsRow w.heap.size 3 1 v_48 (opn ++ [(h.length : Int)]).length (Dc.ints (opn ++ [(h.length : Int)])) := XX_48.R.op
    have Fa48 := Eng.Reads.of_own Oa48
    refine Eng.tail_val (w1 := w48) (v := .pointer (some ⟨dg, 0, none⟩)) rfl rfl rfl ?_ s48 rfl ?_
    ·exact Eng.run_nilb rfl h66_48
    intro act49 d49 s49 hv hr
    have h6_49 := (hr 6 rfl).trans h6_48
    have h73_49 := (hr 73 rfl).trans h73_48
    have h74_49 : act49.eval (.tmp 74) = .pointer (some ⟨dg, 0, none⟩) := hv
    have d49 := d49.trans d48
    clear hv hr
    refine Eng.tail_val (w1 := w48) (v := .pointer (some ⟨dg, 1, none⟩)) rfl rfl rfl ?_ s49 rfl ?_
    ·exact Eng.run_fieldb rfl Tryd.underlying64 1 (by kernel_rfl) h74_49
    intro act50 d50 s50 hv hr
    have h6_50 := (hr 6 rfl).trans h6_49
    have h73_50 := (hr 73 rfl).trans h73_49
    have h75_50 : act50.eval (.tmp 75) = .pointer (some ⟨dg, 1, none⟩) := hv
    have d50 := d50.trans d49
    clear hv hr
    refine Eng.tail_set (n := 1) (v := v_48) (new := #[v_26, v_48, .map (some mb)]) rfl rfl rfl kdg_48 rfl ?_ fun w51 S => ?_
    ·have e0 : act50.eval (.tmp 75) = .pointer (some ⟨dg, 1, none⟩) := h75_50
     have e1 : act50.eval (.tmp 73) = v_48 := h73_50
     obtain ⟨A0_, c0_, ev0_⟩ := Eng.Reads.shape Fa48
     subst ev0_
     have z0 := (Eng.cells kdg_48 (1)).trans (rfl)
     have f0 := Eng.unfrozen kdg_48 (1)
     simp only [execOp]
     rw [e0, e1]
     go_simp
    have kdg_51 := S.new
    have ldg_51 := Nat.lt_of_lt_of_eq ldg_48 S.size.symm
    have XX_51 := Dc.St.setd XX_48 S kdg_48
    clear S
    refine Eng.tail_nil ?_
    refine wp_seq ?_
    refine Eng.regionS (Eng.still [fun u_ => u_ = .int .i64 kr37, fun u_ => u_ = .int .i64 kr37]) (fun _ => .plain) 2 0 77 s50 rfl (by kernel_rfl) (Eng.still_stable _) (Or.inr (Eng.still_any _)) ?_ ?_
    ·refine .c ?_ (.c ?_ (.nil))
     ·exact Eng.pv fun a w' H => Eng.vr rfl (Eng.run_move rfl (H.q 6 h6_50))
     ·exact Eng.pv fun a w' H => Eng.vr rfl (Eng.run_assign rfl (H.d 0 76))
    intro act52 w52 T
    have kdg_52 := (T.below.block _ ldg_51).trans kdg_51
    have h4_52 : act52.eval (.tmp 4) = .int .i64 kr37 := T.done 1 4 rfl rfl
    have d52 := T.defers.trans d50
    have XX_52 := Dc.St.below XX_51 T.below
    clear T
    refine Eng.tail_nil ?_
    refine wp_ret ?_
    repeat (first | refine Eng.in_ret ?_ | refine Eng.then_ret ?_)
    have e_ := Dc.nodeF_ok (d := ⟨h.map (·.1), opn, names⟩) (x := x) (by simpa using hfull) htg hK hnm2
    simp only [List.length_map] at e_
    rw [eh26, Dc.snoc_map] at hm37 hkr37
    have eta_ := Dc.kidF_eta hm37
    rw [if_neg hK0] at e_
    exact Eng.ret1 rfl d52 h4_52 ⟨h37, (opn ++ [(h.length : Int)]), nm2, v_26, v_48, by rw [e_]; rw [hkr37], by rw [e_]; simp only; rw [← eta_], XX_52, kdg_52⟩
   ·
    have c65 := Bq65.symm.trans hq
    clear hq
    have hK0 : K = 0 := by have h1 := c65; simpa using h1
    refine wp_skip ?_
    refine wp_seq ?_
    refine Eng.regionS (Eng.still [fun u_ => u_ = .int .i64 kr37, fun u_ => u_ = .int .i64 kr37]) (fun _ => .plain) 2 0 77 s39 rfl (by kernel_rfl) (Eng.still_stable _) (Or.inr (Eng.still_any _)) ?_ ?_
    ·refine .c ?_ (.c ?_ (.nil))
     ·exact Eng.pv fun a w' H => Eng.vr rfl (Eng.run_move rfl (H.q 6 h6_39))
     ·exact Eng.pv fun a w' H => Eng.vr rfl (Eng.run_assign rfl (H.d 0 76))
    intro act54 w54 T
    have kdg_54 := (T.below.block _ ldg_39).trans kdg_39
    have h4_54 : act54.eval (.tmp 4) = .int .i64 kr37 := T.done 1 4 rfl rfl
    have d54 := T.defers.trans d39
    have XX_54 := Dc.St.below XX_39 T.below
    clear T
    refine Eng.tail_nil ?_
    refine wp_ret ?_
    repeat (first | refine Eng.in_ret ?_ | refine Eng.then_ret ?_)
    have e_ := Dc.nodeF_ok (d := ⟨h.map (·.1), opn, names⟩) (x := x) (by simpa using hfull) htg hK hnm2
    simp only [List.length_map] at e_
    rw [eh26, Dc.snoc_map] at hm37 hkr37
    have eta_ := Dc.kidF_eta hm37
    rw [if_pos hK0] at e_
    exact Eng.ret1 rfl d54 h4_54 ⟨h37, opn, nm2, v_26, ov, by rw [e_]; rw [hkr37], by rw [e_]; exact eta_, XX_54, kdg_54⟩
end Go.Proofs.YtgnmjaacnmkgnaaDoor.X
end
section
namespace Go.Proofs.Eng
open Go Go.RowKit
theorem ret2 {P : Program} {fn : Func} {s t : Nat} {R : Ending → World → Prop} {a : Act} {w : World} (h : fn.results = #[.tmp s, .tmp t]) (hd : a.defers = []) {v u : Value} (e : a.eval (.tmp s) = v) (e2 : a.eval (.tmp t) = u) (hR : R (.returned (.tuple #[v, u])) w) : bodyPost P fn R .ret a w := by
  refine ⟨hd, .tuple #[v, u], ?_, hR⟩
  subst e; subst e2
  have e1 : a.tmps[s]?.getD undef = a.eval (.tmp s) := by show _ = a.tmps.getD s undef; simp
  have e3 : a.tmps[t]?.getD undef = a.eval (.tmp t) := by show _ = a.tmps.getD t undef; simp
  simp [results, h, e1, e3]
end Go.Proofs.Eng
namespace Go.Proofs.YtgnmjaacnmkgnaaDoor.X
open Go.RowKit Go.Shelf Go.Proofs Go.Maps Go.WideMaps
set_option linter.unusedVariables false
set_option linter.unusedSimpArgs false
namespace Dc
theorem make_ex {B : Nat} {w : World} {a : Act} {o : Oper} (hop : o.op = .makeMap 46 none) (hB : B ≤ w.heap.size) : ∃ v w1, (execOp a.eval o).run Tryd.prog w = .ok (.value v) w1 ∧ ∃ mb, v = .map (some mb) ∧ w.heap.size ≤ mb ∧ MapRep B w1 mb [] ∧ Below w.heap.size w w1 := by
  refine ⟨.map (some w.heap.size), w.alloc (.map #[] 0), ?_, w.heap.size, rfl, Nat.le_refl _, ⟨hB, 0, .map [], World.ownsMap_made _ _ _ _, Nat.le_refl _, told_nil⟩, (Below.refl _ _).alloc (Nat.le_refl _) _⟩
  unfold execOp
  rw [hop]
  simp [run_makeMap]
theorem run_look2 {B : Nat} {w : World} {a : Act} {o : Oper} {m x : Operand} {s : ByteArray} {h : List NV} {opn : List Int} {names : List (List UInt8 × Int)} {gv ov : Value} {mb : Nat} (R : Rep B w h opn names gv ov mb) (hop : o.op = .lookup 46 m x true) (hm : a.eval m = .map (some mb)) (hx : a.eval x = .string s) (hs : s.size ≤ maxLen) :
    (execOp a.eval o).run Tryd.prog w = .ok (.value (.tuple #[.int .i64 ((find names s.data.toList).getD 0), .bool (find names s.data.toList).isSome])) w := by
  obtain ⟨hB, n, D, hown, hle, hT⟩ := R.mp
  obtain ⟨v, ps, hr, hv⟩ := hown.look_ok key_law Tryd.underlying46 (zero3 w) (plainElem_int Tryd.underlying3 (by decide)) (keyOf_string_mk Tryd.underlying9 hs)
  obtain ⟨c, rfl, hc, hwc⟩ := plainElem_int_inv Tryd.underlying3 hv
  have h2 : (D.atKey (.string s.data.toList) (.lit (.int .i64 0)), ps).1 = (DataW.lit (.int .i64 c), []).1 := congrArg Prod.fst hc
  have hcd : c = (find names s.data.toList).getD 0 := by
    cases hf : find names s.data.toList with
    | none =>
      have h1 := (hT.2 s.data.toList).1
      rw [hf] at h1
      have h3 : DataW.lit (H := Unit) (Lit.int .i64 0) = DataW.lit (Lit.int .i64 c) := (atKey_of_not_has h1 _).symm.trans h2
      exact ((Lit.int.inj (DataW.lit.inj h3)).2).symm
    | some d =>
      have h3 : DataW.lit (H := Unit) (Lit.int .i64 d) = DataW.lit (Lit.int .i64 c) := ((hT.2 s.data.toList).2 d hf).symm.trans h2
      exact ((Lit.int.inj (DataW.lit.inj h3)).2).symm
  rw [(hT.2 _).1, hcd] at hr
  unfold execOp; rw [hop]; simp only [hm, hx]; go_simp
def keysL : List Int → List Int
  | a :: _ :: t => a :: keysL t
  | [a] => [a]
  | [] => []
def hasI (nodes : List Nd) (i : Int) : Bool := decide (0 ≤ i) && decide (i < nodes.length)
def leaf (nodes : List Nd) (i : Int) : Option (List UInt8 × List UInt8) := if (nodes.getD i.toNat default).kind = 0 then some ((nodes.getD i.toNat default).tag.data.toList, (nodes.getD i.toNat default).text.data.toList) else none
def dupNode (nodes : List Nd) (n : Nd) : Bool := n.kind == 2 && (!decide ((keysL n.kids).filter (hasI nodes)).Nodup || !decide (((keysL n.kids).filter (hasI nodes)).filterMap (leaf nodes)).Nodup)
def twiceF (nodes : List Nd) : Bool := nodes.any (dupNode nodes)
def TwOK (nodes : List Nd) : Prop := ∀ (B : Nat) (w : World) (h : List NV) (opn : List Int) (names : List (List UInt8 × Int)) (gv ov : Value) (mb : Nat), h.map (·.1) = nodes → Rep B w h opn names gv ov mb →
  Calls Tryd.prog 41 #[gv] w fun e w' => e = .returned (.bool (twiceF nodes)) ∧ Below w.heap.size w w'
theorem rep_nil {B : Nat} {w : World} {mb : Nat} (M : MapRep B w mb []) : Rep B w [] [] [] (.slice none 0 0) (.slice none 0 0) mb :=
  ⟨World.ownsRow_nil _ _ _ _, World.ownsRow_nil _ _ _ _, fun i hi => absurd hi (by simp), fun i j hi => absurd hi (by simp), fun i hi => absurd hi (by simp), M⟩
theorem blk_nil {mb b : Nat} (h : Blk [] (.slice none 0 0) (.slice none 0 0) mb b) : b = mb := by
  rcases h with e | e | ⟨i, hi, _⟩ | e
  · cases e
  · cases e
  · simp at hi
  · exact e
theorem mrep_below {B : Nat} {w w' : World} {mb : Nat} {names : List (List UInt8 × Int)} (M : MapRep B w mb names) (h : Below w.heap.size w w') : MapRep B w' mb names := M.kept (h.block mb M.lt)
theorem mrep_sets {B : Nat} {w w' : World} {mb g : Nat} {o : Obj} {T : TypeId} {cs : Array Value} {names : List (List UInt8 × Int)} (M : MapRep B w mb names) (S : Eng.Sets w w' g o) (hk : w.heap[g]? = some (.cells cs T (0, 0))) : MapRep B w' mb names := M.kept (S.far mb fun e => box_map hk M (by rw [e]))
def aliasF (d : Dc) (x : Evt.Ev) : Dc × Int :=
  match find d.names x.anchor.data.toList with
  | none => (d, 11)
  | some c => kidF d c.toNat
theorem aliasF_no {d : Dc} {x : Evt.Ev} (h : find d.names x.anchor.data.toList = none) : aliasF d x = (d, 11) := by unfold aliasF; rw [h]
theorem aliasF_is {d : Dc} {x : Evt.Ev} {n : Nat} (h : find d.names x.anchor.data.toList = some (n : Int)) : aliasF d x = kidF d n := by unfold aliasF; rw [h]; rfl
end Dc
end Go.Proofs.YtgnmjaacnmkgnaaDoor.X
end
section
namespace Go.Proofs.YtgnmjaacnmkgnaaDoor.X
open Go.RowKit Go.Shelf Go.Proofs Go.Maps
set_option linter.unusedVariables false
set_option linter.unusedSimpArgs false
namespace Tm
section
variable {w w' : World} {B mb n : Nat} {kt : TypeId} {L : List Value}
theorem Cn.mono (X : Cn w B mb kt n L) {n' : Nat} (h : n ≤ n') : Cn w B mb kt n' L := by
  obtain ⟨l, D, h1, h2⟩ := X; exact ⟨l, D, h1.mono h, h2⟩
theorem Cn.sets {g : Nat} {o : Obj} {T : TypeId} {cs : Array Value} (X : Cn w B mb kt n L) (S : Eng.Sets w w' g o) (hk : w.heap[g]? = some (.cells cs T (0, 0))) : Cn w' B mb kt n L := X.keep (S.far _ (fun e => X.ne hk e.symm))
theorem Cn.eqL (X : Cn w B mb kt n L) {L' : List Value} (h : L' = L) : Cn w B mb kt n L' := h ▸ X
theorem mem_of {v : Value} (h : cnt (v :: L) v > 1) : v ∈ L := by
  by_cases hm : v ∈ L
  · exact hm
  · rw [cnt_same, cnt_zero hm] at h; omega
theorem not_of {v : Value} (h : ¬ cnt (v :: L) v > 1) : v ∉ L := fun hm => h (by rw [cnt_same]; have := cnt_pos hm; omega)
end
def leafB (nd : List Dc.Nd) (i : Int) : Option (ByteArray × ByteArray) := if (nd.getD i.toNat default).kind = 0 then some ((nd.getD i.toNat default).tag, (nd.getD i.toNat default).text) else none
def kv1 (i : Int) : Value := .int .i64 i
def kv2 (p : ByteArray × ByteArray) : Value := .agg #[.string p.1, .string p.2]
def fil (nd : List Dc.Nd) (ks : List Int) (m : Nat) : List Int := (ks.take m).filter (Dc.hasI nd)
def K1 (nd : List Dc.Nd) (ks : List Int) (m : Nat) : List Value := ((fil nd ks m).map kv1).reverse
def K2 (nd : List Dc.Nd) (ks : List Int) (m : Nat) : List Value := (((fil nd ks m).filterMap (leafB nd)).map kv2).reverse
def Ok (nd : List Dc.Nd) (ks : List Int) (m : Nat) : Prop := (fil nd ks m).Nodup ∧ ((fil nd ks m).filterMap (leafB nd)).Nodup
section
variable {nd : List Dc.Nd} {ks : List Int} {m : Nat} {key : Int}
theorem fil_len : (fil nd ks m).length ≤ m := by
  unfold fil; have h1 := List.length_filter_le (Dc.hasI nd) (ks.take m); have h2 := List.length_take_le m ks; omega
theorem K1_len : (K1 nd ks m).length ≤ m := by unfold K1; rw [List.length_reverse, List.length_map]; exact fil_len
theorem K2_len : (K2 nd ks m).length ≤ m := by
  unfold K2; rw [List.length_reverse, List.length_map]; have h1 := List.length_filterMap_le (leafB nd) (fil nd ks m); have h2 := fil_len (nd := nd) (ks := ks) (m := m); omega
theorem fil_not (hm : m < ks.length) (hk : key = ks.getD m 0) (h : Dc.hasI nd key = false) : fil nd ks (m + 1) = fil nd ks m := by
  have hk' : key = ks.getD m default := hk
  unfold fil; rw [Rwt.take_one hm, List.filter_append, ← hk', List.filter_cons_of_neg (by simp [h]), List.filter_nil, List.append_nil]
theorem fil_has (hm : m < ks.length) (hk : key = ks.getD m 0) (h : Dc.hasI nd key = true) : fil nd ks (m + 1) = fil nd ks m ++ [key] := by
  have hk' : key = ks.getD m default := hk
  unfold fil; rw [Rwt.take_one hm, List.filter_append, ← hk', List.filter_cons_of_pos h, List.filter_nil]
theorem K1_not (hm : m < ks.length) (hk : key = ks.getD m 0) (h : Dc.hasI nd key = false) : K1 nd ks (m + 1) = K1 nd ks m := by unfold K1; rw [fil_not hm hk h]
theorem K2_not (hm : m < ks.length) (hk : key = ks.getD m 0) (h : Dc.hasI nd key = false) : K2 nd ks (m + 1) = K2 nd ks m := by unfold K2; rw [fil_not hm hk h]
theorem K1_has (hm : m < ks.length) (hk : key = ks.getD m 0) (h : Dc.hasI nd key = true) : K1 nd ks (m + 1) = kv1 key :: K1 nd ks m := by unfold K1; rw [fil_has hm hk h]; simp
theorem K2_none (hm : m < ks.length) (hk : key = ks.getD m 0) (h : Dc.hasI nd key = true) (hl : leafB nd key = none) : K2 nd ks (m + 1) = K2 nd ks m := by unfold K2; rw [fil_has hm hk h, List.filterMap_append]; simp [hl]
theorem K2_some (hm : m < ks.length) (hk : key = ks.getD m 0) (h : Dc.hasI nd key = true) {p : ByteArray × ByteArray} (hl : leafB nd key = some p) : K2 nd ks (m + 1) = kv2 p :: K2 nd ks m := by unfold K2; rw [fil_has hm hk h, List.filterMap_append]; simp [hl]
theorem mem1 : kv1 key ∈ K1 nd ks m ↔ key ∈ fil nd ks m := by
  unfold K1
  rw [List.mem_reverse, List.mem_map]
  refine ⟨?_, fun h => ⟨key, h, rfl⟩⟩
  rintro ⟨x, hx, he⟩
  unfold kv1 at he; injection he with _ he; exact he ▸ hx
theorem mem2 {p : ByteArray × ByteArray} : kv2 p ∈ K2 nd ks m ↔ p ∈ (fil nd ks m).filterMap (leafB nd) := by
  unfold K2
  rw [List.mem_reverse, List.mem_map]
  refine ⟨?_, fun h => ⟨p, h, rfl⟩⟩
  rintro ⟨x, hx, he⟩
  have : x = p := by
    unfold kv2 at he
    simp at he
    exact Prod.ext he.1 he.2
  exact this ▸ hx
theorem nodup_snoc {α : Type} {l : List α} {x : α} : (l ++ [x]).Nodup ↔ l.Nodup ∧ x ∉ l := by
  rw [List.nodup_append]
  simp only [List.nodup_cons, List.not_mem_nil, not_false_eq_true, List.nodup_nil, and_self, true_and, List.mem_singleton]
  refine ⟨fun ⟨h1, h2⟩ => ⟨h1, fun h => h2 x h x rfl rfl⟩, fun ⟨h1, h2⟩ => ⟨h1, fun a ha b hb e => h2 ?_⟩⟩
  subst hb; subst e; exact ha
theorem ok_zero : Ok nd ks 0 := by unfold Ok fil; simp
theorem ok_not (hm : m < ks.length) (hk : key = ks.getD m 0) (h : Dc.hasI nd key = false) (H : Ok nd ks m) : Ok nd ks (m + 1) := by unfold Ok; rw [fil_not hm hk h]; exact H
theorem ok_none (hm : m < ks.length) (hk : key = ks.getD m 0) (h : Dc.hasI nd key = true) (hl : leafB nd key = none) (h1 : kv1 key ∉ K1 nd ks m) (H : Ok nd ks m) : Ok nd ks (m + 1) := by
  unfold Ok; rw [fil_has hm hk h, List.filterMap_append]; simp only [List.filterMap_cons, hl, List.filterMap_nil, List.append_nil]
  exact ⟨nodup_snoc.2 ⟨H.1, fun h => h1 (mem1.2 h)⟩, H.2⟩
theorem ok_some (hm : m < ks.length) (hk : key = ks.getD m 0) (h : Dc.hasI nd key = true) {p : ByteArray × ByteArray} (hl : leafB nd key = some p) (h1 : kv1 key ∉ K1 nd ks m) (h2 : kv2 p ∉ K2 nd ks m) (H : Ok nd ks m) : Ok nd ks (m + 1) := by
  unfold Ok; rw [fil_has hm hk h, List.filterMap_append]; simp only [List.filterMap_cons, hl, List.filterMap_nil]
  exact ⟨nodup_snoc.2 ⟨H.1, fun h => h1 (mem1.2 h)⟩, nodup_snoc.2 ⟨H.2, fun h => h2 (mem2.2 h)⟩⟩
theorem leaf_eq (i : Int) : Dc.leaf nd i = (leafB nd i).map fun p => (p.1.data.toList, p.2.data.toList) := by
  unfold Dc.leaf leafB; split <;> rfl
theorem data_inj {a b : ByteArray} (h : a.data.toList = b.data.toList) : a = b := by
  cases a; cases b; simp at h; rw [h]
theorem leaves (l : List Int) : (l.filterMap (Dc.leaf nd)).Nodup ↔ (l.filterMap (leafB nd)).Nodup := by
  have e : l.filterMap (Dc.leaf nd) = (l.filterMap (leafB nd)).map fun p => (p.1.data.toList, p.2.data.toList) := by
    rw [List.map_filterMap]; congr 1; funext i; exact leaf_eq i
  rw [e]
  unfold List.Nodup
  rw [List.pairwise_map]
  refine ⟨fun h => h.imp fun hn he => hn (by rw [he]), fun h => h.imp fun hn he => hn ?_⟩
  simp only [Prod.mk.injEq] at he
  exact Prod.ext (data_inj he.1) (data_inj he.2)
theorem sub_fil (h : m ≤ ks.length) : (fil nd ks m).Sublist (ks.filter (Dc.hasI nd)) := (List.take_sublist m ks).filter _
theorem dup_iff {n : Dc.Nd} (h2 : n.kind = 2) (hk : ks = Dc.keysL n.kids) : Dc.dupNode nd n = false ↔ Ok nd ks ks.length := by
  unfold Dc.dupNode Ok fil
  rw [← hk, List.take_length, ← leaves]
  simp [h2]
theorem dup_kind {n : Dc.Nd} (h2 : n.kind ≠ 2) : Dc.dupNode nd n = false := by
  unfold Dc.dupNode
  have : (n.kind == 2) = false := by simpa using h2
  rw [this]; rfl
theorem dup_one {n : Dc.Nd} (h2 : n.kind = 2) (hk : ks = Dc.keysL n.kids) (hm : m < ks.length) (hkey : key = ks.getD m 0) (h : Dc.hasI nd key = true) (hin : kv1 key ∈ K1 nd ks m) : Dc.dupNode nd n = true := by
  cases hd : Dc.dupNode nd n with
  | true => rfl
  | false =>
    have H := ((dup_iff h2 hk).1 hd).1
    have hs : (fil nd ks (m + 1)).Nodup := by
      have h1 := sub_fil (nd := nd) (m := m + 1) (ks := ks) hm
      unfold fil at H; rw [List.take_length] at H
      exact h1.nodup H
    rw [fil_has hm hkey h] at hs
    exact absurd (mem1.1 hin) (nodup_snoc.1 hs).2
theorem dup_two {n : Dc.Nd} (h2 : n.kind = 2) (hk : ks = Dc.keysL n.kids) (hm : m < ks.length) (hkey : key = ks.getD m 0) (h : Dc.hasI nd key = true) {p : ByteArray × ByteArray} (hl : leafB nd key = some p) (hin : kv2 p ∈ K2 nd ks m) : Dc.dupNode nd n = true := by
  cases hd : Dc.dupNode nd n with
  | true => rfl
  | false =>
    have H := ((dup_iff h2 hk).1 hd).2
    have hs : ((fil nd ks (m + 1)).filterMap (leafB nd)).Nodup := by
      have h1 := (sub_fil (nd := nd) (m := m + 1) (ks := ks) hm).filterMap (leafB nd)
      unfold fil at H; rw [List.take_length] at H
      exact h1.nodup H
    rw [fil_has hm hkey h, List.filterMap_append] at hs
    simp only [List.filterMap_cons, hl, List.filterMap_nil] at hs
    exact absurd (mem2.1 hin) (nodup_snoc.1 hs).2
theorem twice_true {k : Nat} (hk : k < nd.length) (h : Dc.dupNode nd (nd.getD k default) = true) : Dc.twiceF nd = true := by
  unfold Dc.twiceF; rw [List.any_eq_true]
  refine ⟨nd.getD k default, ?_, h⟩
  rw [List.getD_eq_getElem?_getD, List.getElem?_eq_getElem hk]; exact List.getElem_mem hk
theorem twice_false (h : ∀ j, j < nd.length → Dc.dupNode nd (nd.getD j default) = false) : Dc.twiceF nd = false := by
  unfold Dc.twiceF; rw [List.any_eq_false]
  intro n hn
  obtain ⟨j, hj, rfl⟩ := List.mem_iff_getElem.1 hn
  have := h j hj
  rw [List.getD_eq_getElem?_getD, List.getElem?_eq_getElem hj] at this
  simpa using this
theorem none_step {k : Nat} (h : ∀ j, j < k → Dc.dupNode nd (nd.getD j default) = false) (h1 : Dc.dupNode nd (nd.getD k default) = false) : ∀ j, j < k + 1 → Dc.dupNode nd (nd.getD j default) = false := fun j hj => by
  rcases Nat.lt_or_eq_of_le (Nat.le_of_lt_succ hj) with h2 | rfl
  · exact h j h2
  · exact h1
end
def Small (nd : List Dc.Nd) : Prop := ∀ n ∈ nd, n.kids.length ≤ 1000000 ∧ n.tag.size ≤ 1000000 ∧ n.text.size ≤ 1000000
theorem Small.at_ {nd : List Dc.Nd} (h : Small nd) {k : Nat} (hk : k < nd.length) : (nd.getD k default).kids.length ≤ 1000000 ∧ (nd.getD k default).tag.size ≤ 1000000 ∧ (nd.getD k default).text.size ≤ 1000000 := by
  refine h _ ?_
  rw [List.getD_eq_getElem?_getD, List.getElem?_eq_getElem hk]; exact List.getElem_mem hk
theorem keys_len : ∀ l : List Int, (Dc.keysL l).length ≤ l.length
  | [] => Nat.le_refl _
  | [a] => Nat.le_refl _
  | a :: b :: t => by
    have := keys_len t
    show (Dc.keysL t).length + 1 ≤ t.length + 1 + 1
    omega
theorem own_drew {w : World} {B size m d : Nat} {e : TypeId} {v : Value} {xs : List Value} (h : w.ownsRow B e size v m xs) : ({ w with drawn := d } : World).ownsRow B e size v m xs := h
theorem Cn.drew {w : World} {B mb n d : Nat} {kt : TypeId} {L : List Value} (X : Cn w B mb kt n L) : Cn ({ w with drawn := d } : World) B mb kt n L := X.keep rfl
theorem run_leaf {a : Act} {o : Oper} {x y : Operand} {s t : ByteArray} {u : World} (hop : o.op = .build 105 #[(0, x), (1, y)]) (hx : a.eval x = .string s) (hy : a.eval y = .string t) : (execOp a.eval o).run Tryd.prog u = .ok (.value (.agg #[.string s, .string t])) u := by
  unfold execOp; rw [hop]; simp only [List.map_toArray, List.map_cons, List.map_nil, hx, hy]; go_simp
end Tm
end Go.Proofs.YtgnmjaacnmkgnaaDoor.X
end
