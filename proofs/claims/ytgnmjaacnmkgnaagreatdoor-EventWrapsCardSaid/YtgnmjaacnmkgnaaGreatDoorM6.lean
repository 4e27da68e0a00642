/- Words and walks that the row of EventWraps needs: printed by programs, and plain laws. -/
import Derived.Test.YtgnmjaacnmkgnaaGreatDoorM5
import Derived.Test.YtgnmjaacnmkgnaaGreatDoorM0
import Derived.Test.YtgnmjaacnmkgnaaGreatDoorM4
namespace Go.Proofs.YtgnmjaacnmkgnaaGreatDoorW.PrintWords
end Go.Proofs.YtgnmjaacnmkgnaaGreatDoorW.PrintWords
namespace Go.Proofs.YtgnmjaacnmkgnaaGreatDoorW.PrintLast
end Go.Proofs.YtgnmjaacnmkgnaaGreatDoorW.PrintLast
namespace Go.Proofs.YtgnmjaacnmkgnaaGreatDoorW.PrintMore
end Go.Proofs.YtgnmjaacnmkgnaaGreatDoorW.PrintMore
section
namespace Go.Proofs.YtgnmjaacnmkgnaaGreatDoor.X
open Go.RowKit Go.Shelf Go.Proofs Go.Proofs.YtgnmjaacnmkgnaaGreatDoorW.PrintWords Go.Proofs.YtgnmjaacnmkgnaaGreatDoorW.PrintLast Go.Proofs.YtgnmjaacnmkgnaaGreatDoorW.PrintMore
set_option linter.unusedVariables false
set_option linter.unusedSimpArgs false
attribute [local go_sem] max2_int min2_int max_two min_two
set_option maxHeartbeats 4000000 in
set_option maxRecDepth 100000 in
theorem Evt.right_calls (x : Evt.Ev) (w : World) (hT : Tabs.Holds w) (hsz : x.text.size ≤ 9223372036854775807) : Calls Tryz.prog 25 #[.agg #[.int .i64 x.kind, .string x.anchor, .string x.tag, .string x.text, .bool x.plain]] w fun e w' => e = .returned (.bool (Evt.rightE x)) ∧ Below w.heap.size w w' := by
 refine Eng.enter Tryz.func25 rfl fun act0 d0 s0 v0 => ?_
 have s0 : act0.tmps.size = 80 := s0
 have h0_0 : act0.eval (.tmp 0) = .agg #[.int .i64 x.kind, .string x.anchor, .string x.tag, .string x.text, .bool x.plain] := v0 0 (by simp)
 clear v0
 have bl0 : Below w.heap.size w w := Below.refl _ _
 refine wp_seq ?_
 refine Eng.regionS (Eng.still [fun u_ => True, fun u_ => u_ = .bool false]) (fun i => ([.alloc 29 #[.int .i64 x.kind, .string x.anchor, .string x.tag, .string x.text, .bool x.plain], .plain] : List Eng.Kind).getD i .plain) 2 0 80 s0 rfl (by kernel_rfl) (Eng.still_stable _) (Or.inr (Eng.still_any _)) ?_ ?_
 ·refine .cons (fun _ => ?_) (.cons (fun _ => ?_) (.nil))
  ·refine Eng.made rfl (by simp) rfl (fun a w' hd ho => ?_) (fun _ _ => trivial)
   exact Eng.run_box rfl ((ho 0 (by kernel_rfl)).trans h0_0)
  ·exact Eng.plain rfl rfl fun a w' H => Eng.vr rfl (Eng.run_assign rfl (rfl : a.eval (.const (.bool false)) = .bool false))
 intro act1 w1 T
 obtain ⟨g1_1, h1_1, rg1_1, lg1_1_1, kg1_1_1⟩ := T.al 0 1 _ _ rfl rfl rfl (by kernel_rfl)
 have d1 := T.defers.trans d0
 have s1 := T.size.trans s0
 have bl1 := bl0.trans (T.below.mono bl0.size)
 clear T
 refine Eng.tail_nil ?_
 first | show Code.wp Tryz.prog _ _ _ _ | skip
 refine wp_seq ?_
 refine wp_block ?_
 refine wp_seq ?_
 obtain ⟨q6, Bq6⟩ : ∃ b : Bool, b = (decide (x.kind < 0)) := ⟨_, rfl⟩
 obtain ⟨q10, Bq10⟩ : ∃ b : Bool, b = (decide (x.kind > 7)) := ⟨_, rfl⟩
 obtain ⟨q11, Bq11⟩ : ∃ b : Bool, b = (q6 || q10) := ⟨_, rfl⟩
 obtain ⟨q15, Bq15⟩ : ∃ b : Bool, b = (Lib.validD x.text.data.toList) := ⟨_, rfl⟩
 obtain ⟨q16, Bq16⟩ : ∃ b : Bool, b = (!q15) := ⟨_, rfl⟩
 obtain ⟨q17, Bq17⟩ : ∃ b : Bool, b = (q11 || q16) := ⟨_, rfl⟩
 refine Eng.regionS (Eng.still [fun u_ => u_ = .pointer (some ⟨g1_1, 0, none⟩), fun u_ => u_ = .int .i64 x.kind, fun u_ => u_ = .bool q6, fun u_ => u_ = .bool q6, fun u_ => u_ = bif (q6 == false) then (.pointer (some ⟨g1_1, 0, none⟩)) else undef, fun u_ => u_ = bif (q6 == false) then (.int .i64 x.kind) else undef, fun u_ => u_ = bif (q6 == false) then (.bool q10) else undef, fun u_ => u_ = .bool q11, fun u_ => u_ = .bool q11, fun u_ => u_ = bif (q11 == false) then (.pointer (some ⟨g1_1, 3, none⟩)) else undef, fun u_ => u_ = bif (q11 == false) then (.string x.text) else undef, fun u_ => u_ = bif (q11 == false) then (.bool q15) else undef, fun u_ => u_ = bif (q11 == false) then (.bool q16) else undef, fun u_ => u_ = .bool q17, fun u_ => u_ = .bool q17]) (fun _ => .plain) 15 0 80 s1 rfl (by kernel_rfl) (Eng.still_stable _) (Or.inr (Eng.still_any _)) ?_ ?_
 ·refine .cons (fun _ => ?_) (.cons (fun _ => ?_) (.cons (fun _ => ?_) (.cons (fun _ => ?_) (.cons (fun _ => ?_) (.cons (fun _ => ?_) (.cons (fun _ => ?_) (.cons (fun _ => ?_) (.cons (fun _ => ?_) (.cons (fun _ => ?_) (.cons (fun _ => ?_) (.cons (fun _ => ?_) (.cons (fun _ => ?_) (.cons (fun _ => ?_) (.cons (fun _ => ?_) (.nil)))))))))))))))
  ·exact Eng.plain rfl rfl fun a w' H => Eng.vr rfl (Eng.run_fieldb rfl Tryz.underlying29 0 (by kernel_rfl) ((H.kept 1 (by kernel_rfl)).trans h1_1))
  ·exact Eng.plain rfl rfl fun a w' H => Eng.vr rfl (Eng.run_loadb rfl (H.dep 0 4 (by kernel_rfl) rfl) ((H.below.block _ lg1_1_1).trans kg1_1_1) rfl (by kernel_rfl))
  ·refine Eng.plain rfl rfl fun a w' H => ?_
   refine Eng.vr (v := .bool (decide (x.kind < 0))) (by show _ = Value.bool q6; rw [Bq6]) ?_
   have e0 : a.eval (.tmp 5) = .int .i64 x.kind := (H.dep 1 5 (by kernel_rfl) rfl)
   have e1 : a.eval (.const (.int .i64 0)) = .int .i64 0 := (rfl : a.eval (.const (.int .i64 0)) = .int .i64 0)
   simp only [execOp, resolve, List.map_toArray, List.map_cons, List.map_nil, e0, e1]
   go_simp
   all_goals first | rfl | (simp; done) | (rw [Bool.eq_iff_iff]; simp; done) | omega | (split <;> first | (simp_all; done) | (split <;> simp_all; done)) | skip
  ·exact Eng.plain rfl rfl fun a w' H => Eng.vr rfl (Eng.run_move rfl (H.dep 2 6 (by kernel_rfl) rfl))
  ·refine Eng.guarded1 (j := 3) (d := 7) (b := q6) rfl rfl (by kernel_rfl) rfl (fun v w h => h) (fun hG w => Eng.off hG) fun hG a w' H => ?_
   exact Eng.val (w1 := w') (v := .pointer (some ⟨g1_1, 0, none⟩)) (Eng.run_fieldb rfl Tryz.underlying29 0 (by kernel_rfl) ((H.kept 1 (by kernel_rfl)).trans h1_1)) (Below.refl _ _) (Eng.off' hG rfl)
  ·refine Eng.guarded1 (j := 3) (d := 7) (b := q6) rfl rfl (by kernel_rfl) rfl (fun v w h => h) (fun hG w => Eng.off hG) fun hG a w' H => ?_
   exact Eng.val (w1 := w') (v := .int .i64 x.kind) (Eng.run_loadb rfl (Eng.on (H.dep 4 8 (by kernel_rfl) rfl) hG) ((H.below.block _ lg1_1_1).trans kg1_1_1) rfl (by kernel_rfl)) (Below.refl _ _) (Eng.off' hG rfl)
  ·refine Eng.guarded1 (j := 3) (d := 7) (b := q6) rfl rfl (by kernel_rfl) rfl (fun v w h => h) (fun hG w => Eng.off hG) fun hG a w' H => ?_
   refine Eng.vr (v := .bool (decide (x.kind > 7))) (Eng.off' hG (by rw [Bq10])) ?_
   have e0 : a.eval (.tmp 9) = .int .i64 x.kind := (Eng.on (H.dep 5 9 (by kernel_rfl) rfl) hG)
   have e1 : a.eval (.const (.int .i64 7)) = .int .i64 7 := (rfl : a.eval (.const (.int .i64 7)) = .int .i64 7)
   simp only [execOp, resolve, List.map_toArray, List.map_cons, List.map_nil, e0, e1]
   go_simp
   all_goals first | rfl | (simp; done) | (rw [Bool.eq_iff_iff]; simp; done) | omega | (split <;> first | (simp_all; done) | (split <;> simp_all; done)) | skip
  ·exact Eng.plain rfl rfl fun a w' H => Eng.vr (v := .bool (q6 || q10)) (by show _ = Value.bool q11; rw [Bq11]) (Eng.run_or rfl rfl (G := true) (H.dep 3 7 (by kernel_rfl) rfl) (fun hb => (Eng.on (H.dep 6 10 (by kernel_rfl) rfl) (Eng.mk1 hb))))
  ·exact Eng.plain rfl rfl fun a w' H => Eng.vr rfl (Eng.run_move rfl (H.dep 7 11 (by kernel_rfl) rfl))
  ·refine Eng.guarded1 (j := 8) (d := 12) (b := q11) rfl rfl (by kernel_rfl) rfl (fun v w h => h) (fun hG w => Eng.off hG) fun hG a w' H => ?_
   exact Eng.val (w1 := w') (v := .pointer (some ⟨g1_1, 3, none⟩)) (Eng.run_fieldb rfl Tryz.underlying29 3 (by kernel_rfl) ((H.kept 1 (by kernel_rfl)).trans h1_1)) (Below.refl _ _) (Eng.off' hG rfl)
  ·refine Eng.guarded1 (j := 8) (d := 12) (b := q11) rfl rfl (by kernel_rfl) rfl (fun v w h => h) (fun hG w => Eng.off hG) fun hG a w' H => ?_
   exact Eng.val (w1 := w') (v := .string x.text) (Eng.run_loadb rfl (Eng.on (H.dep 9 13 (by kernel_rfl) rfl) hG) ((H.below.block _ lg1_1_1).trans kg1_1_1) rfl (by kernel_rfl)) (Below.refl _ _) (Eng.off' hG rfl)
  ·refine Eng.guarded1 (j := 8) (d := 12) (b := q11) rfl rfl (by kernel_rfl) rfl (fun v w h => h) (fun hG w => Eng.off hG) fun hG a w' H => ?_
   refine Eng.call Tryz.func38 (by kernel_rfl) (by kernel_rfl) rfl #[.string x.text] ?_ ?_
   ·have e0 : a.eval (.tmp 14) = .string x.text := (Eng.on (H.dep 10 14 (by kernel_rfl) rfl) hG); simp only [List.map_toArray, List.map_cons, List.map_nil, e0]
   refine (Tabs.valid x.text _ hsz (Tabs.below (Tabs.below hT bl1) H.below)).mono ?_
   rintro e w'' ⟨rfl, hb⟩
   exact ⟨_, rfl, (Eng.off' hG (by rw [Bq15])), hb⟩
  ·refine Eng.guarded1 (j := 8) (d := 12) (b := q11) rfl rfl (by kernel_rfl) rfl (fun v w h => h) (fun hG w => Eng.off hG) fun hG a w' H => ?_
   exact Eng.val (w1 := w') (v := .bool (!q15)) (Eng.run_not rfl (Eng.on (H.dep 11 15 (by kernel_rfl) rfl) hG)) (Below.refl _ _) (Eng.off' hG (by rw [Bq16]))
  ·exact Eng.plain rfl rfl fun a w' H => Eng.vr (v := .bool (q11 || q16)) (by show _ = Value.bool q17; rw [Bq17]) (Eng.run_or rfl rfl (G := true) (H.dep 8 12 (by kernel_rfl) rfl) (fun hb => (Eng.on (H.dep 12 16 (by kernel_rfl) rfl) (Eng.mk1 hb))))
  ·exact Eng.plain rfl rfl fun a w' H => Eng.vr rfl (Eng.run_assign rfl (H.dep 13 17 (by kernel_rfl) rfl))
 intro act2 w2 T
 have h1_2 := (T.rest 1 (by kernel_rfl)).trans h1_1
 have kg1_1_2 := (T.below.block _ lg1_1_1).trans kg1_1_1
 have lg1_1_2 := Nat.lt_of_lt_of_le lg1_1_1 T.below.size
 have h3_2 : act2.eval (.tmp 3) = .bool q17 := T.done 14 3 rfl rfl
 have d2 := T.defers.trans d1
 have s2 := T.size.trans s1
 have bl2 := bl1.trans (T.below.mono bl1.size)
 clear T
 refine Eng.tail_nil ?_
 first | show Code.wp Tryz.prog _ _ _ _ | skip
 refine wp_cond_split h3_2 (fun hq => ?_) (fun hq => ?_)
 ·
  have c3 := Bq17.symm.trans hq
  clear hq
  refine wp_seq ?_
  refine Eng.regionS (Eng.still [fun u_ => u_ = .bool false]) (fun _ => .plain) 1 0 80 s2 rfl (by kernel_rfl) (Eng.still_stable _) (Or.inr (Eng.still_any _)) ?_ ?_
  ·refine .cons (fun _ => ?_) (.nil)
   ·exact Eng.plain rfl rfl fun a w' H => Eng.vr rfl (Eng.run_assign rfl (rfl : a.eval (.const (.bool false)) = .bool false))
  intro act4 w4 T
  have h2_4 : act4.eval (.tmp 2) = .bool false := T.done 0 2 rfl rfl
  have d4 := T.defers.trans d2
  have bl4 := bl2.trans (T.below.mono bl2.size)
  clear T
  refine Eng.tail_nil ?_
  first | show Code.wp Tryz.prog _ _ _ _ | skip
  refine wp_ret ?_
  repeat (first | refine Eng.in_ret ?_ | refine Eng.then_ret ?_)
  have fin : false = Evt.rightE x := by
   have a3 := c3
   try simp only [Bq17, Bq16, Bq15, Bq11, Bq10, Bq6] at a3
   try simp only [Bq17, Bq16, Bq15, Bq11, Bq10, Bq6]
   unfold Evt.rightE
   simp only [a3, cond_true, cond_false]
  exact Eng.ret1 rfl d4 (h2_4.trans (congrArg Value.bool fin)) ⟨rfl, bl4⟩
 ·
  have c3 := Bq17.symm.trans hq
  clear hq
  refine wp_seq ?_
  obtain ⟨q21, Bq21⟩ : ∃ b : Bool, b = (x.kind == 7) := ⟨_, rfl⟩
  refine Eng.regionS (Eng.still [fun u_ => u_ = .pointer (some ⟨g1_1, 0, none⟩), fun u_ => u_ = .int .i64 x.kind, fun u_ => u_ = .bool q21, fun u_ => u_ = .bool q21]) (fun _ => .plain) 4 0 80 s2 rfl (by kernel_rfl) (Eng.still_stable _) (Or.inr (Eng.still_any _)) ?_ ?_
  ·refine .cons (fun _ => ?_) (.cons (fun _ => ?_) (.cons (fun _ => ?_) (.cons (fun _ => ?_) (.nil))))
   ·exact Eng.plain rfl rfl fun a w' H => Eng.vr rfl (Eng.run_fieldb rfl Tryz.underlying29 0 (by kernel_rfl) ((H.kept 1 (by kernel_rfl)).trans h1_2))
   ·exact Eng.plain rfl rfl fun a w' H => Eng.vr rfl (Eng.run_loadb rfl (H.dep 0 19 (by kernel_rfl) rfl) ((H.below.block _ lg1_1_2).trans kg1_1_2) rfl (by kernel_rfl))
   ·refine Eng.plain rfl rfl fun a w' H => ?_
    refine Eng.vr (v := .bool (x.kind == 7)) (by show _ = Value.bool q21; rw [Bq21]) ?_
    have e0 : a.eval (.tmp 20) = .int .i64 x.kind := (H.dep 1 20 (by kernel_rfl) rfl)
    have e1 : a.eval (.const (.int .i64 7)) = .int .i64 7 := (rfl : a.eval (.const (.int .i64 7)) = .int .i64 7)
    simp only [execOp, resolve, List.map_toArray, List.map_cons, List.map_nil, e0, e1]
    go_simp
    all_goals first | rfl | (simp; done) | (rw [Bool.eq_iff_iff]; simp; done) | omega | (split <;> first | (simp_all; done) | (split <;> simp_all; done)) | skip
   ·exact Eng.plain rfl rfl fun a w' H => Eng.vr rfl (Eng.run_assign rfl (H.dep 2 21 (by kernel_rfl) rfl))
  intro act6 w6 T
  have h1_6 := (T.rest 1 (by kernel_rfl)).trans h1_2
  have kg1_1_6 := (T.below.block _ lg1_1_2).trans kg1_1_2
  have lg1_1_6 := Nat.lt_of_lt_of_le lg1_1_2 T.below.size
  have h18_6 : act6.eval (.tmp 18) = .bool q21 := T.done 3 18 rfl rfl
  have d6 := T.defers.trans d2
  have s6 := T.size.trans s2
  have bl6 := bl2.trans (T.below.mono bl2.size)
  clear T
  refine Eng.tail_nil ?_
  first | show Code.wp Tryz.prog _ _ _ _ | skip
  refine wp_cond_split h18_6 (fun hq => ?_) (fun hq => ?_)
  ·
   have c18 := Bq21.symm.trans hq
   clear hq
   refine wp_seq ?_
   obtain ⟨q24, Bq24⟩ : ∃ b : Bool, b = (T.lex_Name.g x.anchor) := ⟨_, rfl⟩
   obtain ⟨q28, Bq28⟩ : ∃ b : Bool, b = (x.tag.toList.isEmpty) := ⟨_, rfl⟩
   obtain ⟨q29, Bq29⟩ : ∃ b : Bool, b = (q24 && q28) := ⟨_, rfl⟩
   obtain ⟨q33, Bq33⟩ : ∃ b : Bool, b = (x.text.toList.isEmpty) := ⟨_, rfl⟩
   obtain ⟨q34, Bq34⟩ : ∃ b : Bool, b = (q29 && q33) := ⟨_, rfl⟩
   obtain ⟨q38, Bq38⟩ : ∃ b : Bool, b = (!x.plain) := ⟨_, rfl⟩
   obtain ⟨q39, Bq39⟩ : ∃ b : Bool, b = (q34 && q38) := ⟨_, rfl⟩
   refine Eng.regionS (Eng.still [fun u_ => u_ = .pointer (some ⟨g1_1, 1, none⟩), fun u_ => u_ = .string x.anchor, fun u_ => u_ = .bool q24, fun u_ => u_ = .bool q24, fun u_ => u_ = bif (q24 == true) then (.pointer (some ⟨g1_1, 2, none⟩)) else undef, fun u_ => u_ = bif (q24 == true) then (.string x.tag) else undef, fun u_ => u_ = bif (q24 == true) then (.bool q28) else undef, fun u_ => u_ = .bool q29, fun u_ => u_ = .bool q29, fun u_ => u_ = bif (q29 == true) then (.pointer (some ⟨g1_1, 3, none⟩)) else undef, fun u_ => u_ = bif (q29 == true) then (.string x.text) else undef, fun u_ => u_ = bif (q29 == true) then (.bool q33) else undef, fun u_ => u_ = .bool q34, fun u_ => u_ = .bool q34, fun u_ => u_ = bif (q34 == true) then (.pointer (some ⟨g1_1, 4, none⟩)) else undef, fun u_ => u_ = bif (q34 == true) then (.bool x.plain) else undef, fun u_ => u_ = bif (q34 == true) then (.bool q38) else undef, fun u_ => u_ = .bool q39, fun u_ => u_ = .bool q39]) (fun _ => .plain) 19 0 80 s6 rfl (by kernel_rfl) (Eng.still_stable _) (Or.inr (Eng.still_any _)) ?_ ?_
   ·refine .cons (fun _ => ?_) (.cons (fun _ => ?_) (.cons (fun _ => ?_) (.cons (fun _ => ?_) (.cons (fun _ => ?_) (.cons (fun _ => ?_) (.cons (fun _ => ?_) (.cons (fun _ => ?_) (.cons (fun _ => ?_) (.cons (fun _ => ?_) (.cons (fun _ => ?_) (.cons (fun _ => ?_) (.cons (fun _ => ?_) (.cons (fun _ => ?_) (.cons (fun _ => ?_) (.cons (fun _ => ?_) (.cons (fun _ => ?_) (.cons (fun _ => ?_) (.cons (fun _ => ?_) (.nil)))))))))))))))))))
    ·exact Eng.plain rfl rfl fun a w' H => Eng.vr rfl (Eng.run_fieldb rfl Tryz.underlying29 1 (by kernel_rfl) ((H.kept 1 (by kernel_rfl)).trans h1_6))
    ·exact Eng.plain rfl rfl fun a w' H => Eng.vr rfl (Eng.run_loadb rfl (H.dep 0 22 (by kernel_rfl) rfl) ((H.below.block _ lg1_1_6).trans kg1_1_6) rfl (by kernel_rfl))
    ·refine Eng.plain rfl rfl fun a w' H => ?_
     refine Eng.call Tryz.func39 (by kernel_rfl) (by kernel_rfl) rfl #[.string x.anchor] ?_ ?_
     ·have e0 : a.eval (.tmp 23) = .string x.anchor := (H.dep 1 23 (by kernel_rfl) rfl); simp only [List.map_toArray, List.map_cons, List.map_nil, e0]
     refine (T.lex_Name.calls x.anchor _ _ rfl).mono ?_
     rintro e w'' ⟨rfl, hb⟩
     exact ⟨_, rfl, (by show _ = Value.bool q24; rw [Bq24]), hb⟩
    ·exact Eng.plain rfl rfl fun a w' H => Eng.vr rfl (Eng.run_move rfl (H.dep 2 24 (by kernel_rfl) rfl))
    ·refine Eng.guarded1 (j := 3) (d := 25) (b := q24) rfl rfl (by kernel_rfl) rfl (fun v w h => h) (fun hG w => Eng.off hG) fun hG a w' H => ?_
     exact Eng.val (w1 := w') (v := .pointer (some ⟨g1_1, 2, none⟩)) (Eng.run_fieldb rfl Tryz.underlying29 2 (by kernel_rfl) ((H.kept 1 (by kernel_rfl)).trans h1_6)) (Below.refl _ _) (Eng.off' hG rfl)
    ·refine Eng.guarded1 (j := 3) (d := 25) (b := q24) rfl rfl (by kernel_rfl) rfl (fun v w h => h) (fun hG w => Eng.off hG) fun hG a w' H => ?_
     exact Eng.val (w1 := w') (v := .string x.tag) (Eng.run_loadb rfl (Eng.on (H.dep 4 26 (by kernel_rfl) rfl) hG) ((H.below.block _ lg1_1_6).trans kg1_1_6) rfl (by kernel_rfl)) (Below.refl _ _) (Eng.off' hG rfl)
    ·refine Eng.guarded1 (j := 3) (d := 25) (b := q24) rfl rfl (by kernel_rfl) rfl (fun v w h => h) (fun hG w => Eng.off hG) fun hG a w' H => ?_
     refine Eng.vr (v := .bool x.tag.toList.isEmpty) (Eng.off' hG (by rw [Bq28])) ?_
     have e0 : a.eval (.tmp 27) = .string x.tag := (Eng.on (H.dep 5 27 (by kernel_rfl) rfl) hG)
     have e1 : a.eval (.const (.string ⟨#[]⟩)) = .string ⟨#[]⟩ := (rfl : a.eval (.const (.string ⟨#[]⟩)) = .string ⟨#[]⟩)
     simp only [execOp, resolve, List.map_toArray, List.map_cons, List.map_nil, e0, e1]
     go_simp
     all_goals first | rfl | (simp; done) | (rw [Bool.eq_iff_iff]; simp; done) | omega | (split <;> first | (simp_all; done) | (split <;> simp_all; done)) | skip
    ·exact Eng.plain rfl rfl fun a w' H => Eng.vr (v := .bool (q24 && q28)) (by show _ = Value.bool q29; rw [Bq29]) (Eng.run_and rfl rfl (G := true) (H.dep 3 25 (by kernel_rfl) rfl) (fun hb => (Eng.on (H.dep 6 28 (by kernel_rfl) rfl) (Eng.mk1 hb))))
    ·exact Eng.plain rfl rfl fun a w' H => Eng.vr rfl (Eng.run_move rfl (H.dep 7 29 (by kernel_rfl) rfl))
    ·refine Eng.guarded1 (j := 8) (d := 30) (b := q29) rfl rfl (by kernel_rfl) rfl (fun v w h => h) (fun hG w => Eng.off hG) fun hG a w' H => ?_
     exact Eng.val (w1 := w') (v := .pointer (some ⟨g1_1, 3, none⟩)) (Eng.run_fieldb rfl Tryz.underlying29 3 (by kernel_rfl) ((H.kept 1 (by kernel_rfl)).trans h1_6)) (Below.refl _ _) (Eng.off' hG rfl)
    ·refine Eng.guarded1 (j := 8) (d := 30) (b := q29) rfl rfl (by kernel_rfl) rfl (fun v w h => h) (fun hG w => Eng.off hG) fun hG a w' H => ?_
     exact Eng.val (w1 := w') (v := .string x.text) (Eng.run_loadb rfl (Eng.on (H.dep 9 31 (by kernel_rfl) rfl) hG) ((H.below.block _ lg1_1_6).trans kg1_1_6) rfl (by kernel_rfl)) (Below.refl _ _) (Eng.off' hG rfl)
    ·refine Eng.guarded1 (j := 8) (d := 30) (b := q29) rfl rfl (by kernel_rfl) rfl (fun v w h => h) (fun hG w => Eng.off hG) fun hG a w' H => ?_
     refine Eng.vr (v := .bool x.text.toList.isEmpty) (Eng.off' hG (by rw [Bq33])) ?_
     have e0 : a.eval (.tmp 32) = .string x.text := (Eng.on (H.dep 10 32 (by kernel_rfl) rfl) hG)
     have e1 : a.eval (.const (.string ⟨#[]⟩)) = .string ⟨#[]⟩ := (rfl : a.eval (.const (.string ⟨#[]⟩)) = .string ⟨#[]⟩)
     simp only [execOp, resolve, List.map_toArray, List.map_cons, List.map_nil, e0, e1]
     go_simp
     all_goals first | rfl | (simp; done) | (rw [Bool.eq_iff_iff]; simp; done) | omega | (split <;> first | (simp_all; done) | (split <;> simp_all; done)) | skip
    ·exact Eng.plain rfl rfl fun a w' H => Eng.vr (v := .bool (q29 && q33)) (by show _ = Value.bool q34; rw [Bq34]) (Eng.run_and rfl rfl (G := true) (H.dep 8 30 (by kernel_rfl) rfl) (fun hb => (Eng.on (H.dep 11 33 (by kernel_rfl) rfl) (Eng.mk1 hb))))
    ·exact Eng.plain rfl rfl fun a w' H => Eng.vr rfl (Eng.run_move rfl (H.dep 12 34 (by kernel_rfl) rfl))
    ·refine Eng.guarded1 (j := 13) (d := 35) (b := q34) rfl rfl (by kernel_rfl) rfl (fun v w h => h) (fun hG w => Eng.off hG) fun hG a w' H => ?_
     exact Eng.val (w1 := w') (v := .pointer (some ⟨g1_1, 4, none⟩)) (Eng.run_fieldb rfl Tryz.underlying29 4 (by kernel_rfl) ((H.kept 1 (by kernel_rfl)).trans h1_6)) (Below.refl _ _) (Eng.off' hG rfl)
    ·refine Eng.guarded1 (j := 13) (d := 35) (b := q34) rfl rfl (by kernel_rfl) rfl (fun v w h => h) (fun hG w => Eng.off hG) fun hG a w' H => ?_
     exact Eng.val (w1 := w') (v := .bool x.plain) (Eng.run_loadb rfl (Eng.on (H.dep 14 36 (by kernel_rfl) rfl) hG) ((H.below.block _ lg1_1_6).trans kg1_1_6) rfl (by kernel_rfl)) (Below.refl _ _) (Eng.off' hG rfl)
    ·refine Eng.guarded1 (j := 13) (d := 35) (b := q34) rfl rfl (by kernel_rfl) rfl (fun v w h => h) (fun hG w => Eng.off hG) fun hG a w' H => ?_
     exact Eng.val (w1 := w') (v := .bool (!x.plain)) (Eng.run_not rfl (Eng.on (H.dep 15 37 (by kernel_rfl) rfl) hG)) (Below.refl _ _) (Eng.off' hG (by rw [Bq38]))
    ·exact Eng.plain rfl rfl fun a w' H => Eng.vr (v := .bool (q34 && q38)) (by show _ = Value.bool q39; rw [Bq39]) (Eng.run_and rfl rfl (G := true) (H.dep 13 35 (by kernel_rfl) rfl) (fun hb => (Eng.on (H.dep 16 38 (by kernel_rfl) rfl) (Eng.mk1 hb))))
    ·exact Eng.plain rfl rfl fun a w' H => Eng.vr rfl (Eng.run_assign rfl (H.dep 17 39 (by kernel_rfl) rfl))
   intro act8 w8 T
   have h2_8 : act8.eval (.tmp 2) = .bool q39 := T.done 18 2 rfl rfl
   have d8 := T.defers.trans d6
   have bl8 := bl6.trans (T.below.mono bl6.size)
   clear T
   refine Eng.tail_nil ?_
   first | show Code.wp Tryz.prog _ _ _ _ | skip
   refine wp_ret ?_
   repeat (first | refine Eng.in_ret ?_ | refine Eng.then_ret ?_)
   have fin : q39 = Evt.rightE x := by
    have a3 := c3
    try simp only [Bq39, Bq38, Bq34, Bq33, Bq29, Bq28, Bq24, Bq21, Bq17, Bq16, Bq15, Bq11, Bq10, Bq6] at a3
    have a18 := c18
    try simp only [Bq39, Bq38, Bq34, Bq33, Bq29, Bq28, Bq24, Bq21, Bq17, Bq16, Bq15, Bq11, Bq10, Bq6] at a18
    try simp only [Bq39, Bq38, Bq34, Bq33, Bq29, Bq28, Bq24, Bq21, Bq17, Bq16, Bq15, Bq11, Bq10, Bq6]
    unfold Evt.rightE
    simp only [a3, a18, cond_true, cond_false]
   exact Eng.ret1 rfl d8 (h2_8.trans (congrArg Value.bool fin)) ⟨rfl, bl8⟩
  ·
   have c18 := Bq21.symm.trans hq
   clear hq
   refine wp_seq ?_
   obtain ⟨q42, Bq42⟩ : ∃ b : Bool, b = (Evt.isNode x.kind) := ⟨_, rfl⟩
   obtain ⟨q43, Bq43⟩ : ∃ b : Bool, b = (!q42) := ⟨_, rfl⟩
   refine Eng.regionS (Eng.still [fun u_ => u_ = .agg #[.int .i64 x.kind, .string x.anchor, .string x.tag, .string x.text, .bool x.plain], fun u_ => u_ = .bool q42, fun u_ => u_ = .bool q43, fun u_ => u_ = .bool q43]) (fun _ => .plain) 4 0 80 s6 rfl (by kernel_rfl) (Eng.still_stable _) (Or.inr (Eng.still_any _)) ?_ ?_
   ·refine .cons (fun _ => ?_) (.cons (fun _ => ?_) (.cons (fun _ => ?_) (.cons (fun _ => ?_) (.nil))))
    ·refine Eng.plain rfl rfl fun a w' H => ?_
     have kb := (H.below.block _ lg1_1_6).trans kg1_1_6
     have z0 : w'.cell? ⟨g1_1, 0, none⟩ = some (.int .i64 x.kind) := (Eng.cells kb 0).trans rfl
     have z1 : w'.cell? ⟨g1_1, 1, none⟩ = some (.string x.anchor) := (Eng.cells kb 1).trans rfl
     have z2 : w'.cell? ⟨g1_1, 2, none⟩ = some (.string x.tag) := (Eng.cells kb 2).trans rfl
     have z3 : w'.cell? ⟨g1_1, 3, none⟩ = some (.string x.text) := (Eng.cells kb 3).trans rfl
     have z4 : w'.cell? ⟨g1_1, 4, none⟩ = some (.bool x.plain) := (Eng.cells kb 4).trans rfl
     refine Eng.vr (v := .agg #[.int .i64 x.kind, .string x.anchor, .string x.tag, .string x.text, .bool x.plain]) rfl ?_
     have e0 : a.eval (.tmp 1) = .pointer (some ⟨g1_1, 0, none⟩) := ((H.kept 1 (by kernel_rfl)).trans h1_6)
     simp only [execOp, resolve, List.map_toArray, List.map_cons, List.map_nil, e0]
     go_simp
     all_goals first | rfl | (simp; done) | (rw [Bool.eq_iff_iff]; simp; done) | omega | (split <;> first | (simp_all; done) | (split <;> simp_all; done)) | skip
    ·refine Eng.plain rfl rfl fun a w' H => ?_
     refine Eng.call Tryz.func27 (by kernel_rfl) (by kernel_rfl) rfl #[.agg #[.int .i64 x.kind, .string x.anchor, .string x.tag, .string x.text, .bool x.plain]] ?_ ?_
     ·have e0 : a.eval (.tmp 41) = .agg #[.int .i64 x.kind, .string x.anchor, .string x.tag, .string x.text, .bool x.plain] := (H.dep 0 41 (by kernel_rfl) rfl); simp only [List.map_toArray, List.map_cons, List.map_nil, e0]
     refine (Evt.node_calls x _).mono ?_
     rintro e w'' ⟨rfl, hb⟩
     exact ⟨_, rfl, (by show _ = Value.bool q42; rw [Bq42]), hb⟩
    ·exact Eng.plain rfl rfl fun a w' H => Eng.vr (v := .bool (!q42)) (by show _ = Value.bool q43; rw [Bq43]) (Eng.run_not rfl (H.dep 1 42 (by kernel_rfl) rfl))
    ·exact Eng.plain rfl rfl fun a w' H => Eng.vr rfl (Eng.run_assign rfl (H.dep 2 43 (by kernel_rfl) rfl))
   intro act10 w10 T
   have h1_10 := (T.rest 1 (by kernel_rfl)).trans h1_6
   have kg1_1_10 := (T.below.block _ lg1_1_6).trans kg1_1_6
   have lg1_1_10 := Nat.lt_of_lt_of_le lg1_1_6 T.below.size
   have h40_10 : act10.eval (.tmp 40) = .bool q43 := T.done 3 40 rfl rfl
   have d10 := T.defers.trans d6
   have s10 := T.size.trans s6
   have bl10 := bl6.trans (T.below.mono bl6.size)
   clear T
   refine Eng.tail_nil ?_
   first | show Code.wp Tryz.prog _ _ _ _ | skip
   refine wp_cond_split h40_10 (fun hq => ?_) (fun hq => ?_)
   ·
    have c40 := Bq43.symm.trans hq
    clear hq
    refine wp_seq ?_
    refine Eng.regionS (Eng.still [fun u_ => u_ = .agg #[.int .i64 x.kind, .string x.anchor, .string x.tag, .string x.text, .bool x.plain], fun u_ => u_ = .pointer (some ⟨g1_1, 0, none⟩), fun u_ => u_ = .int .i64 x.kind, fun u_ => u_ = .agg #[.int .i64 x.kind, .string ⟨#[]⟩, .string ⟨#[]⟩, .string ⟨#[]⟩, .bool false], fun u_ => u_ = .bool (Evt.plainE x), fun u_ => u_ = .bool (Evt.plainE x)]) (fun _ => .plain) 6 0 80 s10 rfl (by kernel_rfl) (Eng.still_stable _) (Or.inr (Eng.still_any _)) ?_ ?_
    ·refine .cons (fun _ => ?_) (.cons (fun _ => ?_) (.cons (fun _ => ?_) (.cons (fun _ => ?_) (.cons (fun _ => ?_) (.cons (fun _ => ?_) (.nil))))))
     ·refine Eng.plain rfl rfl fun a w' H => ?_
      have kb := (H.below.block _ lg1_1_10).trans kg1_1_10
      have z0 : w'.cell? ⟨g1_1, 0, none⟩ = some (.int .i64 x.kind) := (Eng.cells kb 0).trans rfl
      have z1 : w'.cell? ⟨g1_1, 1, none⟩ = some (.string x.anchor) := (Eng.cells kb 1).trans rfl
      have z2 : w'.cell? ⟨g1_1, 2, none⟩ = some (.string x.tag) := (Eng.cells kb 2).trans rfl
      have z3 : w'.cell? ⟨g1_1, 3, none⟩ = some (.string x.text) := (Eng.cells kb 3).trans rfl
      have z4 : w'.cell? ⟨g1_1, 4, none⟩ = some (.bool x.plain) := (Eng.cells kb 4).trans rfl
      refine Eng.vr (v := .agg #[.int .i64 x.kind, .string x.anchor, .string x.tag, .string x.text, .bool x.plain]) rfl ?_
      have e0 : a.eval (.tmp 1) = .pointer (some ⟨g1_1, 0, none⟩) := ((H.kept 1 (by kernel_rfl)).trans h1_10)
      simp only [execOp, resolve, List.map_toArray, List.map_cons, List.map_nil, e0]
      go_simp
      all_goals first | rfl | (simp; done) | (rw [Bool.eq_iff_iff]; simp; done) | omega | (split <;> first | (simp_all; done) | (split <;> simp_all; done)) | skip
     ·exact Eng.plain rfl rfl fun a w' H => Eng.vr rfl (Eng.run_fieldb rfl Tryz.underlying29 0 (by kernel_rfl) ((H.kept 1 (by kernel_rfl)).trans h1_10))
     ·exact Eng.plain rfl rfl fun a w' H => Eng.vr rfl (Eng.run_loadb rfl (H.dep 1 45 (by kernel_rfl) rfl) ((H.below.block _ lg1_1_10).trans kg1_1_10) rfl (by kernel_rfl))
     ·refine Eng.plain rfl rfl fun a w' H => ?_
      refine Eng.vr (v := .agg #[.int .i64 x.kind, .string ⟨#[]⟩, .string ⟨#[]⟩, .string ⟨#[]⟩, .bool false]) rfl ?_
      have e0 : a.eval (.tmp 46) = .int .i64 x.kind := (H.dep 2 46 (by kernel_rfl) rfl)
      simp only [execOp, resolve, List.map_toArray, List.map_cons, List.map_nil, e0]
      go_simp
      all_goals first | rfl | (simp; done) | (rw [Bool.eq_iff_iff]; simp; done) | omega | skip
     ·refine Eng.plain rfl rfl fun a w' H => ?_
      refine Eng.vr (v := .bool (Evt.plainE x)) rfl ?_
      have e0 : a.eval (.tmp 44) = .agg #[.int .i64 x.kind, .string x.anchor, .string x.tag, .string x.text, .bool x.plain] := (H.dep 0 44 (by kernel_rfl) rfl)
      have e1 : a.eval (.tmp 47) = .agg #[.int .i64 x.kind, .string ⟨#[]⟩, .string ⟨#[]⟩, .string ⟨#[]⟩, .bool false] := (H.dep 3 47 (by kernel_rfl) rfl)
      simp only [execOp, resolve, List.map_toArray, List.map_cons, List.map_nil, e0, e1]
      go_simp
      (cases hp : x.plain <;> by_cases h1 : x.anchor.toList = [] <;> by_cases h2 : x.tag.toList = [] <;> by_cases h3 : x.text.toList = [] <;> simp [Evt.plainE, h1, h2, h3, hp])
     ·exact Eng.plain rfl rfl fun a w' H => Eng.vr rfl (Eng.run_assign rfl (H.dep 4 48 (by kernel_rfl) rfl))
    intro act12 w12 T
    have h2_12 : act12.eval (.tmp 2) = .bool (Evt.plainE x) := T.done 5 2 rfl rfl
    have d12 := T.defers.trans d10
    have bl12 := bl10.trans (T.below.mono bl10.size)
    clear T
    refine Eng.tail_nil ?_
    first | show Code.wp Tryz.prog _ _ _ _ | skip
    refine wp_ret ?_
    repeat (first | refine Eng.in_ret ?_ | refine Eng.then_ret ?_)
    have fin : Evt.plainE x = Evt.rightE x := by
     have a3 := c3
     try simp only [Bq43, Bq42, Bq21, Bq17, Bq16, Bq15, Bq11, Bq10, Bq6] at a3
     have a18 := c18
     try simp only [Bq43, Bq42, Bq21, Bq17, Bq16, Bq15, Bq11, Bq10, Bq6] at a18
     have a40 := c40
     try simp only [Bq43, Bq42, Bq21, Bq17, Bq16, Bq15, Bq11, Bq10, Bq6] at a40
     try simp only [Bq43, Bq42, Bq21, Bq17, Bq16, Bq15, Bq11, Bq10, Bq6]
     unfold Evt.rightE
     simp only [a3, a18, a40, cond_true, cond_false]
    exact Eng.ret1 rfl d12 (h2_12.trans (congrArg Value.bool fin)) ⟨rfl, bl12⟩
   ·
    have c40 := Bq43.symm.trans hq
    clear hq
    refine wp_seq ?_
    obtain ⟨q52, Bq52⟩ : ∃ b : Bool, b = (!(x.kind == 6)) := ⟨_, rfl⟩
    obtain ⟨q56, Bq56⟩ : ∃ b : Bool, b = (!(x.text.toList.isEmpty)) := ⟨_, rfl⟩
    obtain ⟨q60, Bq60⟩ : ∃ b : Bool, b = (q56 || x.plain) := ⟨_, rfl⟩
    obtain ⟨q61, Bq61⟩ : ∃ b : Bool, b = (q52 && q60) := ⟨_, rfl⟩
    refine Eng.regionS (Eng.still [fun u_ => u_ = .pointer (some ⟨g1_1, 0, none⟩), fun u_ => u_ = .int .i64 x.kind, fun u_ => u_ = .bool q52, fun u_ => u_ = .bool q52, fun u_ => u_ = bif (q52 == true) then (.pointer (some ⟨g1_1, 3, none⟩)) else undef, fun u_ => u_ = bif (q52 == true) then (.string x.text) else undef, fun u_ => u_ = bif (q52 == true) then (.bool q56) else undef, fun u_ => u_ = bif (q52 == true) then (.bool q56) else undef, fun u_ => u_ = bif ((q52 == true) && (q56 == false)) then (.pointer (some ⟨g1_1, 4, none⟩)) else undef, fun u_ => u_ = bif ((q52 == true) && (q56 == false)) then (.bool x.plain) else undef, fun u_ => u_ = bif (q52 == true) then (.bool q60) else undef, fun u_ => u_ = .bool q61, fun u_ => u_ = .bool q61]) (fun _ => .plain) 13 0 80 s10 rfl (by kernel_rfl) (Eng.still_stable _) (Or.inr (Eng.still_any _)) ?_ ?_
    ·refine .cons (fun _ => ?_) (.cons (fun _ => ?_) (.cons (fun _ => ?_) (.cons (fun _ => ?_) (.cons (fun _ => ?_) (.cons (fun _ => ?_) (.cons (fun _ => ?_) (.cons (fun _ => ?_) (.cons (fun _ => ?_) (.cons (fun _ => ?_) (.cons (fun _ => ?_) (.cons (fun _ => ?_) (.cons (fun _ => ?_) (.nil)))))))))))))
     ·exact Eng.plain rfl rfl fun a w' H => Eng.vr rfl (Eng.run_fieldb rfl Tryz.underlying29 0 (by kernel_rfl) ((H.kept 1 (by kernel_rfl)).trans h1_10))
     ·exact Eng.plain rfl rfl fun a w' H => Eng.vr rfl (Eng.run_loadb rfl (H.dep 0 50 (by kernel_rfl) rfl) ((H.below.block _ lg1_1_10).trans kg1_1_10) rfl (by kernel_rfl))
     ·refine Eng.plain rfl rfl fun a w' H => ?_
      refine Eng.vr (v := .bool (!(x.kind == 6))) (by show _ = Value.bool q52; rw [Bq52]) ?_
      have e0 : a.eval (.tmp 51) = .int .i64 x.kind := (H.dep 1 51 (by kernel_rfl) rfl)
      have e1 : a.eval (.const (.int .i64 6)) = .int .i64 6 := (rfl : a.eval (.const (.int .i64 6)) = .int .i64 6)
      simp only [execOp, resolve, List.map_toArray, List.map_cons, List.map_nil, e0, e1]
      go_simp
      all_goals first | rfl | (simp; done) | (rw [Bool.eq_iff_iff]; simp; done) | omega | (split <;> first | (simp_all; done) | (split <;> simp_all; done)) | skip
     ·exact Eng.plain rfl rfl fun a w' H => Eng.vr rfl (Eng.run_move rfl (H.dep 2 52 (by kernel_rfl) rfl))
     ·refine Eng.guarded1 (j := 3) (d := 53) (b := q52) rfl rfl (by kernel_rfl) rfl (fun v w h => h) (fun hG w => Eng.off hG) fun hG a w' H => ?_
      exact Eng.val (w1 := w') (v := .pointer (some ⟨g1_1, 3, none⟩)) (Eng.run_fieldb rfl Tryz.underlying29 3 (by kernel_rfl) ((H.kept 1 (by kernel_rfl)).trans h1_10)) (Below.refl _ _) (Eng.off' hG rfl)
     ·refine Eng.guarded1 (j := 3) (d := 53) (b := q52) rfl rfl (by kernel_rfl) rfl (fun v w h => h) (fun hG w => Eng.off hG) fun hG a w' H => ?_
      exact Eng.val (w1 := w') (v := .string x.text) (Eng.run_loadb rfl (Eng.on (H.dep 4 54 (by kernel_rfl) rfl) hG) ((H.below.block _ lg1_1_10).trans kg1_1_10) rfl (by kernel_rfl)) (Below.refl _ _) (Eng.off' hG rfl)
     ·refine Eng.guarded1 (j := 3) (d := 53) (b := q52) rfl rfl (by kernel_rfl) rfl (fun v w h => h) (fun hG w => Eng.off hG) fun hG a w' H => ?_
      refine Eng.vr (v := .bool (!(x.text.toList.isEmpty))) (Eng.off' hG (by rw [Bq56])) ?_
      have e0 : a.eval (.tmp 55) = .string x.text := (Eng.on (H.dep 5 55 (by kernel_rfl) rfl) hG)
      have e1 : a.eval (.const (.string ⟨#[]⟩)) = .string ⟨#[]⟩ := (rfl : a.eval (.const (.string ⟨#[]⟩)) = .string ⟨#[]⟩)
      simp only [execOp, resolve, List.map_toArray, List.map_cons, List.map_nil, e0, e1]
      go_simp
      all_goals first | rfl | (simp; done) | (rw [Bool.eq_iff_iff]; simp; done) | omega | (split <;> first | (simp_all; done) | (split <;> simp_all; done)) | skip
     ·refine Eng.guarded1 (j := 3) (d := 53) (b := q52) rfl rfl (by kernel_rfl) rfl (fun v w h => h) (fun hG w => Eng.off hG) fun hG a w' H => ?_
      exact Eng.val (w1 := w') (v := .bool q56) (Eng.run_move rfl (Eng.on (H.dep 6 56 (by kernel_rfl) rfl) hG)) (Below.refl _ _) (Eng.off' hG rfl)
     ·refine Eng.guarded (j := 7) (d := 57) (b := q56) (G := (q52 == true)) rfl rfl (by kernel_rfl) rfl (fun v w h => h) (fun hG w => Eng.off hG) fun hG a w' H => ?_
      exact Eng.val (w1 := w') (v := .pointer (some ⟨g1_1, 4, none⟩)) (Eng.run_fieldb rfl Tryz.underlying29 4 (by kernel_rfl) ((H.kept 1 (by kernel_rfl)).trans h1_10)) (Below.refl _ _) (Eng.off' hG rfl)
     ·refine Eng.guarded (j := 7) (d := 57) (b := q56) (G := (q52 == true)) rfl rfl (by kernel_rfl) rfl (fun v w h => h) (fun hG w => Eng.off hG) fun hG a w' H => ?_
      exact Eng.val (w1 := w') (v := .bool x.plain) (Eng.run_loadb rfl (Eng.on (H.dep 8 58 (by kernel_rfl) rfl) hG) ((H.below.block _ lg1_1_10).trans kg1_1_10) rfl (by kernel_rfl)) (Below.refl _ _) (Eng.off' hG rfl)
     ·refine Eng.guarded1 (j := 3) (d := 53) (b := q52) rfl rfl (by kernel_rfl) rfl (fun v w h => h) (fun hG w => Eng.off hG) fun hG a w' H => ?_
      exact Eng.val (w1 := w') (v := .bool (q56 || x.plain)) (Eng.run_or rfl rfl (G := true) (Eng.on (H.dep 7 57 (by kernel_rfl) rfl) hG) (fun hb => (Eng.on (H.dep 9 59 (by kernel_rfl) rfl) (Eng.mk2 (Eng.mk1 (Eng.one2 hG)) hb)))) (Below.refl _ _) (Eng.off' hG (by rw [Bq60]))
     ·exact Eng.plain rfl rfl fun a w' H => Eng.vr (v := .bool (q52 && q60)) (by show _ = Value.bool q61; rw [Bq61]) (Eng.run_and rfl rfl (G := true) (H.dep 3 53 (by kernel_rfl) rfl) (fun hb => (Eng.on (H.dep 10 60 (by kernel_rfl) rfl) (Eng.mk1 hb))))
     ·exact Eng.plain rfl rfl fun a w' H => Eng.vr rfl (Eng.run_assign rfl (H.dep 11 61 (by kernel_rfl) rfl))
    intro act14 w14 T
    have h1_14 := (T.rest 1 (by kernel_rfl)).trans h1_10
    have kg1_1_14 := (T.below.block _ lg1_1_10).trans kg1_1_10
    have lg1_1_14 := Nat.lt_of_lt_of_le lg1_1_10 T.below.size
    have h49_14 : act14.eval (.tmp 49) = .bool q61 := T.done 12 49 rfl rfl
    have d14 := T.defers.trans d10
    have s14 := T.size.trans s10
    have bl14 := bl10.trans (T.below.mono bl10.size)
    clear T
    refine Eng.tail_nil ?_
    first | show Code.wp Tryz.prog _ _ _ _ | skip
    refine wp_cond_split h49_14 (fun hq => ?_) (fun hq => ?_)
    ·
     have c49 := Bq61.symm.trans hq
     clear hq
     refine wp_seq ?_
     refine Eng.regionS (Eng.still [fun u_ => u_ = .bool false]) (fun _ => .plain) 1 0 80 s14 rfl (by kernel_rfl) (Eng.still_stable _) (Or.inr (Eng.still_any _)) ?_ ?_
     ·refine .cons (fun _ => ?_) (.nil)
      ·exact Eng.plain rfl rfl fun a w' H => Eng.vr rfl (Eng.run_assign rfl (rfl : a.eval (.const (.bool false)) = .bool false))
     intro act16 w16 T
     have h2_16 : act16.eval (.tmp 2) = .bool false := T.done 0 2 rfl rfl
     have d16 := T.defers.trans d14
     have bl16 := bl14.trans (T.below.mono bl14.size)
     clear T
     refine Eng.tail_nil ?_
     first | show Code.wp Tryz.prog _ _ _ _ | skip
     refine wp_ret ?_
     repeat (first | refine Eng.in_ret ?_ | refine Eng.then_ret ?_)
     have fin : false = Evt.rightE x := by
      have a3 := c3
      try simp only [Bq61, Bq60, Bq56, Bq52, Bq43, Bq42, Bq21, Bq17, Bq16, Bq15, Bq11, Bq10, Bq6] at a3
      have a18 := c18
      try simp only [Bq61, Bq60, Bq56, Bq52, Bq43, Bq42, Bq21, Bq17, Bq16, Bq15, Bq11, Bq10, Bq6] at a18
      have a40 := c40
      try simp only [Bq61, Bq60, Bq56, Bq52, Bq43, Bq42, Bq21, Bq17, Bq16, Bq15, Bq11, Bq10, Bq6] at a40
      have a49 := c49
      try simp only [Bq61, Bq60, Bq56, Bq52, Bq43, Bq42, Bq21, Bq17, Bq16, Bq15, Bq11, Bq10, Bq6] at a49
      try simp only [Bq61, Bq60, Bq56, Bq52, Bq43, Bq42, Bq21, Bq17, Bq16, Bq15, Bq11, Bq10, Bq6]
      unfold Evt.rightE
      simp only [a3, a18, a40, a49, cond_true, cond_false]
     exact Eng.ret1 rfl d16 (h2_16.trans (congrArg Value.bool fin)) ⟨rfl, bl16⟩
    ·
     have c49 := Bq61.symm.trans hq
     clear hq
     refine wp_skip ?_
     first | show Code.wp Tryz.prog _ _ _ _ | skip
     refine wp_seq ?_
     obtain ⟨q64, Bq64⟩ : ∃ b : Bool, b = (x.anchor.toList.isEmpty) := ⟨_, rfl⟩
     obtain ⟨q68, Bq68⟩ : ∃ b : Bool, b = (T.lex_Name.g x.anchor) := ⟨_, rfl⟩
     obtain ⟨q69, Bq69⟩ : ∃ b : Bool, b = (q64 || q68) := ⟨_, rfl⟩
     obtain ⟨q73, Bq73⟩ : ∃ b : Bool, b = (x.tag.toList.isEmpty) := ⟨_, rfl⟩
     obtain ⟨q77, Bq77⟩ : ∃ b : Bool, b = (Evt.tagR x.tag) := ⟨_, rfl⟩
     obtain ⟨q78, Bq78⟩ : ∃ b : Bool, b = (q73 || q77) := ⟨_, rfl⟩
     obtain ⟨q79, Bq79⟩ : ∃ b : Bool, b = (q69 && q78) := ⟨_, rfl⟩
     refine Eng.regionS (Eng.still [fun u_ => u_ = .pointer (some ⟨g1_1, 1, none⟩), fun u_ => u_ = .string x.anchor, fun u_ => u_ = .bool q64, fun u_ => u_ = .bool q64, fun u_ => u_ = bif (q64 == false) then (.pointer (some ⟨g1_1, 1, none⟩)) else undef, fun u_ => u_ = bif (q64 == false) then (.string x.anchor) else undef, fun u_ => u_ = bif (q64 == false) then (.bool q68) else undef, fun u_ => u_ = .bool q69, fun u_ => u_ = .bool q69, fun u_ => u_ = bif (q69 == true) then (.pointer (some ⟨g1_1, 2, none⟩)) else undef, fun u_ => u_ = bif (q69 == true) then (.string x.tag) else undef, fun u_ => u_ = bif (q69 == true) then (.bool q73) else undef, fun u_ => u_ = bif (q69 == true) then (.bool q73) else undef, fun u_ => u_ = bif ((q69 == true) && (q73 == false)) then (.pointer (some ⟨g1_1, 2, none⟩)) else undef, fun u_ => u_ = bif ((q69 == true) && (q73 == false)) then (.string x.tag) else undef, fun u_ => u_ = bif ((q69 == true) && (q73 == false)) then (.bool q77) else undef, fun u_ => u_ = bif (q69 == true) then (.bool q78) else undef, fun u_ => u_ = .bool q79, fun u_ => u_ = .bool q79]) (fun _ => .plain) 19 0 80 s14 rfl (by kernel_rfl) (Eng.still_stable _) (Or.inr (Eng.still_any _)) ?_ ?_
     ·refine .cons (fun _ => ?_) (.cons (fun _ => ?_) (.cons (fun _ => ?_) (.cons (fun _ => ?_) (.cons (fun _ => ?_) (.cons (fun _ => ?_) (.cons (fun _ => ?_) (.cons (fun _ => ?_) (.cons (fun _ => ?_) (.cons (fun _ => ?_) (.cons (fun _ => ?_) (.cons (fun _ => ?_) (.cons (fun _ => ?_) (.cons (fun _ => ?_) (.cons (fun _ => ?_) (.cons (fun _ => ?_) (.cons (fun _ => ?_) (.cons (fun _ => ?_) (.cons (fun _ => ?_) (.nil)))))))))))))))))))
      ·exact Eng.plain rfl rfl fun a w' H => Eng.vr rfl (Eng.run_fieldb rfl Tryz.underlying29 1 (by kernel_rfl) ((H.kept 1 (by kernel_rfl)).trans h1_14))
      ·exact Eng.plain rfl rfl fun a w' H => Eng.vr rfl (Eng.run_loadb rfl (H.dep 0 62 (by kernel_rfl) rfl) ((H.below.block _ lg1_1_14).trans kg1_1_14) rfl (by kernel_rfl))
      ·refine Eng.plain rfl rfl fun a w' H => ?_
       refine Eng.vr (v := .bool x.anchor.toList.isEmpty) (by show _ = Value.bool q64; rw [Bq64]) ?_
       have e0 : a.eval (.tmp 63) = .string x.anchor := (H.dep 1 63 (by kernel_rfl) rfl)
       have e1 : a.eval (.const (.string ⟨#[]⟩)) = .string ⟨#[]⟩ := (rfl : a.eval (.const (.string ⟨#[]⟩)) = .string ⟨#[]⟩)
       simp only [execOp, resolve, List.map_toArray, List.map_cons, List.map_nil, e0, e1]
       go_simp
       all_goals first | rfl | (simp; done) | (rw [Bool.eq_iff_iff]; simp; done) | omega | (split <;> first | (simp_all; done) | (split <;> simp_all; done)) | skip
      ·exact Eng.plain rfl rfl fun a w' H => Eng.vr rfl (Eng.run_move rfl (H.dep 2 64 (by kernel_rfl) rfl))
      ·refine Eng.guarded1 (j := 3) (d := 65) (b := q64) rfl rfl (by kernel_rfl) rfl (fun v w h => h) (fun hG w => Eng.off hG) fun hG a w' H => ?_
       exact Eng.val (w1 := w') (v := .pointer (some ⟨g1_1, 1, none⟩)) (Eng.run_fieldb rfl Tryz.underlying29 1 (by kernel_rfl) ((H.kept 1 (by kernel_rfl)).trans h1_14)) (Below.refl _ _) (Eng.off' hG rfl)
      ·refine Eng.guarded1 (j := 3) (d := 65) (b := q64) rfl rfl (by kernel_rfl) rfl (fun v w h => h) (fun hG w => Eng.off hG) fun hG a w' H => ?_
       exact Eng.val (w1 := w') (v := .string x.anchor) (Eng.run_loadb rfl (Eng.on (H.dep 4 66 (by kernel_rfl) rfl) hG) ((H.below.block _ lg1_1_14).trans kg1_1_14) rfl (by kernel_rfl)) (Below.refl _ _) (Eng.off' hG rfl)
      ·refine Eng.guarded1 (j := 3) (d := 65) (b := q64) rfl rfl (by kernel_rfl) rfl (fun v w h => h) (fun hG w => Eng.off hG) fun hG a w' H => ?_
       refine Eng.call Tryz.func39 (by kernel_rfl) (by kernel_rfl) rfl #[.string x.anchor] ?_ ?_
       ·have e0 : a.eval (.tmp 67) = .string x.anchor := (Eng.on (H.dep 5 67 (by kernel_rfl) rfl) hG); simp only [List.map_toArray, List.map_cons, List.map_nil, e0]
       refine (T.lex_Name.calls x.anchor _ _ rfl).mono ?_
       rintro e w'' ⟨rfl, hb⟩
       exact ⟨_, rfl, (Eng.off' hG (by rw [Bq68])), hb⟩
      ·exact Eng.plain rfl rfl fun a w' H => Eng.vr (v := .bool (q64 || q68)) (by show _ = Value.bool q69; rw [Bq69]) (Eng.run_or rfl rfl (G := true) (H.dep 3 65 (by kernel_rfl) rfl) (fun hb => (Eng.on (H.dep 6 68 (by kernel_rfl) rfl) (Eng.mk1 hb))))
      ·exact Eng.plain rfl rfl fun a w' H => Eng.vr rfl (Eng.run_move rfl (H.dep 7 69 (by kernel_rfl) rfl))
      ·refine Eng.guarded1 (j := 8) (d := 70) (b := q69) rfl rfl (by kernel_rfl) rfl (fun v w h => h) (fun hG w => Eng.off hG) fun hG a w' H => ?_
       exact Eng.val (w1 := w') (v := .pointer (some ⟨g1_1, 2, none⟩)) (Eng.run_fieldb rfl Tryz.underlying29 2 (by kernel_rfl) ((H.kept 1 (by kernel_rfl)).trans h1_14)) (Below.refl _ _) (Eng.off' hG rfl)
      ·refine Eng.guarded1 (j := 8) (d := 70) (b := q69) rfl rfl (by kernel_rfl) rfl (fun v w h => h) (fun hG w => Eng.off hG) fun hG a w' H => ?_
       exact Eng.val (w1 := w') (v := .string x.tag) (Eng.run_loadb rfl (Eng.on (H.dep 9 71 (by kernel_rfl) rfl) hG) ((H.below.block _ lg1_1_14).trans kg1_1_14) rfl (by kernel_rfl)) (Below.refl _ _) (Eng.off' hG rfl)
      ·refine Eng.guarded1 (j := 8) (d := 70) (b := q69) rfl rfl (by kernel_rfl) rfl (fun v w h => h) (fun hG w => Eng.off hG) fun hG a w' H => ?_
       refine Eng.vr (v := .bool x.tag.toList.isEmpty) (Eng.off' hG (by rw [Bq73])) ?_
       have e0 : a.eval (.tmp 72) = .string x.tag := (Eng.on (H.dep 10 72 (by kernel_rfl) rfl) hG)
       have e1 : a.eval (.const (.string ⟨#[]⟩)) = .string ⟨#[]⟩ := (rfl : a.eval (.const (.string ⟨#[]⟩)) = .string ⟨#[]⟩)
       simp only [execOp, resolve, List.map_toArray, List.map_cons, List.map_nil, e0, e1]
       go_simp
       all_goals first | rfl | (simp; done) | (rw [Bool.eq_iff_iff]; simp; done) | omega | (split <;> first | (simp_all; done) | (split <;> simp_all; done)) | skip
      ·refine Eng.guarded1 (j := 8) (d := 70) (b := q69) rfl rfl (by kernel_rfl) rfl (fun v w h => h) (fun hG w => Eng.off hG) fun hG a w' H => ?_
       exact Eng.val (w1 := w') (v := .bool q73) (Eng.run_move rfl (Eng.on (H.dep 11 73 (by kernel_rfl) rfl) hG)) (Below.refl _ _) (Eng.off' hG rfl)
      ·refine Eng.guarded (j := 12) (d := 74) (b := q73) (G := (q69 == true)) rfl rfl (by kernel_rfl) rfl (fun v w h => h) (fun hG w => Eng.off hG) fun hG a w' H => ?_
       exact Eng.val (w1 := w') (v := .pointer (some ⟨g1_1, 2, none⟩)) (Eng.run_fieldb rfl Tryz.underlying29 2 (by kernel_rfl) ((H.kept 1 (by kernel_rfl)).trans h1_14)) (Below.refl _ _) (Eng.off' hG rfl)
      ·refine Eng.guarded (j := 12) (d := 74) (b := q73) (G := (q69 == true)) rfl rfl (by kernel_rfl) rfl (fun v w h => h) (fun hG w => Eng.off hG) fun hG a w' H => ?_
       exact Eng.val (w1 := w') (v := .string x.tag) (Eng.run_loadb rfl (Eng.on (H.dep 13 75 (by kernel_rfl) rfl) hG) ((H.below.block _ lg1_1_14).trans kg1_1_14) rfl (by kernel_rfl)) (Below.refl _ _) (Eng.off' hG rfl)
      ·refine Eng.guarded (j := 12) (d := 74) (b := q73) (G := (q69 == true)) rfl rfl (by kernel_rfl) rfl (fun v w h => h) (fun hG w => Eng.off hG) fun hG a w' H => ?_
       refine Eng.call Tryz.func40 (by kernel_rfl) (by kernel_rfl) rfl #[.string x.tag] ?_ ?_
       ·have e0 : a.eval (.tmp 76) = .string x.tag := (Eng.on (H.dep 14 76 (by kernel_rfl) rfl) hG); simp only [List.map_toArray, List.map_cons, List.map_nil, e0]
       refine (T.tag_Right.calls x.tag _ _ (Evt.tagR_eq x.tag)).mono ?_
       rintro e w'' ⟨rfl, hb⟩
       exact ⟨_, rfl, (Eng.off' hG (by rw [Bq77])), hb⟩
      ·refine Eng.guarded1 (j := 8) (d := 70) (b := q69) rfl rfl (by kernel_rfl) rfl (fun v w h => h) (fun hG w => Eng.off hG) fun hG a w' H => ?_
       exact Eng.val (w1 := w') (v := .bool (q73 || q77)) (Eng.run_or rfl rfl (G := true) (Eng.on (H.dep 12 74 (by kernel_rfl) rfl) hG) (fun hb => (Eng.on (H.dep 15 77 (by kernel_rfl) rfl) (Eng.mk2 (Eng.mk1 (Eng.one2 hG)) hb)))) (Below.refl _ _) (Eng.off' hG (by rw [Bq78]))
      ·exact Eng.plain rfl rfl fun a w' H => Eng.vr (v := .bool (q69 && q78)) (by show _ = Value.bool q79; rw [Bq79]) (Eng.run_and rfl rfl (G := true) (H.dep 8 70 (by kernel_rfl) rfl) (fun hb => (Eng.on (H.dep 16 78 (by kernel_rfl) rfl) (Eng.mk1 hb))))
      ·exact Eng.plain rfl rfl fun a w' H => Eng.vr rfl (Eng.run_assign rfl (H.dep 17 79 (by kernel_rfl) rfl))
     intro act18 w18 T
     have h2_18 : act18.eval (.tmp 2) = .bool q79 := T.done 18 2 rfl rfl
     have d18 := T.defers.trans d14
     have bl18 := bl14.trans (T.below.mono bl14.size)
     clear T
     refine Eng.tail_nil ?_
     first | show Code.wp Tryz.prog _ _ _ _ | skip
     refine wp_ret ?_
     repeat (first | refine Eng.in_ret ?_ | refine Eng.then_ret ?_)
     have fin : q79 = Evt.rightE x := by
      have a3 := c3
      try simp only [Bq79, Bq78, Bq77, Bq73, Bq69, Bq68, Bq64, Bq61, Bq60, Bq56, Bq52, Bq43, Bq42, Bq21, Bq17, Bq16, Bq15, Bq11, Bq10, Bq6] at a3
      have a18 := c18
      try simp only [Bq79, Bq78, Bq77, Bq73, Bq69, Bq68, Bq64, Bq61, Bq60, Bq56, Bq52, Bq43, Bq42, Bq21, Bq17, Bq16, Bq15, Bq11, Bq10, Bq6] at a18
      have a40 := c40
      try simp only [Bq79, Bq78, Bq77, Bq73, Bq69, Bq68, Bq64, Bq61, Bq60, Bq56, Bq52, Bq43, Bq42, Bq21, Bq17, Bq16, Bq15, Bq11, Bq10, Bq6] at a40
      have a49 := c49
      try simp only [Bq79, Bq78, Bq77, Bq73, Bq69, Bq68, Bq64, Bq61, Bq60, Bq56, Bq52, Bq43, Bq42, Bq21, Bq17, Bq16, Bq15, Bq11, Bq10, Bq6] at a49
      try simp only [Bq79, Bq78, Bq77, Bq73, Bq69, Bq68, Bq64, Bq61, Bq60, Bq56, Bq52, Bq43, Bq42, Bq21, Bq17, Bq16, Bq15, Bq11, Bq10, Bq6]
      unfold Evt.rightE
      simp only [a3, a18, a40, a49, cond_true, cond_false]
     exact Eng.ret1 rfl d18 (h2_18.trans (congrArg Value.bool fin)) ⟨rfl, bl18⟩
end Go.Proofs.YtgnmjaacnmkgnaaGreatDoor.X
end
section
namespace Go.Proofs.YtgnmjaacnmkgnaaGreatDoor.X
open Go.RowKit Go.Shelf Go.Proofs
set_option linter.unusedVariables false
set_option linter.unusedSimpArgs false
namespace Evt
theorem rightR_bad {st : List (Int × Int)} {l : List Ev} {k : Nat} (hk : k < l.length) (h : rightE (l.getD k default) = false) : rightR rightE st (l.drop k) = false := by
  rw [Rwt.drop_one hk, rightR, h, Bool.false_and]
theorem rightR_none {st : List (Int × Int)} {l : List Ev} {k : Nat} (hk : k < l.length) (h : takeF st (l.getD k default).kind = none) : rightR rightE st (l.drop k) = false := by
  rw [Rwt.drop_one hk, rightR, h, Bool.and_false]
theorem rightR_go {st st' : List (Int × Int)} {l : List Ev} {k : Nat} (hk : k < l.length) (h1 : rightE (l.getD k default) = true) (h : takeF st (l.getD k default).kind = some st') : rightR rightE st (l.drop k) = rightR rightE st' (l.drop (k + 1)) := by
  rw [Rwt.drop_one hk, rightR, h, h1, Bool.true_and]
theorem rightR_end {st : List (Int × Int)} {l : List Ev} {k : Nat} (hk : k = l.length) : rightR rightE st (l.drop k) = st.isEmpty := by
  rw [hk, List.drop_length]; rfl
theorem pos_drop {st : List (Int × Int)} (h : ∀ t ∈ st, 0 ≤ t.1) : ∀ t ∈ st.dropLast, 0 ≤ t.1 := fun t ht => h t (List.dropLast_subset _ ht)
theorem pop_st {st st' : List (Int × Int)} {k : Int} {may : Int → Bool} (h : pop st k may = some st') : st' = st.dropLast := by
  unfold pop at h
  split at h
  · cases h
  · split at h
    · injection h with h; exact h.symm
    · cases h
theorem more_len {st : List (Int × Int)} : (more st).length = st.length := by
  rcases List.eq_nil_or_concat st with rfl | ⟨pre, t, rfl⟩
  · rfl
  · rw [List.concat_eq_append, more_snoc]; simp
theorem more_pos {st : List (Int × Int)} (h : ∀ t ∈ st, 0 ≤ t.1) : ∀ t ∈ more st, 0 ≤ t.1 := by
  rcases List.eq_nil_or_concat st with rfl | ⟨pre, t, rfl⟩
  · exact h
  · rw [List.concat_eq_append] at h; rw [List.concat_eq_append, more_snoc]
    intro u hu
    rcases List.mem_append.1 hu with hu | hu
    · exact h u (List.mem_append_left _ hu)
    · rw [List.mem_singleton.1 hu]; exact h t (by simp)
theorem take_good {st st' : List (Int × Int)} {k : Int} (h : takeF st k = some st') (hp : ∀ t ∈ st, 0 ≤ t.1) : (∀ t ∈ st', 0 ≤ t.1) ∧ st'.length ≤ st.length + 1 := by
  unfold takeF at h
  split at h
  · split at h
    · injection h with h; subst h; simp
    · cases h
  · split at h
    · rw [pop_st h]; exact ⟨pos_drop hp, by rw [List.length_dropLast]; omega⟩
    · split at h
      · rw [pop_st h]; exact ⟨pos_drop hp, by rw [List.length_dropLast]; omega⟩
      · split at h
        · rw [pop_st h]; exact ⟨pos_drop hp, by rw [List.length_dropLast]; omega⟩
        · split at h
          · cases h
          · split at h
            · rename_i hk
              injection h with h; subst h
              refine ⟨fun t ht => ?_, by rw [List.length_append, more_len]; exact Nat.le_refl _⟩
              rcases List.mem_append.1 ht with ht | ht
              · exact more_pos hp t ht
              · rw [List.mem_singleton.1 ht]; show (0 : Int) ≤ k; omega
            · injection h with h; subst h
              exact ⟨more_pos hp, by rw [more_len]; omega⟩
theorem take_calls (g : Nat) (o : Value) (x : Ev) (st : List (Int × Int)) (w W0 : World) (hB : Below w.heap.size w W0) (hlo : w.heap.size ≤ g) (hk : W0.heap[g]? = some (.cells #[o] 49 (0, 0))) (hO : W0.ownsRow w.heap.size 71 2 o st.length (opens st)) (hst : st.length ≤ 100000) (hp : ∀ t ∈ st, 0 ≤ t.1) :
    Calls Tryz.prog 26 #[.pointer (some ⟨g, 0, none⟩), .agg #[.int .i64 x.kind, .string x.anchor, .string x.tag, .string x.text, .bool x.plain]] W0 fun e w' => e = .returned (.bool (takeF st x.kind).isSome) ∧ Below w.heap.size w w' ∧ ∀ st', takeF st x.kind = some st' → ∃ o', Is w.heap.size W0 g o st' w' o' := by
  rcases List.eq_nil_or_concat st with rfl | ⟨pre, t, rfl⟩
  · exact take_nil g o x w W0 hB hlo hk hO
  · rw [List.concat_eq_append] at *
    exact take_top g o x pre t w W0 hB hlo hk hO hst (hp t (by simp))
end Evt
end Go.Proofs.YtgnmjaacnmkgnaaGreatDoor.X
end
