/- Words and walks that the row of ComposeNames needs: printed by programs, and plain laws. -/
import Derived.Test.YtgnmjaacnmkgnaaDoorM6
import Derived.Test.YtgnmjaacnmkgnaaDoorM3
import Derived.Test.YtgnmjaacnmkgnaaDoorM10
import Derived.Test.YtgnmjaacnmkgnaaDoorM0
import Derived.Test.YtgnmjaacnmkgnaaDoorM8
namespace Go.Proofs.YtgnmjaacnmkgnaaDoorW.PrintWords
end Go.Proofs.YtgnmjaacnmkgnaaDoorW.PrintWords
namespace Go.Proofs.YtgnmjaacnmkgnaaDoorW.PrintLast
end Go.Proofs.YtgnmjaacnmkgnaaDoorW.PrintLast
namespace Go.Proofs.YtgnmjaacnmkgnaaDoorW.PrintMore
end Go.Proofs.YtgnmjaacnmkgnaaDoorW.PrintMore
section
namespace Go.Proofs.YtgnmjaacnmkgnaaDoor.X
open Go.RowKit Go.Shelf Go.Proofs Go.Proofs.YtgnmjaacnmkgnaaDoorW.PrintWords Go.Proofs.YtgnmjaacnmkgnaaDoorW.PrintLast Go.Proofs.YtgnmjaacnmkgnaaDoorW.PrintMore
set_option linter.unusedVariables false
set_option linter.unusedSimpArgs false
attribute [local go_sem] max2_int min2_int max_two min_two
set_option maxHeartbeats 4000000 in
set_option maxRecDepth 100000 in
theorem Evt.right_calls (x : Evt.Ev) (w : World) (hT : Tabs.Holds w) (hsz : x.text.size ≤ 9223372036854775807) : Calls Tryd.prog 35 #[.agg #[.int .i64 x.kind, .string x.anchor, .string x.tag, .string x.text, .bool x.plain]] w fun e w' => e = .returned (.bool (Evt.rightE x)) ∧ Below w.heap.size w w' := by
 refine Eng.enter Tryd.func35 rfl fun act0 d0 s0 v0 => ?_
 have s0 : act0.tmps.size = 80 := s0
 have h0_0 : act0.eval (.tmp 0) = .agg #[.int .i64 x.kind, .string x.anchor, .string x.tag, .string x.text, .bool x.plain] := v0 0 (by simp)
 clear v0
 have bl0 : Below w.heap.size w w := Below.refl _ _
 refine wp_seq ?_
 refine Eng.regionS (Eng.still [fun u_ => True, fun u_ => u_ = .bool false]) (fun i => ([.alloc 30 #[.int .i64 x.kind, .string x.anchor, .string x.tag, .string x.text, .bool x.plain], .plain] : List Eng.Kind).getD i .plain) 2 0 80 s0 rfl (by kernel_rfl) (Eng.still_stable _) (Or.inr (Eng.still_any _)) ?_ ?_
 ·refine .c ?_ (.c ?_ (.nil))
  ·refine Eng.made rfl (by simp) rfl (fun a w' hd ho => ?_) (fun _ _ => trivial)
   exact Eng.run_box rfl ((ho 0 (by kernel_rfl)).trans h0_0)
  exact Eng.pv fun a w' H => Eng.vr rfl (Eng.run_assign rfl (rfl : a.eval (.const (.bool false)) = .bool false))
 intro act1 w1 T
 obtain ⟨g1_1, h1_1, rg1_1, lg1_1_1, kg1_1_1⟩ := T.al 0 1 _ _ rfl rfl rfl (by kernel_rfl)
 have d1 := T.e d0
 have s1 := T.z s0
 have bl1 := T.b bl0
 clear T
 refine Eng.tail_nil ?_
 refine wp_seq ?_
 refine wp_block ?_
 refine wp_seq ?_
 obtain ⟨q6, Bq6⟩ : ∃ b : Bool, b = (decide (x.kind < 0)) := ⟨_, rfl⟩
 obtain ⟨q10, Bq10⟩ : ∃ b : Bool, b = (decide (x.kind > 7)) := ⟨_, rfl⟩
 obtain ⟨q11, Bq11⟩ : ∃ b : Bool, b = (q6 || q10) := ⟨_, rfl⟩
 obtain ⟨q15, Bq15⟩ : ∃ b : Bool, b = (Lib.validD x.text.data.toList) := ⟨_, rfl⟩
 obtain ⟨q16, Bq16⟩ : ∃ b : Bool, b = (!q15) := ⟨_, rfl⟩
 obtain ⟨q17, Bq17⟩ : ∃ b : Bool, b = (q11 || q16) := ⟨_, rfl⟩
 refine Eng.rS [.pointer (some ⟨g1_1, 0, none⟩), .int .i64 x.kind, .bool q6, .bool q6, bif (q6 == false) then (.pointer (some ⟨g1_1, 0, none⟩)) else undef, bif (q6 == false) then (.int .i64 x.kind) else undef, bif (q6 == false) then (.bool q10) else undef, .bool q11, .bool q11, bif (q11 == false) then (.pointer (some ⟨g1_1, 3, none⟩)) else undef, bif (q11 == false) then (.string x.text) else undef, bif (q11 == false) then (.bool q15) else undef, bif (q11 == false) then (.bool q16) else undef, .bool q17, .bool q17] (fun _ => .plain) 15 0 s1 ?_ ?_
 ·refine .c ?_ (.c ?_ (.c ?_ (.c ?_ (.c ?_ (.c ?_ (.c ?_ (.c ?_ (.c ?_ (.c ?_ (.c ?_ (.c ?_ (.c ?_ (.c ?_ (.c ?_ (.nil)))))))))))))))
  ·exact Eng.pv fun a w' H => Eng.vr rfl (Eng.run_fieldb rfl Tryd.underlying30 0 (by kernel_rfl) (H.q 1 h1_1))
  ·exact Eng.pv fun a w' H => Eng.vr rfl (Eng.run_loadb rfl (H.d 0 4) ((H.below.block _ lg1_1_1).trans kg1_1_1) rfl (by kernel_rfl))
  ·refine Eng.pv fun a w' H => ?_
   refine Eng.vr (v := .bool (decide (x.kind < 0))) (by show _ = Value.bool q6; rw [Bq6]) ?_
   have e0 : a.eval (.tmp 5) = .int .i64 x.kind := (H.d 1 5)
   have e1 : a.eval (.const (.int .i64 0)) = .int .i64 0 := rfl
   simp only [execOp, resolve, List.map_toArray, List.map_cons, List.map_nil, e0, e1]
   go_simp
  ·exact Eng.pv fun a w' H => Eng.vr rfl (Eng.run_move rfl (H.d 2 6))
  ·refine Eng.guarded1 (j := 3) (d := 7) (b := q6) rfl rfl (by kernel_rfl) rfl (fun v w h => h) (fun hG w => Eng.off hG) fun hG a w' H => ?_
   exact Eng.val (w1 := w') (v := .pointer (some ⟨g1_1, 0, none⟩)) (Eng.run_fieldb rfl Tryd.underlying30 0 (by kernel_rfl) (H.q 1 h1_1)) (Below.refl _ _) (Eng.off' hG rfl)
  ·refine Eng.guarded1 (j := 3) (d := 7) (b := q6) rfl rfl (by kernel_rfl) rfl (fun v w h => h) (fun hG w => Eng.off hG) fun hG a w' H => ?_
   exact Eng.val (w1 := w') (v := .int .i64 x.kind) (Eng.run_loadb rfl (Eng.on (H.d 4 8) hG) ((H.below.block _ lg1_1_1).trans kg1_1_1) rfl (by kernel_rfl)) (Below.refl _ _) (Eng.off' hG rfl)
  ·refine Eng.guarded1 (j := 3) (d := 7) (b := q6) rfl rfl (by kernel_rfl) rfl (fun v w h => h) (fun hG w => Eng.off hG) fun hG a w' H => ?_
   refine Eng.vr (v := .bool (decide (x.kind > 7))) (Eng.off' hG (by rw [Bq10])) ?_
   have e0 : a.eval (.tmp 9) = .int .i64 x.kind := (Eng.on (H.d 5 9) hG)
   have e1 : a.eval (.const (.int .i64 7)) = .int .i64 7 := rfl
   simp only [execOp, resolve, List.map_toArray, List.map_cons, List.map_nil, e0, e1]
   go_simp
  ·exact Eng.pv fun a w' H => Eng.vr (v := .bool (q6 || q10)) (by show _ = Value.bool q11; rw [Bq11]) (Eng.run_or rfl rfl (G := true) (H.d 3 7) (fun hb => (Eng.on (H.d 6 10) (Eng.mk1 hb))))
  ·exact Eng.pv fun a w' H => Eng.vr rfl (Eng.run_move rfl (H.d 7 11))
  ·refine Eng.guarded1 (j := 8) (d := 12) (b := q11) rfl rfl (by kernel_rfl) rfl (fun v w h => h) (fun hG w => Eng.off hG) fun hG a w' H => ?_
   exact Eng.val (w1 := w') (v := .pointer (some ⟨g1_1, 3, none⟩)) (Eng.run_fieldb rfl Tryd.underlying30 3 (by kernel_rfl) (H.q 1 h1_1)) (Below.refl _ _) (Eng.off' hG rfl)
  ·refine Eng.guarded1 (j := 8) (d := 12) (b := q11) rfl rfl (by kernel_rfl) rfl (fun v w h => h) (fun hG w => Eng.off hG) fun hG a w' H => ?_
   exact Eng.val (w1 := w') (v := .string x.text) (Eng.run_loadb rfl (Eng.on (H.d 9 13) hG) ((H.below.block _ lg1_1_1).trans kg1_1_1) rfl (by kernel_rfl)) (Below.refl _ _) (Eng.off' hG rfl)
  ·refine Eng.guarded1 (j := 8) (d := 12) (b := q11) rfl rfl (by kernel_rfl) rfl (fun v w h => h) (fun hG w => Eng.off hG) fun hG a w' H => ?_
   refine Eng.call Tryd.func64 (by kernel_rfl) (by kernel_rfl) rfl #[.string x.text] ?_ ?_
   ·have e0 : a.eval (.tmp 14) = .string x.text := (Eng.on (H.d 10 14) hG); simp only [List.map_toArray, List.map_cons, List.map_nil, e0]
   refine (Tabs.valid x.text _ hsz (Tabs.below (Tabs.below hT bl1) H.below)).mono ?_
   rintro e w'' ⟨rfl, hb⟩
   exact ⟨_, rfl, (Eng.off' hG (by rw [Bq15])), hb⟩
  ·refine Eng.guarded1 (j := 8) (d := 12) (b := q11) rfl rfl (by kernel_rfl) rfl (fun v w h => h) (fun hG w => Eng.off hG) fun hG a w' H => ?_
   exact Eng.val (w1 := w') (v := .bool (!q15)) (Eng.run_not rfl (Eng.on (H.d 11 15) hG)) (Below.refl _ _) (Eng.off' hG (by rw [Bq16]))
  ·exact Eng.pv fun a w' H => Eng.vr (v := .bool (q11 || q16)) (by show _ = Value.bool q17; rw [Bq17]) (Eng.run_or rfl rfl (G := true) (H.d 8 12) (fun hb => (Eng.on (H.d 12 16) (Eng.mk1 hb))))
  exact Eng.pv fun a w' H => Eng.vr rfl (Eng.run_assign rfl (H.d 13 17))
 intro act2 w2 T
 have h1_2 := T.r1 h1_1
 have kg1_1_2 := T.x lg1_1_1 kg1_1_1
 have lg1_1_2 := T.l lg1_1_1
 have h3_2 : act2.eval (.tmp 3) = .bool q17 := T.done 14 3 rfl rfl
 have d2 := T.e d1
 have s2 := T.z s1
 have bl2 := T.b bl1
 clear T
 refine Eng.tail_nil ?_
 refine wp_cond_split h3_2 (fun hq => ?_) (fun hq => ?_)
 ·
  have c3 := Bq17.symm.trans hq
  clear hq
  refine wp_seq ?_
  refine Eng.rS [.bool false] (fun _ => .plain) 1 0 s2 ?_ ?_
  ·refine .c ?_ (.nil)
   ·exact Eng.pv fun a w' H => Eng.vr rfl (Eng.run_assign rfl (rfl : a.eval (.const (.bool false)) = .bool false))
  intro act4 w4 T
  have h2_4 : act4.eval (.tmp 2) = .bool false := T.done 0 2 rfl rfl
  have d4 := T.e d2
  have bl4 := T.b bl2
  clear T
  refine Eng.tail_nil ?_
  refine wp_ret ?_
  repeat (first | refine Eng.in_ret ?_ | refine Eng.then_ret ?_)
  have fin : false = Evt.rightE x := by
   have a3 := c3
   try simp only [Bq17, Bq16, Bq15, Bq11, Bq10, Bq6] at a3
   try simp only [Bq17, Bq16, Bq15, Bq11, Bq10, Bq6]
   unfold Evt.rightE
   simp only [a3, cond_true, cond_false]
  exact Eng.ret1 rfl d4 (h2_4.trans (congrArg Value.bool fin)) ⟨rfl, bl4⟩
 have c3 := Bq17.symm.trans hq
 clear hq
 refine wp_seq ?_
 obtain ⟨q21, Bq21⟩ : ∃ b : Bool, b = (x.kind == 7) := ⟨_, rfl⟩
 refine Eng.rS [.pointer (some ⟨g1_1, 0, none⟩), .int .i64 x.kind, .bool q21, .bool q21] (fun _ => .plain) 4 0 s2 ?_ ?_
 ·refine .c ?_ (.c ?_ (.c ?_ (.c ?_ (.nil))))
  ·exact Eng.pv fun a w' H => Eng.vr rfl (Eng.run_fieldb rfl Tryd.underlying30 0 (by kernel_rfl) (H.q 1 h1_2))
  ·exact Eng.pv fun a w' H => Eng.vr rfl (Eng.run_loadb rfl (H.d 0 19) ((H.below.block _ lg1_1_2).trans kg1_1_2) rfl (by kernel_rfl))
  ·refine Eng.pv fun a w' H => ?_
   refine Eng.vr (v := .bool (x.kind == 7)) (by show _ = Value.bool q21; rw [Bq21]) ?_
   have e0 : a.eval (.tmp 20) = .int .i64 x.kind := (H.d 1 20)
   have e1 : a.eval (.const (.int .i64 7)) = .int .i64 7 := rfl
   simp only [execOp, resolve, List.map_toArray, List.map_cons, List.map_nil, e0, e1]
   go_simp
  exact Eng.pv fun a w' H => Eng.vr rfl (Eng.run_assign rfl (H.d 2 21))
 intro act6 w6 T
 have h1_6 := T.r1 h1_2
 have kg1_1_6 := T.x lg1_1_2 kg1_1_2
 have lg1_1_6 := T.l lg1_1_2
 have h18_6 : act6.eval (.tmp 18) = .bool q21 := T.done 3 18 rfl rfl
 have d6 := T.e d2
 have s6 := T.z s2
 have bl6 := T.b bl2
 clear T
 refine Eng.tail_nil ?_
 refine wp_cond_split h18_6 (fun hq => ?_) (fun hq => ?_)
 ·
  have c18 := Bq21.symm.trans hq
  clear hq
  refine wp_seq ?_
  obtain ⟨q24, Bq24⟩ : ∃ b : Bool, b = (T.lex_Name.g x.anchor) := ⟨_, rfl⟩
  obtain ⟨q28, Bq28⟩ : ∃ b : Bool, b = (x.tag.toList.isEmpty) := ⟨_, rfl⟩
  obtain ⟨q29, Bq29⟩ : ∃ b : Bool, b = (q24 && q28) := ⟨_, rfl⟩
  obtain ⟨q33, Bq33⟩ : ∃ b : Bool, b = (x.text.toList.isEmpty) := ⟨_, rfl⟩
  obtain ⟨q34, Bq34⟩ : ∃ b : Bool, b = (q29 && q33) := ⟨_, rfl⟩
  obtain ⟨q38, Bq38⟩ : ∃ b : Bool, b = (!x.plain) := ⟨_, rfl⟩
  obtain ⟨q39, Bq39⟩ : ∃ b : Bool, b = (q34 && q38) := ⟨_, rfl⟩
  refine Eng.rS [.pointer (some ⟨g1_1, 1, none⟩), .string x.anchor, .bool q24, .bool q24, bif (q24 == true) then (.pointer (some ⟨g1_1, 2, none⟩)) else undef, bif (q24 == true) then (.string x.tag) else undef, bif (q24 == true) then (.bool q28) else undef, .bool q29, .bool q29, bif (q29 == true) then (.pointer (some ⟨g1_1, 3, none⟩)) else undef, bif (q29 == true) then (.string x.text) else undef, bif (q29 == true) then (.bool q33) else undef, .bool q34, .bool q34, bif (q34 == true) then (.pointer (some ⟨g1_1, 4, none⟩)) else undef, bif (q34 == true) then (.bool x.plain) else undef, bif (q34 == true) then (.bool q38) else undef, .bool q39, .bool q39] (fun _ => .plain) 19 0 s6 ?_ ?_
  ·refine .c ?_ (.c ?_ (.c ?_ (.c ?_ (.c ?_ (.c ?_ (.c ?_ (.c ?_ (.c ?_ (.c ?_ (.c ?_ (.c ?_ (.c ?_ (.c ?_ (.c ?_ (.c ?_ (.c ?_ (.c ?_ (.c ?_ (.nil)))))))))))))))))))
   ·exact Eng.pv fun a w' H => Eng.vr rfl (Eng.run_fieldb rfl Tryd.underlying30 1 (by kernel_rfl) (H.q 1 h1_6))
   ·exact Eng.pv fun a w' H => Eng.vr rfl (Eng.run_loadb rfl (H.d 0 22) ((H.below.block _ lg1_1_6).trans kg1_1_6) rfl (by kernel_rfl))
   ·refine Eng.pv fun a w' H => ?_
    refine Eng.call Tryd.func65 (by kernel_rfl) (by kernel_rfl) rfl #[.string x.anchor] ?_ ?_
    ·have e0 : a.eval (.tmp 23) = .string x.anchor := (H.d 1 23); simp only [List.map_toArray, List.map_cons, List.map_nil, e0]
    refine (T.lex_Name.calls x.anchor _ _ rfl).mono ?_
    rintro e w'' ⟨rfl, hb⟩
    exact ⟨_, rfl, (by show _ = Value.bool q24; rw [Bq24]), hb⟩
   ·exact Eng.pv fun a w' H => Eng.vr rfl (Eng.run_move rfl (H.d 2 24))
   ·refine Eng.guarded1 (j := 3) (d := 25) (b := q24) rfl rfl (by kernel_rfl) rfl (fun v w h => h) (fun hG w => Eng.off hG) fun hG a w' H => ?_
    exact Eng.val (w1 := w') (v := .pointer (some ⟨g1_1, 2, none⟩)) (Eng.run_fieldb rfl Tryd.underlying30 2 (by kernel_rfl) (H.q 1 h1_6)) (Below.refl _ _) (Eng.off' hG rfl)
   ·refine Eng.guarded1 (j := 3) (d := 25) (b := q24) rfl rfl (by kernel_rfl) rfl (fun v w h => h) (fun hG w => Eng.off hG) fun hG a w' H => ?_
    exact Eng.val (w1 := w') (v := .string x.tag) (Eng.run_loadb rfl (Eng.on (H.d 4 26) hG) ((H.below.block _ lg1_1_6).trans kg1_1_6) rfl (by kernel_rfl)) (Below.refl _ _) (Eng.off' hG rfl)
   ·refine Eng.guarded1 (j := 3) (d := 25) (b := q24) rfl rfl (by kernel_rfl) rfl (fun v w h => h) (fun hG w => Eng.off hG) fun hG a w' H => ?_
    refine Eng.vr (v := .bool x.tag.toList.isEmpty) (Eng.off' hG (by rw [Bq28])) ?_
    have e0 : a.eval (.tmp 27) = .string x.tag := (Eng.on (H.d 5 27) hG)
    have e1 : a.eval (.const (.string ⟨#[]⟩)) = .string ⟨#[]⟩ := rfl
    simp only [execOp, resolve, List.map_toArray, List.map_cons, List.map_nil, e0, e1]
    go_simp
   ·exact Eng.pv fun a w' H => Eng.vr (v := .bool (q24 && q28)) (by show _ = Value.bool q29; rw [Bq29]) (Eng.run_and rfl rfl (G := true) (H.d 3 25) (fun hb => (Eng.on (H.d 6 28) (Eng.mk1 hb))))
   ·exact Eng.pv fun a w' H => Eng.vr rfl (Eng.run_move rfl (H.d 7 29))
   ·refine Eng.guarded1 (j := 8) (d := 30) (b := q29) rfl rfl (by kernel_rfl) rfl (fun v w h => h) (fun hG w => Eng.off hG) fun hG a w' H => ?_
    exact Eng.val (w1 := w') (v := .pointer (some ⟨g1_1, 3, none⟩)) (Eng.run_fieldb rfl Tryd.underlying30 3 (by kernel_rfl) (H.q 1 h1_6)) (Below.refl _ _) (Eng.off' hG rfl)
   ·refine Eng.guarded1 (j := 8) (d := 30) (b := q29) rfl rfl (by kernel_rfl) rfl (fun v w h => h) (fun hG w => Eng.off hG) fun hG a w' H => ?_
    exact Eng.val (w1 := w') (v := .string x.text) (Eng.run_loadb rfl (Eng.on (H.d 9 31) hG) ((H.below.block _ lg1_1_6).trans kg1_1_6) rfl (by kernel_rfl)) (Below.refl _ _) (Eng.off' hG rfl)
   ·refine Eng.guarded1 (j := 8) (d := 30) (b := q29) rfl rfl (by kernel_rfl) rfl (fun v w h => h) (fun hG w => Eng.off hG) fun hG a w' H => ?_
    refine Eng.vr (v := .bool x.text.toList.isEmpty) (Eng.off' hG (by rw [Bq33])) ?_
    have e0 : a.eval (.tmp 32) = .string x.text := (Eng.on (H.d 10 32) hG)
    have e1 : a.eval (.const (.string ⟨#[]⟩)) = .string ⟨#[]⟩ := rfl
    simp only [execOp, resolve, List.map_toArray, List.map_cons, List.map_nil, e0, e1]
    go_simp
   ·exact Eng.pv fun a w' H => Eng.vr (v := .bool (q29 && q33)) (by show _ = Value.bool q34; rw [Bq34]) (Eng.run_and rfl rfl (G := true) (H.d 8 30) (fun hb => (Eng.on (H.d 11 33) (Eng.mk1 hb))))
   ·exact Eng.pv fun a w' H => Eng.vr rfl (Eng.run_move rfl (H.d 12 34))
   ·refine Eng.guarded1 (j := 13) (d := 35) (b := q34) rfl rfl (by kernel_rfl) rfl (fun v w h => h) (fun hG w => Eng.off hG) fun hG a w' H => ?_
    exact Eng.val (w1 := w') (v := .pointer (some ⟨g1_1, 4, none⟩)) (Eng.run_fieldb rfl Tryd.underlying30 4 (by kernel_rfl) (H.q 1 h1_6)) (Below.refl _ _) (Eng.off' hG rfl)
   ·refine Eng.guarded1 (j := 13) (d := 35) (b := q34) rfl rfl (by kernel_rfl) rfl (fun v w h => h) (fun hG w => Eng.off hG) fun hG a w' H => ?_
    exact Eng.val (w1 := w') (v := .bool x.plain) (Eng.run_loadb rfl (Eng.on (H.d 14 36) hG) ((H.below.block _ lg1_1_6).trans kg1_1_6) rfl (by kernel_rfl)) (Below.refl _ _) (Eng.off' hG rfl)
   ·refine Eng.guarded1 (j := 13) (d := 35) (b := q34) rfl rfl (by kernel_rfl) rfl (fun v w h => h) (fun hG w => Eng.off hG) fun hG a w' H => ?_
    exact Eng.val (w1 := w') (v := .bool (!x.plain)) (Eng.run_not rfl (Eng.on (H.d 15 37) hG)) (Below.refl _ _) (Eng.off' hG (by rw [Bq38]))
   ·exact Eng.pv fun a w' H => Eng.vr (v := .bool (q34 && q38)) (by show _ = Value.bool q39; rw [Bq39]) (Eng.run_and rfl rfl (G := true) (H.d 13 35) (fun hb => (Eng.on (H.d 16 38) (Eng.mk1 hb))))
   exact Eng.pv fun a w' H => Eng.vr rfl (Eng.run_assign rfl (H.d 17 39))
  intro act8 w8 T
  have h2_8 : act8.eval (.tmp 2) = .bool q39 := T.done 18 2 rfl rfl
  have d8 := T.e d6
  have bl8 := T.b bl6
  clear T
  refine Eng.tail_nil ?_
  refine wp_ret ?_
  repeat (first | refine Eng.in_ret ?_ | refine Eng.then_ret ?_)
  have fin : q39 = Evt.rightE x := by
   have a3 := c3
   try simp only [Bq39, Bq38, Bq34, Bq33, Bq29, Bq28, Bq24, Bq21, Bq17, Bq16, Bq15, Bq11, Bq10, Bq6] at a3
   have a18 := c18
   try simp only [Bq39, Bq38, Bq34, Bq33, Bq29, Bq28, Bq24, Bq21, Bq17, Bq16, Bq15, Bq11, Bq10, Bq6] at a18
   try simp only [Bq39, Bq38, Bq34, Bq33, Bq29, Bq28, Bq24, Bq21, Bq17, Bq16, Bq15, Bq11, Bq10, Bq6]
   unfold Evt.rightE
   simp only [a3, a18, cond_true, cond_false]
  exact Eng.ret1 rfl d8 (h2_8.trans (congrArg Value.bool fin)) ⟨rfl, bl8⟩
 have c18 := Bq21.symm.trans hq
 clear hq
 refine wp_seq ?_
 obtain ⟨q42, Bq42⟩ : ∃ b : Bool, b = (Evt.isNode x.kind) := ⟨_, rfl⟩
 obtain ⟨q43, Bq43⟩ : ∃ b : Bool, b = (!q42) := ⟨_, rfl⟩
 refine Eng.rS [.agg #[.int .i64 x.kind, .string x.anchor, .string x.tag, .string x.text, .bool x.plain], .bool q42, .bool q43, .bool q43] (fun _ => .plain) 4 0 s6 ?_ ?_
 ·refine .c ?_ (.c ?_ (.c ?_ (.c ?_ (.nil))))
  ·refine Eng.pv fun a w' H => ?_
   have kb := (H.below.block _ lg1_1_6).trans kg1_1_6
   have z0 : w'.cell? ⟨g1_1, 0, none⟩ = some (.int .i64 x.kind) := (Eng.cells kb 0).trans rfl
   have z1 : w'.cell? ⟨g1_1, 1, none⟩ = some (.string x.anchor) := (Eng.cells kb 1).trans rfl
   have z2 : w'.cell? ⟨g1_1, 2, none⟩ = some (.string x.tag) := (Eng.cells kb 2).trans rfl
   have z3 : w'.cell? ⟨g1_1, 3, none⟩ = some (.string x.text) := (Eng.cells kb 3).trans rfl
   have z4 : w'.cell? ⟨g1_1, 4, none⟩ = some (.bool x.plain) := (Eng.cells kb 4).trans rfl
   refine Eng.vr (v := .agg #[.int .i64 x.kind, .string x.anchor, .string x.tag, .string x.text, .bool x.plain]) rfl ?_
   have e0 := (H.q 1 h1_6)
   simp only [execOp, resolve, List.map_toArray, List.map_cons, List.map_nil, e0]
   go_simp
  ·refine Eng.pv fun a w' H => ?_
   refine Eng.call Tryd.func44 (by kernel_rfl) (by kernel_rfl) rfl #[.agg #[.int .i64 x.kind, .string x.anchor, .string x.tag, .string x.text, .bool x.plain]] ?_ ?_
   ·have e0 : a.eval (.tmp 41) = .agg #[.int .i64 x.kind, .string x.anchor, .string x.tag, .string x.text, .bool x.plain] := (H.d 0 41); simp only [List.map_toArray, List.map_cons, List.map_nil, e0]
   refine (Evt.node_calls x _).mono ?_
   rintro e w'' ⟨rfl, hb⟩
   exact ⟨_, rfl, (by show _ = Value.bool q42; rw [Bq42]), hb⟩
  ·exact Eng.pv fun a w' H => Eng.vr (v := .bool (!q42)) (by show _ = Value.bool q43; rw [Bq43]) (Eng.run_not rfl (H.d 1 42))
  exact Eng.pv fun a w' H => Eng.vr rfl (Eng.run_assign rfl (H.d 2 43))
 intro act10 w10 T
 have h1_10 := T.r1 h1_6
 have kg1_1_10 := T.x lg1_1_6 kg1_1_6
 have lg1_1_10 := T.l lg1_1_6
 have h40_10 : act10.eval (.tmp 40) = .bool q43 := T.done 3 40 rfl rfl
 have d10 := T.e d6
 have s10 := T.z s6
 have bl10 := T.b bl6
 clear T
 refine Eng.tail_nil ?_
 refine wp_cond_split h40_10 (fun hq => ?_) (fun hq => ?_)
 ·
  have c40 := Bq43.symm.trans hq
  clear hq
  refine wp_seq ?_
  refine Eng.rS [.agg #[.int .i64 x.kind, .string x.anchor, .string x.tag, .string x.text, .bool x.plain], .pointer (some ⟨g1_1, 0, none⟩), .int .i64 x.kind, .agg #[.int .i64 x.kind, .string ⟨#[]⟩, .string ⟨#[]⟩, .string ⟨#[]⟩, .bool false], .bool (Evt.plainE x), .bool (Evt.plainE x)] (fun _ => .plain) 6 0 s10 ?_ ?_
  ·refine .c ?_ (.c ?_ (.c ?_ (.c ?_ (.c ?_ (.c ?_ (.nil))))))
   ·refine Eng.pv fun a w' H => ?_
    have kb := (H.below.block _ lg1_1_10).trans kg1_1_10
    have z0 : w'.cell? ⟨g1_1, 0, none⟩ = some (.int .i64 x.kind) := (Eng.cells kb 0).trans rfl
    have z1 : w'.cell? ⟨g1_1, 1, none⟩ = some (.string x.anchor) := (Eng.cells kb 1).trans rfl
    have z2 : w'.cell? ⟨g1_1, 2, none⟩ = some (.string x.tag) := (Eng.cells kb 2).trans rfl
    have z3 : w'.cell? ⟨g1_1, 3, none⟩ = some (.string x.text) := (Eng.cells kb 3).trans rfl
    have z4 : w'.cell? ⟨g1_1, 4, none⟩ = some (.bool x.plain) := (Eng.cells kb 4).trans rfl
    refine Eng.vr (v := .agg #[.int .i64 x.kind, .string x.anchor, .string x.tag, .string x.text, .bool x.plain]) rfl ?_
    have e0 := (H.q 1 h1_10)
    simp only [execOp, resolve, List.map_toArray, List.map_cons, List.map_nil, e0]
    go_simp
   ·exact Eng.pv fun a w' H => Eng.vr rfl (Eng.run_fieldb rfl Tryd.underlying30 0 (by kernel_rfl) (H.q 1 h1_10))
   ·exact Eng.pv fun a w' H => Eng.vr rfl (Eng.run_loadb rfl (H.d 1 45) ((H.below.block _ lg1_1_10).trans kg1_1_10) rfl (by kernel_rfl))
   ·refine Eng.pv fun a w' H => ?_
    refine Eng.vr (v := .agg #[.int .i64 x.kind, .string ⟨#[]⟩, .string ⟨#[]⟩, .string ⟨#[]⟩, .bool false]) rfl ?_
    have e0 : a.eval (.tmp 46) = .int .i64 x.kind := (H.d 2 46)
    simp only [execOp, resolve, List.map_toArray, List.map_cons, List.map_nil, e0]
    go_simp
   ·refine Eng.pv fun a w' H => ?_
    refine Eng.vr (v := .bool (Evt.plainE x)) rfl ?_
    have e0 : a.eval (.tmp 44) = .agg #[.int .i64 x.kind, .string x.anchor, .string x.tag, .string x.text, .bool x.plain] := (H.d 0 44)
    have e1 : a.eval (.tmp 47) = .agg #[.int .i64 x.kind, .string ⟨#[]⟩, .string ⟨#[]⟩, .string ⟨#[]⟩, .bool false] := (H.d 3 47)
    simp only [execOp, resolve, List.map_toArray, List.map_cons, List.map_nil, e0, e1]
    go_simp
    (cases hp : x.plain <;> by_cases h1 : x.anchor.toList = [] <;> by_cases h2 : x.tag.toList = [] <;> by_cases h3 : x.text.toList = [] <;> simp [Evt.plainE, h1, h2, h3, hp])
   exact Eng.pv fun a w' H => Eng.vr rfl (Eng.run_assign rfl (H.d 4 48))
  intro act12 w12 T
  have h2_12 : act12.eval (.tmp 2) = .bool (Evt.plainE x) := T.done 5 2 rfl rfl
  have d12 := T.e d10
  have bl12 := T.b bl10
  clear T
  refine Eng.tail_nil ?_
  refine wp_ret ?_
  repeat (first | refine Eng.in_ret ?_ | refine Eng.then_ret ?_)
  have fin : Evt.plainE x = Evt.rightE x := by
   have a3 := c3
   try simp only [Bq43, Bq42, Bq21, Bq17, Bq16, Bq15, Bq11, Bq10, Bq6] at a3
   have a18 := c18
   try simp only [Bq43, Bq42, Bq21, Bq17, Bq16, Bq15, Bq11, Bq10, Bq6] at a18
   have a40 := c40
   try simp only [Bq43, Bq42, Bq21, Bq17, Bq16, Bq15, Bq11, Bq10, Bq6] at a40
   try simp only [Bq43, Bq42, Bq21, Bq17, Bq16, Bq15, Bq11, Bq10, Bq6]
   unfold Evt.rightE
   simp only [a3, a18, a40, cond_true, cond_false]
  exact Eng.ret1 rfl d12 (h2_12.trans (congrArg Value.bool fin)) ⟨rfl, bl12⟩
 have c40 := Bq43.symm.trans hq
 clear hq
 refine wp_seq ?_
 obtain ⟨q52, Bq52⟩ : ∃ b : Bool, b = (!(x.kind == 6)) := ⟨_, rfl⟩
 obtain ⟨q56, Bq56⟩ : ∃ b : Bool, b = (!(x.text.toList.isEmpty)) := ⟨_, rfl⟩
 obtain ⟨q60, Bq60⟩ : ∃ b : Bool, b = (q56 || x.plain) := ⟨_, rfl⟩
 obtain ⟨q61, Bq61⟩ : ∃ b : Bool, b = (q52 && q60) := ⟨_, rfl⟩
 refine Eng.rS [.pointer (some ⟨g1_1, 0, none⟩), .int .i64 x.kind, .bool q52, .bool q52, bif (q52 == true) then (.pointer (some ⟨g1_1, 3, none⟩)) else undef, bif (q52 == true) then (.string x.text) else undef, bif (q52 == true) then (.bool q56) else undef, bif (q52 == true) then (.bool q56) else undef, bif ((q52 == true) && (q56 == false)) then (.pointer (some ⟨g1_1, 4, none⟩)) else undef, bif ((q52 == true) && (q56 == false)) then (.bool x.plain) else undef, bif (q52 == true) then (.bool q60) else undef, .bool q61, .bool q61] (fun _ => .plain) 13 0 s10 ?_ ?_
 ·refine .c ?_ (.c ?_ (.c ?_ (.c ?_ (.c ?_ (.c ?_ (.c ?_ (.c ?_ (.c ?_ (.c ?_ (.c ?_ (.c ?_ (.c ?_ (.nil)))))))))))))
  ·exact Eng.pv fun a w' H => Eng.vr rfl (Eng.run_fieldb rfl Tryd.underlying30 0 (by kernel_rfl) (H.q 1 h1_10))
  ·exact Eng.pv fun a w' H => Eng.vr rfl (Eng.run_loadb rfl (H.d 0 50) ((H.below.block _ lg1_1_10).trans kg1_1_10) rfl (by kernel_rfl))
  ·refine Eng.pv fun a w' H => ?_
   refine Eng.vr (v := .bool (!(x.kind == 6))) (by show _ = Value.bool q52; rw [Bq52]) ?_
   have e0 : a.eval (.tmp 51) = .int .i64 x.kind := (H.d 1 51)
   have e1 : a.eval (.const (.int .i64 6)) = .int .i64 6 := rfl
   simp only [execOp, resolve, List.map_toArray, List.map_cons, List.map_nil, e0, e1]
   go_simp
   all_goals first | rfl | (simp; done) | (rw [Bool.eq_iff_iff]; simp; done) | omega | (split <;> first | (simp_all; done) | (split <;> simp_all; done)) | skip
  ·exact Eng.pv fun a w' H => Eng.vr rfl (Eng.run_move rfl (H.d 2 52))
  ·refine Eng.guarded1 (j := 3) (d := 53) (b := q52) rfl rfl (by kernel_rfl) rfl (fun v w h => h) (fun hG w => Eng.off hG) fun hG a w' H => ?_
   exact Eng.val (w1 := w') (v := .pointer (some ⟨g1_1, 3, none⟩)) (Eng.run_fieldb rfl Tryd.underlying30 3 (by kernel_rfl) (H.q 1 h1_10)) (Below.refl _ _) (Eng.off' hG rfl)
  ·refine Eng.guarded1 (j := 3) (d := 53) (b := q52) rfl rfl (by kernel_rfl) rfl (fun v w h => h) (fun hG w => Eng.off hG) fun hG a w' H => ?_
   exact Eng.val (w1 := w') (v := .string x.text) (Eng.run_loadb rfl (Eng.on (H.d 4 54) hG) ((H.below.block _ lg1_1_10).trans kg1_1_10) rfl (by kernel_rfl)) (Below.refl _ _) (Eng.off' hG rfl)
  ·refine Eng.guarded1 (j := 3) (d := 53) (b := q52) rfl rfl (by kernel_rfl) rfl (fun v w h => h) (fun hG w => Eng.off hG) fun hG a w' H => ?_
   refine Eng.vr (v := .bool (!(x.text.toList.isEmpty))) (Eng.off' hG (by rw [Bq56])) ?_
   have e0 : a.eval (.tmp 55) = .string x.text := (Eng.on (H.d 5 55) hG)
   have e1 : a.eval (.const (.string ⟨#[]⟩)) = .string ⟨#[]⟩ := rfl
   simp only [execOp, resolve, List.map_toArray, List.map_cons, List.map_nil, e0, e1]
   go_simp
  ·refine Eng.guarded1 (j := 3) (d := 53) (b := q52) rfl rfl (by kernel_rfl) rfl (fun v w h => h) (fun hG w => Eng.off hG) fun hG a w' H => ?_
   exact Eng.val (w1 := w') (v := .bool q56) (Eng.run_move rfl (Eng.on (H.d 6 56) hG)) (Below.refl _ _) (Eng.off' hG rfl)
  ·refine Eng.guarded (j := 7) (d := 57) (b := q56) (G := (q52 == true)) rfl rfl (by kernel_rfl) rfl (fun v w h => h) (fun hG w => Eng.off hG) fun hG a w' H => ?_
   exact Eng.val (w1 := w') (v := .pointer (some ⟨g1_1, 4, none⟩)) (Eng.run_fieldb rfl Tryd.underlying30 4 (by kernel_rfl) (H.q 1 h1_10)) (Below.refl _ _) (Eng.off' hG rfl)
  ·refine Eng.guarded (j := 7) (d := 57) (b := q56) (G := (q52 == true)) rfl rfl (by kernel_rfl) rfl (fun v w h => h) (fun hG w => Eng.off hG) fun hG a w' H => ?_
   exact Eng.val (w1 := w') (v := .bool x.plain) (Eng.run_loadb rfl (Eng.on (H.d 8 58) hG) ((H.below.block _ lg1_1_10).trans kg1_1_10) rfl (by kernel_rfl)) (Below.refl _ _) (Eng.off' hG rfl)
  ·refine Eng.guarded1 (j := 3) (d := 53) (b := q52) rfl rfl (by kernel_rfl) rfl (fun v w h => h) (fun hG w => Eng.off hG) fun hG a w' H => ?_
   exact Eng.val (w1 := w') (v := .bool (q56 || x.plain)) (Eng.run_or rfl rfl (G := true) (Eng.on (H.d 7 57) hG) (fun hb => (Eng.on (H.d 9 59) (Eng.mk2 (Eng.mk1 (Eng.one2 hG)) hb)))) (Below.refl _ _) (Eng.off' hG (by rw [Bq60]))
  ·exact Eng.pv fun a w' H => Eng.vr (v := .bool (q52 && q60)) (by show _ = Value.bool q61; rw [Bq61]) (Eng.run_and rfl rfl (G := true) (H.d 3 53) (fun hb => (Eng.on (H.d 10 60) (Eng.mk1 hb))))
  exact Eng.pv fun a w' H => Eng.vr rfl (Eng.run_assign rfl (H.d 11 61))
 intro act14 w14 T
 have h1_14 := T.r1 h1_10
 have kg1_1_14 := T.x lg1_1_10 kg1_1_10
 have lg1_1_14 := T.l lg1_1_10
 have h49_14 : act14.eval (.tmp 49) = .bool q61 := T.done 12 49 rfl rfl
 have d14 := T.e d10
 have s14 := T.z s10
 have bl14 := T.b bl10
 clear T
 refine Eng.tail_nil ?_
 refine wp_cond_split h49_14 (fun hq => ?_) (fun hq => ?_)
 ·
  have c49 := Bq61.symm.trans hq
  clear hq
  refine wp_seq ?_
  refine Eng.rS [.bool false] (fun _ => .plain) 1 0 s14 ?_ ?_
  ·refine .c ?_ (.nil)
   ·exact Eng.pv fun a w' H => Eng.vr rfl (Eng.run_assign rfl (rfl : a.eval (.const (.bool false)) = .bool false))
  intro act16 w16 T
  have h2_16 : act16.eval (.tmp 2) = .bool false := T.done 0 2 rfl rfl
  have d16 := T.e d14
  have bl16 := T.b bl14
  clear T
  refine Eng.tail_nil ?_
  refine wp_ret ?_
  repeat (first | refine Eng.in_ret ?_ | refine Eng.then_ret ?_)
  have fin : false = Evt.rightE x := by
   have a3 := c3
   try simp only [Bq61, Bq60, Bq56, Bq52, Bq43, Bq42, Bq21, Bq17, Bq16, Bq15, Bq11, Bq10, Bq6] at a3
   have a18 := c18
   try simp only [Bq61, Bq60, Bq56, Bq52, Bq43, Bq42, Bq21, Bq17, Bq16, Bq15, Bq11, Bq10, Bq6] at a18
   have a40 := c40
   try simp only [Bq61, Bq60, Bq56, Bq52, Bq43, Bq42, Bq21, Bq17, Bq16, Bq15, Bq11, Bq10, Bq6] at a40
   have a49 := c49
   try simp only [Bq61, Bq60, Bq56, Bq52, Bq43, Bq42, Bq21, Bq17, Bq16, Bq15, Bq11, Bq10, Bq6] at a49
   try simp only [Bq61, Bq60, Bq56, Bq52, Bq43, Bq42, Bq21, Bq17, Bq16, Bq15, Bq11, Bq10, Bq6]
   unfold Evt.rightE
   simp only [a3, a18, a40, a49, cond_true, cond_false]
  exact Eng.ret1 rfl d16 (h2_16.trans (congrArg Value.bool fin)) ⟨rfl, bl16⟩
 have c49 := Bq61.symm.trans hq
 clear hq
 refine wp_skip ?_
 refine wp_seq ?_
 obtain ⟨q64, Bq64⟩ : ∃ b : Bool, b = (x.anchor.toList.isEmpty) := ⟨_, rfl⟩
 obtain ⟨q68, Bq68⟩ : ∃ b : Bool, b = (T.lex_Name.g x.anchor) := ⟨_, rfl⟩
 obtain ⟨q69, Bq69⟩ : ∃ b : Bool, b = (q64 || q68) := ⟨_, rfl⟩
 obtain ⟨q73, Bq73⟩ : ∃ b : Bool, b = (x.tag.toList.isEmpty) := ⟨_, rfl⟩
 obtain ⟨q77, Bq77⟩ : ∃ b : Bool, b = (Evt.tagR x.tag) := ⟨_, rfl⟩
 obtain ⟨q78, Bq78⟩ : ∃ b : Bool, b = (q73 || q77) := ⟨_, rfl⟩
 obtain ⟨q79, Bq79⟩ : ∃ b : Bool, b = (q69 && q78) := ⟨_, rfl⟩
 refine Eng.rS [.pointer (some ⟨g1_1, 1, none⟩), .string x.anchor, .bool q64, .bool q64, bif (q64 == false) then (.pointer (some ⟨g1_1, 1, none⟩)) else undef, bif (q64 == false) then (.string x.anchor) else undef, bif (q64 == false) then (.bool q68) else undef, .bool q69, .bool q69, bif (q69 == true) then (.pointer (some ⟨g1_1, 2, none⟩)) else undef, bif (q69 == true) then (.string x.tag) else undef, bif (q69 == true) then (.bool q73) else undef, bif (q69 == true) then (.bool q73) else undef, bif ((q69 == true) && (q73 == false)) then (.pointer (some ⟨g1_1, 2, none⟩)) else undef, bif ((q69 == true) && (q73 == false)) then (.string x.tag) else undef, bif ((q69 == true) && (q73 == false)) then (.bool q77) else undef, bif (q69 == true) then (.bool q78) else undef, .bool q79, .bool q79] (fun _ => .plain) 19 0 s14 ?_ ?_
 ·refine .c ?_ (.c ?_ (.c ?_ (.c ?_ (.c ?_ (.c ?_ (.c ?_ (.c ?_ (.c ?_ (.c ?_ (.c ?_ (.c ?_ (.c ?_ (.c ?_ (.c ?_ (.c ?_ (.c ?_ (.c ?_ (.c ?_ (.nil)))))))))))))))))))
  ·exact Eng.pv fun a w' H => Eng.vr rfl (Eng.run_fieldb rfl Tryd.underlying30 1 (by kernel_rfl) (H.q 1 h1_14))
  ·exact Eng.pv fun a w' H => Eng.vr rfl (Eng.run_loadb rfl (H.d 0 62) ((H.below.block _ lg1_1_14).trans kg1_1_14) rfl (by kernel_rfl))
  ·refine Eng.pv fun a w' H => ?_
   refine Eng.vr (v := .bool x.anchor.toList.isEmpty) (by show _ = Value.bool q64; rw [Bq64]) ?_
   have e0 : a.eval (.tmp 63) = .string x.anchor := (H.d 1 63)
   have e1 : a.eval (.const (.string ⟨#[]⟩)) = .string ⟨#[]⟩ := rfl
   simp only [execOp, resolve, List.map_toArray, List.map_cons, List.map_nil, e0, e1]
   go_simp
  ·exact Eng.pv fun a w' H => Eng.vr rfl (Eng.run_move rfl (H.d 2 64))
  ·refine Eng.guarded1 (j := 3) (d := 65) (b := q64) rfl rfl (by kernel_rfl) rfl (fun v w h => h) (fun hG w => Eng.off hG) fun hG a w' H => ?_
   exact Eng.val (w1 := w') (v := .pointer (some ⟨g1_1, 1, none⟩)) (Eng.run_fieldb rfl Tryd.underlying30 1 (by kernel_rfl) (H.q 1 h1_14)) (Below.refl _ _) (Eng.off' hG rfl)
  ·refine Eng.guarded1 (j := 3) (d := 65) (b := q64) rfl rfl (by kernel_rfl) rfl (fun v w h => h) (fun hG w => Eng.off hG) fun hG a w' H => ?_
   exact Eng.val (w1 := w') (v := .string x.anchor) (Eng.run_loadb rfl (Eng.on (H.d 4 66) hG) ((H.below.block _ lg1_1_14).trans kg1_1_14) rfl (by kernel_rfl)) (Below.refl _ _) (Eng.off' hG rfl)
  ·refine Eng.guarded1 (j := 3) (d := 65) (b := q64) rfl rfl (by kernel_rfl) rfl (fun v w h => h) (fun hG w => Eng.off hG) fun hG a w' H => ?_
   refine Eng.call Tryd.func65 (by kernel_rfl) (by kernel_rfl) rfl #[.string x.anchor] ?_ ?_
   ·have e0 : a.eval (.tmp 67) = .string x.anchor := (Eng.on (H.d 5 67) hG); simp only [List.map_toArray, List.map_cons, List.map_nil, e0]
   refine (T.lex_Name.calls x.anchor _ _ rfl).mono ?_
   rintro e w'' ⟨rfl, hb⟩
   exact ⟨_, rfl, (Eng.off' hG (by rw [Bq68])), hb⟩
  ·exact Eng.pv fun a w' H => Eng.vr (v := .bool (q64 || q68)) (by show _ = Value.bool q69; rw [Bq69]) (Eng.run_or rfl rfl (G := true) (H.d 3 65) (fun hb => (Eng.on (H.d 6 68) (Eng.mk1 hb))))
  ·exact Eng.pv fun a w' H => Eng.vr rfl (Eng.run_move rfl (H.d 7 69))
  ·refine Eng.guarded1 (j := 8) (d := 70) (b := q69) rfl rfl (by kernel_rfl) rfl (fun v w h => h) (fun hG w => Eng.off hG) fun hG a w' H => ?_
   exact Eng.val (w1 := w') (v := .pointer (some ⟨g1_1, 2, none⟩)) (Eng.run_fieldb rfl Tryd.underlying30 2 (by kernel_rfl) (H.q 1 h1_14)) (Below.refl _ _) (Eng.off' hG rfl)
  ·refine Eng.guarded1 (j := 8) (d := 70) (b := q69) rfl rfl (by kernel_rfl) rfl (fun v w h => h) (fun hG w => Eng.off hG) fun hG a w' H => ?_
   exact Eng.val (w1 := w') (v := .string x.tag) (Eng.run_loadb rfl (Eng.on (H.d 9 71) hG) ((H.below.block _ lg1_1_14).trans kg1_1_14) rfl (by kernel_rfl)) (Below.refl _ _) (Eng.off' hG rfl)
  ·refine Eng.guarded1 (j := 8) (d := 70) (b := q69) rfl rfl (by kernel_rfl) rfl (fun v w h => h) (fun hG w => Eng.off hG) fun hG a w' H => ?_
   refine Eng.vr (v := .bool x.tag.toList.isEmpty) (Eng.off' hG (by rw [Bq73])) ?_
   have e0 : a.eval (.tmp 72) = .string x.tag := (Eng.on (H.d 10 72) hG)
   have e1 : a.eval (.const (.string ⟨#[]⟩)) = .string ⟨#[]⟩ := rfl
   simp only [execOp, resolve, List.map_toArray, List.map_cons, List.map_nil, e0, e1]
   go_simp
  ·refine Eng.guarded1 (j := 8) (d := 70) (b := q69) rfl rfl (by kernel_rfl) rfl (fun v w h => h) (fun hG w => Eng.off hG) fun hG a w' H => ?_
   exact Eng.val (w1 := w') (v := .bool q73) (Eng.run_move rfl (Eng.on (H.d 11 73) hG)) (Below.refl _ _) (Eng.off' hG rfl)
  ·refine Eng.guarded (j := 12) (d := 74) (b := q73) (G := (q69 == true)) rfl rfl (by kernel_rfl) rfl (fun v w h => h) (fun hG w => Eng.off hG) fun hG a w' H => ?_
   exact Eng.val (w1 := w') (v := .pointer (some ⟨g1_1, 2, none⟩)) (Eng.run_fieldb rfl Tryd.underlying30 2 (by kernel_rfl) (H.q 1 h1_14)) (Below.refl _ _) (Eng.off' hG rfl)
  ·refine Eng.guarded (j := 12) (d := 74) (b := q73) (G := (q69 == true)) rfl rfl (by kernel_rfl) rfl (fun v w h => h) (fun hG w => Eng.off hG) fun hG a w' H => ?_
   exact Eng.val (w1 := w') (v := .string x.tag) (Eng.run_loadb rfl (Eng.on (H.d 13 75) hG) ((H.below.block _ lg1_1_14).trans kg1_1_14) rfl (by kernel_rfl)) (Below.refl _ _) (Eng.off' hG rfl)
  ·refine Eng.guarded (j := 12) (d := 74) (b := q73) (G := (q69 == true)) rfl rfl (by kernel_rfl) rfl (fun v w h => h) (fun hG w => Eng.off hG) fun hG a w' H => ?_
   refine Eng.call Tryd.func45 (by kernel_rfl) (by kernel_rfl) rfl #[.string x.tag] ?_ ?_
   ·have e0 : a.eval (.tmp 76) = .string x.tag := (Eng.on (H.d 14 76) hG); simp only [List.map_toArray, List.map_cons, List.map_nil, e0]
   refine (T.tag_Right.calls x.tag _ _ (Evt.tagR_eq x.tag)).mono ?_
   rintro e w'' ⟨rfl, hb⟩
   exact ⟨_, rfl, (Eng.off' hG (by rw [Bq77])), hb⟩
  ·refine Eng.guarded1 (j := 8) (d := 70) (b := q69) rfl rfl (by kernel_rfl) rfl (fun v w h => h) (fun hG w => Eng.off hG) fun hG a w' H => ?_
   exact Eng.val (w1 := w') (v := .bool (q73 || q77)) (Eng.run_or rfl rfl (G := true) (Eng.on (H.d 12 74) hG) (fun hb => (Eng.on (H.d 15 77) (Eng.mk2 (Eng.mk1 (Eng.one2 hG)) hb)))) (Below.refl _ _) (Eng.off' hG (by rw [Bq78]))
  ·exact Eng.pv fun a w' H => Eng.vr (v := .bool (q69 && q78)) (by show _ = Value.bool q79; rw [Bq79]) (Eng.run_and rfl rfl (G := true) (H.d 8 70) (fun hb => (Eng.on (H.d 16 78) (Eng.mk1 hb))))
  exact Eng.pv fun a w' H => Eng.vr rfl (Eng.run_assign rfl (H.d 17 79))
 intro act18 w18 T
 have h2_18 : act18.eval (.tmp 2) = .bool q79 := T.done 18 2 rfl rfl
 have d18 := T.e d14
 have bl18 := T.b bl14
 clear T
 refine Eng.tail_nil ?_
 refine wp_ret ?_
 repeat (first | refine Eng.in_ret ?_ | refine Eng.then_ret ?_)
 have fin : q79 = Evt.rightE x := by
  have a3 := c3
  try simp only [Bq79, Bq78, Bq77, Bq73, Bq69, Bq68, Bq64, Bq61, Bq60, Bq56, Bq52, Bq43, Bq42, Bq21, Bq17, Bq16, Bq15, Bq11, Bq10, Bq6] at a3
  have a18 := c18
  try simp only [Bq79, Bq78, Bq77, Bq73, Bq69, Bq68, Bq64, Bq61, Bq60, Bq56, Bq52, Bq43, Bq42, Bq21, Bq17, Bq16, Bq15, Bq11, Bq10, Bq6] at a18
  have a40 := c40
  try simp only [Bq79, Bq78, Bq77, Bq73, Bq69, Bq68, Bq64, Bq61, Bq60, Bq56, Bq52, Bq43, Bq42, Bq21, Bq17, Bq16, Bq15, Bq11, Bq10, Bq6] at a40
  have a49 := c49
  try simp only [Bq79, Bq78, Bq77, Bq73, Bq69, Bq68, Bq64, Bq61, Bq60, Bq56, Bq52, Bq43, Bq42, Bq21, Bq17, Bq16, Bq15, Bq11, Bq10, Bq6] at a49
  try simp only [Bq79, Bq78, Bq77, Bq73, Bq69, Bq68, Bq64, Bq61, Bq60, Bq56, Bq52, Bq43, Bq42, Bq21, Bq17, Bq16, Bq15, Bq11, Bq10, Bq6]
  unfold Evt.rightE
  simp only [a3, a18, a40, a49, cond_true, cond_false]
 exact Eng.ret1 rfl d18 (h2_18.trans (congrArg Value.bool fin)) ⟨rfl, bl18⟩
end Go.Proofs.YtgnmjaacnmkgnaaDoor.X
end
section
namespace Go.Proofs.YtgnmjaacnmkgnaaDoor.X
open Go.RowKit Go.Shelf Go.Proofs
set_option linter.unusedVariables false
set_option linter.unusedSimpArgs false
namespace Evt
theorem rightR_bad {st : List (Int × Int)} {l : List Ev} {k : Nat} (hk : k < l.length) (h : rightE (l.getD k default) = false) : rightR rightE st (l.drop k) = false := by
  rw [Rwt.drop_one hk, rightR, h, Bool.false_and]
theorem rightR_none {st : List (Int × Int)} {l : List Ev} {k : Nat} (hk : k < l.length) (h : takeF st (l.getD k default).kind = none) : rightR rightE st (l.drop k) = false := by
  rw [Rwt.drop_one hk, rightR, h, Bool.and_false]
theorem rightR_go {st st' : List (Int × Int)} {l : List Ev} {k : Nat} (hk : k < l.length) (h1 : rightE (l.getD k default) = true) (h : takeF st (l.getD k default).kind = some st') : rightR rightE st (l.drop k) = rightR rightE st' (l.drop (k + 1)) := by
  rw [Rwt.drop_one hk, rightR, h, h1, Bool.true_and]
theorem rightR_end {st : List (Int × Int)} {l : List Ev} {k : Nat} (hk : k = l.length) : rightR rightE st (l.drop k) = st.isEmpty := by
  rw [hk, List.drop_length]; rfl
theorem pos_drop {st : List (Int × Int)} (h : ∀ t ∈ st, 0 ≤ t.1) : ∀ t ∈ st.dropLast, 0 ≤ t.1 := fun t ht => h t (List.dropLast_subset _ ht)
theorem pop_st {st st' : List (Int × Int)} {k : Int} {may : Int → Bool} (h : pop st k may = some st') : st' = st.dropLast := by
  unfold pop at h
  split at h
  · cases h
  · split at h
    · injection h with h; exact h.symm
    · cases h
theorem more_len {st : List (Int × Int)} : (more st).length = st.length := by
  rcases List.eq_nil_or_concat st with rfl | ⟨pre, t, rfl⟩
  · rfl
  · rw [List.concat_eq_append, more_snoc]; simp
theorem more_pos {st : List (Int × Int)} (h : ∀ t ∈ st, 0 ≤ t.1) : ∀ t ∈ more st, 0 ≤ t.1 := by
  rcases List.eq_nil_or_concat st with rfl | ⟨pre, t, rfl⟩
  · exact h
  · rw [List.concat_eq_append] at h; rw [List.concat_eq_append, more_snoc]
    intro u hu
    rcases List.mem_append.1 hu with hu | hu
    · exact h u (List.mem_append_left _ hu)
    · rw [List.mem_singleton.1 hu]; exact h t (by simp)
theorem take_good {st st' : List (Int × Int)} {k : Int} (h : takeF st k = some st') (hp : ∀ t ∈ st, 0 ≤ t.1) : (∀ t ∈ st', 0 ≤ t.1) ∧ st'.length ≤ st.length + 1 := by
  unfold takeF at h
  split at h
  · split at h
    · injection h with h; subst h; simp
    · cases h
  · split at h
    · rw [pop_st h]; exact ⟨pos_drop hp, by rw [List.length_dropLast]; omega⟩
    · split at h
      · rw [pop_st h]; exact ⟨pos_drop hp, by rw [List.length_dropLast]; omega⟩
      · split at h
        · rw [pop_st h]; exact ⟨pos_drop hp, by rw [List.length_dropLast]; omega⟩
        · split at h
          · cases h
          · split at h
            · rename_i hk
              injection h with h; subst h
              refine ⟨fun t ht => ?_, by rw [List.length_append, more_len]; exact Nat.le_refl _⟩
              rcases List.mem_append.1 ht with ht | ht
              · exact more_pos hp t ht
              · rw [List.mem_singleton.1 ht]; show (0 : Int) ≤ k; omega
            · injection h with h; subst h
              exact ⟨more_pos hp, by rw [more_len]; omega⟩
theorem take_calls (g : Nat) (o : Value) (x : Ev) (st : List (Int × Int)) (w W0 : World) (hB : Below w.heap.size w W0) (hlo : w.heap.size ≤ g) (hk : W0.heap[g]? = some (.cells #[o] 77 (0, 0))) (hO : W0.ownsRow w.heap.size 93 2 o st.length (opens st)) (hst : st.length ≤ 100000) (hp : ∀ t ∈ st, 0 ≤ t.1) :
    Calls Tryd.prog 36 #[.pointer (some ⟨g, 0, none⟩), .agg #[.int .i64 x.kind, .string x.anchor, .string x.tag, .string x.text, .bool x.plain]] W0 fun e w' => e = .returned (.bool (takeF st x.kind).isSome) ∧ Below w.heap.size w w' ∧ ∀ st', takeF st x.kind = some st' → ∃ o', Is w.heap.size W0 g o st' w' o' := by
  rcases List.eq_nil_or_concat st with rfl | ⟨pre, t, rfl⟩
  · exact take_nil g o x w W0 hB hlo hk hO
  · rw [List.concat_eq_append] at *
    exact take_top g o x pre t w W0 hB hlo hk hO hst (hp t (by simp))
end Evt
end Go.Proofs.YtgnmjaacnmkgnaaDoor.X
end
section
namespace Go.Proofs.YtgnmjaacnmkgnaaDoor.X
open Go.RowKit Go.Shelf Go.Proofs Go.Maps Go.WideMaps
set_option linter.unusedVariables false
set_option linter.unusedSimpArgs false
namespace Dc
def stepF (d : Dc) (x : Evt.Ev) : Dc × Bool × Int :=
  if x.kind = 0 then (⟨[], [], []⟩, false, 0)
  else if x.kind = 1 then (d, !twiceF d.nodes, if twiceF d.nodes = true then 12 else 0)
  else if x.kind = 3 ∨ x.kind = 5 then (⟨d.nodes, d.opn.dropLast, d.names⟩, false, 0)
  else if x.kind = 7 then ((aliasF d x).1, false, (aliasF d x).2)
  else ((nodeF d x).1, false, (nodeF d x).2)
def runF : Dc → List (List Nd) → List Evt.Ev → List (List Nd) × Int
  | _, out, [] => (out, 0)
  | d, out, x :: t => if (stepF d x).2.2 = 0 then runF (stepF d x).1 (if (stepF d x).2.1 = true then out ++ [(stepF d x).1.nodes] else out) t else ([], (stepF d x).2.2)
def graphsF (l : List Evt.Ev) : List (List Nd) × Int := if Evt.rightG Evt.rightE l = true then runF ⟨[], [], []⟩ [] l else ([], 5)
def TwAll : Dc → List Evt.Ev → Prop
  | _, [] => True
  | d, x :: t => (x.kind = 1 → TwOK d.nodes) ∧ TwAll (stepF d x).1 t
structure Good (d : Dc) (k : Nat) : Prop where
  op : ∀ o ∈ d.opn, 0 ≤ o ∧ o.toNat < d.nodes.length
  nm : ∀ s c, find d.names s = some c → 0 ≤ c ∧ c.toNat < d.nodes.length
  kd : ∀ i, i < d.nodes.length → (d.nodes.getD i default).kids.length ≤ k
  nl : d.names.length ≤ k
  ol : d.opn.length ≤ k
theorem Good.nil (k : Nat) : Good ⟨[], [], []⟩ k := ⟨fun o h => absurd h List.not_mem_nil, fun s c h => (by cases h), fun i h => absurd h (Nat.not_lt_zero _), Nat.zero_le _, Nat.zero_le _⟩
theorem Good.more {d : Dc} {k k' : Nat} (h : Good d k) (hk : k ≤ k') : Good d k' := ⟨h.op, h.nm, fun i hi => Nat.le_trans (h.kd i hi) hk, Nat.le_trans h.nl hk, Nat.le_trans h.ol hk⟩
theorem addKid_len (nodes : List Nd) (o a : Nat) : (addKid nodes o a).length = nodes.length := List.length_set
theorem addKid_kids {nodes : List Nd} {o a k : Nat} (h : ∀ i, i < nodes.length → (nodes.getD i default).kids.length ≤ k) : ∀ i, i < nodes.length → ((addKid nodes o a).getD i default).kids.length ≤ k + 1 := by
  intro i hi
  unfold addKid
  by_cases hio : i = o
  · subst hio
    rw [List.getD_eq_getElem?_getD, List.getElem?_set_self hi]
    have := h i hi
    simp only [Option.getD_some, List.length_append, List.length_cons, List.length_nil]; omega
  · rw [List.getD_eq_getElem?_getD, List.getElem?_set_ne (Ne.symm hio), ← List.getD_eq_getElem?_getD]
    have := h i hi; omega
theorem kidF_good {d : Dc} {k a : Nat} (h : Good d k) : Good (kidF d a).1 (k + 1) := by
  unfold kidF
  split
  · exact h.more (by omega)
  · split
    · exact h.more (by omega)
    · refine ⟨fun o ho => ?_, fun s c hc => ?_, ?_, Nat.le_succ_of_le h.nl, Nat.le_succ_of_le h.ol⟩
      · rw [addKid_len]; exact h.op o ho
      · rw [addKid_len]; exact h.nm s c hc
      · rw [addKid_len]; exact addKid_kids h.kd
theorem kidF_nlen {d : Dc} {a : Nat} : (kidF d a).1.nodes.length = d.nodes.length := by
  unfold kidF
  split
  · rfl
  · split
    · rfl
    · exact addKid_len _ _ _
theorem nodeF_good {d : Dc} {k : Nat} {x : Evt.Ev} (h : Good d k) : Good (nodeF d x).1 (k + 1) := by
  unfold nodeF
  split
  · exact h.more (by omega)
  · split
    · have h1 : Good ⟨d.nodes ++ [⟨kindN x.kind, (Evt.tagF x).1, x.text, []⟩], d.opn, nameF d x⟩ (k + 1) := by
        refine ⟨fun o ho => ?_, fun s c hc => ?_, fun i hi => ?_, ?_, Nat.le_succ_of_le h.ol⟩
        · have := h.op o ho; simp only [List.length_append, List.length_cons, List.length_nil]; exact ⟨this.1, by omega⟩
        · simp only [List.length_append, List.length_cons, List.length_nil]
          unfold nameF at hc
          split at hc
          · have := h.nm s c hc; exact ⟨this.1, by omega⟩
          · rw [find_cons] at hc
            split at hc
            · injection hc with hc; subst hc; exact ⟨by omega, by omega⟩
            · have := h.nm s c hc; exact ⟨this.1, by omega⟩
        · simp only [List.length_append, List.length_cons, List.length_nil] at hi
          simp only
          rcases Nat.lt_or_ge i d.nodes.length with hl | hl
          · rw [List.getD_eq_getElem?_getD, List.getElem?_append_left hl, ← List.getD_eq_getElem?_getD]; have := h.kd i hl; omega
          · obtain rfl : i = d.nodes.length := by omega
            rw [List.getD_eq_getElem?_getD, List.getElem?_append_right (Nat.le_refl _), Nat.sub_self]; simp
        · unfold nameF
          split
          · exact Nat.le_succ_of_le h.nl
          · simp only [List.length_cons]; exact Nat.succ_le_succ h.nl
      have h2 : Good (kidF ⟨d.nodes ++ [⟨kindN x.kind, (Evt.tagF x).1, x.text, []⟩], d.opn, nameF d x⟩ d.nodes.length).1 (k + 1) := by
        unfold kidF
        split
        · exact h1
        · split
          · exact h1
          · refine ⟨fun o ho => ?_, fun s c hc => ?_, ?_, h1.nl, h1.ol⟩
            · rw [addKid_len]; exact h1.op o ho
            · rw [addKid_len]; exact h1.nm s c hc
            · rw [addKid_len]
              refine addKid_kids fun i hi => ?_
              simp only [List.length_append, List.length_cons, List.length_nil] at hi
              rcases Nat.lt_or_ge i d.nodes.length with hl | hl
              · rw [List.getD_eq_getElem?_getD, List.getElem?_append_left hl, ← List.getD_eq_getElem?_getD]; exact h.kd i hl
              · obtain rfl : i = d.nodes.length := by omega
                rw [List.getD_eq_getElem?_getD, List.getElem?_append_right (Nat.le_refl _), Nat.sub_self]; simp
      split
      · exact h2
      · refine ⟨fun o ho => ?_, h2.nm, h2.kd, h2.nl, ?_⟩
        · rcases List.mem_append.1 ho with ho | ho
          · exact h2.op o ho
          · rw [List.mem_singleton.1 ho]
            simp only [kidF_nlen, List.length_append, List.length_cons, List.length_nil]; exact ⟨by omega, by omega⟩
        · simp only [List.length_append, List.length_cons, List.length_nil]
          rw [(kidF_same _ _).1]; have := h.ol; simp only; omega
    · exact h.more (by omega)
theorem aliasF_good {d : Dc} {k : Nat} {x : Evt.Ev} (h : Good d k) : Good (aliasF d x).1 (k + 1) := by
  unfold aliasF
  split
  · exact h.more (by omega)
  · exact kidF_good h
theorem stepF_good {d : Dc} {k : Nat} {x : Evt.Ev} (h : Good d k) : Good (stepF d x).1 (k + 1) := by
  unfold stepF
  split
  · exact Good.nil _
  · split
    · exact h.more (by omega)
    · split
      · refine ⟨fun o ho => h.op o (List.dropLast_subset _ ho), h.nm, fun i hi => Nat.le_succ_of_le (h.kd i hi), Nat.le_succ_of_le h.nl, ?_⟩
        have := h.ol; simp only [List.length_dropLast]; omega
      · split
        · exact aliasF_good h
        · exact nodeF_good h
def Rel (st : List (Int × Int)) (opn : List Int) : Prop := ∃ m rest, st = (0, m) :: rest ∧ (∀ t ∈ rest, t.1 = 2 ∨ t.1 = 4) ∧ rest.length = opn.length
theorem last_kind {m : Int} {rest : List (Int × Int)} (h : ∀ t ∈ rest, t.1 = 2 ∨ t.1 = 4) : (rest = [] ∧ ((0, m) :: rest).getLast? = some (0, m)) ∨ ∃ pre t, rest = pre ++ [t] ∧ (t.1 = 2 ∨ t.1 = 4) ∧ ((0, m) :: rest).getLast? = some t := by
  rcases List.eq_nil_or_concat rest with rfl | ⟨pre, t, rfl⟩
  · exact .inl ⟨rfl, rfl⟩
  · rw [List.concat_eq_append] at *
    exact .inr ⟨pre, t, rfl, h t (by simp), by rw [← List.cons_append, List.getLast?_append]; simp⟩
end Dc
end Go.Proofs.YtgnmjaacnmkgnaaDoor.X
end
section
namespace Go.Proofs.YtgnmjaacnmkgnaaDoor.X
open Go.RowKit Go.Shelf Go.Proofs Go.Maps Go.WideMaps
set_option linter.unusedVariables false
set_option linter.unusedSimpArgs false
namespace Dc
open Evt (takeF pop more Ev)
theorem pop_none_kind {st : List (Int × Int)} {t : Int × Int} {k : Int} {may : Int → Bool} (h : st.getLast? = some t) (hk : ¬ t.1 = k) : pop st k may = none := by
  unfold pop; rw [h]; simp only; rw [if_neg (fun e => hk e.1)]
theorem rel_end {st st' : List (Int × Int)} {opn : List Int} (h : takeF st 1 = some st') (hr : Rel st opn) : st' = [] := by
  obtain ⟨m, rest, rfl, hk, hl⟩ := hr
  rw [Evt.takeF_1] at h
  rcases last_kind (m := m) hk with ⟨rfl, _⟩ | ⟨pre, t, rfl, ht, hlast⟩
  · rw [Evt.pop_st h]; rfl
  · rw [pop_none_kind hlast (by omega)] at h; cases h
theorem rel_close {st st' : List (Int × Int)} {opn : List Int} {k : Int} {may : Int → Bool} (h : pop st k may = some st') (hk2 : k = 2 ∨ k = 4) (hr : Rel st opn) : ∃ pre o, opn = pre ++ [o] ∧ Rel st' pre := by
  obtain ⟨m, rest, rfl, hk, hl⟩ := hr
  rcases last_kind (m := m) hk with ⟨rfl, hlast⟩ | ⟨pre, t, rfl, ht, hlast⟩
  · rw [pop_none_kind hlast (by show ¬ (0 : Int) = k; omega)] at h; cases h
  · rcases List.eq_nil_or_concat opn with rfl | ⟨p, o, rfl⟩
    · simp at hl
    · rw [List.concat_eq_append] at *
      refine ⟨p, o, rfl, m, pre, ?_, fun t ht => hk t (List.mem_append_left _ ht), by simpa using hl⟩
      rw [Evt.pop_st h, ← List.cons_append, List.dropLast_concat]
theorem rel_more {st : List (Int × Int)} {opn : List Int} (hr : Rel st opn) : Rel (more st) opn := by
  obtain ⟨m, rest, rfl, hk, hl⟩ := hr
  rcases last_kind (m := m) hk with ⟨rfl, hlast⟩ | ⟨pre, t, rfl, ht, hlast⟩
  · exact ⟨_, [], rfl, hk, hl⟩
  · refine ⟨m, pre ++ [(t.1, IntKind.i64.wrap (t.2 + 1))], ?_, fun u hu => ?_, by simpa using hl⟩
    · rw [← List.cons_append, Evt.more_snoc, List.cons_append]
    · rcases List.mem_append.1 hu with hu | hu
      · exact hk u (List.mem_append_left _ hu)
      · rw [List.mem_singleton.1 hu]; exact ht
theorem rel_push {st : List (Int × Int)} {opn : List Int} {k x : Int} (hr : Rel st opn) (hk2 : k = 2 ∨ k = 4) : Rel (st ++ [(k, 0)]) (opn ++ [x]) := by
  obtain ⟨m, rest, rfl, hk, hl⟩ := hr
  refine ⟨m, rest ++ [(k, 0)], rfl, fun u hu => ?_, by simpa using hl⟩
  rcases List.mem_append.1 hu with hu | hu
  · exact hk u hu
  · rw [List.mem_singleton.1 hu]; exact hk2
theorem take_empty {k : Int} {st' : List (Int × Int)} (h : takeF [] k = some st') : k = 0 := by
  apply Classical.byContradiction
  intro h0
  by_cases h1 : k = 1
  · subst h1; rw [Evt.takeF_1] at h; cases h
  · by_cases h3 : k = 3
    · subst h3; rw [Evt.takeF_3] at h; cases h
    · by_cases h5 : k = 5
      · subst h5; rw [Evt.takeF_5] at h; cases h
      · rw [Evt.takeF_x _ _ h0 h1 h3 h5] at h; simp at h
theorem take_begin_st {st st' : List (Int × Int)} (h : takeF st 0 = some st') : st = [] ∧ st' = [(0, 0)] := by
  rw [Evt.takeF_0] at h
  split at h
  · rename_i he; injection h with h; exact ⟨by simpa using he, h.symm⟩
  · cases h
def Fin (w W : World) (f : List Nd × Value) (Bc : Nat → Prop) : Prop := ∃ h opn names ov mb, h.map (·.1) = f.1 ∧ Rep w.heap.size W h opn names f.2 ov mb ∧ ∀ b, Blk h f.2 ov mb b → ¬ Bc b
structure HS (w W : World) (dg : Nat) (gv ov mv : Value) (st : List (Int × Int)) (d : Dc) (fin : List (List Nd × Value)) (k : Nat) (live : Bool) : Prop where
  good : Good d k
  rel : st ≠ [] → Rel st d.opn
  liv : st ≠ [] → live = true
  doc : live = true → ∃ h mb, mv = .map (some mb) ∧ h.map (·.1) = d.nodes ∧ Rep w.heap.size W h d.opn d.names gv ov mb ∧ ∀ f ∈ fin, Fin w W f (Blk h gv ov mb)
  fins : ∀ f ∈ fin, Fin w W f (fun _ => False)
theorem Fin.below {w W W' : World} {f : List Nd × Value} {Bc : Nat → Prop} (h : Fin w W f Bc) (hb : Below W.heap.size W W') : Fin w W' f Bc := by
  obtain ⟨a, b, c, d, e, h1, h2, h3⟩ := h
  exact ⟨a, b, c, d, e, h1, h2.below hb, h3⟩
theorem HS.below {w W W' : World} {dg : Nat} {gv ov mv : Value} {st : List (Int × Int)} {d : Dc} {fin : List (List Nd × Value)} {k : Nat} {live : Bool} (H : HS w W dg gv ov mv st d fin k live) (hb : Below W.heap.size W W') : HS w W' dg gv ov mv st d fin k live := by
  refine ⟨H.good, H.rel, H.liv, fun hl => ?_, fun f hf => (H.fins f hf).below hb⟩
  obtain ⟨h, mb, h1, h2, h3, h4⟩ := H.doc hl
  exact ⟨h, mb, h1, h2, h3.below hb, fun f hf => (h4 f hf).below hb⟩
theorem Fin.aft {w W W' : World} {dg : Nat} {cs : Array Value} {f : List Nd × Value} {Bc : Nat → Prop} (h : Fin w W f Bc) (hk : W.heap[dg]? = some (.cells cs 64 (0, 0))) (A : Eng.Aft (fun b => b = dg ∨ Bc b) W W') {Bc' : Nat → Prop} (hN : ∀ b, Bc' b → Bc b ∨ W.heap.size ≤ b) : Fin w W' f Bc' := by
  obtain ⟨h, opn, names, ov, mb, h1, h2, h3⟩ := h
  refine ⟨h, opn, names, ov, mb, h1, h2.aft A fun b hb hb2 => ?_, fun b hb hb2 => ?_⟩
  · rcases hb with rfl | hb
    · exact h2.ne hk rfl rfl hb2
    · exact h3 b hb2 hb
  · rcases hN b hb2 with h4 | h4
    · exact h3 b hb h4
    · have := (h2.lt hb).2; omega
def Keep (W W' : World) (dg : Nat) : Prop := ∀ b cs T, W.heap[b]? = some (.cells cs T (0, 0)) → (57 != T) = true → (3 != T) = true → b ≠ dg → W'.heap[b]? = some (.cells cs T (0, 0))
theorem keep_of {B : Nat} {W W' : World} {dg mb : Nat} {h : List NV} {opn : List Int} {names : List (List UInt8 × Int)} {gv ov : Value} (R : Rep B W h opn names gv ov mb) (A : Eng.Aft (fun b => b = dg ∨ Blk h gv ov mb b) W W') : Keep W W' dg := fun b cs T hk h1 h2 hne => A.at_ hk fun hb => hb.elim hne (R.ne hk h1 h2)
theorem HS.step {w W W' : World} {dg mb : Nat} {gv ov gv' ov' : Value} {st' : List (Int × Int)} {d' : Dc} {fin : List (List Nd × Value)} {k : Nat} {h h' : List NV} (hk : W.heap[dg]? = some (.cells #[gv, ov, .map (some mb)] 64 (0, 0)))
    (hf : ∀ f ∈ fin, Fin w W f (Blk h gv ov mb)) (X : St w.heap.size W W' dg (Blk h gv ov mb) h' d'.opn d'.names gv' ov' mb) (hm : h'.map (·.1) = d'.nodes) (hg : Good d' (k + 1)) (hr : st' ≠ [] → Rel st' d'.opn) :
    HS w W' dg gv' ov' (.map (some mb)) st' d' fin (k + 1) true :=
  ⟨hg, hr, fun _ => rfl, fun _ => ⟨h', mb, rfl, hm, X.R, fun f h1 => (hf f h1).aft hk X.A X.N⟩, fun f h1 => by
    obtain ⟨a, b, c, d, e, h2, h3, _⟩ := (hf f h1).aft hk X.A X.N
    exact ⟨a, b, c, d, e, h2, h3, fun _ _ => id⟩⟩
theorem stepF_0 {d : Dc} {x : Ev} (h : x.kind = 0) : stepF d x = (⟨[], [], []⟩, false, 0) := by unfold stepF; rw [if_pos h]
theorem stepF_1 {d : Dc} {x : Ev} (h : x.kind = 1) : stepF d x = (d, !twiceF d.nodes, if twiceF d.nodes = true then 12 else 0) := by unfold stepF; rw [if_neg (by omega), if_pos h]
theorem stepF_3 {d : Dc} {x : Ev} (h : x.kind = 3 ∨ x.kind = 5) : stepF d x = (⟨d.nodes, d.opn.dropLast, d.names⟩, false, 0) := by unfold stepF; rw [if_neg (by omega), if_neg (by omega), if_pos h]
theorem stepF_7 {d : Dc} {x : Ev} (h : x.kind = 7) : stepF d x = ((aliasF d x).1, false, (aliasF d x).2) := by unfold stepF; rw [if_neg (by omega), if_neg (by omega), if_neg (by omega), if_pos h]
theorem stepF_x {d : Dc} {x : Ev} (h0 : x.kind ≠ 0) (h1 : x.kind ≠ 1) (h3 : x.kind ≠ 3) (h5 : x.kind ≠ 5) (h7 : x.kind ≠ 7) : stepF d x = ((nodeF d x).1, false, (nodeF d x).2) := by unfold stepF; rw [if_neg h0, if_neg h1, if_neg (by omega), if_neg h7]
theorem aliasF_opn (d : Dc) (x : Ev) : (aliasF d x).1.opn = d.opn ∧ (aliasF d x).1.names = d.names := by
  unfold aliasF
  split
  · exact ⟨rfl, rfl⟩
  · exact kidF_same _ _
theorem nodeF_opn {d : Dc} {x : Ev} (h : (nodeF d x).2 = 0) : (nodeF d x).1.opn = if kindN x.kind = 0 then d.opn else d.opn ++ [(d.nodes.length : Int)] := by
  unfold nodeF at h ⊢
  split
  · rename_i hl; rw [if_pos hl] at h; cases h
  · rename_i hl
    rw [if_neg hl] at h
    split
    · split
      · exact (kidF_same _ _).1
      · simp only; rw [(kidF_same _ _).1]
    · rename_i h2; rw [if_neg h2] at h; exact absurd h h2
theorem kindN_iff {k : Int} : kindN k = 0 ↔ ¬ (k = 2 ∨ k = 4) := by
  unfold kindN
  by_cases h2 : k = 2
  · simp [h2]
  · by_cases h4 : k = 4
    · simp [h4]
    · simp [h2, h4]
end Dc
end Go.Proofs.YtgnmjaacnmkgnaaDoor.X
end
section
namespace Go.Proofs.YtgnmjaacnmkgnaaDoor.X
open Go.RowKit Go.Shelf Go.Proofs Go.Maps Go.WideMaps
set_option linter.unusedVariables false
set_option linter.unusedSimpArgs false
namespace Dc
open Evt (takeF pop more Ev)
set_option maxHeartbeats 1000000 in
theorem take_all (dg : Nat) (gv ov mv : Value) (x : Ev) (st st' : List (Int × Int)) (d : Dc) (fin : List (List Nd × Value)) (k : Nat) (live : Bool) (w W0 : World) (hB : Below w.heap.size w W0) (hlo : w.heap.size ≤ dg) (hk : W0.heap[dg]? = some (.cells #[gv, ov, mv] 64 (0, 0)))
    (H : HS w W0 dg gv ov mv st d fin k live) (ht : takeF st x.kind = some st') (hsz : x.text.size ≤ 2000) (hasz : x.anchor.size ≤ maxLen) (hkk : k ≤ 100000) (hTw : x.kind = 1 → TwOK d.nodes) :
    Calls Tryd.prog 30 #[.pointer (some ⟨dg, 0, none⟩), .agg #[.int .i64 x.kind, .string x.anchor, .string x.tag, .string x.text, .bool x.plain]] W0 fun e w' =>
      e = .returned (.tuple #[.bool (stepF d x).2.1, .int .i64 (stepF d x).2.2]) ∧ Below w.heap.size w w' ∧ Keep W0 w' dg ∧
      ∃ gv' ov' mv', w'.heap[dg]? = some (.cells #[gv', ov', mv'] 64 (0, 0)) ∧ ((stepF d x).2.2 = 0 → HS w w' dg gv' ov' mv' st' (stepF d x).1 fin (k + 1) true) := by
  by_cases h0 : x.kind = 0
  · obtain ⟨rfl, rfl⟩ := take_begin_st (h0 ▸ ht)
    refine (take_begin dg gv ov mv x w W0 hB hlo hk h0).mono ?_
    rintro e w' ⟨rfl, mb, R, hbx, A, hmb⟩
    rw [stepF_0 h0]
    have A' : Eng.Aft (fun b => b = dg ∨ False) W0 w' := A.mono fun b _ e => .inl e
    have hf : ∀ f ∈ fin, Fin w w' f (Blk [] (.slice none 0 0) (.slice none 0 0) mb) := fun f hf => (H.fins f hf).aft hk A' fun b hb => .inr (blk_nil hb ▸ hmb)
    exact ⟨rfl, A.below hB (Nat.le_refl _) (fun b e => e ▸ hlo), fun b cs T h1 _ _ hne => A.at_ h1 hne, _, _, _, hbx, fun _ => ⟨Good.nil _, fun _ => ⟨0, [], rfl, fun t ht => absurd ht List.not_mem_nil, rfl⟩, fun _ => rfl, fun _ => ⟨[], mb, rfl, rfl, R, hf⟩, fun f h1 => by
      obtain ⟨a, b, c, d, e, h2, h3, _⟩ := hf f h1
      exact ⟨a, b, c, d, e, h2, h3, fun _ _ => id⟩⟩⟩
  · have hne : st ≠ [] := by rintro rfl; exact h0 (take_empty ht)
    obtain ⟨h, mb, rfl, hm, R, hf⟩ := H.doc (H.liv hne)
    have hr := H.rel hne
    have hg := H.good
    have hlen : h.length = d.nodes.length := by rw [← hm, List.length_map]
    have hkl : ∀ i, i < h.length → (h.getD i default).1.kids.length ≤ 1000000 := fun i hi => by
      have := hg.kd i (by rw [← hlen]; exact hi)
      rw [← hm, map_getD] at this; omega
    have hop : ∀ o ∈ d.opn, 0 ≤ o ∧ o.toNat < h.length := fun o ho => by rw [hlen]; exact hg.op o ho
    have hnv : ∀ s c, find d.names s = some c → 0 ≤ c ∧ c.toNat < h.length := fun s c hc => by rw [hlen]; exact hg.nm s c hc
    have hbel : ∀ {w' : World}, Eng.Aft (fun b => b = dg ∨ Blk h gv ov mb b) W0 w' → Below w.heap.size w w' := fun A => A.below hB (Nat.le_refl _) fun b hb => hb.elim (fun e => e ▸ hlo) fun e => (R.lt e).1
    by_cases h1 : x.kind = 1
    · have hst := rel_end (h1 ▸ ht) hr
      refine (take_end dg mb gv ov h d.opn d.names x w W0 hB hlo hk R h1 (hm ▸ hTw h1)).mono ?_
      rintro e w' ⟨rfl, X, hbx⟩
      rw [stepF_1 h1, hm]
      refine ⟨rfl, hbel X.A, keep_of R X.A, _, _, _, hbx, fun _ => HS.step (d' := d) hk hf X hm (hg.more (by omega)) fun hn => absurd hst hn⟩
    · by_cases h35 : x.kind = 3 ∨ x.kind = 5
      · have hp : ∃ pre o, d.opn = pre ++ [o] ∧ Rel st' pre := by
          rcases h35 with h3 | h5
          · rw [h3, Evt.takeF_3] at ht; exact rel_close ht (.inl rfl) hr
          · rw [h5, Evt.takeF_5] at ht; exact rel_close ht (.inr rfl) hr
        obtain ⟨pre, o, hopn, hr'⟩ := hp
        rw [hopn] at R
        have hd : (⟨d.nodes, d.opn.dropLast, d.names⟩ : Dc) = ⟨d.nodes, pre, d.names⟩ := by rw [hopn, List.dropLast_concat]
        have hgs := stepF_good (x := x) hg
        rw [stepF_3 h35, hd] at hgs
        rw [stepF_3 h35, hd]
        rcases h35 with h3 | h5
        · refine (take_close3 dg mb gv ov h pre o d.names x w W0 hB hlo hk R h3).mono ?_
          rintro e w' ⟨rfl, ov', X, hbx⟩
          exact ⟨rfl, hbel X.A, keep_of R X.A, _, _, _, hbx, fun _ => HS.step (d' := ⟨d.nodes, pre, d.names⟩) hk hf X hm hgs fun _ => hr'⟩
        · refine (take_close5 dg mb gv ov h pre o d.names x w W0 hB hlo hk R h5).mono ?_
          rintro e w' ⟨rfl, ov', X, hbx⟩
          exact ⟨rfl, hbel X.A, keep_of R X.A, _, _, _, hbx, fun _ => HS.step (d' := ⟨d.nodes, pre, d.names⟩) hk hf X hm hgs fun _ => hr'⟩
      · have h3 : x.kind ≠ 3 := fun e => h35 (.inl e)
        have h5 : x.kind ≠ 5 := fun e => h35 (.inr e)
        have hstp : st' = if x.kind = 2 ∨ x.kind = 4 then more st ++ [(x.kind, 0)] else more st := by
          rw [Evt.takeF_x _ _ h0 h1 h3 h5, if_neg (by simpa using hne)] at ht
          split at ht <;> (injection ht with ht; rw [← ht]) <;> rename_i hc
          · rw [if_pos hc]
          · rw [if_neg hc]
        by_cases h7 : x.kind = 7
        · have hgs := stepF_good (x := x) hg
          rw [stepF_7 h7] at hgs ⊢
          refine (take_alias dg mb gv ov h d.opn d.names x w W0 hB hlo hk R h7 hasz hnv hop hkl).mono ?_
          rintro e w' ⟨h', rfl, hm', X, hbx⟩
          have hd : (⟨h.map (·.1), d.opn, d.names⟩ : Dc) = d := by rw [hm]
          rw [hd] at hm'
          rw [hd]
          refine ⟨rfl, hbel X.A, keep_of R X.A, _, _, _, hbx, fun _ => HS.step (d' := (aliasF d x).1) hk hf ?_ hm' hgs fun _ => ?_⟩
          · rw [(aliasF_opn d x).1, (aliasF_opn d x).2]; exact X
          · rw [(aliasF_opn d x).1, hstp, if_neg (by omega)]; exact rel_more hr
        · have hgs := stepF_good (x := x) hg
          rw [stepF_x h0 h1 h3 h5 h7] at hgs ⊢
          refine (take_node dg mb gv ov h d.opn d.names x w W0 hB hlo hk R h0 h1 h3 h5 h7 hsz hasz (by have := hg.nl; omega) hop (by have := hg.ol; omega) hkl).mono ?_
          rintro e w' ⟨h', opn', names', gv', ov', rfl, hm', X, hbx⟩
          have hd : (⟨h.map (·.1), d.opn, d.names⟩ : Dc) = d := by rw [hm]
          rw [hd] at hm'
          rw [hd]
          refine ⟨rfl, hbel X.A, keep_of R X.A, _, _, _, hbx, fun he => HS.step (h' := h') (d' := (nodeF d x).1) hk hf ?_ ?_ hgs fun _ => ?_⟩
          · rw [← hm']; exact X
          · rw [← hm']
          · rw [nodeF_opn he, hstp]
            by_cases hk2 : x.kind = 2 ∨ x.kind = 4
            · rw [if_neg (fun e => kindN_iff.1 e hk2), if_pos hk2]; exact rel_push (rel_more hr) hk2
            · rw [if_pos (kindN_iff.2 hk2), if_neg hk2]; exact rel_more hr
end Dc
end Go.Proofs.YtgnmjaacnmkgnaaDoor.X
end
