/- Words and walks that the row of EventCut needs: printed by programs, and plain laws. -/
import Derived.Test.YtgnmjaacnmkgnaaGreatDoorM12
import Derived.Test.YtgnmjaacnmkgnaaGreatDoorM11
import Derived.Test.YtgnmjaacnmkgnaaGreatDoorM2
namespace Go.Proofs.YtgnmjaacnmkgnaaGreatDoorW.PrintWords
end Go.Proofs.YtgnmjaacnmkgnaaGreatDoorW.PrintWords
namespace Go.Proofs.YtgnmjaacnmkgnaaGreatDoorW.PrintLast
end Go.Proofs.YtgnmjaacnmkgnaaGreatDoorW.PrintLast
namespace Go.Proofs.YtgnmjaacnmkgnaaGreatDoorW.PrintMore
end Go.Proofs.YtgnmjaacnmkgnaaGreatDoorW.PrintMore
section
namespace Go.Proofs.YtgnmjaacnmkgnaaGreatDoor.X
open Go.RowKit Go.Shelf Go.Proofs Go.Proofs.YtgnmjaacnmkgnaaGreatDoorW.PrintWords Go.Proofs.YtgnmjaacnmkgnaaGreatDoorW.PrintLast Go.Proofs.YtgnmjaacnmkgnaaGreatDoorW.PrintMore
set_option linter.unusedVariables false
set_option linter.unusedSimpArgs false
attribute [local go_sem] max2_int min2_int max_two min_two
set_option maxHeartbeats 4000000 in
set_option maxRecDepth 100000 in
theorem Evt.heavy_calls (v : Value) (l : List Evt.Ev) (w : World) (hl : Eng.Reads w v l.length 5 (Evt.cells l)) : Calls Tryz.prog 11 #[v] w fun e w' => e = .returned (.bool (Evt.heavyL l)) ∧ Below w.heap.size w w' := by
 have hm := Eng.Reads.len_le hl
 refine Eng.enter Tryz.func11 rfl fun act0 d0 s0 v0 => ?_
 have s0 : act0.tmps.size = 31 := s0
 have h0_0 : act0.eval (.tmp 0) = v := v0 0 (by simp)
 clear v0
 have bl0 : Below w.heap.size w w := Below.refl _ _
 refine wp_seq ?_
 refine Eng.regionS (Eng.still [fun u_ => u_ = .bool false]) (fun _ => .plain) 1 0 31 s0 rfl (by kernel_rfl) (Eng.still_stable _) (Or.inr (Eng.still_any _)) ?_ ?_
 ·refine .cons (fun _ => ?_) (.nil)
  ·exact Eng.plain rfl rfl fun a w' H => Eng.vr rfl (Eng.run_assign rfl (rfl : a.eval (.const (.bool false)) = .bool false))
 intro act1 w1 T
 have h0_1 := (T.rest 0 (by kernel_rfl)).trans h0_0
 have Fl_1 := Eng.Reads.below hl T.below
 have d1 := T.defers.trans d0
 have s1 := T.size.trans s0
 have bl1 := bl0.trans (T.below.mono bl0.size)
 clear T
 refine Eng.tail_nil ?_
 first | show Code.wp Tryz.prog _ _ _ _ | skip
 refine wp_seq ?_
 refine wp_seq ?_
 refine Eng.regionS (Eng.still [fun u_ => u_ = v, fun u_ => u_ = .int .i64 ((l.length : Nat) : Int), fun u_ => u_ = .int .i64 0]) (fun _ => .plain) 3 0 31 s1 rfl (by kernel_rfl) (Eng.still_stable _) (Or.inr (Eng.still_any _)) ?_ ?_
 ·refine .cons (fun _ => ?_) (.cons (fun _ => ?_) (.cons (fun _ => ?_) (.nil)))
  ·exact Eng.plain rfl rfl fun a w' H => Eng.vr rfl (Eng.run_move rfl ((H.kept 0 (by kernel_rfl)).trans h0_1))
  ·exact Eng.plain rfl rfl fun a w' H => Eng.vr (v := .int .i64 ((l.length : Nat) : Int)) rfl (Eng.run_len_sl rfl Tryz.underlying22 (show a.eval (.tmp 5) = v from (H.dep 0 5 (by kernel_rfl) rfl)) (Eng.Reads.below Fl_1 H.below))
  ·exact Eng.plain rfl rfl fun a w' H => Eng.vr rfl (Eng.run_move rfl (rfl : a.eval (.const (.int .i64 0)) = .int .i64 0))
 intro act2 w2 T
 have h0_2 := (T.rest 0 (by kernel_rfl)).trans h0_1
 have h5_2 : act2.eval (.tmp 5) = v := T.done 0 5 rfl rfl
 have h6_2 : act2.eval (.tmp 6) = .int .i64 ((l.length : Nat) : Int) := T.done 1 6 rfl rfl
 have h7_2 : act2.eval (.tmp 7) = .int .i64 0 := T.done 2 7 rfl rfl
 have d2 := T.defers.trans d1
 have s2 := T.size.trans s1
 have bl2 := bl1.trans (T.below.mono bl1.size)
 clear T
 refine Eng.tail_nil ?_
 first | show Code.wp Tryz.prog _ _ _ _ | skip
 refine wp_block ?_
 refine Eng.loopN (fun n a w' => ∃ (k : Nat), l.length - k = n ∧ (k ≤ l.length) ∧ ((List.take k l).any Evt.heavyE = false) ∧ a.defers = [] ∧ a.tmps.size = 31 ∧ Below w.heap.size w w' ∧ a.eval (.tmp 0) = v ∧ a.eval (.tmp 5) = v ∧ a.eval (.tmp 6) = .int .i64 ((l.length : Nat) : Int) ∧ a.eval (.tmp 7) = .int .i64 (k : Nat)) (n0 := l.length - 0) ?_ ?_
 ·exact ⟨0, rfl, by omega, rfl, d2, s2, bl2, h0_2, h5_2, h6_2, (h7_2.trans (by first | rfl | (congr 1; rw [Eng.i64_id (by omega) (by omega)]; omega) | (simp; done)))⟩
 rintro n act3 w3 ⟨k, rfl, hc0_3, hc1_3, d3, s3, bl3, h0_3, h5_3, h6_3, h7_3⟩
 have Fl_3 := Eng.Reads.below hl bl3
 have hk1 := hc0_3
 have hin := hc1_3
 refine wp_seq ?_
 obtain ⟨q8, Bq8⟩ : ∃ b : Bool, b = (decide ((k : Nat) < ((l.length : Nat) : Int))) := ⟨_, rfl⟩
 refine Eng.regionS (Eng.still [fun u_ => u_ = .bool q8]) (fun _ => .plain) 1 0 31 s3 rfl (by kernel_rfl) (Eng.still_stable _) (Or.inr (Eng.still_any _)) ?_ ?_
 ·refine .cons (fun _ => ?_) (.nil)
  ·refine Eng.plain rfl rfl fun a w' H => ?_
   refine Eng.vr (v := .bool (decide ((k : Nat) < ((l.length : Nat) : Int)))) (by show _ = Value.bool q8; rw [Bq8]) ?_
   have e0 : a.eval (.tmp 7) = .int .i64 (k : Nat) := ((H.kept 7 (by kernel_rfl)).trans h7_3)
   have e1 : a.eval (.tmp 6) = .int .i64 ((l.length : Nat) : Int) := ((H.kept 6 (by kernel_rfl)).trans h6_3)
   simp only [execOp, resolve, List.map_toArray, List.map_cons, List.map_nil, e0, e1]
   go_simp
   all_goals first | rfl | (simp; done) | (rw [Bool.eq_iff_iff]; simp; done) | omega | (split <;> first | (simp_all; done) | (split <;> simp_all; done)) | skip
 intro act4 w4 T
 have h0_4 := (T.rest 0 (by kernel_rfl)).trans h0_3
 have h5_4 := (T.rest 5 (by kernel_rfl)).trans h5_3
 have h6_4 := (T.rest 6 (by kernel_rfl)).trans h6_3
 have h7_4 := (T.rest 7 (by kernel_rfl)).trans h7_3
 have Fl_4 := Eng.Reads.below Fl_3 T.below
 have h8_4 : act4.eval (.tmp 8) = .bool q8 := T.done 0 8 rfl rfl
 have d4 := T.defers.trans d3
 have s4 := T.size.trans s3
 have bl4 := bl3.trans (T.below.mono bl3.size)
 clear T
 refine Eng.tail_nil ?_
 first | show Code.wp Tryz.prog _ _ _ _ | skip
 refine wp_seq ?_
 refine wp_cond_split h8_4 (fun hq => ?_) (fun hq => ?_)
 ·
  have c8 := Bq8.symm.trans hq
  clear hq
  have c8 := of_decide_eq_true c8
  have hk0 : k < l.length := by omega
  refine wp_skip ?_
  first | show Code.wp Tryz.prog _ _ _ _ | skip
  refine wp_seq ?_
  refine wp_block ?_
  refine wp_seq ?_
  refine Eng.regionS (Eng.still [fun u_ => u_ = Eng.elemPtr v (k * 5), fun u_ => u_ = .agg #[.int .i64 ((l.getD k default).kind), .string ((l.getD k default).anchor), .string ((l.getD k default).tag), .string ((l.getD k default).text), .bool ((l.getD k default).plain)], fun u_ => True, fun u_ => True]) (fun i => ([.plain, .plain, .alloc 45 #[.int .i64 0, .string ⟨#[]⟩, .string ⟨#[]⟩, .string ⟨#[]⟩, .bool false], .store 2 #[.int .i64 ((l.getD k default).kind), .string ((l.getD k default).anchor), .string ((l.getD k default).tag), .string ((l.getD k default).text), .bool ((l.getD k default).plain)]] : List Eng.Kind).getD i .plain) 4 0 31 s4 rfl (by kernel_rfl) (Eng.still_stable _) (Or.inr (Eng.still_any _)) ?_ ?_
  ·refine .cons (fun _ => ?_) (.cons (fun _ => ?_) (.cons (fun _ => ?_) (.cons (fun _ => ?_) (.nil))))
   ·exact Eng.plain rfl rfl fun a w' H => Eng.vr (v := Eng.elemPtr v (k * 5)) rfl (Eng.run_index_sl rfl Tryz.underlying22 (by kernel_rfl) (show a.eval (.tmp 5) = v from ((H.kept 5 (by kernel_rfl)).trans h5_4)) ((show a.eval (.tmp 7) = .int .i64 (k : Nat) from ((H.kept 7 (by kernel_rfl)).trans h7_4)).trans (congrArg (Value.int _) (show (k : Nat) = ((k : Nat) : Int) from by omega))) (Eng.Reads.below Fl_4 H.below) (by omega) rfl)
   ·exact Eng.plain rfl rfl fun a w' H => Eng.vr (v := .agg #[.int .i64 ((l.getD k default).kind), .string ((l.getD k default).anchor), .string ((l.getD k default).tag), .string ((l.getD k default).text), .bool ((l.getD k default).plain)]) rfl (Eng.run_load_els [.int .i64 ((l.getD k default).kind), .string ((l.getD k default).anchor), .string ((l.getD k default).tag), .string ((l.getD k default).text), .bool ((l.getD k default).plain)] rfl (show a.eval (.tmp 9) = Eng.elemPtr v (k * 5) from (H.dep 0 9 (by kernel_rfl) rfl)) (Eng.Reads.below Fl_4 H.below) (Evt.cells_at l k (by omega)) rfl Tryz.underlying45 rfl (by kernel_rfl))
   ·refine Eng.made rfl (by simp) rfl (fun a w' hd ho => ?_) (fun _ _ => trivial)
    simp only [execOp]
    go_simp
   ·refine Eng.stored [.int .i64 ((l.getD k default).kind), .string ((l.getD k default).anchor), .string ((l.getD k default).tag), .string ((l.getD k default).text), .bool ((l.getD k default).plain)] rfl rfl rfl (j := 2) (d := 4) (by kernel_rfl) rfl rfl (Eng.store_uniq (by kernel_rfl)) rfl rfl fun a w' g e hc hd ho => ?_
    have e0 : a.eval _ = .agg #[.int .i64 ((l.getD k default).kind), .string ((l.getD k default).anchor), .string ((l.getD k default).tag), .string ((l.getD k default).text), .bool ((l.getD k default).plain)] := (hd 1 10 (by kernel_rfl) rfl)
    have z0 := (Eng.cells hc 0).trans rfl
    have z1 := (Eng.cells hc 1).trans rfl
    have z2 := (Eng.cells hc 2).trans rfl
    have z3 := (Eng.cells hc 3).trans rfl
    have z4 := (Eng.cells hc 4).trans rfl
    have f0 := Eng.unfrozen hc 0
    have f1 := Eng.unfrozen hc 1
    have f2 := Eng.unfrozen hc 2
    have f3 := Eng.unfrozen hc 3
    have f4 := Eng.unfrozen hc 4
    simp only [execOp, e, e0]
    go_simp
    rfl
  intro act6 w6 T
  have h0_6 := (T.rest 0 (by kernel_rfl)).trans h0_4
  have h5_6 := (T.rest 5 (by kernel_rfl)).trans h5_4
  have h6_6 := (T.rest 6 (by kernel_rfl)).trans h6_4
  have h7_6 := (T.rest 7 (by kernel_rfl)).trans h7_4
  obtain ⟨g4_6, h4_6, rg4_6, lg4_6_6, kg4_6_6⟩ := T.st 2 4 3 _ _ _ rfl rfl rfl rfl rfl
  have d6 := T.defers.trans d4
  have s6 := T.size.trans s4
  have bl6 := bl4.trans (T.below.mono bl4.size)
  clear T
  refine Eng.tail_nil ?_
  first | show Code.wp Tryz.prog _ _ _ _ | skip
  refine wp_seq ?_
  obtain ⟨q14, Bq14⟩ : ∃ b : Bool, b = (decide ((((l.getD k default).text).size : Int) > 3000)) := ⟨_, rfl⟩
  obtain ⟨q19, Bq19⟩ : ∃ b : Bool, b = (decide ((((l.getD k default).anchor).size : Int) > 3000)) := ⟨_, rfl⟩
  obtain ⟨q20, Bq20⟩ : ∃ b : Bool, b = (q14 || q19) := ⟨_, rfl⟩
  obtain ⟨q25, Bq25⟩ : ∃ b : Bool, b = (decide ((((l.getD k default).tag).size : Int) > 3000)) := ⟨_, rfl⟩
  obtain ⟨q26, Bq26⟩ : ∃ b : Bool, b = (q20 || q25) := ⟨_, rfl⟩
  refine Eng.regionS (Eng.still [fun u_ => u_ = .pointer (some ⟨g4_6, 3, none⟩), fun u_ => u_ = .string ((l.getD k default).text), fun u_ => u_ = .int .i64 (((l.getD k default).text).size : Int), fun u_ => u_ = .bool q14, fun u_ => u_ = .bool q14, fun u_ => u_ = bif (q14 == false) then (.pointer (some ⟨g4_6, 1, none⟩)) else undef, fun u_ => u_ = bif (q14 == false) then (.string ((l.getD k default).anchor)) else undef, fun u_ => u_ = bif (q14 == false) then (.int .i64 (((l.getD k default).anchor).size : Int)) else undef, fun u_ => u_ = bif (q14 == false) then (.bool q19) else undef, fun u_ => u_ = .bool q20, fun u_ => u_ = .bool q20, fun u_ => u_ = bif (q20 == false) then (.pointer (some ⟨g4_6, 2, none⟩)) else undef, fun u_ => u_ = bif (q20 == false) then (.string ((l.getD k default).tag)) else undef, fun u_ => u_ = bif (q20 == false) then (.int .i64 (((l.getD k default).tag).size : Int)) else undef, fun u_ => u_ = bif (q20 == false) then (.bool q25) else undef, fun u_ => u_ = .bool q26]) (fun _ => .plain) 16 0 31 s6 rfl (by kernel_rfl) (Eng.still_stable _) (Or.inr (Eng.still_any _)) ?_ ?_
  ·refine .cons (fun _ => ?_) (.cons (fun _ => ?_) (.cons (fun _ => ?_) (.cons (fun _ => ?_) (.cons (fun _ => ?_) (.cons (fun _ => ?_) (.cons (fun _ => ?_) (.cons (fun _ => ?_) (.cons (fun _ => ?_) (.cons (fun _ => ?_) (.cons (fun _ => ?_) (.cons (fun _ => ?_) (.cons (fun _ => ?_) (.cons (fun _ => ?_) (.cons (fun _ => ?_) (.cons (fun _ => ?_) (.nil))))))))))))))))
   ·exact Eng.plain rfl rfl fun a w' H => Eng.vr rfl (Eng.run_fieldb rfl Tryz.underlying45 3 (by kernel_rfl) ((H.kept 4 (by kernel_rfl)).trans h4_6))
   ·exact Eng.plain rfl rfl fun a w' H => Eng.vr rfl (Eng.run_loadb rfl (H.dep 0 11 (by kernel_rfl) rfl) ((H.below.block _ lg4_6_6).trans kg4_6_6) rfl (by kernel_rfl))
   ·refine Eng.plain rfl rfl fun a w' H => ?_
    refine Eng.vr (v := .int .i64 (((l.getD k default).text).size : Int)) rfl ?_
    have e0 : a.eval (.tmp 12) = .string ((l.getD k default).text) := (H.dep 1 12 (by kernel_rfl) rfl)
    simp only [execOp, resolve, List.map_toArray, List.map_cons, List.map_nil, e0]
    go_simp
    all_goals first | rfl | (simp; done) | (rw [Bool.eq_iff_iff]; simp; done) | omega | (split <;> first | (simp_all; done) | (split <;> simp_all; done)) | skip
   ·refine Eng.plain rfl rfl fun a w' H => ?_
    refine Eng.vr (v := .bool (decide ((((l.getD k default).text).size : Int) > 3000))) (by show _ = Value.bool q14; rw [Bq14]) ?_
    have e0 : a.eval (.tmp 13) = .int .i64 (((l.getD k default).text).size : Int) := (H.dep 2 13 (by kernel_rfl) rfl)
    have e1 : a.eval (.const (.int .i64 3000)) = .int .i64 3000 := (rfl : a.eval (.const (.int .i64 3000)) = .int .i64 3000)
    simp only [execOp, resolve, List.map_toArray, List.map_cons, List.map_nil, e0, e1]
    go_simp
    all_goals first | rfl | (simp; done) | (rw [Bool.eq_iff_iff]; simp; done) | omega | (split <;> first | (simp_all; done) | (split <;> simp_all; done)) | skip
   ·exact Eng.plain rfl rfl fun a w' H => Eng.vr rfl (Eng.run_move rfl (H.dep 3 14 (by kernel_rfl) rfl))
   ·refine Eng.guarded1 (j := 4) (d := 15) (b := q14) rfl rfl (by kernel_rfl) rfl (fun v w h => h) (fun hG w => Eng.off hG) fun hG a w' H => ?_
    exact Eng.val (w1 := w') (v := .pointer (some ⟨g4_6, 1, none⟩)) (Eng.run_fieldb rfl Tryz.underlying45 1 (by kernel_rfl) ((H.kept 4 (by kernel_rfl)).trans h4_6)) (Below.refl _ _) (Eng.off' hG rfl)
   ·refine Eng.guarded1 (j := 4) (d := 15) (b := q14) rfl rfl (by kernel_rfl) rfl (fun v w h => h) (fun hG w => Eng.off hG) fun hG a w' H => ?_
    exact Eng.val (w1 := w') (v := .string ((l.getD k default).anchor)) (Eng.run_loadb rfl (Eng.on (H.dep 5 16 (by kernel_rfl) rfl) hG) ((H.below.block _ lg4_6_6).trans kg4_6_6) rfl (by kernel_rfl)) (Below.refl _ _) (Eng.off' hG rfl)
   ·refine Eng.guarded1 (j := 4) (d := 15) (b := q14) rfl rfl (by kernel_rfl) rfl (fun v w h => h) (fun hG w => Eng.off hG) fun hG a w' H => ?_
    refine Eng.vr (v := .int .i64 (((l.getD k default).anchor).size : Int)) (Eng.off' hG rfl) ?_
    have e0 : a.eval (.tmp 17) = .string ((l.getD k default).anchor) := (Eng.on (H.dep 6 17 (by kernel_rfl) rfl) hG)
    simp only [execOp, resolve, List.map_toArray, List.map_cons, List.map_nil, e0]
    go_simp
    all_goals first | rfl | (simp; done) | (rw [Bool.eq_iff_iff]; simp; done) | omega | (split <;> first | (simp_all; done) | (split <;> simp_all; done)) | skip
   ·refine Eng.guarded1 (j := 4) (d := 15) (b := q14) rfl rfl (by kernel_rfl) rfl (fun v w h => h) (fun hG w => Eng.off hG) fun hG a w' H => ?_
    refine Eng.vr (v := .bool (decide ((((l.getD k default).anchor).size : Int) > 3000))) (Eng.off' hG (by rw [Bq19])) ?_
    have e0 : a.eval (.tmp 18) = .int .i64 (((l.getD k default).anchor).size : Int) := (Eng.on (H.dep 7 18 (by kernel_rfl) rfl) hG)
    have e1 : a.eval (.const (.int .i64 3000)) = .int .i64 3000 := (rfl : a.eval (.const (.int .i64 3000)) = .int .i64 3000)
    simp only [execOp, resolve, List.map_toArray, List.map_cons, List.map_nil, e0, e1]
    go_simp
    all_goals first | rfl | (simp; done) | (rw [Bool.eq_iff_iff]; simp; done) | omega | (split <;> first | (simp_all; done) | (split <;> simp_all; done)) | skip
   ·exact Eng.plain rfl rfl fun a w' H => Eng.vr (v := .bool (q14 || q19)) (by show _ = Value.bool q20; rw [Bq20]) (Eng.run_or rfl rfl (G := true) (H.dep 4 15 (by kernel_rfl) rfl) (fun hb => (Eng.on (H.dep 8 19 (by kernel_rfl) rfl) (Eng.mk1 hb))))
   ·exact Eng.plain rfl rfl fun a w' H => Eng.vr rfl (Eng.run_move rfl (H.dep 9 20 (by kernel_rfl) rfl))
   ·refine Eng.guarded1 (j := 10) (d := 21) (b := q20) rfl rfl (by kernel_rfl) rfl (fun v w h => h) (fun hG w => Eng.off hG) fun hG a w' H => ?_
    exact Eng.val (w1 := w') (v := .pointer (some ⟨g4_6, 2, none⟩)) (Eng.run_fieldb rfl Tryz.underlying45 2 (by kernel_rfl) ((H.kept 4 (by kernel_rfl)).trans h4_6)) (Below.refl _ _) (Eng.off' hG rfl)
   ·refine Eng.guarded1 (j := 10) (d := 21) (b := q20) rfl rfl (by kernel_rfl) rfl (fun v w h => h) (fun hG w => Eng.off hG) fun hG a w' H => ?_
    exact Eng.val (w1 := w') (v := .string ((l.getD k default).tag)) (Eng.run_loadb rfl (Eng.on (H.dep 11 22 (by kernel_rfl) rfl) hG) ((H.below.block _ lg4_6_6).trans kg4_6_6) rfl (by kernel_rfl)) (Below.refl _ _) (Eng.off' hG rfl)
   ·refine Eng.guarded1 (j := 10) (d := 21) (b := q20) rfl rfl (by kernel_rfl) rfl (fun v w h => h) (fun hG w => Eng.off hG) fun hG a w' H => ?_
    refine Eng.vr (v := .int .i64 (((l.getD k default).tag).size : Int)) (Eng.off' hG rfl) ?_
    have e0 : a.eval (.tmp 23) = .string ((l.getD k default).tag) := (Eng.on (H.dep 12 23 (by kernel_rfl) rfl) hG)
    simp only [execOp, resolve, List.map_toArray, List.map_cons, List.map_nil, e0]
    go_simp
    all_goals first | rfl | (simp; done) | (rw [Bool.eq_iff_iff]; simp; done) | omega | (split <;> first | (simp_all; done) | (split <;> simp_all; done)) | skip
   ·refine Eng.guarded1 (j := 10) (d := 21) (b := q20) rfl rfl (by kernel_rfl) rfl (fun v w h => h) (fun hG w => Eng.off hG) fun hG a w' H => ?_
    refine Eng.vr (v := .bool (decide ((((l.getD k default).tag).size : Int) > 3000))) (Eng.off' hG (by rw [Bq25])) ?_
    have e0 : a.eval (.tmp 24) = .int .i64 (((l.getD k default).tag).size : Int) := (Eng.on (H.dep 13 24 (by kernel_rfl) rfl) hG)
    have e1 : a.eval (.const (.int .i64 3000)) = .int .i64 3000 := (rfl : a.eval (.const (.int .i64 3000)) = .int .i64 3000)
    simp only [execOp, resolve, List.map_toArray, List.map_cons, List.map_nil, e0, e1]
    go_simp
    all_goals first | rfl | (simp; done) | (rw [Bool.eq_iff_iff]; simp; done) | omega | (split <;> first | (simp_all; done) | (split <;> simp_all; done)) | skip
   ·exact Eng.plain rfl rfl fun a w' H => Eng.vr (v := .bool (q20 || q25)) (by show _ = Value.bool q26; rw [Bq26]) (Eng.run_or rfl rfl (G := true) (H.dep 10 21 (by kernel_rfl) rfl) (fun hb => (Eng.on (H.dep 14 25 (by kernel_rfl) rfl) (Eng.mk1 hb))))
  intro act7 w7 T
  have h0_7 := (T.rest 0 (by kernel_rfl)).trans h0_6
  have h5_7 := (T.rest 5 (by kernel_rfl)).trans h5_6
  have h6_7 := (T.rest 6 (by kernel_rfl)).trans h6_6
  have h7_7 := (T.rest 7 (by kernel_rfl)).trans h7_6
  have h26_7 : act7.eval (.tmp 26) = .bool q26 := T.done 15 26 rfl rfl
  have d7 := T.defers.trans d6
  have s7 := T.size.trans s6
  have bl7 := bl6.trans (T.below.mono bl6.size)
  clear T
  refine Eng.tail_nil ?_
  first | show Code.wp Tryz.prog _ _ _ _ | skip
  refine wp_cond_split h26_7 (fun hq => ?_) (fun hq => ?_)
  ·
   have c26 := Bq26.symm.trans hq
   clear hq
   have hx : Evt.heavyE (l.getD k default) = true := by have h1 := c26; simp only [Bq26, Bq25, Bq20, Bq19, Bq14, Bq8] at h1; exact h1
   refine wp_seq ?_
   refine Eng.regionS (Eng.still [fun u_ => u_ = .bool true]) (fun _ => .plain) 1 0 31 s7 rfl (by kernel_rfl) (Eng.still_stable _) (Or.inr (Eng.still_any _)) ?_ ?_
   ·refine .cons (fun _ => ?_) (.nil)
    ·exact Eng.plain rfl rfl fun a w' H => Eng.vr rfl (Eng.run_assign rfl (rfl : a.eval (.const (.bool true)) = .bool true))
   intro act9 w9 T
   have h2_9 : act9.eval (.tmp 2) = .bool true := T.done 0 2 rfl rfl
   have d9 := T.defers.trans d7
   have bl9 := bl7.trans (T.below.mono bl7.size)
   clear T
   refine Eng.tail_nil ?_
   first | show Code.wp Tryz.prog _ _ _ _ | skip
   refine wp_ret ?_
   repeat (first | with_reducible refine Eng.in_ret ?_ | with_reducible refine Eng.then_ret ?_)
   exact Eng.ret1 rfl d9 h2_9 ⟨by rw [Evt.heavy_at hk0 hx], bl9⟩
  ·
   have c26 := Bq26.symm.trans hq
   clear hq
   have hx : Evt.heavyE (l.getD k default) = false := by have h1 := c26; simp only [Bq26, Bq25, Bq20, Bq19, Bq14, Bq8] at h1; exact h1
   refine wp_skip ?_
   first | show Code.wp Tryz.prog _ _ _ _ | skip
   refine Eng.regionS (Eng.still [fun u_ => u_ = .int .i64 (IntKind.i64.wrap ((k : Nat) + 1)), fun u_ => u_ = .int .i64 (IntKind.i64.wrap ((k : Nat) + 1))]) (fun _ => .plain) 2 0 31 s7 rfl (by kernel_rfl) (Eng.still_stable _) (Or.inr (Eng.still_any _)) ?_ ?_
   ·refine .cons (fun _ => ?_) (.cons (fun _ => ?_) (.nil))
    ·refine Eng.plain rfl rfl fun a w' H => ?_
     refine Eng.vr (v := .int .i64 (IntKind.i64.wrap ((k : Nat) + 1))) rfl ?_
     have e0 : a.eval (.tmp 7) = .int .i64 (k : Nat) := ((H.kept 7 (by kernel_rfl)).trans h7_7)
     have e1 : a.eval (.const (.int .i64 1)) = .int .i64 1 := (rfl : a.eval (.const (.int .i64 1)) = .int .i64 1)
     simp only [execOp, resolve, List.map_toArray, List.map_cons, List.map_nil, e0, e1]
     go_simp
     all_goals first | rfl | (simp; done) | (rw [Bool.eq_iff_iff]; simp; done) | omega | (split <;> first | (simp_all; done) | (split <;> simp_all; done)) | skip
    ·exact Eng.plain rfl rfl fun a w' H => Eng.vr rfl (Eng.run_move rfl (H.dep 0 27 (by kernel_rfl) rfl))
   intro act11 w11 T
   have h0_11 := (T.rest 0 (by kernel_rfl)).trans h0_7
   have h5_11 := (T.rest 5 (by kernel_rfl)).trans h5_7
   have h6_11 := (T.rest 6 (by kernel_rfl)).trans h6_7
   have h7_11 : act11.eval (.tmp 7) = .int .i64 (IntKind.i64.wrap ((k : Nat) + 1)) := T.done 1 7 rfl rfl
   have d11 := T.defers.trans d7
   have s11 := T.size.trans s7
   have bl11 := bl7.trans (T.below.mono bl7.size)
   clear T
   refine Eng.tail_nil ?_
   exact ⟨_, by omega, k + 1, rfl, by omega, Evt.heavy_take hk0 hin hx, d11, s11, bl11, h0_11, h5_11, h6_11, (h7_11.trans (by first | rfl | (congr 1; rw [Eng.i64_id (by omega) (by omega)]; omega) | (simp; done)))⟩
 ·
  have c8 := Bq8.symm.trans hq
  clear hq
  have c8 := of_decide_eq_false c8
  have hke : k = l.length := by omega
  refine wp_exit ?_
  first | show Code.wp Tryz.prog _ _ _ _ | skip
  first | show Code.wp Tryz.prog _ _ _ _ | skip
  refine wp_seq ?_
  obtain ⟨q30, Bq30⟩ : ∃ b : Bool, b = (decide (((l.length : Nat) : Int) > 150)) := ⟨_, rfl⟩
  refine Eng.regionS (Eng.still [fun u_ => u_ = v, fun u_ => u_ = .int .i64 ((l.length : Nat) : Int), fun u_ => u_ = .bool q30, fun u_ => u_ = .bool q30]) (fun _ => .plain) 4 0 31 s4 rfl (by kernel_rfl) (Eng.still_stable _) (Or.inr (Eng.still_any _)) ?_ ?_
  ·refine .cons (fun _ => ?_) (.cons (fun _ => ?_) (.cons (fun _ => ?_) (.cons (fun _ => ?_) (.nil))))
   ·exact Eng.plain rfl rfl fun a w' H => Eng.vr rfl (Eng.run_move rfl ((H.kept 0 (by kernel_rfl)).trans h0_4))
   ·exact Eng.plain rfl rfl fun a w' H => Eng.vr (v := .int .i64 ((l.length : Nat) : Int)) rfl (Eng.run_len_sl rfl Tryz.underlying22 (show a.eval (.tmp 28) = v from (H.dep 0 28 (by kernel_rfl) rfl)) (Eng.Reads.below Fl_4 H.below))
   ·refine Eng.plain rfl rfl fun a w' H => ?_
    refine Eng.vr (v := .bool (decide (((l.length : Nat) : Int) > 150))) (by show _ = Value.bool q30; rw [Bq30]) ?_
    have e0 : a.eval (.tmp 29) = .int .i64 ((l.length : Nat) : Int) := (H.dep 1 29 (by kernel_rfl) rfl)
    have e1 : a.eval (.const (.int .i64 150)) = .int .i64 150 := (rfl : a.eval (.const (.int .i64 150)) = .int .i64 150)
    simp only [execOp, resolve, List.map_toArray, List.map_cons, List.map_nil, e0, e1]
    go_simp
    all_goals first | rfl | (simp; done) | (rw [Bool.eq_iff_iff]; simp; done) | omega | (split <;> first | (simp_all; done) | (split <;> simp_all; done)) | skip
   ·exact Eng.plain rfl rfl fun a w' H => Eng.vr rfl (Eng.run_assign rfl (H.dep 2 30 (by kernel_rfl) rfl))
  intro act13 w13 T
  have h2_13 : act13.eval (.tmp 2) = .bool q30 := T.done 3 2 rfl rfl
  have d13 := T.defers.trans d4
  have bl13 := bl4.trans (T.below.mono bl4.size)
  clear T
  refine Eng.tail_nil ?_
  first | show Code.wp Tryz.prog _ _ _ _ | skip
  refine wp_ret ?_
  repeat (first | with_reducible refine Eng.in_ret ?_ | with_reducible refine Eng.then_ret ?_)
  have fin : q30 = Evt.heavyL l := by
   simp only [Bq30, Bq8]
   rw [hke, List.take_length] at hin; unfold Evt.heavyL; rw [hin, Bool.false_or]
  exact Eng.ret1 rfl d13 (h2_13.trans (congrArg Value.bool fin)) ⟨rfl, bl13⟩
end Go.Proofs.YtgnmjaacnmkgnaaGreatDoor.X
end
section
set_option linter.unusedVariables false
set_option linter.unusedSimpArgs false
namespace Go.Proofs.Eng
open Go Go.RowKit
variable {P : Program}
section
variable {o : Oper} {a : Act} {w : World}
theorem run_appendM {B : Nat} {t e : TypeId} {z : Value} {size : Nat} {s x : Operand} (hop : o.op = .call { callee := .builtin .append, args := #[s, x], argTypes := #[t, t] })
    (ht : P.underlying t = some (.slice e)) (hI : (P.info? e).map (fun i => (i.size, decide (i.bytes ≤ 64), i.zero)) = some (size, true, some z)) (hzs : z.cells.size = size) (hsz : (decide (0 < size)) = true)
    {v xv : Value} {n : Nat} {xs : List Value} (hs : a.eval s = v) (O : w.ownsRow B e size v n xs) (hx : a.eval x = xv) {m : Nat} {news : List Value} (F : Reads w xv m size news) (h1 : ∀ u ∈ news, u.oneCell' = true) (h63 : n + m ≤ 2199023255488) (hB : B ≤ w.heap.size) :
    ∃ v' w', (execOp a.eval o).run P w = .ok (.value v') w' ∧ w'.ownsRow B e size v' (n + m) (xs ++ news) ∧ w'.ownsRow B e size v n xs ∧ Below B w w' ∧ w.grownBy w' v.ownBlock ∧ (v'.ownBlock = v.ownBlock ∨ v'.ownBlock = some w.heap.size) := by
  cases hq : P.info? e with
  | none => simp [hq] at hI
  | some i =>
    simp [hq] at hI
    obtain ⟨h2, h3, h4⟩ := hI
    have hb : (n + m) * i.bytes ≤ 140737488355328 := Nat.le_trans (Nat.mul_le_mul h63 h3) (by decide)
    obtain ⟨v', w', hr, h⟩ := own_appendT (P := P) (ty := o.type) ht hq h4 h2 (by omega) hzs (of_decide_eq_true hsz) O F h1 (by unfold maxLen; omega) hb hB
    refine ⟨v', w', ?_, h⟩
    unfold execOp
    simp only [hop, resolve, invoke, builtin, Sem.run_bind, Sem.run_pure, Result.andThen_ok, List.map_toArray, List.map_cons, List.map_nil, hs, hx, hr]
end
end Go.Proofs.Eng
end
section
namespace Go.Proofs.YtgnmjaacnmkgnaaGreatDoor.X
open Go.RowKit Go.Shelf Go.Proofs Go.Proofs.YtgnmjaacnmkgnaaGreatDoorW.PrintWords Go.Proofs.YtgnmjaacnmkgnaaGreatDoorW.PrintLast Go.Proofs.YtgnmjaacnmkgnaaGreatDoorW.PrintMore
set_option linter.unusedVariables false
set_option linter.unusedSimpArgs false
attribute [local go_sem] max2_int min2_int max_two min_two
set_option maxHeartbeats 4000000 in
set_option maxRecDepth 100000 in
theorem Evt.theirs_calls (v : Value) (l : List Evt.Ev) (w : World) (hl : Eng.Reads w v l.length 5 (Evt.cells l)) (hlen : l.length ≤ 2199023255488) : Calls Tryz.prog 10 #[v] w fun e w' => ∃ o, e = .returned o ∧ w'.ownsRow w.heap.size 29 5 o l.length (Evt.cells l) ∧ Below w.heap.size w w' := by
 have hm := Eng.Reads.len_le hl
 refine Eng.enter Tryz.func10 rfl fun act0 d0 s0 v0 => ?_
 have s0 : act0.tmps.size = 18 := s0
 have h0_0 : act0.eval (.tmp 0) = v := v0 0 (by simp)
 clear v0
 have bl0 : Below w.heap.size w w := Below.refl _ _
 refine wp_seq ?_
 refine Eng.regionS (Eng.still [fun u_ => u_ = .slice none 0 0]) (fun _ => .plain) 1 0 18 s0 rfl (by kernel_rfl) (Eng.still_stable _) (Or.inr (Eng.still_any _)) ?_ ?_
 ·refine .cons (fun _ => ?_) (.nil)
  ·exact Eng.plain rfl rfl fun a w' H => Eng.vr rfl (Eng.run_assign rfl (rfl : a.eval (.const (.slice none 0 0)) = .slice none 0 0))
 intro act1 w1 T
 have h0_1 := (T.rest 0 (by kernel_rfl)).trans h0_0
 have Fl_1 := Eng.Reads.below hl T.below
 have h2_1 : act1.eval (.tmp 2) = .slice none 0 0 := T.done 0 2 rfl rfl
 have d1 := T.defers.trans d0
 have s1 := T.size.trans s0
 have bl1 := bl0.trans (T.below.mono bl0.size)
 clear T
 refine Eng.tail_nil ?_
 first | show Code.wp Tryz.prog _ _ _ _ | skip
 refine wp_seq ?_
 refine Eng.regionS (Eng.still [fun u_ => u_ = .slice none 0 0]) (fun _ => .plain) 1 0 18 s1 rfl (by kernel_rfl) (Eng.still_stable _) (Or.inr (Eng.still_any _)) ?_ ?_
 ·refine .cons (fun _ => ?_) (.nil)
  ·exact Eng.plain rfl rfl fun a w' H => Eng.vr rfl (Eng.run_assign rfl (rfl : a.eval (.const (.slice none 0 0)) = .slice none 0 0))
 intro act2 w2 T
 have h0_2 := (T.rest 0 (by kernel_rfl)).trans h0_1
 have h2_2 := (T.rest 2 (by kernel_rfl)).trans h2_1
 have Fl_2 := Eng.Reads.below Fl_1 T.below
 have h3_2 : act2.eval (.tmp 3) = .slice none 0 0 := T.done 0 3 rfl rfl
 have d2 := T.defers.trans d1
 have s2 := T.size.trans s1
 have bl2 := bl1.trans (T.below.mono bl1.size)
 clear T
 refine Eng.tail_nil ?_
 first | show Code.wp Tryz.prog _ _ _ _ | skip
 refine wp_seq ?_
 refine wp_seq ?_
 refine Eng.regionS (Eng.still [fun u_ => u_ = v, fun u_ => u_ = .int .i64 ((l.length : Nat) : Int), fun u_ => u_ = .int .i64 0]) (fun _ => .plain) 3 0 18 s2 rfl (by kernel_rfl) (Eng.still_stable _) (Or.inr (Eng.still_any _)) ?_ ?_
 ·refine .cons (fun _ => ?_) (.cons (fun _ => ?_) (.cons (fun _ => ?_) (.nil)))
  ·exact Eng.plain rfl rfl fun a w' H => Eng.vr rfl (Eng.run_move rfl ((H.kept 0 (by kernel_rfl)).trans h0_2))
  ·exact Eng.plain rfl rfl fun a w' H => Eng.vr (v := .int .i64 ((l.length : Nat) : Int)) rfl (Eng.run_len_sl rfl Tryz.underlying22 (show a.eval (.tmp 6) = v from (H.dep 0 6 (by kernel_rfl) rfl)) (Eng.Reads.below Fl_2 H.below))
  ·exact Eng.plain rfl rfl fun a w' H => Eng.vr rfl (Eng.run_move rfl (rfl : a.eval (.const (.int .i64 0)) = .int .i64 0))
 intro act3 w3 T
 have h0_3 := (T.rest 0 (by kernel_rfl)).trans h0_2
 have h2_3 := (T.rest 2 (by kernel_rfl)).trans h2_2
 have h3_3 := (T.rest 3 (by kernel_rfl)).trans h3_2
 have h6_3 : act3.eval (.tmp 6) = v := T.done 0 6 rfl rfl
 have h7_3 : act3.eval (.tmp 7) = .int .i64 ((l.length : Nat) : Int) := T.done 1 7 rfl rfl
 have h8_3 : act3.eval (.tmp 8) = .int .i64 0 := T.done 2 8 rfl rfl
 have d3 := T.defers.trans d2
 have s3 := T.size.trans s2
 have bl3 := bl2.trans (T.below.mono bl2.size)
 clear T
 refine Eng.tail_nil ?_
 first | show Code.wp Tryz.prog _ _ _ _ | skip
 refine wp_block ?_
 refine Eng.loopN (fun n a w' => ∃ (k : Nat) (o : Value), l.length - k = n ∧ (k ≤ l.length) ∧ (w'.ownsRow w.heap.size 29 5 o (List.take k l).length (Evt.cells (List.take k l))) ∧ a.defers = [] ∧ a.tmps.size = 18 ∧ Below w.heap.size w w' ∧ a.eval (.tmp 0) = v ∧ a.eval (.tmp 2) = .slice none 0 0 ∧ a.eval (.tmp 3) = o ∧ a.eval (.tmp 6) = v ∧ a.eval (.tmp 7) = .int .i64 ((l.length : Nat) : Int) ∧ a.eval (.tmp 8) = .int .i64 (k : Nat)) (n0 := l.length - 0) ?_ ?_
 ·exact ⟨0, .slice none 0 0, rfl, by omega, World.ownsRow_nil _ _ _ _, d3, s3, bl3, h0_3, h2_3, (h3_3.trans (by first | rfl | (congr 1; rw [Eng.i64_id (by omega) (by omega)]; omega) | (simp; done))), h6_3, h7_3, (h8_3.trans (by first | rfl | (congr 1; rw [Eng.i64_id (by omega) (by omega)]; omega) | (simp; done)))⟩
 rintro n act4 w4 ⟨k, o, rfl, hc0_4, hc1_4, d4, s4, bl4, h0_4, h2_4, h3_4, h6_4, h7_4, h8_4⟩
 have Fl_4 := Eng.Reads.below hl bl4
 have hk1 := hc0_4
 refine wp_seq ?_
 obtain ⟨q9, Bq9⟩ : ∃ b : Bool, b = (decide ((k : Nat) < ((l.length : Nat) : Int))) := ⟨_, rfl⟩
 refine Eng.regionS (Eng.still [fun u_ => u_ = .bool q9]) (fun _ => .plain) 1 0 18 s4 rfl (by kernel_rfl) (Eng.still_stable _) (Or.inr (Eng.still_any _)) ?_ ?_
 ·refine .cons (fun _ => ?_) (.nil)
  ·refine Eng.plain rfl rfl fun a w' H => ?_
   refine Eng.vr (v := .bool (decide ((k : Nat) < ((l.length : Nat) : Int)))) (by show _ = Value.bool q9; rw [Bq9]) ?_
   have e0 : a.eval (.tmp 8) = .int .i64 (k : Nat) := ((H.kept 8 (by kernel_rfl)).trans h8_4)
   have e1 : a.eval (.tmp 7) = .int .i64 ((l.length : Nat) : Int) := ((H.kept 7 (by kernel_rfl)).trans h7_4)
   simp only [execOp, resolve, List.map_toArray, List.map_cons, List.map_nil, e0, e1]
   go_simp
   all_goals first | rfl | (simp; done) | (rw [Bool.eq_iff_iff]; simp; done) | omega | (split <;> first | (simp_all; done) | (split <;> simp_all; done)) | skip
 intro act5 w5 T
 have h0_5 := (T.rest 0 (by kernel_rfl)).trans h0_4
 have h2_5 := (T.rest 2 (by kernel_rfl)).trans h2_4
 have h3_5 := (T.rest 3 (by kernel_rfl)).trans h3_4
 have h6_5 := (T.rest 6 (by kernel_rfl)).trans h6_4
 have h7_5 := (T.rest 7 (by kernel_rfl)).trans h7_4
 have h8_5 := (T.rest 8 (by kernel_rfl)).trans h8_4
 have Fl_5 := Eng.Reads.below Fl_4 T.below
 have Oout_5 := Eng.own_below hc1_4 T.below
 have h9_5 : act5.eval (.tmp 9) = .bool q9 := T.done 0 9 rfl rfl
 have d5 := T.defers.trans d4
 have s5 := T.size.trans s4
 have bl5 := bl4.trans (T.below.mono bl4.size)
 clear T
 refine Eng.tail_nil ?_
 first | show Code.wp Tryz.prog _ _ _ _ | skip
 refine wp_seq ?_
 refine wp_cond_split h9_5 (fun hq => ?_) (fun hq => ?_)
 ·
  have c9 := Bq9.symm.trans hq
  clear hq
  have c9 := of_decide_eq_true c9
  have hk0 : k < l.length := by omega
  refine wp_skip ?_
  first | show Code.wp Tryz.prog _ _ _ _ | skip
  refine wp_seq ?_
  refine wp_block ?_
  refine wp_seq ?_
  refine Eng.regionS (Eng.still [fun u_ => u_ = Eng.elemPtr v (k * 5), fun u_ => u_ = .agg #[.int .i64 ((l.getD k default).kind), .string ((l.getD k default).anchor), .string ((l.getD k default).tag), .string ((l.getD k default).text), .bool ((l.getD k default).plain)], fun u_ => True, fun u_ => True]) (fun i => ([.plain, .plain, .alloc 45 #[.int .i64 0, .string ⟨#[]⟩, .string ⟨#[]⟩, .string ⟨#[]⟩, .bool false], .store 2 #[.int .i64 ((l.getD k default).kind), .string ((l.getD k default).anchor), .string ((l.getD k default).tag), .string ((l.getD k default).text), .bool ((l.getD k default).plain)]] : List Eng.Kind).getD i .plain) 4 0 18 s5 rfl (by kernel_rfl) (Eng.still_stable _) (Or.inr (Eng.still_any _)) ?_ ?_
  ·refine .cons (fun _ => ?_) (.cons (fun _ => ?_) (.cons (fun _ => ?_) (.cons (fun _ => ?_) (.nil))))
   ·exact Eng.plain rfl rfl fun a w' H => Eng.vr (v := Eng.elemPtr v (k * 5)) rfl (Eng.run_index_sl rfl Tryz.underlying22 (by kernel_rfl) (show a.eval (.tmp 6) = v from ((H.kept 6 (by kernel_rfl)).trans h6_5)) ((show a.eval (.tmp 8) = .int .i64 (k : Nat) from ((H.kept 8 (by kernel_rfl)).trans h8_5)).trans (congrArg (Value.int _) (show (k : Nat) = ((k : Nat) : Int) from by omega))) (Eng.Reads.below Fl_5 H.below) (by omega) rfl)
   ·exact Eng.plain rfl rfl fun a w' H => Eng.vr (v := .agg #[.int .i64 ((l.getD k default).kind), .string ((l.getD k default).anchor), .string ((l.getD k default).tag), .string ((l.getD k default).text), .bool ((l.getD k default).plain)]) rfl (Eng.run_load_els [.int .i64 ((l.getD k default).kind), .string ((l.getD k default).anchor), .string ((l.getD k default).tag), .string ((l.getD k default).text), .bool ((l.getD k default).plain)] rfl (show a.eval (.tmp 10) = Eng.elemPtr v (k * 5) from (H.dep 0 10 (by kernel_rfl) rfl)) (Eng.Reads.below Fl_5 H.below) (Evt.cells_at l k (by omega)) rfl Tryz.underlying45 rfl (by kernel_rfl))
   ·refine Eng.made rfl (by simp) rfl (fun a w' hd ho => ?_) (fun _ _ => trivial)
    simp only [execOp]
    go_simp
   ·refine Eng.stored [.int .i64 ((l.getD k default).kind), .string ((l.getD k default).anchor), .string ((l.getD k default).tag), .string ((l.getD k default).text), .bool ((l.getD k default).plain)] rfl rfl rfl (j := 2) (d := 5) (by kernel_rfl) rfl rfl (Eng.store_uniq (by kernel_rfl)) rfl rfl fun a w' g e hc hd ho => ?_
    have e0 : a.eval _ = .agg #[.int .i64 ((l.getD k default).kind), .string ((l.getD k default).anchor), .string ((l.getD k default).tag), .string ((l.getD k default).text), .bool ((l.getD k default).plain)] := (hd 1 11 (by kernel_rfl) rfl)
    have z0 := (Eng.cells hc 0).trans rfl
    have z1 := (Eng.cells hc 1).trans rfl
    have z2 := (Eng.cells hc 2).trans rfl
    have z3 := (Eng.cells hc 3).trans rfl
    have z4 := (Eng.cells hc 4).trans rfl
    have f0 := Eng.unfrozen hc 0
    have f1 := Eng.unfrozen hc 1
    have f2 := Eng.unfrozen hc 2
    have f3 := Eng.unfrozen hc 3
    have f4 := Eng.unfrozen hc 4
    simp only [execOp, e, e0]
    go_simp
    rfl
  intro act7 w7 T
  have h0_7 := (T.rest 0 (by kernel_rfl)).trans h0_5
  have h2_7 := (T.rest 2 (by kernel_rfl)).trans h2_5
  have h3_7 := (T.rest 3 (by kernel_rfl)).trans h3_5
  have h6_7 := (T.rest 6 (by kernel_rfl)).trans h6_5
  have h7_7 := (T.rest 7 (by kernel_rfl)).trans h7_5
  have h8_7 := (T.rest 8 (by kernel_rfl)).trans h8_5
  have Oout_7 := Eng.own_below Oout_5 T.below
  obtain ⟨g5_7, h5_7, rg5_7, lg5_7_7, kg5_7_7⟩ := T.st 2 5 3 _ _ _ rfl rfl rfl rfl rfl
  have d7 := T.defers.trans d5
  have s7 := T.size.trans s5
  have bl7 := bl5.trans (T.below.mono bl5.size)
  clear T
  refine Eng.tail_nil ?_
  first | show Code.wp Tryz.prog _ _ _ _ | skip
  refine Eng.regionT (n := 5) rfl ?_
  refine Eng.tail_val rfl rfl rfl (Eng.run_move rfl h3_7) s7 rfl fun act8 d8 s8 hv hr => ?_
  have h0_8 := (hr 0 rfl).trans h0_7
  have h2_8 := (hr 2 rfl).trans h2_7
  have h5_8 := (hr 5 rfl).trans h5_7
  have h6_8 := (hr 6 rfl).trans h6_7
  have h7_8 := (hr 7 rfl).trans h7_7
  have h8_8 := (hr 8 rfl).trans h8_7
  have h12_8 : act8.eval (.tmp 12) = o := hv
  have d8 := d8.trans d7
  clear hv hr
  refine Eng.tail_val rfl rfl rfl (Eng.run_load_all rfl h5_8 kg5_7_7 Tryz.underlying45 rfl (by kernel_rfl)) s8 rfl fun act9 d9 s9 hv hr => ?_
  have h0_9 := (hr 0 rfl).trans h0_8
  have h2_9 := (hr 2 rfl).trans h2_8
  have h6_9 := (hr 6 rfl).trans h6_8
  have h7_9 := (hr 7 rfl).trans h7_8
  have h8_9 := (hr 8 rfl).trans h8_8
  have h12_9 := (hr 12 rfl).trans h12_8
  have h13_9 : act9.eval (.tmp 13) = .agg #[.int .i64 ((l.getD k default).kind), .string ((l.getD k default).anchor), .string ((l.getD k default).tag), .string ((l.getD k default).text), .bool ((l.getD k default).plain)] := hv
  have d9 := d9.trans d8
  clear hv hr
  refine Eng.tail_ex rfl rfl rfl (Eng.run_build1I (size := 5) (z := .agg #[.int .i64 0, .string ⟨#[]⟩, .string ⟨#[]⟩, .string ⟨#[]⟩, .bool false]) [.int .i64 ((l.getD k default).kind), .string ((l.getD k default).anchor), .string ((l.getD k default).tag), .string ((l.getD k default).text), .bool ((l.getD k default).plain)] rfl Tryz.underlying24 (by kernel_rfl) rfl rfl rfl (by kernel_rfl) (show act9.eval (.tmp 13) = .agg #[.int .i64 ((l.getD k default).kind), .string ((l.getD k default).anchor), .string ((l.getD k default).tag), .string ((l.getD k default).text), .bool ((l.getD k default).plain)] from h13_9)) s9 rfl fun v_10 w10 act10 R d10 s10 hv hr => ?_
  obtain ⟨F_10, b_10⟩ := R
  have h0_10 := (hr 0 rfl).trans h0_9
  have h2_10 := (hr 2 rfl).trans h2_9
  have h6_10 := (hr 6 rfl).trans h6_9
  have h7_10 := (hr 7 rfl).trans h7_9
  have h8_10 := (hr 8 rfl).trans h8_9
  have h12_10 := (hr 12 rfl).trans h12_9
  have h14_10 : act10.eval (.tmp 14) = v_10 := hv
  have d10 := d10.trans d9
  clear hv hr
  have Oout_10 := Eng.own_below Oout_7 b_10
  have bl10 := bl7.trans (b_10.mono bl7.size)
  refine Eng.tail_ex rfl rfl rfl (Eng.run_appendM (z := .agg #[.int .i64 0, .string ⟨#[]⟩, .string ⟨#[]⟩, .string ⟨#[]⟩, .bool false]) rfl Tryz.underlying24 (by kernel_rfl) rfl rfl h12_10 Oout_10 h14_10 F_10 (by intro u hu; simp only [List.mem_cons, List.not_mem_nil, or_false] at hu; rcases hu with rfl | rfl | rfl | rfl | rfl <;> rfl) (by rw [List.length_take]; omega) bl10.size) s10 rfl fun v_11 w11 act11 R d11 s11 hv hr => ?_
  obtain ⟨O_11, _, b_11, G_11, EO_11⟩ := R
  have h0_11 := (hr 0 rfl).trans h0_10
  have h2_11 := (hr 2 rfl).trans h2_10
  have h6_11 := (hr 6 rfl).trans h6_10
  have h7_11 := (hr 7 rfl).trans h7_10
  have h8_11 := (hr 8 rfl).trans h8_10
  have h15_11 : act11.eval (.tmp 15) = v_11 := hv
  have d11 := d11.trans d10
  clear hv hr
  have bl11 := bl10.trans b_11
  have Oa11 : w11.ownsRow w.heap.size 29 5 v_11 (List.take (k + 1) l).length (Evt.cells (List.take (k + 1) l)) := Evt.own_take hk0 O_11
  have Fa11 := Eng.Reads.of_own Oa11
  refine Eng.tail_val rfl rfl rfl (Eng.run_assign rfl h15_11) s11 rfl fun act12 d12 s12 hv hr => ?_
  have h0_12 := (hr 0 rfl).trans h0_11
  have h2_12 := (hr 2 rfl).trans h2_11
  have h6_12 := (hr 6 rfl).trans h6_11
  have h7_12 := (hr 7 rfl).trans h7_11
  have h8_12 := (hr 8 rfl).trans h8_11
  have h3_12 : act12.eval (.tmp 3) = v_11 := hv
  have d12 := d12.trans d11
  clear hv hr
  refine Eng.tail_nil ?_
  first | show Code.wp Tryz.prog _ _ _ _ | skip
  refine Eng.regionS (Eng.still [fun u_ => u_ = .int .i64 (IntKind.i64.wrap ((k : Nat) + 1)), fun u_ => u_ = .int .i64 (IntKind.i64.wrap ((k : Nat) + 1))]) (fun _ => .plain) 2 0 18 s12 rfl (by kernel_rfl) (Eng.still_stable _) (Or.inr (Eng.still_any _)) ?_ ?_
  ·refine .cons (fun _ => ?_) (.cons (fun _ => ?_) (.nil))
   ·refine Eng.plain rfl rfl fun a w' H => ?_
    refine Eng.vr (v := .int .i64 (IntKind.i64.wrap ((k : Nat) + 1))) rfl ?_
    have e0 : a.eval (.tmp 8) = .int .i64 (k : Nat) := ((H.kept 8 (by kernel_rfl)).trans h8_12)
    have e1 : a.eval (.const (.int .i64 1)) = .int .i64 1 := (rfl : a.eval (.const (.int .i64 1)) = .int .i64 1)
    simp only [execOp, resolve, List.map_toArray, List.map_cons, List.map_nil, e0, e1]
    go_simp
    all_goals first | rfl | (simp; done) | (rw [Bool.eq_iff_iff]; simp; done) | omega | (split <;> first | (simp_all; done) | (split <;> simp_all; done)) | skip
   ·exact Eng.plain rfl rfl fun a w' H => Eng.vr rfl (Eng.run_move rfl (H.dep 0 16 (by kernel_rfl) rfl))
  intro act13 w13 T
  have h0_13 := (T.rest 0 (by kernel_rfl)).trans h0_12
  have h2_13 := (T.rest 2 (by kernel_rfl)).trans h2_12
  have h3_13 := (T.rest 3 (by kernel_rfl)).trans h3_12
  have h6_13 := (T.rest 6 (by kernel_rfl)).trans h6_12
  have h7_13 := (T.rest 7 (by kernel_rfl)).trans h7_12
  have Oa11_13 := Eng.own_below Oa11 T.below
  have h8_13 : act13.eval (.tmp 8) = .int .i64 (IntKind.i64.wrap ((k : Nat) + 1)) := T.done 1 8 rfl rfl
  have d13 := T.defers.trans d12
  have s13 := T.size.trans s12
  have bl13 := bl11.trans (T.below.mono bl11.size)
  clear T
  refine Eng.tail_nil ?_
  exact ⟨_, by omega, k + 1, v_11, rfl, by omega, Oa11_13, d13, s13, bl13, h0_13, h2_13, (h3_13.trans (by first | rfl | (congr 1; rw [Eng.i64_id (by omega) (by omega)]; omega) | (simp; done))), h6_13, h7_13, (h8_13.trans (by first | rfl | (congr 1; rw [Eng.i64_id (by omega) (by omega)]; omega) | (simp; done)))⟩
 ·
  have c9 := Bq9.symm.trans hq
  clear hq
  have c9 := of_decide_eq_false c9
  have hke : k = l.length := by omega
  refine wp_exit ?_
  first | show Code.wp Tryz.prog _ _ _ _ | skip
  first | show Code.wp Tryz.prog _ _ _ _ | skip
  refine wp_seq ?_
  refine Eng.regionS (Eng.still [fun u_ => u_ = o, fun u_ => u_ = o]) (fun _ => .plain) 2 0 18 s5 rfl (by kernel_rfl) (Eng.still_stable _) (Or.inr (Eng.still_any _)) ?_ ?_
  ·refine .cons (fun _ => ?_) (.cons (fun _ => ?_) (.nil))
   ·exact Eng.plain rfl rfl fun a w' H => Eng.vr rfl (Eng.run_move rfl ((H.kept 3 (by kernel_rfl)).trans h3_5))
   ·exact Eng.plain rfl rfl fun a w' H => Eng.vr rfl (Eng.run_assign rfl (H.dep 0 17 (by kernel_rfl) rfl))
  intro act15 w15 T
  have Oout_15 := Eng.own_below Oout_5 T.below
  have h2_15 : act15.eval (.tmp 2) = o := T.done 1 2 rfl rfl
  have d15 := T.defers.trans d5
  have bl15 := bl5.trans (T.below.mono bl5.size)
  clear T
  refine Eng.tail_nil ?_
  first | show Code.wp Tryz.prog _ _ _ _ | skip
  refine wp_ret ?_
  repeat (first | with_reducible refine Eng.in_ret ?_ | with_reducible refine Eng.then_ret ?_)
  have fin := Oout_15
  rw [hke, List.take_length] at fin
  exact Eng.ret1 rfl d15 h2_15 ⟨_, rfl, fin, bl15⟩
end Go.Proofs.YtgnmjaacnmkgnaaGreatDoor.X
end
section
namespace Go.Proofs.YtgnmjaacnmkgnaaGreatDoor.X
open Go.RowKit Go.Shelf Go.Proofs
set_option linter.unusedVariables false
set_option linter.unusedSimpArgs false
namespace Evt
theorem cells_drop : ∀ (a : Nat) (l : List Ev), (cells l).drop (a * 5) = cells (l.drop a)
  | 0, l => by simp
  | a + 1, [] => by simp
  | a + 1, x :: t => by
    show (enc x ++ cells t).drop ((a + 1) * 5) = cells (t.drop a)
    rw [show (a + 1) * 5 = (enc x).length + a * 5 by rw [enc_len]; omega, List.drop_append, List.drop_of_length_le (Nat.le_add_right _ _), Nat.add_sub_cancel_left, List.nil_append]
    exact cells_drop a t
theorem cells_take : ∀ (a : Nat) (l : List Ev), (cells l).take (a * 5) = cells (l.take a)
  | 0, l => by simp
  | a + 1, [] => by simp
  | a + 1, x :: t => by
    show (enc x ++ cells t).take ((a + 1) * 5) = enc x ++ cells (t.take a)
    rw [show (a + 1) * 5 = (enc x).length + a * 5 by rw [enc_len]; omega, List.take_append, List.take_of_length_le (Nat.le_add_right _ _), Nat.add_sub_cancel_left, cells_take a t]
theorem cells_one (l : List Ev) : ∀ u ∈ cells l, u.oneCell' = true := Rwt.one enc_one l
theorem cut_reads {w : World} {v : Value} {l : List Ev} (F : Eng.Reads w v l.length 5 (cells l)) {a b : Nat} (hab : a ≤ b) (hb : b ≤ l.length) : Eng.Reads w (Eng.cutVal v a b 5) ((l.drop a).take (b - a)).length 5 (cells ((l.drop a).take (b - a))) := by
  have h := F.cutv hab hb
  rw [cells_drop, cells_take] at h
  have hl : ((l.drop a).take (b - a)).length = b - a := by rw [List.length_take, List.length_drop]; omega
  rw [hl]; exact h
theorem own_cat {w : World} {B : Nat} {v : Value} {l r : List Ev} (O : w.ownsRow B 29 5 v (l.length + r.length) (cells l ++ cells r)) : w.ownsRow B 29 5 v (l ++ r).length (cells (l ++ r)) := Rwt.own_cat O
theorem own_nil_cat {w : World} {B : Nat} {v : Value} {l : List Ev} (O : w.ownsRow B 29 5 v (0 + l.length) ([] ++ cells l)) : w.ownsRow B 29 5 v l.length (cells l) := Rwt.own_nil_cat O
theorem kind_at (l : List Ev) (k : Nat) (h : k < l.length) : (cells l)[k * 5 + 0]? = some (.int .i64 (l.getD k default).kind) := Rwt.cell enc_len h (by decide) rfl
theorem at_ix {b : Int} {n : Nat} (h0 : 0 ≤ b) (hn : 0 < n) : ∃ k : Nat, k < n ∧ Int.tmod b ((n : Nat) : Int) = (k : Int) := by
  obtain ⟨m, rfl⟩ := Int.eq_ofNat_of_zero_le h0
  exact ⟨m % n, Nat.mod_lt _ hn, rfl⟩
theorem take_lo {l : List Ev} (k : Nat) : List.take (k - 0) (List.drop 0 l) = l.take k := by rw [Nat.sub_zero, List.drop_zero]
theorem take_hi {l : List Ev} (k : Nat) : List.take (l.length - k) (List.drop k l) = l.drop k := List.take_of_length_le (by rw [List.length_drop]; exact Nat.le_refl _)
theorem cut_text {l : List Ev} {k : Nat} (h : ∀ k, k < l.length → (l.getD k default).text.size ≤ 3000) : ∀ j, j < (List.take (k - 0) (List.drop 0 l) ++ List.take (l.length - (k + 1)) (List.drop (k + 1) l)).length → ((List.take (k - 0) (List.drop 0 l) ++ List.take (l.length - (k + 1)) (List.drop (k + 1) l)).getD j default).text.size ≤ 9223372036854775807 := by
  rw [take_lo, take_hi]
  intro j hj
  have hm : (l.take k ++ l.drop (k + 1)).getD j default ∈ l.take k ++ l.drop (k + 1) := by rw [List.getD_eq_getElem?_getD, List.getElem?_eq_getElem hj]; exact List.getElem_mem hj
  have hm2 : (l.take k ++ l.drop (k + 1)).getD j default ∈ l := by
    rcases List.mem_append.1 hm with h1 | h1
    · exact List.mem_of_mem_take h1
    · exact List.mem_of_mem_drop h1
  obtain ⟨i, hi, he⟩ := List.mem_iff_getElem.1 hm2
  have := h i hi
  rw [List.getD_eq_getElem?_getD, List.getElem?_eq_getElem hi] at this
  rw [← he]
  exact Nat.le_trans this (by decide)
theorem cut_fin {l : List Ev} {k : Nat} (hk : k < l.length) (h : rightG rightE l = true) (h6 : (l.getD k default).kind < 6) : rightG rightE (List.take (k - 0) (List.drop 0 l) ++ List.take (l.length - (k + 1)) (List.drop (k + 1) l)) = false := by
  rw [take_lo, take_hi]; exact cut_law l k hk h h6
end Evt
end Go.Proofs.YtgnmjaacnmkgnaaGreatDoor.X
end
section
namespace Go.Proofs.YtgnmjaacnmkgnaaGreatDoor.X
open Go.RowKit Go.Shelf Go.Proofs Go.Proofs.YtgnmjaacnmkgnaaGreatDoorW.PrintWords Go.Proofs.YtgnmjaacnmkgnaaGreatDoorW.PrintLast Go.Proofs.YtgnmjaacnmkgnaaGreatDoorW.PrintMore
set_option linter.unusedVariables false
set_option linter.unusedSimpArgs false
attribute [local go_sem] max2_int min2_int max_two min_two
set_option maxHeartbeats 4000000 in
set_option maxRecDepth 100000 in
theorem Evt.cut_walk (v : Value) (l : List Evt.Ev) (b : Int) (w : World) (hT : Tabs.Holds w) (hl : Eng.Reads w v l.length 5 (Evt.cells l)) (hll : l.length ≤ 2199023255488) (hb0 : 0 ≤ b) (hb1 : b ≤ 255) : Calls Tryz.prog 3 #[v, .int .u8 b] w fun e w' => e = .returned (.bool true) ∧ Below w.heap.size w w' := by
 have hm := Eng.Reads.len_le hl
 refine Eng.enter Tryz.func3 rfl fun act0 d0 s0 v0 => ?_
 have s0 : act0.tmps.size = 45 := s0
 have h0_0 : act0.eval (.tmp 0) = v := v0 0 (by simp)
 have h1_0 : act0.eval (.tmp 1) = .int .u8 b := v0 1 (by simp)
 clear v0
 have bl0 : Below w.heap.size w w := Below.refl _ _
 refine wp_seq ?_
 refine Eng.regionS (Eng.still [fun u_ => u_ = .bool false]) (fun _ => .plain) 1 0 45 s0 rfl (by kernel_rfl) (Eng.still_stable _) (Or.inr (Eng.still_any _)) ?_ ?_
 ·refine .cons (fun _ => ?_) (.nil)
  ·exact Eng.plain rfl rfl fun a w' H => Eng.vr rfl (Eng.run_assign rfl (rfl : a.eval (.const (.bool false)) = .bool false))
 intro act1 w1 T
 have h0_1 := (T.rest 0 (by kernel_rfl)).trans h0_0
 have h1_1 := (T.rest 1 (by kernel_rfl)).trans h1_0
 have Fa_1 := Eng.Reads.below hl T.below
 have d1 := T.defers.trans d0
 have s1 := T.size.trans s0
 have bl1 := bl0.trans (T.below.mono bl0.size)
 clear T
 refine Eng.tail_nil ?_
 first | show Code.wp Tryz.prog _ _ _ _ | skip
 refine wp_seq ?_
 refine wp_seq ?_
 refine Eng.regionS (Eng.still [fun u_ => u_ = .bool true, fun u_ => u_ = .bool false]) (fun _ => .plain) 2 0 45 s1 rfl (by kernel_rfl) (Eng.still_stable _) (Or.inr (Eng.still_any _)) ?_ ?_
 ·refine .cons (fun _ => ?_) (.cons (fun _ => ?_) (.nil))
  ·refine Eng.plain rfl rfl fun a w' H => ?_
   refine Eng.call Tryz.func9 (by kernel_rfl) (by kernel_rfl) rfl #[] ?_ ?_
   ·simp
   refine (Zal.alive_calls _ (Tabs.below (Tabs.below hT bl1) H.below)).mono ?_
   rintro e w'' ⟨rfl, hb⟩
   exact ⟨_, rfl, (by show _ = Value.bool true; rw [show (true) = true from rfl]), hb⟩
  ·exact Eng.plain rfl rfl fun a w' H => Eng.vr rfl (Eng.run_not rfl (H.dep 0 7 (by kernel_rfl) rfl))
 intro act2 w2 T
 have h0_2 := (T.rest 0 (by kernel_rfl)).trans h0_1
 have h1_2 := (T.rest 1 (by kernel_rfl)).trans h1_1
 have Fa_2 := Eng.Reads.below Fa_1 T.below
 have h8_2 : act2.eval (.tmp 8) = .bool false := T.done 1 8 rfl rfl
 have d2 := T.defers.trans d1
 have s2 := T.size.trans s1
 have bl2 := bl1.trans (T.below.mono bl1.size)
 clear T
 refine Eng.tail_nil ?_
 first | show Code.wp Tryz.prog _ _ _ _ | skip
 refine wp_cond_false h8_2 ?_
 refine wp_skip ?_
 first | show Code.wp Tryz.prog _ _ _ _ | skip
 refine wp_seq ?_
 refine (wpIn_wide (n := 1)).1 ?_
 refine EngI.regionT (n := 3) rfl ?_
 refine EngI.tail_val EngI.free_wide rfl rfl rfl rfl (Eng.run_move rfl h0_2) s2 rfl fun act3 d3 s3 hv hr => ?_
 have h0_3 := (hr 0 rfl).trans h0_2
 have h1_3 := (hr 1 rfl).trans h1_2
 have h9_3 : act3.eval (.tmp 9) = v := hv
 have d3 := d3.trans d2
 clear hv hr
 refine EngI.tail_call EngI.free_wide Tryz.func10 (by kernel_rfl) (by kernel_rfl) rfl rfl rfl rfl #[v] (by have e0 : act3.eval (.tmp 9) = v := h9_3; simp only [List.map_toArray, List.map_cons, List.map_nil, e0]) s3 rfl (R := fun v w' => w'.ownsRow w2.heap.size 29 5 v l.length (Evt.cells l) ∧ Below w2.heap.size w2 w') ((Evt.theirs_calls v l _ Fa_2 hll).mono ?_) fun v_4 w4 act4 R d4 s4 hv hr => ?_
 ·rintro e w1 ⟨o, rfl, r⟩; exact ⟨_, rfl, r⟩
 have h0_4 := (hr 0 rfl).trans h0_3
 have h1_4 := (hr 1 rfl).trans h1_3
 have h10_4 : act4.eval (.tmp 10) = v_4 := hv
 have d4 := d4.trans d3
 clear hv hr
 obtain ⟨O_4, b_4⟩ := R
 have Fa_4 := Eng.Reads.below Fa_2 b_4
 have bl4 := bl2.trans (b_4.mono bl2.size)
 have Ox_4 := Eng.own_mono O_4 bl2.size
 have Fx_4 := Eng.Reads.of_own Ox_4
 refine EngI.tail_val EngI.free_wide rfl rfl rfl rfl (Eng.run_assign rfl h10_4) s4 rfl fun act5 d5 s5 hv hr => ?_
 have h0_5 := (hr 0 rfl).trans h0_4
 have h1_5 := (hr 1 rfl).trans h1_4
 have h5_5 : act5.eval (.tmp 5) = v_4 := hv
 have d5 := d5.trans d4
 clear hv hr
 refine EngI.tail_nil ?_
 first | show Code.wp Tryz.prog _ _ _ _ | skip
 refine wp_seq ?_
 refine wp_seq ?_
 refine (wpIn_wide (n := 1)).1 ?_
 refine EngI.regionT (n := 12) rfl ?_
 refine EngI.tail_val EngI.free_wide rfl rfl rfl rfl (Eng.run_move rfl h0_5) s5 rfl fun act6 d6 s6 hv hr => ?_
 have h0_6 := (hr 0 rfl).trans h0_5
 have h1_6 := (hr 1 rfl).trans h1_5
 have h5_6 := (hr 5 rfl).trans h5_5
 have h11_6 : act6.eval (.tmp 11) = v := hv
 have d6 := d6.trans d5
 clear hv hr
 obtain ⟨q12, Bq12⟩ : ∃ b : Bool, b = (Evt.heavyL l) := ⟨_, rfl⟩
 refine EngI.tail_call EngI.free_wide Tryz.func11 (by kernel_rfl) (by kernel_rfl) rfl rfl rfl rfl #[v] (by have e0 : act6.eval (.tmp 11) = v := h11_6; simp only [List.map_toArray, List.map_cons, List.map_nil, e0]) s6 rfl (R := fun v w_ => v = .bool (Evt.heavyL l) ∧ Below w4.heap.size w4 w_) ((Evt.heavy_calls v l _ Fa_4).mono ?_) fun v_7 w7 act7 R d7 s7 hv hr => ?_
 ·rintro e w_ ⟨rfl, hb⟩; exact ⟨_, rfl, rfl, hb⟩
 obtain ⟨ev_7, b_7⟩ := R
 have h0_7 := (hr 0 rfl).trans h0_6
 have h1_7 := (hr 1 rfl).trans h1_6
 have h5_7 := (hr 5 rfl).trans h5_6
 have h12_7 : act7.eval (.tmp 12) = .bool q12 := (hv.trans ev_7).trans (congrArg Value.bool Bq12.symm)
 have d7 := d7.trans d6
 clear hv hr
 have Fa_7 := Eng.Reads.below Fa_4 b_7
 have Fx_7 := Eng.Reads.below Fx_4 b_7
 have bl7 := bl4.trans (b_7.mono bl4.size)
 refine EngI.tail_val EngI.free_wide rfl rfl rfl rfl (Eng.run_move rfl h12_7) s7 rfl fun act8 d8 s8 hv hr => ?_
 have h0_8 := (hr 0 rfl).trans h0_7
 have h1_8 := (hr 1 rfl).trans h1_7
 have h5_8 := (hr 5 rfl).trans h5_7
 have h12_8 := (hr 12 rfl).trans h12_7
 have h13_8 : act8.eval (.tmp 13) = .bool q12 := hv
 have d8 := d8.trans d7
 clear hv hr
 rcases Bool.eq_false_or_eq_true q12 with hq | hq
 ·
  have kn9 := hq
  have c13 := Bq12.symm.trans hq
  clear hq
  have h12_kn9 := h12_8.trans (congrArg Value.bool kn9)
  have h13_kn9 := h13_8.trans (congrArg Value.bool kn9)
  refine EngG.tail_off EngI.free_wide rfl (EngG.wanted_off (want := false) rfl rfl rfl (by rw [s8]; decide) h13_kn9) rfl s8 rfl fun act10 d10 s10 hr => ?_
  have h13_10 : act10.eval (.tmp 13) = .bool true := (hr 13 rfl).trans h13_kn9
  have d10 := d10.trans d8
  clear hr
  refine EngG.tail_off EngI.free_wide rfl (EngG.wanted_off (want := false) rfl rfl rfl (by rw [s10]; decide) h13_10) rfl s10 rfl fun act11 d11 s11 hr => ?_
  have h13_11 := (hr 13 rfl).trans h13_10
  have d11 := d11.trans d10
  clear hr
  refine EngG.tail_off EngI.free_wide rfl (EngG.wanted_off (want := false) rfl rfl rfl (by rw [s11]; decide) h13_11) rfl s11 rfl fun act12 d12 s12 hr => ?_
  have h13_12 := (hr 13 rfl).trans h13_11
  have d12 := d12.trans d11
  clear hr
  refine EngI.tail_val EngI.free_wide rfl rfl rfl rfl (Eng.run_pick rfl h13_12 (v := .bool true) (by exact (rfl : act12.eval (.const (.bool true)) = .bool true))) s12 rfl fun act13 d13 s13 hv hr => ?_
  have h17_13 : act13.eval (.tmp 17) = .bool true := hv
  have d13 := d13.trans d12
  clear hv hr
  refine EngI.tail_val EngI.free_wide rfl rfl rfl rfl (Eng.run_move rfl h17_13) s13 rfl fun act14 d14 s14 hv hr => ?_
  have h18_14 : act14.eval (.tmp 18) = .bool true := hv
  have d14 := d14.trans d13
  clear hv hr
  refine EngG.tail_off EngI.free_wide rfl (EngG.wanted_off (want := false) rfl rfl rfl (by rw [s14]; decide) h18_14) rfl s14 rfl fun act15 d15 s15 hr => ?_
  have h18_15 := (hr 18 rfl).trans h18_14
  have d15 := d15.trans d14
  clear hr
  refine EngG.tail_off EngI.free_wide rfl (EngG.wanted_off (want := false) rfl rfl rfl (by rw [s15]; decide) h18_15) rfl s15 rfl fun act16 d16 s16 hr => ?_
  have h18_16 := (hr 18 rfl).trans h18_15
  have d16 := d16.trans d15
  clear hr
  refine EngG.tail_off EngI.free_wide rfl (EngG.wanted_off (want := false) rfl rfl rfl (by rw [s16]; decide) h18_16) rfl s16 rfl fun act17 d17 s17 hr => ?_
  have h18_17 := (hr 18 rfl).trans h18_16
  have d17 := d17.trans d16
  clear hr
  refine EngI.tail_val EngI.free_wide rfl rfl rfl rfl (Eng.run_pick rfl h18_17 (v := .bool true) (by exact (rfl : act17.eval (.const (.bool true)) = .bool true))) s17 rfl fun act18 d18 s18 hv hr => ?_
  have h22_18 : act18.eval (.tmp 22) = .bool true := hv
  have d18 := d18.trans d17
  clear hv hr
  refine EngI.tail_nil ?_
  first | show Code.wp Tryz.prog _ _ _ _ | skip
  refine wp_cond_true h22_18 ?_
  refine wp_seq ?_
  refine Eng.regionS (Eng.still [fun u_ => u_ = .bool true]) (fun _ => .plain) 1 0 45 s18 rfl (by kernel_rfl) (Eng.still_stable _) (Or.inr (Eng.still_any _)) ?_ ?_
  ·refine .cons (fun _ => ?_) (.nil)
   ·exact Eng.plain rfl rfl fun a w' H => Eng.vr rfl (Eng.run_assign rfl (rfl : a.eval (.const (.bool true)) = .bool true))
  intro act19 w19 T
  have h4_19 : act19.eval (.tmp 4) = .bool true := T.done 0 4 rfl rfl
  have d19 := T.defers.trans d18
  have bl19 := bl7.trans (T.below.mono bl7.size)
  clear T
  refine Eng.tail_nil ?_
  first | show Code.wp Tryz.prog _ _ _ _ | skip
  refine wp_ret ?_
  repeat (first | with_reducible refine Eng.in_ret ?_ | with_reducible refine Eng.then_ret ?_)
  exact Eng.ret1 rfl d19 h4_19 ⟨rfl, bl19⟩
 ·
  have kn20 := hq
  have c13 := Bq12.symm.trans hq
  clear hq
  have h12_kn20 := h12_8.trans (congrArg Value.bool kn20)
  have h13_kn20 := h13_8.trans (congrArg Value.bool kn20)
  have la := Evt.light_len c13
  refine EngG.tail_val EngI.free_wide rfl (EngG.wanted_on (want := false) rfl rfl rfl (by rw [s8]; decide) h13_kn20) rfl rfl (Eng.run_move rfl h0_8) s8 rfl fun act21 d21 s21 hv hr => ?_
  have h1_21 := (hr 1 rfl).trans h1_8
  have h5_21 := (hr 5 rfl).trans h5_8
  have h13_21 : act21.eval (.tmp 13) = .bool false := (hr 13 rfl).trans h13_kn20
  have h14_21 : act21.eval (.tmp 14) = v := hv
  have d21 := d21.trans d8
  clear hv hr
  refine EngG.tail_val (w1 := w7) (v := .int .i64 ((l.length : Nat) : Int)) EngI.free_wide rfl (EngG.wanted_on (want := false) rfl rfl rfl (by rw [s21]; decide) h13_21) rfl rfl ?_ s21 rfl ?_
  ·exact Eng.run_len_sl rfl Tryz.underlying22 (show act21.eval (.tmp 14) = v from h14_21) Fa_7
  intro act22 d22 s22 hv hr
  have h1_22 := (hr 1 rfl).trans h1_21
  have h5_22 := (hr 5 rfl).trans h5_21
  have h13_22 := (hr 13 rfl).trans h13_21
  have h15_22 : act22.eval (.tmp 15) = .int .i64 ((l.length : Nat) : Int) := hv
  have d22 := d22.trans d21
  clear hv hr
  obtain ⟨q16, Bq16⟩ : ∃ b : Bool, b = (((l.length : Nat) : Int) == 0) := ⟨_, rfl⟩
  refine EngG.tail_val (w1 := w7) (v := .bool (((l.length : Nat) : Int) == 0)) EngI.free_wide rfl (EngG.wanted_on (want := false) rfl rfl rfl (by rw [s22]; decide) h13_22) rfl rfl ?_ s22 rfl ?_
  ·have e0 : act22.eval (.tmp 15) = .int .i64 ((l.length : Nat) : Int) := h15_22
   have e1 : act22.eval (.const (.int .i64 0)) = .int .i64 0 := (rfl : act22.eval (.const (.int .i64 0)) = .int .i64 0)
   simp only [execOp, resolve, List.map_toArray, List.map_cons, List.map_nil, e0, e1]
   go_simp
   all_goals first | rfl | (simp; done) | (rw [Bool.eq_iff_iff]; simp; done) | omega | (split <;> first | (simp_all; done) | (split <;> simp_all; done)) | skip
  intro act23 d23 s23 hv hr
  have h1_23 := (hr 1 rfl).trans h1_22
  have h5_23 := (hr 5 rfl).trans h5_22
  have h13_23 := (hr 13 rfl).trans h13_22
  have h16_23 : act23.eval (.tmp 16) = .bool q16 := hv.trans (congrArg Value.bool Bq16.symm)
  have d23 := d23.trans d22
  clear hv hr
  refine EngI.tail_val EngI.free_wide rfl rfl rfl rfl (Eng.run_pick rfl h13_23 (v := .bool q16) (by exact h16_23)) s23 rfl fun act24 d24 s24 hv hr => ?_
  have h1_24 := (hr 1 rfl).trans h1_23
  have h5_24 := (hr 5 rfl).trans h5_23
  have h16_24 := (hr 16 rfl).trans h16_23
  have h17_24 : act24.eval (.tmp 17) = .bool q16 := hv
  have d24 := d24.trans d23
  clear hv hr
  refine EngI.tail_val EngI.free_wide rfl rfl rfl rfl (Eng.run_move rfl h17_24) s24 rfl fun act25 d25 s25 hv hr => ?_
  have h1_25 := (hr 1 rfl).trans h1_24
  have h5_25 := (hr 5 rfl).trans h5_24
  have h16_25 := (hr 16 rfl).trans h16_24
  have h17_25 := (hr 17 rfl).trans h17_24
  have h18_25 : act25.eval (.tmp 18) = .bool q16 := hv
  have d25 := d25.trans d24
  clear hv hr
  rcases Bool.eq_false_or_eq_true q16 with hq | hq
  ·
   have kn26 := hq
   have c18 := Bq16.symm.trans hq
   clear hq
   have h16_kn26 := h16_25.trans (congrArg Value.bool kn26)
   have h17_kn26 := h17_25.trans (congrArg Value.bool kn26)
   have h18_kn26 := h18_25.trans (congrArg Value.bool kn26)
   refine EngG.tail_off EngI.free_wide rfl (EngG.wanted_off (want := false) rfl rfl rfl (by rw [s25]; decide) h18_kn26) rfl s25 rfl fun act27 d27 s27 hr => ?_
   have h18_27 : act27.eval (.tmp 18) = .bool true := (hr 18 rfl).trans h18_kn26
   have d27 := d27.trans d25
   clear hr
   refine EngG.tail_off EngI.free_wide rfl (EngG.wanted_off (want := false) rfl rfl rfl (by rw [s27]; decide) h18_27) rfl s27 rfl fun act28 d28 s28 hr => ?_
   have h18_28 := (hr 18 rfl).trans h18_27
   have d28 := d28.trans d27
   clear hr
   refine EngG.tail_off EngI.free_wide rfl (EngG.wanted_off (want := false) rfl rfl rfl (by rw [s28]; decide) h18_28) rfl s28 rfl fun act29 d29 s29 hr => ?_
   have h18_29 := (hr 18 rfl).trans h18_28
   have d29 := d29.trans d28
   clear hr
   refine EngI.tail_val EngI.free_wide rfl rfl rfl rfl (Eng.run_pick rfl h18_29 (v := .bool true) (by exact (rfl : act29.eval (.const (.bool true)) = .bool true))) s29 rfl fun act30 d30 s30 hv hr => ?_
   have h22_30 : act30.eval (.tmp 22) = .bool true := hv
   have d30 := d30.trans d29
   clear hv hr
   refine EngI.tail_nil ?_
   first | show Code.wp Tryz.prog _ _ _ _ | skip
   refine wp_cond_true h22_30 ?_
   refine wp_seq ?_
   refine Eng.regionS (Eng.still [fun u_ => u_ = .bool true]) (fun _ => .plain) 1 0 45 s30 rfl (by kernel_rfl) (Eng.still_stable _) (Or.inr (Eng.still_any _)) ?_ ?_
   ·refine .cons (fun _ => ?_) (.nil)
    ·exact Eng.plain rfl rfl fun a w' H => Eng.vr rfl (Eng.run_assign rfl (rfl : a.eval (.const (.bool true)) = .bool true))
   intro act31 w31 T
   have h4_31 : act31.eval (.tmp 4) = .bool true := T.done 0 4 rfl rfl
   have d31 := T.defers.trans d30
   have bl31 := bl7.trans (T.below.mono bl7.size)
   clear T
   refine Eng.tail_nil ?_
   first | show Code.wp Tryz.prog _ _ _ _ | skip
   refine wp_ret ?_
   repeat (first | with_reducible refine Eng.in_ret ?_ | with_reducible refine Eng.then_ret ?_)
   exact Eng.ret1 rfl d31 h4_31 ⟨rfl, bl31⟩
  ·
   have kn32 := hq
   have c18 := Bq16.symm.trans hq
   clear hq
   have h16_kn32 := h16_25.trans (congrArg Value.bool kn32)
   have h17_kn32 := h17_25.trans (congrArg Value.bool kn32)
   have h18_kn32 := h18_25.trans (congrArg Value.bool kn32)
   have hpos : 0 < l.length := by have h := c18; cases l with | nil => simp at h | cons => simp
   refine EngG.tail_val EngI.free_wide rfl (EngG.wanted_on (want := false) rfl rfl rfl (by rw [s25]; decide) h18_kn32) rfl rfl (Eng.run_move rfl h5_25) s25 rfl fun act33 d33 s33 hv hr => ?_
   have h1_33 := (hr 1 rfl).trans h1_25
   have h5_33 := (hr 5 rfl).trans h5_25
   have h18_33 : act33.eval (.tmp 18) = .bool false := (hr 18 rfl).trans h18_kn32
   have h19_33 : act33.eval (.tmp 19) = v_4 := hv
   have d33 := d33.trans d25
   clear hv hr
   obtain ⟨q20, Bq20⟩ : ∃ b : Bool, b = (Evt.rightG Evt.rightE l) := ⟨_, rfl⟩
   refine EngG.tail_call EngI.free_wide Tryz.func12 (by kernel_rfl) (by kernel_rfl) rfl (EngG.wanted_on (want := false) rfl rfl rfl (by rw [s33]; decide) h18_33) rfl rfl #[v_4] (by have e0 : act33.eval (.tmp 19) = v_4 := h19_33; simp only [List.map_toArray, List.map_cons, List.map_nil, e0]) s33 rfl (R := fun v w_ => v = .bool (Evt.rightG Evt.rightE l) ∧ Below w7.heap.size w7 w_) ((Evt.Right_calls v_4 l _ (Tabs.below (Tabs.below hT bl7) (Below.refl _ _)) Fx_7 (fun k hk => Nat.le_trans (la.2 k hk) (by decide)) (by omega)).mono ?_) fun v_34 w34 act34 R d34 s34 hv hr => ?_
   ·rintro e w_ ⟨rfl, hb⟩; exact ⟨_, rfl, rfl, hb⟩
   obtain ⟨ev_34, b_34⟩ := R
   have h1_34 := (hr 1 rfl).trans h1_33
   have h5_34 := (hr 5 rfl).trans h5_33
   have h18_34 := (hr 18 rfl).trans h18_33
   have h20_34 : act34.eval (.tmp 20) = .bool q20 := (hv.trans ev_34).trans (congrArg Value.bool Bq20.symm)
   have d34 := d34.trans d33
   clear hv hr
   have Fx_34 := Eng.Reads.below Fx_7 b_34
   have bl34 := bl7.trans (b_34.mono bl7.size)
   refine EngG.tail_val EngI.free_wide rfl (EngG.wanted_on (want := false) rfl rfl rfl (by rw [s34]; decide) h18_34) rfl rfl (Eng.run_not rfl h20_34) s34 rfl fun act35 d35 s35 hv hr => ?_
   have h1_35 := (hr 1 rfl).trans h1_34
   have h5_35 := (hr 5 rfl).trans h5_34
   have h18_35 := (hr 18 rfl).trans h18_34
   have h21_35 : act35.eval (.tmp 21) = .bool (!q20) := hv
   have d35 := d35.trans d34
   clear hv hr
   refine EngI.tail_val EngI.free_wide rfl rfl rfl rfl (Eng.run_pick rfl h18_35 (v := .bool (!q20)) (by exact h21_35)) s35 rfl fun act36 d36 s36 hv hr => ?_
   have h1_36 := (hr 1 rfl).trans h1_35
   have h5_36 := (hr 5 rfl).trans h5_35
   have h22_36 : act36.eval (.tmp 22) = .bool (!q20) := hv
   have d36 := d36.trans d35
   clear hv hr
   refine EngI.tail_nil ?_
   first | show Code.wp Tryz.prog _ _ _ _ | skip
   refine wp_cond_split h22_36 (fun hq => ?_) (fun hq => ?_)
   ·
    have c22 := hq
    clear hq
    refine wp_seq ?_
    refine Eng.regionS (Eng.still [fun u_ => u_ = .bool true]) (fun _ => .plain) 1 0 45 s36 rfl (by kernel_rfl) (Eng.still_stable _) (Or.inr (Eng.still_any _)) ?_ ?_
    ·refine .cons (fun _ => ?_) (.nil)
     ·exact Eng.plain rfl rfl fun a w' H => Eng.vr rfl (Eng.run_assign rfl (rfl : a.eval (.const (.bool true)) = .bool true))
    intro act38 w38 T
    have h4_38 : act38.eval (.tmp 4) = .bool true := T.done 0 4 rfl rfl
    have d38 := T.defers.trans d36
    have bl38 := bl34.trans (T.below.mono bl34.size)
    clear T
    refine Eng.tail_nil ?_
    first | show Code.wp Tryz.prog _ _ _ _ | skip
    refine wp_ret ?_
    repeat (first | with_reducible refine Eng.in_ret ?_ | with_reducible refine Eng.then_ret ?_)
    exact Eng.ret1 rfl d38 h4_38 ⟨rfl, bl38⟩
   ·
    have c22 := hq
    clear hq
    have hrt : Evt.rightG Evt.rightE l = true := by have h := c22; simp only [Bq20, Bq16, Bq12] at h; simpa using h
    obtain ⟨k, hk0, hke⟩ := Evt.at_ix (b := b) (n := l.length) hb0 hpos
    refine wp_skip ?_
    first | show Code.wp Tryz.prog _ _ _ _ | skip
    refine wp_seq ?_
    refine Eng.regionS (Eng.still [fun u_ => u_ = .int .u8 b, fun u_ => u_ = .int .i64 b, fun u_ => u_ = v_4, fun u_ => u_ = .int .i64 ((l.length : Nat) : Int), fun u_ => u_ = .int .i64 (k : Int), fun u_ => u_ = .int .i64 (k : Int)]) (fun _ => .plain) 6 0 45 s36 rfl (by kernel_rfl) (Eng.still_stable _) (Or.inr (Eng.still_any _)) ?_ ?_
    ·refine .cons (fun _ => ?_) (.cons (fun _ => ?_) (.cons (fun _ => ?_) (.cons (fun _ => ?_) (.cons (fun _ => ?_) (.cons (fun _ => ?_) (.nil))))))
     ·exact Eng.plain rfl rfl fun a w' H => Eng.vr rfl (Eng.run_move rfl ((H.kept 1 (by kernel_rfl)).trans h1_36))
     ·refine Eng.plain rfl rfl fun a w' H => ?_
      refine Eng.vr (v := .int .i64 b) rfl ?_
      have e0 : a.eval (.tmp 23) = .int .u8 b := (H.dep 0 23 (by kernel_rfl) rfl)
      simp only [execOp, resolve, List.map_toArray, List.map_cons, List.map_nil, e0]
      go_simp
      all_goals first | rfl | (rw [Eng.i64_id (by omega) (by omega)]; done) | skip
     ·exact Eng.plain rfl rfl fun a w' H => Eng.vr rfl (Eng.run_move rfl ((H.kept 5 (by kernel_rfl)).trans h5_36))
     ·exact Eng.plain rfl rfl fun a w' H => Eng.vr (v := .int .i64 ((l.length : Nat) : Int)) rfl (Eng.run_len_sl rfl Tryz.underlying24 (show a.eval (.tmp 25) = v_4 from (H.dep 2 25 (by kernel_rfl) rfl)) (Eng.Reads.below Fx_34 H.below))
     ·refine Eng.plain rfl rfl fun a w' H => ?_
      have hz : ¬ (l.length : Int) = 0 := by omega
      refine Eng.vr (v := .int .i64 (k : Int)) rfl ?_
      have e0 : a.eval (.tmp 24) = .int .i64 b := (H.dep 1 24 (by kernel_rfl) rfl)
      have e1 : a.eval (.tmp 26) = .int .i64 ((l.length : Nat) : Int) := (H.dep 3 26 (by kernel_rfl) rfl)
      simp only [execOp, resolve, List.map_toArray, List.map_cons, List.map_nil, e0, e1]
      go_simp
      first | done | (intro e; rw [e] at hpos; exact absurd hpos (by decide)) | (rw [if_neg hz, hke]; done)
     ·exact Eng.plain rfl rfl fun a w' H => Eng.vr rfl (Eng.run_assign rfl (H.dep 4 27 (by kernel_rfl) rfl))
    intro act40 w40 T
    have h5_40 := (T.rest 5 (by kernel_rfl)).trans h5_36
    have Fx_40 := Eng.Reads.below Fx_34 T.below
    have h6_40 : act40.eval (.tmp 6) = .int .i64 (k : Int) := T.done 5 6 rfl rfl
    have d40 := T.defers.trans d36
    have s40 := T.size.trans s36
    have bl40 := bl34.trans (T.below.mono bl34.size)
    clear T
    refine Eng.tail_nil ?_
    first | show Code.wp Tryz.prog _ _ _ _ | skip
    refine wp_seq ?_
    refine wp_seq ?_
    obtain ⟨q33, Bq33⟩ : ∃ b : Bool, b = (decide (((l.getD k default).kind) ≥ 6)) := ⟨_, rfl⟩
    refine Eng.regionS (Eng.still [fun u_ => u_ = v_4, fun u_ => u_ = .int .i64 (k : Int), fun u_ => u_ = Eng.elemPtr v_4 (k * 5), fun u_ => u_ = Eng.elemPtr v_4 (k * 5 + 0), fun u_ => u_ = .int .i64 ((l.getD k default).kind), fun u_ => u_ = .bool q33]) (fun _ => .plain) 6 0 45 s40 rfl (by kernel_rfl) (Eng.still_stable _) (Or.inr (Eng.still_any _)) ?_ ?_
    ·refine .cons (fun _ => ?_) (.cons (fun _ => ?_) (.cons (fun _ => ?_) (.cons (fun _ => ?_) (.cons (fun _ => ?_) (.cons (fun _ => ?_) (.nil))))))
     ·exact Eng.plain rfl rfl fun a w' H => Eng.vr rfl (Eng.run_move rfl ((H.kept 5 (by kernel_rfl)).trans h5_40))
     ·exact Eng.plain rfl rfl fun a w' H => Eng.vr rfl (Eng.run_move rfl ((H.kept 6 (by kernel_rfl)).trans h6_40))
     ·exact Eng.plain rfl rfl fun a w' H => Eng.vr (v := Eng.elemPtr v_4 (k * 5)) rfl (Eng.run_index_sl rfl Tryz.underlying24 (by kernel_rfl) (show a.eval (.tmp 28) = v_4 from (H.dep 0 28 (by kernel_rfl) rfl)) ((show a.eval (.tmp 29) = .int .i64 (k : Int) from (H.dep 1 29 (by kernel_rfl) rfl)).trans (congrArg (Value.int _) (show (k : Int) = ((k : Nat) : Int) from by omega))) (Eng.Reads.below Fx_40 H.below) (by omega) rfl)
     ·exact Eng.plain rfl rfl fun a w' H => Eng.vr (v := Eng.elemPtr v_4 (k * 5 + 0)) rfl (Eng.run_field_el rfl Tryz.underlying29 0 (by kernel_rfl) (show a.eval (.tmp 30) = Eng.elemPtr v_4 (k * 5) from (H.dep 2 30 (by kernel_rfl) rfl)) (Eng.Reads.below Fx_40 H.below) (by have h_ : k < l.length := (by omega); omega))
     ·exact Eng.plain rfl rfl fun a w' H => Eng.vr (v := .int .i64 ((l.getD k default).kind)) rfl (Eng.run_load_el (.int .i64 ((l.getD k default).kind)) rfl (show a.eval (.tmp 31) = Eng.elemPtr v_4 (k * 5 + 0) from (H.dep 3 31 (by kernel_rfl) rfl)) (Eng.Reads.below Fx_40 H.below) (Evt.kind_at l k (by omega)) (by kernel_rfl))
     ·refine Eng.plain rfl rfl fun a w' H => ?_
      refine Eng.vr (v := .bool (decide (((l.getD k default).kind) ≥ 6))) (by show _ = Value.bool q33; rw [Bq33]) ?_
      have e0 : a.eval (.tmp 32) = .int .i64 ((l.getD k default).kind) := (H.dep 4 32 (by kernel_rfl) rfl)
      have e1 : a.eval (.const (.int .i64 6)) = .int .i64 6 := (rfl : a.eval (.const (.int .i64 6)) = .int .i64 6)
      simp only [execOp, resolve, List.map_toArray, List.map_cons, List.map_nil, e0, e1]
      go_simp
      all_goals first | rfl | (simp; done) | (rw [Bool.eq_iff_iff]; simp; done) | omega | (split <;> first | (simp_all; done) | (split <;> simp_all; done)) | skip
    intro act41 w41 T
    have h5_41 := (T.rest 5 (by kernel_rfl)).trans h5_40
    have h6_41 := (T.rest 6 (by kernel_rfl)).trans h6_40
    have Fx_41 := Eng.Reads.below Fx_40 T.below
    have h33_41 : act41.eval (.tmp 33) = .bool q33 := T.done 5 33 rfl rfl
    have d41 := T.defers.trans d40
    have s41 := T.size.trans s40
    have bl41 := bl40.trans (T.below.mono bl40.size)
    clear T
    refine Eng.tail_nil ?_
    first | show Code.wp Tryz.prog _ _ _ _ | skip
    refine wp_cond_split h33_41 (fun hq => ?_) (fun hq => ?_)
    ·
     have c33 := Bq33.symm.trans hq
     clear hq
     have c33 := of_decide_eq_true c33
     refine wp_seq ?_
     refine Eng.regionS (Eng.still [fun u_ => u_ = .bool true]) (fun _ => .plain) 1 0 45 s41 rfl (by kernel_rfl) (Eng.still_stable _) (Or.inr (Eng.still_any _)) ?_ ?_
     ·refine .cons (fun _ => ?_) (.nil)
      ·exact Eng.plain rfl rfl fun a w' H => Eng.vr rfl (Eng.run_assign rfl (rfl : a.eval (.const (.bool true)) = .bool true))
     intro act43 w43 T
     have h4_43 : act43.eval (.tmp 4) = .bool true := T.done 0 4 rfl rfl
     have d43 := T.defers.trans d41
     have bl43 := bl41.trans (T.below.mono bl41.size)
     clear T
     refine Eng.tail_nil ?_
     first | show Code.wp Tryz.prog _ _ _ _ | skip
     refine wp_ret ?_
     repeat (first | with_reducible refine Eng.in_ret ?_ | with_reducible refine Eng.then_ret ?_)
     exact Eng.ret1 rfl d43 h4_43 ⟨rfl, bl43⟩
    ·
     have c33 := Bq33.symm.trans hq
     clear hq
     have c33 := of_decide_eq_false c33
     have h6 : (l.getD k default).kind < 6 := by have h := c33; omega
     refine wp_skip ?_
     first | show Code.wp Tryz.prog _ _ _ _ | skip
     refine wp_seq ?_
     obtain ⟨q43, Bq43⟩ : ∃ b : Bool, b = (Evt.rightG Evt.rightE ((List.take (k - 0) (List.drop 0 l)) ++ (List.take (l.length - (k + 1)) (List.drop (k + 1) l)))) := ⟨_, rfl⟩
     obtain ⟨q44, Bq44⟩ : ∃ b : Bool, b = (!q43) := ⟨_, rfl⟩
     refine Eng.regionD (Eng.tell [.still fun u_ => u_ = v_4, .still fun u_ => u_ = .int .i64 (k : Int), .still fun u_ => u_ = Eng.cutVal v_4 0 k 5, .own w41.heap.size 29 5 (List.take (k - 0) (List.drop 0 l)).length (Evt.cells (List.take (k - 0) (List.drop 0 l))), .still fun u_ => u_ = v_4, .still fun u_ => u_ = .int .i64 (k : Int), .still fun u_ => u_ = .int .i64 (IntKind.i64.wrap ((k : Int) + 1)), .still fun u_ => u_ = Eng.cutVal v_4 (k + 1) l.length 5, .own w41.heap.size 29 5 ((List.take (k - 0) (List.drop 0 l)) ++ (List.take (l.length - (k + 1)) (List.drop (k + 1) l))).length (Evt.cells ((List.take (k - 0) (List.drop 0 l)) ++ (List.take (l.length - (k + 1)) (List.drop (k + 1) l)))), .still fun u_ => u_ = .bool q43, .still fun u_ => u_ = .bool q44, .still fun u_ => u_ = .bool q44]) (fun i => ([.plain, .plain, .plain, .plain, .plain, .plain, .plain, .plain, .eats, .plain, .plain, .plain] : List Eng.Kind).getD i .plain) 12 0 45 (by kernel_rfl) s41 rfl (by kernel_rfl) (Eng.tell_stable _) (Or.inl (Eng.no_stores (by kernel_rfl))) ?_ ?_
     ·refine .cons (fun _ => ?_) (.cons (fun _ => ?_) (.cons (fun _ => ?_) (.cons (fun _ => ?_) (.cons (fun _ => ?_) (.cons (fun _ => ?_) (.cons (fun _ => ?_) (.cons (fun _ => ?_) (.cons (fun _ => ?_) (.cons (fun _ => ?_) (.cons (fun _ => ?_) (.cons (fun _ => ?_) (.nil))))))))))))
      ·exact Eng.plain rfl rfl fun a w' H => Eng.vr (v := v_4) rfl (Eng.run_move rfl ((H.kept 5 (by kernel_rfl)).trans h5_41))
      ·exact Eng.plain rfl rfl fun a w' H => Eng.vr (v := .int .i64 (k : Int)) rfl (Eng.run_move rfl ((H.kept 6 (by kernel_rfl)).trans h6_41))
      ·exact Eng.plain rfl rfl fun a w' H => Eng.vr (v := Eng.cutVal v_4 0 k 5) rfl (Eng.run_cutv (l := 0) (h := k) (size := 5) rfl Tryz.underlying24 (by kernel_rfl) (show a.eval (.tmp 34) = v_4 from (H.dep 0 34 (by kernel_rfl) rfl)) (Eng.Reads.below Fx_41 H.below) rfl (congrArg some (show a.eval (.tmp 35) = .int .i64 (k : Int) from (H.dep 1 35 (by kernel_rfl) rfl))) (Or.inl ⟨rfl, rfl⟩) (Or.inr ⟨_, rfl⟩) (by omega) (by first | omega | (simp; done) | (simp; omega)))
      ·refine Eng.plain rfl rfl fun a w' H => ?_
       refine Eng.val_ex (Eng.run_appendI (B := w'.heap.size) (z := .agg #[.int .i64 0, .string ⟨#[]⟩, .string ⟨#[]⟩, .string ⟨#[]⟩, .bool false]) rfl Tryz.underlying24 (by kernel_rfl) rfl rfl (rfl : a.eval (.const (.slice none 0 0)) = .slice none 0 0) (World.ownsRow_nil w' w'.heap.size 29 5) (show a.eval (.tmp 36) = Eng.cutVal v_4 0 k 5 from (H.dep 2 36 (by kernel_rfl) rfl)) (Evt.cut_reads (a := 0) (b := k) (Eng.Reads.below Fx_41 H.below) (by omega) (by omega)) (Evt.cells_one _) (by simp only [List.length_append, List.length_take, List.length_drop]; omega) (Nat.le_refl _)) fun v1 w'' R => ?_
       obtain ⟨O, _, hb, _, _⟩ := R
       exact ⟨hb, Eng.own_mono (Evt.own_nil_cat O) H.below.size⟩
      ·exact Eng.plain rfl rfl fun a w' H => Eng.vr (v := v_4) rfl (Eng.run_move rfl ((H.kept 5 (by kernel_rfl)).trans h5_41))
      ·exact Eng.plain rfl rfl fun a w' H => Eng.vr (v := .int .i64 (k : Int)) rfl (Eng.run_move rfl ((H.kept 6 (by kernel_rfl)).trans h6_41))
      ·refine Eng.plain rfl rfl fun a w' H => ?_
       refine Eng.vr (v := .int .i64 (IntKind.i64.wrap ((k : Int) + 1))) rfl ?_
       have e0 : a.eval (.tmp 39) = .int .i64 (k : Int) := (H.dep 5 39 (by kernel_rfl) rfl)
       have e1 : a.eval (.const (.int .i64 1)) = .int .i64 1 := (rfl : a.eval (.const (.int .i64 1)) = .int .i64 1)
       simp only [execOp, resolve, List.map_toArray, List.map_cons, List.map_nil, e0, e1]
       go_simp
       all_goals first | rfl | (simp; done) | (rw [Bool.eq_iff_iff]; simp; done) | omega | (split <;> first | (simp_all; done) | (split <;> simp_all; done)) | skip
      ·exact Eng.plain rfl rfl fun a w' H => Eng.vr (v := Eng.cutVal v_4 (k + 1) l.length 5) rfl (Eng.run_cutv (l := (k + 1)) (h := l.length) (size := 5) rfl Tryz.underlying24 (by kernel_rfl) (show a.eval (.tmp 38) = v_4 from (H.dep 4 38 (by kernel_rfl) rfl)) (Eng.Reads.below Fx_41 H.below) (congrArg some ((show a.eval (.tmp 40) = .int .i64 (IntKind.i64.wrap ((k : Int) + 1)) from (H.dep 6 40 (by kernel_rfl) rfl)).trans (congrArg (Value.int _) (show IntKind.i64.wrap ((k : Int) + 1) = (((k + 1) : Nat) : Int) from by rw [Eng.i64_id (by omega) (by omega)]; omega)))) rfl (Or.inr ⟨_, rfl⟩) (Or.inl ⟨rfl, rfl⟩) (by omega) (by first | omega | (simp; done) | (simp; omega)))
      ·refine Eng.eats (e := 3) (d := 37) rfl rfl (Eng.no_allocs (by kernel_rfl)) (by kernel_rfl) rfl rfl rfl (by kernel_rfl) fun a w' H OO => ?_
       refine Eng.ex_mono (Eng.run_appendI (B := w41.heap.size) (z := .agg #[.int .i64 0, .string ⟨#[]⟩, .string ⟨#[]⟩, .string ⟨#[]⟩, .bool false]) rfl Tryz.underlying24 (by kernel_rfl) rfl rfl (rfl : a.eval (.tmp 37) = a.eval (.tmp 37)) OO (show a.eval (.tmp 41) = Eng.cutVal v_4 (k + 1) l.length 5 from (H.dep 7 41 (by kernel_rfl) rfl)) (Evt.cut_reads (a := (k + 1)) (b := l.length) (Eng.Reads.below Fx_41 H.below) (by omega) (by omega)) (Evt.cells_one _) (by simp only [List.length_append, List.length_take, List.length_drop]; omega) H.below.size) fun v1 w'' R => ?_
       obtain ⟨O, O2, hb, _, _⟩ := R
       exact ⟨hb, Evt.own_cat O, O2⟩
      ·refine Eng.plain rfl rfl fun a w' H => ?_
       refine Eng.call Tryz.func12 (by kernel_rfl) (by kernel_rfl) rfl #[(a.eval (.tmp 42))] ?_ ?_
       ·simp only [List.map_toArray, List.map_cons, List.map_nil]
       refine (Evt.Right_calls (a.eval (.tmp 42)) ((List.take (k - 0) (List.drop 0 l)) ++ (List.take (l.length - (k + 1)) (List.drop (k + 1) l))) _ (Tabs.below (Tabs.below hT bl41) H.below) (Eng.Reads.of_own (H.dep 8 42 (by kernel_rfl) rfl)) (Evt.cut_text la.2) (by simp only [List.length_append, List.length_take, List.length_drop]; omega)).mono ?_
       rintro e w'' ⟨rfl, hb⟩
       exact ⟨_, rfl, (by show _ = Value.bool q43; rw [Bq43]), hb⟩
      ·exact Eng.plain rfl rfl fun a w' H => Eng.vr (v := .bool (!q43)) (by show _ = Value.bool q44; rw [Bq44]) (Eng.run_not rfl (H.dep 9 43 (by kernel_rfl) rfl))
      ·exact Eng.plain rfl rfl fun a w' H => Eng.vr (v := .bool q44) rfl (Eng.run_assign rfl (H.dep 10 44 (by kernel_rfl) rfl))
     intro act45 w45 T
     have h4_45 : act45.eval (.tmp 4) = .bool q44 := T.done 11 4 rfl rfl
     have d45 := T.defers.trans d41
     have bl45 := bl41.trans (T.below.mono bl41.size)
     clear T
     refine Eng.tail_nil ?_
     first | show Code.wp Tryz.prog _ _ _ _ | skip
     refine wp_ret ?_
     repeat (first | with_reducible refine Eng.in_ret ?_ | with_reducible refine Eng.then_ret ?_)
     have fin : q44 = true := by
      simp only [Bq44, Bq43, Bq33, Bq20, Bq16, Bq12]
      rw [Evt.cut_fin hk0 hrt h6]; rfl
     exact Eng.ret1 rfl d45 (h4_45.trans (by rw [fin])) ⟨rfl, bl45⟩
end Go.Proofs.YtgnmjaacnmkgnaaGreatDoor.X
end
