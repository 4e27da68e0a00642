/- Words and walks that the row of EventWraps needs: printed by programs, and plain laws. -/
import Derived.Test.YtgnmjaacnmkgnaaGreatDoorM11
import Derived.Test.YtgnmjaacnmkgnaaGreatDoorM10
import Derived.Test.YtgnmjaacnmkgnaaGreatDoorM2
namespace Go.Proofs.YtgnmjaacnmkgnaaGreatDoorW.PrintWords
end Go.Proofs.YtgnmjaacnmkgnaaGreatDoorW.PrintWords
namespace Go.Proofs.YtgnmjaacnmkgnaaGreatDoorW.PrintLast
end Go.Proofs.YtgnmjaacnmkgnaaGreatDoorW.PrintLast
namespace Go.Proofs.YtgnmjaacnmkgnaaGreatDoorW.PrintMore
end Go.Proofs.YtgnmjaacnmkgnaaGreatDoorW.PrintMore
section
namespace Go.Proofs.YtgnmjaacnmkgnaaGreatDoor.X
open Go.RowKit Go.Shelf Go.Proofs Go.Proofs.YtgnmjaacnmkgnaaGreatDoorW.PrintWords Go.Proofs.YtgnmjaacnmkgnaaGreatDoorW.PrintLast Go.Proofs.YtgnmjaacnmkgnaaGreatDoorW.PrintMore
set_option linter.unusedVariables false
set_option linter.unusedSimpArgs false
attribute [local go_sem] max2_int min2_int max_two min_two
set_option maxHeartbeats 4000000 in
set_option maxRecDepth 100000 in
theorem Evt.heavy_calls (v : Value) (l : List Evt.Ev) (w : World) (hl : Eng.Reads w v l.length 5 (Evt.cells l)) : Calls Tryz.prog 11 #[v] w fun e w' => e = .returned (.bool (Evt.heavyL l)) ∧ Below w.heap.size w w' := by
 have hm := Eng.Reads.len_le hl
 refine Eng.enter Tryz.func11 rfl fun act0 d0 s0 v0 => ?_
 have s0 : act0.tmps.size = 31 := s0
 have h0_0 : act0.eval (.tmp 0) = v := v0 0 (by simp)
 clear v0
 have bl0 : Below w.heap.size w w := Below.refl _ _
 refine wp_seq ?_
 refine Eng.regionS (Eng.still [fun u_ => u_ = .bool false]) (fun _ => .plain) 1 0 31 s0 rfl (by kernel_rfl) (Eng.still_stable _) (Or.inr (Eng.still_any _)) ?_ ?_
 ·refine .cons (fun _ => ?_) (.nil)
  ·exact Eng.plain rfl rfl fun a w' H => Eng.vr rfl (Eng.run_assign rfl (rfl : a.eval (.const (.bool false)) = .bool false))
 intro act1 w1 T
 have h0_1 := (T.rest 0 (by kernel_rfl)).trans h0_0
 have Fl_1 := Eng.Reads.below hl T.below
 have d1 := T.defers.trans d0
 have s1 := T.size.trans s0
 have bl1 := bl0.trans (T.below.mono bl0.size)
 clear T
 refine Eng.tail_nil ?_
 first | show Code.wp Tryz.prog _ _ _ _ | skip
 refine wp_seq ?_
 refine wp_seq ?_
 refine Eng.regionS (Eng.still [fun u_ => u_ = v, fun u_ => u_ = .int .i64 ((l.length : Nat) : Int), fun u_ => u_ = .int .i64 0]) (fun _ => .plain) 3 0 31 s1 rfl (by kernel_rfl) (Eng.still_stable _) (Or.inr (Eng.still_any _)) ?_ ?_
 ·refine .cons (fun _ => ?_) (.cons (fun _ => ?_) (.cons (fun _ => ?_) (.nil)))
  ·exact Eng.plain rfl rfl fun a w' H => Eng.vr rfl (Eng.run_move rfl ((H.kept 0 (by kernel_rfl)).trans h0_1))
  ·exact Eng.plain rfl rfl fun a w' H => Eng.vr (v := .int .i64 ((l.length : Nat) : Int)) rfl (Eng.run_len_sl rfl Tryz.underlying22 (show a.eval (.tmp 5) = v from (H.dep 0 5 (by kernel_rfl) rfl)) (Eng.Reads.below Fl_1 H.below))
  ·exact Eng.plain rfl rfl fun a w' H => Eng.vr rfl (Eng.run_move rfl (rfl : a.eval (.const (.int .i64 0)) = .int .i64 0))
 intro act2 w2 T
 have h0_2 := (T.rest 0 (by kernel_rfl)).trans h0_1
 have h5_2 : act2.eval (.tmp 5) = v := T.done 0 5 rfl rfl
 have h6_2 : act2.eval (.tmp 6) = .int .i64 ((l.length : Nat) : Int) := T.done 1 6 rfl rfl
 have h7_2 : act2.eval (.tmp 7) = .int .i64 0 := T.done 2 7 rfl rfl
 have d2 := T.defers.trans d1
 have s2 := T.size.trans s1
 have bl2 := bl1.trans (T.below.mono bl1.size)
 clear T
 refine Eng.tail_nil ?_
 first | show Code.wp Tryz.prog _ _ _ _ | skip
 refine wp_block ?_
 refine Eng.loopN (fun n a w' => ∃ (k : Nat), l.length - k = n ∧ (k ≤ l.length) ∧ ((List.take k l).any Evt.heavyE = false) ∧ a.defers = [] ∧ a.tmps.size = 31 ∧ Below w.heap.size w w' ∧ a.eval (.tmp 0) = v ∧ a.eval (.tmp 5) = v ∧ a.eval (.tmp 6) = .int .i64 ((l.length : Nat) : Int) ∧ a.eval (.tmp 7) = .int .i64 (k : Nat)) (n0 := l.length - 0) ?_ ?_
 ·exact ⟨0, rfl, by omega, rfl, d2, s2, bl2, h0_2, h5_2, h6_2, (h7_2.trans (by first | rfl | (congr 1; rw [Eng.i64_id (by omega) (by omega)]; omega) | (simp; done)))⟩
 rintro n act3 w3 ⟨k, rfl, hc0_3, hc1_3, d3, s3, bl3, h0_3, h5_3, h6_3, h7_3⟩
 have Fl_3 := Eng.Reads.below hl bl3
 have hk1 := hc0_3
 have hin := hc1_3
 refine wp_seq ?_
 obtain ⟨q8, Bq8⟩ : ∃ b : Bool, b = (decide ((k : Nat) < ((l.length : Nat) : Int))) := ⟨_, rfl⟩
 refine Eng.regionS (Eng.still [fun u_ => u_ = .bool q8]) (fun _ => .plain) 1 0 31 s3 rfl (by kernel_rfl) (Eng.still_stable _) (Or.inr (Eng.still_any _)) ?_ ?_
 ·refine .cons (fun _ => ?_) (.nil)
  ·refine Eng.plain rfl rfl fun a w' H => ?_
   refine Eng.vr (v := .bool (decide ((k : Nat) < ((l.length : Nat) : Int)))) (by show _ = Value.bool q8; rw [Bq8]) ?_
   have e0 : a.eval (.tmp 7) = .int .i64 (k : Nat) := ((H.kept 7 (by kernel_rfl)).trans h7_3)
   have e1 : a.eval (.tmp 6) = .int .i64 ((l.length : Nat) : Int) := ((H.kept 6 (by kernel_rfl)).trans h6_3)
   simp only [execOp, resolve, List.map_toArray, List.map_cons, List.map_nil, e0, e1]
   go_simp
   all_goals first | rfl | (simp; done) | (rw [Bool.eq_iff_iff]; simp; done) | omega | (split <;> first | (simp_all; done) | (split <;> simp_all; done)) | skip
 intro act4 w4 T
 have h0_4 := (T.rest 0 (by kernel_rfl)).trans h0_3
 have h5_4 := (T.rest 5 (by kernel_rfl)).trans h5_3
 have h6_4 := (T.rest 6 (by kernel_rfl)).trans h6_3
 have h7_4 := (T.rest 7 (by kernel_rfl)).trans h7_3
 have Fl_4 := Eng.Reads.below Fl_3 T.below
 have h8_4 : act4.eval (.tmp 8) = .bool q8 := T.done 0 8 rfl rfl
 have d4 := T.defers.trans d3
 have s4 := T.size.trans s3
 have bl4 := bl3.trans (T.below.mono bl3.size)
 clear T
 refine Eng.tail_nil ?_
 first | show Code.wp Tryz.prog _ _ _ _ | skip
 refine wp_seq ?_
 refine wp_cond_split h8_4 (fun hq => ?_) (fun hq => ?_)
 ·
  have c8 := Bq8.symm.trans hq
  clear hq
  have c8 := of_decide_eq_true c8
  have hk0 : k < l.length := by omega
  refine wp_skip ?_
  first | show Code.wp Tryz.prog _ _ _ _ | skip
  refine wp_seq ?_
  refine wp_block ?_
  refine wp_seq ?_
  refine Eng.regionS (Eng.still [fun u_ => u_ = Eng.elemPtr v (k * 5), fun u_ => u_ = .agg #[.int .i64 ((l.getD k default).kind), .string ((l.getD k default).anchor), .string ((l.getD k default).tag), .string ((l.getD k default).text), .bool ((l.getD k default).plain)], fun u_ => True, fun u_ => True]) (fun i => ([.plain, .plain, .alloc 45 #[.int .i64 0, .string ⟨#[]⟩, .string ⟨#[]⟩, .string ⟨#[]⟩, .bool false], .store 2 #[.int .i64 ((l.getD k default).kind), .string ((l.getD k default).anchor), .string ((l.getD k default).tag), .string ((l.getD k default).text), .bool ((l.getD k default).plain)]] : List Eng.Kind).getD i .plain) 4 0 31 s4 rfl (by kernel_rfl) (Eng.still_stable _) (Or.inr (Eng.still_any _)) ?_ ?_
  ·refine .cons (fun _ => ?_) (.cons (fun _ => ?_) (.cons (fun _ => ?_) (.cons (fun _ => ?_) (.nil))))
   ·exact Eng.plain rfl rfl fun a w' H => Eng.vr (v := Eng.elemPtr v (k * 5)) rfl (Eng.run_index_sl rfl Tryz.underlying22 (by kernel_rfl) (show a.eval (.tmp 5) = v from ((H.kept 5 (by kernel_rfl)).trans h5_4)) ((show a.eval (.tmp 7) = .int .i64 (k : Nat) from ((H.kept 7 (by kernel_rfl)).trans h7_4)).trans (congrArg (Value.int _) (show (k : Nat) = ((k : Nat) : Int) from by omega))) (Eng.Reads.below Fl_4 H.below) (by omega) rfl)
   ·exact Eng.plain rfl rfl fun a w' H => Eng.vr (v := .agg #[.int .i64 ((l.getD k default).kind), .string ((l.getD k default).anchor), .string ((l.getD k default).tag), .string ((l.getD k default).text), .bool ((l.getD k default).plain)]) rfl (Eng.run_load_els [.int .i64 ((l.getD k default).kind), .string ((l.getD k default).anchor), .string ((l.getD k default).tag), .string ((l.getD k default).text), .bool ((l.getD k default).plain)] rfl (show a.eval (.tmp 9) = Eng.elemPtr v (k * 5) from (H.dep 0 9 (by kernel_rfl) rfl)) (Eng.Reads.below Fl_4 H.below) (Evt.cells_at l k (by omega)) rfl Tryz.underlying45 rfl (by kernel_rfl))
   ·refine Eng.made rfl (by simp) rfl (fun a w' hd ho => ?_) (fun _ _ => trivial)
    simp only [execOp]
    go_simp
   ·refine Eng.stored [.int .i64 ((l.getD k default).kind), .string ((l.getD k default).anchor), .string ((l.getD k default).tag), .string ((l.getD k default).text), .bool ((l.getD k default).plain)] rfl rfl rfl (j := 2) (d := 4) (by kernel_rfl) rfl rfl (Eng.store_uniq (by kernel_rfl)) rfl rfl fun a w' g e hc hd ho => ?_
    have e0 : a.eval _ = .agg #[.int .i64 ((l.getD k default).kind), .string ((l.getD k default).anchor), .string ((l.getD k default).tag), .string ((l.getD k default).text), .bool ((l.getD k default).plain)] := (hd 1 10 (by kernel_rfl) rfl)
    have z0 := (Eng.cells hc 0).trans rfl
    have z1 := (Eng.cells hc 1).trans rfl
    have z2 := (Eng.cells hc 2).trans rfl
    have z3 := (Eng.cells hc 3).trans rfl
    have z4 := (Eng.cells hc 4).trans rfl
    have f0 := Eng.unfrozen hc 0
    have f1 := Eng.unfrozen hc 1
    have f2 := Eng.unfrozen hc 2
    have f3 := Eng.unfrozen hc 3
    have f4 := Eng.unfrozen hc 4
    simp only [execOp, e, e0]
    go_simp
    rfl
  intro act6 w6 T
  have h0_6 := (T.rest 0 (by kernel_rfl)).trans h0_4
  have h5_6 := (T.rest 5 (by kernel_rfl)).trans h5_4
  have h6_6 := (T.rest 6 (by kernel_rfl)).trans h6_4
  have h7_6 := (T.rest 7 (by kernel_rfl)).trans h7_4
  obtain ⟨g4_6, h4_6, rg4_6, lg4_6_6, kg4_6_6⟩ := T.st 2 4 3 _ _ _ rfl rfl rfl rfl rfl
  have d6 := T.defers.trans d4
  have s6 := T.size.trans s4
  have bl6 := bl4.trans (T.below.mono bl4.size)
  clear T
  refine Eng.tail_nil ?_
  first | show Code.wp Tryz.prog _ _ _ _ | skip
  refine wp_seq ?_
  obtain ⟨q14, Bq14⟩ : ∃ b : Bool, b = (decide ((((l.getD k default).text).size : Int) > 3000)) := ⟨_, rfl⟩
  obtain ⟨q19, Bq19⟩ : ∃ b : Bool, b = (decide ((((l.getD k default).anchor).size : Int) > 3000)) := ⟨_, rfl⟩
  obtain ⟨q20, Bq20⟩ : ∃ b : Bool, b = (q14 || q19) := ⟨_, rfl⟩
  obtain ⟨q25, Bq25⟩ : ∃ b : Bool, b = (decide ((((l.getD k default).tag).size : Int) > 3000)) := ⟨_, rfl⟩
  obtain ⟨q26, Bq26⟩ : ∃ b : Bool, b = (q20 || q25) := ⟨_, rfl⟩
  refine Eng.regionS (Eng.still [fun u_ => u_ = .pointer (some ⟨g4_6, 3, none⟩), fun u_ => u_ = .string ((l.getD k default).text), fun u_ => u_ = .int .i64 (((l.getD k default).text).size : Int), fun u_ => u_ = .bool q14, fun u_ => u_ = .bool q14, fun u_ => u_ = bif (q14 == false) then (.pointer (some ⟨g4_6, 1, none⟩)) else undef, fun u_ => u_ = bif (q14 == false) then (.string ((l.getD k default).anchor)) else undef, fun u_ => u_ = bif (q14 == false) then (.int .i64 (((l.getD k default).anchor).size : Int)) else undef, fun u_ => u_ = bif (q14 == false) then (.bool q19) else undef, fun u_ => u_ = .bool q20, fun u_ => u_ = .bool q20, fun u_ => u_ = bif (q20 == false) then (.pointer (some ⟨g4_6, 2, none⟩)) else undef, fun u_ => u_ = bif (q20 == false) then (.string ((l.getD k default).tag)) else undef, fun u_ => u_ = bif (q20 == false) then (.int .i64 (((l.getD k default).tag).size : Int)) else undef, fun u_ => u_ = bif (q20 == false) then (.bool q25) else undef, fun u_ => u_ = .bool q26]) (fun _ => .plain) 16 0 31 s6 rfl (by kernel_rfl) (Eng.still_stable _) (Or.inr (Eng.still_any _)) ?_ ?_
  ·refine .cons (fun _ => ?_) (.cons (fun _ => ?_) (.cons (fun _ => ?_) (.cons (fun _ => ?_) (.cons (fun _ => ?_) (.cons (fun _ => ?_) (.cons (fun _ => ?_) (.cons (fun _ => ?_) (.cons (fun _ => ?_) (.cons (fun _ => ?_) (.cons (fun _ => ?_) (.cons (fun _ => ?_) (.cons (fun _ => ?_) (.cons (fun _ => ?_) (.cons (fun _ => ?_) (.cons (fun _ => ?_) (.nil))))))))))))))))
   ·exact Eng.plain rfl rfl fun a w' H => Eng.vr rfl (Eng.run_fieldb rfl Tryz.underlying45 3 (by kernel_rfl) ((H.kept 4 (by kernel_rfl)).trans h4_6))
   ·exact Eng.plain rfl rfl fun a w' H => Eng.vr rfl (Eng.run_loadb rfl (H.dep 0 11 (by kernel_rfl) rfl) ((H.below.block _ lg4_6_6).trans kg4_6_6) rfl (by kernel_rfl))
   ·refine Eng.plain rfl rfl fun a w' H => ?_
    refine Eng.vr (v := .int .i64 (((l.getD k default).text).size : Int)) rfl ?_
    have e0 : a.eval (.tmp 12) = .string ((l.getD k default).text) := (H.dep 1 12 (by kernel_rfl) rfl)
    simp only [execOp, resolve, List.map_toArray, List.map_cons, List.map_nil, e0]
    go_simp
    all_goals first | rfl | (simp; done) | (rw [Bool.eq_iff_iff]; simp; done) | omega | (split <;> first | (simp_all; done) | (split <;> simp_all; done)) | skip
   ·refine Eng.plain rfl rfl fun a w' H => ?_
    refine Eng.vr (v := .bool (decide ((((l.getD k default).text).size : Int) > 3000))) (by show _ = Value.bool q14; rw [Bq14]) ?_
    have e0 : a.eval (.tmp 13) = .int .i64 (((l.getD k default).text).size : Int) := (H.dep 2 13 (by kernel_rfl) rfl)
    have e1 : a.eval (.const (.int .i64 3000)) = .int .i64 3000 := (rfl : a.eval (.const (.int .i64 3000)) = .int .i64 3000)
    simp only [execOp, resolve, List.map_toArray, List.map_cons, List.map_nil, e0, e1]
    go_simp
    all_goals first | rfl | (simp; done) | (rw [Bool.eq_iff_iff]; simp; done) | omega | (split <;> first | (simp_all; done) | (split <;> simp_all; done)) | skip
   ·exact Eng.plain rfl rfl fun a w' H => Eng.vr rfl (Eng.run_move rfl (H.dep 3 14 (by kernel_rfl) rfl))
   ·refine Eng.guarded1 (j := 4) (d := 15) (b := q14) rfl rfl (by kernel_rfl) rfl (fun v w h => h) (fun hG w => Eng.off hG) fun hG a w' H => ?_
    exact Eng.val (w1 := w') (v := .pointer (some ⟨g4_6, 1, none⟩)) (Eng.run_fieldb rfl Tryz.underlying45 1 (by kernel_rfl) ((H.kept 4 (by kernel_rfl)).trans h4_6)) (Below.refl _ _) (Eng.off' hG rfl)
   ·refine Eng.guarded1 (j := 4) (d := 15) (b := q14) rfl rfl (by kernel_rfl) rfl (fun v w h => h) (fun hG w => Eng.off hG) fun hG a w' H => ?_
    exact Eng.val (w1 := w') (v := .string ((l.getD k default).anchor)) (Eng.run_loadb rfl (Eng.on (H.dep 5 16 (by kernel_rfl) rfl) hG) ((H.below.block _ lg4_6_6).trans kg4_6_6) rfl (by kernel_rfl)) (Below.refl _ _) (Eng.off' hG rfl)
   ·refine Eng.guarded1 (j := 4) (d := 15) (b := q14) rfl rfl (by kernel_rfl) rfl (fun v w h => h) (fun hG w => Eng.off hG) fun hG a w' H => ?_
    refine Eng.vr (v := .int .i64 (((l.getD k default).anchor).size : Int)) (Eng.off' hG rfl) ?_
    have e0 : a.eval (.tmp 17) = .string ((l.getD k default).anchor) := (Eng.on (H.dep 6 17 (by kernel_rfl) rfl) hG)
    simp only [execOp, resolve, List.map_toArray, List.map_cons, List.map_nil, e0]
    go_simp
    all_goals first | rfl | (simp; done) | (rw [Bool.eq_iff_iff]; simp; done) | omega | (split <;> first | (simp_all; done) | (split <;> simp_all; done)) | skip
   ·refine Eng.guarded1 (j := 4) (d := 15) (b := q14) rfl rfl (by kernel_rfl) rfl (fun v w h => h) (fun hG w => Eng.off hG) fun hG a w' H => ?_
    refine Eng.vr (v := .bool (decide ((((l.getD k default).anchor).size : Int) > 3000))) (Eng.off' hG (by rw [Bq19])) ?_
    have e0 : a.eval (.tmp 18) = .int .i64 (((l.getD k default).anchor).size : Int) := (Eng.on (H.dep 7 18 (by kernel_rfl) rfl) hG)
    have e1 : a.eval (.const (.int .i64 3000)) = .int .i64 3000 := (rfl : a.eval (.const (.int .i64 3000)) = .int .i64 3000)
    simp only [execOp, resolve, List.map_toArray, List.map_cons, List.map_nil, e0, e1]
    go_simp
    all_goals first | rfl | (simp; done) | (rw [Bool.eq_iff_iff]; simp; done) | omega | (split <;> first | (simp_all; done) | (split <;> simp_all; done)) | skip
   ·exact Eng.plain rfl rfl fun a w' H => Eng.vr (v := .bool (q14 || q19)) (by show _ = Value.bool q20; rw [Bq20]) (Eng.run_or rfl rfl (G := true) (H.dep 4 15 (by kernel_rfl) rfl) (fun hb => (Eng.on (H.dep 8 19 (by kernel_rfl) rfl) (Eng.mk1 hb))))
   ·exact Eng.plain rfl rfl fun a w' H => Eng.vr rfl (Eng.run_move rfl (H.dep 9 20 (by kernel_rfl) rfl))
   ·refine Eng.guarded1 (j := 10) (d := 21) (b := q20) rfl rfl (by kernel_rfl) rfl (fun v w h => h) (fun hG w => Eng.off hG) fun hG a w' H => ?_
    exact Eng.val (w1 := w') (v := .pointer (some ⟨g4_6, 2, none⟩)) (Eng.run_fieldb rfl Tryz.underlying45 2 (by kernel_rfl) ((H.kept 4 (by kernel_rfl)).trans h4_6)) (Below.refl _ _) (Eng.off' hG rfl)
   ·refine Eng.guarded1 (j := 10) (d := 21) (b := q20) rfl rfl (by kernel_rfl) rfl (fun v w h => h) (fun hG w => Eng.off hG) fun hG a w' H => ?_
    exact Eng.val (w1 := w') (v := .string ((l.getD k default).tag)) (Eng.run_loadb rfl (Eng.on (H.dep 11 22 (by kernel_rfl) rfl) hG) ((H.below.block _ lg4_6_6).trans kg4_6_6) rfl (by kernel_rfl)) (Below.refl _ _) (Eng.off' hG rfl)
   ·refine Eng.guarded1 (j := 10) (d := 21) (b := q20) rfl rfl (by kernel_rfl) rfl (fun v w h => h) (fun hG w => Eng.off hG) fun hG a w' H => ?_
    refine Eng.vr (v := .int .i64 (((l.getD k default).tag).size : Int)) (Eng.off' hG rfl) ?_
    have e0 : a.eval (.tmp 23) = .string ((l.getD k default).tag) := (Eng.on (H.dep 12 23 (by kernel_rfl) rfl) hG)
    simp only [execOp, resolve, List.map_toArray, List.map_cons, List.map_nil, e0]
    go_simp
    all_goals first | rfl | (simp; done) | (rw [Bool.eq_iff_iff]; simp; done) | omega | (split <;> first | (simp_all; done) | (split <;> simp_all; done)) | skip
   ·refine Eng.guarded1 (j := 10) (d := 21) (b := q20) rfl rfl (by kernel_rfl) rfl (fun v w h => h) (fun hG w => Eng.off hG) fun hG a w' H => ?_
    refine Eng.vr (v := .bool (decide ((((l.getD k default).tag).size : Int) > 3000))) (Eng.off' hG (by rw [Bq25])) ?_
    have e0 : a.eval (.tmp 24) = .int .i64 (((l.getD k default).tag).size : Int) := (Eng.on (H.dep 13 24 (by kernel_rfl) rfl) hG)
    have e1 : a.eval (.const (.int .i64 3000)) = .int .i64 3000 := (rfl : a.eval (.const (.int .i64 3000)) = .int .i64 3000)
    simp only [execOp, resolve, List.map_toArray, List.map_cons, List.map_nil, e0, e1]
    go_simp
    all_goals first | rfl | (simp; done) | (rw [Bool.eq_iff_iff]; simp; done) | omega | (split <;> first | (simp_all; done) | (split <;> simp_all; done)) | skip
   ·exact Eng.plain rfl rfl fun a w' H => Eng.vr (v := .bool (q20 || q25)) (by show _ = Value.bool q26; rw [Bq26]) (Eng.run_or rfl rfl (G := true) (H.dep 10 21 (by kernel_rfl) rfl) (fun hb => (Eng.on (H.dep 14 25 (by kernel_rfl) rfl) (Eng.mk1 hb))))
  intro act7 w7 T
  have h0_7 := (T.rest 0 (by kernel_rfl)).trans h0_6
  have h5_7 := (T.rest 5 (by kernel_rfl)).trans h5_6
  have h6_7 := (T.rest 6 (by kernel_rfl)).trans h6_6
  have h7_7 := (T.rest 7 (by kernel_rfl)).trans h7_6
  have h26_7 : act7.eval (.tmp 26) = .bool q26 := T.done 15 26 rfl rfl
  have d7 := T.defers.trans d6
  have s7 := T.size.trans s6
  have bl7 := bl6.trans (T.below.mono bl6.size)
  clear T
  refine Eng.tail_nil ?_
  first | show Code.wp Tryz.prog _ _ _ _ | skip
  refine wp_cond_split h26_7 (fun hq => ?_) (fun hq => ?_)
  ·
   have c26 := Bq26.symm.trans hq
   clear hq
   have hx : Evt.heavyE (l.getD k default) = true := by have h1 := c26; simp only [Bq26, Bq25, Bq20, Bq19, Bq14, Bq8] at h1; exact h1
   refine wp_seq ?_
   refine Eng.regionS (Eng.still [fun u_ => u_ = .bool true]) (fun _ => .plain) 1 0 31 s7 rfl (by kernel_rfl) (Eng.still_stable _) (Or.inr (Eng.still_any _)) ?_ ?_
   ·refine .cons (fun _ => ?_) (.nil)
    ·exact Eng.plain rfl rfl fun a w' H => Eng.vr rfl (Eng.run_assign rfl (rfl : a.eval (.const (.bool true)) = .bool true))
   intro act9 w9 T
   have h2_9 : act9.eval (.tmp 2) = .bool true := T.done 0 2 rfl rfl
   have d9 := T.defers.trans d7
   have bl9 := bl7.trans (T.below.mono bl7.size)
   clear T
   refine Eng.tail_nil ?_
   first | show Code.wp Tryz.prog _ _ _ _ | skip
   refine wp_ret ?_
   repeat (first | with_reducible refine Eng.in_ret ?_ | with_reducible refine Eng.then_ret ?_)
   exact Eng.ret1 rfl d9 h2_9 ⟨by rw [Evt.heavy_at hk0 hx], bl9⟩
  ·
   have c26 := Bq26.symm.trans hq
   clear hq
   have hx : Evt.heavyE (l.getD k default) = false := by have h1 := c26; simp only [Bq26, Bq25, Bq20, Bq19, Bq14, Bq8] at h1; exact h1
   refine wp_skip ?_
   first | show Code.wp Tryz.prog _ _ _ _ | skip
   refine Eng.regionS (Eng.still [fun u_ => u_ = .int .i64 (IntKind.i64.wrap ((k : Nat) + 1)), fun u_ => u_ = .int .i64 (IntKind.i64.wrap ((k : Nat) + 1))]) (fun _ => .plain) 2 0 31 s7 rfl (by kernel_rfl) (Eng.still_stable _) (Or.inr (Eng.still_any _)) ?_ ?_
   ·refine .cons (fun _ => ?_) (.cons (fun _ => ?_) (.nil))
    ·refine Eng.plain rfl rfl fun a w' H => ?_
     refine Eng.vr (v := .int .i64 (IntKind.i64.wrap ((k : Nat) + 1))) rfl ?_
     have e0 : a.eval (.tmp 7) = .int .i64 (k : Nat) := ((H.kept 7 (by kernel_rfl)).trans h7_7)
     have e1 : a.eval (.const (.int .i64 1)) = .int .i64 1 := (rfl : a.eval (.const (.int .i64 1)) = .int .i64 1)
     simp only [execOp, resolve, List.map_toArray, List.map_cons, List.map_nil, e0, e1]
     go_simp
     all_goals first | rfl | (simp; done) | (rw [Bool.eq_iff_iff]; simp; done) | omega | (split <;> first | (simp_all; done) | (split <;> simp_all; done)) | skip
    ·exact Eng.plain rfl rfl fun a w' H => Eng.vr rfl (Eng.run_move rfl (H.dep 0 27 (by kernel_rfl) rfl))
   intro act11 w11 T
   have h0_11 := (T.rest 0 (by kernel_rfl)).trans h0_7
   have h5_11 := (T.rest 5 (by kernel_rfl)).trans h5_7
   have h6_11 := (T.rest 6 (by kernel_rfl)).trans h6_7
   have h7_11 : act11.eval (.tmp 7) = .int .i64 (IntKind.i64.wrap ((k : Nat) + 1)) := T.done 1 7 rfl rfl
   have d11 := T.defers.trans d7
   have s11 := T.size.trans s7
   have bl11 := bl7.trans (T.below.mono bl7.size)
   clear T
   refine Eng.tail_nil ?_
   exact ⟨_, by omega, k + 1, rfl, by omega, Evt.heavy_take hk0 hin hx, d11, s11, bl11, h0_11, h5_11, h6_11, (h7_11.trans (by first | rfl | (congr 1; rw [Eng.i64_id (by omega) (by omega)]; omega) | (simp; done)))⟩
 ·
  have c8 := Bq8.symm.trans hq
  clear hq
  have c8 := of_decide_eq_false c8
  have hke : k = l.length := by omega
  refine wp_exit ?_
  first | show Code.wp Tryz.prog _ _ _ _ | skip
  first | show Code.wp Tryz.prog _ _ _ _ | skip
  refine wp_seq ?_
  obtain ⟨q30, Bq30⟩ : ∃ b : Bool, b = (decide (((l.length : Nat) : Int) > 150)) := ⟨_, rfl⟩
  refine Eng.regionS (Eng.still [fun u_ => u_ = v, fun u_ => u_ = .int .i64 ((l.length : Nat) : Int), fun u_ => u_ = .bool q30, fun u_ => u_ = .bool q30]) (fun _ => .plain) 4 0 31 s4 rfl (by kernel_rfl) (Eng.still_stable _) (Or.inr (Eng.still_any _)) ?_ ?_
  ·refine .cons (fun _ => ?_) (.cons (fun _ => ?_) (.cons (fun _ => ?_) (.cons (fun _ => ?_) (.nil))))
   ·exact Eng.plain rfl rfl fun a w' H => Eng.vr rfl (Eng.run_move rfl ((H.kept 0 (by kernel_rfl)).trans h0_4))
   ·exact Eng.plain rfl rfl fun a w' H => Eng.vr (v := .int .i64 ((l.length : Nat) : Int)) rfl (Eng.run_len_sl rfl Tryz.underlying22 (show a.eval (.tmp 28) = v from (H.dep 0 28 (by kernel_rfl) rfl)) (Eng.Reads.below Fl_4 H.below))
   ·refine Eng.plain rfl rfl fun a w' H => ?_
    refine Eng.vr (v := .bool (decide (((l.length : Nat) : Int) > 150))) (by show _ = Value.bool q30; rw [Bq30]) ?_
    have e0 : a.eval (.tmp 29) = .int .i64 ((l.length : Nat) : Int) := (H.dep 1 29 (by kernel_rfl) rfl)
    have e1 : a.eval (.const (.int .i64 150)) = .int .i64 150 := (rfl : a.eval (.const (.int .i64 150)) = .int .i64 150)
    simp only [execOp, resolve, List.map_toArray, List.map_cons, List.map_nil, e0, e1]
    go_simp
    all_goals first | rfl | (simp; done) | (rw [Bool.eq_iff_iff]; simp; done) | omega | (split <;> first | (simp_all; done) | (split <;> simp_all; done)) | skip
   ·exact Eng.plain rfl rfl fun a w' H => Eng.vr rfl (Eng.run_assign rfl (H.dep 2 30 (by kernel_rfl) rfl))
  intro act13 w13 T
  have h2_13 : act13.eval (.tmp 2) = .bool q30 := T.done 3 2 rfl rfl
  have d13 := T.defers.trans d4
  have bl13 := bl4.trans (T.below.mono bl4.size)
  clear T
  refine Eng.tail_nil ?_
  first | show Code.wp Tryz.prog _ _ _ _ | skip
  refine wp_ret ?_
  repeat (first | with_reducible refine Eng.in_ret ?_ | with_reducible refine Eng.then_ret ?_)
  have fin : q30 = Evt.heavyL l := by
   simp only [Bq30, Bq8]
   rw [hke, List.take_length] at hin; unfold Evt.heavyL; rw [hin, Bool.false_or]
  exact Eng.ret1 rfl d13 (h2_13.trans (congrArg Value.bool fin)) ⟨rfl, bl13⟩
end Go.Proofs.YtgnmjaacnmkgnaaGreatDoor.X
end
section
set_option linter.unusedVariables false
set_option linter.unusedSimpArgs false
namespace Go.Proofs.Eng
open Go Go.RowKit
variable {P : Program}
section
variable {o : Oper} {a : Act} {w : World}
theorem run_appendM {B : Nat} {t e : TypeId} {z : Value} {size : Nat} {s x : Operand} (hop : o.op = .call { callee := .builtin .append, args := #[s, x], argTypes := #[t, t] })
    (ht : P.underlying t = some (.slice e)) (hI : (P.info? e).map (fun i => (i.size, decide (i.bytes ≤ 64), i.zero)) = some (size, true, some z)) (hzs : z.cells.size = size) (hsz : (decide (0 < size)) = true)
    {v xv : Value} {n : Nat} {xs : List Value} (hs : a.eval s = v) (O : w.ownsRow B e size v n xs) (hx : a.eval x = xv) {m : Nat} {news : List Value} (F : Reads w xv m size news) (h1 : ∀ u ∈ news, u.oneCell' = true) (h63 : n + m ≤ 2199023255488) (hB : B ≤ w.heap.size) :
    ∃ v' w', (execOp a.eval o).run P w = .ok (.value v') w' ∧ w'.ownsRow B e size v' (n + m) (xs ++ news) ∧ w'.ownsRow B e size v n xs ∧ Below B w w' ∧ w.grownBy w' v.ownBlock ∧ (v'.ownBlock = v.ownBlock ∨ v'.ownBlock = some w.heap.size) := by
  cases hq : P.info? e with
  | none => simp [hq] at hI
  | some i =>
    simp [hq] at hI
    obtain ⟨h2, h3, h4⟩ := hI
    have hb : (n + m) * i.bytes ≤ 140737488355328 := Nat.le_trans (Nat.mul_le_mul h63 h3) (by decide)
    obtain ⟨v', w', hr, h⟩ := own_appendT (P := P) (ty := o.type) ht hq h4 h2 (by omega) hzs (of_decide_eq_true hsz) O F h1 (by unfold maxLen; omega) hb hB
    refine ⟨v', w', ?_, h⟩
    unfold execOp
    simp only [hop, resolve, invoke, builtin, Sem.run_bind, Sem.run_pure, Result.andThen_ok, List.map_toArray, List.map_cons, List.map_nil, hs, hx, hr]
end
end Go.Proofs.Eng
end
section
namespace Go.Proofs.YtgnmjaacnmkgnaaGreatDoor.X
open Go.RowKit Go.Shelf Go.Proofs Go.Proofs.YtgnmjaacnmkgnaaGreatDoorW.PrintWords Go.Proofs.YtgnmjaacnmkgnaaGreatDoorW.PrintLast Go.Proofs.YtgnmjaacnmkgnaaGreatDoorW.PrintMore
set_option linter.unusedVariables false
set_option linter.unusedSimpArgs false
attribute [local go_sem] max2_int min2_int max_two min_two
set_option maxHeartbeats 4000000 in
set_option maxRecDepth 100000 in
theorem Evt.theirs_calls (v : Value) (l : List Evt.Ev) (w : World) (hl : Eng.Reads w v l.length 5 (Evt.cells l)) (hlen : l.length ≤ 2199023255488) : Calls Tryz.prog 10 #[v] w fun e w' => ∃ o, e = .returned o ∧ w'.ownsRow w.heap.size 29 5 o l.length (Evt.cells l) ∧ Below w.heap.size w w' := by
 have hm := Eng.Reads.len_le hl
 refine Eng.enter Tryz.func10 rfl fun act0 d0 s0 v0 => ?_
 have s0 : act0.tmps.size = 18 := s0
 have h0_0 : act0.eval (.tmp 0) = v := v0 0 (by simp)
 clear v0
 have bl0 : Below w.heap.size w w := Below.refl _ _
 refine wp_seq ?_
 refine Eng.regionS (Eng.still [fun u_ => u_ = .slice none 0 0]) (fun _ => .plain) 1 0 18 s0 rfl (by kernel_rfl) (Eng.still_stable _) (Or.inr (Eng.still_any _)) ?_ ?_
 ·refine .cons (fun _ => ?_) (.nil)
  ·exact Eng.plain rfl rfl fun a w' H => Eng.vr rfl (Eng.run_assign rfl (rfl : a.eval (.const (.slice none 0 0)) = .slice none 0 0))
 intro act1 w1 T
 have h0_1 := (T.rest 0 (by kernel_rfl)).trans h0_0
 have Fl_1 := Eng.Reads.below hl T.below
 have h2_1 : act1.eval (.tmp 2) = .slice none 0 0 := T.done 0 2 rfl rfl
 have d1 := T.defers.trans d0
 have s1 := T.size.trans s0
 have bl1 := bl0.trans (T.below.mono bl0.size)
 clear T
 refine Eng.tail_nil ?_
 first | show Code.wp Tryz.prog _ _ _ _ | skip
 refine wp_seq ?_
 refine Eng.regionS (Eng.still [fun u_ => u_ = .slice none 0 0]) (fun _ => .plain) 1 0 18 s1 rfl (by kernel_rfl) (Eng.still_stable _) (Or.inr (Eng.still_any _)) ?_ ?_
 ·refine .cons (fun _ => ?_) (.nil)
  ·exact Eng.plain rfl rfl fun a w' H => Eng.vr rfl (Eng.run_assign rfl (rfl : a.eval (.const (.slice none 0 0)) = .slice none 0 0))
 intro act2 w2 T
 have h0_2 := (T.rest 0 (by kernel_rfl)).trans h0_1
 have h2_2 := (T.rest 2 (by kernel_rfl)).trans h2_1
 have Fl_2 := Eng.Reads.below Fl_1 T.below
 have h3_2 : act2.eval (.tmp 3) = .slice none 0 0 := T.done 0 3 rfl rfl
 have d2 := T.defers.trans d1
 have s2 := T.size.trans s1
 have bl2 := bl1.trans (T.below.mono bl1.size)
 clear T
 refine Eng.tail_nil ?_
 first | show Code.wp Tryz.prog _ _ _ _ | skip
 refine wp_seq ?_
 refine wp_seq ?_
 refine Eng.regionS (Eng.still [fun u_ => u_ = v, fun u_ => u_ = .int .i64 ((l.length : Nat) : Int), fun u_ => u_ = .int .i64 0]) (fun _ => .plain) 3 0 18 s2 rfl (by kernel_rfl) (Eng.still_stable _) (Or.inr (Eng.still_any _)) ?_ ?_
 ·refine .cons (fun _ => ?_) (.cons (fun _ => ?_) (.cons (fun _ => ?_) (.nil)))
  ·exact Eng.plain rfl rfl fun a w' H => Eng.vr rfl (Eng.run_move rfl ((H.kept 0 (by kernel_rfl)).trans h0_2))
  ·exact Eng.plain rfl rfl fun a w' H => Eng.vr (v := .int .i64 ((l.length : Nat) : Int)) rfl (Eng.run_len_sl rfl Tryz.underlying22 (show a.eval (.tmp 6) = v from (H.dep 0 6 (by kernel_rfl) rfl)) (Eng.Reads.below Fl_2 H.below))
  ·exact Eng.plain rfl rfl fun a w' H => Eng.vr rfl (Eng.run_move rfl (rfl : a.eval (.const (.int .i64 0)) = .int .i64 0))
 intro act3 w3 T
 have h0_3 := (T.rest 0 (by kernel_rfl)).trans h0_2
 have h2_3 := (T.rest 2 (by kernel_rfl)).trans h2_2
 have h3_3 := (T.rest 3 (by kernel_rfl)).trans h3_2
 have h6_3 : act3.eval (.tmp 6) = v := T.done 0 6 rfl rfl
 have h7_3 : act3.eval (.tmp 7) = .int .i64 ((l.length : Nat) : Int) := T.done 1 7 rfl rfl
 have h8_3 : act3.eval (.tmp 8) = .int .i64 0 := T.done 2 8 rfl rfl
 have d3 := T.defers.trans d2
 have s3 := T.size.trans s2
 have bl3 := bl2.trans (T.below.mono bl2.size)
 clear T
 refine Eng.tail_nil ?_
 first | show Code.wp Tryz.prog _ _ _ _ | skip
 refine wp_block ?_
 refine Eng.loopN (fun n a w' => ∃ (k : Nat) (o : Value), l.length - k = n ∧ (k ≤ l.length) ∧ (w'.ownsRow w.heap.size 29 5 o (List.take k l).length (Evt.cells (List.take k l))) ∧ a.defers = [] ∧ a.tmps.size = 18 ∧ Below w.heap.size w w' ∧ a.eval (.tmp 0) = v ∧ a.eval (.tmp 2) = .slice none 0 0 ∧ a.eval (.tmp 3) = o ∧ a.eval (.tmp 6) = v ∧ a.eval (.tmp 7) = .int .i64 ((l.length : Nat) : Int) ∧ a.eval (.tmp 8) = .int .i64 (k : Nat)) (n0 := l.length - 0) ?_ ?_
 ·exact ⟨0, .slice none 0 0, rfl, by omega, World.ownsRow_nil _ _ _ _, d3, s3, bl3, h0_3, h2_3, (h3_3.trans (by first | rfl | (congr 1; rw [Eng.i64_id (by omega) (by omega)]; omega) | (simp; done))), h6_3, h7_3, (h8_3.trans (by first | rfl | (congr 1; rw [Eng.i64_id (by omega) (by omega)]; omega) | (simp; done)))⟩
 rintro n act4 w4 ⟨k, o, rfl, hc0_4, hc1_4, d4, s4, bl4, h0_4, h2_4, h3_4, h6_4, h7_4, h8_4⟩
 have Fl_4 := Eng.Reads.below hl bl4
 have hk1 := hc0_4
 refine wp_seq ?_
 obtain ⟨q9, Bq9⟩ : ∃ b : Bool, b = (decide ((k : Nat) < ((l.length : Nat) : Int))) := ⟨_, rfl⟩
 refine Eng.regionS (Eng.still [fun u_ => u_ = .bool q9]) (fun _ => .plain) 1 0 18 s4 rfl (by kernel_rfl) (Eng.still_stable _) (Or.inr (Eng.still_any _)) ?_ ?_
 ·refine .cons (fun _ => ?_) (.nil)
  ·refine Eng.plain rfl rfl fun a w' H => ?_
   refine Eng.vr (v := .bool (decide ((k : Nat) < ((l.length : Nat) : Int)))) (by show _ = Value.bool q9; rw [Bq9]) ?_
   have e0 : a.eval (.tmp 8) = .int .i64 (k : Nat) := ((H.kept 8 (by kernel_rfl)).trans h8_4)
   have e1 : a.eval (.tmp 7) = .int .i64 ((l.length : Nat) : Int) := ((H.kept 7 (by kernel_rfl)).trans h7_4)
   simp only [execOp, resolve, List.map_toArray, List.map_cons, List.map_nil, e0, e1]
   go_simp
   all_goals first | rfl | (simp; done) | (rw [Bool.eq_iff_iff]; simp; done) | omega | (split <;> first | (simp_all; done) | (split <;> simp_all; done)) | skip
 intro act5 w5 T
 have h0_5 := (T.rest 0 (by kernel_rfl)).trans h0_4
 have h2_5 := (T.rest 2 (by kernel_rfl)).trans h2_4
 have h3_5 := (T.rest 3 (by kernel_rfl)).trans h3_4
 have h6_5 := (T.rest 6 (by kernel_rfl)).trans h6_4
 have h7_5 := (T.rest 7 (by kernel_rfl)).trans h7_4
 have h8_5 := (T.rest 8 (by kernel_rfl)).trans h8_4
 have Fl_5 := Eng.Reads.below Fl_4 T.below
 have Oout_5 := Eng.own_below hc1_4 T.below
 have h9_5 : act5.eval (.tmp 9) = .bool q9 := T.done 0 9 rfl rfl
 have d5 := T.defers.trans d4
 have s5 := T.size.trans s4
 have bl5 := bl4.trans (T.below.mono bl4.size)
 clear T
 refine Eng.tail_nil ?_
 first | show Code.wp Tryz.prog _ _ _ _ | skip
 refine wp_seq ?_
 refine wp_cond_split h9_5 (fun hq => ?_) (fun hq => ?_)
 ·
  have c9 := Bq9.symm.trans hq
  clear hq
  have c9 := of_decide_eq_true c9
  have hk0 : k < l.length := by omega
  refine wp_skip ?_
  first | show Code.wp Tryz.prog _ _ _ _ | skip
  refine wp_seq ?_
  refine wp_block ?_
  refine wp_seq ?_
  refine Eng.regionS (Eng.still [fun u_ => u_ = Eng.elemPtr v (k * 5), fun u_ => u_ = .agg #[.int .i64 ((l.getD k default).kind), .string ((l.getD k default).anchor), .string ((l.getD k default).tag), .string ((l.getD k default).text), .bool ((l.getD k default).plain)], fun u_ => True, fun u_ => True]) (fun i => ([.plain, .plain, .alloc 45 #[.int .i64 0, .string ⟨#[]⟩, .string ⟨#[]⟩, .string ⟨#[]⟩, .bool false], .store 2 #[.int .i64 ((l.getD k default).kind), .string ((l.getD k default).anchor), .string ((l.getD k default).tag), .string ((l.getD k default).text), .bool ((l.getD k default).plain)]] : List Eng.Kind).getD i .plain) 4 0 18 s5 rfl (by kernel_rfl) (Eng.still_stable _) (Or.inr (Eng.still_any _)) ?_ ?_
  ·refine .cons (fun _ => ?_) (.cons (fun _ => ?_) (.cons (fun _ => ?_) (.cons (fun _ => ?_) (.nil))))
   ·exact Eng.plain rfl rfl fun a w' H => Eng.vr (v := Eng.elemPtr v (k * 5)) rfl (Eng.run_index_sl rfl Tryz.underlying22 (by kernel_rfl) (show a.eval (.tmp 6) = v from ((H.kept 6 (by kernel_rfl)).trans h6_5)) ((show a.eval (.tmp 8) = .int .i64 (k : Nat) from ((H.kept 8 (by kernel_rfl)).trans h8_5)).trans (congrArg (Value.int _) (show (k : Nat) = ((k : Nat) : Int) from by omega))) (Eng.Reads.below Fl_5 H.below) (by omega) rfl)
   ·exact Eng.plain rfl rfl fun a w' H => Eng.vr (v := .agg #[.int .i64 ((l.getD k default).kind), .string ((l.getD k default).anchor), .string ((l.getD k default).tag), .string ((l.getD k default).text), .bool ((l.getD k default).plain)]) rfl (Eng.run_load_els [.int .i64 ((l.getD k default).kind), .string ((l.getD k default).anchor), .string ((l.getD k default).tag), .string ((l.getD k default).text), .bool ((l.getD k default).plain)] rfl (show a.eval (.tmp 10) = Eng.elemPtr v (k * 5) from (H.dep 0 10 (by kernel_rfl) rfl)) (Eng.Reads.below Fl_5 H.below) (Evt.cells_at l k (by omega)) rfl Tryz.underlying45 rfl (by kernel_rfl))
   ·refine Eng.made rfl (by simp) rfl (fun a w' hd ho => ?_) (fun _ _ => trivial)
    simp only [execOp]
    go_simp
   ·refine Eng.stored [.int .i64 ((l.getD k default).kind), .string ((l.getD k default).anchor), .string ((l.getD k default).tag), .string ((l.getD k default).text), .bool ((l.getD k default).plain)] rfl rfl rfl (j := 2) (d := 5) (by kernel_rfl) rfl rfl (Eng.store_uniq (by kernel_rfl)) rfl rfl fun a w' g e hc hd ho => ?_
    have e0 : a.eval _ = .agg #[.int .i64 ((l.getD k default).kind), .string ((l.getD k default).anchor), .string ((l.getD k default).tag), .string ((l.getD k default).text), .bool ((l.getD k default).plain)] := (hd 1 11 (by kernel_rfl) rfl)
    have z0 := (Eng.cells hc 0).trans rfl
    have z1 := (Eng.cells hc 1).trans rfl
    have z2 := (Eng.cells hc 2).trans rfl
    have z3 := (Eng.cells hc 3).trans rfl
    have z4 := (Eng.cells hc 4).trans rfl
    have f0 := Eng.unfrozen hc 0
    have f1 := Eng.unfrozen hc 1
    have f2 := Eng.unfrozen hc 2
    have f3 := Eng.unfrozen hc 3
    have f4 := Eng.unfrozen hc 4
    simp only [execOp, e, e0]
    go_simp
    rfl
  intro act7 w7 T
  have h0_7 := (T.rest 0 (by kernel_rfl)).trans h0_5
  have h2_7 := (T.rest 2 (by kernel_rfl)).trans h2_5
  have h3_7 := (T.rest 3 (by kernel_rfl)).trans h3_5
  have h6_7 := (T.rest 6 (by kernel_rfl)).trans h6_5
  have h7_7 := (T.rest 7 (by kernel_rfl)).trans h7_5
  have h8_7 := (T.rest 8 (by kernel_rfl)).trans h8_5
  have Oout_7 := Eng.own_below Oout_5 T.below
  obtain ⟨g5_7, h5_7, rg5_7, lg5_7_7, kg5_7_7⟩ := T.st 2 5 3 _ _ _ rfl rfl rfl rfl rfl
  have d7 := T.defers.trans d5
  have s7 := T.size.trans s5
  have bl7 := bl5.trans (T.below.mono bl5.size)
  clear T
  refine Eng.tail_nil ?_
  first | show Code.wp Tryz.prog _ _ _ _ | skip
  refine Eng.regionT (n := 5) rfl ?_
  refine Eng.tail_val rfl rfl rfl (Eng.run_move rfl h3_7) s7 rfl fun act8 d8 s8 hv hr => ?_
  have h0_8 := (hr 0 rfl).trans h0_7
  have h2_8 := (hr 2 rfl).trans h2_7
  have h5_8 := (hr 5 rfl).trans h5_7
  have h6_8 := (hr 6 rfl).trans h6_7
  have h7_8 := (hr 7 rfl).trans h7_7
  have h8_8 := (hr 8 rfl).trans h8_7
  have h12_8 : act8.eval (.tmp 12) = o := hv
  have d8 := d8.trans d7
  clear hv hr
  refine Eng.tail_val rfl rfl rfl (Eng.run_load_all rfl h5_8 kg5_7_7 Tryz.underlying45 rfl (by kernel_rfl)) s8 rfl fun act9 d9 s9 hv hr => ?_
  have h0_9 := (hr 0 rfl).trans h0_8
  have h2_9 := (hr 2 rfl).trans h2_8
  have h6_9 := (hr 6 rfl).trans h6_8
  have h7_9 := (hr 7 rfl).trans h7_8
  have h8_9 := (hr 8 rfl).trans h8_8
  have h12_9 := (hr 12 rfl).trans h12_8
  have h13_9 : act9.eval (.tmp 13) = .agg #[.int .i64 ((l.getD k default).kind), .string ((l.getD k default).anchor), .string ((l.getD k default).tag), .string ((l.getD k default).text), .bool ((l.getD k default).plain)] := hv
  have d9 := d9.trans d8
  clear hv hr
  refine Eng.tail_ex rfl rfl rfl (Eng.run_build1I (size := 5) (z := .agg #[.int .i64 0, .string ⟨#[]⟩, .string ⟨#[]⟩, .string ⟨#[]⟩, .bool false]) [.int .i64 ((l.getD k default).kind), .string ((l.getD k default).anchor), .string ((l.getD k default).tag), .string ((l.getD k default).text), .bool ((l.getD k default).plain)] rfl Tryz.underlying24 (by kernel_rfl) rfl rfl rfl (by kernel_rfl) (show act9.eval (.tmp 13) = .agg #[.int .i64 ((l.getD k default).kind), .string ((l.getD k default).anchor), .string ((l.getD k default).tag), .string ((l.getD k default).text), .bool ((l.getD k default).plain)] from h13_9)) s9 rfl fun v_10 w10 act10 R d10 s10 hv hr => ?_
  obtain ⟨F_10, b_10⟩ := R
  have h0_10 := (hr 0 rfl).trans h0_9
  have h2_10 := (hr 2 rfl).trans h2_9
  have h6_10 := (hr 6 rfl).trans h6_9
  have h7_10 := (hr 7 rfl).trans h7_9
  have h8_10 := (hr 8 rfl).trans h8_9
  have h12_10 := (hr 12 rfl).trans h12_9
  have h14_10 : act10.eval (.tmp 14) = v_10 := hv
  have d10 := d10.trans d9
  clear hv hr
  have Oout_10 := Eng.own_below Oout_7 b_10
  have bl10 := bl7.trans (b_10.mono bl7.size)
  refine Eng.tail_ex rfl rfl rfl (Eng.run_appendM (z := .agg #[.int .i64 0, .string ⟨#[]⟩, .string ⟨#[]⟩, .string ⟨#[]⟩, .bool false]) rfl Tryz.underlying24 (by kernel_rfl) rfl rfl h12_10 Oout_10 h14_10 F_10 (by intro u hu; simp only [List.mem_cons, List.not_mem_nil, or_false] at hu; rcases hu with rfl | rfl | rfl | rfl | rfl <;> rfl) (by rw [List.length_take]; omega) bl10.size) s10 rfl fun v_11 w11 act11 R d11 s11 hv hr => ?_
  obtain ⟨O_11, _, b_11, G_11, EO_11⟩ := R
  have h0_11 := (hr 0 rfl).trans h0_10
  have h2_11 := (hr 2 rfl).trans h2_10
  have h6_11 := (hr 6 rfl).trans h6_10
  have h7_11 := (hr 7 rfl).trans h7_10
  have h8_11 := (hr 8 rfl).trans h8_10
  have h15_11 : act11.eval (.tmp 15) = v_11 := hv
  have d11 := d11.trans d10
  clear hv hr
  have bl11 := bl10.trans b_11
  have Oa11 : w11.ownsRow w.heap.size 29 5 v_11 (List.take (k + 1) l).length (Evt.cells (List.take (k + 1) l)) := Evt.own_take hk0 O_11
  have Fa11 := Eng.Reads.of_own Oa11
  refine Eng.tail_val rfl rfl rfl (Eng.run_assign rfl h15_11) s11 rfl fun act12 d12 s12 hv hr => ?_
  have h0_12 := (hr 0 rfl).trans h0_11
  have h2_12 := (hr 2 rfl).trans h2_11
  have h6_12 := (hr 6 rfl).trans h6_11
  have h7_12 := (hr 7 rfl).trans h7_11
  have h8_12 := (hr 8 rfl).trans h8_11
  have h3_12 : act12.eval (.tmp 3) = v_11 := hv
  have d12 := d12.trans d11
  clear hv hr
  refine Eng.tail_nil ?_
  first | show Code.wp Tryz.prog _ _ _ _ | skip
  refine Eng.regionS (Eng.still [fun u_ => u_ = .int .i64 (IntKind.i64.wrap ((k : Nat) + 1)), fun u_ => u_ = .int .i64 (IntKind.i64.wrap ((k : Nat) + 1))]) (fun _ => .plain) 2 0 18 s12 rfl (by kernel_rfl) (Eng.still_stable _) (Or.inr (Eng.still_any _)) ?_ ?_
  ·refine .cons (fun _ => ?_) (.cons (fun _ => ?_) (.nil))
   ·refine Eng.plain rfl rfl fun a w' H => ?_
    refine Eng.vr (v := .int .i64 (IntKind.i64.wrap ((k : Nat) + 1))) rfl ?_
    have e0 : a.eval (.tmp 8) = .int .i64 (k : Nat) := ((H.kept 8 (by kernel_rfl)).trans h8_12)
    have e1 : a.eval (.const (.int .i64 1)) = .int .i64 1 := (rfl : a.eval (.const (.int .i64 1)) = .int .i64 1)
    simp only [execOp, resolve, List.map_toArray, List.map_cons, List.map_nil, e0, e1]
    go_simp
    all_goals first | rfl | (simp; done) | (rw [Bool.eq_iff_iff]; simp; done) | omega | (split <;> first | (simp_all; done) | (split <;> simp_all; done)) | skip
   ·exact Eng.plain rfl rfl fun a w' H => Eng.vr rfl (Eng.run_move rfl (H.dep 0 16 (by kernel_rfl) rfl))
  intro act13 w13 T
  have h0_13 := (T.rest 0 (by kernel_rfl)).trans h0_12
  have h2_13 := (T.rest 2 (by kernel_rfl)).trans h2_12
  have h3_13 := (T.rest 3 (by kernel_rfl)).trans h3_12
  have h6_13 := (T.rest 6 (by kernel_rfl)).trans h6_12
  have h7_13 := (T.rest 7 (by kernel_rfl)).trans h7_12
  have Oa11_13 := Eng.own_below Oa11 T.below
  have h8_13 : act13.eval (.tmp 8) = .int .i64 (IntKind.i64.wrap ((k : Nat) + 1)) := T.done 1 8 rfl rfl
  have d13 := T.defers.trans d12
  have s13 := T.size.trans s12
  have bl13 := bl11.trans (T.below.mono bl11.size)
  clear T
  refine Eng.tail_nil ?_
  exact ⟨_, by omega, k + 1, v_11, rfl, by omega, Oa11_13, d13, s13, bl13, h0_13, h2_13, (h3_13.trans (by first | rfl | (congr 1; rw [Eng.i64_id (by omega) (by omega)]; omega) | (simp; done))), h6_13, h7_13, (h8_13.trans (by first | rfl | (congr 1; rw [Eng.i64_id (by omega) (by omega)]; omega) | (simp; done)))⟩
 ·
  have c9 := Bq9.symm.trans hq
  clear hq
  have c9 := of_decide_eq_false c9
  have hke : k = l.length := by omega
  refine wp_exit ?_
  first | show Code.wp Tryz.prog _ _ _ _ | skip
  first | show Code.wp Tryz.prog _ _ _ _ | skip
  refine wp_seq ?_
  refine Eng.regionS (Eng.still [fun u_ => u_ = o, fun u_ => u_ = o]) (fun _ => .plain) 2 0 18 s5 rfl (by kernel_rfl) (Eng.still_stable _) (Or.inr (Eng.still_any _)) ?_ ?_
  ·refine .cons (fun _ => ?_) (.cons (fun _ => ?_) (.nil))
   ·exact Eng.plain rfl rfl fun a w' H => Eng.vr rfl (Eng.run_move rfl ((H.kept 3 (by kernel_rfl)).trans h3_5))
   ·exact Eng.plain rfl rfl fun a w' H => Eng.vr rfl (Eng.run_assign rfl (H.dep 0 17 (by kernel_rfl) rfl))
  intro act15 w15 T
  have Oout_15 := Eng.own_below Oout_5 T.below
  have h2_15 : act15.eval (.tmp 2) = o := T.done 1 2 rfl rfl
  have d15 := T.defers.trans d5
  have bl15 := bl5.trans (T.below.mono bl5.size)
  clear T
  refine Eng.tail_nil ?_
  first | show Code.wp Tryz.prog _ _ _ _ | skip
  refine wp_ret ?_
  repeat (first | with_reducible refine Eng.in_ret ?_ | with_reducible refine Eng.then_ret ?_)
  have fin := Oout_15
  rw [hke, List.take_length] at fin
  exact Eng.ret1 rfl d15 h2_15 ⟨_, rfl, fin, bl15⟩
end Go.Proofs.YtgnmjaacnmkgnaaGreatDoor.X
end
section
namespace Go.Proofs.YtgnmjaacnmkgnaaGreatDoor.X
open Go.RowKit Go.Shelf Go.Proofs
set_option linter.unusedVariables false
set_option linter.unusedSimpArgs false
namespace Evt
theorem cells_drop : ∀ (a : Nat) (l : List Ev), (cells l).drop (a * 5) = cells (l.drop a)
  | 0, l => by simp
  | a + 1, [] => by simp
  | a + 1, x :: t => by
    show (enc x ++ cells t).drop ((a + 1) * 5) = cells (t.drop a)
    rw [show (a + 1) * 5 = (enc x).length + a * 5 by rw [enc_len]; omega, List.drop_append, List.drop_of_length_le (Nat.le_add_right _ _), Nat.add_sub_cancel_left, List.nil_append]
    exact cells_drop a t
theorem cells_take : ∀ (a : Nat) (l : List Ev), (cells l).take (a * 5) = cells (l.take a)
  | 0, l => by simp
  | a + 1, [] => by simp
  | a + 1, x :: t => by
    show (enc x ++ cells t).take ((a + 1) * 5) = enc x ++ cells (t.take a)
    rw [show (a + 1) * 5 = (enc x).length + a * 5 by rw [enc_len]; omega, List.take_append, List.take_of_length_le (Nat.le_add_right _ _), Nat.add_sub_cancel_left, cells_take a t]
theorem cells_one (l : List Ev) : ∀ u ∈ cells l, u.oneCell' = true := Rwt.one enc_one l
theorem cut_reads {w : World} {v : Value} {l : List Ev} (F : Eng.Reads w v l.length 5 (cells l)) {a b : Nat} (hab : a ≤ b) (hb : b ≤ l.length) : Eng.Reads w (Eng.cutVal v a b 5) ((l.drop a).take (b - a)).length 5 (cells ((l.drop a).take (b - a))) := by
  have h := F.cutv hab hb
  rw [cells_drop, cells_take] at h
  have hl : ((l.drop a).take (b - a)).length = b - a := by rw [List.length_take, List.length_drop]; omega
  rw [hl]; exact h
theorem own_cat {w : World} {B : Nat} {v : Value} {l r : List Ev} (O : w.ownsRow B 29 5 v (l.length + r.length) (cells l ++ cells r)) : w.ownsRow B 29 5 v (l ++ r).length (cells (l ++ r)) := Rwt.own_cat O
end Evt
end Go.Proofs.YtgnmjaacnmkgnaaGreatDoor.X
end
section
namespace Go.Proofs.YtgnmjaacnmkgnaaGreatDoor.X
open Go.RowKit Go.Shelf Go.Proofs Go.Proofs.YtgnmjaacnmkgnaaGreatDoorW.PrintWords
set_option linter.unusedVariables false
set_option linter.unusedSimpArgs false
namespace Evt
theorem wr64 {i : Int} (h0 : 0 ≤ i) (h1 : i ≤ 1000000) : IntKind.i64.wrap i = i := Eng.i64_id (by omega) (by omega)
def runE : List (Int × Int) → List Ev → Option (List (Int × Int))
  | st, [] => some st
  | st, e :: t => (takeF st e.kind).bind fun st' => runE st' t
theorem runE_app (b : List Ev) : ∀ (a : List Ev) (st : List (Int × Int)), runE st (a ++ b) = (runE st a).bind fun st' => runE st' b
  | [], st => rfl
  | e :: t, st => by
    rw [List.cons_append, runE, runE]
    cases takeF st e.kind with
    | none => rfl
    | some st' => exact runE_app b t st'
theorem rightR_run : ∀ (l : List Ev) (st : List (Int × Int)), rightR rightE st l = (l.all rightE && (runE st l == some []))
  | [], st => by cases st <;> rfl
  | e :: t, st => by
    rw [rightR, runE, List.all_cons]
    cases takeF st e.kind with
    | none => simp
    | some st' => show (rightE e && rightR rightE st' t) = _; rw [rightR_run t st', Bool.and_assoc]; rfl
theorem pop_top (pre : List (Int × Int)) (t : Int × Int) (k : Int) (may : Int → Bool) (st' : List (Int × Int)) (h : pop (pre ++ [t]) k may = some st') : t.1 = k ∧ may t.2 = true ∧ st' = pre := by
  rw [pop_snoc] at h
  split at h
  · rename_i hc; injection h with h; exact ⟨hc.1, hc.2, h.symm⟩
  · cases h
theorem frame_one {c k : Int} {r S : List (Int × Int)} (h : takeF ((0, c) :: r) k = some S) (h1 : k ≠ 1) (hc : 0 ≤ c) (hc1 : c ≤ 100000) :
    ∃ c' r', S = (0, c') :: r' ∧ c ≤ c' ∧ c' ≤ c + 1 ∧ ∀ (p : List (Int × Int)) (q b : Int), 0 ≤ b → b ≤ 100 → takeF (p ++ (q, b + c) :: r) k = some (p ++ (q, b + c') :: r') := by
  have h0 : k ≠ 0 := by rintro rfl; rw [takeF_0] at h; cases h
  have hne : ∀ (p : List (Int × Int)) (x : Int × Int) (r : List (Int × Int)), (p ++ x :: r).isEmpty = false := fun p x r => by cases p <;> rfl
  by_cases h35 : k = 3 ∨ k = 5
  · obtain ⟨q0, may, hq0, hp⟩ : ∃ q0 may, q0 ≠ 0 ∧ ∀ st, takeF st k = pop st q0 may := by
      rcases h35 with rfl | rfl
      · exact ⟨2, _, by decide, fun st => takeF_3 st⟩
      · exact ⟨4, _, by decide, fun st => takeF_5 st⟩
    rw [hp] at h
    rcases List.eq_nil_or_concat r with rfl | ⟨pre, t, rfl⟩
    · exact absurd (pop_top [] (0, c) q0 may S h).1.symm hq0
    · rw [List.concat_eq_append] at h ⊢
      have h2 := pop_top ((0, c) :: pre) t q0 may S h
      refine ⟨c, pre, h2.2.2, Int.le_refl _, by omega, fun p q b _ _ => ?_⟩
      rw [hp, show p ++ (q, b + c) :: (pre ++ [t]) = (p ++ (q, b + c) :: pre) ++ [t] by simp, pop_snoc, if_pos ⟨h2.1, h2.2.1⟩]
  · have e : ∀ st : List (Int × Int), st.isEmpty = false → takeF st k = if k = 2 ∨ k = 4 then some (more st ++ [(k, 0)]) else some (more st) := fun st hs => by
      rw [takeF_x _ _ h0 h1 (fun e => h35 (.inl e)) (fun e => h35 (.inr e)), hs]; rfl
    rcases List.eq_nil_or_concat r with rfl | ⟨pre, t, rfl⟩
    · have m1 : more [(0, c)] = [(0, IntKind.i64.wrap (c + 1))] := more_snoc [] (0, c)
      rw [e _ rfl, m1, wr64 (by omega) (by omega)] at h
      have m2 : ∀ (p : List (Int × Int)) (q b : Int), 0 ≤ b → b ≤ 100 → more (p ++ [(q, b + c)]) = p ++ [(q, b + (c + 1))] := fun p q b hb hb1 => by
        rw [more_snoc, wr64 (by show 0 ≤ b + c + 1; omega) (by show b + c + 1 ≤ 1000000; omega), Int.add_assoc]
      by_cases h24 : k = 2 ∨ k = 4
      · rw [if_pos h24] at h; injection h with h
        refine ⟨c + 1, [(k, 0)], h.symm, by omega, Int.le_refl _, fun p q b hb hb1 => ?_⟩
        rw [e _ (hne _ _ _), if_pos h24, m2 p q b hb hb1]; simp
      · rw [if_neg h24] at h; injection h with h
        refine ⟨c + 1, [], h.symm, by omega, Int.le_refl _, fun p q b hb hb1 => ?_⟩
        rw [e _ (hne _ _ _), if_neg h24, m2 p q b hb hb1]
    · rw [List.concat_eq_append] at h ⊢
      have m1 : more ((0, c) :: (pre ++ [t])) = (0, c) :: (pre ++ [(t.1, IntKind.i64.wrap (t.2 + 1))]) := more_snoc ((0, c) :: pre) t
      have m2 : ∀ (p : List (Int × Int)) (q b : Int), more (p ++ (q, b + c) :: (pre ++ [t])) = p ++ (q, b + c) :: (pre ++ [(t.1, IntKind.i64.wrap (t.2 + 1))]) := fun p q b => by
        rw [show p ++ (q, b + c) :: (pre ++ [t]) = (p ++ (q, b + c) :: pre) ++ [t] by simp, more_snoc]; simp
      rw [e _ rfl, m1] at h
      by_cases h24 : k = 2 ∨ k = 4
      · rw [if_pos h24] at h; injection h with h
        refine ⟨c, pre ++ [(t.1, IntKind.i64.wrap (t.2 + 1))] ++ [(k, 0)], h.symm.trans (by simp), Int.le_refl _, by omega, fun p q b hb hb1 => ?_⟩
        rw [e _ (hne _ _ _), if_pos h24, m2]; simp
      · rw [if_neg h24] at h; injection h with h
        refine ⟨c, pre ++ [(t.1, IntKind.i64.wrap (t.2 + 1))], h.symm, Int.le_refl _, by omega, fun p q b hb hb1 => ?_⟩
        rw [e _ (hne _ _ _), if_neg h24, m2]
theorem frame : ∀ (l : List Ev) (c : Int) (r S : List (Int × Int)), runE ((0, c) :: r) l = some S → (∀ x ∈ l, x.kind ≠ 1) → 0 ≤ c → c + l.length ≤ 100000 →
    ∃ c' r', S = (0, c') :: r' ∧ c ≤ c' ∧ ∀ (p : List (Int × Int)) (q b : Int), 0 ≤ b → b ≤ 100 → runE (p ++ (q, b + c) :: r) l = some (p ++ (q, b + c') :: r')
  | [], c, r, S, h, _, _, _ => by
    injection h with h
    exact ⟨c, r, h.symm, Int.le_refl _, fun p q b _ _ => rfl⟩
  | e :: t, c, r, S, h, hk, hc, hl => by
    rw [runE] at h
    cases hq : takeF ((0, c) :: r) e.kind with
    | none => rw [hq] at h; cases h
    | some S1 =>
      rw [hq] at h
      simp only [List.length_cons] at hl
      obtain ⟨c1, r1, rfl, g1, g2, g3⟩ := frame_one hq (hk e List.mem_cons_self) hc (by omega)
      obtain ⟨c2, r2, rfl, f1, f3⟩ := frame t c1 r1 S h (fun x hx => hk x (List.mem_cons_of_mem _ hx)) (by omega) (by omega)
      refine ⟨c2, r2, rfl, by omega, fun p q b hb hb1 => ?_⟩
      rw [runE, g3 p q b hb hb1]
      exact f3 p q b hb hb1
theorem run_empty {l : List Ev} {S : List (Int × Int)} (h : runE [] l = some S) (hk : ∀ x ∈ l, x.kind ≠ 0) : l = [] := by
  cases l with
  | nil => rfl
  | cons e t =>
    exfalso
    rw [runE] at h
    have h0 := hk e List.mem_cons_self
    have e1 : takeF [] e.kind = none := by
      by_cases h1 : e.kind = 1
      · rw [h1]; rfl
      by_cases h3 : e.kind = 3
      · rw [h3]; rfl
      by_cases h5 : e.kind = 5
      · rw [h5]; rfl
      rw [takeF_x _ _ h0 h1 h3 h5]; rfl
    rw [e1] at h; cases h
theorem no_end : ∀ (l : List Ev) (z : Ev) (c : Int) (r : List (Int × Int)) (S : List (Int × Int)), runE ((0, c) :: r) (l ++ [z]) = some S → (∀ x ∈ l ++ [z], x.kind ≠ 0) → 0 ≤ c → c + l.length ≤ 100000 → (∀ t ∈ r, t.1 ≠ 0) → ∀ x ∈ l, x.kind ≠ 1
  | [], z, c, r, S, _, _, _, _, _ => by simp
  | e :: t, z, c, r, S, h, hk, hc, hl, hr => by
    rw [List.cons_append, runE] at h
    simp only [List.length_cons] at hl
    cases hq : takeF ((0, c) :: r) e.kind with
    | none => rw [hq] at h; cases h
    | some S1 =>
      rw [hq] at h
      have h1 : e.kind ≠ 1 := by
        intro h1
        rw [h1, takeF_1] at hq
        rcases List.eq_nil_or_concat r with rfl | ⟨pre, u, rfl⟩
        · have := (pop_top [] (0, c) 0 _ S1 hq).2.2
          subst this
          exact absurd (run_empty (show runE [] (t ++ [z]) = some S from h) (fun x hx => hk x (List.mem_cons_of_mem _ hx))) (by simp)
        · rw [List.concat_eq_append] at hq hr
          exact hr u (by simp) (pop_top ((0, c) :: pre) u 0 _ S1 hq).1
      obtain ⟨c1, r1, rfl, g1, g2, g3⟩ := frame_one hq h1 hc (by omega)
      have hr1 : ∀ t ∈ r1, t.1 ≠ 0 := by
        have h0 : e.kind ≠ 0 := hk e List.mem_cons_self
        intro u hu
        by_cases h35 : e.kind = 3 ∨ e.kind = 5
        · have : ∃ q may, pop ((0, c) :: r) q may = some ((0, c1) :: r1) := by
            rcases h35 with h3 | h5
            · rw [h3, takeF_3] at hq; exact ⟨_, _, hq⟩
            · rw [h5, takeF_5] at hq; exact ⟨_, _, hq⟩
          obtain ⟨q, may, hp⟩ := this
          have e1 := pop_st hp
          cases r with
          | nil => cases e1
          | cons y ys =>
            have : r1 = (y :: ys).dropLast := by injection e1
            rw [this] at hu
            exact hr u (List.dropLast_subset _ hu)
        · rw [takeF_x _ _ h0 h1 (fun e => h35 (.inl e)) (fun e => h35 (.inr e))] at hq
          have hm : ∀ v ∈ (more ((0, c) :: r)).drop 1, v.1 ≠ 0 := by
            rcases List.eq_nil_or_concat r with rfl | ⟨pre, u, rfl⟩
            · intro v hv; have m1 : more [(0, c)] = [(0, IntKind.i64.wrap (c + 1))] := more_snoc [] (0, c)
              rw [m1] at hv; simp at hv
            · rw [List.concat_eq_append] at hr ⊢
              have m1 : more ((0, c) :: (pre ++ [u])) = (0, c) :: (pre ++ [(u.1, IntKind.i64.wrap (u.2 + 1))]) := more_snoc ((0, c) :: pre) u
              rw [m1]
              intro v hv
              rcases List.mem_append.1 (show v ∈ pre ++ [(u.1, IntKind.i64.wrap (u.2 + 1))] from hv) with hv | hv
              · exact hr v (List.mem_append_left _ hv)
              · rw [List.mem_singleton.1 hv]; exact hr u (by simp)
          have hl : 0 < (more ((0, c) :: r)).length := by rw [more_len]; simp
          simp only [List.isEmpty_cons, Bool.false_eq_true, if_false] at hq
          split at hq
          · rename_i h24
            injection hq with hq
            cases hM : more ((0, c) :: r) with
            | nil => rw [hM] at hl; simp at hl
            | cons y ys =>
              rw [hM] at hq hm
              have e2 : r1 = ys ++ [(e.kind, 0)] := by injection hq with _ h; exact h.symm
              rw [e2] at hu
              rcases List.mem_append.1 hu with hu | hu
              · exact hm u hu
              · rw [List.mem_singleton.1 hu]; exact h0
          · injection hq with hq
            rw [hq] at hm
            exact hm u hu
      intro x hx
      rcases List.mem_cons.1 hx with rfl | hx
      · exact h1
      · exact no_end t z c1 r1 S h (fun x hx => hk x (List.mem_cons_of_mem _ hx)) (by omega) (by omega) hr1 x hx
def dz (d : Int × Int) (k : Int) : Int × Int :=
  if k = 2 ∨ k = 4 then (d.1 + 1, max d.2 (d.1 + 1)) else if k = 3 ∨ k = 5 then (d.1 - 1, max d.2 (d.1 - 1)) else (d.1, max d.2 d.1)
theorem mx_max (a b : Int) : mx a b = max a b := by
  unfold mx; split <;> omega
theorem dz_step (d : Int × Int) (k : Int) (h0 : -1000000 ≤ d.1) (h1 : d.1 ≤ 1000000) : dstep d k = dz d k := by
  unfold dstep dz
  rw [Eng.i64_id (x := d.1 + 1) (by omega) (by omega), Eng.i64_id (x := d.1 - 1) (by omega) (by omega), mx_max, mx_max, mx_max]
theorem dz_fst (d : Int × Int) (k : Int) : d.1 - 1 ≤ (dz d k).1 ∧ (dz d k).1 ≤ d.1 + 1 := by
  unfold dz; split
  · exact ⟨by show d.1 - 1 ≤ d.1 + 1; omega, Int.le_refl _⟩
  · split
    · exact ⟨Int.le_refl _, by show d.1 - 1 ≤ d.1 + 1; omega⟩
    · exact ⟨by show d.1 - 1 ≤ d.1; omega, by show d.1 ≤ d.1 + 1; omega⟩
def dzs (d : Int × Int) (l : List Ev) : Int × Int := l.foldl (fun d e => dz d e.kind) d
theorem dzs_eq : ∀ (l : List Ev) (d : Int × Int), -500000 ≤ d.1 - l.length → d.1 + l.length ≤ 500000 → l.foldl (fun d e => dstep d e.kind) d = dzs d l
  | [], d, _, _ => rfl
  | e :: t, d, h0, h1 => by
    simp only [List.length_cons] at h0 h1
    have hf := dz_fst d e.kind
    show List.foldl _ (dstep d e.kind) t = dzs (dz d e.kind) t
    rw [dz_step d e.kind (by omega) (by omega)]
    exact dzs_eq t _ (by omega) (by omega)
theorem dzs_app (a b : List Ev) (d : Int × Int) : dzs d (a ++ b) = dzs (dzs d a) b := List.foldl_append
theorem dz_shift (d : Int × Int) (k a m : Int) : (dz (d.1 + a, max m (d.2 + a)) k) = ((dz d k).1 + a, max m ((dz d k).2 + a)) := by
  unfold dz
  split
  · refine Prod.ext (by show d.1 + a + 1 = d.1 + 1 + a; omega) (by show max (max m (d.2 + a)) (d.1 + a + 1) = max m (max d.2 (d.1 + 1) + a); omega)
  · split
    · refine Prod.ext (by show d.1 + a - 1 = d.1 - 1 + a; omega) (by show max (max m (d.2 + a)) (d.1 + a - 1) = max m (max d.2 (d.1 - 1) + a); omega)
    · refine Prod.ext rfl (by show max (max m (d.2 + a)) (d.1 + a) = max m (max d.2 d.1 + a); omega)
theorem dzs_shift : ∀ (l : List Ev) (d : Int × Int) (a m : Int), dzs (d.1 + a, max m (d.2 + a)) l = ((dzs d l).1 + a, max m ((dzs d l).2 + a))
  | [], d, a, m => rfl
  | e :: t, d, a, m => by
    show dzs (dz (d.1 + a, max m (d.2 + a)) e.kind) t = _
    rw [dz_shift]
    exact dzs_shift t (dz d e.kind) a m
theorem dzs_one (l : List Ev) (m : Int) (hm : 1 ≤ m) : dzs (1, m) l = ((dzs (0, 0) l).1 + 1, max m ((dzs (0, 0) l).2 + 1)) := by
  have h := dzs_shift l (0, 0) 1 m
  rw [show max m (((0, 0) : Int × Int).2 + 1) = m by show max m (0 + 1) = m; omega] at h
  exact h
theorem dzs_ge : ∀ (l : List Ev) (d : Int × Int), d.1 ≤ d.2 → (dzs d l).1 ≤ (dzs d l).2 ∧ d.2 ≤ (dzs d l).2
  | [], d, h => ⟨h, Int.le_refl _⟩
  | e :: t, d, h => by
    have h2 : (dz d e.kind).1 ≤ (dz d e.kind).2 ∧ d.2 ≤ (dz d e.kind).2 := by
      unfold dz; split
      · exact ⟨by show d.1 + 1 ≤ max d.2 (d.1 + 1); omega, by show d.2 ≤ max d.2 (d.1 + 1); omega⟩
      · split
        · exact ⟨by show d.1 - 1 ≤ max d.2 (d.1 - 1); omega, by show d.2 ≤ max d.2 (d.1 - 1); omega⟩
        · exact ⟨by show d.1 ≤ max d.2 d.1; omega, by show d.2 ≤ max d.2 d.1; omega⟩
    have h3 := dzs_ge t (dz d e.kind) h2.1
    exact ⟨h3.1, Int.le_trans h2.2 h3.2⟩
theorem dzs_fst : ∀ (l : List Ev) (d : Int × Int), (∀ x ∈ l, x.kind ≠ 0) → (∀ x ∈ l, x.kind ≠ 1) → (dzs d l).1 = d.1 + dls l
  | [], d, _, _ => by show d.1 = d.1 + 0; omega
  | e :: t, d, h0, h1 => by
    have k0 := h0 e List.mem_cons_self
    have k1 := h1 e List.mem_cons_self
    have h2 : (dz d e.kind).1 = d.1 + dl e.kind := by
      unfold dz dl; split
      · rw [if_pos (by omega)]
      · split
        · rw [if_neg (by omega), if_pos (by omega)]; show d.1 - 1 = d.1 + -1; omega
        · rw [if_neg (by omega), if_neg (by omega)]; show d.1 = d.1 + 0; omega
    show (dzs (dz d e.kind) t).1 = d.1 + (dl e.kind + dls t)
    rw [dzs_fst t _ (fun x hx => h0 x (List.mem_cons_of_mem _ hx)) (fun x hx => h1 x (List.mem_cons_of_mem _ hx)), h2]; omega
theorem run_dls : ∀ (l : List Ev) (st S : List (Int × Int)), runE st l = some S → (S.length : Int) = st.length + dls l
  | [], st, S, h => by injection h with h; subst h; show (st.length : Int) = st.length + 0; omega
  | e :: t, st, S, h => by
    rw [runE] at h
    cases hq : takeF st e.kind with
    | none => rw [hq] at h; cases h
    | some st' =>
      rw [hq] at h
      rw [run_dls t st' S h, take_dl hq]; show _ = (st.length : Int) + (dl e.kind + dls t); omega
def ev0 (k : Int) : Ev := ⟨k, ⟨#[]⟩, ⟨#[]⟩, ⟨#[]⟩, false⟩
def wrapL (k : Int) (n : Nat) (node : List Ev) : List Ev := [ev0 0, ev0 k] ++ (List.replicate n node).flatten ++ [ev0 (k + 1), ev0 1]
structure Nodes1 (l node : List Ev) : Prop where
  all : ∀ x ∈ node, rightE x = true
  run : ∀ (p : List (Int × Int)) (q b : Int), 0 ≤ b → b ≤ 100 → runE (p ++ [(q, b)]) node = some (p ++ [(q, b + 1)])
  deep : dzs (0, 0) node = (0, (depths l).2)
  pos : 0 ≤ (depths l).2
theorem node_of {b z : Ev} {node : List Ev} (h : rightG rightE (b :: (node ++ [z])) = true) (hk : ∀ x ∈ node ++ [z], x.kind ≠ 0) (hl : node.length ≤ 10000) : Nodes1 (b :: (node ++ [z])) node := by
  rw [rightG, Bool.and_eq_true] at h
  have ha := right_all _ [] h.1
  have hr := h.1
  rw [rightR_run, Bool.and_eq_true] at hr
  have hr : runE [] (b :: (node ++ [z])) = some [] := by simpa using hr.2
  have b0 : b.kind = 0 := by
    by_cases hb : b.kind = 0
    · exact hb
    · exact absurd (run_empty hr (fun x hx => by
        rcases List.mem_cons.1 hx with rfl | hx
        · exact hb
        · exact hk x hx)) (by simp)
  rw [runE, b0, takeF_0] at hr
  have hr : runE [(0, 0)] (node ++ [z]) = some [] := hr
  have hn1 := no_end node z 0 [] [] hr hk (by decide) (by omega) (by simp)
  rw [runE_app] at hr
  cases hS : runE [(0, 0)] node with
  | none => rw [hS] at hr; cases hr
  | some S =>
    rw [hS] at hr
    have hz : takeF S z.kind = some [] := by
      have : (takeF S z.kind).bind (fun st' => runE st' []) = some [] := hr
      cases hq : takeF S z.kind with
      | none => rw [hq] at this; cases this
      | some st' => rw [hq] at this; exact this
    obtain ⟨c, r, rfl, hc, hf⟩ := frame node 0 [] S hS hn1 (Int.le_refl _) (by omega)
    have hd := take_dl hz
    simp only [List.length_nil, List.length_cons] at hd
    have hr0 : r = [] := by
      cases r with
      | nil => rfl
      | cons => exfalso; simp only [List.length_cons] at hd; unfold dl at hd; split at hd <;> try split at hd
                all_goals omega
    subst hr0
    have hc1 : c = 1 := by
      have : z.kind = 1 ∨ z.kind = 3 ∨ z.kind = 5 := by
        unfold dl at hd
        split at hd
        · simp at hd
        · split at hd
          · assumption
          · simp at hd
      rcases this with h1 | h1 | h1
      · rw [h1, takeF_1] at hz
        have := (pop_top [] (0, c) 0 _ [] hz).2.1
        simpa using this
      · rw [h1, takeF_3] at hz; exact absurd (pop_top [] (0, c) 2 _ [] hz).1 (by show ¬ (0 : Int) = 2; decide)
      · rw [h1, takeF_5] at hz; exact absurd (pop_top [] (0, c) 4 _ [] hz).1 (by show ¬ (0 : Int) = 4; decide)
    subst hc1
    have hn0 : ∀ x ∈ node, x.kind ≠ 0 := fun x hx => hk x (List.mem_append_left _ hx)
    have f0 : (dzs (0, 0) node).1 = 0 := by
      rw [dzs_fst node _ hn0 hn1]
      have := run_dls _ _ _ hS
      simp only [List.length_cons, List.length_nil] at this
      show (0 : Int) + dls node = 0; omega
    have g0 := dzs_ge node (0, 0) (Int.le_refl _)
    have e2 : depths (b :: (node ++ [z])) = dz (dzs (0, 0) node) z.kind := by
      unfold depths
      rw [dzs_eq _ _ (by simp only [List.length_cons, List.length_append, List.length_nil]; show (-500000 : Int) ≤ 0 - _; omega) (by simp only [List.length_cons, List.length_append, List.length_nil]; show (0 : Int) + _ ≤ _; omega)]
      show dzs (dz (0, 0) b.kind) (node ++ [z]) = _
      rw [b0, dzs_app]; rfl
    have e3 : (depths (b :: (node ++ [z]))).2 = (dzs (0, 0) node).2 := by
      rw [e2]
      have g1 := g0.1
      have g2 : (0 : Int) ≤ (dzs (0, 0) node).2 := g0.2
      unfold dz
      rw [f0] at g1 ⊢
      have z1 : z.kind = 1 := by
        by_cases h1 : z.kind = 1
        · exact h1
        · exfalso
          have : z.kind = 3 ∨ z.kind = 5 := by
            unfold dl at hd
            split at hd
            · simp at hd
            · split at hd
              · omega
              · simp at hd
          rcases this with h1 | h1
          · rw [h1, takeF_3] at hz; exact absurd (pop_top [] (0, 1) 2 _ [] hz).1 (by decide)
          · rw [h1, takeF_5] at hz; exact absurd (pop_top [] (0, 1) 4 _ [] hz).1 (by decide)
      rw [z1, if_neg (by decide), if_neg (by decide)]
      show max _ (0 : Int) = _; omega
    refine ⟨fun x hx => ha x (List.mem_cons_of_mem _ (List.mem_append_left _ hx)), fun p q b hb hb1 => ?_, ?_, ?_⟩
    · have := hf p q b hb hb1
      rw [show b + (0 : Int) = b by omega] at this
      exact this
    · rw [e3]; exact Prod.ext f0 rfl
    · rw [e3]; exact g0.2
theorem run_reps {l node : List Ev} (h : Nodes1 l node) (p : List (Int × Int)) (q : Int) : ∀ (n : Nat) (b : Int), 0 ≤ b → b + n ≤ 100 → runE (p ++ [(q, b)]) (List.replicate n node).flatten = some (p ++ [(q, b + n)])
  | 0, b, _, _ => by show some (p ++ [(q, b)]) = _; rw [show b + ((0 : Nat) : Int) = b by omega]
  | n + 1, b, h0, h1 => by
    rw [List.replicate_succ, List.flatten_cons, runE_app, h.run p q b h0 (by omega)]
    show runE (p ++ [(q, b + 1)]) _ = _
    rw [run_reps h p q n (b + 1) (by omega) (by omega)]
    rw [show b + 1 + (n : Int) = b + ((n + 1 : Nat) : Int) by omega]
theorem deep_reps {l node : List Ev} (h : Nodes1 l node) : ∀ (n : Nat) (m : Int), 1 ≤ m → m ≤ (depths l).2 + 1 → dzs (1, m) (List.replicate (n + 1) node).flatten = (1, (depths l).2 + 1) := by
  intro n
  induction n with
  | zero =>
    intro m h0 h1
    rw [List.replicate_succ, List.flatten_cons, dzs_app, dzs_one _ _ h0, h.deep]
    exact Prod.ext rfl (by show max m ((depths l).2 + 1) = (depths l).2 + 1; omega)
  | succ n ih =>
    intro m h0 h1
    rw [List.replicate_succ, List.flatten_cons, dzs_app, dzs_one _ _ h0, h.deep]
    rw [show (((0, (depths l).2) : Int × Int).1 + 1, max m (((0, (depths l).2) : Int × Int).2 + 1)) = ((1, (depths l).2 + 1) : Int × Int) from Prod.ext rfl (by show max m ((depths l).2 + 1) = (depths l).2 + 1; omega)]
    exact ih _ (by have := h.pos; omega) (Int.le_refl _)
theorem wrap_len {l node : List Ev} (k : Int) (n : Nat) : (wrapL k n node).length = n * node.length + 4 := by
  unfold wrapL; simp [List.length_flatten]
theorem wrap_deep {l node : List Ev} (h : Nodes1 l node) (k : Int) (hk : k = 2 ∨ k = 4) (n : Nat) (hl : (wrapL k (n + 1) node).length ≤ 400000) : (depths (wrapL k (n + 1) node)).2 = (depths l).2 + 1 := by
  have hp := h.pos
  have hd := deep_reps h n 1 (Int.le_refl _) (by omega)
  generalize (depths l).2 = D at hp hd ⊢
  unfold depths
  rw [dzs_eq _ _ (by show (-500000 : Int) ≤ 0 - _; omega) (by show (0 : Int) + _ ≤ _; omega)]
  unfold wrapL
  rw [dzs_app, dzs_app]
  have e1 : dzs (0, 0) [ev0 0, ev0 k] = (1, 1) := by rcases hk with rfl | rfl <;> rfl
  rw [e1, hd]
  show (dz (dz (1, D + 1) (k + 1)) 1).2 = D + 1
  have e2 : dz (1, D + 1) (k + 1) = (0, D + 1) := by
    unfold dz; rw [if_neg (by omega), if_pos (by omega)]
    exact Prod.ext rfl (by show max (D + 1) (1 - 1 : Int) = D + 1; omega)
  rw [e2]; unfold dz; rw [if_neg (by decide), if_neg (by decide)]
  show max (D + 1) (0 : Int) = D + 1; omega
theorem wrap_all {l node : List Ev} (h : Nodes1 l node) (k : Int) (hk : k = 2 ∨ k = 4) (n : Nat) : (wrapL k n node).all rightE = true := by
  unfold wrapL
  rw [List.all_append, List.all_append]
  have e1 : (List.replicate n node).flatten.all rightE = true := by
    rw [List.all_eq_true]
    intro x hx
    obtain ⟨m, hm, hx⟩ := List.mem_flatten.1 hx
    rw [List.eq_of_mem_replicate hm] at hx
    exact h.all x hx
  rw [e1]
  rcases hk with rfl | rfl <;> decide +kernel
theorem wrap_run {l node : List Ev} (h : Nodes1 l node) (k : Int) (hk : k = 2 ∨ k = 4) (n : Nat) (hn : n ≤ 90) : runE [] (wrapL k n node) = if k = 2 ∨ even n = true then some [] else none := by
  unfold wrapL
  rw [runE_app, runE_app]
  have e1 : runE [] [ev0 0, ev0 k] = some ([(0, 1)] ++ [(k, 0)]) := by rcases hk with rfl | rfl <;> rfl
  rw [e1]
  show ((runE ([(0, 1)] ++ [(k, 0)]) _).bind _) = _
  rw [run_reps h [(0, 1)] k n 0 (Int.le_refl _) (by omega)]
  show (takeF ([(0, 1)] ++ [(k, 0 + (n : Int))]) (k + 1)).bind _ = _
  rw [Int.zero_add]
  rcases hk with rfl | rfl
  · rw [show (2 : Int) + 1 = 3 from rfl, takeF_3, pop_snoc, if_pos ⟨rfl, rfl⟩, if_pos (.inl rfl)]; rfl
  · rw [show (4 : Int) + 1 = 5 from rfl, takeF_5, pop_snoc]
    by_cases he : even n = true
    · rw [if_pos ⟨rfl, he⟩, if_pos (.inr he)]; rfl
    · rw [if_neg (fun hc => he hc.2), if_neg (fun hc => hc.elim (by decide) he)]; rfl
theorem wrap_right {l node : List Ev} (h : Nodes1 l node) (k : Int) (hk : k = 2 ∨ k = 4) (n : Nat) (hn : n + 1 ≤ 90) (hl : node.length ≤ 4000) : rightG rightE (wrapL k (n + 1) node) = (decide (k = 2 ∨ even ((n + 1 : Nat) : Int) = true) && decide ((depths l).2 < 40)) := by
  have hlen := wrap_len (l := l) (node := node) k (n + 1)
  have : (n + 1) * node.length ≤ 90 * 4000 := Nat.mul_le_mul hn hl
  rw [rightG, rightR_run, wrap_all h k hk, wrap_run h k hk (n + 1) hn, wrap_deep h k hk n (by omega)]
  have e1 : decide ((depths l).2 + 1 ≤ 40) = decide ((depths l).2 < 40) := by simp only [decide_eq_decide]; omega
  rw [e1]
  by_cases hc : k = 2 ∨ even ((n + 1 : Nat) : Int) = true
  · rw [if_pos hc, decide_eq_true hc]; rfl
  · rw [if_neg hc, decide_eq_false hc]; rfl
end Evt
end Go.Proofs.YtgnmjaacnmkgnaaGreatDoor.X
end
section
namespace Go.Proofs.YtgnmjaacnmkgnaaGreatDoor.X
open Go.RowKit Go.Shelf Go.Proofs
set_option linter.unusedVariables false
set_option linter.unusedSimpArgs false
namespace Evt
def wl (k : Int) (node : List Ev) (j : Nat) : List Ev := [ev0 0, ev0 k] ++ (List.replicate j node).flatten
theorem wl_zero {w : World} {B : Nat} {v : Value} {k : Int} {node : List Ev} (O : w.ownsRow B 29 5 v 2 (cells [ev0 0, ev0 k])) : w.ownsRow B 29 5 v (wl k node 0).length (cells (wl k node 0)) := O
theorem wl_succ (k : Int) (node : List Ev) (j : Nat) : wl k node (j + 1) = wl k node j ++ node := by
  unfold wl; rw [List.replicate_succ', List.flatten_append]; simp
theorem wl_len (k : Int) (node : List Ev) {n j : Nat} (h : j ≤ n) (hn : n ≤ 10) (hl : node.length ≤ 4000) : (wl k node j).length ≤ 40002 := by
  have e : (wl k node j).length = 2 + j * node.length := by unfold wl; simp [List.length_flatten]; omega
  have : j * node.length ≤ 10 * 4000 := Nat.mul_le_mul (by omega) hl
  omega
theorem wl_next {w : World} {B : Nat} {v : Value} {k : Int} {node : List Ev} {j : Nat} (O : w.ownsRow B 29 5 v ((wl k node j).length + node.length) (cells (wl k node j) ++ cells node)) : w.ownsRow B 29 5 v (wl k node (j + 1)).length (cells (wl k node (j + 1))) := by
  rw [wl_succ]; exact own_cat O
theorem wl_end {w : World} {B : Nat} {v : Value} {k : Int} {node : List Ev} {j n : Nat} (hj : j = n) (hw : IntKind.i64.wrap (k + 1) = k + 1) (O : w.ownsRow B 29 5 v ((wl k node j).length + 2) (cells (wl k node j) ++ cells [ev0 (IntKind.i64.wrap (k + 1)), ev0 1])) : w.ownsRow B 29 5 v (wrapL k n node).length (cells (wrapL k n node)) := by
  rw [hw] at O; subst hj
  exact own_cat (r := [ev0 (k + 1), ev0 1]) O
end Evt
end Go.Proofs.YtgnmjaacnmkgnaaGreatDoor.X
end
