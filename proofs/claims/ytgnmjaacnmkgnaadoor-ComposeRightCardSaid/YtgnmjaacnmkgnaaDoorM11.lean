/- Words and walks that the row of ComposeRight needs: printed by programs, and plain laws. -/
import Derived.Test.YtgnmjaacnmkgnaaDoorM10
import Derived.Test.YtgnmjaacnmkgnaaDoorM3
import Derived.Test.YtgnmjaacnmkgnaaDoorM6
import Derived.Laws.OwnMore
namespace Go.Proofs.YtgnmjaacnmkgnaaDoorW.PrintWords
end Go.Proofs.YtgnmjaacnmkgnaaDoorW.PrintWords
namespace Go.Proofs.YtgnmjaacnmkgnaaDoorW.PrintLast
end Go.Proofs.YtgnmjaacnmkgnaaDoorW.PrintLast
namespace Go.Proofs.YtgnmjaacnmkgnaaDoorW.PrintMore
end Go.Proofs.YtgnmjaacnmkgnaaDoorW.PrintMore
section
namespace Go.Proofs.YtgnmjaacnmkgnaaDoor.X
open Go.RowKit Go.Shelf Go.Proofs Go.Proofs.YtgnmjaacnmkgnaaDoorW.PrintWords Go.Proofs.YtgnmjaacnmkgnaaDoorW.PrintLast Go.Proofs.YtgnmjaacnmkgnaaDoorW.PrintMore Go.Proofs.Eng
set_option linter.unusedVariables false
set_option linter.unusedSimpArgs false
attribute [local go_sem] max2_int min2_int max_two min_two
set_option maxHeartbeats 4000000 in
set_option maxRecDepth 100000 in
theorem Dc.keys_calls (kv : Value) (x : Dc.Nd) (w : World) (hk : Reads w kv x.kids.length 1 (Dc.ints x.kids)) (hkl1 : x.kids.length ≤ 1000000) : Calls Tryd.prog 76 #[.agg #[.int .i64 x.kind, .string x.tag, .string x.text, kv]] w fun e w' => ∃ o, e = .returned o ∧ w'.ownsRow w.heap.size 3 1 o (Dc.keysL x.kids).length (Dc.ints (Dc.keysL x.kids)) ∧ Below w.heap.size w w' := by
 have hkl := Reads.len_le hk
 refine enter Tryd.func76 rfl fun A d0 s0 v0 => ?_
 have s0 : A.tmps.size = 20 := s0
 have y0 : A.eval (.tmp 0) = .agg #[.int .i64 x.kind, .string x.tag, .string x.text, kv] := v0 0 (by simp)
 clear v0
 have bl0 : Below w.heap.size w w := Below.refl _ _
 refine wp_seq (regionT (n := 2) rfl ?_)
 refine tail_ex rfl rfl rfl (box_ex (cs := #[.int .i64 x.kind, .string x.tag, .string x.text, kv]) rfl y0 (by obtain ⟨A3_, c3_, ev3_⟩ := Reads.shape hk; subst ev3_; rfl)) s0 rfl fun v_1 w1 A R d1 s1 y1 hr => ?_
 obtain ⟨g1_1, ev_1, rg_1, lg1_, kg1_, b_1⟩ := R
 have y0 := k1 hr y0
 have d1 := d1.trans d0
 have bl1 := bl0.trans (b_1.mono bl0.size)
 rw [ev_1] at y1
 refine tail_val rfl rfl rfl (ra (rfl : A.eval (.const (.slice none 0 0)) = .slice none 0 0)) s1 rfl fun A d2 s2 y2 hr => ?_
 have ⟨y0, y1⟩ := k2 hr y0 y1
 have d2 := d2.trans d1
 refine tail_nil (wp_seq (wp_seq ?_))
 refine rS [.int .i64 0] (fun _ => .plain) 1 0 s2 ?_ ?_
 ·refine .c ?_ (.nil)
  ·exact pq fun a w' H => ra (rfl : a.eval (.const (.int .i64 0)) = .int .i64 0)
 intro A w3 T
 have ⟨y0, y1, y2⟩ := T.r3 y0 y1 y2
 have ⟨kg1_1_, lg1_1_⟩ := T.y kg1_ lg1_
 have y3 := T.u 0 3
 have ⟨d3, s3, bl3⟩ := T.h d2 s2 bl1
 clear T
 refine tail_nil (wp_block ?_)
 refine loopN (fun n a w' => ∃ (m : Nat) (o : Value), x.kids.length + 2 - 2 * m = n ∧ (2 * m ≤ x.kids.length + 1) ∧ (w'.ownsRow w.heap.size 3 1 o (Dc.keysI x.kids m).length (Dc.ints (Dc.keysI x.kids m))) ∧ a.defers = [] ∧ a.tmps.size = 20 ∧ Below w.heap.size w w' ∧ a.eval (.tmp 0) = .agg #[.int .i64 x.kind, .string x.tag, .string x.text, kv] ∧ a.eval (.tmp 1) = .pointer (some ⟨g1_1, 0, none⟩) ∧ a.eval (.tmp 2) = o ∧ a.eval (.tmp 3) = .int .i64 ((2 * m : Nat) : Int) ∧ w'.heap[g1_1]? = some (.cells (#[.int .i64 x.kind, .string x.tag, .string x.text, kv]) 57 (0, 0)) ∧ g1_1 < w'.heap.size) (n0 := x.kids.length + 2 - 2 * 0) ?_ ?_
 ·exact ⟨0, .slice none 0 0, rfl, by omega, World.ownsRow_nil _ _ _ _, d3, s3, bl3, y0, y1, (y2.trans (by first | rfl | (congr 1; rw [i64_id (by omega) (by omega)]; omega) | (simp; done))), (y3.trans (by first | rfl | (congr 1; rw [i64_id (by omega) (by omega)]; omega) | (simp; done))), kg1_1_, lg1_1_⟩
 rintro n A w4 ⟨m, o, rfl, hc0_4, hc1_4, d4, s4, bl4, y0, y1, y2, y3, kg1_1_, lg1_1_⟩
 have Fkj_ := Reads.below hk bl4
 have hm1 := hc0_4
 refine wp_seq (wp_seq ?_)
 obtain ⟨q8, Bq8⟩ := nm (decide (((2 * m : Nat) : Int) < ((x.kids.length : Nat) : Int)))
 refine rP [.int .i64 ((2 * m : Nat) : Int), .pointer (some ⟨g1_1, 3, none⟩), kv, .int .i64 ((x.kids.length : Nat) : Int), .bool q8] 5 0 s4 (.c (qq 3 y3) (.c (pq fun a w' H => fb Tryd.underlying57 3 (H.q 1 y1)) (.c (pq fun a w' H => lb (H.d 1 5) (H.x lg1_1_ kg1_1_)) (.c (pv fun a w' H => vr (v := .int .i64 ((x.kids.length : Nat) : Int)) rfl (run_len_sl rfl Tryd.underlying55 (H.d 2 6) (Reads.below Fkj_ H.below))) (.c (pv fun a w' H => vr (bb Bq8) (o2 (H.d 0 4) (H.d 3 7))) .nil))))) fun A w5 T => ?_
 have ⟨y0, y1, y2, y3⟩ := T.r4 y0 y1 y2 y3
 have ⟨kg1_1_, lg1_1_⟩ := T.y kg1_1_ lg1_1_
 have Fkj_ := T.f Fkj_
 have Oout_5 := T.g hc1_4
 have y8 := T.u 4 8
 have ⟨d5, s5, bl5⟩ := T.h d4 s4 bl4
 clear T
 refine tail_nil (wp_cond_split y8 (fun hq => ?_) (fun hq => ?_))
 ·
  have c8 := Bq8.symm.trans hq
  clear hq
  have c8 := of_decide_eq_true c8
  have hm0 : 2 * m < x.kids.length := by omega
  refine wp_skip (wp_seq ?_)
  refine wp_block (regionT (n := 9) rfl ?_)
  refine tail_val rfl rfl rfl (rv y2) s5 rfl fun A d7 s7 y11 hr => ?_
  have ⟨y0, y1, y3⟩ := k3 hr y0 y1 y3
  have d7 := d7.trans d5
  refine tail_val (w1 := w5) (v := .pointer (some ⟨g1_1, 3, none⟩)) rfl rfl rfl ?_ s7 rfl ?_
  ·exact fb Tryd.underlying57 3 y1
  intro A d8 s8 y12 hr
  have ⟨y0, y1, y3, y11⟩ := k4 hr y0 y1 y3 y11
  have d8 := d8.trans d7
  refine tail_val (w1 := w5) (v := kv) rfl rfl rfl ?_ s8 rfl ?_
  ·exact lb y12 (((Below.refl _ _).block _ lg1_1_).trans kg1_1_)
  intro A d9 s9 y13 hr
  have ⟨y0, y1, y3, y11⟩ := k4 hr y0 y1 y3 y11
  have d9 := d9.trans d8
  refine tail_val rfl rfl rfl (rv y3) s9 rfl fun A d10 s10 y14 hr => ?_
  have ⟨y0, y1, y3, y11, y13⟩ := k5 hr y0 y1 y3 y11 y13
  have d10 := d10.trans d9
  refine tail_val (w1 := w5) (v := elemPtr kv ((2 * m) * 1)) rfl rfl rfl ?_ s10 rfl ?_
  ·exact run_index_sl rfl Tryd.underlying55 (by kernel_rfl) y13 (y14.trans (congrArg (Value.int _) (show ((2 * m : Nat) : Int) = (((2 * m) : Nat) : Int) from by first | rfl | omega))) Fkj_ (by first | rfl | omega) rfl
  intro A d11 s11 y15 hr
  have ⟨y0, y1, y3, y11⟩ := k4 hr y0 y1 y3 y11
  have d11 := d11.trans d10
  refine tail_val (w1 := w5) (v := .int .i64 (x.kids.getD (2 * m) 0)) rfl rfl rfl ?_ s11 rfl ?_
  ·exact run_load_el (.int .i64 (x.kids.getD (2 * m) 0)) rfl y15 Fkj_ (Dc.ints_get1 x.kids (2 * m) (by first | rfl | omega)) (by kernel_rfl)
  intro A d12 s12 y16 hr
  have ⟨y0, y1, y3, y11⟩ := k4 hr y0 y1 y3 y11
  have d12 := d12.trans d11
  refine tail_ex rfl rfl rfl (run_buildN1 (z := .int .i64 0) [.int .i64 (x.kids.getD (2 * m) 0)] rfl Tryd.underlying55 (by kernel_rfl) rfl rfl rfl rfl (by intro v hv; have h := List.mem_singleton.1 hv; rw [h]; exact rfl) (by have e0 : A.eval (.tmp 16) = .int .i64 (x.kids.getD (2 * m) 0) := y16; simp [e0])) s12 rfl fun v_13 w13 A R d13 s13 y17 hr => ?_
  obtain ⟨F_13, b_13⟩ := R
  have ⟨y0, y1, y3, y11⟩ := k4 hr y0 y1 y3 y11
  have d13 := d13.trans d12
  have kg1_1_ := (b_13.block _ lg1_1_).trans kg1_1_
  have lg1_1_ := Nat.lt_of_lt_of_le lg1_1_ b_13.size
  have Oout_13 := own_below Oout_5 b_13
  have bl13 := bl5.trans (b_13.mono bl5.size)
  refine tail_ex rfl rfl rfl (run_appendI (z := .int .i64 0) rfl Tryd.underlying55 (by kernel_rfl) rfl rfl y11 Oout_13 y17 F_13 (by intro u hu; simp at hu; subst hu; rfl) (by rw [Dc.keysI_len]; omega) bl13.size) s13 rfl fun v_14 w14 A R d14 s14 y18 hr => ?_
  obtain ⟨O_14, _, b_14, G_14, EO_14⟩ := R
  have ⟨y0, y1, y3⟩ := k3 hr y0 y1 y3
  have d14 := d14.trans d13
  have kg1_1_ := (G_14.block _ lg1_1_ (own_ne Oout_13 kg1_1_ rfl)).trans kg1_1_
  have lg1_1_ := Nat.lt_of_lt_of_le lg1_1_ G_14.size
  have bl14 := bl13.trans b_14
  have Oa14 : w14.ownsRow w.heap.size 3 1 v_14 (Dc.keysI x.kids (m + 1)).length (Dc.ints (Dc.keysI x.kids (m + 1))) := Dc.own_keys O_14
  have Fa14 := Reads.of_own Oa14
  refine tail_val rfl rfl rfl (ra y18) s14 rfl fun A d15 s15 y2 hr => ?_
  have ⟨y0, y1, y3⟩ := k3 hr y0 y1 y3
  have d15 := d15.trans d14
  refine tail_nil (rP [.int .i64 ((2 * m : Nat) : Int), .int .i64 (IntKind.i64.wrap (((2 * m : Nat) : Int) + 2)), .int .i64 (IntKind.i64.wrap (((2 * m : Nat) : Int) + 2))] 3 0 s15 (.c (qq 3 y3) (.c (pv fun a w' H => vr (v := .int .i64 (IntKind.i64.wrap (((2 * m : Nat) : Int) + 2))) rfl (ok (.int .i64 2) (H.d 0 9))) (.c (qe 1 10) .nil))) fun A w16 T => ?_)
  have ⟨y0, y1, y2⟩ := T.r3 y0 y1 y2
  have ⟨kg1_1_, lg1_1_⟩ := T.y kg1_1_ lg1_1_
  have Oa14_16 := T.g Oa14
  have y3 := T.u 2 3
  have ⟨d16, s16, bl16⟩ := T.h d15 s15 bl14
  clear T
  exact tail_nil (⟨_, by omega, m + 1, v_14, rfl, by omega, Oa14_16, d16, s16, bl16, y0, y1, (y2.trans (by first | rfl | (congr 1; rw [i64_id (by omega) (by omega)]; omega) | (simp; done))), (y3.trans (by first | rfl | (congr 1; rw [i64_id (by omega) (by omega)]; omega) | (simp; done))), kg1_1_, lg1_1_⟩)
 have c8 := Bq8.symm.trans hq
 clear hq
 have c8 := of_decide_eq_false c8
 have hme : x.kids.length ≤ 2 * m := by omega
 refine wp_exit (wp_seq ?_)
 refine rP [o, o] 2 0 s5 (.c (qq 2 y2) (.c (qe 0 19) .nil)) fun A w18 T => ?_
 have Oout_18 := T.g Oout_5
 have y2 := T.u 1 2
 have d18 := T.e d5
 have bl18 := T.b bl5
 clear T
 refine tail_nil (wp_ret ?_)
 repeat (first | refine in_ret ?_ | refine then_ret ?_)
 have fin := Oout_18
 rw [Dc.keys_end _ _ hme hm1] at fin
 exact ret1 rfl d18 y2 ⟨_, rfl, fin, bl18⟩
end Go.Proofs.YtgnmjaacnmkgnaaDoor.X
end
section
namespace Go.Proofs.YtgnmjaacnmkgnaaDoor.X
open Go.RowKit Go.Shelf Go.Proofs Go.Proofs.YtgnmjaacnmkgnaaDoorW.PrintWords Go.Proofs.YtgnmjaacnmkgnaaDoorW.PrintLast Go.Proofs.YtgnmjaacnmkgnaaDoorW.PrintMore Go.Proofs.Eng
set_option linter.unusedVariables false
set_option linter.unusedSimpArgs false
attribute [local go_sem] max2_int min2_int max_two min_two
set_option maxHeartbeats 4000000 in
set_option maxRecDepth 100000 in
theorem Dc.has_calls (gv : Value) (n : Nat) (xs : List Value) (i : Int) (w : World) (hl : Reads w gv n 4 xs) : Calls Tryd.prog 73 #[gv, .int .i64 i] w fun e w' => e = .returned (.bool (decide (i ≥ 0) && decide (i < (n : Int)))) ∧ Below w.heap.size w w' := by
 refine enter Tryd.func73 rfl fun A d0 s0 v0 => ?_
 have s0 : A.tmps.size = 13 := s0
 have y0 : A.eval (.tmp 0) = gv := v0 0 (by simp)
 have y1 : A.eval (.tmp 1) = .int .i64 i := v0 1 (by simp)
 clear v0
 have bl0 : Below w.heap.size w w := Below.refl _ _
 refine wp_seq (rS [.bool false] (fun _ => .plain) 1 0 s0 ?_ ?_)
 ·refine .c ?_ (.nil)
  ·exact pq fun a w' H => ra (rfl : a.eval (.const (.bool false)) = .bool false)
 intro A w1 T
 have ⟨y0, y1⟩ := T.r2 y0 y1
 have Fgr_ := T.f hl
 have ⟨d1, s1, bl1⟩ := T.h d0 s0 bl0
 clear T
 refine tail_nil (wp_seq ?_)
 obtain ⟨q6, Bq6⟩ := nm (decide (i ≥ 0))
 obtain ⟨q11, Bq11⟩ := nm (decide (i < (n : Int)))
 obtain ⟨q12, Bq12⟩ := nm (q6 && q11)
 refine rP [.int .i64 i, .bool q6, .bool q6, bif (q6 == true) then (.int .i64 i) else undef, bif (q6 == true) then (gv) else undef, bif (q6 == true) then (.int .i64 (n : Int)) else undef, bif (q6 == true) then (.bool q11) else undef, .bool q12, .bool q12] 9 0 s1 (.c (qq 1 y1) (.c (pv fun a w' H => vr (bb Bq6) (ok (.int .i64 0) (H.d 0 5))) (.c (qd 1 6) (.c (g1 2 7 q6 fun hG a w' H => vr (off' hG rfl) (rv (H.q 1 y1))) (.c (g1 2 7 q6 fun hG a w' H => vr (off' hG rfl) (rv (H.q 0 y0))) (.c (g1 2 7 q6 fun hG a w' H => vr (v := .int .i64 (n : Int)) (off' hG rfl) (run_len_sl rfl Tryd.underlying48 (on (H.d 4 9) hG) (Reads.below Fgr_ H.below))) (.c (g1 2 7 q6 fun hG a w' H => vr (v := .bool (decide (i < (n : Int)))) (off' hG (by rw [Bq11])) (o2 (on (H.d 3 8) hG) (on (H.d 5 10) hG))) (.c (pv fun a w' H => vr (bb Bq12) (run_and rfl rfl (G := true) (H.d 2 7) (fun hb => (on (H.d 6 11) (mk1 hb))))) (.c (qe 7 12) .nil))))))))) fun A w2 T => ?_
 have y4 := T.u 8 4
 have d2 := T.e d1
 have bl2 := T.b bl1
 clear T
 refine tail_nil (wp_ret ?_)
 repeat (first | refine in_ret ?_ | refine then_ret ?_)
 exact ret1 rfl d2 (y4.trans (by rw [Bq12, Bq11, Bq6])) ⟨rfl, bl2⟩
end Go.Proofs.YtgnmjaacnmkgnaaDoor.X
end
section
namespace Go.Proofs.YtgnmjaacnmkgnaaDoor.X
open Go.RowKit Go.Shelf Go.Proofs Go.Maps
set_option linter.unusedVariables false
set_option linter.unusedSimpArgs false
namespace Dc
def OwnT (t : ByteArray) : Prop := Impl.right t.data.toList = true ∧ ¬ t.data.toList ∈ Impl.cores
theorem ba_of (s : ByteArray) : Impl.ba s.data.toList = s := by cases s; simp [Impl.ba]
theorem core_eq (t : ByteArray) : T.tag_Core.f t = some (decide (t.data.toList ∈ Impl.cores)) := by
  have := Impl.core1 t.data.toList
  rwa [ba_of] at this
theorem fits_eq {t x : ByteArray} (hx : x.size ≤ 2000) : T.tag_Fits.f 300001 t x = some (Impl.fits t.data.toList x.data.toList) := by
  have := Impl.fits1 t.data.toList x.data.toList 300001 (by simpa using hx) (by omega)
  rwa [ba_of, ba_of] at this
theorem own_r {t : ByteArray} (h : OwnT t) : T.tag_Right.f t = some true := by rw [Evt.tagR_eq]; unfold Evt.tagR; rw [h.1]
theorem own_c {t : ByteArray} (h : OwnT t) : T.tag_Core.f t = some false := by rw [core_eq]; simp [h.2]
theorem seq_r : T.tag_Right.f ⟨#[115, 101, 113]⟩ = some true := by rw [Evt.tagR_eq]; rfl
theorem seq_c : T.tag_Core.f ⟨#[115, 101, 113]⟩ = some true := by rw [core_eq]; rfl
theorem map_r : T.tag_Right.f ⟨#[109, 97, 112]⟩ = some true := by rw [Evt.tagR_eq]; rfl
theorem map_c : T.tag_Core.f ⟨#[109, 97, 112]⟩ = some true := by rw [core_eq]; rfl
theorem valid_true (s : ByteArray) (w : World) (hsz : s.size ≤ 9223372036854775807) (hv : Lib.validD s.data.toList = true) (hT : Tabs.Holds w) : Calls Tryd.prog 64 #[.string s] w fun e w' => e = .returned (.bool true) ∧ Below w.heap.size w w' := by
  have h := Tabs.valid s w hsz hT
  rw [hv] at h; exact h
theorem fits_true (t x : ByteArray) (w : World) (hx : x.size ≤ 2000) (hf : Impl.fits t.data.toList x.data.toList = true) : Calls Tryd.prog 25 #[.string t, .string x] w fun e w' => e = .returned (.bool true) ∧ Below w.heap.size w w' := T.tag_Fits.calls 300001 t x true w (by rw [fits_eq hx, hf])
theorem core_calls (t : ByteArray) (b : Bool) (w : World) (h : T.tag_Core.f t = some b) : Calls Tryd.prog 46 #[.string t] w fun e w' => e = .returned (.bool b) ∧ Below w.heap.size w w' := (T.tag_Core.calls t b w h).mono fun e w' h => ⟨h.1, h.2.below⟩
theorem em_nil : (⟨#[]⟩ : ByteArray).toList.isEmpty = true := by rw [ByteArray.toList_eq]; rfl
structure NodeOk (nd : List Nd) (x : Nd) : Prop where
  kin : ∀ k ∈ x.kids, 0 ≤ k ∧ k.toNat < nd.length
  sm : x.kids.length ≤ 1000000
  kd : (x.kind = 0 ∧ x.kids = [] ∧ Lib.validD x.text.data.toList = true ∧ Impl.fits x.tag.data.toList x.text.data.toList = true ∧ x.text.size ≤ 2000) ∨
    (x.kind = 1 ∧ (x.tag = ⟨#[115, 101, 113]⟩ ∨ OwnT x.tag) ∧ x.text = ⟨#[]⟩) ∨
    (x.kind = 2 ∧ (x.tag = ⟨#[109, 97, 112]⟩ ∨ OwnT x.tag) ∧ x.text = ⟨#[]⟩ ∧ Int.tmod (x.kids.length : Int) 2 = 0 ∧ ∀ k ∈ keysL x.kids, (nd.getD k.toNat default).kind = 0)
theorem keysL_sub : ∀ (l : List Int), ∀ k ∈ keysL l, k ∈ l
  | [], k, h => h
  | [a], k, h => by simpa [keysL] using h
  | a :: b :: t, k, h => by
    simp only [keysL, List.mem_cons] at h
    rcases h with rfl | h
    · exact List.mem_cons_self ..
    · exact List.mem_cons_of_mem _ (List.mem_cons_of_mem _ (keysL_sub t k h))
theorem getD_mem {l : List Int} {k : Nat} (h : k < l.length) : l.getD k 0 ∈ l := by
  rw [List.getD_eq_getElem?_getD, List.getElem?_eq_getElem h]; exact List.getElem_mem h
theorem nd_mem {h : List NV} {k : Nat} (hk : k < h.length) : (h.getD k default).1 ∈ h.map (·.1) := by
  refine List.mem_map.2 ⟨h.getD k default, ?_, rfl⟩
  rw [List.getD_eq_getElem?_getD, List.getElem?_eq_getElem hk]; exact List.getElem_mem hk
end Dc
end Go.Proofs.YtgnmjaacnmkgnaaDoor.X
end
section
namespace Go.Proofs.YtgnmjaacnmkgnaaDoor.X
open Go.RowKit Go.Shelf Go.Proofs Go.Proofs.YtgnmjaacnmkgnaaDoorW.PrintWords Go.Proofs.YtgnmjaacnmkgnaaDoorW.PrintLast Go.Proofs.YtgnmjaacnmkgnaaDoorW.PrintMore Go.Proofs.Eng
set_option linter.unusedVariables false
set_option linter.unusedSimpArgs false
attribute [local go_sem] max2_int min2_int max_two min_two
set_option maxHeartbeats 4000000 in
set_option maxRecDepth 100000 in
theorem Dc.far_calls (g : Nat) (gv : Value) (h : List Dc.NV) (i : Int) (w : World) (hk : w.heap[g]? = some (.cells #[gv] 48 (0, 0))) (hF : Reads w gv h.length 4 (Dc.cells h)) (hi0 : 0 ≤ i) (hi1 : i.toNat < h.length) : Calls Tryd.prog 72 #[.int .i64 i, .pointer (some ⟨g, 0, none⟩)] w fun e w' => e = .returned (.bool false) ∧ Below w.heap.size w w' := by
 refine enter Tryd.func72 rfl fun A d0 s0 v0 => ?_
 have s0 : A.tmps.size = 8 := s0
 have y0 : A.eval (.tmp 0) = .int .i64 i := v0 0 (by simp)
 have y1 : A.eval (.tmp 1) = .pointer (some ⟨g, 0, none⟩) := v0 1 (by simp)
 clear v0
 have bl0 : Below w.heap.size w w := Below.refl _ _
 refine wp_seq (rS [.bool false] (fun _ => .plain) 1 0 s0 ?_ ?_)
 ·refine .c ?_ (.nil)
  ·exact pq fun a w' H => ra (rfl : a.eval (.const (.bool false)) = .bool false)
 intro A w1 T
 have ⟨y0, y1⟩ := T.r2 y0 y1
 have kg_ := (T.below.block _ (Array.getElem?_eq_some_iff.1 hk).1).trans hk
 have lg_ := Nat.lt_of_lt_of_le (Array.getElem?_eq_some_iff.1 hk).1 T.below.size
 have Fgr_ := T.f hF
 have ⟨d1, s1, bl1⟩ := T.h d0 s0 bl0
 clear T
 refine tail_nil (wp_seq ?_)
 obtain ⟨q6, Bq6⟩ := nm (decide (i ≥ 0) && decide (i < (h.length : Int)))
 obtain ⟨q7, Bq7⟩ := nm (!q6)
 refine rS [gv, .int .i64 i, .bool q6, .bool q7, .bool q7] (fun _ => .plain) 5 0 s1 ?_ ?_
 ·refine .c ?_ (.c ?_ (.c ?_ (.c ?_ (.c ?_ (.nil)))))
  ·exact pq fun a w' H => lb (H.q 1 y1) (H.x lg_ kg_)
  ·exact qq 0 y0
  ·refine pv fun a w' H => call Tryd.func73 (by kernel_rfl) (by kernel_rfl) rfl #[gv, .int .i64 i] ?_ ?_
   ·have e0 : a.eval (.tmp 4) = gv := (H.d 0 4); have e1 : a.eval (.tmp 5) = .int .i64 i := (H.d 1 5); simp only [List.map_toArray, List.map_cons, List.map_nil, e0, e1]
   refine (Dc.has_calls gv h.length _ i _ (Reads.below Fgr_ H.below)).mono ?_
   rintro e w'' ⟨rfl, hb⟩
   exact ⟨_, rfl, (by show _ = Value.bool q6; rw [Bq6]), hb⟩
  ·exact pv fun a w' H => vr (bb Bq7) (run_not rfl (H.d 2 6))
  exact qe 3 7
 intro A w2 T
 have y3 := T.u 4 3
 have d2 := T.e d1
 have bl2 := T.b bl1
 clear T
 refine tail_nil (wp_ret ?_)
 repeat (first | with_reducible refine in_ret ?_ | with_reducible refine then_ret ?_)
 exact ret1 rfl d2 (y3.trans (by rw [Bq7, Bq6]; simp [hi0]; omega)) ⟨rfl, bl2⟩
set_option maxHeartbeats 4000000 in
set_option maxRecDepth 100000 in
theorem Dc.strange_calls (g : Nat) (gv : Value) (h : List Dc.NV) (i : Int) (w : World) (hk : w.heap[g]? = some (.cells #[gv] 48 (0, 0))) (hF : Reads w gv h.length 4 (Dc.cells h)) (hi0 : 0 ≤ i) (hi1 : i.toNat < h.length) (hkd : (h.getD i.toNat default).1.kind = 0) : Calls Tryd.prog 75 #[.int .i64 i, .pointer (some ⟨g, 0, none⟩)] w fun e w' => e = .returned (.bool false) ∧ Below w.heap.size w w' := by
 have hm := Reads.len_le hF
 refine enter Tryd.func75 rfl fun A d0 s0 v0 => ?_
 have s0 : A.tmps.size = 10 := s0
 have y0 : A.eval (.tmp 0) = .int .i64 i := v0 0 (by simp)
 have y1 : A.eval (.tmp 1) = .pointer (some ⟨g, 0, none⟩) := v0 1 (by simp)
 clear v0
 have bl0 : Below w.heap.size w w := Below.refl _ _
 refine wp_seq (rS [.bool false] (fun _ => .plain) 1 0 s0 ?_ ?_)
 ·refine .c ?_ (.nil)
  ·exact pq fun a w' H => ra (rfl : a.eval (.const (.bool false)) = .bool false)
 intro A w1 T
 have ⟨y0, y1⟩ := T.r2 y0 y1
 have kg_ := (T.below.block _ (Array.getElem?_eq_some_iff.1 hk).1).trans hk
 have lg_ := Nat.lt_of_lt_of_le (Array.getElem?_eq_some_iff.1 hk).1 T.below.size
 have Fgr_ := T.f hF
 have ⟨d1, s1, bl1⟩ := T.h d0 s0 bl0
 clear T
 refine tail_nil (wp_seq ?_)
 obtain ⟨q9, Bq9⟩ := nm (!(((h.getD i.toNat default).1.kind) == 0))
 refine rP [gv, .int .i64 i, elemPtr gv (i.toNat * 4), elemPtr gv (i.toNat * 4 + 0), .int .i64 ((h.getD i.toNat default).1.kind), .bool q9, .bool q9] 7 0 s1 (.c (pq fun a w' H => lb (H.q 1 y1) (H.x lg_ kg_)) (.c (qq 0 y0) (.c (pv fun a w' H => vr (v := elemPtr gv (i.toNat * 4)) rfl (run_index_sl rfl Tryd.underlying48 (by kernel_rfl) (H.d 0 4) ((H.d 1 5).trans (congrArg (Value.int _) (show i = ((i.toNat : Nat) : Int) from by omega))) (Reads.below Fgr_ H.below) (by omega) rfl)) (.c (pv fun a w' H => vr (v := elemPtr gv (i.toNat * 4 + 0)) rfl (run_field_el rfl Tryd.underlying57 0 (by kernel_rfl) (H.d 2 6) (Reads.below Fgr_ H.below) (by have h_ : i.toNat < h.length := (by omega); omega))) (.c (pv fun a w' H => vr (v := .int .i64 ((h.getD i.toNat default).1.kind)) rfl (run_load_el (.int .i64 ((h.getD i.toNat default).1.kind)) rfl (H.d 3 7) (Reads.below Fgr_ H.below) (Dc.cell_kind h i.toNat (by omega)) (by kernel_rfl))) (.c (pv fun a w' H => vr (bb Bq9) (okz (.int .i64 0) (H.d 4 8))) (.c (qe 5 9) .nil))))))) fun A w2 T => ?_
 have y3 := T.u 6 3
 have d2 := T.e d1
 have bl2 := T.b bl1
 clear T
 refine tail_nil (wp_ret ?_)
 repeat (first | with_reducible refine in_ret ?_ | with_reducible refine then_ret ?_)
 exact ret1 rfl d2 (y3.trans (by rw [Bq9, hkd]; rfl)) ⟨rfl, bl2⟩
end Go.Proofs.YtgnmjaacnmkgnaaDoor.X
end
section
namespace Go.Proofs.YtgnmjaacnmkgnaaDoor.X
open Go.RowKit Go.Shelf Go.Proofs Go.Proofs.YtgnmjaacnmkgnaaDoorW.PrintWords Go.Proofs.YtgnmjaacnmkgnaaDoorW.PrintLast Go.Proofs.YtgnmjaacnmkgnaaDoorW.PrintMore Go.Proofs.Eng
set_option linter.unusedVariables false
set_option linter.unusedSimpArgs false
attribute [local go_sem] max2_int min2_int max_two min_two
set_option maxHeartbeats 4000000 in
set_option maxRecDepth 100000 in
theorem Dc.meet_old (gm go gg gf : Nat) (mv ov gv : Value) (h : List Dc.NV) (s : Dc.Ms) (i : Int) (w W0 : World)  (hX : Dc.Four w gm go gg gf) (hM : Dc.Mt w W0 gm go gg gf mv ov gv s) (hs : s.1.length = h.length) (hi0 : 0 ≤ i) (hi : i.toNat < h.length) (hc : Dc.cntM s i > 1) : Calls Tryd.prog 78 #[.int .i64 i, .pointer (some ⟨gm, 0, none⟩), .pointer (some ⟨go, 0, none⟩), .pointer (some ⟨gg, 0, none⟩), .pointer (some ⟨gf, 0, none⟩)] W0 fun e w' => ∃ v ov', e = .returned v ∧ Dc.Mt w w' gm go gg gf mv ov' gv (Dc.markM s i) := by
 have hm := Reads.len_le (Reads.of_own hM.rm)
 refine enter Tryd.func78 rfl fun A d0 s0 v0 => ?_
 have s0 : A.tmps.size = 37 := s0
 have y0 : A.eval (.tmp 0) = .int .i64 i := v0 0 (by simp)
 have y1 : A.eval (.tmp 1) = .pointer (some ⟨gm, 0, none⟩) := v0 1 (by simp)
 clear v0
 refine wp_seq (wp_seq ?_)
 refine (wpIn_wide (n := 1)).1 (EngI.regionT (n := 7) rfl ?_)
 refine EngI.tw (w1 := W0) (v := mv) rfl ?_ s0 d0 ?_
 ·exact lb y1 (((Below.refl _ _).block _ (Array.getElem?_eq_some_iff.1 hM.m).1).trans hM.m)
 intro A d1 s1 y8 hr
 have ⟨y0, y1⟩ := k2 hr y0 y1
 refine EngI.tw rfl (rv y0) s1 d1 fun A d2 s2 y9 hr => ?_
 have ⟨y0, y1, y8⟩ := k3 hr y0 y1 y8
 refine EngI.tw (w1 := W0) (v := elemPtr mv (i.toNat * 1)) rfl ?_ s2 d2 ?_
 ·exact run_index_sl rfl Tryd.underlying55 (by kernel_rfl) y8 (y9.trans (congrArg (Value.int _) (show i = ((i.toNat : Nat) : Int) from by omega))) (Reads.of_own hM.rm) (by omega) rfl
 intro A d3 s3 y10 hr
 have ⟨y0, y1, y8, y9⟩ := k4 hr y0 y1 y8 y9
 refine EngI.tw (w1 := W0) (v := .int .i64 (s.1.getD i.toNat 0)) rfl ?_ s3 d3 ?_
 ·exact run_load_el (.int .i64 (s.1.getD i.toNat 0)) rfl y10 (Reads.of_own hM.rm) (Dc.ints_get1 s.1 i.toNat (by omega)) (by kernel_rfl)
 intro A d4 s4 y11 hr
 have ⟨y0, y1, y8, y9⟩ := k4 hr y0 y1 y8 y9
 refine EngI.tw rfl (Dc.run_cnt rfl y11 Tryd.underlying3) s4 d4 fun A d5 s5 y12 hr => ?_
 have ⟨y0, y1, y8, y9⟩ := k4 hr y0 y1 y8 y9
 refine EngI.tw (w1 := W0) (v := elemPtr mv (i.toNat * 1)) rfl ?_ s5 d5 ?_
 ·exact run_index_sl rfl Tryd.underlying55 (by kernel_rfl) y8 (y9.trans (congrArg (Value.int _) (show i = ((i.toNat : Nat) : Int) from by omega))) (Reads.of_own hM.rm) (by omega) rfl
 intro A d6 s6 y13 hr
 have ⟨y0, y1, y12⟩ := k3 hr y0 y1 y12
 refine EngG.tail_exs EngI.free_wide rfl rfl rfl rfl (run_store_own (j := i.toNat * 1) (u := .int .i64 (Dc.cntM s i)) rfl y13 y12 hM.rm (by have h_ : i.toNat < s.1.length := (by omega); omega) (by kernel_rfl) (by rfl)) fun w7 R => ?_
 obtain ⟨O_7, G_7⟩ := R
 have kgm_7 := (G_7.block _ (Array.getElem?_eq_some_iff.1 hM.m).1 (own_ne hM.rm hM.m rfl)).trans hM.m
 have lgm_7 := Nat.lt_of_lt_of_le (Array.getElem?_eq_some_iff.1 hM.m).1 G_7.size
 have kgo_7 := (G_7.block _ (Array.getElem?_eq_some_iff.1 hM.o).1 (own_ne hM.rm hM.o rfl)).trans hM.o
 have lgo_7 := Nat.lt_of_lt_of_le (Array.getElem?_eq_some_iff.1 hM.o).1 G_7.size
 have kgg_7 := (G_7.block _ (Array.getElem?_eq_some_iff.1 hM.g).1 (own_ne hM.rm hM.g rfl)).trans hM.g
 have lgg_7 := Nat.lt_of_lt_of_le (Array.getElem?_eq_some_iff.1 hM.g).1 G_7.size
 have kgf_7 := (G_7.block _ (Array.getElem?_eq_some_iff.1 hM.f).1 (own_ne hM.rm hM.f rfl)).trans hM.f
 have lgf_7 := Nat.lt_of_lt_of_le (Array.getElem?_eq_some_iff.1 hM.f).1 G_7.size
 have bl7 := hM.b.grown G_7 hM.b.size (fun j hj => (ownB hM.rm hj.symm).1)
 have Oout_7 := Dc.kept_ap hM.ro G_7 hM.ap.symm
 have Om_7 := Dc.own_mark O_7
 have Fm_7 := Reads.of_own Om_7
 refine EngI.tail_nil (wp_seq ?_)
 obtain ⟨q18, Bq18⟩ := nm (decide ((Dc.cntM s i) > 1))
 refine rP [mv, .int .i64 i, elemPtr mv (i.toNat * 1), .int .i64 (Dc.cntM s i), .bool q18] 5 0 s6 (.c (pq fun a w' H => lb (H.q 1 y1) (H.x lgm_7 kgm_7)) (.c (qq 0 y0) (.c (pv fun a w' H => vr (v := elemPtr mv (i.toNat * 1)) rfl (run_index_sl rfl Tryd.underlying55 (by kernel_rfl) (H.d 0 14) ((H.d 1 15).trans (congrArg (Value.int _) (show i = ((i.toNat : Nat) : Int) from by first | omega | (rw [Dc.mark_len]; omega)))) (Reads.below Fm_7 H.below) (by first | omega | (rw [Dc.mark_len]; omega)) rfl)) (.c (pv fun a w' H => vr (v := .int .i64 (Dc.cntM s i)) rfl (run_load_el (.int .i64 (Dc.cntM s i)) rfl (H.d 2 16) (Reads.below Fm_7 H.below) ((by have h_ := Dc.ints_get1 (Dc.markM s i).1 i.toNat (by rw [Dc.mark_len]; omega); rw [Dc.mark_at (by omega)] at h_; exact h_)) (by kernel_rfl))) (.c (pv fun a w' H => vr (bb Bq18) (ok (.int .i64 1) (H.d 3 17))) .nil))))) fun A w8 T => ?_
 have kgm_8 := T.x lgm_7 kgm_7
 have kgo_8 := T.x lgo_7 kgo_7
 have kgg_8 := T.x lgg_7 kgg_7
 have kgf_8 := T.x lgf_7 kgf_7
 have Omet_8 := T.g Om_7
 have Oout_8 := T.g Oout_7
 have y18 := T.u 4 18
 have d8 := T.e d6
 have bl8 := T.b bl7
 clear T
 refine tail_nil ?_
 have n18 : q18 = true := by
  try simp only [Bq18]
  simpa using hc
 refine wp_cond_true (y18.trans (by rw [n18])) (wp_ret ?_)
 repeat (first | with_reducible refine in_ret ?_ | with_reducible refine then_ret ?_)
 exact ret0' (fn := Tryd.f78) rfl d8 (fun v => ⟨v, ov, rfl, ⟨bl8, kgm_8, kgo_8, kgg_8, kgf_8, Omet_8, Oout_8, hM.ap⟩⟩)
set_option maxHeartbeats 4000000 in
set_option maxRecDepth 100000 in
theorem Dc.meet_new (gm go gg gf dp : Nat) (mv ov gv kv : Value) (h : List Dc.NV) (nd : List Dc.Nd) (nk : Dc.Nd) (s sb : Dc.Ms) (i : Int) (w W0 : World)  (hX : Dc.Four w gm go gg gf) (hM : Dc.Mt w W0 gm go gg gf mv ov gv s) (hs : s.1.length = h.length) (hi0 : 0 ≤ i) (hi : i.toNat < h.length) (hc : ¬ Dc.cntM s i > 1) (hF : Reads w gv h.length 4 (Dc.cells h)) (hq : (Dc.cells h)[i.toNat * 4 + 3]? = some kv) (hkv : Reads w kv nk.kids.length 1 (Dc.ints nk.kids)) (hrk : Dc.Rn nd dp (Dc.outM s i) nk.kids sb) (hin : ∀ k ∈ nk.kids, 0 ≤ k ∧ k.toNat < h.length) (hob : sb.2.length ≤ 1000000) (ih : ∀ (ov : Value) (W0 : World) (s s' : Dc.Ms) (i : Int), Dc.Mt w W0 gm go gg gf mv ov gv s → s.1.length = h.length → (0 ≤ i ∧ i.toNat < h.length) → Dc.Rn nd dp s [i] s' → s'.2.length ≤ 1000000 → Calls Tryd.prog 78 #[.int .i64 i, .pointer (some ⟨gm, 0, none⟩), .pointer (some ⟨go, 0, none⟩), .pointer (some ⟨gg, 0, none⟩), .pointer (some ⟨gf, 0, none⟩)] W0 fun e w' => ∃ v ov', e = .returned v ∧ Dc.Mt w w' gm go gg gf mv ov' gv s') : Calls Tryd.prog 78 #[.int .i64 i, .pointer (some ⟨gm, 0, none⟩), .pointer (some ⟨go, 0, none⟩), .pointer (some ⟨gg, 0, none⟩), .pointer (some ⟨gf, 0, none⟩)] W0 fun e w' => ∃ v ov', e = .returned v ∧ Dc.Mt w w' gm go gg gf mv ov' gv sb := by
 have hm := Reads.len_le (Reads.of_own hM.rm)
 have hkl := Reads.len_le hkv
 have hm4 := Reads.len_le hF
 have hol := hrk.room hob
 refine enter Tryd.func78 rfl fun A d0 s0 v0 => ?_
 have s0 : A.tmps.size = 37 := s0
 have y0 : A.eval (.tmp 0) = .int .i64 i := v0 0 (by simp)
 have y1 : A.eval (.tmp 1) = .pointer (some ⟨gm, 0, none⟩) := v0 1 (by simp)
 have y2 : A.eval (.tmp 2) = .pointer (some ⟨go, 0, none⟩) := v0 2 (by simp)
 have y3 : A.eval (.tmp 3) = .pointer (some ⟨gg, 0, none⟩) := v0 3 (by simp)
 have y4 : A.eval (.tmp 4) = .pointer (some ⟨gf, 0, none⟩) := v0 4 (by simp)
 clear v0
 refine wp_seq (wp_seq ?_)
 refine (wpIn_wide (n := 1)).1 (EngI.regionT (n := 7) rfl ?_)
 refine EngI.tw (w1 := W0) (v := mv) rfl ?_ s0 d0 ?_
 ·exact lb y1 (((Below.refl _ _).block _ (Array.getElem?_eq_some_iff.1 hM.m).1).trans hM.m)
 intro A d1 s1 y8 hr
 have ⟨y0, y1, y2, y3, y4⟩ := k5 hr y0 y1 y2 y3 y4
 refine EngI.tw rfl (rv y0) s1 d1 fun A d2 s2 y9 hr => ?_
 have ⟨y0, y1, y2, y3, y4, y8⟩ := k6 hr y0 y1 y2 y3 y4 y8
 refine EngI.tw (w1 := W0) (v := elemPtr mv (i.toNat * 1)) rfl ?_ s2 d2 ?_
 ·exact run_index_sl rfl Tryd.underlying55 (by kernel_rfl) y8 (y9.trans (congrArg (Value.int _) (show i = ((i.toNat : Nat) : Int) from by omega))) (Reads.of_own hM.rm) (by omega) rfl
 intro A d3 s3 y10 hr
 have ⟨y0, y1, y2, y3, y4, y8, y9⟩ := k7 hr y0 y1 y2 y3 y4 y8 y9
 refine EngI.tw (w1 := W0) (v := .int .i64 (s.1.getD i.toNat 0)) rfl ?_ s3 d3 ?_
 ·exact run_load_el (.int .i64 (s.1.getD i.toNat 0)) rfl y10 (Reads.of_own hM.rm) (Dc.ints_get1 s.1 i.toNat (by omega)) (by kernel_rfl)
 intro A d4 s4 y11 hr
 have ⟨y0, y1, y2, y3, y4, y8, y9⟩ := k7 hr y0 y1 y2 y3 y4 y8 y9
 refine EngI.tw rfl (Dc.run_cnt rfl y11 Tryd.underlying3) s4 d4 fun A d5 s5 y12 hr => ?_
 have ⟨y0, y1, y2, y3, y4, y8, y9⟩ := k7 hr y0 y1 y2 y3 y4 y8 y9
 refine EngI.tw (w1 := W0) (v := elemPtr mv (i.toNat * 1)) rfl ?_ s5 d5 ?_
 ·exact run_index_sl rfl Tryd.underlying55 (by kernel_rfl) y8 (y9.trans (congrArg (Value.int _) (show i = ((i.toNat : Nat) : Int) from by omega))) (Reads.of_own hM.rm) (by omega) rfl
 intro A d6 s6 y13 hr
 have ⟨y0, y1, y2, y3, y4, y12⟩ := k6 hr y0 y1 y2 y3 y4 y12
 refine EngG.tail_exs EngI.free_wide rfl rfl rfl rfl (run_store_own (j := i.toNat * 1) (u := .int .i64 (Dc.cntM s i)) rfl y13 y12 hM.rm (by have h_ : i.toNat < s.1.length := (by omega); omega) (by kernel_rfl) (by rfl)) fun w7 R => ?_
 obtain ⟨O_7, G_7⟩ := R
 have kgm_7 := (G_7.block _ (Array.getElem?_eq_some_iff.1 hM.m).1 (own_ne hM.rm hM.m rfl)).trans hM.m
 have lgm_7 := Nat.lt_of_lt_of_le (Array.getElem?_eq_some_iff.1 hM.m).1 G_7.size
 have kgo_7 := (G_7.block _ (Array.getElem?_eq_some_iff.1 hM.o).1 (own_ne hM.rm hM.o rfl)).trans hM.o
 have lgo_7 := Nat.lt_of_lt_of_le (Array.getElem?_eq_some_iff.1 hM.o).1 G_7.size
 have kgg_7 := (G_7.block _ (Array.getElem?_eq_some_iff.1 hM.g).1 (own_ne hM.rm hM.g rfl)).trans hM.g
 have lgg_7 := Nat.lt_of_lt_of_le (Array.getElem?_eq_some_iff.1 hM.g).1 G_7.size
 have kgf_7 := (G_7.block _ (Array.getElem?_eq_some_iff.1 hM.f).1 (own_ne hM.rm hM.f rfl)).trans hM.f
 have lgf_7 := Nat.lt_of_lt_of_le (Array.getElem?_eq_some_iff.1 hM.f).1 G_7.size
 have bl7 := hM.b.grown G_7 hM.b.size (fun j hj => (ownB hM.rm hj.symm).1)
 have Oout_7 := Dc.kept_ap hM.ro G_7 hM.ap.symm
 have Om_7 := Dc.own_mark O_7
 have Fm_7 := Reads.of_own Om_7
 refine EngI.tail_nil (wp_seq ?_)
 obtain ⟨q18, Bq18⟩ := nm (decide ((Dc.cntM s i) > 1))
 refine rP [mv, .int .i64 i, elemPtr mv (i.toNat * 1), .int .i64 (Dc.cntM s i), .bool q18] 5 0 s6 (.c (pq fun a w' H => lb (H.q 1 y1) (H.x lgm_7 kgm_7)) (.c (qq 0 y0) (.c (pv fun a w' H => vr (v := elemPtr mv (i.toNat * 1)) rfl (run_index_sl rfl Tryd.underlying55 (by kernel_rfl) (H.d 0 14) ((H.d 1 15).trans (congrArg (Value.int _) (show i = ((i.toNat : Nat) : Int) from by first | omega | (rw [Dc.mark_len]; omega)))) (Reads.below Fm_7 H.below) (by first | omega | (rw [Dc.mark_len]; omega)) rfl)) (.c (pv fun a w' H => vr (v := .int .i64 (Dc.cntM s i)) rfl (run_load_el (.int .i64 (Dc.cntM s i)) rfl (H.d 2 16) (Reads.below Fm_7 H.below) ((by have h_ := Dc.ints_get1 (Dc.markM s i).1 i.toNat (by rw [Dc.mark_len]; omega); rw [Dc.mark_at (by omega)] at h_; exact h_)) (by kernel_rfl))) (.c (pv fun a w' H => vr (bb Bq18) (ok (.int .i64 1) (H.d 3 17))) .nil))))) fun A w8 T => ?_
 have ⟨y0, y1, y2, y3, y4⟩ := T.r5 y0 y1 y2 y3 y4
 have ⟨kgm_8, lgm_8⟩ := T.y kgm_7 lgm_7
 have ⟨kgo_8, lgo_8⟩ := T.y kgo_7 lgo_7
 have ⟨kgg_8, lgg_8⟩ := T.y kgg_7 lgg_7
 have ⟨kgf_8, lgf_8⟩ := T.y kgf_7 lgf_7
 have Omet_8 := T.g Om_7
 have Oout_8 := T.g Oout_7
 have y18 := T.u 4 18
 have ⟨d8, s8, bl8⟩ := T.h d6 s6 bl7
 clear T
 refine tail_nil ?_
 have n18 : q18 = false := by
  try simp only [Bq18]
  simpa using hc
 refine wp_cond_false (y18.trans (by rw [n18])) (wp_skip ?_)
 refine wp_seq ((wpIn_wide (n := 1)).1 ?_)
 refine EngI.regionT (n := 5) rfl (EngI.tw (w1 := w8) (v := ov) rfl ?_ s8 d8 ?_)
 ·exact lb y2 (((Below.refl _ _).block _ lgo_8).trans kgo_8)
 intro A d9 s9 y19 hr
 have ⟨y0, y1, y2, y3, y4, y18⟩ := k6 hr y0 y1 y2 y3 y4 y18
 refine EngI.tw rfl (rv y0) s9 d9 fun A d10 s10 y20 hr => ?_
 have ⟨y0, y1, y2, y3, y4, y18, y19⟩ := k7 hr y0 y1 y2 y3 y4 y18 y19
 refine EngI.tail_ex EngI.free_wide rfl rfl rfl rfl (run_buildN1 (z := .int .i64 0) [.int .i64 i] rfl Tryd.underlying55 (by kernel_rfl) rfl rfl rfl rfl (by intro v hv; have h := List.mem_singleton.1 hv; rw [h]; exact rfl) (by have e0 : A.eval (.tmp 20) = .int .i64 i := y20; simp [e0])) s10 rfl fun v_11 w11 A R d11 s11 y21 hr => ?_
 obtain ⟨F_11, b_11⟩ := R
 have ⟨y0, y1, y2, y3, y4, y18, y19⟩ := k7 hr y0 y1 y2 y3 y4 y18 y19
 have d11 := d11.trans d10
 have kgm_11 := (b_11.block _ lgm_8).trans kgm_8
 have lgm_11 := Nat.lt_of_lt_of_le lgm_8 b_11.size
 have kgo_11 := (b_11.block _ lgo_8).trans kgo_8
 have lgo_11 := Nat.lt_of_lt_of_le lgo_8 b_11.size
 have kgg_11 := (b_11.block _ lgg_8).trans kgg_8
 have lgg_11 := Nat.lt_of_lt_of_le lgg_8 b_11.size
 have kgf_11 := (b_11.block _ lgf_8).trans kgf_8
 have lgf_11 := Nat.lt_of_lt_of_le lgf_8 b_11.size
 have Omet_11 := own_below Omet_8 b_11
 have Oout_11 := own_below Oout_8 b_11
 have bl11 := bl8.trans (b_11.mono bl8.size)
 refine EngI.tail_ex EngI.free_wide rfl rfl rfl rfl (run_appendI (z := .int .i64 0) rfl Tryd.underlying55 (by kernel_rfl) rfl rfl y19 Oout_11 y21 F_11 (by intro u hu; simp at hu; subst hu; rfl) (by omega) bl11.size) s11 rfl fun v_12 w12 A R d12 s12 y22 hr => ?_
 obtain ⟨O_12, _, b_12, G_12, EO_12⟩ := R
 have ⟨y0, y1, y2, y3, y4, y18⟩ := k6 hr y0 y1 y2 y3 y4 y18
 have d12 := d12.trans d11
 have kgm_12 := (G_12.block _ lgm_11 (own_ne Oout_11 kgm_11 rfl)).trans kgm_11
 have lgm_12 := Nat.lt_of_lt_of_le lgm_11 G_12.size
 have kgo_12 := (G_12.block _ lgo_11 (own_ne Oout_11 kgo_11 rfl)).trans kgo_11
 have lgo_12 := Nat.lt_of_lt_of_le lgo_11 G_12.size
 have kgg_12 := (G_12.block _ lgg_11 (own_ne Oout_11 kgg_11 rfl)).trans kgg_11
 have lgg_12 := Nat.lt_of_lt_of_le lgg_11 G_12.size
 have kgf_12 := (G_12.block _ lgf_11 (own_ne Oout_11 kgf_11 rfl)).trans kgf_11
 have lgf_12 := Nat.lt_of_lt_of_le lgf_11 G_12.size
 have bl12 := bl11.trans b_12
 have Om_12 := Dc.kept_ap Omet_11 G_12 hM.ap
 have ap_12 := Dc.apart_new EO_12 hM.ap (fun b hb => (ownB Omet_11 hb).2.1)
 have Oo_12 := Dc.own_outM O_12
 have Fout_12 := Reads.of_own Oo_12
 refine EngI.tail_set EngI.free_wide (n := 0) (v := v_12) (new := #[v_12]) rfl rfl rfl rfl kgo_12 rfl ?_ fun w13 S => ?_
 ·have e0 : A.eval (.tmp 2) = .pointer (some ⟨go, 0, none⟩) := y2
  have e1 : A.eval (.tmp 22) = v_12 := y22
  obtain ⟨A0_, c0_, ev0_⟩ := Reads.shape Fout_12
  subst ev0_
  have z0 := (Eng.cells kgo_12 (0)).trans (rfl)
  have f0 := unfrozen kgo_12 (0)
  simp only [execOp]
  rw [e0, e1]
  go_simp
 have kgm_13 := (S.far _ hX.mo).trans kgm_12
 have lgm_13 := Nat.lt_of_lt_of_eq lgm_12 S.size.symm
 have kgo_13 := S.new
 have lgo_13 := Nat.lt_of_lt_of_eq lgo_12 S.size.symm
 have kgg_13 := (S.far _ hX.go').trans kgg_12
 have lgg_13 := Nat.lt_of_lt_of_eq lgg_12 S.size.symm
 have kgf_13 := (S.far _ hX.fo).trans kgf_12
 have lgf_13 := Nat.lt_of_lt_of_eq lgf_12 S.size.symm
 have bl13 := S.below bl12 hX.l2
 have Fgr_13 := Reads.below hF bl13
 have Fkj_13 := Reads.below hkv bl13
 have Omet_13 := own_sets Om_12 S kgo_12 rfl
 have Oout_13 := own_sets Oo_12 S kgo_12 rfl
 clear S
 refine EngI.tail_nil (wp_seq ?_)
 refine rP [gv, .int .i64 i, elemPtr gv (i.toNat * 4), elemPtr gv (i.toNat * 4 + 3), kv, .int .i64 ((nk.kids.length : Nat) : Int), .int .i64 0] 7 0 s12 (.c (pq fun a w' H => lb (H.q 3 y3) (H.x lgg_13 kgg_13)) (.c (qq 0 y0) (.c (pv fun a w' H => vr (v := elemPtr gv (i.toNat * 4)) rfl (run_index_sl rfl Tryd.underlying48 (by kernel_rfl) (H.d 0 23) ((H.d 1 24).trans (congrArg (Value.int _) (show i = ((i.toNat : Nat) : Int) from by omega))) (Reads.below Fgr_13 H.below) (by omega) rfl)) (.c (pv fun a w' H => vr (v := elemPtr gv (i.toNat * 4 + 3)) rfl (run_field_el rfl Tryd.underlying57 3 (by kernel_rfl) (H.d 2 25) (Reads.below Fgr_13 H.below) (by have h_ : i.toNat < h.length := (by omega); omega))) (.c (pv fun a w' H => vr (v := kv) rfl (run_load_el (kv) rfl (H.d 3 26) (Reads.below Fgr_13 H.below) (hq) (by kernel_rfl))) (.c (pv fun a w' H => vr (v := .int .i64 ((nk.kids.length : Nat) : Int)) rfl (run_len_sl rfl Tryd.underlying55 (H.d 4 27) (Reads.below Fkj_13 H.below))) (.c (pq fun a w' H => rv (rfl : a.eval (.const (.int .i64 0)) = .int .i64 0)) .nil))))))) fun A w14 T => ?_
 have ⟨y0, y1, y2, y3, y4, y18⟩ := T.r6 y0 y1 y2 y3 y4 y18
 have ⟨kgm_14, lgm_14⟩ := T.y kgm_13 lgm_13
 have ⟨kgo_14, lgo_14⟩ := T.y kgo_13 lgo_13
 have ⟨kgg_14, lgg_14⟩ := T.y kgg_13 lgg_13
 have ⟨kgf_14, lgf_14⟩ := T.y kgf_13 lgf_13
 have Omet_14 := T.g Omet_13
 have Oout_14 := T.g Oout_13
 have y27 := T.u 4 27
 have y28 := T.u 5 28
 have y29 := T.u 6 29
 have ⟨d14, s14, bl14⟩ := T.h d12 s12 bl13
 clear T
 refine tail_nil (wp_block ?_)
 refine loopN (fun n a w' => ∃ (m : Nat) (sm : Dc.Ms) (ov2 : Value), nk.kids.length - m = n ∧ (m ≤ nk.kids.length) ∧ (Dc.Rn nd dp sm (List.drop m nk.kids) sb) ∧ (Dc.Mt w w' gm go gg gf mv ov2 gv sm) ∧ (List.length sm.1 = h.length) ∧ a.defers = [] ∧ a.tmps.size = 37 ∧ Below w.heap.size w w' ∧ a.eval (.tmp 0) = .int .i64 i ∧ a.eval (.tmp 1) = .pointer (some ⟨gm, 0, none⟩) ∧ a.eval (.tmp 2) = .pointer (some ⟨go, 0, none⟩) ∧ a.eval (.tmp 3) = .pointer (some ⟨gg, 0, none⟩) ∧ a.eval (.tmp 4) = .pointer (some ⟨gf, 0, none⟩) ∧ a.eval (.tmp 18) = .bool q18 ∧ a.eval (.tmp 27) = kv ∧ a.eval (.tmp 28) = .int .i64 ((nk.kids.length : Nat) : Int) ∧ a.eval (.tmp 29) = .int .i64 (m : Nat) ∧ w'.heap[gm]? = some (.cells (#[mv]) 55 (0, 0)) ∧ gm < w'.heap.size ∧ w'.heap[go]? = some (.cells (#[ov2]) 55 (0, 0)) ∧ go < w'.heap.size ∧ w'.heap[gg]? = some (.cells (#[gv]) 48 (0, 0)) ∧ gg < w'.heap.size ∧ w'.heap[gf]? = some (.cells (#[.func (.func 78) #[] #[.pointer (some ⟨gm, 0, none⟩), .pointer (some ⟨go, 0, none⟩), .pointer (some ⟨gg, 0, none⟩), .pointer (some ⟨gf, 0, none⟩)]]) 96 (0, 0)) ∧ gf < w'.heap.size) (n0 := nk.kids.length - 0) ?_ ?_
 ·exact ⟨0, (Dc.outM s i), v_12, rfl, Nat.zero_le _, hrk, ⟨bl14, kgm_14, kgo_14, kgg_14, kgf_14, Omet_14, Oout_14, ap_12⟩, (by rw [Dc.out_len]; exact hs), d14, s14, bl14, y0, y1, y2, y3, y4, y18, y27, y28, (y29.trans (by first | rfl | (congr 1; rw [i64_id (by omega) (by omega)]; omega) | (simp; done))), kgm_14, lgm_14, (kgo_14.trans (by first | rfl | (simp; done))), lgo_14, kgg_14, lgg_14, kgf_14, lgf_14⟩
 rintro n A w15 ⟨m, sm, ov2, rfl, hc0_15, hc1_15, hc2_15, hc3_15, d15, s15, bl15, y0, y1, y2, y3, y4, y18, y27, y28, y29, kgm_15, lgm_15, kgo_15, lgo_15, kgg_15, lgg_15, kgf_15, lgf_15⟩
 have Fkj_15 := Reads.below hkv bl15
 have hm1 := hc0_15
 have hrn := hc1_15
 have MTL := hc2_15
 have hlen2 := hc3_15
 refine wp_seq ?_
 obtain ⟨q30, Bq30⟩ := nm (decide ((m : Nat) < ((nk.kids.length : Nat) : Int)))
 refine rS [.bool q30] (fun _ => .plain) 1 0 s15 ?_ ?_
 ·refine .c ?_ (.nil)
  ·exact pv fun a w' H => vr (bb Bq30) (o2 (H.q 29 y29) (H.q 28 y28))
 intro A w16 T
 have ⟨y0, y1, y2, y3, y4, y18, y27, y28, y29⟩ := T.r9 y0 y1 y2 y3 y4 y18 y27 y28 y29
 have ⟨kgm_16, lgm_16⟩ := T.y kgm_15 lgm_15
 have ⟨kgo_16, lgo_16⟩ := T.y kgo_15 lgo_15
 have ⟨kgg_16, lgg_16⟩ := T.y kgg_15 lgg_15
 have ⟨kgf_16, lgf_16⟩ := T.y kgf_15 lgf_15
 have Fkj_16 := T.f Fkj_15
 have Omet_16 := own_below hc2_15.rm T.below
 have Oout_16 := own_below hc2_15.ro T.below
 have y30 := T.u 0 30
 have ⟨d16, s16, bl16⟩ := T.h d15 s15 bl15
 clear T
 refine tail_nil (wp_seq ?_)
 refine wp_cond_split y30 (fun hq => ?_) (fun hq => ?_)
 ·
  have c30 := Bq30.symm.trans hq
  clear hq
  have c30 := of_decide_eq_true c30
  have hm0 : m < nk.kids.length := by omega
  refine wp_skip (wp_seq ?_)
  refine wp_block (wp_seq ?_)
  refine rP [elemPtr kv (m * 1), .int .i64 (nk.kids.getD m 0), .int .i64 (nk.kids.getD m 0)] 3 0 s16 (.c (pv fun a w' H => vr (v := elemPtr kv (m * 1)) rfl (run_index_sl rfl Tryd.underlying55 (by kernel_rfl) (H.q 27 y27) ((H.q 29 y29).trans (congrArg (Value.int _) (show (m : Nat) = ((m : Nat) : Int) from by omega))) (Reads.below Fkj_16 H.below) (by omega) rfl)) (.c (pv fun a w' H => vr (v := .int .i64 (nk.kids.getD m 0)) rfl (run_load_el (.int .i64 (nk.kids.getD m 0)) rfl (H.d 0 31) (Reads.below Fkj_16 H.below) (Dc.ints_get1 nk.kids m (by omega)) (by kernel_rfl))) (.c (qe 1 32) .nil))) fun A w18 T => ?_
  have ⟨y0, y1, y2, y3, y4, y18, y27, y28, y29⟩ := T.r9 y0 y1 y2 y3 y4 y18 y27 y28 y29
  have kgm_18 := T.x lgm_16 kgm_16
  have kgo_18 := T.x lgo_16 kgo_16
  have kgg_18 := T.x lgg_16 kgg_16
  have ⟨kgf_18, lgf_18⟩ := T.y kgf_16 lgf_16
  have Omet_18 := T.g Omet_16
  have Oout_18 := T.g Oout_16
  have y7 := T.u 2 7
  have ⟨d18, s18, bl18⟩ := T.h d16 s16 bl16
  clear T
  refine tail_nil ((wpIn_wide (n := 1)).1 ?_)
  refine EngI.regionT (n := 3) rfl (EngI.tw (w1 := w18) (v := .func (.func 78) #[] #[.pointer (some ⟨gm, 0, none⟩), .pointer (some ⟨go, 0, none⟩), .pointer (some ⟨gg, 0, none⟩), .pointer (some ⟨gf, 0, none⟩)]) rfl ?_ s18 d18 ?_)
  ·exact lb y4 (((Below.refl _ _).block _ lgf_18).trans kgf_18)
  intro A d19 s19 y33 hr
  have ⟨y0, y1, y2, y3, y4, y7, y18, y27, y28, y29⟩ := k10 hr y0 y1 y2 y3 y4 y7 y18 y27 y28 y29
  refine EngI.tw rfl (rv y7) s19 d19 fun A d20 s20 y34 hr => ?_
  have ⟨y0, y1, y2, y3, y4, y18, y27, y28, y29, y33⟩ := k10 hr y0 y1 y2 y3 y4 y18 y27 y28 y29 y33
  obtain ⟨sn, hr1, hr2⟩ := Dc.Rn.step hm0 hrn
  refine EngI.tail_callv EngI.free_wide Tryd.func78 (by kernel_rfl) (by kernel_rfl) rfl rfl rfl y33 #[.int .i64 (nk.kids.getD m 0)] (m1 y34) rfl s20 rfl (R := fun w' => ∃ ov', Dc.Mt w w' gm go gg gf mv ov' gv sn) ((ih ov2 w18 sm sn (nk.kids.getD m 0) ⟨bl18, kgm_18, kgo_18, kgg_18, kgf_18, Omet_18, Oout_18, MTL.ap⟩ hlen2 (hin _ (Dc.getD_mem hm0)) hr1 (Nat.le_trans hr2.grow hob)).mono ?_) fun w21 A R d21 s21 hr => ?_
  ·rintro e w' ⟨v, ov', rfl, r⟩; exact ⟨v, rfl, ov', r⟩
  obtain ⟨ov21, MT21⟩ := R
  have ⟨y0, y1, y2, y3, y4, y18, y27, y28, y29⟩ := k9 hr y0 y1 y2 y3 y4 y18 y27 y28 y29
  have d21 := d21.trans d20
  have hlen3 := hr1.len
  have kgm_21 := MT21.m
  have lgm_21 := (Array.getElem?_eq_some_iff.1 kgm_21).1
  have kgo_21 := MT21.o
  have lgo_21 := (Array.getElem?_eq_some_iff.1 kgo_21).1
  have kgg_21 := MT21.g
  have lgg_21 := (Array.getElem?_eq_some_iff.1 kgg_21).1
  have kgf_21 := MT21.f
  have lgf_21 := (Array.getElem?_eq_some_iff.1 kgf_21).1
  refine EngI.tail_nil (rP [.int .i64 (IntKind.i64.wrap ((m : Nat) + 1)), .int .i64 (IntKind.i64.wrap ((m : Nat) + 1))] 2 0 s21 (.c (pv fun a w' H => vr (v := .int .i64 (IntKind.i64.wrap ((m : Nat) + 1))) rfl (ok (.int .i64 1) (H.q 29 y29))) (.c (qd 0 36) .nil)) fun A w22 T => ?_)
  have ⟨y0, y1, y2, y3, y4, y18, y27, y28⟩ := T.r8 y0 y1 y2 y3 y4 y18 y27 y28
  have ⟨kgm_22, lgm_22⟩ := T.y kgm_21 lgm_21
  have ⟨kgo_22, lgo_22⟩ := T.y kgo_21 lgo_21
  have ⟨kgg_22, lgg_22⟩ := T.y kgg_21 lgg_21
  have ⟨kgf_22, lgf_22⟩ := T.y kgf_21 lgf_21
  have Omet_22 := own_below MT21.rm T.below
  have Oout_22 := own_below MT21.ro T.below
  have y29 := T.u 1 29
  have d22 := T.e d21
  have s22 := T.z s21
  have bl22 := MT21.b.trans (T.below.mono MT21.b.size)
  clear T
  exact tail_nil (⟨_, by omega, m + 1, sn, ov21, rfl, by omega, hr2, ⟨bl22, kgm_22, kgo_22, kgg_22, kgf_22, Omet_22, Oout_22, MT21.ap⟩, hr1.len.trans hlen2, d22, s22, bl22, y0, y1, y2, y3, y4, y18, y27, y28, (y29.trans (by first | rfl | (congr 1; rw [i64_id (by omega) (by omega)]; omega) | (simp; done))), kgm_22, lgm_22, (kgo_22.trans (by first | rfl | (simp; done))), lgo_22, kgg_22, lgg_22, kgf_22, lgf_22⟩)
 have c30 := Bq30.symm.trans hq
 clear hq
 have c30 := of_decide_eq_false c30
 have hfin := Dc.Rn.done (by omega) hrn
 refine wp_exit ?_
 repeat (first | with_reducible refine out_then ?_ | with_reducible refine out_block ?_)
 exact ret0 (fn := Tryd.f78) rfl d16 (fun v => ⟨v, ov2, rfl, by rw [hfin]; exact ⟨bl16, kgm_16, kgo_16, kgg_16, kgf_16, Omet_16, Oout_16, MTL.ap⟩⟩)
end Go.Proofs.YtgnmjaacnmkgnaaDoor.X
end
section
namespace Go.Proofs.YtgnmjaacnmkgnaaDoor.X
open Go.RowKit Go.Shelf Go.Proofs Go.Maps
namespace Dc
theorem meet_calls (gm go gg gf : Nat) (mv gv : Value) (h : List NV) (w : World) (hX : Four w gm go gg gf) (hF : Eng.Reads w gv h.length 4 (cells h)) (hK : KsR w h) (hin : ∀ x ∈ h.map (·.1), ∀ k ∈ x.kids, 0 ≤ k ∧ k.toNat < h.length) :
    ∀ (dp : Nat) (ov : Value) (W0 : World) (s s' : Ms) (i : Int), Mt w W0 gm go gg gf mv ov gv s → s.1.length = h.length → (0 ≤ i ∧ i.toNat < h.length) → Rn (h.map (·.1)) dp s [i] s' → s'.2.length ≤ 1000000 →
      Calls Tryd.prog 78 #[.int .i64 i, .pointer (some ⟨gm, 0, none⟩), .pointer (some ⟨go, 0, none⟩), .pointer (some ⟨gg, 0, none⟩), .pointer (some ⟨gf, 0, none⟩)] W0 fun e w' => ∃ v ov', e = .returned v ∧ Mt w w' gm go gg gf mv ov' gv s' := by
  intro dp
  induction dp with
  | zero =>
    intro ov W0 s s' i hM hs hi hr hb
    cases hr with
    | old hc t => rw [t.none]; exact meet_old gm go gg gf mv ov gv h s i w W0 hX hM hs hi.1 hi.2 hc
  | succ dp ih =>
    intro ov W0 s s' i hM hs hi hr hb
    cases hr with
    | old hc t => rw [t.none]; exact meet_old gm go gg gf mv ov gv h s i w W0 hX hM hs hi.1 hi.2 hc
    | new hc k t =>
      rename_i s1
      rw [t.none] at hb ⊢
      rw [map_getD] at k
      exact meet_new gm go gg gf dp mv ov gv (h.getD i.toNat default).2 h (h.map (·.1)) (h.getD i.toNat default).1 s s1 i w W0 hX hM hs hi.1 hi.2 hc hF (cell_kids h i.toNat hi.2) (hK.at_ hi.2) k (hin _ (nd_mem hi.2)) hb ih
end Dc
end Go.Proofs.YtgnmjaacnmkgnaaDoor.X
end
section
namespace Go.Proofs.YtgnmjaacnmkgnaaDoor.X
open Go.RowKit Go.Shelf Go.Proofs Go.Maps
set_option linter.unusedVariables false
set_option linter.unusedSimpArgs false
namespace Dc
theorem made_ints (n : Nat) : (madeCells (Value.cells (.int .i64 0)) (n * 1)).toList = ints (List.replicate n 0) := by
  unfold madeCells ints
  rw [Nat.mul_one, List.map_replicate]
  apply List.ext_getElem?
  intro i
  rcases Nat.lt_or_ge i n with h | h
  · simp [h, Value.cells, Nat.mod_one]
  · simp [h]
theorem run_make0 {a : Act} {o : Oper} {w : World} {B n : Nat} {x y : Operand} (hop : o.op = .makeSlice 55 x y) (hx : a.eval x = .int .i64 (n : Int)) (hy : a.eval y = .int .i64 (n : Int)) (hB : B ≤ w.heap.size) (hn : n ≤ 1000000) :
    ∃ v w1, (execOp a.eval o).run Tryd.prog w = .ok (.value v) w1 ∧ w1.ownsRow B 3 1 v n (ints (List.replicate n 0)) ∧ Below w.heap.size w w1 := by
  obtain ⟨i, hi, h1, h2, h3⟩ := Eng.info_of (P := Tryd.prog) (e := 3) (size := 1) (z := .int .i64 0) (by kernel_rfl)
  have hb : i.bytes * n ≤ 281474976710656 := Nat.le_trans (Nat.mul_le_mul h2 hn) (by decide)
  obtain ⟨w1, hr, O, G⟩ := run_makeSlice_full (P := Tryd.prog) (w := w) B 55 3 i (.int .i64 0) 1 Tryd.underlying55 hi h3 h1 .i64 .i64 n (by omega) hb (by unfold maxLen; omega) hB
  rw [made_ints] at O
  refine ⟨_, w1, ?_, O, ⟨G.os, G.tape, G.output, G.size, fun b hb => G.block b hb (by simp)⟩⟩
  unfold execOp; rw [hop]; simp only [hx, hy]
  simp [hr]
theorem retw {fn : Func} {p : Nat} {ty T : TypeId} {g : Nat} {u : Value} {a : Act} {w : World} {R : Ending → World → Prop} (h : fn.results = #[.cell p ty]) (hd : a.defers = []) (e : a.eval (.tmp p) = .pointer (some ⟨g, 0, none⟩)) (hb : w.heap[g]? = some (.cells #[u] T (0, 0)))
    (hagg : ∀ w : World, (isAgg ty).run Tryd.prog w = .ok false w) (hR : R (.returned u) w) : bodyPost Tryd.prog fn R .ret a w := by
  refine ⟨hd, u, ?_, hR⟩
  have e' : a.tmps[p]?.getD undef = .pointer (some ⟨g, 0, none⟩) := by
    have : a.tmps.getD p undef = .pointer (some ⟨g, 0, none⟩) := e
    simpa using this
  have hc : w.cell? ⟨g, 0, none⟩ = some u := by simp [World.cell?, hb]
  simp [results, h, e', asAddr, loadVar, hagg, load, Sem.run, hc]
theorem run_mkf {a : Act} {o : Oper} {w : World} {f : Nat} {caps : Array Operand} (vs : Array Value) (hop : o.op = .makeFunc (.func f) #[] caps) (h : caps.map a.eval = vs) : (execOp a.eval o).run Tryd.prog w = .ok (.value (.func (.func f) #[] vs)) w := by
  unfold execOp; rw [hop]; simp [h]; simp [Instr.makeFunc, Sem.run_pure, Result.andThen]
theorem run_store1 {a : Act} {o : Oper} {w : World} {g : Nat} {T T' : TypeId} {u u0 : Value} {x y : Operand} (hop : o.op = .store T x y) (hx : a.eval x = .pointer (some ⟨g, 0, none⟩)) (hy : a.eval y = u) (hk : w.heap[g]? = some (.cells #[u0] T' (0, 0))) (hsize : (Tryd.prog.info? T).map (·.size) = some 1) (h1 : u.oneCell' = true) : (execOp a.eval o).run Tryd.prog w = .ok .skip (w.setCell ⟨g, 0, none⟩ u) := by
  have hc := (Eng.cells hk 0).trans (rfl : (#[u0] : Array Value)[0]? = some u0)
  have hf := Eng.unfrozen hk 0
  have hz : (sizeOf T).run Tryd.prog w = .ok 1 w := by
    cases hq : Tryd.prog.info? T with
    | none => simp [hq] at hsize
    | some i => simp [hq] at hsize; simp [sizeOf, typeInfo, hq, hsize, Sem.run_bind, Sem.run_pure]
  have hr : ∀ m, (store ⟨g, 0, none⟩ u m).run Tryd.prog w = .ok () (w.setCell ⟨g, 0, none⟩ u) := fun m => by rw [run_store Tryd.prog w _ u m h1, hc]; simp [hf]
  unfold execOp
  rw [hop]
  simp only [hx, hy]
  cases u <;> first | (simp [Value.oneCell'] at h1; done) | (go_simp; done) | (go_simp; rw [hz]; go_simp; done) | (go_simp; try rw [hz]; try simp only [Sem.run_bind, Result.andThen_ok]; simp [hr])
theorem alloc_ex1 {a : Act} {o : Oper} {w : World} {T : TypeId} (u : Value) (hop : o.op = .alloc T) (hz : (zeroValue T).run Tryd.prog w = .ok u w) (hc : u.cells = #[u]) : ∃ v w1, (execOp a.eval o).run Tryd.prog w = .ok (.value v) w1 ∧ ∃ g, v = .pointer (some ⟨g, 0, none⟩) ∧ w.heap.size ≤ g ∧ g < w1.heap.size ∧ w1.heap[g]? = some (.cells #[u] T (0, 0)) ∧ Below w.heap.size w w1 := by
  refine ⟨.pointer (some ⟨w.heap.size, 0, none⟩), w.alloc (.cells #[u] T), ?_, w.heap.size, rfl, Nat.le_refl _, ?_, ?_, (Below.refl _ _).alloc (Nat.le_refl _) _⟩
  · unfold execOp; rw [hop]; simp [Instr.alloc, hz, hc, Sem.run_bind, Sem.run_pure, Result.andThen, newVar]; rfl
  · show w.heap.size < (w.heap.push _).size; simp
  · show (w.heap.push _)[w.heap.size]? = _; simp
end Dc
end Go.Proofs.YtgnmjaacnmkgnaaDoor.X
end
section
namespace Go.Proofs.YtgnmjaacnmkgnaaDoor.X
open Go.RowKit Go.Shelf Go.Proofs Go.Proofs.YtgnmjaacnmkgnaaDoorW.PrintWords Go.Proofs.YtgnmjaacnmkgnaaDoorW.PrintLast Go.Proofs.YtgnmjaacnmkgnaaDoorW.PrintMore Go.Proofs.Eng
set_option linter.unusedVariables false
set_option linter.unusedSimpArgs false
attribute [local go_sem] max2_int min2_int max_two min_two
set_option maxHeartbeats 4000000 in
set_option maxRecDepth 100000 in
theorem Dc.far_index (g : Nat) (gv : Value) (h : List Dc.NV) (v : Value) (l : List Int) (w : World) (hk : w.heap[g]? = some (.cells #[gv] 48 (0, 0))) (hF : Reads w gv h.length 4 (Dc.cells h)) (hp : Reads w v l.length 1 (Dc.ints l)) (hin : ∀ i ∈ l, 0 ≤ i ∧ i.toNat < h.length) : Calls Tryd.prog 94 #[v, .func (.func 72) #[] #[.pointer (some ⟨g, 0, none⟩)]] w fun e w' => e = .returned (.int .i64 (-1)) ∧ Below w.heap.size w w' := by
 have hm := Reads.len_le hp
 refine enter Tryd.func94 rfl fun A d0 s0 v0 => ?_
 have s0 : A.tmps.size = 19 := s0
 have y0 : A.eval (.tmp 0) = v := v0 0 (by simp)
 have y1 : A.eval (.tmp 1) = .func (.func 72) #[] #[.pointer (some ⟨g, 0, none⟩)] := v0 1 (by simp)
 clear v0
 have bl0 : Below w.heap.size w w := Below.refl _ _
 refine wp_seq (rS [.int .i64 0] (fun _ => .plain) 1 0 s0 ?_ ?_)
 ·refine .c ?_ (.nil)
  ·exact pq fun a w' H => ra (rfl : a.eval (.const (.int .i64 0)) = .int .i64 0)
 intro A w1 T
 have ⟨y0, y1⟩ := T.r2 y0 y1
 have kg_ := (T.below.block _ (Array.getElem?_eq_some_iff.1 hk).1).trans hk
 have lg_ := Nat.lt_of_lt_of_le (Array.getElem?_eq_some_iff.1 hk).1 T.below.size
 have Fp_ := T.f hp
 have ⟨d1, s1, bl1⟩ := T.h d0 s0 bl0
 clear T
 refine tail_nil (wp_seq (wp_seq ?_))
 refine rP [v, .int .i64 ((l.length : Nat) : Int), .int .i64 0] 3 0 s1 (.c (qq 0 y0) (.c (pv fun a w' H => vr (v := .int .i64 ((l.length : Nat) : Int)) rfl (run_len_sl rfl Tryd.underlying55 (H.d 0 6) (Reads.below Fp_ H.below))) (.c (pq fun a w' H => rv (rfl : a.eval (.const (.int .i64 0)) = .int .i64 0)) .nil))) fun A w2 T => ?_
 have ⟨y0, y1⟩ := T.r2 y0 y1
 have ⟨kg_, lg_⟩ := T.y kg_ lg_
 have y7 := T.u 1 7
 have y8 := T.u 2 8
 have ⟨d2, s2, bl2⟩ := T.h d1 s1 bl1
 clear T
 refine tail_nil (wp_block ?_)
 refine loopN (fun n a w' => ∃ (k : Nat), l.length - k = n ∧ (k ≤ l.length) ∧ a.defers = [] ∧ a.tmps.size = 19 ∧ Below w.heap.size w w' ∧ a.eval (.tmp 0) = v ∧ a.eval (.tmp 1) = .func (.func 72) #[] #[.pointer (some ⟨g, 0, none⟩)] ∧ a.eval (.tmp 7) = .int .i64 ((l.length : Nat) : Int) ∧ a.eval (.tmp 8) = .int .i64 (k : Nat) ∧ w'.heap[g]? = some (.cells (#[gv]) 48 (0, 0)) ∧ g < w'.heap.size) (n0 := l.length - 0) ?_ ?_
 ·exact ⟨0, rfl, by omega, d2, s2, bl2, y0, y1, y7, (y8.trans (by first | rfl | (congr 1; rw [i64_id (by omega) (by omega)]; omega) | (simp; done))), kg_, lg_⟩
 rintro n A w3 ⟨k, rfl, hc0_3, d3, s3, bl3, y0, y1, y7, y8, kg_, lg_⟩
 have Fgr_ := Reads.below hF bl3
 have Fp_ := Reads.below hp bl3
 have hk1 := hc0_3
 refine wp_seq ?_
 obtain ⟨q9, Bq9⟩ := nm (decide ((k : Nat) < ((l.length : Nat) : Int)))
 refine rS [.bool q9] (fun _ => .plain) 1 0 s3 ?_ ?_
 ·refine .c ?_ (.nil)
  ·exact pv fun a w' H => vr (bb Bq9) (o2 (H.q 8 y8) (H.q 7 y7))
 intro A w4 T
 have ⟨y0, y1, y7, y8⟩ := T.r4 y0 y1 y7 y8
 have ⟨kg_, lg_⟩ := T.y kg_ lg_
 have Fgr_ := T.f Fgr_
 have Fp_ := T.f Fp_
 have y9 := T.u 0 9
 have ⟨d4, s4, bl4⟩ := T.h d3 s3 bl3
 clear T
 refine tail_nil (wp_seq ?_)
 refine wp_cond_split y9 (fun hq => ?_) (fun hq => ?_)
 ·
  have c9 := Bq9.symm.trans hq
  clear hq
  have c9 := of_decide_eq_true c9
  have hk0 : k < l.length := by omega
  have hik := hin _ (Dc.getD_mem hk0)
  refine wp_skip (wp_seq ?_)
  refine wp_block (wp_seq ?_)
  refine rP [.int .i64 (k : Nat), .int .i64 (k : Nat)] 2 0 s4 (.c (qq 8 y8) (.c (qe 0 10) .nil)) fun A w6 T => ?_
  have ⟨y0, y1, y7, y8⟩ := T.r4 y0 y1 y7 y8
  have ⟨kg_, lg_⟩ := T.y kg_ lg_
  have Fgr_ := T.f Fgr_
  have Fp_ := T.f Fp_
  have y5 := T.u 1 5
  have ⟨d6, s6, bl6⟩ := T.h d4 s4 bl4
  clear T
  refine tail_nil (wp_seq ?_)
  obtain ⟨q16, Bq16⟩ := nm (false)
  refine rS [.func (.func 72) #[] #[.pointer (some ⟨g, 0, none⟩)], v, .int .i64 (k : Nat), elemPtr v (k * 1), .int .i64 (l.getD k 0), .bool q16] (fun _ => .plain) 6 0 s6 ?_ ?_
  ·refine .c ?_ (.c ?_ (.c ?_ (.c ?_ (.c ?_ (.c ?_ (.nil))))))
   ·exact qq 1 y1
   ·exact qq 0 y0
   ·exact qq 5 y5
   ·exact pv fun a w' H => vr (v := elemPtr v (k * 1)) rfl (run_index_sl rfl Tryd.underlying55 (by kernel_rfl) (H.d 1 12) ((H.d 2 13).trans (congrArg (Value.int _) (show (k : Nat) = ((k : Nat) : Int) from by omega))) (Reads.below Fp_ H.below) (by omega) rfl)
   ·exact pv fun a w' H => vr (v := .int .i64 (l.getD k 0)) rfl (run_load_el (.int .i64 (l.getD k 0)) rfl (H.d 3 14) (Reads.below Fp_ H.below) (Dc.ints_get1 l k (by omega)) (by kernel_rfl))
   refine pv fun a w' H => callv Tryd.func72 (by kernel_rfl) (by kernel_rfl) rfl (H.d 0 11) #[.int .i64 (l.getD k 0)] ?_ ?_
   ·have e0 : a.eval (.tmp 15) = .int .i64 (l.getD k 0) := (H.d 4 15); simp only [List.map_toArray, List.map_cons, List.map_nil, e0]
   refine (Dc.far_calls g gv h (l.getD k 0) _ (H.x lg_ kg_) (Reads.below Fgr_ H.below) hik.1 hik.2).mono ?_
   rintro e w'' ⟨rfl, hb⟩
   exact ⟨_, rfl, (by show _ = Value.bool q16; rw [Bq16]), hb⟩
  intro A w7 T
  have ⟨y0, y1, y7, y8⟩ := T.r4 y0 y1 y7 y8
  have ⟨kg_, lg_⟩ := T.y kg_ lg_
  have y16 := T.u 5 16
  have ⟨d7, s7, bl7⟩ := T.h d6 s6 bl6
  clear T
  refine tail_nil ?_
  have n16 : q16 = false := by
   try simp only [Bq16, Bq9]
   first | done | rfl
  refine wp_cond_false (y16.trans (by rw [n16])) (wp_skip ?_)
  refine rP [.int .i64 (IntKind.i64.wrap ((k : Nat) + 1)), .int .i64 (IntKind.i64.wrap ((k : Nat) + 1))] 2 0 s7 (.c (pv fun a w' H => vr (v := .int .i64 (IntKind.i64.wrap ((k : Nat) + 1))) rfl (ok (.int .i64 1) (H.q 8 y8))) (.c (qd 0 18) .nil)) fun A w8 T => ?_
  have ⟨y0, y1, y7⟩ := T.r3 y0 y1 y7
  have ⟨kg_, lg_⟩ := T.y kg_ lg_
  have y8 := T.u 1 8
  have ⟨d8, s8, bl8⟩ := T.h d7 s7 bl7
  clear T
  exact tail_nil (⟨_, by omega, k + 1, rfl, by omega, d8, s8, bl8, y0, y1, y7, (y8.trans (by first | rfl | (congr 1; rw [i64_id (by omega) (by omega)]; omega) | (simp; done))), kg_, lg_⟩)
 have c9 := Bq9.symm.trans hq
 clear hq
 have c9 := of_decide_eq_false c9
 refine wp_exit (wp_seq ?_)
 refine rS [.int .i64 (-1)] (fun _ => .plain) 1 0 s4 ?_ ?_
 ·refine .c ?_ (.nil)
  ·exact pq fun a w' H => ra (rfl : a.eval (.const (.int .i64 (-1))) = .int .i64 (-1))
 intro A w10 T
 have y4 := T.u 0 4
 have d10 := T.e d4
 have bl10 := T.b bl4
 clear T
 refine tail_nil (wp_ret ?_)
 repeat (first | with_reducible refine in_ret ?_ | with_reducible refine then_ret ?_)
 exact ret1 rfl d10 y4 ⟨rfl, bl10⟩
set_option maxHeartbeats 4000000 in
set_option maxRecDepth 100000 in
theorem Dc.strange_index (g : Nat) (gv : Value) (h : List Dc.NV) (v : Value) (l : List Int) (w : World) (hk : w.heap[g]? = some (.cells #[gv] 48 (0, 0))) (hF : Reads w gv h.length 4 (Dc.cells h)) (hp : Reads w v l.length 1 (Dc.ints l)) (hin : ∀ i ∈ l, 0 ≤ i ∧ i.toNat < h.length ∧ (h.getD i.toNat default).1.kind = 0) : Calls Tryd.prog 94 #[v, .func (.func 75) #[] #[.pointer (some ⟨g, 0, none⟩)]] w fun e w' => e = .returned (.int .i64 (-1)) ∧ Below w.heap.size w w' := by
 have hm := Reads.len_le hp
 refine enter Tryd.func94 rfl fun A d0 s0 v0 => ?_
 have s0 : A.tmps.size = 19 := s0
 have y0 : A.eval (.tmp 0) = v := v0 0 (by simp)
 have y1 : A.eval (.tmp 1) = .func (.func 75) #[] #[.pointer (some ⟨g, 0, none⟩)] := v0 1 (by simp)
 clear v0
 have bl0 : Below w.heap.size w w := Below.refl _ _
 refine wp_seq (rS [.int .i64 0] (fun _ => .plain) 1 0 s0 ?_ ?_)
 ·refine .c ?_ (.nil)
  ·exact pq fun a w' H => ra (rfl : a.eval (.const (.int .i64 0)) = .int .i64 0)
 intro A w1 T
 have ⟨y0, y1⟩ := T.r2 y0 y1
 have kg_ := (T.below.block _ (Array.getElem?_eq_some_iff.1 hk).1).trans hk
 have lg_ := Nat.lt_of_lt_of_le (Array.getElem?_eq_some_iff.1 hk).1 T.below.size
 have Fp_ := T.f hp
 have ⟨d1, s1, bl1⟩ := T.h d0 s0 bl0
 clear T
 refine tail_nil (wp_seq (wp_seq ?_))
 refine rP [v, .int .i64 ((l.length : Nat) : Int), .int .i64 0] 3 0 s1 (.c (qq 0 y0) (.c (pv fun a w' H => vr (v := .int .i64 ((l.length : Nat) : Int)) rfl (run_len_sl rfl Tryd.underlying55 (H.d 0 6) (Reads.below Fp_ H.below))) (.c (pq fun a w' H => rv (rfl : a.eval (.const (.int .i64 0)) = .int .i64 0)) .nil))) fun A w2 T => ?_
 have ⟨y0, y1⟩ := T.r2 y0 y1
 have ⟨kg_, lg_⟩ := T.y kg_ lg_
 have y7 := T.u 1 7
 have y8 := T.u 2 8
 have ⟨d2, s2, bl2⟩ := T.h d1 s1 bl1
 clear T
 refine tail_nil (wp_block ?_)
 refine loopN (fun n a w' => ∃ (k : Nat), l.length - k = n ∧ (k ≤ l.length) ∧ a.defers = [] ∧ a.tmps.size = 19 ∧ Below w.heap.size w w' ∧ a.eval (.tmp 0) = v ∧ a.eval (.tmp 1) = .func (.func 75) #[] #[.pointer (some ⟨g, 0, none⟩)] ∧ a.eval (.tmp 7) = .int .i64 ((l.length : Nat) : Int) ∧ a.eval (.tmp 8) = .int .i64 (k : Nat) ∧ w'.heap[g]? = some (.cells (#[gv]) 48 (0, 0)) ∧ g < w'.heap.size) (n0 := l.length - 0) ?_ ?_
 ·exact ⟨0, rfl, by omega, d2, s2, bl2, y0, y1, y7, (y8.trans (by first | rfl | (congr 1; rw [i64_id (by omega) (by omega)]; omega) | (simp; done))), kg_, lg_⟩
 rintro n A w3 ⟨k, rfl, hc0_3, d3, s3, bl3, y0, y1, y7, y8, kg_, lg_⟩
 have Fgr_ := Reads.below hF bl3
 have Fp_ := Reads.below hp bl3
 have hk1 := hc0_3
 refine wp_seq ?_
 obtain ⟨q9, Bq9⟩ := nm (decide ((k : Nat) < ((l.length : Nat) : Int)))
 refine rS [.bool q9] (fun _ => .plain) 1 0 s3 ?_ ?_
 ·refine .c ?_ (.nil)
  ·exact pv fun a w' H => vr (bb Bq9) (o2 (H.q 8 y8) (H.q 7 y7))
 intro A w4 T
 have ⟨y0, y1, y7, y8⟩ := T.r4 y0 y1 y7 y8
 have ⟨kg_, lg_⟩ := T.y kg_ lg_
 have Fgr_ := T.f Fgr_
 have Fp_ := T.f Fp_
 have y9 := T.u 0 9
 have ⟨d4, s4, bl4⟩ := T.h d3 s3 bl3
 clear T
 refine tail_nil (wp_seq ?_)
 refine wp_cond_split y9 (fun hq => ?_) (fun hq => ?_)
 ·
  have c9 := Bq9.symm.trans hq
  clear hq
  have c9 := of_decide_eq_true c9
  have hk0 : k < l.length := by omega
  have hik := hin _ (Dc.getD_mem hk0)
  refine wp_skip (wp_seq ?_)
  refine wp_block (wp_seq ?_)
  refine rP [.int .i64 (k : Nat), .int .i64 (k : Nat)] 2 0 s4 (.c (qq 8 y8) (.c (qe 0 10) .nil)) fun A w6 T => ?_
  have ⟨y0, y1, y7, y8⟩ := T.r4 y0 y1 y7 y8
  have ⟨kg_, lg_⟩ := T.y kg_ lg_
  have Fgr_ := T.f Fgr_
  have Fp_ := T.f Fp_
  have y5 := T.u 1 5
  have ⟨d6, s6, bl6⟩ := T.h d4 s4 bl4
  clear T
  refine tail_nil (wp_seq ?_)
  obtain ⟨q16, Bq16⟩ := nm (false)
  refine rS [.func (.func 75) #[] #[.pointer (some ⟨g, 0, none⟩)], v, .int .i64 (k : Nat), elemPtr v (k * 1), .int .i64 (l.getD k 0), .bool q16] (fun _ => .plain) 6 0 s6 ?_ ?_
  ·refine .c ?_ (.c ?_ (.c ?_ (.c ?_ (.c ?_ (.c ?_ (.nil))))))
   ·exact qq 1 y1
   ·exact qq 0 y0
   ·exact qq 5 y5
   ·exact pv fun a w' H => vr (v := elemPtr v (k * 1)) rfl (run_index_sl rfl Tryd.underlying55 (by kernel_rfl) (H.d 1 12) ((H.d 2 13).trans (congrArg (Value.int _) (show (k : Nat) = ((k : Nat) : Int) from by omega))) (Reads.below Fp_ H.below) (by omega) rfl)
   ·exact pv fun a w' H => vr (v := .int .i64 (l.getD k 0)) rfl (run_load_el (.int .i64 (l.getD k 0)) rfl (H.d 3 14) (Reads.below Fp_ H.below) (Dc.ints_get1 l k (by omega)) (by kernel_rfl))
   refine pv fun a w' H => callv Tryd.func75 (by kernel_rfl) (by kernel_rfl) rfl (H.d 0 11) #[.int .i64 (l.getD k 0)] ?_ ?_
   ·have e0 : a.eval (.tmp 15) = .int .i64 (l.getD k 0) := (H.d 4 15); simp only [List.map_toArray, List.map_cons, List.map_nil, e0]
   refine (Dc.strange_calls g gv h (l.getD k 0) _ (H.x lg_ kg_) (Reads.below Fgr_ H.below) hik.1 hik.2.1 hik.2.2).mono ?_
   rintro e w'' ⟨rfl, hb⟩
   exact ⟨_, rfl, (by show _ = Value.bool q16; rw [Bq16]), hb⟩
  intro A w7 T
  have ⟨y0, y1, y7, y8⟩ := T.r4 y0 y1 y7 y8
  have ⟨kg_, lg_⟩ := T.y kg_ lg_
  have y16 := T.u 5 16
  have ⟨d7, s7, bl7⟩ := T.h d6 s6 bl6
  clear T
  refine tail_nil ?_
  have n16 : q16 = false := by
   try simp only [Bq16, Bq9]
   first | done | rfl
  refine wp_cond_false (y16.trans (by rw [n16])) (wp_skip ?_)
  refine rP [.int .i64 (IntKind.i64.wrap ((k : Nat) + 1)), .int .i64 (IntKind.i64.wrap ((k : Nat) + 1))] 2 0 s7 (.c (pv fun a w' H => vr (v := .int .i64 (IntKind.i64.wrap ((k : Nat) + 1))) rfl (ok (.int .i64 1) (H.q 8 y8))) (.c (qd 0 18) .nil)) fun A w8 T => ?_
  have ⟨y0, y1, y7⟩ := T.r3 y0 y1 y7
  have ⟨kg_, lg_⟩ := T.y kg_ lg_
  have y8 := T.u 1 8
  have ⟨d8, s8, bl8⟩ := T.h d7 s7 bl7
  clear T
  exact tail_nil (⟨_, by omega, k + 1, rfl, by omega, d8, s8, bl8, y0, y1, y7, (y8.trans (by first | rfl | (congr 1; rw [i64_id (by omega) (by omega)]; omega) | (simp; done))), kg_, lg_⟩)
 have c9 := Bq9.symm.trans hq
 clear hq
 have c9 := of_decide_eq_false c9
 refine wp_exit (wp_seq ?_)
 refine rS [.int .i64 (-1)] (fun _ => .plain) 1 0 s4 ?_ ?_
 ·refine .c ?_ (.nil)
  ·exact pq fun a w' H => ra (rfl : a.eval (.const (.int .i64 (-1))) = .int .i64 (-1))
 intro A w10 T
 have y4 := T.u 0 4
 have d10 := T.e d4
 have bl10 := T.b bl4
 clear T
 refine tail_nil (wp_ret ?_)
 repeat (first | with_reducible refine in_ret ?_ | with_reducible refine then_ret ?_)
 exact ret1 rfl d10 y4 ⟨rfl, bl10⟩
set_option maxHeartbeats 4000000 in
set_option maxRecDepth 100000 in
theorem Dc.far_contains (g : Nat) (gv : Value) (h : List Dc.NV) (v : Value) (l : List Int) (w : World) (hk : w.heap[g]? = some (.cells #[gv] 48 (0, 0))) (hF : Reads w gv h.length 4 (Dc.cells h)) (hp : Reads w v l.length 1 (Dc.ints l)) (hin : ∀ i ∈ l, 0 ≤ i ∧ i.toNat < h.length) : Calls Tryd.prog 74 #[v, .func (.func 72) #[] #[.pointer (some ⟨g, 0, none⟩)]] w fun e w' => e = .returned (.bool false) ∧ Below w.heap.size w w' := by
 refine enter Tryd.func74 rfl fun A d0 s0 v0 => ?_
 have s0 : A.tmps.size = 9 := s0
 have y0 : A.eval (.tmp 0) = v := v0 0 (by simp)
 have y1 : A.eval (.tmp 1) = .func (.func 72) #[] #[.pointer (some ⟨g, 0, none⟩)] := v0 1 (by simp)
 clear v0
 have bl0 : Below w.heap.size w w := Below.refl _ _
 refine wp_seq (rS [.bool false] (fun _ => .plain) 1 0 s0 ?_ ?_)
 ·refine .c ?_ (.nil)
  ·exact pq fun a w' H => ra (rfl : a.eval (.const (.bool false)) = .bool false)
 intro A w1 T
 have ⟨y0, y1⟩ := T.r2 y0 y1
 have kg_ := (T.below.block _ (Array.getElem?_eq_some_iff.1 hk).1).trans hk
 have lg_ := Nat.lt_of_lt_of_le (Array.getElem?_eq_some_iff.1 hk).1 T.below.size
 have Fgr_ := T.f hF
 have Fp_ := T.f hp
 have ⟨d1, s1, bl1⟩ := T.h d0 s0 bl0
 clear T
 refine tail_nil (wp_seq ?_)
 refine (wpIn_wide (n := 1)).1 (EngI.regionT (n := 5) rfl ?_)
 refine EngI.tw rfl (rv y0) s1 d1 fun A d2 s2 y5 hr => ?_
 have y1 := k1 hr y1
 refine EngI.tw rfl (rv y1) s2 d2 fun A d3 s3 y6 hr => ?_
 have y5 := k1 hr y5
 refine EngI.tail_call EngI.free_wide Tryd.func94 (by kernel_rfl) (by kernel_rfl) rfl rfl rfl rfl #[v, .func (.func 72) #[] #[.pointer (some ⟨g, 0, none⟩)]] (m2 y5 y6) s3 rfl (R := fun v w_ => v = .int .i64 (-1) ∧ Below w1.heap.size w1 w_) ((Dc.far_index g gv h v l _ (((Below.refl _ _).block _ lg_).trans kg_) Fgr_ Fp_ hin).mono ?_) fun v_4 w4 A R d4 s4 hv hr => ?_
 ·rintro e w_ ⟨rfl, hb⟩; exact ⟨_, rfl, rfl, hb⟩
 obtain ⟨ev_4, b_4⟩ := R
 have y7 : A.eval (.tmp 7) = .int .i64 (-1) := (hv.trans ev_4)
 have d4 := d4.trans d3
 clear hv hr
 have bl4 := bl1.trans (b_4.mono bl1.size)
 refine EngI.tw (w1 := w4) (v := .bool (decide ((-1) ≥ 0))) rfl (ok (.int .i64 0) y7) s4 d4 ?_
 intro A d5 s5 hv hr
 have y8 : A.eval (.tmp 8) = .bool false := hv.trans (congrArg Value.bool ((by decide) : _ = false))
 clear hv hr
 refine EngI.tw rfl (ra y8) s5 d5 fun A d6 s6 y4 hr => EngI.tail_nil (wp_ret ?_)
 repeat (first | with_reducible refine in_ret ?_ | with_reducible refine then_ret ?_)
 exact ret1 rfl d6 y4 ⟨rfl, bl4⟩
set_option maxHeartbeats 4000000 in
set_option maxRecDepth 100000 in
theorem Dc.strange_contains (g : Nat) (gv : Value) (h : List Dc.NV) (v : Value) (l : List Int) (w : World) (hk : w.heap[g]? = some (.cells #[gv] 48 (0, 0))) (hF : Reads w gv h.length 4 (Dc.cells h)) (hp : Reads w v l.length 1 (Dc.ints l)) (hin : ∀ i ∈ l, 0 ≤ i ∧ i.toNat < h.length ∧ (h.getD i.toNat default).1.kind = 0) : Calls Tryd.prog 74 #[v, .func (.func 75) #[] #[.pointer (some ⟨g, 0, none⟩)]] w fun e w' => e = .returned (.bool false) ∧ Below w.heap.size w w' := by
 refine enter Tryd.func74 rfl fun A d0 s0 v0 => ?_
 have s0 : A.tmps.size = 9 := s0
 have y0 : A.eval (.tmp 0) = v := v0 0 (by simp)
 have y1 : A.eval (.tmp 1) = .func (.func 75) #[] #[.pointer (some ⟨g, 0, none⟩)] := v0 1 (by simp)
 clear v0
 have bl0 : Below w.heap.size w w := Below.refl _ _
 refine wp_seq (rS [.bool false] (fun _ => .plain) 1 0 s0 ?_ ?_)
 ·refine .c ?_ (.nil)
  ·exact pq fun a w' H => ra (rfl : a.eval (.const (.bool false)) = .bool false)
 intro A w1 T
 have ⟨y0, y1⟩ := T.r2 y0 y1
 have kg_ := (T.below.block _ (Array.getElem?_eq_some_iff.1 hk).1).trans hk
 have lg_ := Nat.lt_of_lt_of_le (Array.getElem?_eq_some_iff.1 hk).1 T.below.size
 have Fgr_ := T.f hF
 have Fp_ := T.f hp
 have ⟨d1, s1, bl1⟩ := T.h d0 s0 bl0
 clear T
 refine tail_nil (wp_seq ?_)
 refine (wpIn_wide (n := 1)).1 (EngI.regionT (n := 5) rfl ?_)
 refine EngI.tw rfl (rv y0) s1 d1 fun A d2 s2 y5 hr => ?_
 have y1 := k1 hr y1
 refine EngI.tw rfl (rv y1) s2 d2 fun A d3 s3 y6 hr => ?_
 have y5 := k1 hr y5
 refine EngI.tail_call EngI.free_wide Tryd.func94 (by kernel_rfl) (by kernel_rfl) rfl rfl rfl rfl #[v, .func (.func 75) #[] #[.pointer (some ⟨g, 0, none⟩)]] (m2 y5 y6) s3 rfl (R := fun v w_ => v = .int .i64 (-1) ∧ Below w1.heap.size w1 w_) ((Dc.strange_index g gv h v l _ (((Below.refl _ _).block _ lg_).trans kg_) Fgr_ Fp_ hin).mono ?_) fun v_4 w4 A R d4 s4 hv hr => ?_
 ·rintro e w_ ⟨rfl, hb⟩; exact ⟨_, rfl, rfl, hb⟩
 obtain ⟨ev_4, b_4⟩ := R
 have y7 : A.eval (.tmp 7) = .int .i64 (-1) := (hv.trans ev_4)
 have d4 := d4.trans d3
 clear hv hr
 have bl4 := bl1.trans (b_4.mono bl1.size)
 refine EngI.tw (w1 := w4) (v := .bool (decide ((-1) ≥ 0))) rfl (ok (.int .i64 0) y7) s4 d4 ?_
 intro A d5 s5 hv hr
 have y8 : A.eval (.tmp 8) = .bool false := hv.trans (congrArg Value.bool ((by decide) : _ = false))
 clear hv hr
 refine EngI.tw rfl (ra y8) s5 d5 fun A d6 s6 y4 hr => EngI.tail_nil (wp_ret ?_)
 repeat (first | with_reducible refine in_ret ?_ | with_reducible refine then_ret ?_)
 exact ret1 rfl d6 y4 ⟨rfl, bl4⟩
end Go.Proofs.YtgnmjaacnmkgnaaDoor.X
end
section
namespace Go.Proofs.YtgnmjaacnmkgnaaDoor.X
open Go.RowKit Go.Shelf Go.Proofs Go.Proofs.YtgnmjaacnmkgnaaDoorW.PrintWords Go.Proofs.YtgnmjaacnmkgnaaDoorW.PrintLast Go.Proofs.YtgnmjaacnmkgnaaDoorW.PrintMore Go.Proofs.Eng
set_option linter.unusedVariables false
set_option linter.unusedSimpArgs false
attribute [local go_sem] max2_int min2_int max_two min_two
set_option maxHeartbeats 4000000 in
set_option maxRecDepth 100000 in
theorem Dc.right_scalar (gv kv : Value) (h : List Dc.NV) (x : Dc.Nd) (w : World) (hT : Tabs.Holds w) (hF : Reads w gv h.length 4 (Dc.cells h)) (hkv : Reads w kv x.kids.length 1 (Dc.ints x.kids)) (hok : Dc.NodeOk (h.map (·.1)) x) (hkd : x.kind = 0) (hno : x.kids = []) (hv : Lib.validD x.text.data.toList = true) (hft : Impl.fits x.tag.data.toList x.text.data.toList = true) (hsz : x.text.size ≤ 2000) : Calls Tryd.prog 39 #[gv, .agg #[.int .i64 x.kind, .string x.tag, .string x.text, kv]] w fun e w' => e = .returned (.bool true) ∧ Below w.heap.size w w' := by
 have hinr := hok.kin
 rw [List.length_map] at hinr
 have hm := Reads.len_le hF
 refine enter Tryd.func39 rfl fun A d0 s0 v0 => ?_
 have s0 : A.tmps.size = 77 := s0
 have y0 : A.eval (.tmp 0) = gv := v0 0 (by simp)
 have y1 : A.eval (.tmp 1) = .agg #[.int .i64 x.kind, .string x.tag, .string x.text, kv] := v0 1 (by simp)
 clear v0
 have bl0 : Below w.heap.size w w := Below.refl _ _
 refine wp_seq (regionT (n := 3) rfl ?_)
 refine tail_ex rfl rfl rfl (box_ex (cs := #[gv]) rfl y0 (by obtain ⟨A0_, c0_, ev0_⟩ := Reads.shape hF; subst ev0_; rfl)) s0 rfl fun v_1 w1 A R d1 s1 y2 hr => ?_
 obtain ⟨g2_1, ev_1, rg_1, lg2_, kg2_, b_1⟩ := R
 have y1 := k1 hr y1
 have d1 := d1.trans d0
 have Fgr_ := Reads.below hF b_1
 have Fkj_ := Reads.below hkv b_1
 have bl1 := bl0.trans (b_1.mono bl0.size)
 rw [ev_1] at y2
 refine tail_ex rfl rfl rfl (box_ex (cs := #[.int .i64 x.kind, .string x.tag, .string x.text, kv]) rfl y1 (by obtain ⟨A3_, c3_, ev3_⟩ := Reads.shape Fkj_; subst ev3_; rfl)) s1 rfl fun v_2 w2 A R d2 s2 y3 hr => ?_
 obtain ⟨g3_2, ev_2, rg_2, lg3_, kg3_, b_2⟩ := R
 have y2 := k1 hr y2
 have d2 := d2.trans d1
 have kg2_1_ := (b_2.block _ lg2_).trans kg2_
 have lg2_1_ := Nat.lt_of_lt_of_le lg2_ b_2.size
 have Fgr_ := Reads.below Fgr_ b_2
 have Fkj_ := Reads.below Fkj_ b_2
 have bl2 := bl1.trans (b_2.mono bl1.size)
 rw [ev_2] at y3
 refine tail_val rfl rfl rfl (ra (rfl : A.eval (.const (.bool false)) = .bool false)) s2 rfl fun A d3 s3 hv hr => ?_
 have ⟨y2, y3⟩ := k2 hr y2 y3
 have d3 := d3.trans d2
 clear hv hr
 refine tail_nil (wp_seq ?_)
 refine regionT (n := 2) rfl (tail_val (w1 := w2) (v := .func (.func 72) #[] #[.pointer (some ⟨g2_1, 0, none⟩)]) rfl rfl rfl (o1 y2) s3 rfl ?_)
 intro A d4 s4 y8 hr
 have y3 := k1 hr y3
 have d4 := d4.trans d3
 refine tail_val rfl rfl rfl (ra y8) s4 rfl fun A d5 s5 y5 hr => ?_
 have y3 := k1 hr y3
 have d5 := d5.trans d4
 refine tail_nil (wp_seq (wp_seq ?_))
 refine (wpIn_wide (n := 1)).1 (EngI.regionT (n := 4) rfl ?_)
 refine EngI.tw (w1 := w2) (v := .pointer (some ⟨g3_2, 3, none⟩)) rfl ?_ s5 d5 ?_
 ·exact fb Tryd.underlying57 3 y3
 intro A d6 s6 y9 hr
 have ⟨y3, y5⟩ := k2 hr y3 y5
 refine EngI.tw (w1 := w2) (v := kv) rfl ?_ s6 d6 ?_
 ·exact lb y9 (((Below.refl _ _).block _ lg3_).trans kg3_)
 intro A d7 s7 y10 hr
 have ⟨y3, y5⟩ := k2 hr y3 y5
 refine EngI.tw rfl (rv y5) s7 d7 fun A d8 s8 y11 hr => ?_
 have ⟨y3, y10⟩ := k2 hr y3 y10
 refine EngI.tail_call EngI.free_wide Tryd.func74 (by kernel_rfl) (by kernel_rfl) rfl rfl rfl rfl #[kv, .func (.func 72) #[] #[.pointer (some ⟨g2_1, 0, none⟩)]] (m2 y10 y11) s8 rfl (R := fun v w_ => v = .bool false ∧ Below w2.heap.size w2 w_) ((Dc.far_contains g2_1 gv h kv x.kids _ (((Below.refl _ _).block _ lg2_1_).trans kg2_1_) Fgr_ Fkj_ hinr).mono ?_) fun v_9 w9 A R d9 s9 hv hr => ?_
 ·rintro e w_ ⟨rfl, hb⟩; exact ⟨_, rfl, rfl, hb⟩
 obtain ⟨ev_9, b_9⟩ := R
 have y3 := k1 hr y3
 have y12 : A.eval (.tmp 12) = .bool false := (hv.trans ev_9)
 have d9 := d9.trans d8
 clear hv hr
 have kg3_2_ := (b_9.block _ lg3_).trans kg3_
 have lg3_2_ := Nat.lt_of_lt_of_le lg3_ b_9.size
 have Fkj_ := Reads.below Fkj_ b_9
 have bl9 := bl2.trans (b_9.mono bl2.size)
 refine EngI.tail_nil ?_
 have n12 : false = false := by
  rfl
 refine wp_cond_false (y12.trans (by rw [n12])) (wp_skip ?_)
 refine wp_seq (wp_seq ?_)
 obtain ⟨q15, Bq15⟩ := nm (x.kind == 0)
 refine rP [.pointer (some ⟨g3_2, 0, none⟩), .int .i64 x.kind, .bool q15] 3 0 s9 (.c (pq fun a w' H => fb Tryd.underlying57 0 (H.q 3 y3)) (.c (pq fun a w' H => lb (H.d 0 13) (H.x lg3_2_ kg3_2_)) (.c (pv fun a w' H => vr (bb Bq15) (ok (.int .i64 0) (H.d 1 14))) .nil))) fun A w10 T => ?_
 have y3 := T.r1 y3
 have ⟨kg3_2_, lg3_2_⟩ := T.y kg3_2_ lg3_2_
 have Fkj_ := T.f Fkj_
 have y15 := T.u 2 15
 have ⟨d10, s10, bl10⟩ := T.h d9 s9 bl9
 clear T
 refine tail_nil ?_
 have n15 : q15 = true := by
  try simp only [Bq15]
  rw [hkd]; rfl
 refine wp_cond_true (y15.trans (by rw [n15])) (wp_seq ?_)
 refine (wpIn_wide (n := 1)).1 (EngI.regionT (n := 17) rfl ?_)
 refine EngI.tw (w1 := w10) (v := .pointer (some ⟨g3_2, 3, none⟩)) rfl ?_ s10 d10 ?_
 ·exact fb Tryd.underlying57 3 y3
 intro A d11 s11 y16 hr
 have y3 := k1 hr y3
 refine EngI.tw (w1 := w10) (v := kv) rfl ?_ s11 d11 ?_
 ·exact lb y16 (((Below.refl _ _).block _ lg3_2_).trans kg3_2_)
 intro A d12 s12 y17 hr
 have y3 := k1 hr y3
 refine EngI.tw (w1 := w10) (v := .int .i64 ((x.kids.length : Nat) : Int)) rfl ?_ s12 d12 ?_
 ·exact run_len_sl rfl Tryd.underlying55 y17 Fkj_
 intro A d13 s13 y18 hr
 have y3 := k1 hr y3
 refine EngI.tw (w1 := w10) (v := .bool (((x.kids.length : Nat) : Int) == 0)) rfl (ok (.int .i64 0) y18) s13 d13 ?_
 intro A d14 s14 hv hr
 have y3 := k1 hr y3
 have y19 : A.eval (.tmp 19) = .bool true := hv.trans (congrArg Value.bool ((by rw [hno]; rfl) : _ = true))
 clear hv hr
 refine EngI.tw rfl (rv y19) s14 d14 fun A d15 s15 y20 hr => ?_
 have y3 := k1 hr y3
 refine EngG.tail_val (w1 := w10) (v := .pointer (some ⟨g3_2, 2, none⟩)) EngI.free_wide rfl (EngG.wanted_on (want := true) rfl rfl rfl (by rw [s15]; decide) y20) rfl rfl ?_ s15 rfl ?_
 ·exact fb Tryd.underlying57 2 y3
 intro A d16 s16 y21 hr
 have ⟨y3, y20⟩ := k2 hr y3 y20
 have d16 := d16.trans d15
 refine EngG.tail_val (w1 := w10) (v := .string x.text) EngI.free_wide rfl (EngG.wanted_on (want := true) rfl rfl rfl (by rw [s16]; decide) y20) rfl rfl ?_ s16 rfl ?_
 ·exact lb y21 (((Below.refl _ _).block _ lg3_2_).trans kg3_2_)
 intro A d17 s17 y22 hr
 have ⟨y3, y20⟩ := k2 hr y3 y20
 have d17 := d17.trans d16
 refine EngG.tail_call EngI.free_wide Tryd.func64 (by kernel_rfl) (by kernel_rfl) rfl (EngG.wanted_on (want := true) rfl rfl rfl (by rw [s17]; decide) y20) rfl rfl #[.string x.text] (m1 y22) s17 rfl (R := fun v w_ => v = .bool true ∧ Below w10.heap.size w10 w_) ((Dc.valid_true x.text _ (Nat.le_trans hsz (by decide)) hv (Tabs.below (Tabs.below hT bl10) (Below.refl _ _))).mono ?_) fun v_18 w18 A R d18 s18 hv hr => ?_
 ·rintro e w_ ⟨rfl, hb⟩; exact ⟨_, rfl, rfl, hb⟩
 obtain ⟨ev_18, b_18⟩ := R
 have ⟨y3, y20⟩ := k2 hr y3 y20
 have y23 : A.eval (.tmp 23) = .bool true := (hv.trans ev_18)
 have d18 := d18.trans d17
 clear hv hr
 have kg3_2_ := (b_18.block _ lg3_2_).trans kg3_2_
 have lg3_2_ := Nat.lt_of_lt_of_le lg3_2_ b_18.size
 have bl18 := bl10.trans (b_18.mono bl10.size)
 refine EngI.tw rfl (run_pick rfl y20 (v := .bool true) (by exact y23)) s18 d18 fun A d19 s19 y24 hr => ?_
 have y3 := k1 hr y3
 refine EngI.tw rfl (rv y24) s19 d19 fun A d20 s20 y25 hr => ?_
 have y3 := k1 hr y3
 refine EngG.tail_val (w1 := w18) (v := .pointer (some ⟨g3_2, 1, none⟩)) EngI.free_wide rfl (EngG.wanted_on (want := true) rfl rfl rfl (by rw [s20]; decide) y25) rfl rfl ?_ s20 rfl ?_
 ·exact fb Tryd.underlying57 1 y3
 intro A d21 s21 y26 hr
 have ⟨y3, y25⟩ := k2 hr y3 y25
 have d21 := d21.trans d20
 refine EngG.tail_val (w1 := w18) (v := .string x.tag) EngI.free_wide rfl (EngG.wanted_on (want := true) rfl rfl rfl (by rw [s21]; decide) y25) rfl rfl ?_ s21 rfl ?_
 ·exact lb y26 (((Below.refl _ _).block _ lg3_2_).trans kg3_2_)
 intro A d22 s22 y27 hr
 have ⟨y3, y25⟩ := k2 hr y3 y25
 have d22 := d22.trans d21
 refine EngG.tail_val (w1 := w18) (v := .pointer (some ⟨g3_2, 2, none⟩)) EngI.free_wide rfl (EngG.wanted_on (want := true) rfl rfl rfl (by rw [s22]; decide) y25) rfl rfl ?_ s22 rfl ?_
 ·exact fb Tryd.underlying57 2 y3
 intro A d23 s23 y28 hr
 have ⟨y25, y27⟩ := k2 hr y25 y27
 have d23 := d23.trans d22
 refine EngG.tail_val (w1 := w18) (v := .string x.text) EngI.free_wide rfl (EngG.wanted_on (want := true) rfl rfl rfl (by rw [s23]; decide) y25) rfl rfl ?_ s23 rfl ?_
 ·exact lb y28 (((Below.refl _ _).block _ lg3_2_).trans kg3_2_)
 intro A d24 s24 y29 hr
 have ⟨y25, y27⟩ := k2 hr y25 y27
 have d24 := d24.trans d23
 refine EngG.tail_call EngI.free_wide Tryd.func25 (by kernel_rfl) (by kernel_rfl) rfl (EngG.wanted_on (want := true) rfl rfl rfl (by rw [s24]; decide) y25) rfl rfl #[.string x.tag, .string x.text] (m2 y27 y29) s24 rfl (R := fun v w_ => v = .bool true ∧ Below w18.heap.size w18 w_) ((Dc.fits_true x.tag x.text _ hsz hft).mono ?_) fun v_25 w25 A R d25 s25 hv hr => ?_
 ·rintro e w_ ⟨rfl, hb⟩; exact ⟨_, rfl, rfl, hb⟩
 obtain ⟨ev_25, b_25⟩ := R
 have y25 := k1 hr y25
 have y30 : A.eval (.tmp 30) = .bool true := (hv.trans ev_25)
 have d25 := d25.trans d24
 clear hv hr
 have bl25 := bl18.trans (b_25.mono bl18.size)
 refine EngI.tw rfl (run_pick rfl y25 (v := .bool true) (by exact y30)) s25 d25 fun A d26 s26 y31 hr => EngI.tw rfl (ra y31) s26 d26 fun A d27 s27 y4 hr => EngI.tail_nil (wp_ret ?_)
 repeat (first | with_reducible refine in_ret ?_ | with_reducible refine then_ret ?_)
 exact ret1 rfl d27 y4 ⟨rfl, bl25⟩
end Go.Proofs.YtgnmjaacnmkgnaaDoor.X
end
