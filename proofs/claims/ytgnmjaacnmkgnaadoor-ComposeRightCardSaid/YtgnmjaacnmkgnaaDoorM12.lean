/- Words and walks that the row of ComposeRight needs: printed by programs, and plain laws. -/
import Derived.Test.YtgnmjaacnmkgnaaDoorM11
import Derived.Test.YtgnmjaacnmkgnaaDoorM3
import Derived.DeepKeys5
import Derived.WideKeyEntry
namespace Go.Proofs.YtgnmjaacnmkgnaaDoorW.PrintWords
end Go.Proofs.YtgnmjaacnmkgnaaDoorW.PrintWords
namespace Go.Proofs.YtgnmjaacnmkgnaaDoorW.PrintLast
end Go.Proofs.YtgnmjaacnmkgnaaDoorW.PrintLast
namespace Go.Proofs.YtgnmjaacnmkgnaaDoorW.PrintMore
end Go.Proofs.YtgnmjaacnmkgnaaDoorW.PrintMore
section
namespace Go.Proofs.YtgnmjaacnmkgnaaDoor.X
open Go.RowKit Go.Shelf Go.Proofs Go.Proofs.YtgnmjaacnmkgnaaDoorW.PrintWords Go.Proofs.YtgnmjaacnmkgnaaDoorW.PrintLast Go.Proofs.YtgnmjaacnmkgnaaDoorW.PrintMore Go.Proofs.Eng
set_option linter.unusedVariables false
set_option linter.unusedSimpArgs false
attribute [local go_sem] max2_int min2_int max_two min_two
set_option maxHeartbeats 4000000 in
set_option maxRecDepth 100000 in
theorem Dc.right_seq (gv kv : Value) (h : List Dc.NV) (x : Dc.Nd) (w : World) (hT : Tabs.Holds w) (hF : Reads w gv h.length 4 (Dc.cells h)) (hkv : Reads w kv x.kids.length 1 (Dc.ints x.kids)) (hok : Dc.NodeOk (h.map (·.1)) x) (hkd : x.kind = 1) (cc : Bool) (hr1 : T.tag_Right.f x.tag = some true) (hr2 : T.tag_Core.f x.tag = some cc) (htg : cc = true → x.tag = ⟨#[115, 101, 113]⟩) (htx : x.text = ⟨#[]⟩) : Calls Tryd.prog 39 #[gv, .agg #[.int .i64 x.kind, .string x.tag, .string x.text, kv]] w fun e w' => e = .returned (.bool true) ∧ Below w.heap.size w w' := by
 have hinr := hok.kin
 rw [List.length_map] at hinr
 have hm := Reads.len_le hF
 refine enter Tryd.func39 rfl fun A d0 s0 v0 => ?_
 have s0 : A.tmps.size = 77 := s0
 have y0 : A.eval (.tmp 0) = gv := v0 0 (by simp)
 have y1 : A.eval (.tmp 1) = .agg #[.int .i64 x.kind, .string x.tag, .string x.text, kv] := v0 1 (by simp)
 clear v0
 have bl0 : Below w.heap.size w w := Below.refl _ _
 refine wp_seq (regionT (n := 3) rfl ?_)
 refine tail_ex rfl rfl rfl (box_ex (cs := #[gv]) rfl y0 (by obtain ⟨A0_, c0_, ev0_⟩ := Reads.shape hF; subst ev0_; rfl)) s0 rfl fun v_1 w1 A R d1 s1 y2 hr => ?_
 obtain ⟨g2_1, ev_1, rg_1, lg2_, kg2_, b_1⟩ := R
 have y1 := k1 hr y1
 have d1 := d1.trans d0
 have Fgr_ := Reads.below hF b_1
 have Fkj_ := Reads.below hkv b_1
 have bl1 := bl0.trans (b_1.mono bl0.size)
 rw [ev_1] at y2
 refine tail_ex rfl rfl rfl (box_ex (cs := #[.int .i64 x.kind, .string x.tag, .string x.text, kv]) rfl y1 (by obtain ⟨A3_, c3_, ev3_⟩ := Reads.shape Fkj_; subst ev3_; rfl)) s1 rfl fun v_2 w2 A R d2 s2 y3 hr => ?_
 obtain ⟨g3_2, ev_2, rg_2, lg3_, kg3_, b_2⟩ := R
 have y2 := k1 hr y2
 have d2 := d2.trans d1
 have kg2_1_ := (b_2.block _ lg2_).trans kg2_
 have lg2_1_ := Nat.lt_of_lt_of_le lg2_ b_2.size
 have Fgr_ := Reads.below Fgr_ b_2
 have Fkj_ := Reads.below Fkj_ b_2
 have bl2 := bl1.trans (b_2.mono bl1.size)
 rw [ev_2] at y3
 refine tail_val rfl rfl rfl (ra (rfl : A.eval (.const (.bool false)) = .bool false)) s2 rfl fun A d3 s3 hv hr => ?_
 have ⟨y2, y3⟩ := k2 hr y2 y3
 have d3 := d3.trans d2
 clear hv hr
 refine tail_nil (wp_seq ?_)
 refine regionT (n := 2) rfl (tail_val (w1 := w2) (v := .func (.func 72) #[] #[.pointer (some ⟨g2_1, 0, none⟩)]) rfl rfl rfl (o1 y2) s3 rfl ?_)
 intro A d4 s4 y8 hr
 have y3 := k1 hr y3
 have d4 := d4.trans d3
 refine tail_val rfl rfl rfl (ra y8) s4 rfl fun A d5 s5 y5 hr => ?_
 have y3 := k1 hr y3
 have d5 := d5.trans d4
 refine tail_nil (wp_seq (wp_seq ?_))
 refine (wpIn_wide (n := 1)).1 (EngI.regionT (n := 4) rfl ?_)
 refine EngI.tw (w1 := w2) (v := .pointer (some ⟨g3_2, 3, none⟩)) rfl ?_ s5 d5 ?_
 ·exact fb Tryd.underlying57 3 y3
 intro A d6 s6 y9 hr
 have ⟨y3, y5⟩ := k2 hr y3 y5
 refine EngI.tw (w1 := w2) (v := kv) rfl ?_ s6 d6 ?_
 ·exact lb y9 (((Below.refl _ _).block _ lg3_).trans kg3_)
 intro A d7 s7 y10 hr
 have ⟨y3, y5⟩ := k2 hr y3 y5
 refine EngI.tw rfl (rv y5) s7 d7 fun A d8 s8 y11 hr => ?_
 have ⟨y3, y10⟩ := k2 hr y3 y10
 refine EngI.tail_call EngI.free_wide Tryd.func74 (by kernel_rfl) (by kernel_rfl) rfl rfl rfl rfl #[kv, .func (.func 72) #[] #[.pointer (some ⟨g2_1, 0, none⟩)]] (m2 y10 y11) s8 rfl (R := fun v w_ => v = .bool false ∧ Below w2.heap.size w2 w_) ((Dc.far_contains g2_1 gv h kv x.kids _ (((Below.refl _ _).block _ lg2_1_).trans kg2_1_) Fgr_ Fkj_ hinr).mono ?_) fun v_9 w9 A R d9 s9 hv hr => ?_
 ·rintro e w_ ⟨rfl, hb⟩; exact ⟨_, rfl, rfl, hb⟩
 obtain ⟨ev_9, b_9⟩ := R
 have y3 := k1 hr y3
 have y12 : A.eval (.tmp 12) = .bool false := (hv.trans ev_9)
 have d9 := d9.trans d8
 clear hv hr
 have kg3_2_ := (b_9.block _ lg3_).trans kg3_
 have lg3_2_ := Nat.lt_of_lt_of_le lg3_ b_9.size
 have bl9 := bl2.trans (b_9.mono bl2.size)
 refine EngI.tail_nil ?_
 have n12 : false = false := by
  rfl
 refine wp_cond_false (y12.trans (by rw [n12])) (wp_skip ?_)
 refine wp_seq (wp_seq ?_)
 obtain ⟨q15, Bq15⟩ := nm (x.kind == 0)
 refine rP [.pointer (some ⟨g3_2, 0, none⟩), .int .i64 x.kind, .bool q15] 3 0 s9 (.c (pq fun a w' H => fb Tryd.underlying57 0 (H.q 3 y3)) (.c (pq fun a w' H => lb (H.d 0 13) (H.x lg3_2_ kg3_2_)) (.c (pv fun a w' H => vr (bb Bq15) (ok (.int .i64 0) (H.d 1 14))) .nil))) fun A w10 T => ?_
 have y3 := T.r1 y3
 have ⟨kg3_2_, lg3_2_⟩ := T.y kg3_2_ lg3_2_
 have y15 := T.u 2 15
 have ⟨d10, s10, bl10⟩ := T.h d9 s9 bl9
 clear T
 refine tail_nil ?_
 have n15 : q15 = false := by
  try simp only [Bq15]
  rw [hkd]; rfl
 refine wp_cond_false (y15.trans (by rw [n15])) (wp_skip ?_)
 refine wp_seq ((wpIn_wide (n := 1)).1 ?_)
 refine EngI.regionT (n := 10) rfl (EngI.tw (w1 := w10) (v := .pointer (some ⟨g3_2, 1, none⟩)) rfl ?_ s10 d10 ?_)
 ·exact fb Tryd.underlying57 1 y3
 intro A d11 s11 y32 hr
 have y3 := k1 hr y3
 refine EngI.tw (w1 := w10) (v := .string x.tag) rfl ?_ s11 d11 ?_
 ·exact lb y32 (((Below.refl _ _).block _ lg3_2_).trans kg3_2_)
 intro A d12 s12 y33 hr
 have y3 := k1 hr y3
 refine EngI.tail_call EngI.free_wide Tryd.func45 (by kernel_rfl) (by kernel_rfl) rfl rfl rfl rfl #[.string x.tag] (m1 y33) s12 rfl (R := fun v w_ => v = .bool true ∧ Below w10.heap.size w10 w_) ((T.tag_Right.calls x.tag true _ hr1).mono ?_) fun v_13 w13 A R d13 s13 hv hr => ?_
 ·rintro e w_ ⟨rfl, hb⟩; exact ⟨_, rfl, rfl, hb⟩
 obtain ⟨ev_13, b_13⟩ := R
 have y3 := k1 hr y3
 have y34 : A.eval (.tmp 34) = .bool true := (hv.trans ev_13)
 have d13 := d13.trans d12
 clear hv hr
 have kg3_2_ := (b_13.block _ lg3_2_).trans kg3_2_
 have lg3_2_ := Nat.lt_of_lt_of_le lg3_2_ b_13.size
 have bl13 := bl10.trans (b_13.mono bl10.size)
 refine EngI.tw rfl (rv y34) s13 d13 fun A d14 s14 y35 hr => ?_
 have y3 := k1 hr y3
 refine EngG.tail_val (w1 := w13) (v := .pointer (some ⟨g3_2, 1, none⟩)) EngI.free_wide rfl (EngG.wanted_on (want := true) rfl rfl rfl (by rw [s14]; decide) y35) rfl rfl ?_ s14 rfl ?_
 ·exact fb Tryd.underlying57 1 y3
 intro A d15 s15 y36 hr
 have ⟨y3, y35⟩ := k2 hr y3 y35
 have d15 := d15.trans d14
 refine EngG.tail_val (w1 := w13) (v := .string x.tag) EngI.free_wide rfl (EngG.wanted_on (want := true) rfl rfl rfl (by rw [s15]; decide) y35) rfl rfl ?_ s15 rfl ?_
 ·exact lb y36 (((Below.refl _ _).block _ lg3_2_).trans kg3_2_)
 intro A d16 s16 y37 hr
 have ⟨y3, y35⟩ := k2 hr y3 y35
 have d16 := d16.trans d15
 obtain ⟨q38, Bq38⟩ := nm (cc)
 refine EngG.tail_call EngI.free_wide Tryd.func46 (by kernel_rfl) (by kernel_rfl) rfl (EngG.wanted_on (want := true) rfl rfl rfl (by rw [s16]; decide) y35) rfl rfl #[.string x.tag] (m1 y37) s16 rfl (R := fun v w_ => v = .bool cc ∧ Below w13.heap.size w13 w_) ((Dc.core_calls x.tag cc _ hr2).mono ?_) fun v_17 w17 A R d17 s17 hv hr => ?_
 ·rintro e w_ ⟨rfl, hb⟩; exact ⟨_, rfl, rfl, hb⟩
 obtain ⟨ev_17, b_17⟩ := R
 have ⟨y3, y35⟩ := k2 hr y3 y35
 have y38 : A.eval (.tmp 38) = .bool q38 := (hv.trans ev_17).trans (congrArg Value.bool Bq38.symm)
 have d17 := d17.trans d16
 clear hv hr
 have kg3_2_ := (b_17.block _ lg3_2_).trans kg3_2_
 have lg3_2_ := Nat.lt_of_lt_of_le lg3_2_ b_17.size
 have bl17 := bl13.trans (b_17.mono bl13.size)
 refine EngG.tail_val EngI.free_wide rfl (EngG.wanted_on (want := true) rfl rfl rfl (by rw [s17]; decide) y35) rfl rfl (run_not rfl y38) s17 rfl fun A d18 s18 y39 hr => ?_
 have ⟨y3, y35⟩ := k2 hr y3 y35
 have d18 := d18.trans d17
 refine EngI.tw rfl (run_pick rfl y35 (v := .bool (!q38)) (by exact y39)) s18 d18 fun A d19 s19 y40 hr => ?_
 have y3 := k1 hr y3
 refine EngI.tw rfl (ra y40) s19 d19 fun A d20 s20 y6 hr => ?_
 have y3 := k1 hr y3
 refine EngI.tail_nil (wp_seq (wp_seq ?_))
 refine rP [.pointer (some ⟨g3_2, 0, none⟩), .int .i64 x.kind] 2 0 s20 (.c (pq fun a w' H => fb Tryd.underlying57 0 (H.q 3 y3)) (.c (pq fun a w' H => lb (H.d 0 41) (H.x lg3_2_ kg3_2_)) .nil)) fun A w21 T => ?_
 have ⟨y3, y6⟩ := T.r2 y3 y6
 have ⟨kg3_2_, lg3_2_⟩ := T.y kg3_2_ lg3_2_
 have y42 := T.u 1 42
 have ⟨d21, s21, bl21⟩ := T.h d20 s20 bl17
 clear T
 refine tail_nil (wp_block ?_)
 refine wp_seq ?_
 obtain ⟨q44, Bq44⟩ := nm (x.kind == 1)
 refine rP [.bool q44, .bool q44] 2 0 s21 (.c (pv fun a w' H => vr (bb Bq44) (ok (.int .i64 1) (H.q 42 y42))) (.c (qe 0 44) .nil)) fun A w22 T => ?_
 have ⟨y3, y6⟩ := T.r2 y3 y6
 have ⟨kg3_2_, lg3_2_⟩ := T.y kg3_2_ lg3_2_
 have y43 := T.u 1 43
 have ⟨d22, s22, bl22⟩ := T.h d21 s21 bl21
 clear T
 refine tail_nil ?_
 have n43 : q44 = true := by
  try simp only [Bq44, Bq38, Bq15]
  rw [hkd]; rfl
 refine wp_cond_true (y43.trans (by rw [n43])) ((wpIn_wide (n := 1)).1 ?_)
 refine EngI.regionT (n := 7) rfl (EngI.tw rfl (rv y6) s22 d22 fun A d23 s23 y45 hr => ?_)
 have ⟨y3, y6⟩ := k2 hr y3 y6
 refine EngI.tw rfl (rv y45) s23 d23 fun A d24 s24 y46 hr => ?_
 have ⟨y3, y6, y45⟩ := k3 hr y3 y6 y45
 rcases Bool.eq_false_or_eq_true (!q38) with hq | hq
 ·
  have kn25 := hq
  have c46 := hq
  clear hq
  have h6_kn25 := y6.trans (congrArg Value.bool kn25)
  have h45_kn25 := y45.trans (congrArg Value.bool kn25)
  have h46_kn25 := y46.trans (congrArg Value.bool kn25)
  refine EngG.tail_off EngI.free_wide rfl (EngG.wanted_off (want := false) rfl rfl rfl (by rw [s24]; decide) h46_kn25) rfl s24 rfl fun A d26 s26 hr => ?_
  have y3 := k1 hr y3
  have y46 : A.eval (.tmp 46) = .bool true := (hr 46 rfl).trans h46_kn25
  have d26 := d26.trans d24
  refine EngG.tail_off EngI.free_wide rfl (EngG.wanted_off (want := false) rfl rfl rfl (by rw [s26]; decide) y46) rfl s26 rfl fun A d27 s27 hr => ?_
  have ⟨y3, y46⟩ := k2 hr y3 y46
  have d27 := d27.trans d26
  refine EngG.tail_off EngI.free_wide rfl (EngG.wanted_off (want := false) rfl rfl rfl (by rw [s27]; decide) y46) rfl s27 rfl fun A d28 s28 hr => ?_
  have ⟨y3, y46⟩ := k2 hr y3 y46
  have d28 := d28.trans d27
  refine EngI.tw rfl (run_pick rfl y46 (v := .bool true) (by exact (rfl : A.eval (.const (.bool true)) = .bool true))) s28 d28 fun A d29 s29 y50 hr => ?_
  have y3 := k1 hr y3
  refine EngI.tw rfl (ra y50) s29 d29 fun A d30 s30 y6 hr => ?_
  have y3 := k1 hr y3
  refine EngI.tail_nil (wp_seq ?_)
  refine (wpIn_wide (n := 1)).1 (EngI.regionT (n := 7) rfl ?_)
  refine EngI.tw rfl (rv y6) s30 d30 fun A d31 s31 y71 hr => ?_
  have y3 := k1 hr y3
  refine EngI.tw rfl (rv y71) s31 d31 fun A d32 s32 y72 hr => ?_
  have y3 := k1 hr y3
  refine EngG.tail_val (w1 := w22) (v := .pointer (some ⟨g3_2, 2, none⟩)) EngI.free_wide rfl (EngG.wanted_on (want := true) rfl rfl rfl (by rw [s32]; decide) y72) rfl rfl ?_ s32 rfl ?_
  ·exact fb Tryd.underlying57 2 y3
  intro A d33 s33 y73 hr
  have y72 := k1 hr y72
  have d33 := d33.trans d32
  refine EngG.tail_val (w1 := w22) (v := .string x.text) EngI.free_wide rfl (EngG.wanted_on (want := true) rfl rfl rfl (by rw [s33]; decide) y72) rfl rfl ?_ s33 rfl ?_
  ·exact lb y73 (((Below.refl _ _).block _ lg3_2_).trans kg3_2_)
  intro A d34 s34 y74 hr
  have y72 := k1 hr y72
  have d34 := d34.trans d33
  refine EngG.tail_val (w1 := w22) (v := .bool x.text.toList.isEmpty) EngI.free_wide rfl (EngG.wanted_on (want := true) rfl rfl rfl (by rw [s34]; decide) y72) rfl rfl (ok (.string ⟨#[]⟩) y74) s34 rfl ?_
  intro A d35 s35 hv hr
  have y72 := k1 hr y72
  have y75 : A.eval (.tmp 75) = .bool true := hv.trans (congrArg Value.bool ((by rw [htx]; exact Dc.em_nil) : _ = true))
  have d35 := d35.trans d34
  clear hv hr
  refine EngI.tw rfl (run_pick rfl y72 (v := .bool true) (by exact y75)) s35 d35 fun A d36 s36 y76 hr => EngI.tw rfl (ra y76) s36 d36 fun A d37 s37 y4 hr => EngI.tail_nil (wp_ret ?_)
  repeat (first | with_reducible refine in_ret ?_ | with_reducible refine then_ret ?_)
  exact ret1 rfl d37 y4 ⟨rfl, bl22⟩
 have kn38 := hq
 have c46 := hq
 clear hq
 have h6_kn38 := y6.trans (congrArg Value.bool kn38)
 have h45_kn38 := y45.trans (congrArg Value.bool kn38)
 have h46_kn38 := y46.trans (congrArg Value.bool kn38)
 refine EngG.tail_val (w1 := w22) (v := .pointer (some ⟨g3_2, 1, none⟩)) EngI.free_wide rfl (EngG.wanted_on (want := false) rfl rfl rfl (by rw [s24]; decide) h46_kn38) rfl rfl ?_ s24 rfl ?_
 ·exact fb Tryd.underlying57 1 y3
 intro A d39 s39 y47 hr
 have y3 := k1 hr y3
 have y46 : A.eval (.tmp 46) = .bool false := (hr 46 rfl).trans h46_kn38
 have d39 := d39.trans d24
 refine EngG.tail_val (w1 := w22) (v := .string x.tag) EngI.free_wide rfl (EngG.wanted_on (want := false) rfl rfl rfl (by rw [s39]; decide) y46) rfl rfl ?_ s39 rfl ?_
 ·exact lb y47 (((Below.refl _ _).block _ lg3_2_).trans kg3_2_)
 intro A d40 s40 y48 hr
 have ⟨y3, y46⟩ := k2 hr y3 y46
 have d40 := d40.trans d39
 refine EngG.tail_val (w1 := w22) (v := .bool (x.tag.toList == (⟨#[115, 101, 113]⟩ : ByteArray).toList)) EngI.free_wide rfl (EngG.wanted_on (want := false) rfl rfl rfl (by rw [s40]; decide) y46) rfl rfl (ok (.string ⟨#[115, 101, 113]⟩) y48) s40 rfl ?_
 intro A d41 s41 hv hr
 have ⟨y3, y46⟩ := k2 hr y3 y46
 have y49 : A.eval (.tmp 49) = .bool true := hv.trans (congrArg Value.bool ((by rw [htg (by have h_ := c46; rw [Bq38] at h_; simpa using h_)]; exact beq_self_eq_true _) : _ = true))
 have d41 := d41.trans d40
 clear hv hr
 refine EngI.tw rfl (run_pick rfl y46 (v := .bool true) (by exact y49)) s41 d41 fun A d42 s42 y50 hr => ?_
 have y3 := k1 hr y3
 refine EngI.tw rfl (ra y50) s42 d42 fun A d43 s43 y6 hr => ?_
 have y3 := k1 hr y3
 refine EngI.tail_nil (wp_seq ?_)
 refine (wpIn_wide (n := 1)).1 (EngI.regionT (n := 7) rfl ?_)
 refine EngI.tw rfl (rv y6) s43 d43 fun A d44 s44 y71 hr => ?_
 have y3 := k1 hr y3
 refine EngI.tw rfl (rv y71) s44 d44 fun A d45 s45 y72 hr => ?_
 have y3 := k1 hr y3
 refine EngG.tail_val (w1 := w22) (v := .pointer (some ⟨g3_2, 2, none⟩)) EngI.free_wide rfl (EngG.wanted_on (want := true) rfl rfl rfl (by rw [s45]; decide) y72) rfl rfl ?_ s45 rfl ?_
 ·exact fb Tryd.underlying57 2 y3
 intro A d46 s46 y73 hr
 have y72 := k1 hr y72
 have d46 := d46.trans d45
 refine EngG.tail_val (w1 := w22) (v := .string x.text) EngI.free_wide rfl (EngG.wanted_on (want := true) rfl rfl rfl (by rw [s46]; decide) y72) rfl rfl ?_ s46 rfl ?_
 ·exact lb y73 (((Below.refl _ _).block _ lg3_2_).trans kg3_2_)
 intro A d47 s47 y74 hr
 have y72 := k1 hr y72
 have d47 := d47.trans d46
 refine EngG.tail_val (w1 := w22) (v := .bool x.text.toList.isEmpty) EngI.free_wide rfl (EngG.wanted_on (want := true) rfl rfl rfl (by rw [s47]; decide) y72) rfl rfl (ok (.string ⟨#[]⟩) y74) s47 rfl ?_
 intro A d48 s48 hv hr
 have y72 := k1 hr y72
 have y75 : A.eval (.tmp 75) = .bool true := hv.trans (congrArg Value.bool ((by rw [htx]; exact Dc.em_nil) : _ = true))
 have d48 := d48.trans d47
 clear hv hr
 refine EngI.tw rfl (run_pick rfl y72 (v := .bool true) (by exact y75)) s48 d48 fun A d49 s49 y76 hr => EngI.tw rfl (ra y76) s49 d49 fun A d50 s50 y4 hr => EngI.tail_nil (wp_ret ?_)
 repeat (first | with_reducible refine in_ret ?_ | with_reducible refine then_ret ?_)
 exact ret1 rfl d50 y4 ⟨rfl, bl22⟩
end Go.Proofs.YtgnmjaacnmkgnaaDoor.X
end
section
namespace Go.Proofs.YtgnmjaacnmkgnaaDoor.X
open Go.RowKit Go.Shelf Go.Proofs Go.Proofs.YtgnmjaacnmkgnaaDoorW.PrintWords Go.Proofs.YtgnmjaacnmkgnaaDoorW.PrintLast Go.Proofs.YtgnmjaacnmkgnaaDoorW.PrintMore Go.Proofs.Eng
set_option linter.unusedVariables false
set_option linter.unusedSimpArgs false
attribute [local go_sem] max2_int min2_int max_two min_two
set_option maxHeartbeats 4000000 in
set_option maxRecDepth 100000 in
theorem Dc.right_map (gv kv : Value) (h : List Dc.NV) (x : Dc.Nd) (w : World) (hT : Tabs.Holds w) (hF : Reads w gv h.length 4 (Dc.cells h)) (hkv : Reads w kv x.kids.length 1 (Dc.ints x.kids)) (hok : Dc.NodeOk (h.map (·.1)) x) (hkd : x.kind = 2) (cc : Bool) (hr1 : T.tag_Right.f x.tag = some true) (hr2 : T.tag_Core.f x.tag = some cc) (htg : cc = true → x.tag = ⟨#[109, 97, 112]⟩) (htx : x.text = ⟨#[]⟩) (hev : Int.tmod (x.kids.length : Int) 2 = 0) (hkr : ∀ i ∈ Dc.keysL x.kids, 0 ≤ i ∧ i.toNat < h.length ∧ (h.getD i.toNat default).1.kind = 0) : Calls Tryd.prog 39 #[gv, .agg #[.int .i64 x.kind, .string x.tag, .string x.text, kv]] w fun e w' => e = .returned (.bool true) ∧ Below w.heap.size w w' := by
 have hinr := hok.kin
 rw [List.length_map] at hinr
 have hm := Reads.len_le hF
 refine enter Tryd.func39 rfl fun A d0 s0 v0 => ?_
 have s0 : A.tmps.size = 77 := s0
 have y0 : A.eval (.tmp 0) = gv := v0 0 (by simp)
 have y1 : A.eval (.tmp 1) = .agg #[.int .i64 x.kind, .string x.tag, .string x.text, kv] := v0 1 (by simp)
 clear v0
 have bl0 : Below w.heap.size w w := Below.refl _ _
 refine wp_seq (regionT (n := 3) rfl ?_)
 refine tail_ex rfl rfl rfl (box_ex (cs := #[gv]) rfl y0 (by obtain ⟨A0_, c0_, ev0_⟩ := Reads.shape hF; subst ev0_; rfl)) s0 rfl fun v_1 w1 A R d1 s1 y2 hr => ?_
 obtain ⟨g2_1, ev_1, rg_1, lg2_, kg2_, b_1⟩ := R
 have y1 := k1 hr y1
 have d1 := d1.trans d0
 have Fgr_ := Reads.below hF b_1
 have Fkj_ := Reads.below hkv b_1
 have bl1 := bl0.trans (b_1.mono bl0.size)
 rw [ev_1] at y2
 refine tail_ex rfl rfl rfl (box_ex (cs := #[.int .i64 x.kind, .string x.tag, .string x.text, kv]) rfl y1 (by obtain ⟨A3_, c3_, ev3_⟩ := Reads.shape Fkj_; subst ev3_; rfl)) s1 rfl fun v_2 w2 A R d2 s2 y3 hr => ?_
 obtain ⟨g3_2, ev_2, rg_2, lg3_, kg3_, b_2⟩ := R
 have y2 := k1 hr y2
 have d2 := d2.trans d1
 have kg2_1_ := (b_2.block _ lg2_).trans kg2_
 have lg2_1_ := Nat.lt_of_lt_of_le lg2_ b_2.size
 have Fgr_ := Reads.below Fgr_ b_2
 have Fkj_ := Reads.below Fkj_ b_2
 have bl2 := bl1.trans (b_2.mono bl1.size)
 rw [ev_2] at y3
 refine tail_val rfl rfl rfl (ra (rfl : A.eval (.const (.bool false)) = .bool false)) s2 rfl fun A d3 s3 hv hr => ?_
 have ⟨y2, y3⟩ := k2 hr y2 y3
 have d3 := d3.trans d2
 clear hv hr
 refine tail_nil (wp_seq ?_)
 refine regionT (n := 2) rfl (tail_val (w1 := w2) (v := .func (.func 72) #[] #[.pointer (some ⟨g2_1, 0, none⟩)]) rfl rfl rfl (o1 y2) s3 rfl ?_)
 intro A d4 s4 y8 hr
 have ⟨y2, y3⟩ := k2 hr y2 y3
 have d4 := d4.trans d3
 refine tail_val rfl rfl rfl (ra y8) s4 rfl fun A d5 s5 y5 hr => ?_
 have ⟨y2, y3⟩ := k2 hr y2 y3
 have d5 := d5.trans d4
 refine tail_nil (wp_seq (wp_seq ?_))
 refine (wpIn_wide (n := 1)).1 (EngI.regionT (n := 4) rfl ?_)
 refine EngI.tw (w1 := w2) (v := .pointer (some ⟨g3_2, 3, none⟩)) rfl ?_ s5 d5 ?_
 ·exact fb Tryd.underlying57 3 y3
 intro A d6 s6 y9 hr
 have ⟨y2, y3, y5⟩ := k3 hr y2 y3 y5
 refine EngI.tw (w1 := w2) (v := kv) rfl ?_ s6 d6 ?_
 ·exact lb y9 (((Below.refl _ _).block _ lg3_).trans kg3_)
 intro A d7 s7 y10 hr
 have ⟨y2, y3, y5⟩ := k3 hr y2 y3 y5
 refine EngI.tw rfl (rv y5) s7 d7 fun A d8 s8 y11 hr => ?_
 have ⟨y2, y3, y10⟩ := k3 hr y2 y3 y10
 refine EngI.tail_call EngI.free_wide Tryd.func74 (by kernel_rfl) (by kernel_rfl) rfl rfl rfl rfl #[kv, .func (.func 72) #[] #[.pointer (some ⟨g2_1, 0, none⟩)]] (m2 y10 y11) s8 rfl (R := fun v w_ => v = .bool false ∧ Below w2.heap.size w2 w_) ((Dc.far_contains g2_1 gv h kv x.kids _ (((Below.refl _ _).block _ lg2_1_).trans kg2_1_) Fgr_ Fkj_ hinr).mono ?_) fun v_9 w9 A R d9 s9 hv hr => ?_
 ·rintro e w_ ⟨rfl, hb⟩; exact ⟨_, rfl, rfl, hb⟩
 obtain ⟨ev_9, b_9⟩ := R
 have ⟨y2, y3⟩ := k2 hr y2 y3
 have y12 : A.eval (.tmp 12) = .bool false := (hv.trans ev_9)
 have d9 := d9.trans d8
 clear hv hr
 have kg2_1_ := (b_9.block _ lg2_1_).trans kg2_1_
 have lg2_1_ := Nat.lt_of_lt_of_le lg2_1_ b_9.size
 have kg3_2_ := (b_9.block _ lg3_).trans kg3_
 have lg3_2_ := Nat.lt_of_lt_of_le lg3_ b_9.size
 have Fgr_ := Reads.below Fgr_ b_9
 have Fkj_ := Reads.below Fkj_ b_9
 have bl9 := bl2.trans (b_9.mono bl2.size)
 refine EngI.tail_nil ?_
 have n12 : false = false := by
  rfl
 refine wp_cond_false (y12.trans (by rw [n12])) (wp_skip ?_)
 refine wp_seq (wp_seq ?_)
 obtain ⟨q15, Bq15⟩ := nm (x.kind == 0)
 refine rP [.pointer (some ⟨g3_2, 0, none⟩), .int .i64 x.kind, .bool q15] 3 0 s9 (.c (pq fun a w' H => fb Tryd.underlying57 0 (H.q 3 y3)) (.c (pq fun a w' H => lb (H.d 0 13) (H.x lg3_2_ kg3_2_)) (.c (pv fun a w' H => vr (bb Bq15) (ok (.int .i64 0) (H.d 1 14))) .nil))) fun A w10 T => ?_
 have ⟨y2, y3⟩ := T.r2 y2 y3
 have ⟨kg2_1_, lg2_1_⟩ := T.y kg2_1_ lg2_1_
 have ⟨kg3_2_, lg3_2_⟩ := T.y kg3_2_ lg3_2_
 have Fgr_ := T.f Fgr_
 have Fkj_ := T.f Fkj_
 have y15 := T.u 2 15
 have ⟨d10, s10, bl10⟩ := T.h d9 s9 bl9
 clear T
 refine tail_nil ?_
 have n15 : q15 = false := by
  try simp only [Bq15]
  rw [hkd]; rfl
 refine wp_cond_false (y15.trans (by rw [n15])) (wp_skip ?_)
 refine wp_seq ((wpIn_wide (n := 1)).1 ?_)
 refine EngI.regionT (n := 10) rfl (EngI.tw (w1 := w10) (v := .pointer (some ⟨g3_2, 1, none⟩)) rfl ?_ s10 d10 ?_)
 ·exact fb Tryd.underlying57 1 y3
 intro A d11 s11 y32 hr
 have ⟨y2, y3⟩ := k2 hr y2 y3
 refine EngI.tw (w1 := w10) (v := .string x.tag) rfl ?_ s11 d11 ?_
 ·exact lb y32 (((Below.refl _ _).block _ lg3_2_).trans kg3_2_)
 intro A d12 s12 y33 hr
 have ⟨y2, y3⟩ := k2 hr y2 y3
 refine EngI.tail_call EngI.free_wide Tryd.func45 (by kernel_rfl) (by kernel_rfl) rfl rfl rfl rfl #[.string x.tag] (m1 y33) s12 rfl (R := fun v w_ => v = .bool true ∧ Below w10.heap.size w10 w_) ((T.tag_Right.calls x.tag true _ hr1).mono ?_) fun v_13 w13 A R d13 s13 hv hr => ?_
 ·rintro e w_ ⟨rfl, hb⟩; exact ⟨_, rfl, rfl, hb⟩
 obtain ⟨ev_13, b_13⟩ := R
 have ⟨y2, y3⟩ := k2 hr y2 y3
 have y34 : A.eval (.tmp 34) = .bool true := (hv.trans ev_13)
 have d13 := d13.trans d12
 clear hv hr
 have kg2_1_ := (b_13.block _ lg2_1_).trans kg2_1_
 have lg2_1_ := Nat.lt_of_lt_of_le lg2_1_ b_13.size
 have kg3_2_ := (b_13.block _ lg3_2_).trans kg3_2_
 have lg3_2_ := Nat.lt_of_lt_of_le lg3_2_ b_13.size
 have Fgr_ := Reads.below Fgr_ b_13
 have Fkj_ := Reads.below Fkj_ b_13
 have bl13 := bl10.trans (b_13.mono bl10.size)
 refine EngI.tw rfl (rv y34) s13 d13 fun A d14 s14 y35 hr => ?_
 have ⟨y2, y3⟩ := k2 hr y2 y3
 refine EngG.tail_val (w1 := w13) (v := .pointer (some ⟨g3_2, 1, none⟩)) EngI.free_wide rfl (EngG.wanted_on (want := true) rfl rfl rfl (by rw [s14]; decide) y35) rfl rfl ?_ s14 rfl ?_
 ·exact fb Tryd.underlying57 1 y3
 intro A d15 s15 y36 hr
 have ⟨y2, y3, y35⟩ := k3 hr y2 y3 y35
 have d15 := d15.trans d14
 refine EngG.tail_val (w1 := w13) (v := .string x.tag) EngI.free_wide rfl (EngG.wanted_on (want := true) rfl rfl rfl (by rw [s15]; decide) y35) rfl rfl ?_ s15 rfl ?_
 ·exact lb y36 (((Below.refl _ _).block _ lg3_2_).trans kg3_2_)
 intro A d16 s16 y37 hr
 have ⟨y2, y3, y35⟩ := k3 hr y2 y3 y35
 have d16 := d16.trans d15
 obtain ⟨q38, Bq38⟩ := nm (cc)
 refine EngG.tail_call EngI.free_wide Tryd.func46 (by kernel_rfl) (by kernel_rfl) rfl (EngG.wanted_on (want := true) rfl rfl rfl (by rw [s16]; decide) y35) rfl rfl #[.string x.tag] (m1 y37) s16 rfl (R := fun v w_ => v = .bool cc ∧ Below w13.heap.size w13 w_) ((Dc.core_calls x.tag cc _ hr2).mono ?_) fun v_17 w17 A R d17 s17 hv hr => ?_
 ·rintro e w_ ⟨rfl, hb⟩; exact ⟨_, rfl, rfl, hb⟩
 obtain ⟨ev_17, b_17⟩ := R
 have ⟨y2, y3, y35⟩ := k3 hr y2 y3 y35
 have y38 : A.eval (.tmp 38) = .bool q38 := (hv.trans ev_17).trans (congrArg Value.bool Bq38.symm)
 have d17 := d17.trans d16
 clear hv hr
 have kg2_1_ := (b_17.block _ lg2_1_).trans kg2_1_
 have lg2_1_ := Nat.lt_of_lt_of_le lg2_1_ b_17.size
 have kg3_2_ := (b_17.block _ lg3_2_).trans kg3_2_
 have lg3_2_ := Nat.lt_of_lt_of_le lg3_2_ b_17.size
 have Fgr_ := Reads.below Fgr_ b_17
 have Fkj_ := Reads.below Fkj_ b_17
 have bl17 := bl13.trans (b_17.mono bl13.size)
 refine EngG.tail_val EngI.free_wide rfl (EngG.wanted_on (want := true) rfl rfl rfl (by rw [s17]; decide) y35) rfl rfl (run_not rfl y38) s17 rfl fun A d18 s18 y39 hr => ?_
 have ⟨y2, y3, y35⟩ := k3 hr y2 y3 y35
 have d18 := d18.trans d17
 refine EngI.tw rfl (run_pick rfl y35 (v := .bool (!q38)) (by exact y39)) s18 d18 fun A d19 s19 y40 hr => ?_
 have ⟨y2, y3⟩ := k2 hr y2 y3
 refine EngI.tw rfl (ra y40) s19 d19 fun A d20 s20 y6 hr => ?_
 have ⟨y2, y3⟩ := k2 hr y2 y3
 refine EngI.tail_nil (wp_seq (wp_seq ?_))
 refine rP [.pointer (some ⟨g3_2, 0, none⟩), .int .i64 x.kind] 2 0 s20 (.c (pq fun a w' H => fb Tryd.underlying57 0 (H.q 3 y3)) (.c (pq fun a w' H => lb (H.d 0 41) (H.x lg3_2_ kg3_2_)) .nil)) fun A w21 T => ?_
 have ⟨y2, y3, y6⟩ := T.r3 y2 y3 y6
 have ⟨kg2_1_, lg2_1_⟩ := T.y kg2_1_ lg2_1_
 have ⟨kg3_2_, lg3_2_⟩ := T.y kg3_2_ lg3_2_
 have Fgr_ := T.f Fgr_
 have Fkj_ := T.f Fkj_
 have y42 := T.u 1 42
 have ⟨d21, s21, bl21⟩ := T.h d20 s20 bl17
 clear T
 refine tail_nil (wp_block ?_)
 refine wp_seq ?_
 obtain ⟨q44, Bq44⟩ := nm (x.kind == 1)
 refine rP [.bool q44, .bool q44] 2 0 s21 (.c (pv fun a w' H => vr (bb Bq44) (ok (.int .i64 1) (H.q 42 y42))) (.c (qe 0 44) .nil)) fun A w22 T => ?_
 have ⟨y2, y3, y6, y42⟩ := T.r4 y2 y3 y6 y42
 have ⟨kg2_1_, lg2_1_⟩ := T.y kg2_1_ lg2_1_
 have ⟨kg3_2_, lg3_2_⟩ := T.y kg3_2_ lg3_2_
 have Fgr_ := T.f Fgr_
 have Fkj_ := T.f Fkj_
 have y43 := T.u 1 43
 have ⟨d22, s22, bl22⟩ := T.h d21 s21 bl21
 clear T
 refine tail_nil ?_
 have n43 : q44 = false := by
  try simp only [Bq44, Bq38, Bq15]
  rw [hkd]; rfl
 refine wp_cond_false (y43.trans (by rw [n43])) (wp_seq ?_)
 obtain ⟨q52, Bq52⟩ := nm (x.kind == 2)
 refine rP [.bool q52, .bool q52] 2 0 s22 (.c (pv fun a w' H => vr (bb Bq52) (ok (.int .i64 2) (H.q 42 y42))) (.c (qe 0 52) .nil)) fun A w23 T => ?_
 have ⟨y2, y3, y6⟩ := T.r3 y2 y3 y6
 have ⟨kg2_1_, lg2_1_⟩ := T.y kg2_1_ lg2_1_
 have ⟨kg3_2_, lg3_2_⟩ := T.y kg3_2_ lg3_2_
 have Fgr_ := T.f Fgr_
 have Fkj_ := T.f Fkj_
 have y51 := T.u 1 51
 have ⟨d23, s23, bl23⟩ := T.h d22 s22 bl22
 clear T
 refine tail_nil ?_
 have n51 : q52 = true := by
  try simp only [Bq52, Bq44, Bq38, Bq15]
  rw [hkd]; rfl
 refine wp_cond_true (y51.trans (by rw [n51])) (wp_seq ?_)
 refine regionT (n := 2) rfl (tail_val (w1 := w23) (v := .func (.func 75) #[] #[.pointer (some ⟨g2_1, 0, none⟩)]) rfl rfl rfl (o1 y2) s23 rfl ?_)
 intro A d24 s24 y53 hr
 have ⟨y3, y6⟩ := k2 hr y3 y6
 have d24 := d24.trans d23
 refine tail_val rfl rfl rfl (ra y53) s24 rfl fun A d25 s25 y7 hr => ?_
 have ⟨y3, y6⟩ := k2 hr y3 y6
 have d25 := d25.trans d24
 refine tail_nil (wp_seq (wp_seq ?_))
 refine (wpIn_wide (n := 1)).1 (EngI.regionT (n := 11) rfl ?_)
 refine EngI.tw (w1 := w23) (v := .pointer (some ⟨g3_2, 3, none⟩)) rfl ?_ s25 d25 ?_
 ·exact fb Tryd.underlying57 3 y3
 intro A d26 s26 y54 hr
 have ⟨y3, y6, y7⟩ := k3 hr y3 y6 y7
 refine EngI.tw (w1 := w23) (v := kv) rfl ?_ s26 d26 ?_
 ·exact lb y54 (((Below.refl _ _).block _ lg3_2_).trans kg3_2_)
 intro A d27 s27 y55 hr
 have ⟨y3, y6, y7⟩ := k3 hr y3 y6 y7
 refine EngI.tw (w1 := w23) (v := .int .i64 ((x.kids.length : Nat) : Int)) rfl ?_ s27 d27 ?_
 ·exact run_len_sl rfl Tryd.underlying55 y55 Fkj_
 intro A d28 s28 y56 hr
 have ⟨y3, y6, y7⟩ := k3 hr y3 y6 y7
 refine EngI.tw (w1 := w23) (v := .int .i64 (Int.tmod (x.kids.length : Int) 2)) rfl ?_ s28 d28 ?_
 ·have e0 : A.eval (.tmp 56) = .int .i64 ((x.kids.length : Nat) : Int) := y56
  have e1 : A.eval (.const (.int .i64 2)) = .int .i64 2 := rfl
  simp only [execOp, resolve, List.map_toArray, List.map_cons, List.map_nil, e0, e1]
  go_simp
  try rfl
 intro A d29 s29 y57 hr
 have ⟨y3, y6, y7⟩ := k3 hr y3 y6 y7
 refine EngI.tw (w1 := w23) (v := .bool (!((Int.tmod (x.kids.length : Int) 2) == 0))) rfl (ok (.int .i64 0) y57) s29 d29 ?_
 intro A d30 s30 hv hr
 have ⟨y3, y6, y7⟩ := k3 hr y3 y6 y7
 have y58 : A.eval (.tmp 58) = .bool false := hv.trans (congrArg Value.bool ((by rw [hev]; rfl) : _ = false))
 clear hv hr
 refine EngI.tw rfl (rv y58) s30 d30 fun A d31 s31 y59 hr => ?_
 have ⟨y3, y6, y7⟩ := k3 hr y3 y6 y7
 refine EngG.tail_val EngI.free_wide rfl (EngG.wanted_on (want := false) rfl rfl rfl (by rw [s31]; decide) y59) rfl rfl (run_load_all rfl y3 kg3_2_ Tryd.underlying57 rfl (by kernel_rfl)) s31 rfl fun A d32 s32 y60 hr => ?_
 have ⟨y3, y6, y7, y59⟩ := k4 hr y3 y6 y7 y59
 have d32 := d32.trans d31
 refine EngG.tail_call EngI.free_wide Tryd.func76 (by kernel_rfl) (by kernel_rfl) rfl (EngG.wanted_on (want := false) rfl rfl rfl (by rw [s32]; decide) y59) rfl rfl #[.agg #[.int .i64 x.kind, .string x.tag, .string x.text, kv]] (m1 y60) s32 rfl (R := fun v w' => w'.ownsRow w23.heap.size 3 1 v (Dc.keysL x.kids).length (Dc.ints (Dc.keysL x.kids)) ∧ Below w23.heap.size w23 w') ((Dc.keys_calls kv x _ Fkj_ hok.sm).mono ?_) fun v_33 w33 A R d33 s33 y61 hr => ?_
 ·rintro e w1 ⟨o, rfl, r⟩; exact ⟨_, rfl, r⟩
 have ⟨y3, y6, y7, y59⟩ := k4 hr y3 y6 y7 y59
 have d33 := d33.trans d32
 obtain ⟨Ok_33, b_33⟩ := R
 have kg2_1_ := (b_33.block _ lg2_1_).trans kg2_1_
 have lg2_1_ := Nat.lt_of_lt_of_le lg2_1_ b_33.size
 have kg3_2_ := (b_33.block _ lg3_2_).trans kg3_2_
 have lg3_2_ := Nat.lt_of_lt_of_le lg3_2_ b_33.size
 have Fgr_ := Reads.below Fgr_ b_33
 have bl33 := bl23.trans (b_33.mono bl23.size)
 have Oks_33 := own_mono Ok_33 bl23.size
 have Fks_ := Reads.of_own Oks_33
 refine EngG.tail_val EngI.free_wide rfl (EngG.wanted_on (want := false) rfl rfl rfl (by rw [s33]; decide) y59) rfl rfl (rv y7) s33 rfl fun A d34 s34 y62 hr => ?_
 have ⟨y3, y6, y59, y61⟩ := k4 hr y3 y6 y59 y61
 have d34 := d34.trans d33
 refine EngG.tail_call EngI.free_wide Tryd.func74 (by kernel_rfl) (by kernel_rfl) rfl (EngG.wanted_on (want := false) rfl rfl rfl (by rw [s34]; decide) y59) rfl rfl #[v_33, .func (.func 75) #[] #[.pointer (some ⟨g2_1, 0, none⟩)]] (m2 y61 y62) s34 rfl (R := fun v w_ => v = .bool false ∧ Below w33.heap.size w33 w_) ((Dc.strange_contains g2_1 gv h v_33 (Dc.keysL x.kids) _ (((Below.refl _ _).block _ lg2_1_).trans kg2_1_) Fgr_ Fks_ hkr).mono ?_) fun v_35 w35 A R d35 s35 hv hr => ?_
 ·rintro e w_ ⟨rfl, hb⟩; exact ⟨_, rfl, rfl, hb⟩
 obtain ⟨ev_35, b_35⟩ := R
 have ⟨y3, y6, y59⟩ := k3 hr y3 y6 y59
 have y63 : A.eval (.tmp 63) = .bool false := (hv.trans ev_35)
 have d35 := d35.trans d34
 clear hv hr
 have kg3_2_ := (b_35.block _ lg3_2_).trans kg3_2_
 have lg3_2_ := Nat.lt_of_lt_of_le lg3_2_ b_35.size
 have bl35 := bl33.trans (b_35.mono bl33.size)
 refine EngI.tw rfl (run_pick rfl y59 (v := .bool false) (by exact y63)) s35 d35 fun A d36 s36 y64 hr => ?_
 have ⟨y3, y6⟩ := k2 hr y3 y6
 refine EngI.tail_nil ?_
 have n64 : false = false := by
  rfl
 refine wp_cond_false (y64.trans (by rw [n64])) (wp_skip ?_)
 refine (wpIn_wide (n := 1)).1 (EngI.regionT (n := 7) rfl ?_)
 refine EngI.tw rfl (rv y6) s36 d36 fun A d37 s37 y65 hr => ?_
 have ⟨y3, y6⟩ := k2 hr y3 y6
 refine EngI.tw rfl (rv y65) s37 d37 fun A d38 s38 y66 hr => ?_
 have ⟨y3, y6, y65⟩ := k3 hr y3 y6 y65
 rcases Bool.eq_false_or_eq_true (!q38) with hq | hq
 ·
  have kn39 := hq
  have c66 := hq
  clear hq
  have h6_kn39 := y6.trans (congrArg Value.bool kn39)
  have h65_kn39 := y65.trans (congrArg Value.bool kn39)
  have h66_kn39 := y66.trans (congrArg Value.bool kn39)
  refine EngG.tail_off EngI.free_wide rfl (EngG.wanted_off (want := false) rfl rfl rfl (by rw [s38]; decide) h66_kn39) rfl s38 rfl fun A d40 s40 hr => ?_
  have y3 := k1 hr y3
  have y66 : A.eval (.tmp 66) = .bool true := (hr 66 rfl).trans h66_kn39
  have d40 := d40.trans d38
  refine EngG.tail_off EngI.free_wide rfl (EngG.wanted_off (want := false) rfl rfl rfl (by rw [s40]; decide) y66) rfl s40 rfl fun A d41 s41 hr => ?_
  have ⟨y3, y66⟩ := k2 hr y3 y66
  have d41 := d41.trans d40
  refine EngG.tail_off EngI.free_wide rfl (EngG.wanted_off (want := false) rfl rfl rfl (by rw [s41]; decide) y66) rfl s41 rfl fun A d42 s42 hr => ?_
  have ⟨y3, y66⟩ := k2 hr y3 y66
  have d42 := d42.trans d41
  refine EngI.tw rfl (run_pick rfl y66 (v := .bool true) (by exact (rfl : A.eval (.const (.bool true)) = .bool true))) s42 d42 fun A d43 s43 y70 hr => ?_
  have y3 := k1 hr y3
  refine EngI.tw rfl (ra y70) s43 d43 fun A d44 s44 y6 hr => ?_
  have y3 := k1 hr y3
  refine EngI.tail_nil (wp_seq ?_)
  refine (wpIn_wide (n := 1)).1 (EngI.regionT (n := 7) rfl ?_)
  refine EngI.tw rfl (rv y6) s44 d44 fun A d45 s45 y71 hr => ?_
  have y3 := k1 hr y3
  refine EngI.tw rfl (rv y71) s45 d45 fun A d46 s46 y72 hr => ?_
  have y3 := k1 hr y3
  refine EngG.tail_val (w1 := w35) (v := .pointer (some ⟨g3_2, 2, none⟩)) EngI.free_wide rfl (EngG.wanted_on (want := true) rfl rfl rfl (by rw [s46]; decide) y72) rfl rfl ?_ s46 rfl ?_
  ·exact fb Tryd.underlying57 2 y3
  intro A d47 s47 y73 hr
  have y72 := k1 hr y72
  have d47 := d47.trans d46
  refine EngG.tail_val (w1 := w35) (v := .string x.text) EngI.free_wide rfl (EngG.wanted_on (want := true) rfl rfl rfl (by rw [s47]; decide) y72) rfl rfl ?_ s47 rfl ?_
  ·exact lb y73 (((Below.refl _ _).block _ lg3_2_).trans kg3_2_)
  intro A d48 s48 y74 hr
  have y72 := k1 hr y72
  have d48 := d48.trans d47
  refine EngG.tail_val (w1 := w35) (v := .bool x.text.toList.isEmpty) EngI.free_wide rfl (EngG.wanted_on (want := true) rfl rfl rfl (by rw [s48]; decide) y72) rfl rfl (ok (.string ⟨#[]⟩) y74) s48 rfl ?_
  intro A d49 s49 hv hr
  have y72 := k1 hr y72
  have y75 : A.eval (.tmp 75) = .bool true := hv.trans (congrArg Value.bool ((by rw [htx]; exact Dc.em_nil) : _ = true))
  have d49 := d49.trans d48
  clear hv hr
  refine EngI.tw rfl (run_pick rfl y72 (v := .bool true) (by exact y75)) s49 d49 fun A d50 s50 y76 hr => EngI.tw rfl (ra y76) s50 d50 fun A d51 s51 y4 hr => EngI.tail_nil (wp_ret ?_)
  repeat (first | with_reducible refine in_ret ?_ | with_reducible refine then_ret ?_)
  exact ret1 rfl d51 y4 ⟨rfl, bl35⟩
 have kn52 := hq
 have c66 := hq
 clear hq
 have h6_kn52 := y6.trans (congrArg Value.bool kn52)
 have h65_kn52 := y65.trans (congrArg Value.bool kn52)
 have h66_kn52 := y66.trans (congrArg Value.bool kn52)
 refine EngG.tail_val (w1 := w35) (v := .pointer (some ⟨g3_2, 1, none⟩)) EngI.free_wide rfl (EngG.wanted_on (want := false) rfl rfl rfl (by rw [s38]; decide) h66_kn52) rfl rfl ?_ s38 rfl ?_
 ·exact fb Tryd.underlying57 1 y3
 intro A d53 s53 y67 hr
 have y3 := k1 hr y3
 have y66 : A.eval (.tmp 66) = .bool false := (hr 66 rfl).trans h66_kn52
 have d53 := d53.trans d38
 refine EngG.tail_val (w1 := w35) (v := .string x.tag) EngI.free_wide rfl (EngG.wanted_on (want := false) rfl rfl rfl (by rw [s53]; decide) y66) rfl rfl ?_ s53 rfl ?_
 ·exact lb y67 (((Below.refl _ _).block _ lg3_2_).trans kg3_2_)
 intro A d54 s54 y68 hr
 have ⟨y3, y66⟩ := k2 hr y3 y66
 have d54 := d54.trans d53
 refine EngG.tail_val (w1 := w35) (v := .bool (x.tag.toList == (⟨#[109, 97, 112]⟩ : ByteArray).toList)) EngI.free_wide rfl (EngG.wanted_on (want := false) rfl rfl rfl (by rw [s54]; decide) y66) rfl rfl (ok (.string ⟨#[109, 97, 112]⟩) y68) s54 rfl ?_
 intro A d55 s55 hv hr
 have ⟨y3, y66⟩ := k2 hr y3 y66
 have y69 : A.eval (.tmp 69) = .bool true := hv.trans (congrArg Value.bool ((by rw [htg (by have h_ := c66; rw [Bq38] at h_; simpa using h_)]; exact beq_self_eq_true _) : _ = true))
 have d55 := d55.trans d54
 clear hv hr
 refine EngI.tw rfl (run_pick rfl y66 (v := .bool true) (by exact y69)) s55 d55 fun A d56 s56 y70 hr => ?_
 have y3 := k1 hr y3
 refine EngI.tw rfl (ra y70) s56 d56 fun A d57 s57 y6 hr => ?_
 have y3 := k1 hr y3
 refine EngI.tail_nil (wp_seq ?_)
 refine (wpIn_wide (n := 1)).1 (EngI.regionT (n := 7) rfl ?_)
 refine EngI.tw rfl (rv y6) s57 d57 fun A d58 s58 y71 hr => ?_
 have y3 := k1 hr y3
 refine EngI.tw rfl (rv y71) s58 d58 fun A d59 s59 y72 hr => ?_
 have y3 := k1 hr y3
 refine EngG.tail_val (w1 := w35) (v := .pointer (some ⟨g3_2, 2, none⟩)) EngI.free_wide rfl (EngG.wanted_on (want := true) rfl rfl rfl (by rw [s59]; decide) y72) rfl rfl ?_ s59 rfl ?_
 ·exact fb Tryd.underlying57 2 y3
 intro A d60 s60 y73 hr
 have y72 := k1 hr y72
 have d60 := d60.trans d59
 refine EngG.tail_val (w1 := w35) (v := .string x.text) EngI.free_wide rfl (EngG.wanted_on (want := true) rfl rfl rfl (by rw [s60]; decide) y72) rfl rfl ?_ s60 rfl ?_
 ·exact lb y73 (((Below.refl _ _).block _ lg3_2_).trans kg3_2_)
 intro A d61 s61 y74 hr
 have y72 := k1 hr y72
 have d61 := d61.trans d60
 refine EngG.tail_val (w1 := w35) (v := .bool x.text.toList.isEmpty) EngI.free_wide rfl (EngG.wanted_on (want := true) rfl rfl rfl (by rw [s61]; decide) y72) rfl rfl (ok (.string ⟨#[]⟩) y74) s61 rfl ?_
 intro A d62 s62 hv hr
 have y72 := k1 hr y72
 have y75 : A.eval (.tmp 75) = .bool true := hv.trans (congrArg Value.bool ((by rw [htx]; exact Dc.em_nil) : _ = true))
 have d62 := d62.trans d61
 clear hv hr
 refine EngI.tw rfl (run_pick rfl y72 (v := .bool true) (by exact y75)) s62 d62 fun A d63 s63 y76 hr => EngI.tw rfl (ra y76) s63 d63 fun A d64 s64 y4 hr => EngI.tail_nil (wp_ret ?_)
 repeat (first | with_reducible refine in_ret ?_ | with_reducible refine then_ret ?_)
 exact ret1 rfl d64 y4 ⟨rfl, bl35⟩
end Go.Proofs.YtgnmjaacnmkgnaaDoor.X
end
section
namespace Go.Proofs.YtgnmjaacnmkgnaaDoor.X
open Go.RowKit Go.Shelf Go.Proofs Go.Maps
namespace Dc
theorem keys_ok {h : List NV} {x : Nd} (hok : NodeOk (h.map (·.1)) x) (hk : ∀ k ∈ keysL x.kids, ((List.map (fun p : NV => p.1) h).getD k.toNat default).kind = 0) : ∀ i ∈ keysL x.kids, 0 ≤ i ∧ i.toNat < h.length ∧ (h.getD i.toNat default).1.kind = 0 := fun i hi => by
  have h1 := hok.kin i (keysL_sub _ _ hi)
  have h2 := hk i hi
  rw [map_getD] at h2
  rw [List.length_map] at h1
  exact ⟨h1.1, h1.2, h2⟩
theorem right_node (gv kv : Value) (h : List NV) (x : Nd) (w : World) (hT : Tabs.Holds w) (hF : Eng.Reads w gv h.length 4 (cells h)) (hkv : Eng.Reads w kv x.kids.length 1 (ints x.kids)) (hok : NodeOk (h.map (·.1)) x) :
    Calls Tryd.prog 39 #[gv, .agg #[.int .i64 x.kind, .string x.tag, .string x.text, kv]] w fun e w' => e = .returned (.bool true) ∧ Below w.heap.size w w' := by
  rcases hok.kd with ⟨h1, h2, h3, h4, h5⟩ | ⟨h1, h2 | h2, h3⟩ | ⟨h1, h2 | h2, h3, h4, h5⟩
  · exact right_scalar gv kv h x w hT hF hkv hok h1 h2 h3 h4 h5
  · exact right_seq gv kv h x w hT hF hkv hok h1 true (by rw [h2]; exact seq_r) (by rw [h2]; exact seq_c) (fun _ => h2) h3
  · exact right_seq gv kv h x w hT hF hkv hok h1 false (own_r h2) (own_c h2) (fun h => by cases h) h3
  · exact right_map gv kv h x w hT hF hkv hok h1 true (by rw [h2]; exact map_r) (by rw [h2]; exact map_c) (fun _ => h2) h3 h4 (keys_ok hok h5)
  · exact right_map gv kv h x w hT hF hkv hok h1 false (own_r h2) (own_c h2) (fun h => by cases h) h3 h4 (keys_ok hok h5)
end Dc
end Go.Proofs.YtgnmjaacnmkgnaaDoor.X
end
section
namespace Go.Proofs.YtgnmjaacnmkgnaaDoor.X
open Go.RowKit Go.Shelf Go.Proofs Go.Proofs.YtgnmjaacnmkgnaaDoorW.PrintWords Go.Proofs.YtgnmjaacnmkgnaaDoorW.PrintLast Go.Proofs.YtgnmjaacnmkgnaaDoorW.PrintMore Go.Proofs.Eng
set_option linter.unusedVariables false
set_option linter.unusedSimpArgs false
attribute [local go_sem] max2_int min2_int max_two min_two
set_option maxHeartbeats 4000000 in
set_option maxRecDepth 100000 in
theorem Dc.wrong_calls (g : Nat) (gv : Value) (h : List Dc.NV) (kv : Value) (x : Dc.Nd) (w : World) (hT : Tabs.Holds w) (hk : w.heap[g]? = some (.cells #[gv] 48 (0, 0))) (hF : Reads w gv h.length 4 (Dc.cells h)) (hkv : Reads w kv x.kids.length 1 (Dc.ints x.kids)) (hok : Dc.NodeOk (h.map (·.1)) x) : Calls Tryd.prog 38 #[.agg #[.int .i64 x.kind, .string x.tag, .string x.text, kv], .pointer (some ⟨g, 0, none⟩)] w fun e w' => e = .returned (.bool false) ∧ Below w.heap.size w w' := by
 refine enter Tryd.func38 rfl fun A d0 s0 v0 => ?_
 have s0 : A.tmps.size = 8 := s0
 have y0 : A.eval (.tmp 0) = .agg #[.int .i64 x.kind, .string x.tag, .string x.text, kv] := v0 0 (by simp)
 have y1 : A.eval (.tmp 1) = .pointer (some ⟨g, 0, none⟩) := v0 1 (by simp)
 clear v0
 have bl0 : Below w.heap.size w w := Below.refl _ _
 refine wp_seq (regionT (n := 2) rfl ?_)
 refine tail_ex rfl rfl rfl (box_ex (cs := #[.int .i64 x.kind, .string x.tag, .string x.text, kv]) rfl y0 (by obtain ⟨A3_, c3_, ev3_⟩ := Reads.shape hkv; subst ev3_; rfl)) s0 rfl fun v_1 w1 A R d1 s1 y2 hr => ?_
 obtain ⟨g2_1, ev_1, rg_1, lg2_, kg2_, b_1⟩ := R
 have y1 := k1 hr y1
 have d1 := d1.trans d0
 have kg_ := (b_1.block _ (Array.getElem?_eq_some_iff.1 hk).1).trans hk
 have lg_ := Nat.lt_of_lt_of_le (Array.getElem?_eq_some_iff.1 hk).1 b_1.size
 have Fgr_ := Reads.below hF b_1
 have Fkj_ := Reads.below hkv b_1
 have bl1 := bl0.trans (b_1.mono bl0.size)
 rw [ev_1] at y2
 refine tail_val rfl rfl rfl (ra (rfl : A.eval (.const (.bool false)) = .bool false)) s1 rfl fun A d2 s2 hv hr => ?_
 have ⟨y1, y2⟩ := k2 hr y1 y2
 have d2 := d2.trans d1
 clear hv hr
 refine tail_nil (wp_seq ?_)
 refine (wpIn_wide (n := 1)).1 (EngI.regionT (n := 5) rfl ?_)
 refine EngI.tw (w1 := w1) (v := gv) rfl ?_ s2 d2 ?_
 ·exact lb y1 (((Below.refl _ _).block _ lg_).trans kg_)
 intro A d3 s3 y4 hr
 have y2 := k1 hr y2
 refine EngI.tw rfl (run_load_all rfl y2 kg2_ Tryd.underlying57 rfl (by kernel_rfl)) s3 d3 fun A d4 s4 y5 hr => ?_
 have y4 := k1 hr y4
 refine EngI.tail_call EngI.free_wide Tryd.func39 (by kernel_rfl) (by kernel_rfl) rfl rfl rfl rfl #[gv, .agg #[.int .i64 x.kind, .string x.tag, .string x.text, kv]] (m2 y4 y5) s4 rfl (R := fun v w_ => v = .bool true ∧ Below w1.heap.size w1 w_) ((Dc.right_node gv kv h x _ (Tabs.below (Tabs.below hT bl1) (Below.refl _ _)) Fgr_ Fkj_ hok).mono ?_) fun v_5 w5 A R d5 s5 hv hr => ?_
 ·rintro e w_ ⟨rfl, hb⟩; exact ⟨_, rfl, rfl, hb⟩
 obtain ⟨ev_5, b_5⟩ := R
 have y6 : A.eval (.tmp 6) = .bool true := (hv.trans ev_5)
 have d5 := d5.trans d4
 clear hv hr
 have bl5 := bl1.trans (b_5.mono bl1.size)
 refine EngI.tw rfl (run_not rfl y6) s5 d5 fun A d6 s6 y7 hr => EngI.tw rfl (ra y7) s6 d6 fun A d7 s7 y3 hr => EngI.tail_nil (wp_ret ?_)
 repeat (first | with_reducible refine in_ret ?_ | with_reducible refine then_ret ?_)
 exact ret1 rfl d7 y3 ⟨rfl, bl5⟩
set_option maxHeartbeats 4000000 in
set_option maxRecDepth 100000 in
theorem Dc.wrong_index (g : Nat) (gv : Value) (h : List Dc.NV) (w : World) (hT : Tabs.Holds w) (hk : w.heap[g]? = some (.cells #[gv] 48 (0, 0))) (hF : Reads w gv h.length 4 (Dc.cells h)) (hK : Dc.KsR w h) (hok : ∀ x ∈ h.map (·.1), Dc.NodeOk (h.map (·.1)) x) : Calls Tryd.prog 77 #[gv, .func (.func 38) #[] #[.pointer (some ⟨g, 0, none⟩)]] w fun e w' => e = .returned (.int .i64 (-1)) ∧ Below w.heap.size w w' := by
 have hm := Reads.len_le hF
 refine enter Tryd.func77 rfl fun A d0 s0 v0 => ?_
 have s0 : A.tmps.size = 19 := s0
 have y0 : A.eval (.tmp 0) = gv := v0 0 (by simp)
 have y1 : A.eval (.tmp 1) = .func (.func 38) #[] #[.pointer (some ⟨g, 0, none⟩)] := v0 1 (by simp)
 clear v0
 have bl0 : Below w.heap.size w w := Below.refl _ _
 refine wp_seq (rS [.int .i64 0] (fun _ => .plain) 1 0 s0 ?_ ?_)
 ·refine .c ?_ (.nil)
  ·exact pq fun a w' H => ra (rfl : a.eval (.const (.int .i64 0)) = .int .i64 0)
 intro A w1 T
 have ⟨y0, y1⟩ := T.r2 y0 y1
 have kg_ := (T.below.block _ (Array.getElem?_eq_some_iff.1 hk).1).trans hk
 have lg_ := Nat.lt_of_lt_of_le (Array.getElem?_eq_some_iff.1 hk).1 T.below.size
 have Fgr_ := T.f hF
 have ⟨d1, s1, bl1⟩ := T.h d0 s0 bl0
 clear T
 refine tail_nil (wp_seq (wp_seq ?_))
 refine rP [gv, .int .i64 ((h.length : Nat) : Int), .int .i64 0] 3 0 s1 (.c (qq 0 y0) (.c (pv fun a w' H => vr (v := .int .i64 ((h.length : Nat) : Int)) rfl (run_len_sl rfl Tryd.underlying48 (H.d 0 6) (Reads.below Fgr_ H.below))) (.c (pq fun a w' H => rv (rfl : a.eval (.const (.int .i64 0)) = .int .i64 0)) .nil))) fun A w2 T => ?_
 have ⟨y0, y1⟩ := T.r2 y0 y1
 have ⟨kg_, lg_⟩ := T.y kg_ lg_
 have y7 := T.u 1 7
 have y8 := T.u 2 8
 have ⟨d2, s2, bl2⟩ := T.h d1 s1 bl1
 clear T
 refine tail_nil (wp_block ?_)
 refine loopN (fun n a w' => ∃ (k : Nat), h.length - k = n ∧ (k ≤ h.length) ∧ a.defers = [] ∧ a.tmps.size = 19 ∧ Below w.heap.size w w' ∧ a.eval (.tmp 0) = gv ∧ a.eval (.tmp 1) = .func (.func 38) #[] #[.pointer (some ⟨g, 0, none⟩)] ∧ a.eval (.tmp 7) = .int .i64 ((h.length : Nat) : Int) ∧ a.eval (.tmp 8) = .int .i64 (k : Nat) ∧ w'.heap[g]? = some (.cells (#[gv]) 48 (0, 0)) ∧ g < w'.heap.size) (n0 := h.length - 0) ?_ ?_
 ·exact ⟨0, rfl, by omega, d2, s2, bl2, y0, y1, y7, (y8.trans (by first | rfl | (congr 1; rw [i64_id (by omega) (by omega)]; omega) | (simp; done))), kg_, lg_⟩
 rintro n A w3 ⟨k, rfl, hc0_3, d3, s3, bl3, y0, y1, y7, y8, kg_, lg_⟩
 have Fgr_ := Reads.below hF bl3
 have hk1 := hc0_3
 refine wp_seq ?_
 obtain ⟨q9, Bq9⟩ := nm (decide ((k : Nat) < ((h.length : Nat) : Int)))
 refine rS [.bool q9] (fun _ => .plain) 1 0 s3 ?_ ?_
 ·refine .c ?_ (.nil)
  ·exact pv fun a w' H => vr (bb Bq9) (o2 (H.q 8 y8) (H.q 7 y7))
 intro A w4 T
 have ⟨y0, y1, y7, y8⟩ := T.r4 y0 y1 y7 y8
 have ⟨kg_, lg_⟩ := T.y kg_ lg_
 have Fgr_ := T.f Fgr_
 have y9 := T.u 0 9
 have ⟨d4, s4, bl4⟩ := T.h d3 s3 bl3
 clear T
 refine tail_nil (wp_seq ?_)
 refine wp_cond_split y9 (fun hq => ?_) (fun hq => ?_)
 ·
  have c9 := Bq9.symm.trans hq
  clear hq
  have c9 := of_decide_eq_true c9
  have hk0 : k < h.length := by omega
  have Fk0 := hK.at_ hk0
  have hcell := Dc.cells_at h k hk0
  have hokk := hok _ (Dc.nd_mem hk0)
  obtain ⟨nk, Hnk⟩ : ∃ n, n = (h.getD k default).1 := ⟨_, rfl⟩
  obtain ⟨kv, hkv⟩ : ∃ v, v = (h.getD k default).2 := ⟨_, rfl⟩
  rw [← Hnk, ← hkv] at hcell Fk0
  rw [← Hnk] at hokk
  clear hkv
  have Fkj6 := Reads.below Fk0 bl4
  refine wp_skip (wp_seq ?_)
  refine wp_block (wp_seq ?_)
  refine rP [.int .i64 (k : Nat), .int .i64 (k : Nat)] 2 0 s4 (.c (qq 8 y8) (.c (qe 0 10) .nil)) fun A w7 T => ?_
  have ⟨y0, y1, y7, y8⟩ := T.r4 y0 y1 y7 y8
  have ⟨kg_, lg_⟩ := T.y kg_ lg_
  have Fgr_ := T.f Fgr_
  have Fkj_ := T.f Fkj6
  have y5 := T.u 1 5
  have ⟨d7, s7, bl7⟩ := T.h d4 s4 bl4
  clear T
  refine tail_nil (wp_seq ?_)
  obtain ⟨q16, Bq16⟩ := nm (false)
  refine rS [.func (.func 38) #[] #[.pointer (some ⟨g, 0, none⟩)], gv, .int .i64 (k : Nat), elemPtr gv (k * 4), .agg #[.int .i64 nk.kind, .string nk.tag, .string nk.text, kv], .bool q16] (fun _ => .plain) 6 0 s7 ?_ ?_
  ·refine .c ?_ (.c ?_ (.c ?_ (.c ?_ (.c ?_ (.c ?_ (.nil))))))
   ·exact qq 1 y1
   ·exact qq 0 y0
   ·exact qq 5 y5
   ·exact pv fun a w' H => vr (v := elemPtr gv (k * 4)) rfl (run_index_sl rfl Tryd.underlying48 (by kernel_rfl) (H.d 1 12) ((H.d 2 13).trans (congrArg (Value.int _) (show (k : Nat) = ((k : Nat) : Int) from by omega))) (Reads.below Fgr_ H.below) (by omega) rfl)
   ·exact pv fun a w' H => vr (v := .agg #[.int .i64 nk.kind, .string nk.tag, .string nk.text, kv]) rfl (run_load_els [.int .i64 nk.kind, .string nk.tag, .string nk.text, kv] rfl (H.d 3 14) (Reads.below Fgr_ H.below) (hcell) rfl Tryd.underlying57 rfl (by kernel_rfl))
   refine pv fun a w' H => callv Tryd.func38 (by kernel_rfl) (by kernel_rfl) rfl (H.d 0 11) #[.agg #[.int .i64 nk.kind, .string nk.tag, .string nk.text, kv]] ?_ ?_
   ·have e0 : a.eval (.tmp 15) = .agg #[.int .i64 nk.kind, .string nk.tag, .string nk.text, kv] := (H.d 4 15); simp only [List.map_toArray, List.map_cons, List.map_nil, e0]
   refine (Dc.wrong_calls g gv h kv nk _ (Tabs.below (Tabs.below hT bl7) H.below) (H.x lg_ kg_) (Reads.below Fgr_ H.below) (Reads.below Fkj_ H.below) hokk).mono ?_
   rintro e w'' ⟨rfl, hb⟩
   exact ⟨_, rfl, (by show _ = Value.bool q16; rw [Bq16]), hb⟩
  intro A w8 T
  have ⟨y0, y1, y7, y8⟩ := T.r4 y0 y1 y7 y8
  have ⟨kg_, lg_⟩ := T.y kg_ lg_
  have y16 := T.u 5 16
  have ⟨d8, s8, bl8⟩ := T.h d7 s7 bl7
  clear T
  refine tail_nil ?_
  have n16 : q16 = false := by
   try simp only [Bq16, Bq9]
   first | done | rfl
  refine wp_cond_false (y16.trans (by rw [n16])) (wp_skip ?_)
  refine rP [.int .i64 (IntKind.i64.wrap ((k : Nat) + 1)), .int .i64 (IntKind.i64.wrap ((k : Nat) + 1))] 2 0 s8 (.c (pv fun a w' H => vr (v := .int .i64 (IntKind.i64.wrap ((k : Nat) + 1))) rfl (ok (.int .i64 1) (H.q 8 y8))) (.c (qd 0 18) .nil)) fun A w9 T => ?_
  have ⟨y0, y1, y7⟩ := T.r3 y0 y1 y7
  have ⟨kg_, lg_⟩ := T.y kg_ lg_
  have y8 := T.u 1 8
  have ⟨d9, s9, bl9⟩ := T.h d8 s8 bl8
  clear T
  exact tail_nil (⟨_, by omega, k + 1, rfl, by omega, d9, s9, bl9, y0, y1, y7, (y8.trans (by first | rfl | (congr 1; rw [i64_id (by omega) (by omega)]; omega) | (simp; done))), kg_, lg_⟩)
 have c9 := Bq9.symm.trans hq
 clear hq
 have c9 := of_decide_eq_false c9
 refine wp_exit (wp_seq ?_)
 refine rS [.int .i64 (-1)] (fun _ => .plain) 1 0 s4 ?_ ?_
 ·refine .c ?_ (.nil)
  ·exact pq fun a w' H => ra (rfl : a.eval (.const (.int .i64 (-1))) = .int .i64 (-1))
 intro A w11 T
 have y4 := T.u 0 4
 have d11 := T.e d4
 have bl11 := T.b bl4
 clear T
 refine tail_nil (wp_ret ?_)
 repeat (first | with_reducible refine in_ret ?_ | with_reducible refine then_ret ?_)
 exact ret1 rfl d11 y4 ⟨rfl, bl11⟩
set_option maxHeartbeats 4000000 in
set_option maxRecDepth 100000 in
theorem Dc.wrong_contains (g : Nat) (gv : Value) (h : List Dc.NV) (w : World) (hT : Tabs.Holds w) (hk : w.heap[g]? = some (.cells #[gv] 48 (0, 0))) (hF : Reads w gv h.length 4 (Dc.cells h)) (hK : Dc.KsR w h) (hok : ∀ x ∈ h.map (·.1), Dc.NodeOk (h.map (·.1)) x) : Calls Tryd.prog 40 #[gv, .func (.func 38) #[] #[.pointer (some ⟨g, 0, none⟩)]] w fun e w' => e = .returned (.bool false) ∧ Below w.heap.size w w' := by
 refine enter Tryd.func40 rfl fun A d0 s0 v0 => ?_
 have s0 : A.tmps.size = 9 := s0
 have y0 : A.eval (.tmp 0) = gv := v0 0 (by simp)
 have y1 : A.eval (.tmp 1) = .func (.func 38) #[] #[.pointer (some ⟨g, 0, none⟩)] := v0 1 (by simp)
 clear v0
 have bl0 : Below w.heap.size w w := Below.refl _ _
 refine wp_seq (rS [.bool false] (fun _ => .plain) 1 0 s0 ?_ ?_)
 ·refine .c ?_ (.nil)
  ·exact pq fun a w' H => ra (rfl : a.eval (.const (.bool false)) = .bool false)
 intro A w1 T
 have ⟨y0, y1⟩ := T.r2 y0 y1
 have kg_ := (T.below.block _ (Array.getElem?_eq_some_iff.1 hk).1).trans hk
 have lg_ := Nat.lt_of_lt_of_le (Array.getElem?_eq_some_iff.1 hk).1 T.below.size
 have Fgr_ := T.f hF
 have ⟨d1, s1, bl1⟩ := T.h d0 s0 bl0
 clear T
 refine tail_nil (wp_seq ?_)
 refine (wpIn_wide (n := 1)).1 (EngI.regionT (n := 5) rfl ?_)
 refine EngI.tw rfl (rv y0) s1 d1 fun A d2 s2 y5 hr => ?_
 have y1 := k1 hr y1
 refine EngI.tw rfl (rv y1) s2 d2 fun A d3 s3 y6 hr => ?_
 have y5 := k1 hr y5
 refine EngI.tail_call EngI.free_wide Tryd.func77 (by kernel_rfl) (by kernel_rfl) rfl rfl rfl rfl #[gv, .func (.func 38) #[] #[.pointer (some ⟨g, 0, none⟩)]] (m2 y5 y6) s3 rfl (R := fun v w_ => v = .int .i64 (-1) ∧ Below w1.heap.size w1 w_) ((Dc.wrong_index g gv h _ (Tabs.below (Tabs.below hT bl1) (Below.refl _ _)) (((Below.refl _ _).block _ lg_).trans kg_) Fgr_ (hK.below bl1) hok).mono ?_) fun v_4 w4 A R d4 s4 hv hr => ?_
 ·rintro e w_ ⟨rfl, hb⟩; exact ⟨_, rfl, rfl, hb⟩
 obtain ⟨ev_4, b_4⟩ := R
 have y7 : A.eval (.tmp 7) = .int .i64 (-1) := (hv.trans ev_4)
 have d4 := d4.trans d3
 clear hv hr
 have bl4 := bl1.trans (b_4.mono bl1.size)
 refine EngI.tw (w1 := w4) (v := .bool (decide ((-1) ≥ 0))) rfl (ok (.int .i64 0) y7) s4 d4 ?_
 intro A d5 s5 hv hr
 have y8 : A.eval (.tmp 8) = .bool false := hv.trans (congrArg Value.bool ((by decide) : _ = false))
 clear hv hr
 refine EngI.tw rfl (ra y8) s5 d5 fun A d6 s6 y4 hr => EngI.tail_nil (wp_ret ?_)
 repeat (first | with_reducible refine in_ret ?_ | with_reducible refine then_ret ?_)
 exact ret1 rfl d6 y4 ⟨rfl, bl4⟩
set_option maxHeartbeats 4000000 in
set_option maxRecDepth 100000 in
theorem Dc.right_h (gv : Value) (h : List Dc.NV) (w : World) (hT : Tabs.Holds w) (hR : Reads w gv h.length 4 (Dc.cells h)) (hK : Dc.KsR w h) (hok : ∀ x ∈ h.map (·.1), Dc.NodeOk (h.map (·.1)) x) (h1 : 1 ≤ h.length) (h2 : h.length ≤ 2000) (htw : ∀ w1, Below w.heap.size w w1 → Calls Tryd.prog 41 #[gv] w1 fun e w2 => e = .returned (.bool false) ∧ Below w1.heap.size w1 w2) : Calls Tryd.prog 18 #[gv] w fun e w' => e = .returned (.bool true) ∧ Below w.heap.size w w' := by
 refine enter Tryd.func18 rfl fun A d0 s0 v0 => ?_
 have s0 : A.tmps.size = 22 := s0
 have y0 : A.eval (.tmp 0) = gv := v0 0 (by simp)
 clear v0
 have bl0 : Below w.heap.size w w := Below.refl _ _
 refine wp_seq (regionT (n := 2) rfl ?_)
 refine tail_ex rfl rfl rfl (box_ex (cs := #[gv]) rfl y0 (by obtain ⟨A0_, c0_, ev0_⟩ := Reads.shape hR; subst ev0_; rfl)) s0 rfl fun v_1 w1 A R d1 s1 y1 hr => ?_
 obtain ⟨g1_1, ev_1, rg_1, lg1_, kg1_, b_1⟩ := R
 have d1 := d1.trans d0
 have Fgr_ := Reads.below hR b_1
 have bl1 := bl0.trans (b_1.mono bl0.size)
 rw [ev_1] at y1
 refine tail_val rfl rfl rfl (ra (rfl : A.eval (.const (.bool false)) = .bool false)) s1 rfl fun A d2 s2 hv hr => ?_
 have y1 := k1 hr y1
 have d2 := d2.trans d1
 clear hv hr
 refine tail_nil (wp_seq (wp_seq ?_))
 refine (wpIn_wide (n := 1)).1 (EngI.regionT (n := 8) rfl ?_)
 refine EngI.tw (w1 := w1) (v := gv) rfl ?_ s2 d2 ?_
 ·exact lb y1 (((Below.refl _ _).block _ lg1_).trans kg1_)
 intro A d3 s3 y4 hr
 have y1 := k1 hr y1
 refine EngI.tw (w1 := w1) (v := .int .i64 ((h.length : Nat) : Int)) rfl ?_ s3 d3 ?_
 ·exact run_len_sl rfl Tryd.underlying48 y4 Fgr_
 intro A d4 s4 y5 hr
 have y1 := k1 hr y1
 refine EngI.tw (w1 := w1) (v := .bool (decide (((h.length : Nat) : Int) < 1))) rfl (ok (.int .i64 1) y5) s4 d4 ?_
 intro A d5 s5 hv hr
 have y1 := k1 hr y1
 have y6 : A.eval (.tmp 6) = .bool false := hv.trans (congrArg Value.bool ((decide_eq_false (by omega)) : _ = false))
 clear hv hr
 refine EngI.tw rfl (rv y6) s5 d5 fun A d6 s6 y7 hr => ?_
 have y1 := k1 hr y1
 refine EngG.tail_val (w1 := w1) (v := gv) EngI.free_wide rfl (EngG.wanted_on (want := false) rfl rfl rfl (by rw [s6]; decide) y7) rfl rfl ?_ s6 rfl ?_
 ·exact lb y1 (((Below.refl _ _).block _ lg1_).trans kg1_)
 intro A d7 s7 y8 hr
 have ⟨y1, y7⟩ := k2 hr y1 y7
 have d7 := d7.trans d6
 refine EngG.tail_val (w1 := w1) (v := .int .i64 ((h.length : Nat) : Int)) EngI.free_wide rfl (EngG.wanted_on (want := false) rfl rfl rfl (by rw [s7]; decide) y7) rfl rfl ?_ s7 rfl ?_
 ·exact run_len_sl rfl Tryd.underlying48 y8 Fgr_
 intro A d8 s8 y9 hr
 have ⟨y1, y7⟩ := k2 hr y1 y7
 have d8 := d8.trans d7
 refine EngG.tail_val (w1 := w1) (v := .bool (decide (((h.length : Nat) : Int) > 2000))) EngI.free_wide rfl (EngG.wanted_on (want := false) rfl rfl rfl (by rw [s8]; decide) y7) rfl rfl (ok (.int .i64 2000) y9) s8 rfl ?_
 intro A d9 s9 hv hr
 have ⟨y1, y7⟩ := k2 hr y1 y7
 have y10 : A.eval (.tmp 10) = .bool false := hv.trans (congrArg Value.bool ((decide_eq_false (by omega)) : _ = false))
 have d9 := d9.trans d8
 clear hv hr
 refine EngI.tw rfl (run_pick rfl y7 (v := .bool false) (by exact y10)) s9 d9 fun A d10 s10 y11 hr => ?_
 have y1 := k1 hr y1
 refine EngI.tail_nil ?_
 have n11 : false = false := by
  rfl
 refine wp_cond_false (y11.trans (by rw [n11])) (wp_skip ?_)
 refine wp_seq (rP [.func (.func 38) #[] #[.pointer (some ⟨g1_1, 0, none⟩)], .func (.func 38) #[] #[.pointer (some ⟨g1_1, 0, none⟩)]] 2 0 s10 (.c (pv fun a w' H => vr (v := .func (.func 38) #[] #[.pointer (some ⟨g1_1, 0, none⟩)]) rfl (o1 (H.q 1 y1))) (.c (qe 0 12) .nil)) fun A w11 T => ?_)
 have y1 := T.r1 y1
 have ⟨kg1_1_, lg1_1_⟩ := T.y kg1_ lg1_
 have Fgr_ := T.f Fgr_
 have y3 := T.u 1 3
 have ⟨d11, s11, bl11⟩ := T.h d10 s10 bl1
 clear T
 refine tail_nil (wp_seq ?_)
 refine (wpIn_wide (n := 1)).1 (EngI.regionT (n := 10) rfl ?_)
 refine EngI.tw (w1 := w11) (v := gv) rfl ?_ s11 d11 ?_
 ·exact lb y1 (((Below.refl _ _).block _ lg1_1_).trans kg1_1_)
 intro A d12 s12 y13 hr
 have ⟨y1, y3⟩ := k2 hr y1 y3
 refine EngI.tw rfl (rv y3) s12 d12 fun A d13 s13 y14 hr => ?_
 have ⟨y1, y13⟩ := k2 hr y1 y13
 refine EngI.tail_call EngI.free_wide Tryd.func40 (by kernel_rfl) (by kernel_rfl) rfl rfl rfl rfl #[gv, .func (.func 38) #[] #[.pointer (some ⟨g1_1, 0, none⟩)]] (m2 y13 y14) s13 rfl (R := fun v w_ => v = .bool false ∧ Below w11.heap.size w11 w_) ((Dc.wrong_contains g1_1 gv h _ (Tabs.below (Tabs.below hT bl11) (Below.refl _ _)) (((Below.refl _ _).block _ lg1_1_).trans kg1_1_) Fgr_ (hK.below bl11) hok).mono ?_) fun v_14 w14 A R d14 s14 hv hr => ?_
 ·rintro e w_ ⟨rfl, hb⟩; exact ⟨_, rfl, rfl, hb⟩
 obtain ⟨ev_14, b_14⟩ := R
 have y1 := k1 hr y1
 have y15 : A.eval (.tmp 15) = .bool false := (hv.trans ev_14)
 have d14 := d14.trans d13
 clear hv hr
 have kg1_1_ := (b_14.block _ lg1_1_).trans kg1_1_
 have lg1_1_ := Nat.lt_of_lt_of_le lg1_1_ b_14.size
 have bl14 := bl11.trans (b_14.mono bl11.size)
 refine EngI.tw rfl (run_not rfl y15) s14 d14 fun A d15 s15 y16 hr => ?_
 have y1 := k1 hr y1
 refine EngI.tw rfl (rv y16) s15 d15 fun A d16 s16 y17 hr => ?_
 have y1 := k1 hr y1
 refine EngG.tail_val (w1 := w14) (v := gv) EngI.free_wide rfl (EngG.wanted_on (want := true) rfl rfl rfl (by rw [s16]; decide) y17) rfl rfl ?_ s16 rfl ?_
 ·exact lb y1 (((Below.refl _ _).block _ lg1_1_).trans kg1_1_)
 intro A d17 s17 y18 hr
 have y17 := k1 hr y17
 have d17 := d17.trans d16
 refine EngG.tail_call EngI.free_wide Tryd.func41 (by kernel_rfl) (by kernel_rfl) rfl (EngG.wanted_on (want := true) rfl rfl rfl (by rw [s17]; decide) y17) rfl rfl #[gv] (m1 y18) s17 rfl (R := fun v w_ => v = .bool false ∧ Below w14.heap.size w14 w_) ((htw _ bl14).mono ?_) fun v_18 w18 A R d18 s18 hv hr => ?_
 ·rintro e w_ ⟨rfl, hb⟩; exact ⟨_, rfl, rfl, hb⟩
 obtain ⟨ev_18, b_18⟩ := R
 have y17 := k1 hr y17
 have y19 : A.eval (.tmp 19) = .bool false := (hv.trans ev_18)
 have d18 := d18.trans d17
 clear hv hr
 have bl18 := bl14.trans (b_18.mono bl14.size)
 refine EngG.tail_val EngI.free_wide rfl (EngG.wanted_on (want := true) rfl rfl rfl (by rw [s18]; decide) y17) rfl rfl (run_not rfl y19) s18 rfl fun A d19 s19 y20 hr => ?_
 have y17 := k1 hr y17
 have d19 := d19.trans d18
 refine EngI.tw rfl (run_pick rfl y17 (v := .bool true) (by exact y20)) s19 d19 fun A d20 s20 y21 hr => EngI.tw rfl (ra y21) s20 d20 fun A d21 s21 y2 hr => EngI.tail_nil (wp_ret ?_)
 repeat (first | with_reducible refine in_ret ?_ | with_reducible refine then_ret ?_)
 exact ret1 rfl d21 y2 ⟨rfl, bl18⟩
end Go.Proofs.YtgnmjaacnmkgnaaDoor.X
end
section
namespace Go.Proofs.YtgnmjaacnmkgnaaDoor.X
open Go.RowKit Go.Shelf Go.Proofs Go.Proofs.YtgnmjaacnmkgnaaDoorW.PrintWords Go.Proofs.YtgnmjaacnmkgnaaDoorW.PrintLast Go.Proofs.YtgnmjaacnmkgnaaDoorW.PrintMore Go.Proofs.Eng
set_option linter.unusedVariables false
set_option linter.unusedSimpArgs false
attribute [local go_sem] max2_int min2_int max_two min_two
set_option maxHeartbeats 4000000 in
set_option maxRecDepth 100000 in
theorem Dc.order_h (gv : Value) (h : List Dc.NV) (dp : Nat) (s' : Dc.Ms) (w : World) (hT : Tabs.Holds w) (hF : Reads w gv h.length 4 (Dc.cells h)) (hK : Dc.KsR w h) (hok : ∀ x ∈ h.map (·.1), Dc.NodeOk (h.map (·.1)) x) (h1 : 1 ≤ h.length) (h2 : h.length ≤ 2000) (htw : ∀ w1, Below w.heap.size w w1 → Calls Tryd.prog 41 #[gv] w1 fun e w2 => e = .returned (.bool false) ∧ Below w1.heap.size w1 w2) (hrn : Dc.Rn (h.map (·.1)) dp (List.replicate h.length 0, []) [0] s') (hob : s'.2.length ≤ 1000000) : Calls Tryd.prog 43 #[gv] w fun e w' => ∃ o, e = .returned o ∧ w'.ownsRow w.heap.size 3 1 o s'.2.length (Dc.ints s'.2) ∧ Below w.heap.size w w' := by
 have hm := Reads.len_le hF
 have hin : ∀ x ∈ h.map (·.1), ∀ k ∈ x.kids, 0 ≤ k ∧ k.toNat < h.length := fun x hx k hk => by have h_ := (hok x hx).kin k hk; rwa [List.length_map] at h_
 refine enter Tryd.func43 rfl fun A d0 s0 v0 => ?_
 have s0 : A.tmps.size = 15 := s0
 have y0 : A.eval (.tmp 0) = gv := v0 0 (by simp)
 clear v0
 have bl0 : Below w.heap.size w w := Below.refl _ _
 refine wp_seq (regionT (n := 2) rfl ?_)
 refine tail_ex rfl rfl rfl (box_ex (cs := #[gv]) rfl y0 (by obtain ⟨A0_, c0_, ev0_⟩ := Reads.shape hF; subst ev0_; rfl)) s0 rfl fun v_1 w1 A R d1 s1 hv hr => ?_
 obtain ⟨g1_1, ev_1, rg_1, lg1_1, kg1_1, b_1⟩ := R
 have y1 : A.eval (.tmp 1) = v_1 := hv
 have d1 := d1.trans d0
 clear hv hr
 have og1_1 : w.heap.size ≤ g1_1 := Nat.le_trans bl0.size rg_1
 have Fgr_1 := Reads.below hF b_1
 have bl1 := bl0.trans (b_1.mono bl0.size)
 rw [ev_1] at y1
 refine tail_ex rfl rfl rfl (Dc.alloc_ex1 (.slice none 0 0) rfl (by kernel_rfl) rfl) s1 rfl fun v_2 w2 A R d2 s2 hv hr => ?_
 obtain ⟨g2_2, ev_2, rg_2, lg2_2, kg2_2, b_2⟩ := R
 have y1 := k1 hr y1
 have y2 : A.eval (.tmp 2) = v_2 := hv
 have d2 := d2.trans d1
 clear hv hr
 have ne_g2_2_g1_1 : g1_1 ≠ g2_2 := fun e => Nat.lt_irrefl _ (Nat.lt_of_lt_of_le (e ▸ lg1_1) rg_2)
 have og2_2 : w.heap.size ≤ g2_2 := Nat.le_trans bl1.size rg_2
 have kg1_1_2 := (b_2.block _ lg1_1).trans kg1_1
 have lg1_1_2 := Nat.lt_of_lt_of_le lg1_1 b_2.size
 have Fgr_2 := Reads.below Fgr_1 b_2
 have bl2 := bl1.trans (b_2.mono bl1.size)
 rw [ev_2] at y2
 refine tail_nil (wp_seq (wp_seq ?_))
 refine (wpIn_wide (n := 1)).1 (EngI.regionT (n := 3) rfl ?_)
 refine EngI.tw (w1 := w2) (v := gv) rfl ?_ s2 d2 ?_
 ·exact lb y1 (((Below.refl _ _).block _ lg1_1_2).trans kg1_1_2)
 intro A d3 s3 hv hr
 have ⟨y1, y2⟩ := k2 hr y1 y2
 have y5 : A.eval (.tmp 5) = gv := hv
 clear hv hr
 refine EngI.tail_call EngI.free_wide Tryd.func18 (by kernel_rfl) (by kernel_rfl) rfl rfl rfl rfl #[gv] (m1 y5) s3 rfl (R := fun v w_ => v = .bool true ∧ Below w2.heap.size w2 w_) ((Dc.right_h gv h _ (Tabs.below (Tabs.below hT bl2) (Below.refl _ _)) Fgr_2 (hK.below bl2) hok h1 h2 (fun w1 b => htw w1 (bl2.trans (b.mono bl2.size)))).mono ?_) fun v_4 w4 A R d4 s4 hv hr => ?_
 ·rintro e w_ ⟨rfl, hb⟩; exact ⟨_, rfl, rfl, hb⟩
 obtain ⟨ev_4, b_4⟩ := R
 have ⟨y1, y2⟩ := k2 hr y1 y2
 have y6 : A.eval (.tmp 6) = .bool true := (hv.trans ev_4)
 have d4 := d4.trans d3
 clear hv hr
 have kg1_1_4 := (b_4.block _ lg1_1_2).trans kg1_1_2
 have lg1_1_4 := Nat.lt_of_lt_of_le lg1_1_2 b_4.size
 have kg2_2_4 := (b_4.block _ lg2_2).trans kg2_2
 have lg2_2_4 := Nat.lt_of_lt_of_le lg2_2 b_4.size
 have Fgr_4 := Reads.below Fgr_2 b_4
 have bl4 := bl2.trans (b_4.mono bl2.size)
 refine EngI.tw rfl (run_not rfl y6) s4 d4 fun A d5 s5 hv hr => ?_
 have ⟨y1, y2⟩ := k2 hr y1 y2
 have y7 : A.eval (.tmp 7) = .bool false := hv
 clear hv hr
 refine EngI.tail_nil ?_
 have n7 : false = false := by
  rfl
 refine wp_cond_false (y7.trans (by rw [n7])) (wp_skip ?_)
 refine wp_seq (regionT (n := 5) rfl ?_)
 refine tail_val (w1 := w4) (v := gv) rfl rfl rfl ?_ s5 rfl ?_
 ·exact lb y1 (((Below.refl _ _).block _ lg1_1_4).trans kg1_1_4)
 intro A d6 s6 hv hr
 have ⟨y1, y2⟩ := k2 hr y1 y2
 have y8 : A.eval (.tmp 8) = gv := hv
 have d6 := d6.trans d5
 clear hv hr
 refine tail_val (w1 := w4) (v := .int .i64 ((h.length : Nat) : Int)) rfl rfl rfl ?_ s6 rfl ?_
 ·exact run_len_sl rfl Tryd.underlying48 y8 Fgr_4
 intro A d7 s7 hv hr
 have ⟨y1, y2⟩ := k2 hr y1 y2
 have y9 : A.eval (.tmp 9) = .int .i64 ((h.length : Nat) : Int) := hv
 have d7 := d7.trans d6
 clear hv hr
 refine tail_ex rfl rfl rfl (Dc.run_make0 rfl y9 y9 bl4.size (by omega)) s7 rfl fun v_8 w8 A R d8 s8 hv hr => ?_
 obtain ⟨O_8, b_8⟩ := R
 have ⟨y1, y2⟩ := k2 hr y1 y2
 have y10 : A.eval (.tmp 10) = v_8 := hv
 have d8 := d8.trans d7
 clear hv hr
 have kg1_1_8 := (b_8.block _ lg1_1_4).trans kg1_1_4
 have lg1_1_8 := Nat.lt_of_lt_of_le lg1_1_4 b_8.size
 have kg2_2_8 := (b_8.block _ lg2_2_4).trans kg2_2_4
 have lg2_2_8 := Nat.lt_of_lt_of_le lg2_2_4 b_8.size
 have bl8 := bl4.trans (b_8.mono bl4.size)
 have F_8 := Reads.of_own O_8
 refine tail_ex rfl rfl rfl (Dc.alloc_ex1 (.slice none 0 0) rfl (by kernel_rfl) rfl) s8 rfl fun v_9 w9 A R d9 s9 hv hr => ?_
 obtain ⟨g3_9, ev_9, rg_9, lg3_9, kg3_9, b_9⟩ := R
 have ⟨y1, y2, y10⟩ := k3 hr y1 y2 y10
 have y3 : A.eval (.tmp 3) = v_9 := hv
 have d9 := d9.trans d8
 clear hv hr
 have ne_g3_9_g1_1 : g1_1 ≠ g3_9 := fun e => Nat.lt_irrefl _ (Nat.lt_of_lt_of_le (e ▸ lg1_1_8) rg_9)
 have ne_g3_9_g2_2 : g2_2 ≠ g3_9 := fun e => Nat.lt_irrefl _ (Nat.lt_of_lt_of_le (e ▸ lg2_2_8) rg_9)
 have og3_9 : w.heap.size ≤ g3_9 := Nat.le_trans bl8.size rg_9
 have kg1_1_9 := (b_9.block _ lg1_1_8).trans kg1_1_8
 have lg1_1_9 := Nat.lt_of_lt_of_le lg1_1_8 b_9.size
 have kg2_2_9 := (b_9.block _ lg2_2_8).trans kg2_2_8
 have lg2_2_9 := Nat.lt_of_lt_of_le lg2_2_8 b_9.size
 have Fmet_9 := Reads.below F_8 b_9
 have Omet_9 := own_below O_8 b_9
 have bl9 := bl8.trans (b_9.mono bl8.size)
 rw [ev_9] at y3
 refine tail_set (n := 0) (v := v_8) (new := #[v_8]) rfl rfl rfl kg3_9 rfl ?_ fun w10 S => ?_
 ·have e0 : A.eval (.tmp 3) = .pointer (some ⟨g3_9, 0, none⟩) := y3
  have e1 : A.eval (.tmp 10) = v_8 := y10
  obtain ⟨A0_, c0_, ev0_⟩ := Reads.shape Fmet_9
  subst ev0_
  have z0 := (Eng.cells kg3_9 (0)).trans (rfl)
  have f0 := unfrozen kg3_9 (0)
  simp only [execOp]
  rw [e0, e1]
  go_simp
 have kg1_1_10 := (S.far _ ne_g3_9_g1_1).trans kg1_1_9
 have lg1_1_10 := Nat.lt_of_lt_of_eq lg1_1_9 S.size.symm
 have kg2_2_10 := (S.far _ ne_g3_9_g2_2).trans kg2_2_9
 have lg2_2_10 := Nat.lt_of_lt_of_eq lg2_2_9 S.size.symm
 have kg3_9_10 := S.new
 have lg3_9_10 := Nat.lt_of_lt_of_eq lg3_9 S.size.symm
 have bl10 := S.below bl9 og3_9
 have Omet_10 := own_sets Omet_9 S kg3_9 rfl
 clear S
 refine tail_nil (wp_seq ?_)
 refine regionT (n := 1) rfl (tail_ex rfl rfl rfl (Dc.alloc_ex1 .nilFunc rfl (by kernel_rfl) rfl) s9 rfl fun v_11 w11 A R d11 s11 hv hr => ?_)
 obtain ⟨g4_11, ev_11, rg_11, lg4_11, kg4_11, b_11⟩ := R
 have ⟨y1, y2, y3⟩ := k3 hr y1 y2 y3
 have y4 : A.eval (.tmp 4) = v_11 := hv
 have d11 := d11.trans d9
 clear hv hr
 have ne_g4_11_g1_1 : g1_1 ≠ g4_11 := fun e => Nat.lt_irrefl _ (Nat.lt_of_lt_of_le (e ▸ lg1_1_10) rg_11)
 have ne_g4_11_g2_2 : g2_2 ≠ g4_11 := fun e => Nat.lt_irrefl _ (Nat.lt_of_lt_of_le (e ▸ lg2_2_10) rg_11)
 have ne_g4_11_g3_9 : g3_9 ≠ g4_11 := fun e => Nat.lt_irrefl _ (Nat.lt_of_lt_of_le (e ▸ lg3_9_10) rg_11)
 have og4_11 : w.heap.size ≤ g4_11 := Nat.le_trans bl10.size rg_11
 have kg1_1_11 := (b_11.block _ lg1_1_10).trans kg1_1_10
 have kg2_2_11 := (b_11.block _ lg2_2_10).trans kg2_2_10
 have kg3_9_11 := (b_11.block _ lg3_9_10).trans kg3_9_10
 have Omet_11 := own_below Omet_10 b_11
 have bl11 := bl10.trans (b_11.mono bl10.size)
 rw [ev_11] at y4
 refine tail_nil (wp_seq ?_)
 refine regionT (n := 2) rfl (tail_val rfl rfl rfl (Dc.run_mkf #[.pointer (some ⟨g3_9, 0, none⟩), .pointer (some ⟨g2_2, 0, none⟩), .pointer (some ⟨g1_1, 0, none⟩), .pointer (some ⟨g4_11, 0, none⟩)] rfl (m4 y3 y2 y1 y4)) s11 rfl fun A d12 s12 hv hr => ?_)
 have ⟨y2, y4⟩ := k2 hr y2 y4
 have y11 : A.eval (.tmp 11) = .func (.func 78) #[] #[.pointer (some ⟨g3_9, 0, none⟩), .pointer (some ⟨g2_2, 0, none⟩), .pointer (some ⟨g1_1, 0, none⟩), .pointer (some ⟨g4_11, 0, none⟩)] := hv
 have d12 := d12.trans d11
 clear hv hr
 refine tail_set (n := 0) (v := .func (.func 78) #[] #[.pointer (some ⟨g3_9, 0, none⟩), .pointer (some ⟨g2_2, 0, none⟩), .pointer (some ⟨g1_1, 0, none⟩), .pointer (some ⟨g4_11, 0, none⟩)]) (new := #[.func (.func 78) #[] #[.pointer (some ⟨g3_9, 0, none⟩), .pointer (some ⟨g2_2, 0, none⟩), .pointer (some ⟨g1_1, 0, none⟩), .pointer (some ⟨g4_11, 0, none⟩)]]) rfl rfl rfl kg4_11 rfl (Dc.run_store1 rfl y4 y11 kg4_11 (by kernel_rfl) rfl) fun w13 S => ?_
 have kg1_1_13 := (S.far _ ne_g4_11_g1_1).trans kg1_1_11
 have kg2_2_13 := (S.far _ ne_g4_11_g2_2).trans kg2_2_11
 have kg3_9_13 := (S.far _ ne_g4_11_g3_9).trans kg3_9_11
 have kg4_11_13 := S.new
 have lg4_11_13 := Nat.lt_of_lt_of_eq lg4_11 S.size.symm
 have bl13 := S.below bl11 og4_11
 have Omet_13 := own_sets Omet_11 S kg4_11 rfl
 clear S
 refine tail_nil (wp_seq ?_)
 refine (wpIn_wide (n := 1)).1 (EngI.regionT (n := 2) rfl ?_)
 refine EngI.tw (w1 := w13) (v := .func (.func 78) #[] #[.pointer (some ⟨g3_9, 0, none⟩), .pointer (some ⟨g2_2, 0, none⟩), .pointer (some ⟨g1_1, 0, none⟩), .pointer (some ⟨g4_11, 0, none⟩)]) rfl ?_ s12 d12 ?_
 ·exact lb y4 (((Below.refl _ _).block _ lg4_11_13).trans kg4_11_13)
 intro A d14 s14 hv hr
 have y2 := k1 hr y2
 have y12 : A.eval (.tmp 12) = .func (.func 78) #[] #[.pointer (some ⟨g3_9, 0, none⟩), .pointer (some ⟨g2_2, 0, none⟩), .pointer (some ⟨g1_1, 0, none⟩), .pointer (some ⟨g4_11, 0, none⟩)] := hv
 clear hv hr
 have hX : Dc.Four w g3_9 g2_2 g1_1 g4_11 := ⟨og3_9, og2_2, og1_1, og4_11, ne_g3_9_g2_2.symm, ne_g2_2_g1_1, ne_g4_11_g2_2.symm⟩
 have Om : w13.ownsRow w.heap.size 3 1 v_8 (List.replicate h.length (0 : Int)).length (Dc.ints (List.replicate h.length 0)) := by rw [List.length_replicate]; exact Omet_13
 have MT0 : Dc.Mt w w13 g3_9 g2_2 g1_1 g4_11 v_8 (.slice none 0 0) gv (List.replicate h.length 0, []) := ⟨bl13, kg3_9_13, kg2_2_13, kg1_1_13, kg4_11_13, Om, World.ownsRow_nil _ _ _ _, fun b hb he => by cases he⟩
 refine EngI.tail_callv EngI.free_wide Tryd.func78 (by kernel_rfl) (by kernel_rfl) rfl rfl rfl y12 #[.int .i64 0] (m1 rfl) rfl s14 rfl (R := fun w' => ∃ ov', Dc.Mt w w' g3_9 g2_2 g1_1 g4_11 v_8 ov' gv s') ((Dc.meet_calls g3_9 g2_2 g1_1 g4_11 v_8 gv h w hX hF hK hin dp _ _ _ s' 0 MT0 (by simp) ⟨Int.le_refl _, h1⟩ hrn hob).mono ?_) fun w15 A R d15 s15 hr => ?_
 ·rintro e w' ⟨v, ov', rfl, r⟩; exact ⟨v, rfl, ov', r⟩
 obtain ⟨ov15, MT15⟩ := R
 have y2 := k1 hr y2
 have d15 := d15.trans d14
 have bl15 := MT15.b
 have kg2_2_15 := MT15.o
 have lg2_2_15 := (Array.getElem?_eq_some_iff.1 kg2_2_15).1
 have Oout := MT15.ro
 have Fout := Reads.of_own Oout
 refine EngI.tail_nil (wp_seq ?_)
 refine regionT (n := 2) rfl (tail_val (w1 := w15) (v := ov15) rfl rfl rfl ?_ s15 rfl ?_)
 ·exact lb y2 (((Below.refl _ _).block _ lg2_2_15).trans kg2_2_15)
 intro A d16 s16 hv hr
 have y2 := k1 hr y2
 have y14 : A.eval (.tmp 14) = ov15 := hv
 have d16 := d16.trans d15
 clear hv hr
 refine tail_set (n := 0) (v := ov15) (new := #[ov15]) rfl rfl rfl kg2_2_15 rfl ?_ fun w17 S => ?_
 ·have e0 : A.eval (.tmp 2) = .pointer (some ⟨g2_2, 0, none⟩) := y2
  have e1 : A.eval (.tmp 14) = ov15 := y14
  obtain ⟨A0_, c0_, ev0_⟩ := Reads.shape Fout
  subst ev0_
  have z0 := (Eng.cells kg2_2_15 (0)).trans (rfl)
  have f0 := unfrozen kg2_2_15 (0)
  simp only [execOp]
  rw [e0, e1]
  go_simp
 have kg2_2_17 := S.new
 have bl17 := S.below bl15 og2_2
 have Oout_17 := own_sets Oout S kg2_2_15 rfl
 clear S
 refine tail_nil (wp_ret ?_)
 repeat (first | with_reducible refine in_ret ?_ | with_reducible refine then_ret ?_)
 exact Dc.retw rfl d16 y2 kg2_2_17 (fun w => by kernel_rfl) ⟨_, rfl, Oout_17, bl17⟩
end Go.Proofs.YtgnmjaacnmkgnaaDoor.X
end
section
namespace Go.Proofs.YtgnmjaacnmkgnaaDoor.X
open Go.RowKit Go.Shelf Go.Proofs Go.Maps Go.WideMaps Go.ChangeMaps Go.WideElems Go.ChangeShapes
set_option linter.unusedVariables false
set_option linter.unusedSimpArgs false
namespace Tm
noncomputable def cnt : List Value → Value → Int
  | [], _ => 0
  | u :: L, v => @ite _ (u = v) (Classical.propDecidable _) (cnt L v + 1) (cnt L v)
theorem cnt_same (L : List Value) (v : Value) : cnt (v :: L) v = cnt L v + 1 := by
  show @ite _ (v = v) (Classical.propDecidable _) (cnt L v + 1) (cnt L v) = _
  exact if_pos rfl
theorem cnt_other (L : List Value) {u v : Value} (h : u ≠ v) : cnt (u :: L) v = cnt L v := by
  show @ite _ (u = v) (Classical.propDecidable _) (cnt L v + 1) (cnt L v) = _
  exact if_neg h
theorem cnt_bd (v : Value) : ∀ L : List Value, 0 ≤ cnt L v ∧ cnt L v ≤ L.length
  | [] => ⟨Int.le_refl _, Int.le_refl _⟩
  | u :: L => by
    have := cnt_bd v L
    by_cases h : u = v
    · subst h; rw [cnt_same]; simp only [List.length_cons]; omega
    · rw [cnt_other _ h]; simp only [List.length_cons]; omega
theorem cnt_zero {v : Value} : ∀ {L : List Value}, v ∉ L → cnt L v = 0
  | [], _ => rfl
  | u :: L, h => by
    rw [cnt_other _ (fun e => h (by rw [e]; exact List.mem_cons_self ..))]
    exact cnt_zero fun h' => h (List.mem_cons_of_mem _ h')
theorem cnt_pos {v : Value} : ∀ {L : List Value}, v ∈ L → 1 ≤ cnt L v
  | u :: L, h => by
    have := (cnt_bd v L).1
    by_cases he : u = v
    · subst he; rw [cnt_same]; omega
    · rw [cnt_other _ he]
      rcases List.mem_cons.1 h with h | h
      · exact absurd h.symm he
      · exact cnt_pos h
structure Cn (w : World) (B mb : Nat) (kt : TypeId) (n : Nat) (L : List Value) : Prop where
  lo : B ≤ mb
  own : ∃ D, w.ownsMap Tryd.prog kt (plainElem (H := Unit) Tryd.prog 3) mb n D ∧ ∀ key kl, keyOf Tryd.prog kt key = some kl → D.atKey kl (.lit (.int .i64 0)) = .lit (.int .i64 (cnt L key))
section
variable {w w' : World} {B mb n : Nat} {kt : TypeId} {L : List Value}
theorem Cn.lt (X : Cn w B mb kt n L) : mb < w.heap.size := by obtain ⟨D, h, _⟩ := X.own; exact h.lt
theorem Cn.map (X : Cn w B mb kt n L) : ∃ es c, w.heap[mb]? = some (.map es c) := by
  obtain ⟨D, ⟨es, c, h, _⟩, _⟩ := X.own; exact ⟨es, c, h⟩
theorem Cn.keep (X : Cn w B mb kt n L) (h : w'.heap[mb]? = w.heap[mb]?) : Cn w' B mb kt n L := by
  obtain ⟨D, ⟨es, c, h1, r⟩, h2⟩ := X.own
  exact ⟨X.lo, D, ⟨es, c, h.trans h1, r⟩, h2⟩
theorem Cn.below (X : Cn w B mb kt n L) (hb : Below w.heap.size w w') : Cn w' B mb kt n L := X.keep (hb.block _ X.lt)
theorem Cn.grown {g : Nat} (X : Cn w B mb kt n L) (G : w.grownBy w' (some g)) (hne : mb ≠ g) : Cn w' B mb kt n L := X.keep (G.block _ X.lt (by simpa using hne))
theorem Cn.ne {g : Nat} {T : TypeId} {cs : Array Value} (X : Cn w B mb kt n L) (hk : w.heap[g]? = some (.cells cs T (0, 0))) : g ≠ mb := by
  rintro rfl; obtain ⟨es, c, h⟩ := X.map; rw [hk] at h; cases h
theorem Cn.own_kept {B' size m : Nat} {e : TypeId} {v : Value} {xs : List Value} (X : Cn w B mb kt n L) (O : w.ownsRow B' e size v m xs) (G : w.grownBy w' (some mb)) : w'.ownsRow B' e size v m xs := O.kept G (by
  cases hq : v.ownBlock with
  | none => exact .inl rfl
  | some b =>
    refine .inr fun e => ?_
    obtain ⟨_, _, cs, h1⟩ := Eng.ownB O hq.symm
    obtain ⟨es, c, h2⟩ := X.map
    injection e with e; subst e
    rw [h1] at h2; cases h2)
theorem made (w : World) (kt : TypeId) (B : Nat) (hB : B ≤ w.heap.size) : Cn (w.alloc (.map #[] 0)) B w.heap.size kt 0 [] :=
  ⟨hB, .map [], World.ownsMap_made _ _ _ _, fun key kl _ => rfl⟩
theorem made_run {a : Act} {o : Oper} {t k : TypeId} (B : Nat) (hB : B ≤ w.heap.size) (kt : TypeId) (hop : o.op = .makeMap t none) (ht : Tryd.prog.underlying t = some (.map k 3)) :
    ∃ v w1, (execOp a.eval o).run Tryd.prog w = .ok (.value v) w1 ∧ ∃ mb, v = .map (some mb) ∧ w.heap.size ≤ mb ∧ Cn w1 B mb kt 0 [] ∧ Below w.heap.size w w1 := by
  refine ⟨.map (some w.heap.size), w.alloc (.map #[] 0), ?_, w.heap.size, rfl, Nat.le_refl _, made w kt B hB, (Below.refl _ _).alloc (Nat.le_refl _) _⟩
  unfold execOp; rw [hop]; simp [run_makeMap]
variable {t : TypeId} {key : Value} {kl : Lit}
theorem Cn.look (X : Cn w B mb kt n L) (K : Keyed Tryd.prog kt) (ht : Tryd.prog.underlying t = some (.map kt 3)) (hkey : keyOf Tryd.prog kt key = some kl) :
    (Instr.lookup t (.map (some mb)) key false).run Tryd.prog w = .ok (.int .i64 (cnt L key)) w := by
  obtain ⟨D, h, hc⟩ := X.own
  obtain ⟨c, h1, h2, _⟩ := h.lookup_int K ht Tryd.underlying3 (Dc.zero3 w) hkey
  rw [hc key kl hkey] at h2
  rw [h1, ← (Lit.int.inj (DataW.lit.inj h2)).2]
theorem wf_int {a : Int} (h0 : 0 ≤ a) (h1 : a ≤ 1000000000) : (Lit.int .i64 a).wf = true := by
  have h0 := Eng.i64_id (x := a) (by omega) (by omega)
  have hm : IntKind.i64.min = -9223372036854775808 := by decide
  simp [Lit.wf, h0, hm]; omega
theorem Cn.put (X : Cn w B mb kt n L) (K : Keyed Tryd.prog kt) (ht : Tryd.prog.underlying t = some (.map kt 3)) (hkey : keyOf Tryd.prog kt key = some kl) (hn : n < maxLen) (hL : L.length ≤ 100000000) :
    ∃ w', (Instr.mapUpdate t (.map (some mb)) key (.int .i64 (cnt L key + 1))).run Tryd.prog w = .ok () w' ∧ Cn w' B mb kt (n + 1) (key :: L) ∧ w.grownBy w' (some mb) := by
  obtain ⟨D, h, hc⟩ := X.own
  obtain ⟨hlo, hhi⟩ := cnt_bd key L
  obtain ⟨w', h1, h2, h3⟩ := h.update K ht hn hkey (plainElem_int Tryd.underlying3 (wf_int (a := cnt L key + 1) (by omega) (by omega)))
  refine ⟨w', h1, ⟨X.lo, _, h2, fun k2 l2 hk2 => ?_⟩, h3⟩
  by_cases he : key = k2
  · subst he
    have : l2 = kl := (Option.some.inj (hkey.symm.trans hk2)).symm
    subst this
    rw [atKey_put_same h.isMap (K.key hkey), cnt_same]
  · have : l2 ≠ kl := fun e => he (K.inj hkey (e ▸ hk2))
    rw [atKey_put_other this, cnt_other _ he]; exact hc k2 l2 hk2
theorem Cn.entry (X : Cn w B mb kt n L) (K : KeyLaw Tryd.prog kt) (ht : Tryd.prog.underlying t = some (.map kt 3)) (hkey : keyOf Tryd.prog kt key = some kl) (hn : n + 1 < maxLen) (hL : L.length ≤ 100000000) :
    ∃ v0 st w1 w2, (Instr.mapEntry t (.map (some mb)) key).run Tryd.prog w = .ok (.tuple #[v0, goInt st]) w1 ∧ w.grownBy w1 (some mb) ∧ Cn w1 B mb kt (n + 1) L ∧
      (Instr.entryStore t (.map (some mb)) (goInt st) (.int .i64 (cnt L key + 1))).run Tryd.prog w1 = .ok () w2 ∧ Cn w2 B mb kt (n + 2) (key :: L) ∧ w1.grownBy w2 (some mb) := by
  have Kd := Keyed.of_law K
  obtain ⟨D, hD, hc⟩ := X.own
  have hD' := hD
  obtain ⟨es, clock, hb, F, hsz, hDe⟩ := hD
  obtain ⟨v0, st, es1, clock1, hE, _, hS⟩ := entry_then_store K ht (fun u => Dc.zero3 u) hb F hkey
  have hb1 := heap_setBlock_same hb (.map es1 clock1)
  have hX1 : Cn (setBlock w mb (.map es1 clock1)) B mb kt (n + 1) L := by
    rcases K.find w hkey es.toList F.keys with ⟨h1, h2⟩ | ⟨j, e0, h1, h2, h3⟩
    · have hE2 : (Instr.mapEntry t (.map (some mb)) key).run Tryd.prog w = .ok (.tuple #[.int .i64 0, goInt clock]) (setBlock w mb (.map (es.push ⟨key, .int .i64 0, clock⟩) (clock + 1))) := by
        simp [Instr.mapEntry, run_underlying ht, MapKept.run_getObj_map hb, K.check w false hkey, h1, Dc.zero3, MapKept.run_setObj_map _ hb, Result.andThen, setBlock]
      have hU : (Instr.mapUpdate t (.map (some mb)) key (.int .i64 0)).run Tryd.prog w = .ok () (setBlock w mb (.map (es.push ⟨key, .int .i64 0, clock⟩) (clock + 1))) := by
        simp [Instr.mapUpdate, run_underlying ht, MapKept.run_getObj_map hb, K.check w false hkey, h1, MapKept.run_setObj_map _ hb, Result.andThen, setBlock]
      have hlk : (Instr.lookup t (.map (some mb)) key false).run Tryd.prog w = .ok (.int .i64 0) w := by
        simp [Instr.lookup, run_underlying ht, MapKept.run_getObj_map hb, K.check w _ hkey, h1, Dc.zero3, Result.andThen]
      have h0 : cnt L key = 0 := by
        rw [X.look Kd ht hkey] at hlk
        exact (Value.int.inj (Result.ok.inj hlk).1).2
      rw [hE] at hE2; injection hE2 with _ hw; rw [hw]
      obtain ⟨w', g1, g2, g3⟩ := hD'.update Kd ht (by omega) hkey (plainElem_int Tryd.underlying3 (wf_int (a := 0) (by omega) (by omega)))
      rw [hU] at g1; injection g1 with _ hw'; subst hw'
      refine ⟨X.lo, _, g2, fun k2 l2 hk2 => ?_⟩
      by_cases he : key = k2
      · subst he
        have : l2 = kl := (Option.some.inj (hkey.symm.trans hk2)).symm
        subst this
        rw [atKey_put_same hD'.isMap (Kd.key hkey), h0]
      · have : l2 ≠ kl := fun e => he (Kd.inj hkey (e ▸ hk2))
        rw [atKey_put_other this]; exact hc k2 l2 hk2
    · have hj : es[j]? = some e0 := by simpa using h2
      have hsame : es.modify j (fun e => { e with key := key }) = es := by
        apply Array.ext'
        rw [Array.toList_modify, modify_eq_set _ _ _ _ h2]
        have : ({ e0 with key := key } : MapEntry) = e0 := by rw [← h3]
        rw [this]
        exact set_self _ _ _ h2
      have hE2 : (Instr.mapEntry t (.map (some mb)) key).run Tryd.prog w = .ok (.tuple #[e0.val, goInt e0.born]) (setBlock w mb (.map es clock)) := by
        simp [Instr.mapEntry, run_underlying ht, MapKept.run_getObj_map hb, K.check w false hkey, h1, hj, h3, K.stays w hkey, hsame, MapKept.run_setObj_map _ hb, Result.andThen, setBlock]
      rw [hE] at hE2; injection hE2 with _ hw; rw [hw]
      obtain ⟨l, D2, ho, hr⟩ := X.keep (w' := setBlock w mb (.map es clock)) ((heap_setBlock_same hb _).trans hb.symm)
      exact ⟨l, D2, ho.mono (by omega), hr⟩
  have gb : ∀ (u : World) (o : Obj) {es : Array MapEntry} {c : Nat}, u.heap[mb]? = some (.map es c) → u.grownBy (setBlock u mb o) (some mb) := fun u o es c h => ⟨rfl, rfl, rfl, by simp [setBlock], fun i _ hi => heap_setBlock_other h _ (fun e => hi (by rw [e]))⟩
  obtain ⟨es', clock', hs1, hs2⟩ := hS (setBlock w mb (.map es1 clock1)) (.int .i64 (cnt L key + 1)) hb1
  obtain ⟨w', p1, p2, p3⟩ := X.put Kd ht hkey (by omega) hL
  rw [hs2] at p1; injection p1 with _ hw; subst hw
  obtain ⟨l, D2, ho, hr⟩ := p2.keep (w' := setBlock (setBlock w mb (.map es1 clock1)) mb (.map es' clock')) ((heap_setBlock_same hb1 _).trans (heap_setBlock_same hb _).symm)
  exact ⟨v0, st, _, _, hE, gb _ _ hb, hX1, hs1, ⟨l, D2, ho.mono (by omega), hr⟩, gb _ _ hb1⟩
end
theorem key_int : Keyed Tryd.prog 3 := int_keyed Tryd.underlying3
theorem laid : laidOutB Tryd.prog = true := by kernel_rfl
theorem law_leaf : KeyLaw Tryd.prog 105 := deep_law_gate laid (of_decide_eq_true (by kernel_rfl)) (of_decide_eq_true (by kernel_rfl)) (by kernel_rfl) (by kernel_rfl)
theorem key_leaf : Keyed Tryd.prog 105 := Keyed.of_law law_leaf
theorem lits_str {n : Nat} {s : ByteArray} (hs : s.size ≤ maxLen) : Tryd.prog.keyLits (n + 1) 9 [.string s] = some [.string s.data.toList] := by
  unfold Program.keyLits; simp [Tryd.underlying9, hs]
theorem keyOf_leaf {t x : ByteArray} (ht : t.size ≤ maxLen) (hx : x.size ≤ maxLen) : ∃ kl, keyOf Tryd.prog 105 (.agg #[.string t, .string x]) = some kl := by
  have h1 : Tryd.prog.keyType 105 = true := by kernel_rfl
  have h2 : Value.formed Tryd.prog 105 (.agg #[.string t, .string x]) = true := by kernel_rfl
  have h3 : ∃ m, Tryd.prog.types.size = m + 1 := ⟨Tryd.prog.types.size - 1, by have : 0 < Tryd.prog.types.size := of_decide_eq_true (by kernel_rfl); omega⟩
  obtain ⟨m, h3⟩ := h3
  have h4 : Tryd.prog.cellsOf 105 = 2 := by kernel_rfl
  have h5 : Tryd.prog.cellsOf 9 = 1 := by kernel_rfl
  unfold keyOf
  simp only [Tryd.underlying105, h1, h2, h3, Value.cells]
  unfold Program.keyLits
  simp [Tryd.underlying105, h4, h5, lits_str ht, lits_str hx]
end Tm
end Go.Proofs.YtgnmjaacnmkgnaaDoor.X
end
