/- Words and walks that the row of ComposeParts needs: printed by programs, and plain laws. -/
import Derived.Test.YtgnmjaacnmkgnaaDoorM15
import Derived.Test.YtgnmjaacnmkgnaaDoorM8
import Derived.Test.YtgnmjaacnmkgnaaDoorM3
import Derived.Test.YtgnmjaacnmkgnaaDoorM6
import Derived.Test.YtgnmjaacnmkgnaaDoorM2
import Derived.Test.YtgnmjaacnmkgnaaDoorM13
import Derived.Test.YtgnmjaacnmkgnaaDoorM14
namespace Go.Proofs.YtgnmjaacnmkgnaaDoorW.PrintWords
end Go.Proofs.YtgnmjaacnmkgnaaDoorW.PrintWords
namespace Go.Proofs.YtgnmjaacnmkgnaaDoorW.PrintLast
end Go.Proofs.YtgnmjaacnmkgnaaDoorW.PrintLast
namespace Go.Proofs.YtgnmjaacnmkgnaaDoorW.PrintMore
end Go.Proofs.YtgnmjaacnmkgnaaDoorW.PrintMore
section
namespace Go.Proofs.YtgnmjaacnmkgnaaDoor.X
open Go.RowKit Go.Shelf Go.Proofs Go.Proofs.YtgnmjaacnmkgnaaDoorW.PrintWords Go.Proofs.YtgnmjaacnmkgnaaDoorW.PrintLast Go.Proofs.YtgnmjaacnmkgnaaDoorW.PrintMore
set_option linter.unusedVariables false
set_option linter.unusedSimpArgs false
namespace Evt
theorem rightR_app (b : List Ev) : ∀ (a : List Ev) (st : List (Int × Int)), rightR rightE st a = true → rightR rightE st (a ++ b) = rightR rightE [] b := by
  intro a
  induction a with
  | nil =>
    intro st h
    rw [rightR] at h
    cases st with
    | nil => rfl
    | cons => cases h
  | cons x t ih =>
    intro st h
    rw [List.cons_append, rightR]
    rw [rightR, Bool.and_eq_true] at h
    rw [h.1, Bool.true_and]
    cases hq : takeF st x.kind with
    | none => rw [hq] at h; exact absurd h.2 (by simp)
    | some st' => rw [hq] at h; exact ih st' h.2
def Dp (st : List (Int × Int)) (d : Int) : Prop := (st = [] ∧ d = 0) ∨ ∃ m rest, st = (0, m) :: rest ∧ (∀ t ∈ rest, t.1 = 2 ∨ t.1 = 4) ∧ d = (rest.length : Int)
theorem dp_ne {m : Int} {rest : List (Int × Int)} (h : ∀ t ∈ rest, t.1 = 2 ∨ t.1 = 4) : (rest = [] ∧ ((0, m) :: rest).getLast? = some (0, m)) ∨ ∃ pre t, rest = pre ++ [t] ∧ (t.1 = 2 ∨ t.1 = 4) ∧ ((0, m) :: rest).getLast? = some t := Dc.last_kind h
theorem w64 {i : Int} (h0 : -1 ≤ i) (h1 : i ≤ 1000000) : IntKind.i64.wrap i = i := Eng.i64_id (by omega) (by omega)
theorem dp_step {st st' : List (Int × Int)} {d m : Int} {k : Int} (h : Dp st d) (hd : d ≤ 100000) (ht : takeF st k = some st') : Dp st' (dstep (d, m) k).1 ∧ (dstep (d, m) k).1 ≤ d + 1 := by
  rcases h with ⟨rfl, rfl⟩ | ⟨m0, rest, rfl, hk, rfl⟩
  · have h0 := Dc.take_empty ht
    subst h0
    rw [(Dc.take_begin_st ht).2]
    exact ⟨.inr ⟨0, [], rfl, fun t h => absurd h List.not_mem_nil, rfl⟩, by show (0 : Int) ≤ 0 + 1; decide⟩
  · by_cases h0 : k = 0
    · subst h0; exact absurd (Dc.take_begin_st ht).1 (by simp)
    · by_cases h1 : k = 1
      · subst h1
        have hr : Dc.Rel ((0, m0) :: rest) (rest.map (·.1)) := ⟨m0, rest, rfl, hk, by simp⟩
        have e := Dc.rel_end ht hr
        subst e
        rcases dp_ne (m := m0) hk with ⟨rfl, _⟩ | ⟨pre, t, rfl, ht2, hl⟩
        · exact ⟨.inl ⟨rfl, rfl⟩, by show (0 : Int) ≤ 0 + 1; decide⟩
        · rw [takeF_1, Dc.pop_none_kind hl (by omega)] at ht; cases ht
      · by_cases h35 : k = 3 ∨ k = 5
        · have hp : ∃ q may, (q = 2 ∨ q = 4) ∧ pop ((0, m0) :: rest) q may = some st' := by
            rcases h35 with rfl | rfl
            · rw [takeF_3] at ht; exact ⟨2, _, .inl rfl, ht⟩
            · rw [takeF_5] at ht; exact ⟨4, _, .inr rfl, ht⟩
          obtain ⟨q, may, hq, hp⟩ := hp
          rcases dp_ne (m := m0) hk with ⟨rfl, hl⟩ | ⟨pre, t, rfl, ht2, hl⟩
          · rw [Dc.pop_none_kind hl (by show ¬ (0 : Int) = q; omega)] at hp; cases hp
          · have e : dstep ((((pre ++ [t]).length : Nat) : Int), m) k = (IntKind.i64.wrap ((((pre ++ [t]).length : Nat) : Int) - 1), mx m (IntKind.i64.wrap ((((pre ++ [t]).length : Nat) : Int) - 1))) := by
              unfold dstep; rw [if_neg (by omega), if_pos h35]
            rw [e]
            simp only [List.length_append, List.length_cons, List.length_nil] at hd ⊢
            rw [w64 (by omega) (by omega)]
            refine ⟨.inr ⟨m0, pre, ?_, fun u hu => hk u (List.mem_append_left _ hu), by simp⟩, by omega⟩
            rw [pop_st hp, ← List.cons_append, List.dropLast_concat]
        · rw [takeF_x _ _ h0 h1 (fun e => h35 (.inl e)) (fun e => h35 (.inr e))] at ht
          simp only [List.isEmpty_cons, Bool.false_eq_true, if_false] at ht
          have hm := Dc.rel_more (opn := rest.map (·.1)) ⟨m0, rest, rfl, hk, by simp⟩
          obtain ⟨m1, rest1, e1, hk1, hl1⟩ := hm
          have hl1 : rest1.length = rest.length := by rw [hl1]; simp
          by_cases h24 : k = 2 ∨ k = 4
          · rw [if_pos h24] at ht
            injection ht with ht
            have e : dstep (((rest.length : Nat) : Int), m) k = (IntKind.i64.wrap ((rest.length : Int) + 1), mx m (IntKind.i64.wrap ((rest.length : Int) + 1))) := by unfold dstep; rw [if_pos h24]
            rw [e]
            simp only
            rw [w64 (by omega) (by omega)]
            refine ⟨.inr ⟨m1, rest1 ++ [(k, 0)], ?_, fun u hu => ?_, by simp [hl1]⟩, Int.le_refl _⟩
            · rw [← ht, e1, List.cons_append]
            · rcases List.mem_append.1 hu with hu | hu
              · exact hk1 u hu
              · rw [List.mem_singleton.1 hu]; exact h24
          · rw [if_neg h24] at ht
            injection ht with ht
            have e : dstep (((rest.length : Nat) : Int), m) k = ((rest.length : Int), mx m (rest.length : Int)) := by unfold dstep; rw [if_neg h24, if_neg h35]
            rw [e]
            exact ⟨.inr ⟨m1, rest1, by rw [← ht, e1], hk1, by rw [hl1]⟩, by simp only; omega⟩
def deepF (d : Int × Int) (l : List Ev) : Int × Int := l.foldl (fun d e => dstep d e.kind) d
theorem depth0 : ∀ (a : List Ev) (st : List (Int × Int)) (d : Int × Int) (k : Nat), rightR rightE st a = true → Dp st d.1 → d.1 ≤ k → k + a.length ≤ 100000 → (deepF d a).1 = 0 := by
  intro a
  induction a with
  | nil =>
    intro st d k h hd _ _
    rw [rightR] at h
    rcases hd with ⟨_, h0⟩ | ⟨m, rest, rfl, _⟩
    · exact h0
    · cases h
  | cons x t ih =>
    intro st d k h hd hk hl
    rw [rightR, Bool.and_eq_true] at h
    simp only [List.length_cons] at hl
    cases hq : takeF st x.kind with
    | none => rw [hq] at h; exact absurd h.2 (by simp)
    | some st' =>
      rw [hq] at h
      have hs := dp_step (m := d.2) hd (by omega) hq
      have h2 : (dstep d x.kind).1 ≤ d.1 + 1 := hs.2
      exact ih st' (dstep d x.kind) (k + 1) h.2 hs.1 (by push_cast; omega) (by omega)
theorem mx_max (a b : Int) : mx a b = max a b := by unfold mx; rw [Int.max_def]; split <;> split <;> omega
theorem deep_from (b : List Ev) : ∀ (d m m' : Int), (deepF (d, m) b).1 = (deepF (d, m') b).1 ∧ (deepF (d, mx m m') b).2 = mx m (deepF (d, m') b).2 := by
  induction b with
  | nil => intro d m m'; exact ⟨rfl, rfl⟩
  | cons x t ih =>
    intro d m m'
    have hd : ∀ q : Int, ∃ e, dstep (d, q) x.kind = (e, mx q e) ∧ ∀ r, dstep (d, r) x.kind = (e, mx r e) := by
      intro q
      by_cases h1 : x.kind = 2 ∨ x.kind = 4
      · exact ⟨_, by unfold dstep; rw [if_pos h1], fun r => by unfold dstep; rw [if_pos h1]⟩
      · by_cases h2 : x.kind = 3 ∨ x.kind = 5
        · exact ⟨_, by unfold dstep; rw [if_neg h1, if_pos h2], fun r => by unfold dstep; rw [if_neg h1, if_pos h2]⟩
        · exact ⟨_, by unfold dstep; rw [if_neg h1, if_neg h2], fun r => by unfold dstep; rw [if_neg h1, if_neg h2]⟩
    obtain ⟨e, _, hr⟩ := hd m
    show (deepF (dstep (d, m) x.kind) t).1 = (deepF (dstep (d, m') x.kind) t).1 ∧ (deepF (dstep (d, mx m m') x.kind) t).2 = mx m (deepF (dstep (d, m') x.kind) t).2
    rw [hr, hr, hr]
    refine ⟨(ih e _ _).1, ?_⟩
    have e1 : mx (mx m m') e = mx m (mx m' e) := by simp only [mx_max]; omega
    rw [e1]; exact (ih e m (mx m' e)).2
theorem rightG_app {a b : List Ev} (ha : rightG rightE a = true) (hb : rightG rightE b = true) (hl : a.length ≤ 100000) : rightG rightE (a ++ b) = true := by
  unfold rightG at ha hb ⊢
  rw [Bool.and_eq_true] at ha hb ⊢
  refine ⟨(rightR_app b a [] ha.1).trans hb.1, decide_eq_true ?_⟩
  have h1 := of_decide_eq_true ha.2
  have h2 := of_decide_eq_true hb.2
  have hz : (depths a).1 = 0 := depth0 a [] (0, 0) 0 ha.1 (.inl ⟨rfl, rfl⟩) (Int.le_refl _) (by omega)
  have e : depths (a ++ b) = deepF (depths a) b := by unfold depths deepF; rw [List.foldl_append]
  have e2 : depths a = (0, mx (depths a).2 0) := by
    have hnn : 0 ≤ (depths a).2 := by
      have := (deep_from a 0 0 0).2
      have h3 : (depths a).2 = mx 0 (depths a).2 := this
      rw [mx_max] at h3; omega
    have e3 : mx (depths a).2 0 = (depths a).2 := by rw [mx_max]; omega
    rw [e3, ← hz]
  rw [e, e2, (deep_from b 0 (depths a).2 0).2, mx_max]
  have : (deepF (0, 0) b).2 = (depths b).2 := rfl
  omega
end Evt
namespace Dc
open Evt (takeF pop more Ev)
theorem runF_out : ∀ (l : List Ev) (d : Dc) (out : List (List Nd)), runF d out l = if (runF d [] l).2 = 0 then (out ++ (runF d [] l).1, 0) else runF d [] l := by
  intro l
  induction l with
  | nil => intro d out; simp [runF]
  | cons x t ih =>
    intro d out
    rw [runF, runF]
    split
    · rw [ih _ (if (stepF d x).2.1 = true then out ++ [(stepF d x).1.nodes] else out), ih _ (if (stepF d x).2.1 = true then [] ++ [(stepF d x).1.nodes] else [])]
      split
      · simp only [if_true]; split <;> simp
      · rfl
    · rfl
def endF (d : Dc) (l : List Ev) : Dc := l.foldl (fun d x => (stepF d x).1) d
theorem runF_app (b : List Ev) : ∀ (a : List Ev) (d : Dc) (out : List (List Nd)), runF d out (a ++ b) = if (runF d out a).2 = 0 then runF (endF d a) (runF d out a).1 b else runF d out a := by
  intro a
  induction a with
  | nil => intro d out; simp [runF, endF]
  | cons x t ih =>
    intro d out
    rw [List.cons_append, runF, runF]
    split
    · rw [ih]; rfl
    · rfl
theorem runF_any {b : List Ev} (h : Evt.rightR Evt.rightE [] b = true) (d d' : Dc) (out : List (List Nd)) : runF d out b = runF d' out b := by
  cases b with
  | nil => rfl
  | cons x t =>
    rw [Evt.rightR, Bool.and_eq_true] at h
    have h0 : x.kind = 0 := by
      cases hq : takeF [] x.kind with
      | none => rw [hq] at h; exact absurd h.2 (by simp)
      | some st' => exact take_empty hq
    rw [runF, runF, stepF_0 h0, stepF_0 h0]
theorem graphsF_app {a b : List Ev} (ha : Evt.rightG Evt.rightE a = true) (hb : Evt.rightG Evt.rightE b = true) (hl : a.length ≤ 100000) :
    graphsF (a ++ b) = if (graphsF a).2 = 0 then (if (graphsF b).2 = 0 then ((graphsF a).1 ++ (graphsF b).1, 0) else graphsF b) else graphsF a := by
  rw [graphsF_is (Evt.rightG_app ha hb hl), graphsF_is ha, graphsF_is hb, runF_app]
  split
  · rw [runF_any (rightG_R hb) _ ⟨[], [], []⟩, runF_out]
  · rfl
theorem graphsF_bad {a b : List Ev} (ha : Evt.rightG Evt.rightE a = true) (hb : Evt.rightG Evt.rightE b = true) (hl : a.length ≤ 100000) (h : ¬ (graphsF a).2 = 0) : (graphsF (a ++ b)).2 = (graphsF a).2 := by rw [graphsF_app ha hb hl, if_neg h]
theorem graphsF_bad2 {a b : List Ev} (ha : Evt.rightG Evt.rightE a = true) (hb : Evt.rightG Evt.rightE b = true) (hl : a.length ≤ 100000) (h : (graphsF a).2 = 0) (h2 : ¬ (graphsF b).2 = 0) : (graphsF (a ++ b)).2 = (graphsF b).2 := by rw [graphsF_app ha hb hl, if_pos h, if_neg h2]
theorem graphsF_good {a b : List Ev} (ha : Evt.rightG Evt.rightE a = true) (hb : Evt.rightG Evt.rightE b = true) (hl : a.length ≤ 100000) (h : (graphsF a).2 = 0) (h2 : (graphsF b).2 = 0) : graphsF (a ++ b) = ((graphsF a).1 ++ (graphsF b).1, 0) := by rw [graphsF_app ha hb hl, if_pos h, if_pos h2]
end Dc
end Go.Proofs.YtgnmjaacnmkgnaaDoor.X
end
section
namespace Go.Proofs.YtgnmjaacnmkgnaaDoor.X
open Go.RowKit Go.Shelf Go.Proofs Go.Proofs.YtgnmjaacnmkgnaaDoorW.PrintWords Go.Proofs.YtgnmjaacnmkgnaaDoorW.PrintLast Go.Proofs.YtgnmjaacnmkgnaaDoorW.PrintMore
set_option linter.unusedVariables false
set_option linter.unusedSimpArgs false
attribute [local go_sem] max2_int min2_int max_two min_two
set_option maxHeartbeats 4000000 in
set_option maxRecDepth 100000 in
theorem Dc.clone_calls (v : Value) (l : List Int) (w : World) (hx : Eng.Reads w v l.length 1 (Dc.ints l)) (hl : l.length ≤ 2000000) : Calls Tryd.prog 42 #[v] w fun e w' => ∃ v', e = .returned v' ∧ w'.ownsRow w.heap.size 3 1 v' l.length (Dc.ints l) ∧ Below w.heap.size w w' := by
 refine Eng.enter Tryd.func42 rfl fun act0 d0 s0 v0 => ?_
 have s0 : act0.tmps.size = 8 := s0
 have h0_0 : act0.eval (.tmp 0) = v := v0 0 (by simp)
 clear v0
 have bl0 : Below w.heap.size w w := Below.refl _ _
 refine wp_seq ?_
 refine Eng.regionS (Eng.still [fun u_ => u_ = .slice none 0 0]) (fun _ => .plain) 1 0 8 s0 rfl (by kernel_rfl) (Eng.still_stable _) (Or.inr (Eng.still_any _)) ?_ ?_
 ·refine .c ?_ (.nil)
  ·exact Eng.pv fun a w' H => Eng.vr rfl (Eng.run_assign rfl (rfl : a.eval (.const (.slice none 0 0)) = .slice none 0 0))
 intro act1 w1 T
 have h0_1 := T.r 0 h0_0
 have Fin_1 := Eng.Reads.below hx T.below
 have d1 := T.defers.trans d0
 have s1 := T.size.trans s0
 have bl1 := bl0.trans (T.below.mono bl0.size)
 clear T
 refine Eng.tail_nil ?_
 refine wp_seq ?_
 refine wp_seq ?_
 obtain ⟨q4, Bq4⟩ : ∃ b : Bool, b = (Eng.isNil v) := ⟨_, rfl⟩
 refine Eng.regionS (Eng.still [fun u_ => u_ = v, fun u_ => u_ = .bool q4]) (fun _ => .plain) 2 0 8 s1 rfl (by kernel_rfl) (Eng.still_stable _) (Or.inr (Eng.still_any _)) ?_ ?_
 ·refine .c ?_ (.c ?_ (.nil))
  ·exact Eng.pv fun a w' H => Eng.vr rfl (Eng.run_move rfl (H.q 0 h0_1))
  ·exact Eng.pv fun a w' H => Eng.vr (v := .bool (Eng.isNil v)) (by show _ = Value.bool q4; rw [Bq4]) (Eng.run_isnil rfl Tryd.underlying55 (show a.eval (.tmp 3) = v from (H.d 0 3)) (Eng.Reads.below Fin_1 H.below))
 intro act2 w2 T
 have h0_2 := T.r 0 h0_1
 have Fin_2 := Eng.Reads.below Fin_1 T.below
 have h4_2 : act2.eval (.tmp 4) = .bool q4 := T.done 1 4 rfl rfl
 have d2 := T.defers.trans d1
 have s2 := T.size.trans s1
 have bl2 := bl1.trans (T.below.mono bl1.size)
 clear T
 refine Eng.tail_nil ?_
 refine wp_cond_split h4_2 (fun hq => ?_) (fun hq => ?_)
 ·
  have c4 := Bq4.symm.trans hq
  clear hq
  have hz := Eng.isNil_zero hx c4 rfl
  have hl0 : l = [] := List.eq_nil_of_length_eq_zero hz
  refine wp_seq ?_
  refine Eng.regionS (Eng.still [fun u_ => u_ = .slice none 0 0]) (fun _ => .plain) 1 0 8 s2 rfl (by kernel_rfl) (Eng.still_stable _) (Or.inr (Eng.still_any _)) ?_ ?_
  ·refine .c ?_ (.nil)
   ·exact Eng.pv fun a w' H => Eng.vr rfl (Eng.run_assign rfl (rfl : a.eval (.const (.slice none 0 0)) = .slice none 0 0))
  intro act4 w4 T
  have h2_4 : act4.eval (.tmp 2) = .slice none 0 0 := T.done 0 2 rfl rfl
  have d4 := T.defers.trans d2
  have bl4 := bl2.trans (T.below.mono bl2.size)
  clear T
  refine Eng.tail_nil ?_
  refine wp_ret ?_
  repeat (first | refine Eng.in_ret ?_ | refine Eng.then_ret ?_)
  exact Eng.ret1 rfl d4 h2_4 ⟨_, rfl, by rw [hl0]; exact World.ownsRow_nil _ _ _ _, bl4⟩
 ·
  have c4 := Bq4.symm.trans hq
  clear hq
  refine wp_skip ?_
  refine wp_seq ?_
  refine Eng.regionT (n := 4) rfl ?_
  refine Eng.tail_ex rfl rfl rfl (Eng.run_build0 (B := w.heap.size) (size := 1) (z := .int .i64 0) (e := 3) rfl Tryd.underlying55 (by kernel_rfl) bl2.size) s2 rfl fun v_6 w6 act6 R d6 s6 hv hr => ?_
  obtain ⟨O_6, b_6⟩ := R
  have h0_6 := (hr 0 rfl).trans h0_2
  have h5_6 : act6.eval (.tmp 5) = v_6 := hv
  have d6 := d6.trans d2
  clear hv hr
  have Fin_6 := Eng.Reads.below Fin_2 b_6
  have bl6 := bl2.trans (b_6.mono bl2.size)
  refine Eng.tail_val rfl rfl rfl (Eng.run_move rfl h0_6) s6 rfl fun act7 d7 s7 hv hr => ?_
  have h5_7 := (hr 5 rfl).trans h5_6
  have h6_7 : act7.eval (.tmp 6) = v := hv
  have d7 := d7.trans d6
  clear hv hr
  refine Eng.tail_ex rfl rfl rfl (Eng.run_appendI (z := .int .i64 0) rfl Tryd.underlying55 (by kernel_rfl) rfl rfl h5_7 O_6 h6_7 Fin_6 (Dc.ints_one _) (by simp; omega) bl6.size) s7 rfl fun v_8 w8 act8 R d8 s8 hv hr => ?_
  obtain ⟨O_8, _, b_8, G_8, EO_8⟩ := R
  have h7_8 : act8.eval (.tmp 7) = v_8 := hv
  have d8 := d8.trans d7
  clear hv hr
  have bl8 := bl6.trans b_8
  have Oa8 : w8.ownsRow w.heap.size 3 1 v_8 l.length (Dc.ints l) := (by have O := O_8; rw [Nat.zero_add] at O; exact O)
  have Fa8 := Eng.Reads.of_own Oa8
  refine Eng.tail_val rfl rfl rfl (Eng.run_assign rfl h7_8) s8 rfl fun act9 d9 s9 hv hr => ?_
  have h2_9 : act9.eval (.tmp 2) = v_8 := hv
  have d9 := d9.trans d8
  clear hv hr
  refine Eng.tail_nil ?_
  refine wp_ret ?_
  repeat (first | refine Eng.in_ret ?_ | refine Eng.then_ret ?_)
  exact Eng.ret1 rfl d9 h2_9 ⟨_, rfl, Oa8, bl8⟩
end Go.Proofs.YtgnmjaacnmkgnaaDoor.X
end
section
set_option linter.unusedVariables false
set_option linter.unusedSimpArgs false
namespace Go.Proofs.Eng
open Go Go.RowKit
variable {P : Program}
theorem own_grown {w w' : World} {B B' : Nat} {e e' : TypeId} {size n size' n' : Nat} {v v' : Value} {xs xs' : List Value} (O : w.ownsRow B e size v n xs) (G : w.grownBy w' v'.ownBlock) (O' : w.ownsRow B' e' size' v' n' xs') (hne : (e != e') = true) : w'.ownsRow B e size v n xs := by
  refine O.kept G ?_
  cases hq : v.ownBlock with
  | none => exact .inl rfl
  | some b => exact .inr (own_apart_ty O O' hne hq.symm)
theorem bl_step {W w w' : World} (h : Below W.heap.size W w) (b : Below w.heap.size w w') : Below W.heap.size W w' := h.trans (b.mono h.size)
theorem bl_grown {W w w' : World} {B : Nat} {e : TypeId} {size n : Nat} {v : Value} {xs : List Value} (h : Below W.heap.size W w) (O : w.ownsRow B e size v n xs) (hB : W.heap.size ≤ B) (G : w.grownBy w' v.ownBlock) : Below W.heap.size W w' :=
  h.grown G h.size fun j hj => Nat.le_trans hB (ownB O hj.symm).1
section
variable {o : Oper} {a : Act} {w : World}
theorem run_appendM {B : Nat} {t e : TypeId} {z : Value} {size : Nat} {s x : Operand} (hop : o.op = .call { callee := .builtin .append, args := #[s, x], argTypes := #[t, t] })
    (ht : P.underlying t = some (.slice e)) (hI : (P.info? e).map (fun i => (i.size, decide (i.bytes ≤ 64), i.zero)) = some (size, true, some z)) (hzs : z.cells.size = size) (hsz : (decide (0 < size)) = true)
    {v xv : Value} {n : Nat} {xs : List Value} (hs : a.eval s = v) (O : w.ownsRow B e size v n xs) (hx : a.eval x = xv) {m : Nat} {news : List Value} (F : Reads w xv m size news) (h1 : ∀ u ∈ news, u.oneCell' = true) (h63 : n + m ≤ 2199023255488) (hB : B ≤ w.heap.size) :
    ∃ v' w', (execOp a.eval o).run P w = .ok (.value v') w' ∧ w'.ownsRow B e size v' (n + m) (xs ++ news) ∧ w'.ownsRow B e size v n xs ∧ Below B w w' ∧ w.grownBy w' v.ownBlock ∧ (v'.ownBlock = v.ownBlock ∨ v'.ownBlock = some w.heap.size) := by
  cases hq : P.info? e with
  | none => simp [hq] at hI
  | some i =>
    simp [hq] at hI
    obtain ⟨h2, h3, h4⟩ := hI
    have hb : (n + m) * i.bytes ≤ 140737488355328 := Nat.le_trans (Nat.mul_le_mul h63 h3) (by decide)
    obtain ⟨v', w', hr, h⟩ := own_appendT (P := P) (ty := o.type) ht hq h4 h2 (by omega) hzs (of_decide_eq_true hsz) O F h1 (by unfold maxLen; omega) hb hB
    refine ⟨v', w', ?_, h⟩
    unfold execOp
    simp only [hop, resolve, invoke, builtin, Sem.run_bind, Sem.run_pure, Result.andThen_ok, List.map_toArray, List.map_cons, List.map_nil, hs, hx, hr]
end
end Go.Proofs.Eng
end
section
namespace Go.Proofs.YtgnmjaacnmkgnaaDoor.X
open Go.RowKit Go.Shelf Go.Proofs Go.Maps
set_option linter.unusedVariables false
set_option linter.unusedSimpArgs false
namespace Dc
def KsO (B : Nat) (w : World) (hs : List NV) : Prop := ∀ x ∈ hs, w.ownsRow B 3 1 x.2 x.1.kids.length (ints x.1.kids)
def KsR (w : World) (hs : List NV) : Prop := ∀ x ∈ hs, Eng.Reads w x.2 x.1.kids.length 1 (ints x.1.kids)
theorem KsO.below {B : Nat} {w w' : World} {hs : List NV} (h : KsO B w hs) (b : Below w.heap.size w w') : KsO B w' hs := fun x hx => Eng.own_below (h x hx) b
theorem KsR.below {w w' : World} {hs : List NV} (h : KsR w hs) (b : Below w.heap.size w w') : KsR w' hs := fun x hx => (h x hx).below b
theorem KsO.grown {B B' : Nat} {e : TypeId} {w w' : World} {hs : List NV} {v : Value} {n size : Nat} {xs : List Value} (h : KsO B w hs) (G : w.grownBy w' v.ownBlock) (O : w.ownsRow B' e size v n xs) (hne : (3 != e) = true) : KsO B w' hs := fun x hx => Eng.own_grown (h x hx) G O hne
theorem KsO.sets {B g : Nat} {T : TypeId} {cs : Array Value} {o : Obj} {w w' : World} {hs : List NV} (h : KsO B w hs) (S : Eng.Sets w w' g o) (hg : w.heap[g]? = some (.cells cs T (0, 0))) (hne : (3 != T) = true) : KsO B w' hs := fun x hx => Eng.own_sets (h x hx) S hg hne
theorem KsO.mono {B B' : Nat} {w : World} {hs : List NV} (h : KsO B w hs) (hB : B' ≤ B) : KsO B' w hs := fun x hx => Eng.own_mono (h x hx) hB
theorem KsO.reads {B : Nat} {w : World} {hs : List NV} (h : KsO B w hs) : KsR w hs := fun x hx => Eng.Reads.of_own (h x hx)
theorem KsO.nil {B : Nat} {w : World} : KsO B w [] := fun x hx => absurd hx List.not_mem_nil
theorem KsO.snoc {B : Nat} {w : World} {hs : List NV} {x : NV} (h : KsO B w hs) (hx : w.ownsRow B 3 1 x.2 x.1.kids.length (ints x.1.kids)) : KsO B w (hs ++ [x]) := fun y hy => by
  rcases List.mem_append.1 hy with hy | hy
  · exact h y hy
  · rw [List.mem_singleton.1 hy]; exact hx
theorem KsR.at_ {w : World} {hs : List NV} (h : KsR w hs) {k : Nat} (hk : k < hs.length) : Eng.Reads w (hs.getD k default).2 (hs.getD k default).1.kids.length 1 (ints (hs.getD k default).1.kids) := by
  refine h _ ?_
  rw [List.getD_eq_getElem?_getD, List.getElem?_eq_getElem hk]; exact List.getElem_mem hk
def GR (w : World) (nd : List Nd) (v : Value) : Prop := ∃ hs : List NV, hs.map (·.1) = nd ∧ Eng.Reads w v hs.length 4 (cells hs) ∧ KsR w hs
def GO (B : Nat) (w : World) (nd : List Nd) (v : Value) : Prop := ∃ hs : List NV, hs.map (·.1) = nd ∧ w.ownsRow B 81 4 v hs.length (cells hs) ∧ KsO B w hs
theorem GR.below {w w' : World} {nd : List Nd} {v : Value} (h : GR w nd v) (b : Below w.heap.size w w') : GR w' nd v := by
  obtain ⟨hs, e, F, K⟩ := h; exact ⟨hs, e, F.below b, K.below b⟩
theorem GO.below {B : Nat} {w w' : World} {nd : List Nd} {v : Value} (h : GO B w nd v) (b : Below w.heap.size w w') : GO B w' nd v := by
  obtain ⟨hs, e, O, K⟩ := h; exact ⟨hs, e, Eng.own_below O b, K.below b⟩
theorem GO.mono {B B' : Nat} {w : World} {nd : List Nd} {v : Value} (h : GO B w nd v) (hB : B' ≤ B) : GO B' w nd v := by
  obtain ⟨hs, e, O, K⟩ := h; exact ⟨hs, e, Eng.own_mono O hB, K.mono hB⟩
theorem GO.grown {B B' : Nat} {t : TypeId} {w w' : World} {nd : List Nd} {u v : Value} {n size : Nat} {xs : List Value} (h : GO B w nd u) (G : w.grownBy w' v.ownBlock) (O : w.ownsRow B' t size v n xs) (h1 : (81 != t) = true) (h2 : (3 != t) = true) : GO B w' nd u := by
  obtain ⟨hs, e, O1, K⟩ := h; exact ⟨hs, e, Eng.own_grown O1 G O h1, K.grown G O h2⟩
theorem GO.reads {B : Nat} {w : World} {nd : List Nd} {v : Value} (h : GO B w nd v) : GR w nd v := by
  obtain ⟨hs, e, O, K⟩ := h; exact ⟨hs, e, Eng.Reads.of_own O, K.reads⟩
abbrev GV := List Nd × Value
instance : Inhabited GV := ⟨([], .slice none 0 0)⟩
def GsR (w : World) (fin : List GV) (v : Value) : Prop := Eng.Reads w v fin.length 1 (fin.map (·.2)) ∧ ∀ f ∈ fin, GR w f.1 f.2
theorem GsR.below {w w' : World} {fin : List GV} {v : Value} (h : GsR w fin v) (b : Below w.heap.size w w') : GsR w' fin v := ⟨h.1.below b, fun f hf => (h.2 f hf).below b⟩
def GsO (B : Nat) (w : World) (fin : List GV) : Prop := ∀ f ∈ fin, GO B w f.1 f.2
theorem GsO.below {B : Nat} {w w' : World} {fin : List GV} (h : GsO B w fin) (b : Below w.heap.size w w') : GsO B w' fin := fun f hf => (h f hf).below b
theorem GsO.grown {B B' : Nat} {t : TypeId} {w w' : World} {fin : List GV} {v : Value} {n size : Nat} {xs : List Value} (h : GsO B w fin) (G : w.grownBy w' v.ownBlock) (O : w.ownsRow B' t size v n xs) (h1 : (81 != t) = true) (h2 : (3 != t) = true) : GsO B w' fin := fun f hf => (h f hf).grown G O h1 h2
theorem GsO.mono {B B' : Nat} {w : World} {fin : List GV} (h : GsO B w fin) (hB : B' ≤ B) : GsO B' w fin := fun f hf => (h f hf).mono hB
theorem GsO.nil {B : Nat} {w : World} : GsO B w [] := fun x hx => absurd hx List.not_mem_nil
theorem GsO.snoc {B : Nat} {w : World} {fin : List GV} {x : GV} (h : GsO B w fin) (hx : GO B w x.1 x.2) : GsO B w (fin ++ [x]) := fun y hy => by
  rcases List.mem_append.1 hy with hy | hy
  · exact h y hy
  · rw [List.mem_singleton.1 hy]; exact hx
theorem GsO.reads {B : Nat} {w : World} {fin : List GV} {v : Value} {B' : Nat} {t : TypeId} (h : GsO B w fin) (O : w.ownsRow B' t 1 v fin.length (fin.map (·.2))) : GsR w fin v := ⟨Eng.Reads.of_own O, fun f hf => (h f hf).reads⟩
theorem gsR_app {w : World} {f1 f2 : List GV} {v : Value} (F : Eng.Reads w v (f1 ++ f2).length 1 ((f1 ++ f2).map (·.2))) (h1 : ∀ f ∈ f1, GR w f.1 f.2) (h2 : ∀ f ∈ f2, GR w f.1 f.2) : GsR w (f1 ++ f2) v := ⟨F, fun f hf => (List.mem_append.1 hf).elim (h1 f) (h2 f)⟩
theorem gsR_at {w : World} {fin : List GV} {v : Value} (h : GsR w fin v) {k : Nat} (hk : k < fin.length) : GR w (fin.getD k default).1 (fin.getD k default).2 := by
  refine h.2 _ ?_
  rw [List.getD_eq_getElem?_getD, List.getElem?_eq_getElem hk]; exact List.getElem_mem hk
theorem map2_at (fin : List GV) (k : Nat) (hk : k < fin.length) : (fin.map (·.2))[k * 1]? = some (fin.getD k default).2 := by
  rw [Nat.mul_one, List.getElem?_map, List.getD_eq_getElem?_getD, List.getElem?_eq_getElem hk]; rfl
def NodeOne (B : Nat) (n : Nd) (v : Value) (w : World) : Prop := ∃ u, v = .agg #[.int .i64 n.kind, .string n.tag, .string n.text, u] ∧ w.ownsRow B 3 1 u n.kids.length (ints n.kids)
def Tl.node (B : Nat) (n : Nd) : Eng.Tl := .lasts (NodeOne B n) fun _ _ _ h hb => by
  obtain ⟨u, e, O⟩ := h; exact ⟨u, e, Eng.own_below O hb⟩
def RowNode (B : Nat) (n : Nd) (v : Value) (w : World) : Prop := ∃ u, w.ownsRow B 3 1 u n.kids.length (ints n.kids) ∧ Eng.Reads w v 1 4 [.int .i64 n.kind, .string n.tag, .string n.text, u]
def Tl.rowNode (B : Nat) (n : Nd) : Eng.Tl := .lasts (RowNode B n) fun _ _ _ h hb => by
  obtain ⟨u, O, F⟩ := h; exact ⟨u, Eng.own_below O hb, F.below hb⟩
theorem own_snocN {w : World} {B : Nat} {v : Value} {hs : List NV} {n : Nd} {u : Value} (O : w.ownsRow B 81 4 v (hs.length + 1) (cells hs ++ [.int .i64 n.kind, .string n.tag, .string n.text, u])) : w.ownsRow B 81 4 v (hs ++ [(n, u)]).length (cells (hs ++ [(n, u)])) := by
  have e : cells (hs ++ [(n, u)]) = cells hs ++ [.int .i64 n.kind, .string n.tag, .string n.text, u] := by
    unfold cells; rw [List.flatMap_append]; rfl
  rw [e, List.length_append]; exact O
theorem map_len {h hs : List NV} {k : Nat} (hk : k ≤ h.length) (e : hs.map (·.1) = (h.take k).map (·.1)) : hs.length = k := by
  have := congrArg List.length e
  rw [List.length_map, List.length_map, List.length_take] at this; omega
theorem map_snoc {h hs : List NV} {k : Nat} {n : Nd} {u : Value} (hk : k < h.length) (e : hs.map (·.1) = (h.take k).map (·.1)) (hn : n = (h.getD k default).1) : (hs ++ [(n, u)]).map (·.1) = (h.take (k + 1)).map (·.1) := by
  rw [Rwt.take_one hk, List.map_append, List.map_append, e, hn]; rfl
theorem own_snocG {w : World} {B : Nat} {v : Value} {fin : List GV} {f : GV} (O : w.ownsRow B 51 1 v (fin.length + 1) (fin.map (·.2) ++ [f.2])) : w.ownsRow B 51 1 v (fin ++ [f]).length ((fin ++ [f]).map (·.2)) := by
  rw [List.length_append, List.map_append]; exact O
theorem mapG_len {h hs : List GV} {k : Nat} (hk : k ≤ h.length) (e : hs.map (·.1) = (h.take k).map (·.1)) : hs.length = k := by
  have := congrArg List.length e
  rw [List.length_map, List.length_map, List.length_take] at this; omega
theorem mapG_snoc {h hs : List GV} {k : Nat} {n : List Nd} {u : Value} (hk : k < h.length) (e : hs.map (·.1) = (h.take k).map (·.1)) (hn : n = (h.getD k default).1) : (hs ++ [(n, u)]).map (·.1) = (h.take (k + 1)).map (·.1) := by
  rw [Rwt.take_one hk, List.map_append, List.map_append, e, hn]; rfl
def Sml (k : Nat) (nd : List Nd) : Prop := nd.length ≤ k ∧ ∀ n ∈ nd, n.kids.length ≤ k
theorem Sml.at_ {k : Nat} {h : List NV} (hs : Sml k (h.map (·.1))) {j : Nat} (hj : j < h.length) : (h.getD j default).1.kids.length ≤ k := by
  refine hs.2 _ (List.mem_map.2 ⟨h.getD j default, ?_, rfl⟩)
  rw [List.getD_eq_getElem?_getD, List.getElem?_eq_getElem hj]; exact List.getElem_mem hj
theorem sml_at {k : Nat} {fin : List GV} (hs : ∀ f ∈ fin, Sml k f.1) {j : Nat} (hj : j < fin.length) : Sml k (fin.getD j default).1 := by
  refine hs _ ?_
  rw [List.getD_eq_getElem?_getD, List.getElem?_eq_getElem hj]; exact List.getElem_mem hj
theorem eq_at {h h2 : List NV} (e : h.map (·.1) = h2.map (·.1)) (j : Nat) : (h.getD j default).1 = (h2.getD j default).1 := by
  have := congrArg (fun l => l.getD j (default : Nd)) e
  simpa only [map_getD] using this
theorem eq_len {h h2 : List NV} (e : h.map (·.1) = h2.map (·.1)) : h.length = h2.length := by
  have := congrArg List.length e; simpa using this
theorem eqG_at {f g : List GV} (e : f.map (·.1) = g.map (·.1)) (j : Nat) : (f.getD j default).1 = (g.getD j default).1 := by
  have := congrArg (fun l => l.getD j []) e
  simp only [List.getD_eq_getElem?_getD, List.getElem?_map] at this
  rw [List.getD_eq_getElem?_getD, List.getD_eq_getElem?_getD]
  cases hf : f[j]? <;> cases hg : g[j]? <;> rw [hf, hg] at this <;> first | exact this | rfl
theorem eqG_len {f g : List GV} (e : f.map (·.1) = g.map (·.1)) : f.length = g.length := by
  have := congrArg List.length e; simpa using this
theorem fin_reads {w W : World} {f : GV} {Bc : Nat → Prop} (h : Fin w W f Bc) : GR W f.1 f.2 := by
  obtain ⟨hs, opn, names, ov, mb, e, R, _⟩ := h
  refine ⟨hs, e, Eng.Reads.of_own R.gr, fun x hx => ?_⟩
  obtain ⟨i, hi, rfl⟩ := List.mem_iff_getElem.1 hx
  have := Eng.Reads.of_own (R.ks i hi)
  rwa [List.getD_eq_getElem?_getD, List.getElem?_eq_getElem hi] at this
end Dc
end Go.Proofs.YtgnmjaacnmkgnaaDoor.X
end
section
namespace Go.Proofs.YtgnmjaacnmkgnaaDoor.X
open Go.RowKit Go.Shelf Go.Proofs Go.Proofs.YtgnmjaacnmkgnaaDoorW.PrintWords Go.Proofs.YtgnmjaacnmkgnaaDoorW.PrintLast Go.Proofs.YtgnmjaacnmkgnaaDoorW.PrintMore
set_option linter.unusedVariables false
set_option linter.unusedSimpArgs false
attribute [local go_sem] max2_int min2_int max_two min_two
set_option maxHeartbeats 4000000 in
set_option maxRecDepth 100000 in
theorem Evt.heavy_calls (v : Value) (l : List Evt.Ev) (w : World) (hl : Eng.Reads w v l.length 5 (Evt.cells l)) : Calls Tryd.prog 9 #[v] w fun e w' => e = .returned (.bool (Evt.heavyL l)) ∧ Below w.heap.size w w' := by
 have hm := Eng.Reads.len_le hl
 refine Eng.enter Tryd.func9 rfl fun act0 d0 s0 v0 => ?_
 have s0 : act0.tmps.size = 31 := s0
 have h0_0 : act0.eval (.tmp 0) = v := v0 0 (by simp)
 clear v0
 have bl0 : Below w.heap.size w w := Below.refl _ _
 refine wp_seq ?_
 refine Eng.regionS (Eng.still [fun u_ => u_ = .bool false]) (fun _ => .plain) 1 0 31 s0 rfl (by kernel_rfl) (Eng.still_stable _) (Or.inr (Eng.still_any _)) ?_ ?_
 ·refine .c ?_ (.nil)
  ·exact Eng.pv fun a w' H => Eng.vr rfl (Eng.run_assign rfl (rfl : a.eval (.const (.bool false)) = .bool false))
 intro act1 w1 T
 have h0_1 := T.r 0 h0_0
 have Fl_1 := Eng.Reads.below hl T.below
 have d1 := T.defers.trans d0
 have s1 := T.size.trans s0
 have bl1 := bl0.trans (T.below.mono bl0.size)
 clear T
 refine Eng.tail_nil ?_
 refine wp_seq ?_
 refine wp_seq ?_
 refine Eng.regionS (Eng.still [fun u_ => u_ = v, fun u_ => u_ = .int .i64 ((l.length : Nat) : Int), fun u_ => u_ = .int .i64 0]) (fun _ => .plain) 3 0 31 s1 rfl (by kernel_rfl) (Eng.still_stable _) (Or.inr (Eng.still_any _)) ?_ ?_
 ·refine .c ?_ (.c ?_ (.c ?_ (.nil)))
  ·exact Eng.pv fun a w' H => Eng.vr rfl (Eng.run_move rfl (H.q 0 h0_1))
  ·exact Eng.pv fun a w' H => Eng.vr (v := .int .i64 ((l.length : Nat) : Int)) rfl (Eng.run_len_sl rfl Tryd.underlying26 (show a.eval (.tmp 5) = v from (H.d 0 5)) (Eng.Reads.below Fl_1 H.below))
  ·exact Eng.pv fun a w' H => Eng.vr rfl (Eng.run_move rfl (rfl : a.eval (.const (.int .i64 0)) = .int .i64 0))
 intro act2 w2 T
 have h0_2 := T.r 0 h0_1
 have h5_2 : act2.eval (.tmp 5) = v := T.done 0 5 rfl rfl
 have h6_2 : act2.eval (.tmp 6) = .int .i64 ((l.length : Nat) : Int) := T.done 1 6 rfl rfl
 have h7_2 : act2.eval (.tmp 7) = .int .i64 0 := T.done 2 7 rfl rfl
 have d2 := T.defers.trans d1
 have s2 := T.size.trans s1
 have bl2 := bl1.trans (T.below.mono bl1.size)
 clear T
 refine Eng.tail_nil ?_
 refine wp_block ?_
 refine Eng.loopN (fun n a w' => ∃ (k : Nat), l.length - k = n ∧ (k ≤ l.length) ∧ ((List.take k l).any Evt.heavyE = false) ∧ a.defers = [] ∧ a.tmps.size = 31 ∧ Below w.heap.size w w' ∧ a.eval (.tmp 0) = v ∧ a.eval (.tmp 5) = v ∧ a.eval (.tmp 6) = .int .i64 ((l.length : Nat) : Int) ∧ a.eval (.tmp 7) = .int .i64 (k : Nat)) (n0 := l.length - 0) ?_ ?_
 ·exact ⟨0, rfl, by omega, rfl, d2, s2, bl2, h0_2, h5_2, h6_2, (h7_2.trans (by first | rfl | (congr 1; rw [Eng.i64_id (by omega) (by omega)]; omega) | (simp; done)))⟩
 rintro n act3 w3 ⟨k, rfl, hc0_3, hc1_3, d3, s3, bl3, h0_3, h5_3, h6_3, h7_3⟩
 have Fl_3 := Eng.Reads.below hl bl3
 have hk1 := hc0_3
 have hin := hc1_3
 refine wp_seq ?_
 obtain ⟨q8, Bq8⟩ : ∃ b : Bool, b = (decide ((k : Nat) < ((l.length : Nat) : Int))) := ⟨_, rfl⟩
 refine Eng.regionS (Eng.still [fun u_ => u_ = .bool q8]) (fun _ => .plain) 1 0 31 s3 rfl (by kernel_rfl) (Eng.still_stable _) (Or.inr (Eng.still_any _)) ?_ ?_
 ·refine .c ?_ (.nil)
  ·refine Eng.pv fun a w' H => ?_
   refine Eng.vr (v := .bool (decide ((k : Nat) < ((l.length : Nat) : Int)))) (by show _ = Value.bool q8; rw [Bq8]) ?_
   have e0 := (H.q 7 h7_3)
   have e1 := (H.q 6 h6_3)
   simp only [execOp, resolve, List.map_toArray, List.map_cons, List.map_nil, e0, e1]
   go_simp
 intro act4 w4 T
 have h0_4 := T.r 0 h0_3
 have h5_4 := T.r 5 h5_3
 have h6_4 := T.r 6 h6_3
 have h7_4 := T.r 7 h7_3
 have Fl_4 := Eng.Reads.below Fl_3 T.below
 have h8_4 : act4.eval (.tmp 8) = .bool q8 := T.done 0 8 rfl rfl
 have d4 := T.defers.trans d3
 have s4 := T.size.trans s3
 have bl4 := bl3.trans (T.below.mono bl3.size)
 clear T
 refine Eng.tail_nil ?_
 refine wp_seq ?_
 refine wp_cond_split h8_4 (fun hq => ?_) (fun hq => ?_)
 ·
  have c8 := Bq8.symm.trans hq
  clear hq
  have c8 := of_decide_eq_true c8
  have hk0 : k < l.length := by omega
  refine wp_skip ?_
  refine wp_seq ?_
  refine wp_block ?_
  refine wp_seq ?_
  refine Eng.regionS (Eng.still [fun u_ => u_ = Eng.elemPtr v (k * 5), fun u_ => u_ = .agg #[.int .i64 ((l.getD k default).kind), .string ((l.getD k default).anchor), .string ((l.getD k default).tag), .string ((l.getD k default).text), .bool ((l.getD k default).plain)], fun u_ => True, fun u_ => True]) (fun i => ([.plain, .plain, .alloc 23 #[.int .i64 0, .string ⟨#[]⟩, .string ⟨#[]⟩, .string ⟨#[]⟩, .bool false], .store 2 #[.int .i64 ((l.getD k default).kind), .string ((l.getD k default).anchor), .string ((l.getD k default).tag), .string ((l.getD k default).text), .bool ((l.getD k default).plain)]] : List Eng.Kind).getD i .plain) 4 0 31 s4 rfl (by kernel_rfl) (Eng.still_stable _) (Or.inr (Eng.still_any _)) ?_ ?_
  ·refine .c ?_ (.c ?_ (.c ?_ (.c ?_ (.nil))))
   ·exact Eng.pv fun a w' H => Eng.vr (v := Eng.elemPtr v (k * 5)) rfl (Eng.run_index_sl rfl Tryd.underlying26 (by kernel_rfl) (show a.eval (.tmp 5) = v from (H.q 5 h5_4)) ((show a.eval (.tmp 7) = .int .i64 (k : Nat) from (H.q 7 h7_4)).trans (congrArg (Value.int _) (show (k : Nat) = ((k : Nat) : Int) from by omega))) (Eng.Reads.below Fl_4 H.below) (by omega) rfl)
   ·exact Eng.pv fun a w' H => Eng.vr (v := .agg #[.int .i64 ((l.getD k default).kind), .string ((l.getD k default).anchor), .string ((l.getD k default).tag), .string ((l.getD k default).text), .bool ((l.getD k default).plain)]) rfl (Eng.run_load_els [.int .i64 ((l.getD k default).kind), .string ((l.getD k default).anchor), .string ((l.getD k default).tag), .string ((l.getD k default).text), .bool ((l.getD k default).plain)] rfl (show a.eval (.tmp 9) = Eng.elemPtr v (k * 5) from (H.d 0 9)) (Eng.Reads.below Fl_4 H.below) (Evt.cells_at l k (by omega)) rfl Tryd.underlying23 rfl (by kernel_rfl))
   ·refine Eng.made rfl (by simp) rfl (fun a w' hd ho => ?_) (fun _ _ => trivial)
    simp only [execOp]
    go_simp
   ·refine Eng.stored [.int .i64 ((l.getD k default).kind), .string ((l.getD k default).anchor), .string ((l.getD k default).tag), .string ((l.getD k default).text), .bool ((l.getD k default).plain)] rfl rfl rfl (j := 2) (d := 4) (by kernel_rfl) rfl rfl (Eng.store_uniq (by kernel_rfl)) rfl rfl fun a w' g e hc hd ho => ?_
    have e0 : a.eval _ = .agg #[.int .i64 ((l.getD k default).kind), .string ((l.getD k default).anchor), .string ((l.getD k default).tag), .string ((l.getD k default).text), .bool ((l.getD k default).plain)] := (hd 1 10 (by kernel_rfl) rfl)
    have z0 := (Eng.cells hc 0).trans rfl
    have z1 := (Eng.cells hc 1).trans rfl
    have z2 := (Eng.cells hc 2).trans rfl
    have z3 := (Eng.cells hc 3).trans rfl
    have z4 := (Eng.cells hc 4).trans rfl
    have f0 := Eng.unfrozen hc 0
    have f1 := Eng.unfrozen hc 1
    have f2 := Eng.unfrozen hc 2
    have f3 := Eng.unfrozen hc 3
    have f4 := Eng.unfrozen hc 4
    simp only [execOp, e, e0]
    go_simp
    rfl
  intro act6 w6 T
  have h0_6 := T.r 0 h0_4
  have h5_6 := T.r 5 h5_4
  have h6_6 := T.r 6 h6_4
  have h7_6 := T.r 7 h7_4
  obtain ⟨g4_6, h4_6, rg4_6, lg4_6_6, kg4_6_6⟩ := T.st 2 4 3 _ _ _ rfl rfl rfl rfl rfl
  have d6 := T.defers.trans d4
  have s6 := T.size.trans s4
  have bl6 := bl4.trans (T.below.mono bl4.size)
  clear T
  refine Eng.tail_nil ?_
  refine wp_seq ?_
  obtain ⟨q14, Bq14⟩ : ∃ b : Bool, b = (decide ((((l.getD k default).text).size : Int) > 2000)) := ⟨_, rfl⟩
  obtain ⟨q19, Bq19⟩ : ∃ b : Bool, b = (decide ((((l.getD k default).anchor).size : Int) > 2000)) := ⟨_, rfl⟩
  obtain ⟨q20, Bq20⟩ : ∃ b : Bool, b = (q14 || q19) := ⟨_, rfl⟩
  obtain ⟨q25, Bq25⟩ : ∃ b : Bool, b = (decide ((((l.getD k default).tag).size : Int) > 2000)) := ⟨_, rfl⟩
  obtain ⟨q26, Bq26⟩ : ∃ b : Bool, b = (q20 || q25) := ⟨_, rfl⟩
  refine Eng.regionS (Eng.still [fun u_ => u_ = .pointer (some ⟨g4_6, 3, none⟩), fun u_ => u_ = .string ((l.getD k default).text), fun u_ => u_ = .int .i64 (((l.getD k default).text).size : Int), fun u_ => u_ = .bool q14, fun u_ => u_ = .bool q14, fun u_ => u_ = bif (q14 == false) then (.pointer (some ⟨g4_6, 1, none⟩)) else undef, fun u_ => u_ = bif (q14 == false) then (.string ((l.getD k default).anchor)) else undef, fun u_ => u_ = bif (q14 == false) then (.int .i64 (((l.getD k default).anchor).size : Int)) else undef, fun u_ => u_ = bif (q14 == false) then (.bool q19) else undef, fun u_ => u_ = .bool q20, fun u_ => u_ = .bool q20, fun u_ => u_ = bif (q20 == false) then (.pointer (some ⟨g4_6, 2, none⟩)) else undef, fun u_ => u_ = bif (q20 == false) then (.string ((l.getD k default).tag)) else undef, fun u_ => u_ = bif (q20 == false) then (.int .i64 (((l.getD k default).tag).size : Int)) else undef, fun u_ => u_ = bif (q20 == false) then (.bool q25) else undef, fun u_ => u_ = .bool q26]) (fun _ => .plain) 16 0 31 s6 rfl (by kernel_rfl) (Eng.still_stable _) (Or.inr (Eng.still_any _)) ?_ ?_
  ·refine .c ?_ (.c ?_ (.c ?_ (.c ?_ (.c ?_ (.c ?_ (.c ?_ (.c ?_ (.c ?_ (.c ?_ (.c ?_ (.c ?_ (.c ?_ (.c ?_ (.c ?_ (.c ?_ (.nil))))))))))))))))
   ·exact Eng.pv fun a w' H => Eng.vr rfl (Eng.run_fieldb rfl Tryd.underlying23 3 (by kernel_rfl) (H.q 4 h4_6))
   ·exact Eng.pv fun a w' H => Eng.vr rfl (Eng.run_loadb rfl (H.d 0 11) ((H.below.block _ lg4_6_6).trans kg4_6_6) rfl (by kernel_rfl))
   ·refine Eng.pv fun a w' H => ?_
    refine Eng.vr (v := .int .i64 (((l.getD k default).text).size : Int)) rfl ?_
    have e0 : a.eval (.tmp 12) = .string ((l.getD k default).text) := (H.d 1 12)
    simp only [execOp, resolve, List.map_toArray, List.map_cons, List.map_nil, e0]
    go_simp
   ·refine Eng.pv fun a w' H => ?_
    refine Eng.vr (v := .bool (decide ((((l.getD k default).text).size : Int) > 2000))) (by show _ = Value.bool q14; rw [Bq14]) ?_
    have e0 : a.eval (.tmp 13) = .int .i64 (((l.getD k default).text).size : Int) := (H.d 2 13)
    have e1 : a.eval (.const (.int .i64 2000)) = .int .i64 2000 := rfl
    simp only [execOp, resolve, List.map_toArray, List.map_cons, List.map_nil, e0, e1]
    go_simp
   ·exact Eng.pv fun a w' H => Eng.vr rfl (Eng.run_move rfl (H.d 3 14))
   ·refine Eng.guarded1 (j := 4) (d := 15) (b := q14) rfl rfl (by kernel_rfl) rfl (fun v w h => h) (fun hG w => Eng.off hG) fun hG a w' H => ?_
    exact Eng.val (w1 := w') (v := .pointer (some ⟨g4_6, 1, none⟩)) (Eng.run_fieldb rfl Tryd.underlying23 1 (by kernel_rfl) (H.q 4 h4_6)) (Below.refl _ _) (Eng.off' hG rfl)
   ·refine Eng.guarded1 (j := 4) (d := 15) (b := q14) rfl rfl (by kernel_rfl) rfl (fun v w h => h) (fun hG w => Eng.off hG) fun hG a w' H => ?_
    exact Eng.val (w1 := w') (v := .string ((l.getD k default).anchor)) (Eng.run_loadb rfl (Eng.on (H.d 5 16) hG) ((H.below.block _ lg4_6_6).trans kg4_6_6) rfl (by kernel_rfl)) (Below.refl _ _) (Eng.off' hG rfl)
   ·refine Eng.guarded1 (j := 4) (d := 15) (b := q14) rfl rfl (by kernel_rfl) rfl (fun v w h => h) (fun hG w => Eng.off hG) fun hG a w' H => ?_
    refine Eng.vr (v := .int .i64 (((l.getD k default).anchor).size : Int)) (Eng.off' hG rfl) ?_
    have e0 : a.eval (.tmp 17) = .string ((l.getD k default).anchor) := (Eng.on (H.d 6 17) hG)
    simp only [execOp, resolve, List.map_toArray, List.map_cons, List.map_nil, e0]
    go_simp
   ·refine Eng.guarded1 (j := 4) (d := 15) (b := q14) rfl rfl (by kernel_rfl) rfl (fun v w h => h) (fun hG w => Eng.off hG) fun hG a w' H => ?_
    refine Eng.vr (v := .bool (decide ((((l.getD k default).anchor).size : Int) > 2000))) (Eng.off' hG (by rw [Bq19])) ?_
    have e0 : a.eval (.tmp 18) = .int .i64 (((l.getD k default).anchor).size : Int) := (Eng.on (H.d 7 18) hG)
    have e1 : a.eval (.const (.int .i64 2000)) = .int .i64 2000 := rfl
    simp only [execOp, resolve, List.map_toArray, List.map_cons, List.map_nil, e0, e1]
    go_simp
   ·exact Eng.pv fun a w' H => Eng.vr (v := .bool (q14 || q19)) (by show _ = Value.bool q20; rw [Bq20]) (Eng.run_or rfl rfl (G := true) (H.d 4 15) (fun hb => (Eng.on (H.d 8 19) (Eng.mk1 hb))))
   ·exact Eng.pv fun a w' H => Eng.vr rfl (Eng.run_move rfl (H.d 9 20))
   ·refine Eng.guarded1 (j := 10) (d := 21) (b := q20) rfl rfl (by kernel_rfl) rfl (fun v w h => h) (fun hG w => Eng.off hG) fun hG a w' H => ?_
    exact Eng.val (w1 := w') (v := .pointer (some ⟨g4_6, 2, none⟩)) (Eng.run_fieldb rfl Tryd.underlying23 2 (by kernel_rfl) (H.q 4 h4_6)) (Below.refl _ _) (Eng.off' hG rfl)
   ·refine Eng.guarded1 (j := 10) (d := 21) (b := q20) rfl rfl (by kernel_rfl) rfl (fun v w h => h) (fun hG w => Eng.off hG) fun hG a w' H => ?_
    exact Eng.val (w1 := w') (v := .string ((l.getD k default).tag)) (Eng.run_loadb rfl (Eng.on (H.d 11 22) hG) ((H.below.block _ lg4_6_6).trans kg4_6_6) rfl (by kernel_rfl)) (Below.refl _ _) (Eng.off' hG rfl)
   ·refine Eng.guarded1 (j := 10) (d := 21) (b := q20) rfl rfl (by kernel_rfl) rfl (fun v w h => h) (fun hG w => Eng.off hG) fun hG a w' H => ?_
    refine Eng.vr (v := .int .i64 (((l.getD k default).tag).size : Int)) (Eng.off' hG rfl) ?_
    have e0 : a.eval (.tmp 23) = .string ((l.getD k default).tag) := (Eng.on (H.d 12 23) hG)
    simp only [execOp, resolve, List.map_toArray, List.map_cons, List.map_nil, e0]
    go_simp
   ·refine Eng.guarded1 (j := 10) (d := 21) (b := q20) rfl rfl (by kernel_rfl) rfl (fun v w h => h) (fun hG w => Eng.off hG) fun hG a w' H => ?_
    refine Eng.vr (v := .bool (decide ((((l.getD k default).tag).size : Int) > 2000))) (Eng.off' hG (by rw [Bq25])) ?_
    have e0 : a.eval (.tmp 24) = .int .i64 (((l.getD k default).tag).size : Int) := (Eng.on (H.d 13 24) hG)
    have e1 : a.eval (.const (.int .i64 2000)) = .int .i64 2000 := rfl
    simp only [execOp, resolve, List.map_toArray, List.map_cons, List.map_nil, e0, e1]
    go_simp
   ·exact Eng.pv fun a w' H => Eng.vr (v := .bool (q20 || q25)) (by show _ = Value.bool q26; rw [Bq26]) (Eng.run_or rfl rfl (G := true) (H.d 10 21) (fun hb => (Eng.on (H.d 14 25) (Eng.mk1 hb))))
  intro act7 w7 T
  have h0_7 := T.r 0 h0_6
  have h5_7 := T.r 5 h5_6
  have h6_7 := T.r 6 h6_6
  have h7_7 := T.r 7 h7_6
  have h26_7 : act7.eval (.tmp 26) = .bool q26 := T.done 15 26 rfl rfl
  have d7 := T.defers.trans d6
  have s7 := T.size.trans s6
  have bl7 := bl6.trans (T.below.mono bl6.size)
  clear T
  refine Eng.tail_nil ?_
  refine wp_cond_split h26_7 (fun hq => ?_) (fun hq => ?_)
  ·
   have c26 := Bq26.symm.trans hq
   clear hq
   have hx : Evt.heavyE (l.getD k default) = true := by have h1 := c26; simp only [Bq26, Bq25, Bq20, Bq19, Bq14, Bq8] at h1; exact h1
   refine wp_seq ?_
   refine Eng.regionS (Eng.still [fun u_ => u_ = .bool true]) (fun _ => .plain) 1 0 31 s7 rfl (by kernel_rfl) (Eng.still_stable _) (Or.inr (Eng.still_any _)) ?_ ?_
   ·refine .c ?_ (.nil)
    ·exact Eng.pv fun a w' H => Eng.vr rfl (Eng.run_assign rfl (rfl : a.eval (.const (.bool true)) = .bool true))
   intro act9 w9 T
   have h2_9 : act9.eval (.tmp 2) = .bool true := T.done 0 2 rfl rfl
   have d9 := T.defers.trans d7
   have bl9 := bl7.trans (T.below.mono bl7.size)
   clear T
   refine Eng.tail_nil ?_
   refine wp_ret ?_
   repeat (first | refine Eng.in_ret ?_ | refine Eng.then_ret ?_)
   exact Eng.ret1 rfl d9 h2_9 ⟨by rw [Evt.heavy_at hk0 hx], bl9⟩
  ·
   have c26 := Bq26.symm.trans hq
   clear hq
   have hx : Evt.heavyE (l.getD k default) = false := by have h1 := c26; simp only [Bq26, Bq25, Bq20, Bq19, Bq14, Bq8] at h1; exact h1
   refine wp_skip ?_
   refine Eng.regionS (Eng.still [fun u_ => u_ = .int .i64 (IntKind.i64.wrap ((k : Nat) + 1)), fun u_ => u_ = .int .i64 (IntKind.i64.wrap ((k : Nat) + 1))]) (fun _ => .plain) 2 0 31 s7 rfl (by kernel_rfl) (Eng.still_stable _) (Or.inr (Eng.still_any _)) ?_ ?_
   ·refine .c ?_ (.c ?_ (.nil))
    ·refine Eng.pv fun a w' H => ?_
     refine Eng.vr (v := .int .i64 (IntKind.i64.wrap ((k : Nat) + 1))) rfl ?_
     have e0 := (H.q 7 h7_7)
     have e1 : a.eval (.const (.int .i64 1)) = .int .i64 1 := rfl
     simp only [execOp, resolve, List.map_toArray, List.map_cons, List.map_nil, e0, e1]
     go_simp
    ·exact Eng.pv fun a w' H => Eng.vr rfl (Eng.run_move rfl (H.d 0 27))
   intro act11 w11 T
   have h0_11 := T.r 0 h0_7
   have h5_11 := T.r 5 h5_7
   have h6_11 := T.r 6 h6_7
   have h7_11 : act11.eval (.tmp 7) = .int .i64 (IntKind.i64.wrap ((k : Nat) + 1)) := T.done 1 7 rfl rfl
   have d11 := T.defers.trans d7
   have s11 := T.size.trans s7
   have bl11 := bl7.trans (T.below.mono bl7.size)
   clear T
   refine Eng.tail_nil ?_
   exact ⟨_, by omega, k + 1, rfl, by omega, Evt.heavy_take hk0 hin hx, d11, s11, bl11, h0_11, h5_11, h6_11, (h7_11.trans (by first | rfl | (congr 1; rw [Eng.i64_id (by omega) (by omega)]; omega) | (simp; done)))⟩
 ·
  have c8 := Bq8.symm.trans hq
  clear hq
  have c8 := of_decide_eq_false c8
  have hke : k = l.length := by omega
  refine wp_exit ?_
  refine wp_seq ?_
  obtain ⟨q30, Bq30⟩ : ∃ b : Bool, b = (decide (((l.length : Nat) : Int) > 150)) := ⟨_, rfl⟩
  refine Eng.regionS (Eng.still [fun u_ => u_ = v, fun u_ => u_ = .int .i64 ((l.length : Nat) : Int), fun u_ => u_ = .bool q30, fun u_ => u_ = .bool q30]) (fun _ => .plain) 4 0 31 s4 rfl (by kernel_rfl) (Eng.still_stable _) (Or.inr (Eng.still_any _)) ?_ ?_
  ·refine .c ?_ (.c ?_ (.c ?_ (.c ?_ (.nil))))
   ·exact Eng.pv fun a w' H => Eng.vr rfl (Eng.run_move rfl (H.q 0 h0_4))
   ·exact Eng.pv fun a w' H => Eng.vr (v := .int .i64 ((l.length : Nat) : Int)) rfl (Eng.run_len_sl rfl Tryd.underlying26 (show a.eval (.tmp 28) = v from (H.d 0 28)) (Eng.Reads.below Fl_4 H.below))
   ·refine Eng.pv fun a w' H => ?_
    refine Eng.vr (v := .bool (decide (((l.length : Nat) : Int) > 150))) (by show _ = Value.bool q30; rw [Bq30]) ?_
    have e0 : a.eval (.tmp 29) = .int .i64 ((l.length : Nat) : Int) := (H.d 1 29)
    have e1 : a.eval (.const (.int .i64 150)) = .int .i64 150 := rfl
    simp only [execOp, resolve, List.map_toArray, List.map_cons, List.map_nil, e0, e1]
    go_simp
   ·exact Eng.pv fun a w' H => Eng.vr rfl (Eng.run_assign rfl (H.d 2 30))
  intro act13 w13 T
  have h2_13 : act13.eval (.tmp 2) = .bool q30 := T.done 3 2 rfl rfl
  have d13 := T.defers.trans d4
  have bl13 := bl4.trans (T.below.mono bl4.size)
  clear T
  refine Eng.tail_nil ?_
  refine wp_ret ?_
  repeat (first | refine Eng.in_ret ?_ | refine Eng.then_ret ?_)
  have fin : q30 = Evt.heavyL l := by
   simp only [Bq30, Bq8]
   rw [hke, List.take_length] at hin; unfold Evt.heavyL; rw [hin, Bool.false_or]
  exact Eng.ret1 rfl d13 (h2_13.trans (congrArg Value.bool fin)) ⟨rfl, bl13⟩
end Go.Proofs.YtgnmjaacnmkgnaaDoor.X
end
section
namespace Go.Proofs.YtgnmjaacnmkgnaaDoor.X
open Go.RowKit Go.Shelf Go.Proofs Go.Maps
set_option linter.unusedVariables false
set_option linter.unusedSimpArgs false
namespace Evt
def Lt (n : Nat) (l : List Ev) : Prop := l.length ≤ n ∧ ∀ x ∈ l, x.text.size ≤ 2000 ∧ x.anchor.size ≤ 2000 ∧ x.tag.size ≤ 2000
theorem light_all {l : List Ev} (h : heavyL l = false) : Lt 150 l := by
  unfold heavyL at h
  rw [Bool.or_eq_false_iff] at h
  have h1 := of_decide_eq_false h.2
  refine ⟨by omega, fun x hx => ?_⟩
  have h2 := List.any_eq_false.1 h.1 x hx
  unfold heavyE at h2
  simp only [Bool.or_eq_true, decide_eq_true_eq, not_or] at h2
  omega
theorem Lt.app {n m : Nat} {a b : List Ev} (h : Lt n a) (k : Lt m b) : Lt (n + m) (a ++ b) := by
  refine ⟨by rw [List.length_append]; exact Nat.add_le_add h.1 k.1, fun x hx => ?_⟩
  rcases List.mem_append.1 hx with hx | hx
  · exact h.2 x hx
  · exact k.2 x hx
theorem Lt.at_ {n : Nat} {l : List Ev} (h : Lt n l) {k : Nat} (hk : k < l.length) : (l.getD k default).text.size ≤ 2000 ∧ (l.getD k default).anchor.size ≤ 2000 ∧ (l.getD k default).tag.size ≤ 2000 := by
  refine h.2 _ ?_
  rw [List.getD_eq_getElem?_getD, List.getElem?_eq_getElem hk]; exact List.getElem_mem hk
theorem Lt.text {n : Nat} {l : List Ev} (h : Lt n l) : ∀ k, k < l.length → (l.getD k default).text.size ≤ 2000 := fun k hk => (h.at_ hk).1
theorem Lt.anchor {n : Nat} {l : List Ev} (h : Lt n l) : ∀ k, k < l.length → (l.getD k default).anchor.size ≤ maxLen := fun k hk => Nat.le_trans (h.at_ hk).2.1 (by unfold maxLen; omega)
theorem Lt.tw {n : Nat} {l : List Ev} (h : Lt n l) (hn : n ≤ 100000) : Dc.TwAll ⟨[], [], []⟩ l := Tm.twall0 (Nat.le_trans h.1 hn) fun x hx => ⟨(h.2 x hx).2.2, (h.2 x hx).1⟩
theorem cells_app (a b : List Ev) : cells (a ++ b) = cells a ++ cells b := List.flatMap_append
theorem cells_one (l : List Ev) : ∀ u ∈ cells l, u.oneCell' = true := by
  intro u hu
  obtain ⟨x, _, hx⟩ := List.mem_flatMap.1 hu
  exact enc_one x u hx
theorem own_app {w : World} {B : Nat} {v : Value} {a b : List Ev} (O : w.ownsRow B 30 5 v (a.length + b.length) (cells a ++ cells b)) : w.ownsRow B 30 5 v (a ++ b).length (cells (a ++ b)) := by
  rw [cells_app, List.length_append]; exact O
end Evt
namespace Dc
open Evt (takeF pop more Ev)
theorem gsR_fin {w W : World} {fin : List GV} {v : Value} {B : Nat} (O : W.ownsRow B 48 1 v fin.length (fin.map (·.2))) (hF : ∀ f ∈ fin, Fin w W f (fun _ => False)) : GsR W fin v := ⟨Eng.Reads.of_own O, fun f hf => fin_reads (hF f hf)⟩
theorem GsO.one {B : Nat} {w : World} {fin : List GV} (h : GsO B w fin) : ∀ u ∈ fin.map (·.2), u.oneCell' = true := by
  intro u hu
  obtain ⟨f, hf, rfl⟩ := List.mem_map.1 hu
  obtain ⟨hs, _, O, _⟩ := h f hf
  obtain ⟨A, c, e⟩ := Eng.Reads.shape (Eng.Reads.of_own O)
  rw [e]; rfl
theorem own_appG {w : World} {B : Nat} {v : Value} {f g : List GV} (O : w.ownsRow B 51 1 v (f.length + g.length) (f.map (·.2) ++ g.map (·.2))) : w.ownsRow B 51 1 v (f ++ g).length ((f ++ g).map (·.2)) := by
  rw [List.length_append, List.map_append]; exact O
theorem eqG_app {f g f1 g1 all : List GV} {A B : List (List Nd)} (h : all.map (·.1) = A ++ B) (hf : f1.map (·.1) = A) (hg : g1.map (·.1) = B) (e1 : f.map (·.1) = f1.map (·.1)) (e2 : g.map (·.1) = g1.map (·.1)) : all.map (·.1) = (f ++ g).map (·.1) := by
  rw [List.map_append, h, e1, e2, hf, hg]
theorem stepF_num {d : Dc} {x : Ev} : (stepF d x).1.nodes.length ≤ d.nodes.length + 1 := by
  unfold stepF
  split
  · exact Nat.zero_le _
  · split
    · exact Nat.le_succ _
    · split
      · exact Nat.le_succ _
      · split
        · show (aliasF d x).1.nodes.length ≤ _
          unfold aliasF
          split
          · exact Nat.le_succ _
          · rw [kidF_nlen]; exact Nat.le_succ _
        · show (nodeF d x).1.nodes.length ≤ _
          unfold nodeF
          split
          · exact Nat.le_succ _
          · split
            · have hk : (kidF ⟨d.nodes ++ [⟨kindN x.kind, (Evt.tagF x).1, x.text, []⟩], d.opn, nameF d x⟩ d.nodes.length).1.nodes.length = d.nodes.length + 1 := by
                rw [kidF_nlen]; simp
              simp only
              split <;> first | exact Nat.le_of_eq hk | (simp only; omega)
            · exact Nat.le_succ _
theorem sml_good {d : Dc} {k K : Nat} (h : Good d k) (hn : d.nodes.length ≤ k) (hk : k ≤ K) : Sml K d.nodes := by
  refine ⟨Nat.le_trans hn hk, fun n hm => ?_⟩
  obtain ⟨i, hi, rfl⟩ := List.mem_iff_getElem.1 hm
  have := h.kd i hi
  rw [List.getD_eq_getElem?_getD, List.getElem?_eq_getElem hi] at this
  exact Nat.le_trans this hk
theorem runF_small (K : Nat) : ∀ (l : List Ev) (d : Dc) (out : List (List Nd)) (k : Nat), Good d k → d.nodes.length ≤ k → k + l.length ≤ K → (∀ nd ∈ out, Sml K nd) → (runF d out l).1.length ≤ out.length + l.length ∧ ∀ nd ∈ (runF d out l).1, Sml K nd := by
  intro l
  induction l with
  | nil => intro d out k _ _ _ ho; exact ⟨Nat.le_refl _, ho⟩
  | cons x t ih =>
    intro d out k hG hn hK ho
    simp only [List.length_cons] at hK ⊢
    rw [runF]
    split
    · have hG2 := stepF_good (x := x) hG
      have hn2 : (stepF d x).1.nodes.length ≤ k + 1 := Nat.le_trans stepF_num (by omega)
      have h3 : ∀ out' : List (List Nd), out'.length ≤ out.length + 1 → (∀ nd ∈ out', Sml K nd) → (runF (stepF d x).1 out' t).1.length ≤ out.length + (t.length + 1) ∧ ∀ nd ∈ (runF (stepF d x).1 out' t).1, Sml K nd := fun out' hl ho' => by
        have := ih (stepF d x).1 out' (k + 1) hG2 hn2 (by omega) ho'
        exact ⟨by omega, this.2⟩
      split
      · refine h3 _ (by simp) fun nd hnd => ?_
        rcases List.mem_append.1 hnd with hnd | hnd
        · exact ho nd hnd
        · rw [List.mem_singleton.1 hnd]; exact sml_good hG2 hn2 (by omega)
      · exact h3 _ (Nat.le_succ _) ho
    · exact ⟨Nat.zero_le _, fun nd h => absurd h List.not_mem_nil⟩
theorem graphsF_small {l : List Ev} (hl : l.length ≤ 1000000) : (graphsF l).1.length ≤ 1000000 ∧ ∀ nd ∈ (graphsF l).1, Sml 1000000 nd := by
  unfold graphsF
  split
  · have := runF_small 1000000 l ⟨[], [], []⟩ [] 0 (Good.nil 0) (Nat.le_refl _) (by omega) (fun nd h => absurd h List.not_mem_nil)
    exact ⟨by have := this.1; simp only [List.length_nil] at this; omega, this.2⟩
  · exact ⟨Nat.zero_le _, fun nd h => absurd h List.not_mem_nil⟩
theorem fin_small {l : List Ev} {fin : List GV} {n : Nat} (h : Evt.Lt n l) (hn : n ≤ 100000) (hm : fin.map (·.1) = (graphsF l).1) : fin.length ≤ 1000000 ∧ ∀ f ∈ fin, Sml 1000000 f.1 := by
  have hs := graphsF_small (l := l) (Nat.le_trans h.1 (by omega))
  rw [← hm, List.length_map] at hs
  exact ⟨hs.1, fun f hf => hs.2 _ (List.mem_map.2 ⟨f, hf, rfl⟩)⟩
end Dc
end Go.Proofs.YtgnmjaacnmkgnaaDoor.X
end
section
namespace Go.Proofs.YtgnmjaacnmkgnaaDoor.X
open Go.RowKit Go.Shelf Go.Proofs Go.Proofs.YtgnmjaacnmkgnaaDoorW.PrintWords Go.Proofs.YtgnmjaacnmkgnaaDoorW.PrintLast Go.Proofs.YtgnmjaacnmkgnaaDoorW.PrintMore
set_option linter.unusedVariables false
set_option linter.unusedSimpArgs false
attribute [local go_sem] max2_int min2_int max_two min_two
set_option maxHeartbeats 4000000 in
set_option maxRecDepth 100000 in
theorem Dc.ours8_h (gv : Value) (h : List Dc.NV) (w : World) (hF : Eng.Reads w gv h.length 4 (Dc.cells h)) (hK : Dc.KsR w h) (hsm : Dc.Sml 1000000 (h.map (·.1))) : Calls Tryd.prog 20 #[gv] w fun e w' => ∃ o, e = .returned o ∧ Dc.GO w.heap.size w' (h.map (·.1)) o ∧ Below w.heap.size w w' := by
 have hm := Eng.Reads.len_le hF
 refine Eng.enter Tryd.func20 rfl fun act0 d0 s0 v0 => ?_
 have s0 : act0.tmps.size = 27 := s0
 have h0_0 : act0.eval (.tmp 0) = gv := v0 0 (by simp)
 clear v0
 have bl0 : Below w.heap.size w w := Below.refl _ _
 refine wp_seq ?_
 refine Eng.regionS (Eng.still [fun u_ => u_ = .slice none 0 0]) (fun _ => .plain) 1 0 27 s0 rfl (by kernel_rfl) (Eng.still_stable _) (Or.inr (Eng.still_any _)) ?_ ?_
 ·refine .c ?_ (.nil)
  ·exact Eng.pv fun a w' H => Eng.vr rfl (Eng.run_assign rfl (rfl : a.eval (.const (.slice none 0 0)) = .slice none 0 0))
 intro act1 w1 T
 have h0_1 := T.r 0 h0_0
 have Fgr_1 := Eng.Reads.below hF T.below
 have h2_1 : act1.eval (.tmp 2) = .slice none 0 0 := T.done 0 2 rfl rfl
 have d1 := T.defers.trans d0
 have s1 := T.size.trans s0
 have bl1 := bl0.trans (T.below.mono bl0.size)
 clear T
 refine Eng.tail_nil ?_
 refine wp_seq ?_
 refine Eng.regionS (Eng.still [fun u_ => u_ = .slice none 0 0]) (fun _ => .plain) 1 0 27 s1 rfl (by kernel_rfl) (Eng.still_stable _) (Or.inr (Eng.still_any _)) ?_ ?_
 ·refine .c ?_ (.nil)
  ·exact Eng.pv fun a w' H => Eng.vr rfl (Eng.run_assign rfl (rfl : a.eval (.const (.slice none 0 0)) = .slice none 0 0))
 intro act2 w2 T
 have h0_2 := T.r 0 h0_1
 have h2_2 := T.r 2 h2_1
 have Fgr_2 := Eng.Reads.below Fgr_1 T.below
 have h3_2 : act2.eval (.tmp 3) = .slice none 0 0 := T.done 0 3 rfl rfl
 have d2 := T.defers.trans d1
 have s2 := T.size.trans s1
 have bl2 := bl1.trans (T.below.mono bl1.size)
 clear T
 refine Eng.tail_nil ?_
 refine wp_seq ?_
 refine wp_seq ?_
 refine Eng.regionS (Eng.still [fun u_ => u_ = gv, fun u_ => u_ = .int .i64 ((h.length : Nat) : Int), fun u_ => u_ = .int .i64 0]) (fun _ => .plain) 3 0 27 s2 rfl (by kernel_rfl) (Eng.still_stable _) (Or.inr (Eng.still_any _)) ?_ ?_
 ·refine .c ?_ (.c ?_ (.c ?_ (.nil)))
  ·exact Eng.pv fun a w' H => Eng.vr rfl (Eng.run_move rfl (H.q 0 h0_2))
  ·exact Eng.pv fun a w' H => Eng.vr (v := .int .i64 ((h.length : Nat) : Int)) rfl (Eng.run_len_sl rfl Tryd.underlying48 (show a.eval (.tmp 6) = gv from (H.d 0 6)) (Eng.Reads.below Fgr_2 H.below))
  ·exact Eng.pv fun a w' H => Eng.vr rfl (Eng.run_move rfl (rfl : a.eval (.const (.int .i64 0)) = .int .i64 0))
 intro act3 w3 T
 have h0_3 := T.r 0 h0_2
 have h2_3 := T.r 2 h2_2
 have h3_3 := T.r 3 h3_2
 have h6_3 : act3.eval (.tmp 6) = gv := T.done 0 6 rfl rfl
 have h7_3 : act3.eval (.tmp 7) = .int .i64 ((h.length : Nat) : Int) := T.done 1 7 rfl rfl
 have h8_3 : act3.eval (.tmp 8) = .int .i64 0 := T.done 2 8 rfl rfl
 have d3 := T.defers.trans d2
 have s3 := T.size.trans s2
 have bl3 := bl2.trans (T.below.mono bl2.size)
 clear T
 refine Eng.tail_nil ?_
 refine wp_block ?_
 refine Eng.loopN (fun n a w' => ∃ (k : Nat) (o : Value) (hs : List Dc.NV), h.length - k = n ∧ (k ≤ h.length) ∧ (List.map (·.1) hs = List.map (·.1) (List.take k h)) ∧ (w'.ownsRow w.heap.size 81 4 o (List.length hs) (Dc.cells hs)) ∧ (Dc.KsO w.heap.size w' hs) ∧ a.defers = [] ∧ a.tmps.size = 27 ∧ Below w.heap.size w w' ∧ a.eval (.tmp 0) = gv ∧ a.eval (.tmp 2) = .slice none 0 0 ∧ a.eval (.tmp 3) = o ∧ a.eval (.tmp 6) = gv ∧ a.eval (.tmp 7) = .int .i64 ((h.length : Nat) : Int) ∧ a.eval (.tmp 8) = .int .i64 (k : Nat)) (n0 := h.length - 0) ?_ ?_
 ·exact ⟨0, .slice none 0 0, [], rfl, by omega, rfl, World.ownsRow_nil _ _ _ _, Dc.KsO.nil, d3, s3, bl3, h0_3, h2_3, (h3_3.trans (by first | rfl | (congr 1; rw [Eng.i64_id (by omega) (by omega)]; omega) | (simp; done))), h6_3, h7_3, (h8_3.trans (by first | rfl | (congr 1; rw [Eng.i64_id (by omega) (by omega)]; omega) | (simp; done)))⟩
 rintro n act4 w4 ⟨k, o, hs, rfl, hc0_4, hc1_4, hc2_4, hc3_4, d4, s4, bl4, h0_4, h2_4, h3_4, h6_4, h7_4, h8_4⟩
 have Fgr_4 := Eng.Reads.below hF bl4
 have hk1 := hc0_4
 have hmap := hc1_4
 have hsl := Dc.map_len hk1 hmap
 refine wp_seq ?_
 obtain ⟨q9, Bq9⟩ : ∃ b : Bool, b = (decide ((k : Nat) < ((h.length : Nat) : Int))) := ⟨_, rfl⟩
 refine Eng.regionS (Eng.still [fun u_ => u_ = .bool q9]) (fun _ => .plain) 1 0 27 s4 rfl (by kernel_rfl) (Eng.still_stable _) (Or.inr (Eng.still_any _)) ?_ ?_
 ·refine .c ?_ (.nil)
  ·refine Eng.pv fun a w' H => ?_
   refine Eng.vr (v := .bool (decide ((k : Nat) < ((h.length : Nat) : Int)))) (by show _ = Value.bool q9; rw [Bq9]) ?_
   have e0 := (H.q 8 h8_4)
   have e1 := (H.q 7 h7_4)
   simp only [execOp, resolve, List.map_toArray, List.map_cons, List.map_nil, e0, e1]
   go_simp
 intro act5 w5 T
 have h0_5 := T.r 0 h0_4
 have h2_5 := T.r 2 h2_4
 have h3_5 := T.r 3 h3_4
 have h6_5 := T.r 6 h6_4
 have h7_5 := T.r 7 h7_4
 have h8_5 := T.r 8 h8_4
 have Fgr_5 := Eng.Reads.below Fgr_4 T.below
 have Oout_5 := Eng.own_below hc2_4 T.below
 have h9_5 : act5.eval (.tmp 9) = .bool q9 := T.done 0 9 rfl rfl
 have d5 := T.defers.trans d4
 have s5 := T.size.trans s4
 have bl5 := bl4.trans (T.below.mono bl4.size)
 have XK_5 := Dc.KsO.below hc3_4 T.below
 clear T
 refine Eng.tail_nil ?_
 refine wp_seq ?_
 refine wp_cond_split h9_5 (fun hq => ?_) (fun hq => ?_)
 ·
  have c9 := Bq9.symm.trans hq
  clear hq
  have c9 := of_decide_eq_true c9
  have hk0 : k < h.length := by omega
  have Fk0 := hK.at_ hk0
  have hcell := Dc.cells_at h k hk0
  have hkl := hsm.at_ hk0
  obtain ⟨nk, Hnk⟩ : ∃ n, n = (h.getD k default).1 := ⟨_, rfl⟩
  obtain ⟨kv, hkv⟩ : ∃ v, v = (h.getD k default).2 := ⟨_, rfl⟩
  rw [← Hnk, ← hkv] at hcell Fk0
  rw [← Hnk] at hkl
  clear hkv
  have Fkj7 := Eng.Reads.below Fk0 bl5
  refine wp_skip ?_
  refine wp_seq ?_
  refine wp_block ?_
  refine wp_seq ?_
  refine Eng.regionT (n := 4) rfl ?_
  refine Eng.tail_val (w1 := w5) (v := Eng.elemPtr gv (k * 4)) rfl rfl rfl ?_ s5 rfl ?_
  ·exact Eng.run_index_sl rfl Tryd.underlying48 (by kernel_rfl) (show act5.eval (.tmp 6) = gv from h6_5) ((show act5.eval (.tmp 8) = .int .i64 (k : Nat) from h8_5).trans (congrArg (Value.int _) (show (k : Nat) = ((k : Nat) : Int) from by omega))) Fgr_5 (by omega) rfl
  intro act8 d8 s8 hv hr
  have h0_8 := (hr 0 rfl).trans h0_5
  have h2_8 := (hr 2 rfl).trans h2_5
  have h3_8 := (hr 3 rfl).trans h3_5
  have h6_8 := (hr 6 rfl).trans h6_5
  have h7_8 := (hr 7 rfl).trans h7_5
  have h8_8 := (hr 8 rfl).trans h8_5
  have h10_8 : act8.eval (.tmp 10) = Eng.elemPtr gv (k * 4) := hv
  have d8 := d8.trans d5
  clear hv hr
  refine Eng.tail_val (w1 := w5) (v := .agg #[.int .i64 nk.kind, .string nk.tag, .string nk.text, kv]) rfl rfl rfl ?_ s8 rfl ?_
  ·exact Eng.run_load_els [.int .i64 nk.kind, .string nk.tag, .string nk.text, kv] rfl (show act8.eval (.tmp 10) = Eng.elemPtr gv (k * 4) from h10_8) Fgr_5 (hcell) rfl Tryd.underlying57 rfl (by kernel_rfl)
  intro act9 d9 s9 hv hr
  have h0_9 := (hr 0 rfl).trans h0_8
  have h2_9 := (hr 2 rfl).trans h2_8
  have h3_9 := (hr 3 rfl).trans h3_8
  have h6_9 := (hr 6 rfl).trans h6_8
  have h7_9 := (hr 7 rfl).trans h7_8
  have h8_9 := (hr 8 rfl).trans h8_8
  have h11_9 : act9.eval (.tmp 11) = .agg #[.int .i64 nk.kind, .string nk.tag, .string nk.text, kv] := hv
  have d9 := d9.trans d8
  clear hv hr
  refine Eng.tail_ex rfl rfl rfl (Eng.alloc_ex (cs := #[.int .i64 0, .string ⟨#[]⟩, .string ⟨#[]⟩, .slice none 0 0]) rfl (by kernel_rfl)) s9 rfl fun v_10 w10 act10 R d10 s10 hv hr => ?_
  obtain ⟨g5_10, ev_10, rg_10, lg5_10, kg5_10, b_10⟩ := R
  have h0_10 := (hr 0 rfl).trans h0_9
  have h2_10 := (hr 2 rfl).trans h2_9
  have h3_10 := (hr 3 rfl).trans h3_9
  have h6_10 := (hr 6 rfl).trans h6_9
  have h7_10 := (hr 7 rfl).trans h7_9
  have h8_10 := (hr 8 rfl).trans h8_9
  have h11_10 := (hr 11 rfl).trans h11_9
  have h5_10 : act10.eval (.tmp 5) = v_10 := hv
  have d10 := d10.trans d9
  clear hv hr
  have og5_10 : w.heap.size ≤ g5_10 := Nat.le_trans bl5.size rg_10
  have Oout_10 := Eng.own_below Oout_5 b_10
  have Fkj_10 := Eng.Reads.below Fkj7 b_10
  have XK_10 := Dc.KsO.below XK_5 b_10
  have bl10 := bl5.trans (b_10.mono bl5.size)
  rw [ev_10] at h5_10
  refine Eng.tail_put [.int .i64 nk.kind, .string nk.tag, .string nk.text, kv] (n := 0) (new := #[.int .i64 nk.kind, .string nk.tag, .string nk.text, kv]) rfl rfl rfl kg5_10 rfl ?_ fun w11 S => ?_
  ·have e0 : act10.eval (.tmp 5) = .pointer (some ⟨g5_10, 0, none⟩) := h5_10
   have e1 : act10.eval (.tmp 11) = .agg #[.int .i64 nk.kind, .string nk.tag, .string nk.text, kv] := h11_10
   obtain ⟨A3_, c3_, ev3_⟩ := Eng.Reads.shape Fkj_10
   subst ev3_
   have z0 := (Eng.cells kg5_10 (0)).trans (rfl)
   have f0 := Eng.unfrozen kg5_10 (0)
   have z1 := (Eng.cells kg5_10 (1)).trans (rfl)
   have f1 := Eng.unfrozen kg5_10 (1)
   have z2 := (Eng.cells kg5_10 (2)).trans (rfl)
   have f2 := Eng.unfrozen kg5_10 (2)
   have z3 := (Eng.cells kg5_10 (3)).trans (rfl)
   have f3 := Eng.unfrozen kg5_10 (3)
   simp only [execOp]
   rw [e0, e1]
   go_simp
   try rfl
  have kg5_10_11 := S.new
  have lg5_10_11 := Nat.lt_of_lt_of_eq lg5_10 S.size.symm
  have bl11 := S.below bl10 og5_10
  have Oout_11 := Eng.own_sets Oout_10 S kg5_10 rfl
  have Fkj_11 := Eng.Reads.below Fk0 bl11
  have XK_11 := Dc.KsO.sets XK_10 S kg5_10 rfl
  clear S
  refine Eng.tail_nil ?_
  refine Eng.regionD (Eng.tell [.still fun u_ => u_ = o, .still fun u_ => u_ = .pointer (some ⟨g5_10, 0, none⟩), .still fun u_ => u_ = .int .i64 nk.kind, .still fun u_ => u_ = .pointer (some ⟨g5_10, 1, none⟩), .still fun u_ => u_ = .string nk.tag, .still fun u_ => u_ = .pointer (some ⟨g5_10, 2, none⟩), .still fun u_ => u_ = .string nk.text, .still fun u_ => u_ = .pointer (some ⟨g5_10, 3, none⟩), .still fun u_ => u_ = kv, .own w11.heap.size 3 1 nk.kids.length (Dc.ints nk.kids), Dc.Tl.node w11.heap.size nk, Dc.Tl.rowNode w11.heap.size nk]) (fun i => ([.plain, .plain, .plain, .plain, .plain, .plain, .plain, .plain, .plain, .plain, .plain, .plain] : List Eng.Kind).getD i .plain) 12 2 27 (by kernel_rfl) s10 rfl (by kernel_rfl) (Eng.tell_stable _) (Or.inl (Eng.no_stores (by kernel_rfl))) ?_ ?_
  ·refine .c ?_ (.c ?_ (.c ?_ (.c ?_ (.c ?_ (.c ?_ (.c ?_ (.c ?_ (.c ?_ (.c ?_ (.c ?_ (.c ?_ (.cons (fun h => absurd h (by decide)) (.cons (fun h => absurd h (by decide)) (.nil))))))))))))))
   ·exact Eng.pv fun a w' H => Eng.vr (v := o) rfl (Eng.run_move rfl (H.q 3 h3_10))
   ·exact Eng.pv fun a w' H => Eng.vr (v := .pointer (some ⟨g5_10, 0, none⟩)) rfl (Eng.run_fieldb rfl Tryd.underlying57 0 (by kernel_rfl) (H.q 5 h5_10))
   ·exact Eng.pv fun a w' H => Eng.vr (v := .int .i64 nk.kind) rfl (Eng.run_loadb rfl (H.d 1 13) ((H.below.block _ lg5_10_11).trans kg5_10_11) rfl (by kernel_rfl))
   ·exact Eng.pv fun a w' H => Eng.vr (v := .pointer (some ⟨g5_10, 1, none⟩)) rfl (Eng.run_fieldb rfl Tryd.underlying57 1 (by kernel_rfl) (H.q 5 h5_10))
   ·exact Eng.pv fun a w' H => Eng.vr (v := .string nk.tag) rfl (Eng.run_loadb rfl (H.d 3 15) ((H.below.block _ lg5_10_11).trans kg5_10_11) rfl (by kernel_rfl))
   ·exact Eng.pv fun a w' H => Eng.vr (v := .pointer (some ⟨g5_10, 2, none⟩)) rfl (Eng.run_fieldb rfl Tryd.underlying57 2 (by kernel_rfl) (H.q 5 h5_10))
   ·exact Eng.pv fun a w' H => Eng.vr (v := .string nk.text) rfl (Eng.run_loadb rfl (H.d 5 17) ((H.below.block _ lg5_10_11).trans kg5_10_11) rfl (by kernel_rfl))
   ·exact Eng.pv fun a w' H => Eng.vr (v := .pointer (some ⟨g5_10, 3, none⟩)) rfl (Eng.run_fieldb rfl Tryd.underlying57 3 (by kernel_rfl) (H.q 5 h5_10))
   ·exact Eng.pv fun a w' H => Eng.vr (v := kv) rfl (Eng.run_loadb rfl (H.d 7 19) ((H.below.block _ lg5_10_11).trans kg5_10_11) rfl (by kernel_rfl))
   ·refine Eng.pv fun a w' H => ?_
    refine Eng.call Tryd.func42 (by kernel_rfl) (by kernel_rfl) rfl #[kv] ?_ ?_
    ·have e0 : a.eval (.tmp 20) = kv := (H.d 8 20); simp only [List.map_toArray, List.map_cons, List.map_nil, e0]
    refine (Dc.clone_calls kv nk.kids _ (Eng.Reads.below Fkj_11 H.below) (by omega)).mono ?_
    rintro e w'' ⟨v, rfl, O, hb⟩
    exact ⟨_, rfl, Eng.own_mono O H.below.size, hb⟩
   ·refine Eng.pv fun a w' H => ?_
    have O_ : w'.ownsRow w11.heap.size 3 1 (a.eval (.tmp 21)) nk.kids.length (Dc.ints nk.kids) := H.dep 9 21 (by kernel_rfl) rfl
    obtain ⟨u_, hu_⟩ : ∃ u, u = a.eval (.tmp 21) := ⟨_, rfl⟩
    rw [← hu_] at O_
    obtain ⟨A_, c_, ev_⟩ := Eng.Reads.shape (Eng.Reads.of_own O_)
    refine Eng.vr (v := .agg #[.int .i64 nk.kind, .string nk.tag, .string nk.text, u_]) ⟨u_, rfl, O_⟩ ?_
    subst ev_
    have e0 : a.eval (.tmp 14) = .int .i64 nk.kind := (H.d 2 14)
    have e1 : a.eval (.tmp 16) = .string nk.tag := (H.d 4 16)
    have e2 : a.eval (.tmp 18) = .string nk.text := (H.d 6 18)
    have e3 : a.eval (.tmp 21) = .slice A_ _ c_ := hu_.symm
    simp only [execOp, resolve, List.map_toArray, List.map_cons, List.map_nil, e0, e1, e2, e3]
    go_simp
    try rfl
   ·refine Eng.pv fun a w' H => ?_
    obtain ⟨u_, e_, O_⟩ := (show Dc.NodeOne w11.heap.size nk (a.eval (.tmp 22)) w' from H.dep 10 22 (by kernel_rfl) rfl)
    obtain ⟨A_, c_, ev_⟩ := Eng.Reads.shape (Eng.Reads.of_own O_)
    refine Eng.val_ex (Eng.run_build1I (size := 4) (z := .agg #[.int .i64 0, .string ⟨#[]⟩, .string ⟨#[]⟩, .slice none 0 0]) [.int .i64 nk.kind, .string nk.tag, .string nk.text, u_] rfl Tryd.underlying51 (by kernel_rfl) rfl rfl rfl (by rw [ev_]; kernel_rfl) e_) fun v1 w'' R => ?_
    obtain ⟨F, hb⟩ := R
    exact ⟨hb, ⟨u_, Eng.own_below O_ hb, F⟩⟩
  intro act12 w12 T
  have h0_12 := T.r 0 h0_10
  have h2_12 := T.r 2 h2_10
  have h6_12 := T.r 6 h6_10
  have h7_12 := T.r 7 h7_10
  have h8_12 := T.r 8 h8_10
  have Oout_12 := Eng.own_below Oout_11 T.below
  have h12_12 : act12.eval (.tmp 12) = o := T.done 0 12 rfl rfl
  have OO23_12 := T.done 11 23 rfl rfl
  obtain ⟨v23_12, h23_12⟩ : ∃ v, act12.eval (.tmp 23) = v := ⟨_, rfl⟩
  have d12 := T.defers.trans d10
  have s12 := T.size.trans s10
  have bl12 := bl11.trans (T.below.mono bl11.size)
  have XK_12 := Dc.KsO.below XK_11 T.below
  have OP23_12 : Dc.RowNode w11.heap.size nk v23_12 w12 := by rw [← h23_12]; exact OO23_12
  clear OO23_12
  obtain ⟨uk_12, Ou_12, Fb_12⟩ := OP23_12
  have Ok_12 := Eng.own_mono Ou_12 bl11.size
  have Fk_12 := Eng.Reads.of_own Ok_12
  clear T
  refine Eng.tail_ex rfl rfl rfl (Eng.run_appendI (z := .agg #[.int .i64 0, .string ⟨#[]⟩, .string ⟨#[]⟩, .slice none 0 0]) rfl Tryd.underlying51 (by kernel_rfl) rfl rfl h12_12 Oout_12 h23_12 Fb_12 (by intro u hu; simp only [List.mem_cons, List.not_mem_nil, or_false] at hu; obtain ⟨A_, c_, e_⟩ := Eng.Reads.shape Fk_12; rcases hu with rfl | rfl | rfl | rfl <;> first | rfl | (rw [e_]; rfl)) (by have := hsm.1; rw [List.length_map] at this; omega) bl12.size) s12 rfl fun v_13 w13 act13 R d13 s13 hv hr => ?_
  obtain ⟨O_13, _, b_13, G_13, EO_13⟩ := R
  have h0_13 := (hr 0 rfl).trans h0_12
  have h2_13 := (hr 2 rfl).trans h2_12
  have h6_13 := (hr 6 rfl).trans h6_12
  have h7_13 := (hr 7 rfl).trans h7_12
  have h8_13 := (hr 8 rfl).trans h8_12
  have h24_13 : act13.eval (.tmp 24) = v_13 := hv
  have d13 := d13.trans d12
  clear hv hr
  have XK_13 := Dc.KsO.grown XK_12 G_13 Oout_12 rfl
  have bl13 := bl12.trans b_13
  have Oku_13 := Eng.own_grown Ok_12 G_13 Oout_12 rfl
  have Oa13 : w13.ownsRow w.heap.size 81 4 v_13 (hs ++ [(nk, uk_12)]).length (Dc.cells (hs ++ [(nk, uk_12)])) := Dc.own_snocN O_13
  have Fa13 := Eng.Reads.of_own Oa13
  refine Eng.tail_val rfl rfl rfl (Eng.run_assign rfl h24_13) s13 rfl fun act14 d14 s14 hv hr => ?_
  have h0_14 := (hr 0 rfl).trans h0_13
  have h2_14 := (hr 2 rfl).trans h2_13
  have h6_14 := (hr 6 rfl).trans h6_13
  have h7_14 := (hr 7 rfl).trans h7_13
  have h8_14 := (hr 8 rfl).trans h8_13
  have h3_14 : act14.eval (.tmp 3) = v_13 := hv
  have d14 := d14.trans d13
  clear hv hr
  refine Eng.tail_nil ?_
  refine Eng.regionS (Eng.still [fun u_ => u_ = .int .i64 (IntKind.i64.wrap ((k : Nat) + 1)), fun u_ => u_ = .int .i64 (IntKind.i64.wrap ((k : Nat) + 1))]) (fun _ => .plain) 2 0 27 s14 rfl (by kernel_rfl) (Eng.still_stable _) (Or.inr (Eng.still_any _)) ?_ ?_
  ·refine .c ?_ (.c ?_ (.nil))
   ·refine Eng.pv fun a w' H => ?_
    refine Eng.vr (v := .int .i64 (IntKind.i64.wrap ((k : Nat) + 1))) rfl ?_
    have e0 := (H.q 8 h8_14)
    have e1 : a.eval (.const (.int .i64 1)) = .int .i64 1 := rfl
    simp only [execOp, resolve, List.map_toArray, List.map_cons, List.map_nil, e0, e1]
    go_simp
   ·exact Eng.pv fun a w' H => Eng.vr rfl (Eng.run_move rfl (H.d 0 25))
  intro act15 w15 T
  have h0_15 := T.r 0 h0_14
  have h2_15 := T.r 2 h2_14
  have h3_15 := T.r 3 h3_14
  have h6_15 := T.r 6 h6_14
  have h7_15 := T.r 7 h7_14
  have Oku_15 := Eng.own_below Oku_13 T.below
  have Oa13_15 := Eng.own_below Oa13 T.below
  have h8_15 : act15.eval (.tmp 8) = .int .i64 (IntKind.i64.wrap ((k : Nat) + 1)) := T.done 1 8 rfl rfl
  have d15 := T.defers.trans d14
  have s15 := T.size.trans s14
  have bl15 := bl13.trans (T.below.mono bl13.size)
  have XK_15 := Dc.KsO.below XK_13 T.below
  clear T
  refine Eng.tail_nil ?_
  exact ⟨_, by omega, k + 1, v_13, (hs ++ [(nk, uk_12)]), rfl, by omega, Dc.map_snoc hk0 hmap Hnk, Oa13_15, Dc.KsO.snoc XK_15 Oku_15, d15, s15, bl15, h0_15, h2_15, (h3_15.trans (by first | rfl | (congr 1; rw [Eng.i64_id (by omega) (by omega)]; omega) | (simp; done))), h6_15, h7_15, (h8_15.trans (by first | rfl | (congr 1; rw [Eng.i64_id (by omega) (by omega)]; omega) | (simp; done)))⟩
 ·
  have c9 := Bq9.symm.trans hq
  clear hq
  have c9 := of_decide_eq_false c9
  have hke : k = h.length := by omega
  refine wp_exit ?_
  refine wp_seq ?_
  refine Eng.regionS (Eng.still [fun u_ => u_ = o, fun u_ => u_ = o]) (fun _ => .plain) 2 0 27 s5 rfl (by kernel_rfl) (Eng.still_stable _) (Or.inr (Eng.still_any _)) ?_ ?_
  ·refine .c ?_ (.c ?_ (.nil))
   ·exact Eng.pv fun a w' H => Eng.vr rfl (Eng.run_move rfl (H.q 3 h3_5))
   ·exact Eng.pv fun a w' H => Eng.vr rfl (Eng.run_assign rfl (H.d 0 26))
  intro act17 w17 T
  have Oout_17 := Eng.own_below Oout_5 T.below
  have h2_17 : act17.eval (.tmp 2) = o := T.done 1 2 rfl rfl
  have d17 := T.defers.trans d5
  have bl17 := bl5.trans (T.below.mono bl5.size)
  have XK_17 := Dc.KsO.below XK_5 T.below
  clear T
  refine Eng.tail_nil ?_
  refine wp_ret ?_
  repeat (first | with_reducible refine Eng.in_ret ?_ | with_reducible refine Eng.then_ret ?_)
  rw [hke, List.take_length] at hmap
  exact Eng.ret1 rfl d17 h2_17 ⟨_, rfl, ⟨hs, hmap, Oout_17, XK_17⟩, bl17⟩
end Go.Proofs.YtgnmjaacnmkgnaaDoor.X
end
