/- Words and walks that the row of ComposeRight needs: printed by programs, and plain laws. -/
import Derived.Test.YtgnmjaacnmkgnaaDoorM15
import Derived.Test.YtgnmjaacnmkgnaaDoorM14
import Derived.Test.YtgnmjaacnmkgnaaDoorM3
namespace Go.Proofs.YtgnmjaacnmkgnaaDoorW.PrintWords
end Go.Proofs.YtgnmjaacnmkgnaaDoorW.PrintWords
namespace Go.Proofs.YtgnmjaacnmkgnaaDoorW.PrintLast
end Go.Proofs.YtgnmjaacnmkgnaaDoorW.PrintLast
namespace Go.Proofs.YtgnmjaacnmkgnaaDoorW.PrintMore
end Go.Proofs.YtgnmjaacnmkgnaaDoorW.PrintMore
section
namespace Go.Proofs.YtgnmjaacnmkgnaaDoor.X
open Go.RowKit Go.Shelf Go.Proofs Go.Maps
set_option linter.unusedVariables false
set_option linter.unusedSimpArgs false
namespace Dc
structure GoodG (nd : List Nd) : Prop where
  ok : ∀ x ∈ nd, NodeOk nd x
  l1 : 1 ≤ nd.length
  l2 : nd.length ≤ 2000
  tw : twiceF nd = false
  sm : Tm.Small nd
  rn : ∃ dp s', Rn nd dp (List.replicate nd.length 0, []) [0] s' ∧ s'.2 = idn nd.length
section
variable {B : Nat} {w : World} {h : List NV} {opn : List Int} {names : List (List UInt8 × Int)} {gv ov : Value} {mb : Nat}
theorem rep_ks (R : Rep B w h opn names gv ov mb) : KsR w h := fun x hx => by
  obtain ⟨i, hi, rfl⟩ := List.mem_iff_getElem.1 hx
  have := Eng.Reads.of_own (R.ks i hi)
  rwa [List.getD_eq_getElem?_getD, List.getElem?_eq_getElem hi] at this
theorem rep_reads (R : Rep B w h opn names gv ov mb) : GR w (h.map (·.1)) gv := ⟨h, rfl, Eng.Reads.of_own R.gr, rep_ks R⟩
theorem rep_tw (R : Rep B w h opn names gv ov mb) (G : GoodG (h.map (·.1))) : ∀ w1, Below w.heap.size w w1 → Calls Tryd.prog 41 #[gv] w1 fun e w2 => e = .returned (.bool false) ∧ Below w1.heap.size w1 w2 := fun w1 b => by
  have h1 := twice_small B mb gv ov h opn names w1 (R.below b) G.sm
  rw [G.tw] at h1; exact h1
theorem rep_right (hT : Tabs.Holds w) (R : Rep B w h opn names gv ov mb) (G : GoodG (h.map (·.1))) : Calls Tryd.prog 18 #[gv] w fun e w' => e = .returned (.bool true) ∧ Below w.heap.size w w' :=
  right_h gv h w hT (Eng.Reads.of_own R.gr) (rep_ks R) G.ok (by have := G.l1; rwa [List.length_map] at this) (by have := G.l2; rwa [List.length_map] at this) (rep_tw R G)
theorem rep_normal (hT : Tabs.Holds w) (R : Rep B w h opn names gv ov mb) (G : GoodG (h.map (·.1))) : Calls Tryd.prog 21 #[gv] w fun e w' => ∃ o, e = .returned o ∧ GR w' (h.map (·.1)) o ∧ Below w.heap.size w w' := by
  obtain ⟨dp, s', h1, h2⟩ := G.rn
  rw [List.length_map] at h1 h2
  exact normal_h gv h dp s' w hT (Eng.Reads.of_own R.gr) (rep_ks R) G.ok (by have := G.l1; rwa [List.length_map] at this) (by have := G.l2; rwa [List.length_map] at this) (rep_tw R G) h1 h2
end
def sumL (l : List (List Nd)) : Nat := (l.map List.length).foldr (· + ·) 0
theorem sumL_nil : sumL [] = 0 := rfl
theorem sumL_app (a b : List (List Nd)) : sumL (a ++ b) = sumL a + sumL b := by
  unfold sumL
  induction a with
  | nil => simp
  | cons x t ih => simp only [List.cons_append, List.map_cons, List.foldr_cons, ih]; omega
def sumG (fin : List GV) : Nat := sumL (fin.map (·.1))
theorem sumG_step {fin : List GV} {k : Nat} (hk : k < fin.length) : sumG (fin.take (k + 1)) = sumG (fin.take k) + (fin.getD k default).1.length := by
  unfold sumG; rw [Rwt.take_one hk, List.map_append, sumL_app]; rfl
theorem sumL_bd {n m : Nat} : ∀ l : List (List Nd), l.length ≤ n → (∀ x ∈ l, x.length ≤ m) → sumL l ≤ n * m
  | [], _, _ => Nat.zero_le _
  | x :: t, h, hx => by
    obtain ⟨n', rfl⟩ : ∃ n', n = n' + 1 := ⟨n - 1, by simp only [List.length_cons] at h; omega⟩
    have h1 := sumL_bd (n := n') (m := m) t (by simp only [List.length_cons] at h; omega) (fun y hy => hx y (List.mem_cons_of_mem _ hy))
    have h2 := hx x (List.mem_cons_self ..)
    have e : sumL (x :: t) = x.length + sumL t := rfl
    rw [e, Nat.succ_mul]; omega
structure PureG (l : List Evt.Ev) : Prop where
  good : ∀ nd ∈ (graphsF l).1, GoodG nd
  docs : (graphsF l).1.length = Evt.cntP Evt.isBegin l
  told : sumL (graphsF l).1 + Evt.cntP Evt.isAlias l = Evt.cntP Evt.isTold l
theorem runF_err0 : ∀ (l : List Evt.Ev) (d : Dc) (out : List (List Nd)), ¬ (runF d out l).2 = 0 → (runF d out l).1 = [] := by
  intro l
  induction l with
  | nil => intro d out h; exact absurd rfl h
  | cons x t ih =>
    intro d out h
    rw [runF] at h ⊢
    split
    · rename_i h1; rw [if_pos h1] at h; exact ih _ _ h
    · rfl
theorem graphsF_err0 {l : List Evt.Ev} (h : ¬ (graphsF l).2 = 0) : (graphsF l).1 = [] := by
  unfold graphsF at h ⊢
  split
  · rename_i h1; rw [if_pos h1] at h; exact runF_err0 _ _ _ h
  · rfl
end Dc
end Go.Proofs.YtgnmjaacnmkgnaaDoor.X
end
section
namespace Go.Proofs.YtgnmjaacnmkgnaaDoor.X
open Go.RowKit Go.Shelf Go.Proofs Go.Maps
set_option linter.unusedVariables false
set_option linter.unusedSimpArgs false
namespace Dc
inductive Wk (nd : List Nd) : Nat → List Int → Nat → Prop
  | nil (k : Nat) : Wk nd k [] k
  | new {k e e' : Nat} {ks : List Int} (hk : k < nd.length) (h : Wk nd (k + 1) (nd.getD k default).kids e) (t : Wk nd e ks e') : Wk nd k ((k : Int) :: ks) e'
  | old {k e' : Nat} {a : Int} {ks : List Int} (h0 : 0 ≤ a) (h1 : a.toNat < k) (t : Wk nd k ks e') : Wk nd k (a :: ks) e'
theorem Wk.le {nd : List Nd} {k e : Nat} {ks : List Int} (h : Wk nd k ks e) : k ≤ e := by
  induction h with
  | nil => exact Nat.le_refl _
  | new _ _ _ ih1 ih2 => omega
  | old _ _ _ ih => exact ih
theorem Wk.le_len {nd : List Nd} {k e : Nat} {ks : List Int} (h : Wk nd k ks e) (hk : k ≤ nd.length) : e ≤ nd.length := by
  induction h with
  | nil => exact hk
  | new h0 _ _ ih1 ih2 => exact ih2 (ih1 h0)
  | old _ _ _ ih => exact ih hk
theorem Wk.mono {nd nd' : List Nd} {k e : Nat} {ks : List Int} (h : Wk nd k ks e) (hl : e ≤ nd'.length) (he : ∀ j, k ≤ j → j < e → (nd'.getD j default).kids = (nd.getD j default).kids) : Wk nd' k ks e := by
  induction h with
  | nil => exact .nil _
  | new h0 h1 h2 ih1 ih2 =>
    have l1 := h1.le
    have l2 := h2.le
    refine .new (by omega) ?_ (ih2 hl fun j hj hj2 => he j (by omega) hj2)
    rw [he _ (Nat.le_refl _) (by omega)]
    exact ih1 (by omega) fun j hj hj2 => he j (by omega) (by omega)
  | old a b c ih => exact .old a b (ih hl he)
theorem Wk.app {nd : List Nd} {k e e' : Nat} {ks ls : List Int} (h : Wk nd k ks e) (t : Wk nd e ls e') : Wk nd k (ks ++ ls) e' := by
  induction h with
  | nil => exact t
  | new a b c ih1 ih2 => exact .new a b (ih2 t)
  | old a b c ih => exact .old a b (ih t)
def cost (nd : List Nd) : Nat → Nat
  | 0 => 0
  | k + 1 => cost nd k + 1 + (nd.getD k default).kids.length
theorem cost_mono (nd : List Nd) {a b : Nat} (h : a ≤ b) : cost nd a ≤ cost nd b := by
  induction h with
  | refl => exact Nat.le_refl _
  | step _ ih => show _ ≤ cost nd _ + 1 + _; omega
structure Met (s : Ms) (n k b : Nat) : Prop where
  len : s.1.length = n
  lo : ∀ j, j < k → 1 ≤ s.1.getD j 0
  hi : ∀ j, k ≤ j → s.1.getD j 0 = 0
  bd : ∀ j, s.1.getD j 0 ≤ b
  nn : ∀ j, 0 ≤ s.1.getD j 0
  out : s.2 = idn k
theorem cntM_id {s : Ms} {n k b : Nat} (h : Met s n k b) (hb : b ≤ 1000000000) (i : Int) : cntM s i = s.1.getD i.toNat 0 + 1 := by
  unfold cntM
  have h1 := h.bd i.toNat
  have h2 := h.nn i.toNat
  exact Eng.i64_id (by omega) (by omega)
theorem getD_set (l : List Int) (i j : Nat) (x : Int) (hi : i < l.length) : (l.set i x).getD j 0 = if i = j then x else l.getD j 0 := by
  rw [List.getD_eq_getElem?_getD, List.getD_eq_getElem?_getD]
  by_cases h : i = j
  · subst h; rw [if_pos rfl, List.getElem?_set_self hi]; rfl
  · rw [if_neg h, List.getElem?_set_ne h]
theorem Met.mark {s : Ms} {n k b : Nat} (h : Met s n k b) (hb : b ≤ 1000000000) {i : Int} (hi : i.toNat < k) (hk : k ≤ n) : Met (markM s i) n k (b + 1) := by
  have hl : i.toNat < s.1.length := by rw [h.len]; omega
  have hc := cntM_id h hb i
  have h2 := h.bd i.toNat
  have h3 := h.nn i.toNat
  refine ⟨(mark_len s i).trans h.len, fun j hj => ?_, fun j hj => ?_, fun j => ?_, fun j => ?_, h.out⟩
  all_goals (unfold markM; simp only; rw [getD_set _ _ _ _ hl]; split)
  · rw [hc]; omega
  · exact h.lo j hj
  · omega
  · exact h.hi j hj
  · rw [hc]; push_cast; omega
  · have := h.bd j; push_cast; omega
  · rw [hc]; omega
  · exact h.nn j
theorem Met.out' {s : Ms} {n k b : Nat} (h : Met s n k b) (hb : b ≤ 1000000000) (hk : k < n) : Met (outM s (k : Int)) n (k + 1) (b + 1) := by
  have hl : (k : Int).toNat < s.1.length := by rw [h.len]; omega
  have hc := cntM_id h hb (k : Int)
  have h2 := h.hi k (Nat.le_refl _)
  have e : (k : Int).toNat = k := by omega
  rw [e, h2] at hc
  refine ⟨(out_len s _).trans h.len, fun j hj => ?_, fun j hj => ?_, fun j => ?_, fun j => ?_, ?_⟩
  · unfold outM; simp only; rw [getD_set _ _ _ _ hl, hc, e]
    split
    · omega
    · exact h.lo j (by omega)
  · unfold outM; simp only; rw [getD_set _ _ _ _ hl, hc, e]
    split
    · omega
    · exact h.hi j (by omega)
  · unfold outM; simp only; rw [getD_set _ _ _ _ hl, hc, e]
    split
    · push_cast; omega
    · have := h.bd j; push_cast; omega
  · unfold outM; simp only; rw [getD_set _ _ _ _ hl, hc, e]
    split
    · omega
    · exact h.nn j
  · unfold outM; simp only; rw [h.out, idn_succ]
theorem Rn.deep {nd : List Nd} {n : Nat} {s s' : Ms} {ks : List Int} (h : Rn nd n s ks s') : ∀ m, n ≤ m → Rn nd m s ks s' := by
  induction h with
  | nil => intro m _; exact .nil _ _
  | old a b ih => intro m hm; exact .old a (ih m hm)
  | new a b c ih1 ih2 =>
    intro m hm
    obtain ⟨m', rfl⟩ : ∃ m', m = m' + 1 := ⟨m - 1, by omega⟩
    exact .new a (ih1 m' (by omega)) (ih2 _ hm)
theorem Wk.run {nd : List Nd} {k e : Nat} {ks : List Int} (h : Wk nd k ks e) : ∀ (s : Ms) (b : Nat), Met s nd.length k b → k ≤ nd.length → b + ks.length + (cost nd e - cost nd k) ≤ 1000000000 → ∃ dp s', Rn nd dp s ks s' ∧ Met s' nd.length e (b + ks.length + (cost nd e - cost nd k)) := by
  induction h with
  | nil k => intro s b hm hk hb; exact ⟨0, s, .nil _ _, by simpa using hm⟩
  | new hk h t ih1 ih2 =>
    rename_i k e e' ks
    intro s b hm hkn hb
    have l1 := h.le
    have l2 := t.le
    have c1 : cost nd (k + 1) = cost nd k + 1 + (nd.getD k default).kids.length := rfl
    have c2 := cost_mono nd l1
    have c3 := cost_mono nd l2
    simp only [List.length_cons] at hb ⊢
    obtain ⟨d1, s1, r1, m1⟩ := ih1 (outM s (k : Int)) (b + 1) (hm.out' (by omega) hk) (by omega) (by omega)
    obtain ⟨d2, s2, r2, m2⟩ := ih2 s1 _ m1 (h.le_len (by omega)) (by omega)
    refine ⟨max d1 d2 + 1, s2, .new ?_ (r1.deep _ (by omega)) (r2.deep _ (by omega)), ?_⟩
    · rw [cntM_id hm (by omega)]
      have e : (k : Int).toNat = k := by omega
      rw [e, hm.hi k (Nat.le_refl _)]; omega
    · refine ⟨m2.len, m2.lo, m2.hi, fun j => Int.le_trans (m2.bd j) (by omega), m2.nn, m2.out⟩
  | old h0 h1 t ih =>
    rename_i k e' a ks
    intro s b hm hkn hb
    simp only [List.length_cons] at hb ⊢
    obtain ⟨d, s', r, m⟩ := ih (markM s a) (b + 1) (hm.mark (by omega) h1 hkn) hkn (by omega)
    refine ⟨d, s', .old ?_ r, ⟨m.len, m.lo, m.hi, fun j => Int.le_trans (m.bd j) (by omega), m.nn, m.out⟩⟩
    rw [cntM_id hm (by omega)]
    have := hm.lo a.toNat h1
    omega
theorem cost_bd {nd : List Nd} {m : Nat} (h : ∀ x ∈ nd, x.kids.length ≤ m) : ∀ k, cost nd k ≤ k * (m + 1)
  | 0 => Nat.zero_le _
  | k + 1 => by
    have ih := cost_bd h k
    have hk : (nd.getD k default).kids.length ≤ m := by
      by_cases hl : k < nd.length
      · refine h _ ?_
        rw [List.getD_eq_getElem?_getD, List.getElem?_eq_getElem hl]; exact List.getElem_mem hl
      · rw [List.getD_eq_getElem?_getD, List.getElem?_eq_none (by omega)]; exact Nat.zero_le _
    show cost nd k + 1 + _ ≤ _
    rw [Nat.succ_mul]; omega
theorem wk_order {nd : List Nd} (h0 : 0 < nd.length) (h : Wk nd 1 (nd.getD 0 default).kids nd.length) (hk : ∀ x ∈ nd, x.kids.length ≤ 100000) (hn : nd.length ≤ 2000) : ∃ dp s', Rn nd dp (List.replicate nd.length 0, []) [0] s' ∧ s'.2 = idn nd.length := by
  have hc := cost_bd hk nd.length
  have hm0 : Met (List.replicate nd.length 0, []) nd.length 0 0 := by
    have e : ∀ j, (List.replicate nd.length (0 : Int)).getD j 0 = 0 := fun j => by
      rw [List.getD_eq_getElem?_getD, List.getElem?_replicate]; split <;> rfl
    exact ⟨by simp, fun j hj => absurd hj (Nat.not_lt_zero _), fun j _ => e j, fun j => by simp only; rw [e]; exact Int.le_refl _, fun j => by simp only; rw [e]; exact Int.le_refl _, rfl⟩
  have hc2 : nd.length * (100000 + 1) ≤ 2000 * 100001 := Nat.mul_le_mul hn (Nat.le_refl _)
  obtain ⟨dp, s', r, m⟩ := Wk.run (Wk.new h0 h (.nil _)) _ 0 hm0 (by omega) (by simp only [List.length_cons, List.length_nil]; omega)
  exact ⟨dp, s', r, m.out⟩
end Dc
end Go.Proofs.YtgnmjaacnmkgnaaDoor.X
end
section
namespace Go.Proofs.YtgnmjaacnmkgnaaDoor.X
open Go.RowKit Go.Shelf Go.Proofs Go.Maps
set_option linter.unusedVariables false
set_option linter.unusedSimpArgs false
namespace Dc
def KM (nd : List Nd) (p : Nat) (u : Int × Int) : Prop := (((nd.getD p default).kind = 1 ∧ u.1 = 2) ∨ ((nd.getD p default).kind = 2 ∧ u.1 = 4)) ∧ ((nd.getD p default).kids.length : Int) = u.2
def Par (nd : List Nd) : Nat → List Int → List (Int × Int) → Prop
  | c, [], [] => c = 0
  | c, p :: os, u :: us => 0 ≤ p ∧ p.toNat < c ∧ c < nd.length ∧ (∃ pre, (nd.getD p.toNat default).kids = pre ++ [(c : Int)] ∧ Wk nd (p.toNat + 1) pre c) ∧ KM nd p.toNat u ∧ Par nd p.toNat os us
  | _, [], _ :: _ => False
  | _, _ :: _, [] => False
def Ch (nd : List Nd) : List Int → List (Int × Int) → Prop
  | [], [] => 0 < nd.length ∧ Wk nd 1 (nd.getD 0 default).kids nd.length
  | o :: os, t :: ts => 0 ≤ o ∧ o.toNat < nd.length ∧ Wk nd (o.toNat + 1) (nd.getD o.toNat default).kids nd.length ∧ KM nd o.toNat t ∧ Par nd o.toNat os ts
  | [], _ :: _ => False
  | _ :: _, [] => False
theorem Par.mono {nd nd' : List Nd} (hl : nd.length ≤ nd'.length) : ∀ (os : List Int) (us : List (Int × Int)) (c : Nat), (∀ j, j < c → nd'.getD j default = nd.getD j default) → Par nd c os us → Par nd' c os us
  | [], [], c, _, h => h
  | [], _ :: _, c, _, h => h.elim
  | _ :: _, [], c, _, h => h.elim
  | p :: os, u :: us, c, he, h => by
    obtain ⟨h1, h2, h3, ⟨pre, h4, h5⟩, h6, h7⟩ := h
    refine ⟨h1, h2, by omega, ⟨pre, ?_, h5.mono (by omega) fun j _ hj => by rw [he j hj]⟩, ?_, Par.mono hl os us _ (fun j hj => he j (by omega)) h7⟩
    · rw [he _ h2]; exact h4
    · unfold KM at h6 ⊢; rw [he _ h2]; exact h6
theorem Ch.close {nd : List Nd} {o : Int} {os : List Int} {t : Int × Int} {ts : List (Int × Int)} (h : Ch nd (o :: os) (t :: ts)) : Ch nd os ts := by
  obtain ⟨h1, h2, h3, h4, h5⟩ := h
  match os, ts, h5 with
  | [], [], h5 =>
    have h5 : o.toNat = 0 := h5
    rw [h5] at h2 h3
    exact ⟨h2, h3⟩
  | p :: os, u :: us, h5 =>
    obtain ⟨g1, g2, g3, ⟨pre, g4, g5⟩, g6, g7⟩ := h5
    refine ⟨g1, by omega, ?_, g6, g7⟩
    rw [g4]
    exact g5.app (.new h2 h3 (.nil _))
theorem kid_get {nd : List Nd} {o a j : Nat} (ho : o < nd.length) : (addKid nd o a).getD j default = if o = j then { nd.getD o default with kids := (nd.getD o default).kids ++ [(a : Int)] } else nd.getD j default := by
  unfold addKid
  rw [List.getD_eq_getElem?_getD]
  by_cases h : o = j
  · subst h; rw [if_pos rfl, List.getElem?_set_self ho]; rfl
  · rw [if_neg h, List.getElem?_set_ne h, List.getD_eq_getElem?_getD]
theorem Ch.alias {nd : List Nd} {o : Int} {os : List Int} {t : Int × Int} {ts : List (Int × Int)} {a : Nat} (h : Ch nd (o :: os) (t :: ts)) (ha : a < nd.length) : Ch (addKid nd o.toNat a) (o :: os) ((t.1, t.2 + 1) :: ts) := by
  obtain ⟨h1, h2, h3, h4, h5⟩ := h
  have hl := addKid_len nd o.toNat a
  refine ⟨h1, by rw [hl]; exact h2, ?_, ?_, h5.mono (by rw [hl]; exact Nat.le_refl _) _ _ _ fun j hj => by rw [kid_get h2, if_neg (by omega)]⟩
  · rw [kid_get h2, if_pos rfl, hl]
    have hm : Wk (addKid nd o.toNat a) (o.toNat + 1) (nd.getD o.toNat default).kids nd.length := h3.mono (by rw [hl]; exact Nat.le_refl _) fun j hj _ => by rw [kid_get h2, if_neg (by omega)]
    exact hm.app (.old (by omega) (by omega) (.nil _))
  · unfold KM at h4 ⊢
    rw [kid_get h2, if_pos rfl]
    refine ⟨h4.1, ?_⟩
    simp only [List.length_append, List.length_cons, List.length_nil]
    have := h4.2; push_cast; omega
theorem snoc_get {nd : List Nd} {x : Nd} {j : Nat} : (nd ++ [x]).getD j default = if j = nd.length then x else nd.getD j default := by
  rw [List.getD_eq_getElem?_getD, List.getD_eq_getElem?_getD]
  rcases Nat.lt_trichotomy j nd.length with h | h | h
  · rw [List.getElem?_append_left h, if_neg (by omega)]
  · subst h; rw [List.getElem?_append_right (Nat.le_refl _), Nat.sub_self, if_pos rfl]; rfl
  · rw [if_neg (by omega), List.getElem?_eq_none (by simp; omega), List.getElem?_eq_none (by omega)]
theorem Ch.node {nd : List Nd} {o : Int} {os : List Int} {t : Int × Int} {ts : List (Int × Int)} {x : Nd} (h : Ch nd (o :: os) (t :: ts)) (hx : x.kids = []) :
    Ch (addKid (nd ++ [x]) o.toNat nd.length) (o :: os) ((t.1, t.2 + 1) :: ts) ∧
      ∀ k : Int, ((x.kind = 1 ∧ k = 2) ∨ (x.kind = 2 ∧ k = 4)) → Ch (addKid (nd ++ [x]) o.toNat nd.length) ((nd.length : Int) :: o :: os) ((k, 0) :: (t.1, t.2 + 1) :: ts) := by
  obtain ⟨h1, h2, h3, h4, h5⟩ := h
  have hl : (addKid (nd ++ [x]) o.toNat nd.length).length = nd.length + 1 := by rw [addKid_len]; simp
  have h2' : o.toNat < (nd ++ [x]).length := by simp; omega
  have hg : ∀ j, j ≠ o.toNat → j < nd.length → (addKid (nd ++ [x]) o.toNat nd.length).getD j default = nd.getD j default := fun j hj hjl => by
    rw [kid_get h2', if_neg (Ne.symm hj), snoc_get, if_neg (by omega)]
  have hgo : (addKid (nd ++ [x]) o.toNat nd.length).getD o.toNat default = { nd.getD o.toNat default with kids := (nd.getD o.toNat default).kids ++ [(nd.length : Int)] } := by
    rw [kid_get h2', if_pos rfl, snoc_get, if_neg (by omega)]
  have hgn : (addKid (nd ++ [x]) o.toNat nd.length).getD nd.length default = x := by
    rw [kid_get h2', if_neg (by omega), snoc_get, if_pos rfl]
  have hm : Wk (addKid (nd ++ [x]) o.toNat nd.length) (o.toNat + 1) (nd.getD o.toNat default).kids nd.length := h3.mono (by omega) fun j hj hj2 => by rw [hg j (by omega) hj2]
  have hk : KM (addKid (nd ++ [x]) o.toNat nd.length) o.toNat (t.1, t.2 + 1) := by
    unfold KM at h4 ⊢
    rw [hgo]
    refine ⟨h4.1, ?_⟩
    simp only [List.length_append, List.length_cons, List.length_nil]
    have := h4.2; push_cast; omega
  have hp : Par (addKid (nd ++ [x]) o.toNat nd.length) o.toNat os ts := h5.mono (by omega) _ _ _ fun j hj => hg j (by omega) (by omega)
  refine ⟨⟨h1, by omega, ?_, hk, hp⟩, fun k hkd => ⟨by omega, by omega, ?_, ?_, h1, by omega, by omega, ⟨(nd.getD o.toNat default).kids, by rw [hgo]; simp, by simpa using hm⟩, hk, hp⟩⟩
  · rw [hgo, hl]
    exact hm.app (.new (by omega) (by rw [hgn, hx]; exact .nil _) (.nil _))
  · have e : (nd.length : Int).toNat = nd.length := by omega
    rw [e, hgn, hx, hl]; exact .nil _
  · have e : (nd.length : Int).toNat = nd.length := by omega
    unfold KM
    rw [e, hgn, hx]
    exact ⟨hkd, rfl⟩
theorem Ch.first {x : Nd} (hx : x.kids = []) : Ch [x] [] [] ∧ ∀ k : Int, ((x.kind = 1 ∧ k = 2) ∨ (x.kind = 2 ∧ k = 4)) → Ch [x] [0] [(k, 0)] := by
  refine ⟨⟨by simp, ?_⟩, fun k hk => ⟨Int.le_refl _, by simp, ?_, ⟨hk, ?_⟩, rfl⟩⟩
  · show Wk [x] 1 x.kids 1; rw [hx]; exact .nil _
  · show Wk [x] 1 x.kids 1; rw [hx]; exact .nil _
  · show (x.kids.length : Int) = 0; rw [hx]; rfl
end Dc
end Go.Proofs.YtgnmjaacnmkgnaaDoor.X
end
section
namespace Go.Proofs.YtgnmjaacnmkgnaaDoor.X
open Go.RowKit Go.Shelf Go.Proofs Go.Maps
set_option linter.unusedVariables false
set_option linter.unusedSimpArgs false
namespace Evt
theorem right_facts {x : Ev} (h : rightE x = true) : 0 ≤ x.kind ∧ x.kind ≤ 7 ∧ Lib.validD x.text.data.toList = true ∧ ((x.kind = 2 ∨ x.kind = 4) → x.text.toList.isEmpty = true) := by
  unfold rightE at h
  cases hA : ((decide (x.kind < 0) || decide (x.kind > 7)) || !(Lib.validD x.text.data.toList)) with
  | true => rw [hA] at h; cases h
  | false =>
    rw [hA] at h
    simp only [cond_false] at h
    rw [Bool.or_eq_false_iff, Bool.or_eq_false_iff] at hA
    have h1 := of_decide_eq_false hA.1.1
    have h2 := of_decide_eq_false hA.1.2
    have h3 : Lib.validD x.text.data.toList = true := by have := hA.2; simpa using this
    refine ⟨by omega, by omega, h3, fun hk => ?_⟩
    have e7 : (x.kind == 7) = false := by rw [beq_eq_false_iff_ne]; omega
    have en : isNode x.kind = true := by unfold isNode; rcases hk with hk | hk <;> rw [hk] <;> rfl
    have e6 : (x.kind == 6) = false := by rw [beq_eq_false_iff_ne]; omega
    rw [e7, en, e6] at h
    simp only [cond_false, Bool.not_true, Bool.not_false, Bool.true_and] at h
    cases hB : (!(x.text.toList.isEmpty) || x.plain) with
    | true => rw [hB] at h; cases h
    | false => rw [Bool.or_eq_false_iff] at hB; have := hB.1; simpa using this
theorem em_of {s : ByteArray} (h : s.toList.isEmpty = true) : s = ⟨#[]⟩ := by
  rw [ByteArray.toList_eq] at h
  obtain ⟨⟨l⟩⟩ := s
  cases l with
  | nil => rfl
  | cons => cases h
end Evt
namespace Dc
open Impl hiding bSeq bMap
open Evt (tagF tagL namedL bSeq bMap)
theorem fits_R1 (s : List UInt8) : fits (R1 s) s = true := by
  have h := R1_one s
  unfold fits
  by_cases hp : R1 s ∈ plains
  · rw [if_pos hp, if_pos rfl]
  · rw [if_neg hp]
    have : R1 s = bStr := by
      simp only [List.mem_cons, List.not_mem_nil, or_false] at h
      rcases h with h | h | h | h | h
      · exact absurd (by rw [h]; decide) hp
      · exact absurd (by rw [h]; decide) hp
      · exact absurd (by rw [h]; decide) hp
      · exact absurd (by rw [h]; decide) hp
      · exact h
    rw [if_pos this]
theorem fits_str (s : List UInt8) : fits bStr s = true := by
  unfold fits
  rw [if_neg (by decide), if_pos rfl]
theorem named_ok {t p : List UInt8} (h : (namedL t p).2 = 0) : (namedL t p).1 = p ∨ (right (namedL t p).1 = true ∧ ¬ (namedL t p).1 ∈ cores) := by
  unfold namedL at h ⊢
  split
  · exact .inl rfl
  · rename_i h1
    rw [if_neg h1] at h
    split
    · rename_i h2; exact .inr h2
    · rename_i h2; rw [if_neg h2] at h; cases h
theorem ba_dat (l : List UInt8) : (ba l).data.toList = l := rfl
structure NF1 (nd : List Nd) (x : Nd) : Prop where
  kin : ∀ k ∈ x.kids, 0 ≤ k ∧ k.toNat < nd.length
  kd : (x.kind = 0 ∧ x.kids = [] ∧ Lib.validD x.text.data.toList = true ∧ fits x.tag.data.toList x.text.data.toList = true ∧ x.text.size ≤ 2000) ∨
    (x.kind = 1 ∧ (x.tag = ⟨#[115, 101, 113]⟩ ∨ OwnT x.tag) ∧ x.text = ⟨#[]⟩) ∨
    (x.kind = 2 ∧ (x.tag = ⟨#[109, 97, 112]⟩ ∨ OwnT x.tag) ∧ x.text = ⟨#[]⟩ ∧ ∀ k ∈ keysL x.kids, (nd.getD k.toNat default).kind = 0)
  sz : x.tag.size ≤ 10000 ∧ x.text.size ≤ 10000
theorem NF1.mono {nd nd' : List Nd} {x : Nd} (h : NF1 nd x) (hl : nd.length ≤ nd'.length) (he : ∀ j, j < nd.length → (nd'.getD j default).kind = (nd.getD j default).kind) : NF1 nd' x := by
  refine ⟨fun k hk => ?_, ?_, h.sz⟩
  · have := h.kin k hk; exact ⟨this.1, by omega⟩
  · rcases h.kd with h1 | h1 | ⟨h1, h2, h3, h4⟩
    · exact .inl h1
    · exact .inr (.inl h1)
    · exact .inr (.inr ⟨h1, h2, h3, fun k hk => by rw [he _ (h.kin k (keysL_sub _ _ hk)).2]; exact h4 k hk⟩)
theorem nf_new {x : Evt.Ev} (hr : Evt.rightE x = true) (h0 : x.kind ≠ 0) (h1 : x.kind ≠ 1) (h3 : x.kind ≠ 3) (h5 : x.kind ≠ 5) (h7 : x.kind ≠ 7) (ht : (tagF x).2 = 0) (hs : x.text.size ≤ 2000) (hg : x.tag.size ≤ 2000) (nd : List Nd) : NF1 nd ⟨kindN x.kind, (tagF x).1, x.text, []⟩ := by
  obtain ⟨g1, g2, g3, g4⟩ := Evt.right_facts hr
  have hsz := Tm.tagF_size x
  refine ⟨fun k hk => absurd hk List.not_mem_nil, ?_, by simp only; omega, by simp only; omega⟩
  have ht' : (tagL x.kind x.tag.data.toList x.text.data.toList x.plain).2 = 0 := ht
  have he : (tagF x).1 = ba (tagL x.kind x.tag.data.toList x.text.data.toList x.plain).1 := rfl
  have hc : x.kind = 2 ∨ x.kind = 4 ∨ x.kind = 6 := by omega
  have nm : ∀ p : List UInt8, (namedL x.tag.data.toList p).2 = 0 → ba (namedL x.tag.data.toList p).1 = ba p ∨ OwnT (ba (namedL x.tag.data.toList p).1) := fun p hp => by
    rcases named_ok hp with h | h
    · exact .inl (by rw [h])
    · exact .inr h
  rcases hc with h | h | h
  · refine .inr (.inl ⟨kindN_2 h, ?_, Evt.em_of (g4 (.inl h))⟩)
    simp only
    rw [he]
    have e : tagL x.kind x.tag.data.toList x.text.data.toList x.plain = namedL x.tag.data.toList bSeq := by unfold tagL; rw [if_pos h]
    rw [e] at ht' ⊢
    exact nm _ ht'
  · refine .inr (.inr ⟨kindN_4 (by omega) h, ?_, Evt.em_of (g4 (.inr h)), fun k hk => absurd hk List.not_mem_nil⟩)
    simp only
    rw [he]
    have e : tagL x.kind x.tag.data.toList x.text.data.toList x.plain = namedL x.tag.data.toList bMap := by unfold tagL; rw [if_neg (by omega), if_pos h]
    rw [e] at ht' ⊢
    exact nm _ ht'
  · refine .inl ⟨kindN_0 (by omega) (by omega), rfl, g3, ?_, hs⟩
    simp only
    rw [he, ba_dat]
    have e : tagL x.kind x.tag.data.toList x.text.data.toList x.plain = (if x.tag.data.toList = [] then (if x.plain = true then (R1 x.text.data.toList, 0) else (bStr, 0)) else if fits x.tag.data.toList x.text.data.toList = true then (x.tag.data.toList, 0) else ([], 14)) := by
      unfold tagL; rw [if_neg (by omega), if_neg (by omega), if_pos h]
    rw [e] at ht' ⊢
    split
    · split
      · exact fits_R1 _
      · exact fits_str _
    · rename_i hne
      rw [if_neg hne] at ht'
      split
      · rename_i hf; exact hf
      · rename_i hf; rw [if_neg hf] at ht'; cases ht'
theorem keysL_app : ∀ (l : List Int) (a : Int), keysL (l ++ [a]) = if Int.tmod (l.length : Int) 2 = 0 then keysL l ++ [a] else keysL l
  | [], a => rfl
  | [b], a => by simp [keysL]
  | b :: c :: t, a => by
    have ih := keysL_app t a
    have e : Int.tmod ((b :: c :: t).length : Int) 2 = Int.tmod (t.length : Int) 2 := by
      simp only [List.length_cons]; push_cast
      rw [Int.tmod_eq_emod_of_nonneg (by omega), Int.tmod_eq_emod_of_nonneg (by omega)]; omega
    rw [e]
    show b :: keysL (t ++ [a]) = _
    rw [ih]
    split <;> rfl
theorem NF1.kid {nd nd' : List Nd} {x : Nd} {a : Nat} (h : NF1 nd x) (hk : x.kind = 1 ∨ x.kind = 2) (hl : nd.length ≤ nd'.length) (he : ∀ j, j < nd.length → (nd'.getD j default).kind = (nd.getD j default).kind) (ha : a < nd'.length) (ho : x.kind = 2 → Int.tmod (x.kids.length : Int) 2 = 0 → (nd'.getD a default).kind = 0) : NF1 nd' { x with kids := x.kids ++ [(a : Int)] } := by
  have h := h.mono hl he
  refine ⟨fun k hk => ?_, ?_, h.sz⟩
  · rcases List.mem_append.1 hk with hk | hk
    · exact h.kin k hk
    · rw [List.mem_singleton.1 hk]; exact ⟨by omega, by omega⟩
  · rcases h.kd with h1 | h1 | ⟨h1, h2, h3, h4⟩
    · omega
    · exact .inr (.inl h1)
    · refine .inr (.inr ⟨h1, h2, h3, fun k hk => ?_⟩)
      simp only [keysL_app] at hk
      split at hk
      · rename_i hev
        rcases List.mem_append.1 hk with hk | hk
        · exact h4 k hk
        · rw [List.mem_singleton.1 hk]; exact ho h1 hev
      · exact h4 k hk
def NFs (nd : List Nd) (opn : List Int) : Prop := ∀ j, j < nd.length → NF1 nd (nd.getD j default) ∧ ((nd.getD j default).kind = 2 → ¬ (j : Int) ∈ opn → Int.tmod ((nd.getD j default).kids.length : Int) 2 = 0)
theorem NFs.good {nd : List Nd} (h : NFs nd []) (h0 : 0 < nd.length) (hw : Wk nd 1 (nd.getD 0 default).kids nd.length) (h2 : nd.length ≤ 2000) (ht : twiceF nd = false) (hk : ∀ x ∈ nd, x.kids.length ≤ 100000) : GoodG nd := by
  have ha : ∀ x ∈ nd, NF1 nd x ∧ (x.kind = 2 → Int.tmod (x.kids.length : Int) 2 = 0) := fun x hx => by
    obtain ⟨j, hj, rfl⟩ := List.mem_iff_getElem.1 hx
    have := h j hj
    rw [List.getD_eq_getElem?_getD, List.getElem?_eq_getElem hj] at this
    exact ⟨this.1, fun e => this.2 e List.not_mem_nil⟩
  refine ⟨fun x hx => ⟨(ha x hx).1.kin, Nat.le_trans (hk x hx) (by decide), ?_⟩, h0, h2, ht, fun x hx => ⟨Nat.le_trans (hk x hx) (by decide), ?_, ?_⟩, wk_order h0 hw hk h2⟩
  · rcases (ha x hx).1.kd with h1 | h1 | ⟨h1, g2, g3, g4⟩
    · exact .inl h1
    · exact .inr (.inl h1)
    · exact .inr (.inr ⟨h1, g2, g3, (ha x hx).2 h1, g4⟩)
  · have := (ha x hx).1.sz.1; omega
  · have := (ha x hx).1.sz.2; omega
end Dc
end Go.Proofs.YtgnmjaacnmkgnaaDoor.X
end
section
namespace Go.Proofs.YtgnmjaacnmkgnaaDoor.X
open Go.RowKit Go.Shelf Go.Proofs Go.Maps
set_option linter.unusedVariables false
set_option linter.unusedSimpArgs false
namespace Dc
open Evt (takeF pop more Ev)
theorem add_kind {nd : List Nd} {o a : Nat} (ho : o < nd.length) (j : Nat) : ((addKid nd o a).getD j default).kind = (nd.getD j default).kind := by
  rw [kid_get ho]; split
  · rename_i h; subst h; rfl
  · rfl
theorem NFs.add {nd nd1 : List Nd} {opn opn' : List Int} {o a : Nat} (h : NFs nd opn) (hl : nd.length ≤ nd1.length) (he : ∀ j, j < nd.length → nd1.getD j default = nd.getD j default)
    (hn : ∀ j, nd.length ≤ j → j < nd1.length → NF1 nd1 (nd1.getD j default) ∧ Int.tmod ((nd1.getD j default).kids.length : Int) 2 = 0) (ho : o < nd.length) (hoo : (o : Int) ∈ opn) (hko : (nd.getD o default).kind = 1 ∨ (nd.getD o default).kind = 2) (ha : a < nd1.length) (hodd : odd nd1 o a = false) (hs : ∀ z ∈ opn, z ∈ opn') : NFs (addKid nd1 o a) opn' := by
  have ho1 : o < nd1.length := by omega
  have hk : ∀ j, ((addKid nd1 o a).getD j default).kind = (nd1.getD j default).kind := fun j => add_kind ho1 j
  have hal := addKid_len nd1 o a
  intro j hj
  rw [hal] at hj
  by_cases hjo : o = j
  · subst hjo
    rw [kid_get ho1, if_pos rfl, he _ ho]
    refine ⟨?_, fun _ hno => absurd (hs _ hoo) hno⟩
    refine NF1.kid (h o ho).1 hko (by omega) (fun q hq => by rw [hk, he q hq]) (by omega) fun h2 hev => ?_
    unfold odd at hodd
    rw [he _ ho, h2, hev] at hodd
    rw [hk]
    simpa using hodd
  · rw [kid_get ho1, if_neg hjo]
    rcases Nat.lt_or_ge j nd.length with hjl | hjl
    · rw [he j hjl]
      exact ⟨(h j hjl).1.mono (by omega) fun q hq => by rw [hk, he q hq], fun h2 hno => (h j hjl).2 h2 fun hin => hno (hs _ hin)⟩
    · have := hn j hjl hj
      exact ⟨this.1.mono (by omega) fun q hq => hk q, fun _ _ => this.2⟩
theorem pop_some {st st' : List (Int × Int)} {q : Int} {may : Int → Bool} {t : Int × Int} (hl : st.getLast? = some t) (h : pop st q may = some st') : t.1 = q ∧ may t.2 = true ∧ st' = st.dropLast := by
  unfold pop at h
  rw [hl] at h
  simp only at h
  split at h
  · rename_i hc; injection h with h; exact ⟨hc.1, hc.2, h.symm⟩
  · cases h
structure Tr (st : List (Int × Int)) (d : Dc) (k : Nat) : Prop where
  rel : st ≠ [] → Rel st d.opn
  gd : Good d k
  tr : ∀ m rest, st = (0, m) :: rest → 0 ≤ m ∧ m ≤ k ∧ (∀ t ∈ rest, 0 ≤ t.2 ∧ t.2 ≤ k) ∧ (m = 0 → d.nodes = [] ∧ d.opn = [] ∧ rest = []) ∧ (m = 1 → Ch d.nodes d.opn.reverse rest.reverse ∧ NFs d.nodes d.opn ∧ d.nodes.length ≤ 2000)
theorem Tr.start : Tr [] ⟨[], [], []⟩ 0 := ⟨fun h => absurd rfl h, Good.nil 0, fun m rest h => by cases h⟩
theorem wrap1 {i : Int} (h0 : 0 ≤ i) (h1 : i ≤ 1000000) : IntKind.i64.wrap (i + 1) = i + 1 := Eng.i64_id (by omega) (by omega)
theorem Tr.shape {st : List (Int × Int)} {d : Dc} {k : Nat} (h : Tr st d k) (hne : st ≠ []) : ∃ m, (st = [(0, m)] ∧ d.opn = []) ∨ ∃ pre t po o, st = (0, m) :: (pre ++ [t]) ∧ d.opn = po ++ [o] ∧ (t.1 = 2 ∨ t.1 = 4) := by
  obtain ⟨m, rest, rfl, hk, hl⟩ := h.rel hne
  refine ⟨m, ?_⟩
  rcases List.eq_nil_or_concat rest with rfl | ⟨pre, t, rfl⟩
  · exact .inl ⟨rfl, List.eq_nil_of_length_eq_zero hl.symm⟩
  · rw [List.concat_eq_append] at *
    rcases List.eq_nil_or_concat d.opn with h2 | ⟨po, o, h2⟩
    · rw [h2] at hl; simp at hl
    · rw [List.concat_eq_append] at h2
      exact .inr ⟨pre, t, po, o, rfl, h2, hk t (by simp)⟩
theorem last_of (m : Int) (pre : List (Int × Int)) (t : Int × Int) : ((0, m) :: (pre ++ [t])).getLast? = some t := by
  rw [← List.cons_append, List.getLast?_append]; simp
theorem more_of (m : Int) (pre : List (Int × Int)) (t : Int × Int) : more ((0, m) :: (pre ++ [t])) = (0, m) :: (pre ++ [(t.1, IntKind.i64.wrap (t.2 + 1))]) := by
  rw [← List.cons_append, Evt.more_snoc, List.cons_append]
theorem Tr.close {st st' : List (Int × Int)} {d : Dc} {k : Nat} {q : Int} {may : Int → Bool} (h : Tr st d k) (hne : st ≠ []) (hq : q = 2 ∨ q = 4) (hev : q = 4 → ∀ z, may z = true → Int.tmod z 2 = 0) (ht : pop st q may = some st') : Tr st' ⟨d.nodes, d.opn.dropLast, d.names⟩ (k + 1) := by
  have hg : Good ⟨d.nodes, d.opn.dropLast, d.names⟩ (k + 1) := by
    refine ⟨fun o ho => h.gd.op o (List.dropLast_subset _ ho), h.gd.nm, fun i hi => Nat.le_succ_of_le (h.gd.kd i hi), Nat.le_succ_of_le h.gd.nl, ?_⟩
    have := h.gd.ol; simp only [List.length_dropLast]; omega
  obtain ⟨m, ⟨rfl, ho⟩ | ⟨pre, t, po, o, rfl, ho, hk⟩⟩ := h.shape hne
  · have := pop_some (t := (0, m)) rfl ht
    have e : (0 : Int) = q := this.1
    omega
  · obtain ⟨h1, h2, rfl⟩ := pop_some (last_of m pre t) ht
    have hdl : ((0, m) :: (pre ++ [t])).dropLast = (0, m) :: pre := by rw [← List.cons_append, List.dropLast_concat]
    have hdo : d.opn.dropLast = po := by rw [ho, List.dropLast_concat]
    rw [hdo] at hg ⊢
    rw [hdl]
    obtain ⟨g1, g2, g3, g4, g5⟩ := h.tr m (pre ++ [t]) rfl
    refine ⟨fun _ => ?_, hg, fun m' rest' he => ?_⟩
    · obtain ⟨m2, r2, e2, hk2, hl2⟩ := h.rel (by simp)
      injection e2 with e2 e3
      subst e3
      refine ⟨m, pre, rfl, fun u hu => hk2 u (List.mem_append_left _ hu), ?_⟩
      rw [ho] at hl2; simp only [List.length_append, List.length_cons, List.length_nil] at hl2; simp only; omega
    · injection he with e1 e2
      injection e1 with _ e1
      subst e1; subst e2
      refine ⟨g1, by push_cast; omega, fun u hu => ?_, fun h0 => ?_, fun h1' => ?_⟩
      · have := g3 u (List.mem_append_left _ hu); push_cast; exact ⟨this.1, by omega⟩
      · exact absurd (g4 h0).2.2 (by simp)
      · obtain ⟨c1, c2, c3⟩ := g5 h1'
        rw [ho, List.reverse_append, List.reverse_append] at c1
        have c1 : Ch d.nodes (o :: po.reverse) (t :: pre.reverse) := c1
        refine ⟨c1.close, fun j hj => ⟨(c2 j hj).1, fun hj2 hno => ?_⟩, c3⟩
        by_cases hin : (j : Int) ∈ d.opn
        · rw [ho] at hin
          rcases List.mem_append.1 hin with hin | hin
          · exact absurd hin hno
          · have hjo := List.mem_singleton.1 hin
            obtain ⟨_, _, _, hkm, _⟩ := c1
            have ej : o.toNat = j := by rw [← hjo]; exact Int.toNat_natCast j
            rw [ej] at hkm
            have hj2' : (d.nodes.getD j default).kind = 2 := hj2
            have ht4 : t.1 = 4 := by
              rcases hkm.1 with hh | hh
              · omega
              · exact hh.2
            rw [hkm.2]
            exact hev (by omega) _ h2
        · exact (c2 j hj).2 hj2 hin
theorem Tr.alias {st : List (Int × Int)} {d : Dc} {k : Nat} {x : Ev} (h : Tr st d k) (hne : st ≠ []) (hb : k ≤ 100000) (he : (aliasF d x).2 = 0) : Tr (more st) (aliasF d x).1 (k + 1) := by
  have hg := aliasF_good (x := x) h.gd
  cases hf : find d.names x.anchor.data.toList with
  | none => rw [aliasF_no hf] at he; cases he
  | some c =>
    have hc := h.gd.nm _ _ hf
    obtain ⟨a, rfl⟩ : ∃ a : Nat, c = (a : Int) := ⟨c.toNat, by omega⟩
    rw [aliasF_is hf] at he hg ⊢
    have ha : a < d.nodes.length := by omega
    obtain ⟨m, ⟨rfl, ho⟩ | ⟨pre, t, po, o, rfl, ho, hk⟩⟩ := h.shape hne
    · have e : kidF d a = (d, 0) := by unfold kidF; rw [ho]; rfl
      rw [e] at hg ⊢
      obtain ⟨g1, g2, g3, g4, g5⟩ := h.tr m [] rfl
      have hm : more [(0, m)] = [(0, m + 1)] := by
        have := Evt.more_snoc [] (0, m)
        simp only [List.nil_append] at this
        rw [this, wrap1 g1 (by omega)]
      rw [hm]
      refine ⟨fun _ => ⟨m + 1, [], rfl, fun t ht => absurd ht List.not_mem_nil, by rw [ho]; rfl⟩, hg, fun m' rest' he' => ?_⟩
      injection he' with e1 e2
      injection e1 with _ e1
      subst e1; subst e2
      have hm1 : 1 ≤ m := by
        by_cases hh : m < 1
        · have := (g4 (by omega)).1; rw [this] at ha; exact absurd ha (Nat.not_lt_zero _)
        · omega
      exact ⟨by omega, by push_cast; omega, fun t ht => absurd ht List.not_mem_nil, fun h0 => by omega, fun h0 => by omega⟩
    · obtain ⟨g1, g2, g3, g4, g5⟩ := h.tr m (pre ++ [t]) rfl
      have ht := g3 t (by simp)
      have hoo := h.gd.op o (by rw [ho]; simp)
      have hkt := kidF_top d.nodes po o d.names a
      have ed : d = ⟨d.nodes, po ++ [o], d.names⟩ := by rw [← ho]
      rw [ed, hkt] at he hg ⊢
      split at he
      · cases he
      · rename_i hod
        rw [if_neg hod] at hg ⊢
        simp only at hg ⊢
        rw [more_of, wrap1 ht.1 (by omega)]
        refine ⟨fun _ => ?_, hg, fun m' rest' he' => ?_⟩
        · obtain ⟨m2, r2, e2, hk2, hl2⟩ := h.rel (by simp)
          injection e2 with e2 e3
          subst e3
          refine ⟨m, pre ++ [(t.1, t.2 + 1)], rfl, fun u hu => ?_, ?_⟩
          · rcases List.mem_append.1 hu with hu | hu
            · exact hk2 u (List.mem_append_left _ hu)
            · rw [List.mem_singleton.1 hu]; exact hk
          · rw [ho] at hl2; simp only [List.length_append, List.length_cons, List.length_nil] at hl2 ⊢; omega
        · injection he' with e1 e2
          injection e1 with _ e1
          subst e1; subst e2
          refine ⟨g1, by push_cast; omega, fun u hu => ?_, fun h0 => absurd (g4 h0).2.2 (by simp), fun h1' => ?_⟩
          · rcases List.mem_append.1 hu with hu | hu
            · have := g3 u (List.mem_append_left _ hu); push_cast; exact ⟨this.1, by omega⟩
            · rw [List.mem_singleton.1 hu]; simp only; push_cast; exact ⟨by omega, by omega⟩
          · obtain ⟨c1, c2, c3⟩ := g5 h1'
            rw [ho, List.reverse_append, List.reverse_append] at c1
            have c1 : Ch d.nodes (o :: po.reverse) (t :: pre.reverse) := c1
            rw [List.reverse_append, List.reverse_append]
            refine ⟨c1.alias ha, ?_, by rw [addKid_len]; exact c3⟩
            obtain ⟨q1, q2, q3, q4, q5⟩ := c1
            refine c2.add (Nat.le_refl _) (fun j _ => rfl) (fun j hj hj2 => by omega) q2 (by rw [ho, Int.toNat_of_nonneg q1]; simp) ?_ ha (by simpa using hod) (fun z hz => by rw [ho] at hz; exact hz)
            rcases q4.1 with hh | hh
            · exact .inl hh.1
            · exact .inr hh.1
end Dc
end Go.Proofs.YtgnmjaacnmkgnaaDoor.X
end
section
namespace Go.Proofs.YtgnmjaacnmkgnaaDoor.X
open Go.RowKit Go.Shelf Go.Proofs Go.Maps
set_option linter.unusedVariables false
set_option linter.unusedSimpArgs false
namespace Dc
open Evt (takeF pop more Ev)
theorem NFs.one {n : Nd} {opn : List Int} (h : NF1 [n] n) (hk : n.kids = []) : NFs [n] opn := by
  intro j hj
  obtain rfl : j = 0 := by simp at hj; omega
  exact ⟨h, fun _ _ => by show Int.tmod (n.kids.length : Int) 2 = 0; rw [hk]; rfl⟩
theorem kind_cases {k : Int} (h : k = 2 ∨ k = 4 ∨ k = 6) : (kindN k = 0 ∧ k = 6) ∨ (¬ kindN k = 0 ∧ (k = 2 ∨ k = 4) ∧ ((kindN k = 1 ∧ k = 2) ∨ (kindN k = 2 ∧ k = 4))) := by
  rcases h with rfl | rfl | rfl
  · exact .inr ⟨by decide, .inl rfl, .inl ⟨rfl, rfl⟩⟩
  · exact .inr ⟨by decide, .inr rfl, .inr ⟨rfl, rfl⟩⟩
  · exact .inl ⟨by decide, rfl⟩
theorem Tr.node {st st' : List (Int × Int)} {d : Dc} {k : Nat} {x : Ev} (h : Tr st d k) (hne : st ≠ []) (hb : k ≤ 100000) (hr : Evt.rightE x = true) (h0 : x.kind ≠ 0) (h1 : x.kind ≠ 1) (h3 : x.kind ≠ 3) (h5 : x.kind ≠ 5) (h7 : x.kind ≠ 7) (hs : x.text.size ≤ 2000) (hgs : x.tag.size ≤ 2000)
    (ht : takeF st x.kind = some st') (he : (nodeF d x).2 = 0) : Tr st' (nodeF d x).1 (k + 1) ∧ (nodeF d x).1.nodes.length = d.nodes.length + 1 := by
  have hg := nodeF_good (x := x) h.gd
  have hop := nodeF_opn he
  obtain ⟨f1, f2, f3, f4⟩ := Evt.right_facts hr
  have hkc := kind_cases (k := x.kind) (by omega)
  have hrl := h.rel hne
  have hst : st' = if x.kind = 2 ∨ x.kind = 4 then more st ++ [(x.kind, 0)] else more st := by
    rw [Evt.takeF_x _ _ h0 h1 h3 h5] at ht
    have : st.isEmpty = false := by cases st with | nil => exact absurd rfl hne | cons => rfl
    rw [this] at ht
    simp only [Bool.false_eq_true, if_false] at ht
    split at ht
    · rename_i h24; rw [if_pos h24]; injection ht with ht; exact ht.symm
    · rename_i h24; rw [if_neg h24]; injection ht with ht; exact ht.symm
  have hrel : Rel st' (nodeF d x).1.opn := by
    rw [hop, hst]
    rcases hkc with ⟨a, b⟩ | ⟨a, b, _⟩
    · rw [if_neg (by omega), if_pos a]; exact rel_more hrl
    · rw [if_pos b, if_neg a]; exact rel_push (rel_more hrl) b
  have hfull : ¬ 2000 ≤ d.nodes.length := fun hf => by rw [nodeF_full hf] at he; cases he
  have htag : (Evt.tagF x).2 = 0 := by
    apply Classical.byContradiction
    intro hf
    rw [nodeF_tag hfull hf] at he; exact hf he
  obtain ⟨n, hn⟩ : ∃ n : Nd, n = ⟨kindN x.kind, (Evt.tagF x).1, x.text, []⟩ := ⟨_, rfl⟩
  have hnf : ∀ nd, NF1 nd n := fun nd => hn ▸ nf_new hr h0 h1 h3 h5 h7 htag hs hgs nd
  have hnk : n.kids = [] := by rw [hn]
  have hnd : n.kind = kindN x.kind := by rw [hn]
  have hnode : nodeF d x = (if kindN x.kind = 0 then (kidF ⟨d.nodes ++ [n], d.opn, nameF d x⟩ d.nodes.length).1 else { (kidF ⟨d.nodes ++ [n], d.opn, nameF d x⟩ d.nodes.length).1 with opn := (kidF ⟨d.nodes ++ [n], d.opn, nameF d x⟩ d.nodes.length).1.opn ++ [(d.nodes.length : Int)] }, (kidF ⟨d.nodes ++ [n], d.opn, nameF d x⟩ d.nodes.length).2) := by
    rw [hn]; unfold nodeF; rw [if_neg hfull, if_pos htag]
  have hnn : (nodeF d x).1.nodes = (kidF ⟨d.nodes ++ [n], d.opn, nameF d x⟩ d.nodes.length).1.nodes := by
    rw [hnode]; simp only; split <;> rfl
  have hk2 : (kidF ⟨d.nodes ++ [n], d.opn, nameF d x⟩ d.nodes.length).2 = 0 := by rw [hnode] at he; exact he
  refine ⟨⟨fun _ => hrel, hg, fun m' rest' he' => ?_⟩, by rw [hnn, kidF_nlen]; simp⟩
  rw [hnn, hop]
  obtain ⟨m, ⟨rfl, ho⟩ | ⟨pre, t, po, o, rfl, ho, hk⟩⟩ := h.shape hne
  · obtain ⟨g1, g2, g3, g4, g5⟩ := h.tr m [] rfl
    have hm : more [(0, m)] = [(0, m + 1)] := by
      have := Evt.more_snoc [] (0, m)
      simp only [List.nil_append] at this
      rw [this, wrap1 g1 (by omega)]
    have e : (kidF ⟨d.nodes ++ [n], d.opn, nameF d x⟩ d.nodes.length).1.nodes = d.nodes ++ [n] := by unfold kidF; rw [ho]; rfl
    rw [e, ho]
    rw [hst, hm] at he'
    rcases hkc with ⟨a, b⟩ | ⟨a, b, c⟩
    · rw [if_neg (by omega)] at he'
      injection he' with e1 e2
      injection e1 with _ e1
      subst e1; subst e2
      rw [if_pos a]
      refine ⟨by omega, by push_cast; omega, fun t ht => absurd ht List.not_mem_nil, fun h0 => by omega, fun h1' => ?_⟩
      have hz := (g4 (by omega)).1
      rw [hz]
      exact ⟨(Ch.first hnk).1, NFs.one (hnf _) hnk, by simp⟩
    · rw [if_pos b] at he'
      injection he' with e1 e2
      injection e1 with _ e1
      subst e1; subst e2
      rw [if_neg a]
      refine ⟨by omega, by push_cast; omega, fun t ht => ?_, fun h0 => by omega, fun h1' => ?_⟩
      · rw [List.mem_singleton.1 ht]; exact ⟨Int.le_refl 0, by show (0 : Int) ≤ ((k + 1 : Nat) : Int); omega⟩
      · have hz := (g4 (by omega)).1
        rw [hz]
        exact ⟨(Ch.first hnk).2 x.kind (by rw [hnd]; exact c), NFs.one (hnf _) hnk, by simp⟩
  · obtain ⟨g1, g2, g3, g4, g5⟩ := h.tr m (pre ++ [t]) rfl
    have htb := g3 t (by simp)
    have hkt := kidF_top (d.nodes ++ [n]) po o (nameF d x) d.nodes.length
    rw [← ho] at hkt
    have hod : ¬ odd (d.nodes ++ [n]) o.toNat d.nodes.length = true := fun hf => by
      rw [hkt, if_pos hf] at hk2; cases hk2
    rw [if_neg hod] at hkt
    have e : (kidF ⟨d.nodes ++ [n], d.opn, nameF d x⟩ d.nodes.length).1.nodes = addKid (d.nodes ++ [n]) o.toNat d.nodes.length := by rw [hkt]
    rw [e]
    rw [hst, more_of, wrap1 htb.1 (by omega)] at he'
    have core : m = 1 → Ch d.nodes (o :: po.reverse) (t :: pre.reverse) ∧ ∀ opn', (∀ z ∈ d.opn, z ∈ opn') → NFs (addKid (d.nodes ++ [n]) o.toNat d.nodes.length) opn' := fun h1' => by
      obtain ⟨c1, c2, c3⟩ := g5 h1'
      rw [ho, List.reverse_append, List.reverse_append] at c1
      have c1 : Ch d.nodes (o :: po.reverse) (t :: pre.reverse) := c1
      refine ⟨c1, fun opn' hsub => ?_⟩
      obtain ⟨q1, q2, q3, q4, q5⟩ := c1
      refine c2.add (by simp) (fun j hj => by rw [snoc_get, if_neg (by omega)]) (fun j hj hj2 => ?_) q2 (by rw [ho, Int.toNat_of_nonneg q1]; simp) ?_ (by simp) (by simpa using hod) hsub
      · simp only [List.length_append, List.length_cons, List.length_nil] at hj2
        obtain rfl : j = d.nodes.length := by omega
        rw [snoc_get, if_pos rfl, hnk]
        exact ⟨hnf _, rfl⟩
      · rcases q4.1 with hh | hh
        · exact .inl hh.1
        · exact .inr hh.1
    have hlen : (addKid (d.nodes ++ [n]) o.toNat d.nodes.length).length ≤ 2000 := by rw [addKid_len]; simp; omega
    rcases hkc with ⟨a, b⟩ | ⟨a, b, c⟩
    · rw [if_neg (by omega)] at he'
      injection he' with e1 e2
      injection e1 with _ e1
      subst e1; subst e2
      rw [if_pos a]
      refine ⟨g1, by push_cast; omega, fun u hu => ?_, fun h0 => absurd (g4 h0).2.2 (by simp), fun h1' => ?_⟩
      · rcases List.mem_append.1 hu with hu | hu
        · have := g3 u (List.mem_append_left _ hu); push_cast; exact ⟨this.1, by omega⟩
        · rw [List.mem_singleton.1 hu]; simp only; push_cast; exact ⟨by omega, by omega⟩
      · obtain ⟨c1, c2⟩ := core h1'
        refine ⟨?_, c2 _ fun z hz => hz, hlen⟩
        rw [ho, List.reverse_append, List.reverse_append]
        exact (c1.node hnk).1
    · rw [if_pos b, List.cons_append] at he'
      injection he' with e1 e2
      injection e1 with _ e1
      subst e1; subst e2
      rw [if_neg a]
      refine ⟨g1, by push_cast; omega, fun u hu => ?_, fun h0 => absurd (g4 h0).2.2 (by simp), fun h1' => ?_⟩
      · rcases List.mem_append.1 hu with hu | hu
        · rcases List.mem_append.1 hu with hu | hu
          · have := g3 u (List.mem_append_left _ hu); push_cast; exact ⟨this.1, by omega⟩
          · rw [List.mem_singleton.1 hu]; simp only; push_cast; exact ⟨by omega, by omega⟩
        · rw [List.mem_singleton.1 hu]; exact ⟨Int.le_refl 0, by show (0 : Int) ≤ ((k + 1 : Nat) : Int); omega⟩
      · obtain ⟨c1, c2⟩ := core h1'
        refine ⟨?_, c2 _ fun z hz => List.mem_append_left _ hz, hlen⟩
        rw [ho]
        simp only [List.reverse_append, List.reverse_cons, List.reverse_nil, List.nil_append, List.singleton_append, List.cons_append]
        exact (c1.node hnk).2 x.kind (by rw [hnd]; exact c)
theorem Tr.empty {st : List (Int × Int)} {d : Dc} {k : Nat} (h : Tr st d k) : Tr [] d (k + 1) := ⟨fun h => absurd rfl h, h.gd.more (by omega), fun m rest h => by cases h⟩
theorem Tr.begin' (k : Nat) : Tr [(0, 0)] ⟨[], [], []⟩ k := ⟨fun _ => ⟨0, [], rfl, fun t h => absurd h List.not_mem_nil, rfl⟩, Good.nil k, fun m rest h => by
  injection h with e1 e2
  injection e1 with _ e1
  subst e1; subst e2
  exact ⟨Int.le_refl _, by omega, fun t h => absurd h List.not_mem_nil, fun _ => ⟨rfl, rfl, rfl⟩, fun h => by cases h⟩⟩
theorem Tr.over {st st' : List (Int × Int)} {d : Dc} {k : Nat} (h : Tr st d k) (hb : k ≤ 100000) (ht : takeF st 1 = some st') (htw : twiceF d.nodes = false) : GoodG d.nodes := by
  have hne : st ≠ [] := by rintro rfl; exact absurd (take_empty ht) (by decide)
  rw [Evt.takeF_1] at ht
  obtain ⟨m, ⟨rfl, ho⟩ | ⟨pre, t, po, o, rfl, ho, hk⟩⟩ := h.shape hne
  · obtain ⟨_, h2, _⟩ := pop_some (t := (0, m)) rfl ht
    have hm : m = 1 := by simpa using h2
    obtain ⟨g1, g2, g3, g4, g5⟩ := h.tr m [] rfl
    obtain ⟨c1, c2, c3⟩ := g5 hm
    rw [ho] at c1 c2
    refine c2.good c1.1 c1.2 c3 htw fun x hx => ?_
    obtain ⟨i, hi, rfl⟩ := List.mem_iff_getElem.1 hx
    have := h.gd.kd i hi
    rw [List.getD_eq_getElem?_getD, List.getElem?_eq_getElem hi] at this
    exact Nat.le_trans this hb
  · obtain ⟨h1, _, _⟩ := pop_some (last_of m pre t) ht
    omega
end Dc
end Go.Proofs.YtgnmjaacnmkgnaaDoor.X
end
section
namespace Go.Proofs.YtgnmjaacnmkgnaaDoor.X
open Go.RowKit Go.Shelf Go.Proofs Go.Proofs.YtgnmjaacnmkgnaaDoorW.PrintWords Go.Proofs.YtgnmjaacnmkgnaaDoorW.PrintLast Go.Proofs.YtgnmjaacnmkgnaaDoorW.PrintMore
set_option linter.unusedVariables false
set_option linter.unusedSimpArgs false
attribute [local go_sem] max2_int min2_int max_two min_two
set_option maxHeartbeats 4000000 in
set_option maxRecDepth 100000 in
theorem Evt.theirs_calls (v : Value) (l : List Evt.Ev) (w : World) (hl : Eng.Reads w v l.length 5 (Evt.cells l)) (hlen : l.length ≤ 2199023255488) : Calls Tryd.prog 13 #[v] w fun e w' => ∃ o, e = .returned o ∧ w'.ownsRow w.heap.size 30 5 o l.length (Evt.cells l) ∧ Below w.heap.size w w' := by
 have hm := Eng.Reads.len_le hl
 refine Eng.enter Tryd.func13 rfl fun A d0 s0 v0 => ?_
 have s0 : A.tmps.size = 18 := s0
 have y0 : A.eval (.tmp 0) = v := v0 0 (by simp)
 clear v0
 have bl0 : Below w.heap.size w w := Below.refl _ _
 refine wp_seq (Eng.rS [.slice none 0 0] (fun _ => .plain) 1 0 s0 ?_ ?_)
 ·refine .c ?_ (.nil)
  ·exact Eng.pq fun a w' H => Eng.ra (rfl : a.eval (.const (.slice none 0 0)) = .slice none 0 0)
 intro A w1 T
 have y0 := T.r1 y0
 have Fl_ := T.f hl
 have y2 := T.u 0 2
 have ⟨d1, s1, bl1⟩ := T.h d0 s0 bl0
 clear T
 refine Eng.tail_nil (wp_seq ?_)
 refine Eng.rS [.slice none 0 0] (fun _ => .plain) 1 0 s1 ?_ ?_
 ·refine .c ?_ (.nil)
  ·exact Eng.pq fun a w' H => Eng.ra (rfl : a.eval (.const (.slice none 0 0)) = .slice none 0 0)
 intro A w2 T
 have ⟨y0, y2⟩ := T.r2 y0 y2
 have Fl_ := T.f Fl_
 have y3 := T.u 0 3
 have ⟨d2, s2, bl2⟩ := T.h d1 s1 bl1
 clear T
 refine Eng.tail_nil (wp_seq (wp_seq ?_))
 refine Eng.rP [v, .int .i64 ((l.length : Nat) : Int), .int .i64 0] 3 0 s2 (.c (Eng.qq 0 y0) (.c (Eng.pv fun a w' H => Eng.vr (v := .int .i64 ((l.length : Nat) : Int)) rfl (Eng.run_len_sl rfl Tryd.underlying26 (H.d 0 6) (Eng.Reads.below Fl_ H.below))) (.c (Eng.pq fun a w' H => Eng.rv (rfl : a.eval (.const (.int .i64 0)) = .int .i64 0)) .nil))) fun A w3 T => ?_
 have ⟨y0, y2, y3⟩ := T.r3 y0 y2 y3
 have y6 := T.u 0 6
 have y7 := T.u 1 7
 have y8 := T.u 2 8
 have ⟨d3, s3, bl3⟩ := T.h d2 s2 bl2
 clear T
 refine Eng.tail_nil (wp_block ?_)
 refine Eng.loopN (fun n a w' => ∃ (k : Nat) (o : Value), l.length - k = n ∧ (k ≤ l.length) ∧ (w'.ownsRow w.heap.size 30 5 o (List.take k l).length (Evt.cells (List.take k l))) ∧ a.defers = [] ∧ a.tmps.size = 18 ∧ Below w.heap.size w w' ∧ a.eval (.tmp 0) = v ∧ a.eval (.tmp 2) = .slice none 0 0 ∧ a.eval (.tmp 3) = o ∧ a.eval (.tmp 6) = v ∧ a.eval (.tmp 7) = .int .i64 ((l.length : Nat) : Int) ∧ a.eval (.tmp 8) = .int .i64 (k : Nat)) (n0 := l.length - 0) ?_ ?_
 ·exact ⟨0, .slice none 0 0, rfl, by omega, World.ownsRow_nil _ _ _ _, d3, s3, bl3, y0, y2, (y3.trans (by first | rfl | (congr 1; rw [Eng.i64_id (by omega) (by omega)]; omega) | (simp; done))), y6, y7, (y8.trans (by first | rfl | (congr 1; rw [Eng.i64_id (by omega) (by omega)]; omega) | (simp; done)))⟩
 rintro n A w4 ⟨k, o, rfl, hc0_4, hc1_4, d4, s4, bl4, y0, y2, y3, y6, y7, y8⟩
 have Fl_ := Eng.Reads.below hl bl4
 have hk1 := hc0_4
 refine wp_seq ?_
 obtain ⟨q9, Bq9⟩ := Eng.nm (decide ((k : Nat) < ((l.length : Nat) : Int)))
 refine Eng.rS [.bool q9] (fun _ => .plain) 1 0 s4 ?_ ?_
 ·refine .c ?_ (.nil)
  ·exact Eng.pv fun a w' H => Eng.vr (Eng.bb Bq9) (Eng.o2 (H.q 8 y8) (H.q 7 y7))
 intro A w5 T
 have ⟨y0, y2, y3, y6, y7, y8⟩ := T.r6 y0 y2 y3 y6 y7 y8
 have Fl_ := T.f Fl_
 have Oout_5 := T.g hc1_4
 have y9 := T.u 0 9
 have ⟨d5, s5, bl5⟩ := T.h d4 s4 bl4
 clear T
 refine Eng.tail_nil (wp_seq ?_)
 refine wp_cond_split y9 (fun hq => ?_) (fun hq => ?_)
 ·
  have c9 := Bq9.symm.trans hq
  clear hq
  have c9 := of_decide_eq_true c9
  have hk0 : k < l.length := by omega
  refine wp_skip (wp_seq ?_)
  refine wp_block (wp_seq ?_)
  refine Eng.regionS (Eng.still [fun u_ => u_ = Eng.elemPtr v (k * 5), fun u_ => u_ = .agg #[.int .i64 ((l.getD k default).kind), .string ((l.getD k default).anchor), .string ((l.getD k default).tag), .string ((l.getD k default).text), .bool ((l.getD k default).plain)], fun u_ => True, fun u_ => True]) (fun i => ([.plain, .plain, .alloc 23 #[.int .i64 0, .string ⟨#[]⟩, .string ⟨#[]⟩, .string ⟨#[]⟩, .bool false], .store 2 #[.int .i64 ((l.getD k default).kind), .string ((l.getD k default).anchor), .string ((l.getD k default).tag), .string ((l.getD k default).text), .bool ((l.getD k default).plain)]] : List Eng.Kind).getD i .plain) 4 0 18 s5 rfl (by kernel_rfl) (Eng.still_stable _) (Or.inr (Eng.still_any _)) ?_ ?_
  ·refine .c ?_ (.c ?_ (.c ?_ (.c ?_ (.nil))))
   ·exact Eng.pv fun a w' H => Eng.vr (v := Eng.elemPtr v (k * 5)) rfl (Eng.run_index_sl rfl Tryd.underlying26 (by kernel_rfl) (H.q 6 y6) ((H.q 8 y8).trans (congrArg (Value.int _) (show (k : Nat) = ((k : Nat) : Int) from by omega))) (Eng.Reads.below Fl_ H.below) (by omega) rfl)
   ·exact Eng.pv fun a w' H => Eng.vr (v := .agg #[.int .i64 ((l.getD k default).kind), .string ((l.getD k default).anchor), .string ((l.getD k default).tag), .string ((l.getD k default).text), .bool ((l.getD k default).plain)]) rfl (Eng.run_load_els [.int .i64 ((l.getD k default).kind), .string ((l.getD k default).anchor), .string ((l.getD k default).tag), .string ((l.getD k default).text), .bool ((l.getD k default).plain)] rfl (H.d 0 10) (Eng.Reads.below Fl_ H.below) (Evt.cells_at l k (by omega)) rfl Tryd.underlying23 rfl (by kernel_rfl))
   ·refine Eng.made rfl (by simp) rfl (fun a w' hd ho => ?_) (fun _ _ => trivial)
    simp only [execOp]
    go_simp
   refine Eng.stored [.int .i64 ((l.getD k default).kind), .string ((l.getD k default).anchor), .string ((l.getD k default).tag), .string ((l.getD k default).text), .bool ((l.getD k default).plain)] rfl rfl rfl (j := 2) (d := 5) (by kernel_rfl) rfl rfl (Eng.store_uniq (by kernel_rfl)) rfl rfl fun a w' g e hc hd ho => ?_
   have e0 : a.eval _ = .agg #[.int .i64 ((l.getD k default).kind), .string ((l.getD k default).anchor), .string ((l.getD k default).tag), .string ((l.getD k default).text), .bool ((l.getD k default).plain)] := (hd 1 11 (by kernel_rfl) rfl)
   have z0 := (Eng.cells hc 0).trans rfl
   have z1 := (Eng.cells hc 1).trans rfl
   have z2 := (Eng.cells hc 2).trans rfl
   have z3 := (Eng.cells hc 3).trans rfl
   have z4 := (Eng.cells hc 4).trans rfl
   have f0 := Eng.unfrozen hc 0
   have f1 := Eng.unfrozen hc 1
   have f2 := Eng.unfrozen hc 2
   have f3 := Eng.unfrozen hc 3
   have f4 := Eng.unfrozen hc 4
   simp only [execOp, e, e0]
   go_simp
   rfl
  intro A w7 T
  have ⟨y0, y2, y3, y6, y7, y8⟩ := T.r6 y0 y2 y3 y6 y7 y8
  have Oout_7 := T.g Oout_5
  obtain ⟨g5_7, y5, rg5_7, lg5_7_, kg5_7_⟩ := T.st 2 5 3 _ _ _ rfl rfl rfl rfl rfl
  have ⟨d7, s7, bl7⟩ := T.h d5 s5 bl5
  clear T
  refine Eng.tail_nil (Eng.regionT (n := 5) rfl ?_)
  refine Eng.tail_val rfl rfl rfl (Eng.rv y3) s7 rfl fun A d8 s8 y12 hr => ?_
  have ⟨y0, y2, y5, y6, y7, y8⟩ := Eng.k6 hr y0 y2 y5 y6 y7 y8
  have d8 := d8.trans d7
  refine Eng.tail_val rfl rfl rfl (Eng.run_load_all rfl y5 kg5_7_ Tryd.underlying23 rfl (by kernel_rfl)) s8 rfl fun A d9 s9 y13 hr => ?_
  have ⟨y0, y2, y6, y7, y8, y12⟩ := Eng.k6 hr y0 y2 y6 y7 y8 y12
  have d9 := d9.trans d8
  refine Eng.tail_ex rfl rfl rfl (Eng.run_build1I (size := 5) (z := .agg #[.int .i64 0, .string ⟨#[]⟩, .string ⟨#[]⟩, .string ⟨#[]⟩, .bool false]) [.int .i64 ((l.getD k default).kind), .string ((l.getD k default).anchor), .string ((l.getD k default).tag), .string ((l.getD k default).text), .bool ((l.getD k default).plain)] rfl Tryd.underlying37 (by kernel_rfl) rfl rfl rfl (by kernel_rfl) y13) s9 rfl fun v_10 w10 A R d10 s10 y14 hr => ?_
  obtain ⟨F_10, b_10⟩ := R
  have ⟨y0, y2, y6, y7, y8, y12⟩ := Eng.k6 hr y0 y2 y6 y7 y8 y12
  have d10 := d10.trans d9
  have Oout_10 := Eng.own_below Oout_7 b_10
  have bl10 := bl7.trans (b_10.mono bl7.size)
  refine Eng.tail_ex rfl rfl rfl (Eng.run_appendM (z := .agg #[.int .i64 0, .string ⟨#[]⟩, .string ⟨#[]⟩, .string ⟨#[]⟩, .bool false]) rfl Tryd.underlying37 (by kernel_rfl) rfl rfl y12 Oout_10 y14 F_10 (by intro u hu; simp only [List.mem_cons, List.not_mem_nil, or_false] at hu; rcases hu with rfl | rfl | rfl | rfl | rfl <;> rfl) (by rw [List.length_take]; omega) bl10.size) s10 rfl fun v_11 w11 A R d11 s11 y15 hr => ?_
  obtain ⟨O_11, _, b_11, G_11, EO_11⟩ := R
  have ⟨y0, y2, y6, y7, y8⟩ := Eng.k5 hr y0 y2 y6 y7 y8
  have d11 := d11.trans d10
  have bl11 := bl10.trans b_11
  have Oa11 : w11.ownsRow w.heap.size 30 5 v_11 (List.take (k + 1) l).length (Evt.cells (List.take (k + 1) l)) := Evt.own_take hk0 O_11
  have Fa11 := Eng.Reads.of_own Oa11
  refine Eng.tail_val rfl rfl rfl (Eng.ra y15) s11 rfl fun A d12 s12 y3 hr => ?_
  have ⟨y0, y2, y6, y7, y8⟩ := Eng.k5 hr y0 y2 y6 y7 y8
  have d12 := d12.trans d11
  refine Eng.tail_nil (Eng.rP [.int .i64 (IntKind.i64.wrap ((k : Nat) + 1)), .int .i64 (IntKind.i64.wrap ((k : Nat) + 1))] 2 0 s12 (.c (Eng.pv fun a w' H => Eng.vr (v := .int .i64 (IntKind.i64.wrap ((k : Nat) + 1))) rfl (Eng.ok (.int .i64 1) (H.q 8 y8))) (.c (Eng.qd 0 16) .nil)) fun A w13 T => ?_)
  have ⟨y0, y2, y3, y6, y7⟩ := T.r5 y0 y2 y3 y6 y7
  have Oa11_13 := T.g Oa11
  have y8 := T.u 1 8
  have ⟨d13, s13, bl13⟩ := T.h d12 s12 bl11
  clear T
  exact Eng.tail_nil (⟨_, by omega, k + 1, v_11, rfl, by omega, Oa11_13, d13, s13, bl13, y0, y2, (y3.trans (by first | rfl | (congr 1; rw [Eng.i64_id (by omega) (by omega)]; omega) | (simp; done))), y6, y7, (y8.trans (by first | rfl | (congr 1; rw [Eng.i64_id (by omega) (by omega)]; omega) | (simp; done)))⟩)
 have c9 := Bq9.symm.trans hq
 clear hq
 have c9 := of_decide_eq_false c9
 have hke : k = l.length := by omega
 refine wp_exit (wp_seq ?_)
 refine Eng.rP [o, o] 2 0 s5 (.c (Eng.qq 3 y3) (.c (Eng.qe 0 17) .nil)) fun A w15 T => ?_
 have Oout_15 := T.g Oout_5
 have y2 := T.u 1 2
 have d15 := T.e d5
 have bl15 := T.b bl5
 clear T
 refine Eng.tail_nil (wp_ret ?_)
 repeat (first | with_reducible refine Eng.in_ret ?_ | with_reducible refine Eng.then_ret ?_)
 have fin := Oout_15
 rw [hke, List.take_length] at fin
 exact Eng.ret1 rfl d15 y2 ⟨_, rfl, fin, bl15⟩
end Go.Proofs.YtgnmjaacnmkgnaaDoor.X
end
section
namespace Go.Proofs.YtgnmjaacnmkgnaaDoor.X
open Go.RowKit Go.Shelf Go.Proofs Go.Maps Go.WideMaps
set_option linter.unusedVariables false
set_option linter.unusedSimpArgs false
namespace Dal
open Evt (Ev)
abbrev nb : ByteArray := ⟨#[]⟩
def l1 : List Ev := [⟨0, nb, nb, nb, false⟩, ⟨2, ⟨#[97]⟩, nb, nb, false⟩, ⟨7, ⟨#[97]⟩, nb, nb, false⟩, ⟨3, nb, nb, nb, false⟩, ⟨1, nb, nb, nb, false⟩]
def l2 : List Ev := [⟨0, nb, nb, nb, false⟩, ⟨2, ⟨#[97]⟩, nb, nb, false⟩, ⟨7, ⟨#[98]⟩, nb, nb, false⟩, ⟨3, nb, nb, nb, false⟩, ⟨1, nb, nb, nb, false⟩]
def nd : Dc.Nd := ⟨1, ⟨#[115, 101, 113]⟩, nb, [0]⟩
def x1 : Ev := ⟨6, nb, nb, ⟨#[53]⟩, true⟩
def x2 : Ev := ⟨6, nb, ⟨#[105, 110, 116]⟩, ⟨#[120]⟩, false⟩
set_option maxRecDepth 100000 in
theorem t1 : Evt.tagF x1 = (⟨#[105, 110, 116]⟩, 0) := by kernel_rfl
set_option maxRecDepth 100000 in
theorem t2 : Evt.tagF x2 = (⟨#[]⟩, 14) := by kernel_rfl
set_option maxRecDepth 100000 in
theorem g1 : Dc.graphsF l1 = ([[nd]], 0) := by kernel_rfl
set_option maxRecDepth 100000 in
theorem g2 : Dc.graphsF l2 = ([], 11) := by kernel_rfl
end Dal
end Go.Proofs.YtgnmjaacnmkgnaaDoor.X
end
section
namespace Go.Proofs.Eng
open Go Go.RowKit
variable {P : Program} {a : Act} {w : World} {o : Oper}
theorem build_own {B : Nat} {T e : TypeId} {n size : Nat} {parts : Array (Nat × Operand)} {z : Value} {us : List Value} (vs : List (Nat × Value)) (hop : o.op = .buildSlice T n parts) (hu : P.underlying T = some (.slice e)) (hI : (P.info? e).map (fun i => (i.size, decide (i.bytes ≤ 128), i.zero)) = some (size, true, some z))
    (hp : (parts.map fun (i, x) => (i, a.eval x)).toList = vs) (hl : us.length = n * size) (hf : Instr.fill (fun i => some (i * size, size)) ((Array.range (n * size)).map (z.cells[· % z.cells.size]!)) vs = some us.toArray) (h1 : (decide (0 < n * size)) = true) (h2 : (decide (n * size < 10000)) = true) (h3 : (decide (n < 10000)) = true) (hB : B ≤ w.heap.size) :
    ∃ v w', (execOp a.eval o).run P w = .ok (.value v) w' ∧ w'.ownsRow B e size v n us ∧ Below w.heap.size w w' := by
  obtain ⟨i, hi, hs, hb, hz⟩ := info_of hI
  have h1 := of_decide_eq_true h1
  have h2 := of_decide_eq_true h2
  have h3 := of_decide_eq_true h3
  subst hs
  have hr := run_buildSlice (P := P) w T e n (parts.map fun (i, x) => (i, a.eval x)) us.toArray i z hu hi hz (by omega) (by omega) (by rw [hp]; exact hf)
  refine ⟨_, _, ?_, ⟨hl, .inr ⟨w.heap.size, n, us.toArray, rfl, hB, ?_, Nat.le_refl _, by unfold maxLen; omega, by simpa using hl, by rw [← hl]; simp⟩⟩, (Below.refl _ _).alloc (Nat.le_refl _) (.cells us.toArray e)⟩
  · unfold execOp
    rw [hop]
    simp only [Sem.run_bind, hr, Result.andThen_ok]
    rfl
  · show (w.heap.push _)[w.heap.size]? = _; simp
end Go.Proofs.Eng
namespace Go.Proofs.YtgnmjaacnmkgnaaDoor.X
open Go.RowKit Go.Shelf Go.Proofs Go.Maps Go.WideMaps
set_option linter.unusedVariables false
set_option linter.unusedSimpArgs false
namespace Dal
open Evt (Ev)
theorem kept30 {w w' : World} {B B' : Nat} {e : TypeId} {size n n' : Nat} {v v' : Value} {xs xs' : List Value} (O : w.ownsRow B e size v n xs) (O' : w.ownsRow B' 30 5 v' n' xs') (hne : (e != 30) = true) (G : w.grownBy w' v'.ownBlock) : w'.ownsRow B e size v n xs :=
  Dc.kept_own (e' := 30) (size' := 5) (B' := B') (n' := n') (xs' := xs') O G (Dc.apart_ty O O' hne)
theorem tw1 : Dc.TwAll ⟨[], [], []⟩ l1 := Tm.twall0 (by decide) (by decide)
theorem tw2 : Dc.TwAll ⟨[], [], []⟩ l2 := Tm.twall0 (by decide) (by decide)
theorem sz1 : ∀ k, k < l1.length → (l1.getD k default).text.size ≤ 2000 := by decide
theorem sz2 : ∀ k, k < l2.length → (l2.getD k default).text.size ≤ 2000 := by decide
theorem az1 : ∀ k, k < l1.length → (l1.getD k default).anchor.size ≤ maxLen := by
  have : ∀ k, k < l1.length → (l1.getD k default).anchor.size ≤ 2000 := by decide
  intro k hk; have := this k hk; unfold maxLen; omega
theorem az2 : ∀ k, k < l2.length → (l2.getD k default).anchor.size ≤ maxLen := by
  have : ∀ k, k < l2.length → (l2.getD k default).anchor.size ≤ 2000 := by decide
  intro k hk; have := this k hk; unfold maxLen; omega
theorem tagc1 (w : World) : Calls Tryd.prog 10 #[.agg #[.int .i64 6, .string ⟨#[]⟩, .string ⟨#[]⟩, .string ⟨#[53]⟩, .bool true]] w fun e w' => e = .returned (.tuple #[.string ⟨#[105, 110, 116]⟩, .int .i64 0]) ∧ Below w.heap.size w w' := by
  have h := Evt.tag_calls x1 w (by decide); rw [t1] at h; exact h
theorem tagc2 (w : World) : Calls Tryd.prog 10 #[.agg #[.int .i64 6, .string ⟨#[]⟩, .string ⟨#[105, 110, 116]⟩, .string ⟨#[120]⟩, .bool false]] w fun e w' => e = .returned (.tuple #[.string ⟨#[]⟩, .int .i64 14]) ∧ Below w.heap.size w w' := by
  have h := Evt.tag_calls x2 w (by decide); rw [t2] at h; exact h
theorem fin_one {fin : List (List Dc.Nd × Value)} (h : List.map (·.1) fin = [[nd]]) : ∃ gv, fin = [([nd], gv)] := by
  cases fin with
  | nil => cases h
  | cons f t =>
    cases t with
    | nil => obtain ⟨a, gv⟩ := f; simp only [List.map_cons, List.map_nil, List.cons.injEq, and_true] at h; exact ⟨gv, by rw [h]⟩
    | cons g u => simp at h
theorem h_one {h : List Dc.NV} (hm : h.map (·.1) = [nd]) : ∃ kv, h = [(nd, kv)] := by
  cases h with
  | nil => cases hm
  | cons f t =>
    cases t with
    | nil => obtain ⟨a, kv⟩ := f; simp only [List.map_cons, List.map_nil, List.cons.injEq, and_true] at hm; exact ⟨kv, by rw [hm]⟩
    | cons g u => simp at hm
end Dal
end Go.Proofs.YtgnmjaacnmkgnaaDoor.X
end
