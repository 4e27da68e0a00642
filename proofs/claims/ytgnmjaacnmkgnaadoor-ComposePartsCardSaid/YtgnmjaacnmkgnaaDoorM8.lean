/- Words and walks that the row of ComposeParts needs: printed by programs, and plain laws. -/
import Derived.Test.YtgnmjaacnmkgnaaDoorM6
import Derived.Test.YtgnmjaacnmkgnaaDoorM2
import Derived.Test.YtgnmjaacnmkgnaaDoorM3
import Derived.Test.YtgnmjaacnmkgnaaDoorM7
namespace Go.Proofs.YtgnmjaacnmkgnaaDoorW.PrintWords
end Go.Proofs.YtgnmjaacnmkgnaaDoorW.PrintWords
namespace Go.Proofs.YtgnmjaacnmkgnaaDoorW.PrintLast
end Go.Proofs.YtgnmjaacnmkgnaaDoorW.PrintLast
namespace Go.Proofs.YtgnmjaacnmkgnaaDoorW.PrintMore
end Go.Proofs.YtgnmjaacnmkgnaaDoorW.PrintMore
section
namespace Go.Proofs.Eng
open Go Go.RowKit
set_option linter.unusedSimpArgs false
set_option linter.unusedVariables false
variable {P : Program} {ops : Array Oper} {Q : Exit → Act → World → Prop}
def DutyZ (P : Program) (ops : Array Oper) (Q : Exit → Act → World → Prop) (D : Nat → Value → World → Prop) (Z : (Nat → Bool) → World → Prop) (a0 : Act) (i : Nat) (o : Oper) : Prop :=
  ∀ (L : Nat → Bool) (a : Act) (w : World), L i = false → Z L w → (∀ j d, bound o j = true → dstOf ops j = some d → D j (a.tmps.getD d undef) w) → (∀ t, old ops i t = true → a.eval (.tmp t) = a0.eval (.tmp t)) →
    o.guard = none ∧ o.wp P a w (fun a' w' => ∃ v, a' = a.put o.dst v ∧ (o.dst ≠ none → D i v w') ∧ Z (fun j => if j = i then true else L j) w' ∧ ∀ j v, L j = true → D j v w → D j v w') Q
def StepsZ (P : Program) (ops : Array Oper) (Q : Exit → Act → World → Prop) (D : Nat → Value → World → Prop) (Z : (Nat → Bool) → World → Prop) (a0 : Act) (m : Nat) : Nat → List Oper → Prop
  | _, [] => True
  | i, o :: os => (i < m → DutyZ P ops Q D Z a0 i o) ∧ StepsZ P ops Q D Z a0 m (i + 1) os
theorem StepsZ.cons {D : Nat → Value → World → Prop} {Z : (Nat → Bool) → World → Prop} {a0 : Act} {m i : Nat} {o : Oper} {os : List Oper} (h : i < m → DutyZ P ops Q D Z a0 i o) (hs : StepsZ P ops Q D Z a0 m (i + 1) os) : StepsZ P ops Q D Z a0 m i (o :: os) := ⟨h, hs⟩
theorem StepsZ.nil {D : Nat → Value → World → Prop} {Z : (Nat → Bool) → World → Prop} {a0 : Act} {m i : Nat} : StepsZ P ops Q D Z a0 m i [] := trivial
theorem StepsZ.get {D : Nat → Value → World → Prop} {Z : (Nat → Bool) → World → Prop} {a0 : Act} {m : Nat} : ∀ {l : List Oper} {i : Nat}, StepsZ P ops Q D Z a0 m i l → ∀ n o, l[n]? = some o → i + n < m → DutyZ P ops Q D Z a0 (i + n) o
  | [], _, _, _, _, h, _ => by simp at h
  | o :: os, i, h, 0, o', he, hm => by simp at he; subst he; exact h.1 hm
  | o :: os, i, h, n + 1, o', he, hm => by
    have e : i + 1 + n = i + (n + 1) := by omega
    have := StepsZ.get h.2 n o' (by simpa using he) (by omega)
    rw [e] at this; exact this
structure InvZ (ops : Array Oper) (D : Nat → Value → World → Prop) (Z : (Nat → Bool) → World → Prop) (a0 : Act) (L : Array Bool) (a : Act) (w : World) : Prop where
  z : Z (fun j => L.getD j false) w
  defers : a.defers = a0.defers
  size : a.tmps.size = a0.tmps.size
  done : ∀ j d, L.getD j false = true → dstOf ops j = some d → D j (a.tmps.getD d undef) w
  rest : ∀ t, (∀ j, L.getD j false = true → dstOf ops j ≠ some t) → a.tmps.getD t undef = a0.tmps.getD t undef
section main
variable {D : Nat → Value → World → Prop} {Z : (Nat → Bool) → World → Prop} {a0 : Act} {m : Nat}
theorem step_invZ (hs : shape ops m a0.tmps.size = true) (hS : StepsZ P ops Q D Z a0 m 0 ops.toList) {L : Array Bool} (hL : lits L ops) (hlow : ∀ k, m ≤ k → L.getD k false = false) {a : Act} {w : World} (I : InvZ ops D Z a0 L a w)
    {i : Nat} (hi : i < m) (him : i < ops.size) (hnot : L.getD i false = false) (hr : ∀ o, ops[i]? = some o → ∀ j, bound o j = true → L.getD j false = true)
    {K : Act → World → Prop} (hK : ∀ a' w', InvZ ops D Z a0 (L.setIfInBounds i true) a' w' → K a' w') : wpOp P ops Q i K a w := by
  obtain ⟨o, ho⟩ : ∃ o, ops[i]? = some o := ⟨ops[i], Array.getElem?_eq_getElem him⟩
  have hst := hS.get i o (by simpa using ho) (by omega)
  rw [Nat.zero_add] at hst
  have hdo : dstOf ops i = o.dst := by unfold dstOf; rw [ho]; rfl
  have hd3 := (shape_edge hs ho).2.2
  have hjm : ∀ j, L.getD j false = true → j < m := fun j hj => by
    rcases Nat.lt_or_ge j m with h | h
    · exact h
    · rw [hlow j h] at hj; cases hj
  have hjs : ∀ j, L.getD j false = true → j < ops.size := fun j hj => by
    rcases Nat.lt_or_ge j L.size with h | h
    · rw [← hL.1]; exact h
    · rw [Array.getD_eq_getD_getElem?, Array.getElem?_eq_none h] at hj; cases hj
  have holds : ∀ t, old ops i t = true → a.eval (.tmp t) = a0.eval (.tmp t) := fun t ht => by
    show a.tmps.getD t undef = a0.tmps.getD t undef
    refine I.rest t fun j hj hjd => ?_
    unfold old at ht
    rw [all_range] at ht
    have := ht j (hjs j hj)
    obtain ⟨oj, hoj⟩ : ∃ oj, ops[j]? = some oj := ⟨ops[j]'(hjs j hj), Array.getElem?_eq_getElem _⟩
    unfold dstOf at hjd
    rw [hoj] at hjd this
    simp only [Option.bind_some] at hjd
    simp only [hjd, bne_self_eq_false, Bool.false_or, Bool.or_eq_true, beq_iff_eq] at this
    rcases this with h | h
    · subst h; rw [hj] at hnot; cases hnot
    · have := hL.2 j oj hoj hj i h
      rw [this] at hnot; cases hnot
  have hiL : i < L.size := by rw [hL.1]; exact him
  have hdsz : ∀ d, o.dst = some d → d < a.tmps.size := fun d hd => by rw [I.size]; exact hd3 d hd
  have hset : ∀ j, (L.setIfInBounds i true).getD j false = true → j ≠ i → L.getD j false = true := fun j hj hne => by rw [getD_set hiL, if_neg hne] at hj; exact hj
  have hkeep : ∀ j, L.getD j false = true → (L.setIfInBounds i true).getD j false = true := fun j hj => by
    rw [getD_set hiL]; split
    · rfl
    · exact hj
  have hslot : ∀ v j d, L.getD j false = true → dstOf ops j = some d → (a.put o.dst v).tmps.getD d undef = a.tmps.getD d undef := fun v j d hj hd => by
    rw [put_getD _ _ _ _ hdsz, if_neg]
    intro he
    have := shape_dst hs (hjm j hj) hi hd (hdo.trans he)
    subst this; rw [hj] at hnot; cases hnot
  obtain ⟨hg, h1⟩ := hst (fun j => L.getD j false) a w hnot I.z (fun j d hb hd => I.done j d (hr o ho j hb) hd) holds
  unfold wpOp
  rw [ho]
  simp only
  have hw : Region.wanted o (yielded ops a.tmps) = true := by unfold Region.wanted; rw [hg]
  rw [if_pos hw]
  refine .inl (Oper.wp_mono (fun a' w' ⟨v, hv, hD, hZ, hkD⟩ => ?_) h1)
  subst hv
  have eL : (fun j => (L.setIfInBounds i true).getD j false) = fun j => if j = i then true else L.getD j false := by funext j; exact getD_set hiL
  refine hK _ _ ⟨by rw [eL]; exact hZ, by rw [← I.defers]; cases o.dst <;> rfl, by rw [← I.size]; cases o.dst <;> simp [Act.put], ?_, fun t ht => ?_⟩
  · intro j d hj hjd
    by_cases hji : j = i
    · subst hji
      rw [put_getD _ _ _ _ hdsz, if_pos (hdo ▸ hjd)]
      exact hD (by rw [← hdo, hjd]; simp)
    · rw [hslot v j d (hset j hj hji) hjd]
      exact hkD j _ (hset j hj hji) (I.done j d (hset j hj hji) hjd)
  · rw [put_getD _ _ _ _ hdsz, if_neg (fun he => ht i (by rw [getD_set hiL, if_pos rfl]) (hdo.trans he))]
    exact I.rest t fun j hj => ht j (hkeep j hj)
theorem wp_freeZ (hs : shape ops m a0.tmps.size = true) (hm : m ≤ ops.size) (hS : StepsZ P ops Q D Z a0 m 0 ops.toList)
    (hE : ∀ a w, Z (fun j => decide (j < m)) w → a.defers = a0.defers → a.tmps.size = a0.tmps.size → (∀ j d, j < m → dstOf ops j = some d → D j (a.tmps.getD d undef) w) →
      (∀ t, (∀ j, j < m → dstOf ops j ≠ some t) → a.tmps.getD t undef = a0.tmps.getD t undef) → wpOps P ops Q (List.range' m (ops.size - m)) a w) :
    ∀ (fuel : Nat) (L : Array Bool) (a : Act) (w : World), fuel = cnt L m + (ops.size - m) → L.size = ops.size → lits L ops → (∀ k, m ≤ k → L.getD k false = false) → InvZ ops D Z a0 L a w → wpAny P .any ops Q fuel L a w := by
  have fin : ∀ (L : Array Bool) (a : Act) (w : World), cnt L m = 0 → L.size = ops.size → (∀ k, m ≤ k → L.getD k false = false) → InvZ ops D Z a0 L a w → wpAny P .any ops Q (ops.size - m) L a w := by
    intro L a w hc hsz hlow I
    have hall := cnt_zero hc
    refine wp_tail hs (ops.size - m) m L a w (Nat.le_refl _) (by omega) ⟨hsz, ?_⟩ ?_
    · intro j
      rcases Nat.lt_or_ge j m with h | h
      · rw [hall j h]; simp; omega
      · rw [hlow j h]; simp; omega
    · have eL : (fun j => L.getD j false) = fun j => decide (j < m) := by
        funext j
        rcases Nat.lt_or_ge j m with h | h
        · rw [hall j h]; simp [h]
        · rw [hlow j h]; simp [h]
      refine hE a w (eL ▸ I.z) I.defers I.size (fun j d hj hd => I.done j d (hall j hj) hd) (fun t ht => I.rest t fun j hj => ht j ?_)
      rcases Nat.lt_or_ge j m with h | h
      · exact h
      · rw [hlow j h] at hj; cases hj
  intro fuel
  induction fuel with
  | zero =>
    intro L a w hf hsz hl hlow I
    have := fin L a w (by omega) hsz hlow I
    rw [show ops.size - m = 0 by omega] at this
    exact this
  | succ fuel ih =>
    intro L a w hf hsz hl hlow I
    by_cases hc : cnt L m = 0
    · have := fin L a w hc hsz hlow I
      rw [show ops.size - m = fuel + 1 by omega] at this
      exact this
    · constructor
      · intro hnil
        exfalso
        have hex : ∃ i, i < m ∧ L.getD i false = false := by
          apply Classical.byContradiction
          intro hno
          refine hc ?_
          unfold cnt
          rw [List.length_eq_zero_iff, List.filter_eq_nil_iff]
          intro k hk
          rw [List.mem_range] at hk
          cases hv : L.getD k false with
          | true => simp
          | false => exact absurd ⟨k, hk, hv⟩ hno
        have hmin : ∀ n i, i < n → i < m → L.getD i false = false → ∃ i, i < m ∧ L.getD i false = false ∧ ∀ j, j < i → L.getD j false = true := by
          intro n
          induction n with
          | zero => intro i h; omega
          | succ n ihn =>
            intro i hin him hf
            by_cases hall : ∀ j, j < i → L.getD j false = true
            · exact ⟨i, him, hf, hall⟩
            · have : ∃ j, j < i ∧ L.getD j false = false := by
                apply Classical.byContradiction
                intro hno
                refine hall fun j hj => ?_
                cases hv : L.getD j false with
                | true => rfl
                | false => exact absurd ⟨j, hj, hv⟩ hno
              obtain ⟨j, hj, hjf⟩ := this
              exact ihn j (by omega) (by omega) hjf
        obtain ⟨i0, hi0, hf0⟩ := hex
        obtain ⟨i, him, hif, hlt⟩ := hmin (i0 + 1) i0 (by omega) hi0 hf0
        have : i ∈ Region.ready .any ops L := by
          rw [mem_ready hsz]
          refine ⟨by omega, hif, ?_⟩
          intro o ho j hj
          exact hlt j (bound_lt hs ho hj)
        rw [hnil] at this; cases this
      · intro i hi
        obtain ⟨h1, h2, h3⟩ := (mem_ready hsz).1 hi
        have him : i < m := by
          rcases Nat.lt_or_ge i m with h | h
          · exact h
          · exfalso
            obtain ⟨o, ho⟩ : ∃ o, ops[i]? = some o := ⟨ops[i], Array.getElem?_eq_getElem h1⟩
            refine hc ?_
            unfold cnt
            rw [List.length_eq_zero_iff, List.filter_eq_nil_iff]
            intro k hk
            rw [List.mem_range] at hk
            have := anc_ready hl.2 ((shape_edge hs ho).2.1 h k (by omega)) h3
            simp [this]
        refine step_invZ hs hS hl hlow I him h1 h2 h3 fun a' w' I' => ih _ a' w' ?_ (by simp [hsz]) ?_ ?_ I'
        · have := cnt_set (L := L) (by omega) h2 m him
          omega
        · refine ⟨by simp [hl.1], fun k o ho hk j hj => ?_⟩
          rw [getD_set (by omega)] at hk ⊢
          split
          · rfl
          · split at hk
            · rename_i hki; subst hki; exact h3 o ho j hj
            · exact hl.2 k o ho hk j hj
        · intro k hk
          rw [getD_set (by omega), if_neg (by omega)]
          exact hlow k hk
end main
theorem regionZ {id : Nat} {a : Act} {w : World} (D : Nat → Value → World → Prop) (Z : (Nat → Bool) → World → Prop) (m c n : Nat) (hm : P.follows .mixedOrders = true) (hn : a.tmps.size = n) (hc : ops.size = m + c) (hs : shape ops m n = true) (hZ : Z (fun _ => false) { w with drawn := w.drawn + 1 })
    (hS : StepsZ P ops Q D Z a m 0 ops.toList)
    (hE : ∀ a' w', Z (fun j => decide (j < m)) w' → a'.defers = a.defers → a'.tmps.size = n → (∀ j d, decide (j < m) = true → dstOf ops j = some d → D j (a'.eval (.tmp d)) w') →
      (∀ t, (List.range m).all (fun j => dstOf ops j != some t) = true → a'.eval (.tmp t) = a.eval (.tmp t)) → wpOps P ops Q (List.range' m c) a' w') :
    (Code.region id ops true).wp P Q a w := by
  subst hn
  refine wp_region_any hm ?_
  have hle : m ≤ ops.size := by omega
  have eZ : Z (fun j => (Array.replicate ops.size false).getD j false) { w with drawn := w.drawn + 1 } := by
    have eL : (fun j => (Array.replicate ops.size false).getD j false) = fun _ => false := by
      funext j
      rw [Array.getD_eq_getD_getElem?, Array.getElem?_replicate]
      split <;> rfl
    rw [eL]; exact hZ
  have key := wp_freeZ hs hle hS (fun a' w' h1 h2 h3 h4 h5 => by
    rw [hc, Nat.add_sub_cancel_left]
    exact hE a' w' h1 h2 h3 (fun j d hj => h4 j d (of_decide_eq_true hj)) (fun t ht => h5 t (notdst ht))) ops.size (Array.replicate ops.size false) a { w with drawn := w.drawn + 1 } ?_ (by simp) ⟨by simp, fun i o _ h => ?_⟩ (fun k _ => ?_) ⟨eZ, rfl, rfl, fun j d h => ?_, fun t _ => rfl⟩
  · exact key
  · have : cnt (Array.replicate ops.size false) m = m := by
      unfold cnt
      have : ∀ k ∈ List.range m, (!(Array.replicate ops.size false).getD k false) = true := by
        intro k _
        simp [Array.getD_eq_getD_getElem?, Array.getElem?_replicate]
        split <;> rfl
      rw [List.filter_eq_self.2 this, List.length_range]
    omega
  all_goals
    first
    | (simp [Array.getD_eq_getD_getElem?, Array.getElem?_replicate] at h; split at h <;> simp at h)
    | (simp [Array.getD_eq_getD_getElem?, Array.getElem?_replicate]; split <;> rfl)
end Go.Proofs.Eng
end
section
namespace Go.Proofs.Eng
open Go Go.RowKit
set_option linter.unusedSimpArgs false
set_option linter.unusedVariables false
variable {P : Program} {ops : Array Oper} {Q : Exit → Act → World → Prop}
def Zt (e : Nat) (w0 w1 : World) (L : Nat → Bool) (u : World) : Prop := u = if L e = true then w1 else w0
structure AtZ (ops : Array Oper) (Ds : List (Value → Prop)) (a0 : Act) (w0 w1 : World) (i : Nat) (o : Oper) (a : Act) (u : World) : Prop where
  or : u = w0 ∨ u = w1
  dep : ∀ j d, bound o j = true → dstOf ops j = some d → still Ds j (a.eval (.tmp d)) u
  kept : ∀ t, old ops i t = true → a.eval (.tmp t) = a0.eval (.tmp t)
section
variable {Ds : List (Value → Prop)} {e i : Nat} {w0 w1 : World} {a0 : Act} {o : Oper}
theorem zval (hi : (i == e) = false) (hg : o.guard = none) (h : ∀ (a : Act) (u : World), AtZ ops Ds a0 w0 w1 i o a u → ∃ v, (execOp a.eval o).run P u = .ok (.value v) u ∧ still Ds i v u) : DutyZ P ops Q (still Ds) (Zt e w0 w1) a0 i o := by
  intro L a u hL hZ hd ho
  have hor : u = w0 ∨ u = w1 := by
    unfold Zt at hZ
    split at hZ
    · exact .inr hZ
    · exact .inl hZ
  obtain ⟨v, hr, hD⟩ := h a u ⟨hor, hd, ho⟩
  refine ⟨hg, ?_⟩
  unfold Oper.wp
  rw [hr]
  refine ⟨v, rfl, fun _ => hD, ?_, fun _ _ _ h => h⟩
  have he : (if e = i then true else L e) = L e := if_neg fun h => by subst h; simp at hi
  show u = if (if e = i then true else L e) = true then w1 else w0
  rw [he]; exact hZ
theorem zturn (hg : o.guard = none) (h : ∀ (a : Act), AtZ ops Ds a0 w0 w1 e o a w0 → ∃ v, (execOp a.eval o).run P w0 = .ok (.value v) w1 ∧ still Ds e v w1) : DutyZ P ops Q (still Ds) (Zt e w0 w1) a0 e o := by
  intro L a u hL hZ hd ho
  have hu : u = w0 := by unfold Zt at hZ; rw [hL] at hZ; exact hZ
  subst hu
  obtain ⟨v, hr, hD⟩ := h a ⟨.inl rfl, hd, ho⟩
  refine ⟨hg, ?_⟩
  unfold Oper.wp
  rw [hr]
  refine ⟨v, rfl, fun _ => hD, ?_, fun _ _ _ h => h⟩
  show w1 = if (if e = e then true else L e) = true then w1 else _
  rw [if_pos rfl, if_pos rfl]
theorem regionX {id : Nat} {a : Act} {w : World} (Ds : List (Value → Prop)) (e m c n : Nat) (hm : P.follows .mixedOrders = true) (hn : a.tmps.size = n) (hc : ops.size = m + c) (hs : shape ops m n = true) (he : decide (e < m) = true) (w1 : World)
    (hS : StepsZ P ops Q (still Ds) (Zt e { w with drawn := w.drawn + 1 } w1) a m 0 ops.toList)
    (hE : ∀ a', a'.defers = a.defers → a'.tmps.size = n → (∀ j d, decide (j < m) = true → dstOf ops j = some d → still Ds j (a'.eval (.tmp d)) w1) →
      (∀ t, (List.range m).all (fun j => dstOf ops j != some t) = true → a'.eval (.tmp t) = a.eval (.tmp t)) → wpOps P ops Q (List.range' m c) a' w1) :
    (Code.region id ops true).wp P Q a w := by
  refine regionZ (still Ds) (Zt e { w with drawn := w.drawn + 1 } w1) m c n hm hn hc hs rfl hS fun a' w' hZ => ?_
  have hw : w' = w1 := hZ.trans (if_pos he)
  subst hw
  exact hE a'
end
section
variable {a : Act} {o : Oper} {t : TypeId} {m x y : Operand} {mv kv v : Value} {u u1 : World}
theorem run_look0 (hop : o.op = .lookup t m x false) (hm : a.eval m = mv) (hx : a.eval x = kv) (h : (Instr.lookup t mv kv false).run P u = .ok v u) : (execOp a.eval o).run P u = .ok (.value v) u := by
  unfold execOp; rw [hop]; simp only [hm, hx]; simp [h, Result.andThen]
theorem run_upd (hop : o.op = .mapUpdate t m x y) (hm : a.eval m = mv) (hx : a.eval x = kv) (hy : a.eval y = v) (h : (Instr.mapUpdate t mv kv v).run P u = .ok () u1) : (execOp a.eval o).run P u = .ok .skip u1 := by
  unfold execOp; rw [hop]; simp only [hm, hx, hy]; simp [h, Result.andThen]
theorem run_entry (hop : o.op = .mapEntry t m x) (hm : a.eval m = mv) (hx : a.eval x = kv) (h : (Instr.mapEntry t mv kv).run P u = .ok v u1) : (execOp a.eval o).run P u = .ok (.value v) u1 := by
  unfold execOp; rw [hop]; simp only [hm, hx]; simp [h, Result.andThen]
theorem run_estore (hop : o.op = .entryStore t m x y) (hm : a.eval m = mv) (hx : a.eval x = kv) (hy : a.eval y = v) (h : (Instr.entryStore t mv kv v).run P u = .ok () u1) : (execOp a.eval o).run P u = .ok .skip u1 := by
  unfold execOp; rw [hop]; simp only [hm, hx, hy]; simp [h, Result.andThen]
theorem run_ext1 {v1 : Value} (hop : o.op = .extract x 1) (hx : a.eval x = .tuple #[v, v1]) : (execOp a.eval o).run P u = .ok (.value v1) u := by
  unfold execOp; rw [hop]; simp only [hx]; rfl
theorem run_inc {c : Int} {T T2 : TypeId} (hop : o.op = .binOp .add T x (.const (.int .i64 1)) T2) (hx : a.eval x = .int .i64 c) (hu : P.underlying T = some (.int .i64)) (h0 : 0 ≤ c) (h1 : c ≤ 1000000000) : (execOp a.eval o).run P u = .ok (.value (.int .i64 (c + 1))) u := by
  have hw := i64_id (x := c + 1) (by omega) (by omega)
  have e1 : a.eval (.const (.int .i64 1)) = .int .i64 1 := rfl
  unfold execOp; rw [hop]; simp only [resolve, hx, e1]
  go_simp
end
end Go.Proofs.Eng
end
section
namespace Go.Proofs.YtgnmjaacnmkgnaaDoor.X
open Go.RowKit Go.Shelf Go.Proofs
set_option linter.unusedVariables false
set_option linter.unusedSimpArgs false
namespace Dc
theorem ints_one (l : List Int) : ∀ u ∈ ints l, u.oneCell' = true := by
  intro u hu
  obtain ⟨x, _, rfl⟩ := List.mem_map.1 hu
  rfl
theorem ints_get1 (l : List Int) (j : Nat) (h : j < l.length) : (ints l)[j * 1]? = some (.int .i64 (l.getD j 0)) := by
  rw [Nat.mul_one]; exact ints_get l j h
end Dc
end Go.Proofs.YtgnmjaacnmkgnaaDoor.X
end
section
namespace Go.Proofs.YtgnmjaacnmkgnaaDoor.X
open Go.RowKit Go.Shelf Go.Proofs
set_option linter.unusedVariables false
set_option linter.unusedSimpArgs false
namespace Dc
def keysI (l : List Int) (m : Nat) : List Int := (List.range m).map fun i => l.getD (2 * i) 0
theorem keysI_succ (l : List Int) (m : Nat) : keysI l (m + 1) = keysI l m ++ [l.getD (2 * m) 0] := by
  unfold keysI; rw [List.range_succ, List.map_append]; rfl
theorem keysI_len (l : List Int) (m : Nat) : (keysI l m).length = m := by unfold keysI; simp
theorem keysI_cons (a b : Int) (t : List Int) (m : Nat) : keysI (a :: b :: t) (m + 1) = a :: keysI t m := by
  unfold keysI
  rw [List.range_succ_eq_map, List.map_cons, List.map_map]
  rfl
theorem keys_end : ∀ (l : List Int) (m : Nat), l.length ≤ 2 * m → 2 * m ≤ l.length + 1 → keysI l m = keysL l
  | [], m, h1, h2 => by
    simp only [List.length_nil] at h2
    obtain rfl : m = 0 := by omega
    rfl
  | [a], m, h1, h2 => by
    simp only [List.length_cons, List.length_nil] at h1 h2
    obtain rfl : m = 1 := by omega
    rfl
  | a :: b :: t, m, h1, h2 => by
    simp only [List.length_cons] at h1 h2
    obtain ⟨m, rfl⟩ : ∃ n, m = n + 1 := ⟨m - 1, by omega⟩
    rw [keysI_cons, keys_end t m (by omega) (by omega)]
    rfl
theorem own_keys {w : World} {B m : Nat} {v : Value} {l : List Int} (O : w.ownsRow B 3 1 v ((keysI l m).length + 1) (ints (keysI l m) ++ [.int .i64 (l.getD (2 * m) 0)])) : w.ownsRow B 3 1 v (keysI l (m + 1)).length (ints (keysI l (m + 1))) := by
  rw [keysI_succ, ints_snoc, List.length_append]; exact O
end Dc
end Go.Proofs.YtgnmjaacnmkgnaaDoor.X
end
section
namespace Go.Proofs.YtgnmjaacnmkgnaaDoor.X
open Go.RowKit Go.Shelf Go.Proofs Go.Proofs.YtgnmjaacnmkgnaaDoorW.PrintWords Go.Proofs.YtgnmjaacnmkgnaaDoorW.PrintLast Go.Proofs.YtgnmjaacnmkgnaaDoorW.PrintMore
set_option linter.unusedVariables false
set_option linter.unusedSimpArgs false
attribute [local go_sem] max2_int min2_int max_two min_two
set_option maxHeartbeats 4000000 in
set_option maxRecDepth 100000 in
theorem Dc.keys_calls (kv : Value) (x : Dc.Nd) (w : World) (hk : Eng.Reads w kv x.kids.length 1 (Dc.ints x.kids)) (hkl1 : x.kids.length ≤ 1000000) : Calls Tryd.prog 76 #[.agg #[.int .i64 x.kind, .string x.tag, .string x.text, kv]] w fun e w' => ∃ o, e = .returned o ∧ w'.ownsRow w.heap.size 3 1 o (Dc.keysL x.kids).length (Dc.ints (Dc.keysL x.kids)) ∧ Below w.heap.size w w' := by
 have hkl := Eng.Reads.len_le hk
 refine Eng.enter Tryd.func76 rfl fun act0 d0 s0 v0 => ?_
 have s0 : act0.tmps.size = 20 := s0
 have h0_0 : act0.eval (.tmp 0) = .agg #[.int .i64 x.kind, .string x.tag, .string x.text, kv] := v0 0 (by simp)
 clear v0
 have bl0 : Below w.heap.size w w := Below.refl _ _
 refine wp_seq ?_
 refine Eng.regionT (n := 2) rfl ?_
 refine Eng.tail_ex rfl rfl rfl (Eng.box_ex (cs := #[.int .i64 x.kind, .string x.tag, .string x.text, kv]) rfl h0_0 (by obtain ⟨A3_, c3_, ev3_⟩ := Eng.Reads.shape hk; subst ev3_; rfl)) s0 rfl fun v_1 w1 act1 R d1 s1 hv hr => ?_
 obtain ⟨g1_1, ev_1, rg_1, lg1_1, kg1_1, b_1⟩ := R
 have h0_1 := (hr 0 rfl).trans h0_0
 have h1_1 : act1.eval (.tmp 1) = v_1 := hv
 have d1 := d1.trans d0
 clear hv hr
 have bl1 := bl0.trans (b_1.mono bl0.size)
 rw [ev_1] at h1_1
 refine Eng.tail_val rfl rfl rfl (Eng.run_assign rfl (rfl : act1.eval (.const (.slice none 0 0)) = .slice none 0 0)) s1 rfl fun act2 d2 s2 hv hr => ?_
 have h0_2 := (hr 0 rfl).trans h0_1
 have h1_2 := (hr 1 rfl).trans h1_1
 have h2_2 : act2.eval (.tmp 2) = .slice none 0 0 := hv
 have d2 := d2.trans d1
 clear hv hr
 refine Eng.tail_nil ?_
 refine wp_seq ?_
 refine wp_seq ?_
 refine Eng.regionS (Eng.still [fun u_ => u_ = .int .i64 0]) (fun _ => .plain) 1 0 20 s2 rfl (by kernel_rfl) (Eng.still_stable _) (Or.inr (Eng.still_any _)) ?_ ?_
 ·refine .c ?_ (.nil)
  ·exact Eng.pv fun a w' H => Eng.vr rfl (Eng.run_assign rfl (rfl : a.eval (.const (.int .i64 0)) = .int .i64 0))
 intro act3 w3 T
 have h0_3 := T.r 0 h0_2
 have h1_3 := T.r 1 h1_2
 have h2_3 := T.r 2 h2_2
 have kg1_1_3 := (T.below.block _ lg1_1).trans kg1_1
 have lg1_1_3 := Nat.lt_of_lt_of_le lg1_1 T.below.size
 have h3_3 : act3.eval (.tmp 3) = .int .i64 0 := T.done 0 3 rfl rfl
 have d3 := T.defers.trans d2
 have s3 := T.size.trans s2
 have bl3 := bl1.trans (T.below.mono bl1.size)
 clear T
 refine Eng.tail_nil ?_
 refine wp_block ?_
 refine Eng.loopN (fun n a w' => ∃ (m : Nat) (o : Value), x.kids.length + 2 - 2 * m = n ∧ (2 * m ≤ x.kids.length + 1) ∧ (w'.ownsRow w.heap.size 3 1 o (Dc.keysI x.kids m).length (Dc.ints (Dc.keysI x.kids m))) ∧ a.defers = [] ∧ a.tmps.size = 20 ∧ Below w.heap.size w w' ∧ a.eval (.tmp 0) = .agg #[.int .i64 x.kind, .string x.tag, .string x.text, kv] ∧ a.eval (.tmp 1) = .pointer (some ⟨g1_1, 0, none⟩) ∧ a.eval (.tmp 2) = o ∧ a.eval (.tmp 3) = .int .i64 ((2 * m : Nat) : Int) ∧ w'.heap[g1_1]? = some (.cells (#[.int .i64 x.kind, .string x.tag, .string x.text, kv]) 57 (0, 0)) ∧ g1_1 < w'.heap.size) (n0 := x.kids.length + 2 - 2 * 0) ?_ ?_
 ·exact ⟨0, .slice none 0 0, rfl, by omega, World.ownsRow_nil _ _ _ _, d3, s3, bl3, h0_3, h1_3, (h2_3.trans (by first | rfl | (congr 1; rw [Eng.i64_id (by omega) (by omega)]; omega) | (simp; done))), (h3_3.trans (by first | rfl | (congr 1; rw [Eng.i64_id (by omega) (by omega)]; omega) | (simp; done))), kg1_1_3, lg1_1_3⟩
 rintro n act4 w4 ⟨m, o, rfl, hc0_4, hc1_4, d4, s4, bl4, h0_4, h1_4, h2_4, h3_4, kg1_1_4, lg1_1_4⟩
 have Fkj_4 := Eng.Reads.below hk bl4
 have hm1 := hc0_4
 refine wp_seq ?_
 refine wp_seq ?_
 obtain ⟨q8, Bq8⟩ : ∃ b : Bool, b = (decide (((2 * m : Nat) : Int) < ((x.kids.length : Nat) : Int))) := ⟨_, rfl⟩
 refine Eng.regionS (Eng.still [fun u_ => u_ = .int .i64 ((2 * m : Nat) : Int), fun u_ => u_ = .pointer (some ⟨g1_1, 3, none⟩), fun u_ => u_ = kv, fun u_ => u_ = .int .i64 ((x.kids.length : Nat) : Int), fun u_ => u_ = .bool q8]) (fun _ => .plain) 5 0 20 s4 rfl (by kernel_rfl) (Eng.still_stable _) (Or.inr (Eng.still_any _)) ?_ ?_
 ·refine .c ?_ (.c ?_ (.c ?_ (.c ?_ (.c ?_ (.nil)))))
  ·exact Eng.pv fun a w' H => Eng.vr rfl (Eng.run_move rfl (H.q 3 h3_4))
  ·exact Eng.pv fun a w' H => Eng.vr rfl (Eng.run_fieldb rfl Tryd.underlying57 3 (by kernel_rfl) (H.q 1 h1_4))
  ·exact Eng.pv fun a w' H => Eng.vr rfl (Eng.run_loadb rfl (H.d 1 5) ((H.below.block _ lg1_1_4).trans kg1_1_4) rfl (by kernel_rfl))
  ·exact Eng.pv fun a w' H => Eng.vr (v := .int .i64 ((x.kids.length : Nat) : Int)) rfl (Eng.run_len_sl rfl Tryd.underlying55 (show a.eval (.tmp 6) = kv from (H.d 2 6)) (Eng.Reads.below Fkj_4 H.below))
  ·refine Eng.pv fun a w' H => ?_
   refine Eng.vr (v := .bool (decide (((2 * m : Nat) : Int) < ((x.kids.length : Nat) : Int)))) (by show _ = Value.bool q8; rw [Bq8]) ?_
   have e0 : a.eval (.tmp 4) = .int .i64 ((2 * m : Nat) : Int) := (H.d 0 4)
   have e1 : a.eval (.tmp 7) = .int .i64 ((x.kids.length : Nat) : Int) := (H.d 3 7)
   simp only [execOp, resolve, e0, e1]
   go_simp
 intro act5 w5 T
 have h0_5 := T.r 0 h0_4
 have h1_5 := T.r 1 h1_4
 have h2_5 := T.r 2 h2_4
 have h3_5 := T.r 3 h3_4
 have kg1_1_5 := (T.below.block _ lg1_1_4).trans kg1_1_4
 have lg1_1_5 := Nat.lt_of_lt_of_le lg1_1_4 T.below.size
 have Fkj_5 := Eng.Reads.below Fkj_4 T.below
 have Oout_5 := Eng.own_below hc1_4 T.below
 have h8_5 : act5.eval (.tmp 8) = .bool q8 := T.done 4 8 rfl rfl
 have d5 := T.defers.trans d4
 have s5 := T.size.trans s4
 have bl5 := bl4.trans (T.below.mono bl4.size)
 clear T
 refine Eng.tail_nil ?_
 refine wp_cond_split h8_5 (fun hq => ?_) (fun hq => ?_)
 ·
  have c8 := Bq8.symm.trans hq
  clear hq
  have c8 := of_decide_eq_true c8
  have hm0 : 2 * m < x.kids.length := by omega
  refine wp_skip ?_
  refine wp_seq ?_
  refine wp_block ?_
  refine Eng.regionT (n := 9) rfl ?_
  refine Eng.tail_val rfl rfl rfl (Eng.run_move rfl h2_5) s5 rfl fun act7 d7 s7 hv hr => ?_
  have h0_7 := (hr 0 rfl).trans h0_5
  have h1_7 := (hr 1 rfl).trans h1_5
  have h3_7 := (hr 3 rfl).trans h3_5
  have h11_7 : act7.eval (.tmp 11) = o := hv
  have d7 := d7.trans d5
  clear hv hr
  refine Eng.tail_val (w1 := w5) (v := .pointer (some ⟨g1_1, 3, none⟩)) rfl rfl rfl ?_ s7 rfl ?_
  ·exact Eng.run_fieldb rfl Tryd.underlying57 3 (by kernel_rfl) h1_7
  intro act8 d8 s8 hv hr
  have h0_8 := (hr 0 rfl).trans h0_7
  have h1_8 := (hr 1 rfl).trans h1_7
  have h3_8 := (hr 3 rfl).trans h3_7
  have h11_8 := (hr 11 rfl).trans h11_7
  have h12_8 : act8.eval (.tmp 12) = .pointer (some ⟨g1_1, 3, none⟩) := hv
  have d8 := d8.trans d7
  clear hv hr
  refine Eng.tail_val (w1 := w5) (v := kv) rfl rfl rfl ?_ s8 rfl ?_
  ·exact Eng.run_loadb rfl h12_8 (((Below.refl _ _).block _ lg1_1_5).trans kg1_1_5) rfl (by kernel_rfl)
  intro act9 d9 s9 hv hr
  have h0_9 := (hr 0 rfl).trans h0_8
  have h1_9 := (hr 1 rfl).trans h1_8
  have h3_9 := (hr 3 rfl).trans h3_8
  have h11_9 := (hr 11 rfl).trans h11_8
  have h13_9 : act9.eval (.tmp 13) = kv := hv
  have d9 := d9.trans d8
  clear hv hr
  refine Eng.tail_val rfl rfl rfl (Eng.run_move rfl h3_9) s9 rfl fun act10 d10 s10 hv hr => ?_
  have h0_10 := (hr 0 rfl).trans h0_9
  have h1_10 := (hr 1 rfl).trans h1_9
  have h3_10 := (hr 3 rfl).trans h3_9
  have h11_10 := (hr 11 rfl).trans h11_9
  have h13_10 := (hr 13 rfl).trans h13_9
  have h14_10 : act10.eval (.tmp 14) = .int .i64 ((2 * m : Nat) : Int) := hv
  have d10 := d10.trans d9
  clear hv hr
  refine Eng.tail_val (w1 := w5) (v := Eng.elemPtr kv ((2 * m) * 1)) rfl rfl rfl ?_ s10 rfl ?_
  ·exact Eng.run_index_sl rfl Tryd.underlying55 (by kernel_rfl) (show act10.eval (.tmp 13) = kv from h13_10) ((show act10.eval (.tmp 14) = .int .i64 ((2 * m : Nat) : Int) from h14_10).trans (congrArg (Value.int _) (show ((2 * m : Nat) : Int) = (((2 * m) : Nat) : Int) from by first | rfl | omega))) Fkj_5 (by first | rfl | omega) rfl
  intro act11 d11 s11 hv hr
  have h0_11 := (hr 0 rfl).trans h0_10
  have h1_11 := (hr 1 rfl).trans h1_10
  have h3_11 := (hr 3 rfl).trans h3_10
  have h11_11 := (hr 11 rfl).trans h11_10
  have h15_11 : act11.eval (.tmp 15) = Eng.elemPtr kv ((2 * m) * 1) := hv
  have d11 := d11.trans d10
  clear hv hr
  refine Eng.tail_val (w1 := w5) (v := .int .i64 (x.kids.getD (2 * m) 0)) rfl rfl rfl ?_ s11 rfl ?_
  ·exact Eng.run_load_el (.int .i64 (x.kids.getD (2 * m) 0)) rfl (show act11.eval (.tmp 15) = Eng.elemPtr kv ((2 * m) * 1) from h15_11) Fkj_5 (Dc.ints_get1 x.kids (2 * m) (by first | rfl | omega)) (by kernel_rfl)
  intro act12 d12 s12 hv hr
  have h0_12 := (hr 0 rfl).trans h0_11
  have h1_12 := (hr 1 rfl).trans h1_11
  have h3_12 := (hr 3 rfl).trans h3_11
  have h11_12 := (hr 11 rfl).trans h11_11
  have h16_12 : act12.eval (.tmp 16) = .int .i64 (x.kids.getD (2 * m) 0) := hv
  have d12 := d12.trans d11
  clear hv hr
  refine Eng.tail_ex rfl rfl rfl (Eng.run_buildN1 (z := .int .i64 0) [.int .i64 (x.kids.getD (2 * m) 0)] rfl Tryd.underlying55 (by kernel_rfl) rfl rfl rfl rfl (by intro v hv; have h := List.mem_singleton.1 hv; rw [h]; exact rfl) (by have e0 : act12.eval (.tmp 16) = .int .i64 (x.kids.getD (2 * m) 0) := h16_12; simp [e0])) s12 rfl fun v_13 w13 act13 R d13 s13 hv hr => ?_
  obtain ⟨F_13, b_13⟩ := R
  have h0_13 := (hr 0 rfl).trans h0_12
  have h1_13 := (hr 1 rfl).trans h1_12
  have h3_13 := (hr 3 rfl).trans h3_12
  have h11_13 := (hr 11 rfl).trans h11_12
  have h17_13 : act13.eval (.tmp 17) = v_13 := hv
  have d13 := d13.trans d12
  clear hv hr
  have kg1_1_13 := (b_13.block _ lg1_1_5).trans kg1_1_5
  have lg1_1_13 := Nat.lt_of_lt_of_le lg1_1_5 b_13.size
  have Oout_13 := Eng.own_below Oout_5 b_13
  have bl13 := bl5.trans (b_13.mono bl5.size)
  refine Eng.tail_ex rfl rfl rfl (Eng.run_appendI (z := .int .i64 0) rfl Tryd.underlying55 (by kernel_rfl) rfl rfl h11_13 Oout_13 h17_13 F_13 (by intro u hu; simp at hu; subst hu; rfl) (by rw [Dc.keysI_len]; omega) bl13.size) s13 rfl fun v_14 w14 act14 R d14 s14 hv hr => ?_
  obtain ⟨O_14, _, b_14, G_14, EO_14⟩ := R
  have h0_14 := (hr 0 rfl).trans h0_13
  have h1_14 := (hr 1 rfl).trans h1_13
  have h3_14 := (hr 3 rfl).trans h3_13
  have h18_14 : act14.eval (.tmp 18) = v_14 := hv
  have d14 := d14.trans d13
  clear hv hr
  have kg1_1_14 := (G_14.block _ lg1_1_13 (Eng.own_ne Oout_13 kg1_1_13 rfl)).trans kg1_1_13
  have lg1_1_14 := Nat.lt_of_lt_of_le lg1_1_13 G_14.size
  have bl14 := bl13.trans b_14
  have Oa14 : w14.ownsRow w.heap.size 3 1 v_14 (Dc.keysI x.kids (m + 1)).length (Dc.ints (Dc.keysI x.kids (m + 1))) := Dc.own_keys O_14
  have Fa14 := Eng.Reads.of_own Oa14
  refine Eng.tail_val rfl rfl rfl (Eng.run_assign rfl h18_14) s14 rfl fun act15 d15 s15 hv hr => ?_
  have h0_15 := (hr 0 rfl).trans h0_14
  have h1_15 := (hr 1 rfl).trans h1_14
  have h3_15 := (hr 3 rfl).trans h3_14
  have h2_15 : act15.eval (.tmp 2) = v_14 := hv
  have d15 := d15.trans d14
  clear hv hr
  refine Eng.tail_nil ?_
  refine Eng.regionS (Eng.still [fun u_ => u_ = .int .i64 ((2 * m : Nat) : Int), fun u_ => u_ = .int .i64 (IntKind.i64.wrap (((2 * m : Nat) : Int) + 2)), fun u_ => u_ = .int .i64 (IntKind.i64.wrap (((2 * m : Nat) : Int) + 2))]) (fun _ => .plain) 3 0 20 s15 rfl (by kernel_rfl) (Eng.still_stable _) (Or.inr (Eng.still_any _)) ?_ ?_
  ·refine .c ?_ (.c ?_ (.c ?_ (.nil)))
   ·exact Eng.pv fun a w' H => Eng.vr rfl (Eng.run_move rfl (H.q 3 h3_15))
   ·refine Eng.pv fun a w' H => ?_
    refine Eng.vr (v := .int .i64 (IntKind.i64.wrap (((2 * m : Nat) : Int) + 2))) rfl ?_
    have e0 : a.eval (.tmp 9) = .int .i64 ((2 * m : Nat) : Int) := (H.d 0 9)
    have e1 : a.eval (.const (.int .i64 2)) = .int .i64 2 := rfl
    simp only [execOp, resolve, e0, e1]
    go_simp
   ·exact Eng.pv fun a w' H => Eng.vr rfl (Eng.run_assign rfl (H.d 1 10))
  intro act16 w16 T
  have h0_16 := T.r 0 h0_15
  have h1_16 := T.r 1 h1_15
  have h2_16 := T.r 2 h2_15
  have kg1_1_16 := (T.below.block _ lg1_1_14).trans kg1_1_14
  have lg1_1_16 := Nat.lt_of_lt_of_le lg1_1_14 T.below.size
  have Oa14_16 := Eng.own_below Oa14 T.below
  have h3_16 : act16.eval (.tmp 3) = .int .i64 (IntKind.i64.wrap (((2 * m : Nat) : Int) + 2)) := T.done 2 3 rfl rfl
  have d16 := T.defers.trans d15
  have s16 := T.size.trans s15
  have bl16 := bl14.trans (T.below.mono bl14.size)
  clear T
  refine Eng.tail_nil ?_
  exact ⟨_, by omega, m + 1, v_14, rfl, by omega, Oa14_16, d16, s16, bl16, h0_16, h1_16, (h2_16.trans (by first | rfl | (congr 1; rw [Eng.i64_id (by omega) (by omega)]; omega) | (simp; done))), (h3_16.trans (by first | rfl | (congr 1; rw [Eng.i64_id (by omega) (by omega)]; omega) | (simp; done))), kg1_1_16, lg1_1_16⟩
 ·
  have c8 := Bq8.symm.trans hq
  clear hq
  have c8 := of_decide_eq_false c8
  have hme : x.kids.length ≤ 2 * m := by omega
  refine wp_exit ?_
  refine wp_seq ?_
  refine Eng.regionS (Eng.still [fun u_ => u_ = o, fun u_ => u_ = o]) (fun _ => .plain) 2 0 20 s5 rfl (by kernel_rfl) (Eng.still_stable _) (Or.inr (Eng.still_any _)) ?_ ?_
  ·refine .c ?_ (.c ?_ (.nil))
   ·exact Eng.pv fun a w' H => Eng.vr rfl (Eng.run_move rfl (H.q 2 h2_5))
   ·exact Eng.pv fun a w' H => Eng.vr rfl (Eng.run_assign rfl (H.d 0 19))
  intro act18 w18 T
  have Oout_18 := Eng.own_below Oout_5 T.below
  have h2_18 : act18.eval (.tmp 2) = o := T.done 1 2 rfl rfl
  have d18 := T.defers.trans d5
  have bl18 := bl5.trans (T.below.mono bl5.size)
  clear T
  refine Eng.tail_nil ?_
  refine wp_ret ?_
  repeat (first | refine Eng.in_ret ?_ | refine Eng.then_ret ?_)
  have fin := Oout_18
  rw [Dc.keys_end _ _ hme hm1] at fin
  exact Eng.ret1 rfl d18 h2_18 ⟨_, rfl, fin, bl18⟩
end Go.Proofs.YtgnmjaacnmkgnaaDoor.X
end
section
namespace Go.Proofs.YtgnmjaacnmkgnaaDoor.X
open Go.RowKit Go.Shelf Go.Proofs Go.Proofs.YtgnmjaacnmkgnaaDoorW.PrintWords Go.Proofs.YtgnmjaacnmkgnaaDoorW.PrintLast Go.Proofs.YtgnmjaacnmkgnaaDoorW.PrintMore
set_option linter.unusedVariables false
set_option linter.unusedSimpArgs false
attribute [local go_sem] max2_int min2_int max_two min_two
set_option maxHeartbeats 4000000 in
set_option maxRecDepth 100000 in
theorem Dc.has_calls (gv : Value) (n : Nat) (xs : List Value) (i : Int) (w : World) (hl : Eng.Reads w gv n 4 xs) : Calls Tryd.prog 73 #[gv, .int .i64 i] w fun e w' => e = .returned (.bool (decide (i ≥ 0) && decide (i < (n : Int)))) ∧ Below w.heap.size w w' := by
 refine Eng.enter Tryd.func73 rfl fun act0 d0 s0 v0 => ?_
 have s0 : act0.tmps.size = 13 := s0
 have h0_0 : act0.eval (.tmp 0) = gv := v0 0 (by simp)
 have h1_0 : act0.eval (.tmp 1) = .int .i64 i := v0 1 (by simp)
 clear v0
 have bl0 : Below w.heap.size w w := Below.refl _ _
 refine wp_seq ?_
 refine Eng.regionS (Eng.still [fun u_ => u_ = .bool false]) (fun _ => .plain) 1 0 13 s0 rfl (by kernel_rfl) (Eng.still_stable _) (Or.inr (Eng.still_any _)) ?_ ?_
 ·refine .c ?_ (.nil)
  ·exact Eng.pv fun a w' H => Eng.vr rfl (Eng.run_assign rfl (rfl : a.eval (.const (.bool false)) = .bool false))
 intro act1 w1 T
 have h0_1 := T.r 0 h0_0
 have h1_1 := T.r 1 h1_0
 have Fgr_1 := Eng.Reads.below hl T.below
 have d1 := T.defers.trans d0
 have s1 := T.size.trans s0
 have bl1 := bl0.trans (T.below.mono bl0.size)
 clear T
 refine Eng.tail_nil ?_
 refine wp_seq ?_
 obtain ⟨q6, Bq6⟩ : ∃ b : Bool, b = (decide (i ≥ 0)) := ⟨_, rfl⟩
 obtain ⟨q11, Bq11⟩ : ∃ b : Bool, b = (decide (i < (n : Int))) := ⟨_, rfl⟩
 obtain ⟨q12, Bq12⟩ : ∃ b : Bool, b = (q6 && q11) := ⟨_, rfl⟩
 refine Eng.regionS (Eng.still [fun u_ => u_ = .int .i64 i, fun u_ => u_ = .bool q6, fun u_ => u_ = .bool q6, fun u_ => u_ = bif (q6 == true) then (.int .i64 i) else undef, fun u_ => u_ = bif (q6 == true) then (gv) else undef, fun u_ => u_ = bif (q6 == true) then (.int .i64 (n : Int)) else undef, fun u_ => u_ = bif (q6 == true) then (.bool q11) else undef, fun u_ => u_ = .bool q12, fun u_ => u_ = .bool q12]) (fun _ => .plain) 9 0 13 s1 rfl (by kernel_rfl) (Eng.still_stable _) (Or.inr (Eng.still_any _)) ?_ ?_
 ·refine .c ?_ (.c ?_ (.c ?_ (.c ?_ (.c ?_ (.c ?_ (.c ?_ (.c ?_ (.c ?_ (.nil)))))))))
  ·exact Eng.pv fun a w' H => Eng.vr rfl (Eng.run_move rfl (H.q 1 h1_1))
  ·refine Eng.pv fun a w' H => ?_
   refine Eng.vr (v := .bool (decide (i ≥ 0))) (by show _ = Value.bool q6; rw [Bq6]) ?_
   have e0 : a.eval (.tmp 5) = .int .i64 i := (H.d 0 5)
   have e1 : a.eval (.const (.int .i64 0)) = .int .i64 0 := rfl
   simp only [execOp, resolve, e0, e1]
   go_simp
  ·exact Eng.pv fun a w' H => Eng.vr rfl (Eng.run_move rfl (H.d 1 6))
  ·refine Eng.guarded1 (j := 2) (d := 7) (b := q6) rfl rfl (by kernel_rfl) rfl (fun v w h => h) (fun hG w => Eng.off hG) fun hG a w' H => ?_
   exact Eng.val (w1 := w') (v := .int .i64 i) (Eng.run_move rfl (H.q 1 h1_1)) (Below.refl _ _) (Eng.off' hG rfl)
  ·refine Eng.guarded1 (j := 2) (d := 7) (b := q6) rfl rfl (by kernel_rfl) rfl (fun v w h => h) (fun hG w => Eng.off hG) fun hG a w' H => ?_
   exact Eng.val (w1 := w') (v := gv) (Eng.run_move rfl (H.q 0 h0_1)) (Below.refl _ _) (Eng.off' hG rfl)
  ·refine Eng.guarded1 (j := 2) (d := 7) (b := q6) rfl rfl (by kernel_rfl) rfl (fun v w h => h) (fun hG w => Eng.off hG) fun hG a w' H => ?_
   refine Eng.vr (v := .int .i64 (n : Int)) (Eng.off' hG rfl) ?_
   exact Eng.run_len_sl rfl Tryd.underlying48 (show a.eval (.tmp 9) = gv from (Eng.on (H.d 4 9) hG)) (Eng.Reads.below Fgr_1 H.below)
  ·refine Eng.guarded1 (j := 2) (d := 7) (b := q6) rfl rfl (by kernel_rfl) rfl (fun v w h => h) (fun hG w => Eng.off hG) fun hG a w' H => ?_
   refine Eng.vr (v := .bool (decide (i < (n : Int)))) (Eng.off' hG (by rw [Bq11])) ?_
   have e0 : a.eval (.tmp 8) = .int .i64 i := (Eng.on (H.d 3 8) hG)
   have e1 : a.eval (.tmp 10) = .int .i64 (n : Int) := (Eng.on (H.d 5 10) hG)
   simp only [execOp, resolve, e0, e1]
   go_simp
  ·exact Eng.pv fun a w' H => Eng.vr (v := .bool (q6 && q11)) (by show _ = Value.bool q12; rw [Bq12]) (Eng.run_and rfl rfl (G := true) (H.d 2 7) (fun hb => (Eng.on (H.d 6 11) (Eng.mk1 hb))))
  ·exact Eng.pv fun a w' H => Eng.vr rfl (Eng.run_assign rfl (H.d 7 12))
 intro act2 w2 T
 have h4_2 : act2.eval (.tmp 4) = .bool q12 := T.done 8 4 rfl rfl
 have d2 := T.defers.trans d1
 have bl2 := bl1.trans (T.below.mono bl1.size)
 clear T
 refine Eng.tail_nil ?_
 refine wp_ret ?_
 repeat (first | refine Eng.in_ret ?_ | refine Eng.then_ret ?_)
 exact Eng.ret1 rfl d2 (h4_2.trans (by rw [Bq12, Bq11, Bq6])) ⟨rfl, bl2⟩
end Go.Proofs.YtgnmjaacnmkgnaaDoor.X
end
