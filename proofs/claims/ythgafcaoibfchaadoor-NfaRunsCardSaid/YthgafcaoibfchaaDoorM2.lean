/- Words and walks that the row of NfaRuns needs: printed by programs, and plain laws. -/
import Derived.Test.YthgafcaoibfchaaDoorM1
import Derived.OrdersIn
import Derived.RangeFuncIn
import Derived.RangeFuncCalls
import Derived.Maps.AppendAt
import Derived.Deep.Upon
import Derived.Great.BuildSlice
import Derived.RangeFuncNested
import Derived.RangeFuncSeq
import Derived.RangeFuncBound
import Derived.RangeFuncLeaves
import Derived.RangeFuncKeeps
import Derived.Laws.ResultCell
import Derived.Laws.Tables
import Derived.Test.YthgafcaoibfchaaDoorProg
import Derived.Test.YthgafcaoibfchaaDoorM0
namespace Go.Proofs.YthgafcaoibfchaaDoorW.PrintWords
end Go.Proofs.YthgafcaoibfchaaDoorW.PrintWords
namespace Go.Proofs.YthgafcaoibfchaaDoorW.PrintLast
end Go.Proofs.YthgafcaoibfchaaDoorW.PrintLast
namespace Go.Proofs.YthgafcaoibfchaaDoorW.PrintMore
end Go.Proofs.YthgafcaoibfchaaDoorW.PrintMore
section
namespace Go.Proofs.EngI
open Go Go.RowKit Go.Proofs.Eng
set_option linter.unusedSimpArgs false
set_option linter.unusedVariables false
variable {Fc : Fence} {nn : Nat} {P : Program} {ops : Array Oper} {Q : Exit → Act → World → Prop}
structure Free (Fc : Fence) : Prop where
  fn : ∀ f, Fc.fn f
  depth : Fc.depth = none
  calls : ∀ {P : Program} {n : Nat} {f : FuncId} {args : Array Value} {w : World} {R : Ending → World → Prop}, Calls P f args w R → CallsIn Fc n P f args w R
  rows : ∀ {P : Program} {n : Nat} {r : String} {args : Array Value} {w : World} {R : Value → World → Prop}, Rows P r args w R → RowsIn Fc n P r args w R
theorem free_wide : Free Fence.wide := ⟨fun _ => trivial, rfl, fun h => callsIn_wide.2 h, fun h c cs _ => let ⟨v, w', r, s⟩ := h c cs; ⟨v, w', r, stepsIn_wide.2 s⟩⟩
theorem Free.inRound (h : Free Fc) (l : Nat) : Free (Fc.inRound l) := ⟨h.fn, h.depth, fun hc => CallsIn.inRound l (h.calls hc), fun hr => h.rows hr⟩
def Stores (Fc : Fence) (P : Program) (ops : Array Oper) (D : Nat → Value → World → Prop) (k : Nat → Kind) (a0 : Act) (w0 : World) (i : Nat) (o : Oper) (j : Nat) (cs : Array Value) : Prop :=
  o.dst = none ∧ o.guard = none ∧ ∃ d T c0, bound o j = true ∧ dstOf ops j = some d ∧ k j = .alloc T c0 ∧ (∀ i' cs', k i' = .store j cs' → i' = i) ∧ c0.size = cs.size ∧
  ∀ (a : Act) (w : World) (g : Nat), a.tmps.getD d undef = .pointer (some ⟨g, 0, none⟩) → w.heap[g]? = some (.cells c0 T (0, 0)) →
    (∀ j' d', bound o j' = true → dstOf ops j' = some d' → D j' (a.tmps.getD d' undef) w) →
    (∀ t, old ops i t = true → a.eval (.tmp t) = a0.eval (.tmp t)) →
    ∃ w', (o.semAt Fc.round a.eval).run P w = .ok .skip w' ∧ w'.heap[g]? = some (.cells cs T (0, 0)) ∧ (∀ b, b ≠ g → w'.heap[b]? = w.heap[b]?) ∧ w'.heap.size = w.heap.size ∧ w'.os = w.os ∧ w'.tape = w.tape ∧ w'.output = w.output
def Allocs (Fc : Fence) (P : Program) (ops : Array Oper) (D : Nat → Value → World → Prop) (a0 : Act) (w0 : World) (i : Nat) (o : Oper) (T : TypeId) (cs : Array Value) : Prop :=
  o.dst ≠ none ∧ o.guard = none ∧ ∀ (a : Act) (w : World), (∀ j' d', bound o j' = true → dstOf ops j' = some d' → D j' (a.tmps.getD d' undef) w) → (∀ t, old ops i t = true → a.eval (.tmp t) = a0.eval (.tmp t)) →
    (o.semAt Fc.round a.eval).run P w = .ok (.value (.pointer (some ⟨w.heap.size, 0, none⟩))) (w.alloc (.cells cs T (0, 0))) ∧ D i (.pointer (some ⟨w.heap.size, 0, none⟩)) (w.alloc (.cells cs T (0, 0)))
def Step (Fc : Fence) (nn : Nat) (P : Program) (ops : Array Oper) (Q : Exit → Act → World → Prop) (D : Nat → Value → World → Prop) (a0 : Act) (w0 : World) (i : Nat) (o : Oper) : Prop :=
  ∀ (a : Act) (w : World), Below w0.heap.size w0 w →
    (∀ j d, bound o j = true → dstOf ops j = some d → D j (a.tmps.getD d undef) w ∧ yielded ops a.tmps j = (match a.tmps.getD d undef with | .bool b => some b | _ => none)) →
    (∀ t, old ops i t = true → a.eval (.tmp t) = a0.eval (.tmp t)) →
    (if Region.wanted o (yielded ops a.tmps) then o.wpIn Fc nn P a w (fun a' w' => ∃ v, a' = a.put o.dst v ∧ (o.dst ≠ none → D i v w') ∧ Below w.heap.size w w') Q
     else (o.dst ≠ none → D i undef w))
def Eats (Fc : Fence) (nn : Nat) (P : Program) (ops : Array Oper) (Q : Exit → Act → World → Prop) (D : Nat → Value → World → Prop) (k : Nat → Kind) (a0 : Act) (w0 : World) (i : Nat) (o : Oper) : Prop :=
  o.guard = none ∧ (∀ j T c, k j ≠ .alloc T c) ∧ ∀ (a : Act) (w : World), Below w0.heap.size w0 w →
    (∀ j d, bound o j = true → dstOf ops j = some d → D j (a.tmps.getD d undef) w) →
    (∀ t, old ops i t = true → a.eval (.tmp t) = a0.eval (.tmp t)) →
    o.wpIn Fc nn P a w (fun a' w' => ∃ v, a' = a.put o.dst v ∧ (o.dst ≠ none → D i v w') ∧ Below w0.heap.size w w' ∧ ∀ j d, j ≠ i → dstOf ops j = some d → D j (a.tmps.getD d undef) w → D j (a.tmps.getD d undef) w') Q
def Duty (Fc : Fence) (nn : Nat) (P : Program) (ops : Array Oper) (Q : Exit → Act → World → Prop) (D : Nat → Value → World → Prop) (k : Nat → Kind) (a0 : Act) (w0 : World) (i : Nat) (o : Oper) : Prop :=
  match k i with
  | .plain => Step Fc nn P ops Q D a0 w0 i o
  | .alloc T cs => Allocs Fc P ops D a0 w0 i o T cs
  | .store j cs => Stores Fc P ops D k a0 w0 i o j cs
  | .eats => Eats Fc nn P ops Q D k a0 w0 i o
def Steps (Fc : Fence) (nn : Nat) (P : Program) (ops : Array Oper) (Q : Exit → Act → World → Prop) (D : Nat → Value → World → Prop) (k : Nat → Kind) (a0 : Act) (w0 : World) (m : Nat) : Nat → List Oper → Prop
  | _, [] => True
  | i, o :: os => (i < m → Duty Fc nn P ops Q D k a0 w0 i o) ∧ Steps Fc nn P ops Q D k a0 w0 m (i + 1) os
theorem Steps.get {D : Nat → Value → World → Prop} {k : Nat → Kind} {a0 : Act} {w0 : World} {m : Nat} : ∀ {l : List Oper} {i : Nat}, Steps Fc nn P ops Q D k a0 w0 m i l → ∀ n o, l[n]? = some o → i + n < m → Duty Fc nn P ops Q D k a0 w0 (i + n) o
  | [], _, _, _, _, h, _ => by simp at h
  | o :: os, i, h, 0, o', he, hm => by simp at he; subst he; exact h.1 hm
  | o :: os, i, h, n + 1, o', he, hm => by
    have e : i + 1 + n = i + (n + 1) := by omega
    have := Steps.get h.2 n o' (by simpa using he) (by omega)
    rw [e] at this; exact this
section main
variable {D : Nat → Value → World → Prop} {a0 : Act} {w0 : World} {m : Nat}
theorem step_inv (hF : Free Fc) {k : Nat → Kind} (hs : Eng.shape ops m a0.tmps.size = true) (stable : ∀ i v w w', D i v w → Below w.heap.size w w' → D i v w') (hst2 : (∀ i j cs, k i ≠ .store j cs) ∨ ∀ i v w w', D i v w → D i v w')
    (hS : Steps Fc nn P ops Q D k a0 w0 m 0 ops.toList) {L : Array Bool} (hL : lits L ops) (hlow : ∀ k, m ≤ k → L.getD k false = false) {a : Act} {w : World} (I : Inv ops D k a0 w0 L a w)
    {i : Nat} (hi : i < m) (him : i < ops.size) (hnot : L.getD i false = false) (hr : ∀ o, ops[i]? = some o → ∀ j, bound o j = true → L.getD j false = true)
    {K : Act → World → Prop} (hK : ∀ a' w', Inv ops D k a0 w0 (L.setIfInBounds i true) a' w' → K a' w') : wpOpIn Fc nn P ops Q i K a w := by
  obtain ⟨o, ho⟩ : ∃ o, ops[i]? = some o := ⟨ops[i], Array.getElem?_eq_getElem him⟩
  have hst := hS.get i o (by simpa using ho) (by omega)
  rw [Nat.zero_add] at hst
  have hdo : dstOf ops i = o.dst := by unfold dstOf; rw [ho]; rfl
  have hd3 := (shape_edge hs ho).2.2
  have hjm : ∀ j, L.getD j false = true → j < m := fun j hj => by
    rcases Nat.lt_or_ge j m with h | h
    · exact h
    · rw [hlow j h] at hj; cases hj
  have hjs : ∀ j, L.getD j false = true → j < ops.size := fun j hj => by
    rcases Nat.lt_or_ge j L.size with h | h
    · rw [← hL.1]; exact h
    · rw [Array.getD_eq_getD_getElem?, Array.getElem?_eq_none h] at hj; cases hj
  have hdeps : ∀ j d, bound o j = true → dstOf ops j = some d → D j (a.tmps.getD d undef) w ∧ yielded ops a.tmps j = (match a.tmps.getD d undef with | .bool b => some b | _ => none) := fun j d hb hd => ⟨I.done j d (hr o ho j hb) hd, yielded_eq hd (by
      rw [I.size]
      have hj := bound_lt hs ho hb
      obtain ⟨oj, hoj⟩ : ∃ oj, ops[j]? = some oj := ⟨ops[j]'(by omega), Array.getElem?_eq_getElem _⟩
      refine (shape_edge hs hoj).2.2 d ?_
      unfold dstOf at hd; rw [hoj] at hd; exact hd)⟩
  have holds : ∀ t, old ops i t = true → a.eval (.tmp t) = a0.eval (.tmp t) := fun t ht => by
    show a.tmps.getD t undef = a0.tmps.getD t undef
    refine I.rest t fun j hj hjd => ?_
    unfold old at ht
    rw [all_range] at ht
    have := ht j (hjs j hj)
    obtain ⟨oj, hoj⟩ : ∃ oj, ops[j]? = some oj := ⟨ops[j]'(hjs j hj), Array.getElem?_eq_getElem _⟩
    unfold dstOf at hjd
    rw [hoj] at hjd this
    simp only [Option.bind_some] at hjd
    simp only [hjd, bne_self_eq_false, Bool.false_or, Bool.or_eq_true, beq_iff_eq] at this
    rcases this with h | h
    · subst h; rw [hj] at hnot; cases hnot
    · have := hL.2 j oj hoj hj i h
      rw [this] at hnot; cases hnot
  have hiL : i < L.size := by rw [hL.1]; exact him
  have hdsz : ∀ d, o.dst = some d → d < a.tmps.size := fun d hd => by rw [I.size]; exact hd3 d hd
  have hset : ∀ j, (L.setIfInBounds i true).getD j false = true → j ≠ i → L.getD j false = true := fun j hj hne => by rw [getD_set hiL, if_neg hne] at hj; exact hj
  have hkeep : ∀ j, L.getD j false = true → (L.setIfInBounds i true).getD j false = true := fun j hj => by
    rw [getD_set hiL]; split
    · rfl
    · exact hj
  have hslot : ∀ v j d, L.getD j false = true → dstOf ops j = some d → (a.put o.dst v).tmps.getD d undef = a.tmps.getD d undef := fun v j d hj hd => by
    rw [put_getD _ _ _ _ hdsz, if_neg]
    intro he
    have := shape_dst hs (hjm j hj) hi hd (hdo.trans he)
    subst this; rw [hj] at hnot; cases hnot
  have hdef : ∀ v, (a.put o.dst v).defers = a0.defers := fun v => by rw [← I.defers]; cases o.dst <;> rfl
  have hsz : ∀ v, (a.put o.dst v).tmps.size = a0.tmps.size := fun v => by rw [← I.size]; cases o.dst <;> simp [Act.put]
  have hrest : ∀ v t, (∀ j, (L.setIfInBounds i true).getD j false = true → dstOf ops j ≠ some t) → (a.put o.dst v).tmps.getD t undef = a0.tmps.getD t undef := fun v t ht => by
    rw [put_getD _ _ _ _ hdsz, if_neg (fun he => ht i (by rw [getD_set hiL, if_pos rfl]) (hdo.trans he))]
    exact I.rest t fun j hj => ht j (hkeep j hj)
  have plain : (∀ T c, k i ≠ .alloc T c) → (∀ j c, k i ≠ .store j c) → ∀ v w', (o.dst ≠ none → D i v w') → Below w.heap.size w w' → Inv ops D k a0 w0 (L.setIfInBounds i true) (a.put o.dst v) w' := by
    intro hka hks v w' hD hB
    refine ⟨I.below.trans (hB.mono (by have := I.below.size; omega)), hdef v, hsz v, ?_, hrest v, ?_, ?_⟩
    · intro j d hj hjd
      by_cases hji : j = i
      · subst hji
        rw [put_getD _ _ _ _ hdsz, if_pos (hdo ▸ hjd)]
        exact hD (by rw [← hdo, hjd]; simp)
      · rw [hslot v j d (hset j hj hji) hjd]
        exact stable j _ _ _ (I.done j d (hset j hj hji) hjd) hB
    · intro j d T c0 hj hk hjd
      have hji : j ≠ i := fun e => by subst e; exact hka _ _ hk
      obtain ⟨g, h1, h2, h3, cs, h4, h5, h6⟩ := I.al j d T c0 (hset j hj hji) hk hjd
      refine ⟨g, by rw [hslot v j d (hset j hj hji) hjd]; exact h1, h2, by have := hB.size; omega, cs, by rw [hB.block g h3]; exact h4, fun i' new hk' hi' => ?_, fun hno => h6 fun i' new hk' => ?_⟩
      · exact h5 i' new hk' (hset i' hi' (fun e => by subst e; exact hks _ _ hk'))
      · have := hno i' new hk'
        cases hv : L.getD i' false with
        | false => rfl
        | true => rw [hkeep i' hv] at this; cases this
    · intro j j' d d' T c T' c' g hj hj' hk hk' hd hd' e e'
      have hji : j ≠ i := fun e => by subst e; exact hka _ _ hk
      have hji' : j' ≠ i := fun e => by subst e; exact hka _ _ hk'
      rw [hslot v j d (hset j hj hji) hd] at e
      rw [hslot v j' d' (hset j' hj' hji') hd'] at e'
      exact I.dist j j' d d' T c T' c' g (hset j hj hji) (hset j' hj' hji') hk hk' hd hd' e e'
  unfold wpOpIn
  rw [ho]
  simp only
  unfold Duty at hst
  split at hst
  · rename_i hk
    have h1 := hst a w I.below hdeps holds
    have plain := plain (fun T c h => by rw [hk] at h; cases h) (fun j c h => by rw [hk] at h; cases h)
    split
    · rename_i hw
      rw [if_pos hw] at h1
      exact (Oper.wpIn_mono (fun a' w' ⟨v, hv, hD, hB⟩ => by subst hv; exact hK _ _ (plain v w' hD hB)) h1)
    · rename_i hw
      rw [if_neg hw] at h1
      exact ⟨fun f _ => hF.fn f, hK _ _ (plain undef w h1 (Below.refl _ _))⟩
  ·
    rename_i T cs hk
    obtain ⟨hdn, hg, h1⟩ := hst
    obtain ⟨hrun, hD⟩ := h1 a w (fun j d hb hd => (hdeps j d hb hd).1) holds
    have hw : Region.wanted o (yielded ops a.tmps) = true := by unfold Region.wanted; rw [hg]
    rw [if_pos hw]
    unfold Oper.wpIn
    refine ⟨fun f _ => hF.fn f, ?_⟩
    rw [hrun]
    have hB : Below w.heap.size w (w.alloc (.cells cs T (0, 0))) := (Below.refl _ _).alloc (Nat.le_refl _) _
    have hszw : (w.alloc (.cells cs T (0, 0))).heap.size = w.heap.size + 1 := by simp
    have hnew : (w.alloc (.cells cs T (0, 0))).heap[w.heap.size]? = some (.cells cs T (0, 0)) := by show (w.heap.push _)[w.heap.size]? = _; simp
    refine hK _ _ ⟨I.below.trans (hB.mono (by have := I.below.size; omega)), hdef _, hsz _, ?_, hrest _, ?_, ?_⟩
    · intro j d hj hjd
      by_cases hji : j = i
      · subst hji
        rw [put_getD _ _ _ _ hdsz, if_pos (hdo ▸ hjd)]
        exact hD
      · rw [hslot _ j d (hset j hj hji) hjd]
        exact stable j _ _ _ (I.done j d (hset j hj hji) hjd) hB
    · intro j d T' c0 hj hk' hjd
      by_cases hji : j = i
      · subst hji
        rw [hk] at hk'
        injection hk' with e1 e2
        subst e1; subst e2
        refine ⟨w.heap.size, by rw [put_getD _ _ _ _ hdsz, if_pos (hdo ▸ hjd)], I.below.size, by omega, cs, hnew, fun i' new hki hi' => ?_, fun _ => rfl⟩
        exfalso
        have hne : i' ≠ j := fun e => by subst e; rw [hk] at hki; cases hki
        have hl := hset i' hi' hne
        obtain ⟨o', ho'⟩ : ∃ o', ops[i']? = some o' := ⟨ops[i']'(hjs i' hl), Array.getElem?_eq_getElem _⟩
        have hst' := hS.get i' o' (by simpa using ho') (by have := hjm i' hl; omega)
        rw [Nat.zero_add] at hst'
        unfold Duty at hst'
        rw [hki] at hst'
        obtain ⟨_, _, _, _, _, hb, _⟩ := hst'
        have := hL.2 i' o' ho' hl j hb
        rw [this] at hnot; cases hnot
      · obtain ⟨g, h1, h2, h3, cs', h4, h5, h6⟩ := I.al j d T' c0 (hset j hj hji) hk' hjd
        refine ⟨g, by rw [hslot _ j d (hset j hj hji) hjd]; exact h1, h2, by omega, cs', by rw [hB.block g h3]; exact h4, fun i' new hki hi' => ?_, fun hno => h6 fun i' new hki => ?_⟩
        · exact h5 i' new hki (hset i' hi' (fun e => by subst e; rw [hk] at hki; cases hki))
        · have := hno i' new hki
          cases hv : L.getD i' false with
          | false => rfl
          | true => rw [hkeep i' hv] at this; cases this
    · intro j j' d d' T1 c1 T2 c2 g hj hj' hk1 hk2 hd hd' e e'
      have far : ∀ j d T c, (L.setIfInBounds i true).getD j false = true → j ≠ i → k j = .alloc T c → dstOf ops j = some d → (a.put o.dst (.pointer (some ⟨w.heap.size, 0, none⟩))).tmps.getD d undef = .pointer (some ⟨g, 0, none⟩) → g < w.heap.size := by
        intro j d T c hj hji hkj hd e
        rw [hslot _ j d (hset j hj hji) hd] at e
        obtain ⟨g', h1, h2, h3, _⟩ := I.al j d T c (hset j hj hji) hkj hd
        rw [h1] at e
        injection e with e; injection e with e; injection e with e
        omega
      have me : ∀ d, dstOf ops i = some d → (a.put o.dst (.pointer (some ⟨w.heap.size, 0, none⟩))).tmps.getD d undef = .pointer (some ⟨g, 0, none⟩) → g = w.heap.size := by
        intro d hd e
        rw [put_getD _ _ _ _ hdsz, if_pos (hdo ▸ hd)] at e
        injection e with e; injection e with e; injection e with e
        exact e.symm
      by_cases hji : j = i
      · by_cases hji' : j' = i
        · rw [hji, hji']
        · subst hji
          have h1 := far j' d' T2 c2 hj' hji' hk2 hd' e'
          have h2 := me d hd e
          omega
      · by_cases hji' : j' = i
        · subst hji'
          have h1 := far j d T1 c1 hj hji hk1 hd e
          have h2 := me d' hd' e'
          omega
        · rw [hslot _ j d (hset j hj hji) hd] at e
          rw [hslot _ j' d' (hset j' hj' hji') hd'] at e'
          exact I.dist j j' d d' T1 c1 T2 c2 g (hset j hj hji) (hset j' hj' hji') hk1 hk2 hd hd' e e'
  ·
    rename_i j cs hk
    obtain ⟨hdn, hg, dj, T, c0, hbj, hdj, hkj, huniq, hcsz, h1⟩ := hst
    have hLj := hr o ho j hbj
    obtain ⟨g, e1, e2, e3, cs0, e4, e5, e6⟩ := I.al j dj T c0 hLj hkj hdj
    have hcs : cs0 = c0 := e6 fun i' new hki => by rw [huniq i' new hki]; exact hnot
    subst hcs
    obtain ⟨w', hrun, hn, hoth, hsize, hos, htape, hout⟩ := h1 a w g e1 e4 (fun j d hb hd => (hdeps j d hb hd).1) holds
    have hw : Region.wanted o (yielded ops a.tmps) = true := by unfold Region.wanted; rw [hg]
    rw [if_pos hw]
    unfold Oper.wpIn
    refine ⟨fun f _ => hF.fn f, ?_⟩
    rw [hrun]
    show K (a.put o.dst undef) w'
    have hput : ∀ j d, L.getD j false = true → dstOf ops j = some d → (a.put o.dst undef).tmps.getD d undef = a.tmps.getD d undef := hslot undef
    have hB : Below w0.heap.size w w' := ⟨hos, htape, hout, by omega, fun b hb => hoth b (by omega)⟩
    have hDw : ∀ i v w w', D i v w → D i v w' := by
      rcases hst2 with h | h
      · exact absurd hk (h i j cs)
      · exact h
    have hii : ∀ j T c, k j = .alloc T c → j ≠ i := fun j T c h e => by subst e; rw [hk] at h; cases h
    refine hK _ _ ⟨I.below.trans hB, hdef _, hsz _, ?_, hrest _, ?_, ?_⟩
    · intro j' d hj' hjd
      by_cases hji : j' = i
      · subst hji; rw [hdo, hdn] at hjd; cases hjd
      · rw [hput j' d (hset j' hj' hji) hjd]
        exact hDw j' _ _ _ (I.done j' d (hset j' hj' hji) hjd)
    · intro j' d T' c' hj' hk' hjd
      have hji := hii j' T' c' hk'
      obtain ⟨g', h1, h2, h3, cs', h4, h5, h6⟩ := I.al j' d T' c' (hset j' hj' hji) hk' hjd
      by_cases hjj : j' = j
      · subst hjj
        rw [hkj] at hk'
        injection hk' with x1 x2
        subst x1; subst x2
        have hgg : g' = g := by
          rw [hdj] at hjd
          injection hjd with hjd
          subst hjd
          rw [e1] at h1
          injection h1 with h1; injection h1 with h1; injection h1 with h1
          exact h1.symm
        subst hgg
        refine ⟨g', by rw [hput _ _ (hset _ hj' hji) hjd]; exact h1, h2, by omega, cs, hn, fun i' new hki _ => ?_, fun hno => ?_⟩
        · have := huniq i' new hki
          subst this
          rw [hk] at hki
          injection hki
        · have := hno i cs hk
          rw [getD_set hiL, if_pos rfl] at this; cases this
      · have hgg : g' ≠ g := fun e => by
          subst e
          exact hjj (I.dist j' j d dj T' c' T cs0 g' (hset j' hj' hji) hLj hk' hkj hjd hdj h1 e1)
        refine ⟨g', by rw [hput j' d (hset j' hj' hji) hjd]; exact h1, h2, by omega, cs', by rw [hoth g' hgg]; exact h4, fun i' new hki hi' => ?_, fun hno => h6 fun i' new hki => ?_⟩
        · exact h5 i' new hki (hset i' hi' (fun e => by subst e; rw [hk] at hki; injection hki with x; exact hjj x.symm))
        · have := hno i' new hki
          cases hv : L.getD i' false with
          | false => rfl
          | true => rw [hkeep i' hv] at this; cases this
    · intro j1 j2 d1 d2 T1 c1 T2 c2 g1 hj1 hj2 hk1 hk2 hd1 hd2 x1 x2
      have n1 := hii j1 _ _ hk1
      have n2 := hii j2 _ _ hk2
      rw [hput j1 d1 (hset j1 hj1 n1) hd1] at x1
      rw [hput j2 d2 (hset j2 hj2 n2) hd2] at x2
      exact I.dist j1 j2 d1 d2 T1 c1 T2 c2 g1 (hset j1 hj1 n1) (hset j2 hj2 n2) hk1 hk2 hd1 hd2 x1 x2
  ·
    rename_i hk
    obtain ⟨hg, hno, h1⟩ := hst
    have hw : Region.wanted o (yielded ops a.tmps) = true := by unfold Region.wanted; rw [hg]
    rw [if_pos hw]
    refine (Oper.wpIn_mono ?_ (h1 a w I.below (fun j d hb hd => (hdeps j d hb hd).1) holds))
    rintro a' w' ⟨v, rfl, hD, hB, hkeepD⟩
    refine hK _ _ ⟨I.below.trans hB, hdef v, hsz v, ?_, hrest v, ?_, ?_⟩
    · intro j d hj hjd
      by_cases hji : j = i
      · subst hji
        rw [put_getD _ _ _ _ hdsz, if_pos (hdo ▸ hjd)]
        exact hD (by rw [← hdo, hjd]; simp)
      · rw [hslot v j d (hset j hj hji) hjd]
        exact hkeepD j d hji hjd (I.done j d (hset j hj hji) hjd)
    · intro j d T c0 _ hkj _
      exact absurd hkj (hno j T c0)
    · intro j j' d d' T c T' c' g _ _ hkj
      exact absurd hkj (hno j T c)
theorem wp_tail (hs : Eng.shape ops m a0.tmps.size = true) : ∀ (fuel k : Nat) (L : Array Bool) (a : Act) (w : World), m ≤ k → k + fuel = ops.size → upto ops k L →
    wpOpsIn Fc nn P ops Q (List.range' k fuel) a w → wpAnyIn Fc nn P .any ops Q fuel L a w := by
  intro fuel
  induction fuel with
  | zero =>
    intro k L a w hm hk hL h
    refine ⟨?_, h⟩
    rw [List.eq_nil_iff_forall_not_mem]
    intro i hi
    have := (Eng.mem_ready hL.1).1 hi
    rw [hL.2] at this
    simp at this; omega
  | succ fuel ih =>
    intro k L a w hm hk hL h
    have only : ∀ i, i ∈ Region.ready .any ops L → i = k := by
      intro i hi
      obtain ⟨h1, h2, h3⟩ := (Eng.mem_ready hL.1).1 hi
      rw [hL.2] at h2
      have hik : k ≤ i := by simp at h2; omega
      rcases Nat.lt_or_ge k i with hlt | hge
      · obtain ⟨o, ho⟩ : ∃ o, ops[i]? = some o := ⟨ops[i], Array.getElem?_eq_getElem h1⟩
        have := anc_ready (L := L) (fun i o ho hi j hj => by
          have := bound_lt hs ho hj
          rw [hL.2] at hi ⊢; simp at hi ⊢; omega) ((shape_edge hs ho).2.1 (by omega) k hlt) h3
        rw [hL.2] at this; simp at this
      · omega
    constructor
    · intro hnil
      exfalso
      have : k ∈ Region.ready .any ops L := by
        rw [Eng.mem_ready hL.1]
        refine ⟨by omega, by rw [hL.2]; simp, ?_⟩
        intro o ho j hj
        have := bound_lt hs ho hj
        rw [hL.2]; simp; omega
      rw [hnil] at this; cases this
    · intro i hi
      obtain rfl := only i hi
      rw [List.range'_succ, wpOpsIn_cons] at h
      refine wpOpIn_mono (fun a' w' h' => ih (i + 1) _ a' w' (by omega) (by omega) ⟨by simp [hL.1], ?_⟩ h') h
      intro j
      rw [getD_set (by rw [hL.1]; omega), hL.2]
      split
      · rename_i hj; subst hj; simp; omega
      · rename_i hj
        rw [decide_eq_decide]; omega
theorem wp_free (hF : Free Fc) {k : Nat → Kind} (hs : Eng.shape ops m a0.tmps.size = true) (hm : m ≤ ops.size) (stable : ∀ i v w w', D i v w → Below w.heap.size w w' → D i v w') (hst2 : (∀ i j cs, k i ≠ .store j cs) ∨ ∀ i v w w', D i v w → D i v w')
    (hS : Steps Fc nn P ops Q D k a0 w0 m 0 ops.toList)
    (hE : ∀ a w, Below w0.heap.size w0 w → a.defers = a0.defers → a.tmps.size = a0.tmps.size → (∀ j d, j < m → dstOf ops j = some d → D j (a.tmps.getD d undef) w) →
      (∀ t, (∀ j, j < m → dstOf ops j ≠ some t) → a.tmps.getD t undef = a0.tmps.getD t undef) → Made ops k m w0 a w → wpOpsIn Fc nn P ops Q (List.range' m (ops.size - m)) a w) :
    ∀ (fuel : Nat) (L : Array Bool) (a : Act) (w : World), fuel = cnt L m + (ops.size - m) → L.size = ops.size → lits L ops → (∀ k, m ≤ k → L.getD k false = false) → Inv ops D k a0 w0 L a w → wpAnyIn Fc nn P .any ops Q fuel L a w := by
  have fin : ∀ (L : Array Bool) (a : Act) (w : World), cnt L m = 0 → L.size = ops.size → (∀ k, m ≤ k → L.getD k false = false) → Inv ops D k a0 w0 L a w → wpAnyIn Fc nn P .any ops Q (ops.size - m) L a w := by
    intro L a w hc hsz hlow I
    have hall := cnt_zero hc
    refine wp_tail hs (ops.size - m) m L a w (Nat.le_refl _) (by omega) ⟨hsz, ?_⟩ ?_
    · intro j
      rcases Nat.lt_or_ge j m with h | h
      · rw [hall j h]; simp; omega
      · rw [hlow j h]; simp; omega
    · refine hE a w I.below I.defers I.size (fun j d hj hd => I.done j d (hall j hj) hd) (fun t ht => I.rest t fun j hj => ht j ?_) (made_of I (fun j hj => hall j hj) hlow)
      rcases Nat.lt_or_ge j m with h | h
      · exact h
      · rw [hlow j h] at hj; cases hj
  intro fuel
  induction fuel with
  | zero =>
    intro L a w hf hsz hl hlow I
    have := fin L a w (by omega) hsz hlow I
    rw [show ops.size - m = 0 by omega] at this
    exact this
  | succ fuel ih =>
    intro L a w hf hsz hl hlow I
    by_cases hc : cnt L m = 0
    · have := fin L a w hc hsz hlow I
      rw [show ops.size - m = fuel + 1 by omega] at this
      exact this
    · constructor
      · intro hnil
        exfalso
        have hex : ∃ i, i < m ∧ L.getD i false = false := by
          apply Classical.byContradiction
          intro hno
          refine hc ?_
          unfold cnt
          rw [List.length_eq_zero_iff, List.filter_eq_nil_iff]
          intro k hk
          rw [List.mem_range] at hk
          cases hv : L.getD k false with
          | true => simp
          | false => exact absurd ⟨k, hk, hv⟩ hno
        have hmin : ∀ n i, i < n → i < m → L.getD i false = false → ∃ i, i < m ∧ L.getD i false = false ∧ ∀ j, j < i → L.getD j false = true := by
          intro n
          induction n with
          | zero => intro i h; omega
          | succ n ihn =>
            intro i hin him hf
            by_cases hall : ∀ j, j < i → L.getD j false = true
            · exact ⟨i, him, hf, hall⟩
            · have : ∃ j, j < i ∧ L.getD j false = false := by
                apply Classical.byContradiction
                intro hno
                refine hall fun j hj => ?_
                cases hv : L.getD j false with
                | true => rfl
                | false => exact absurd ⟨j, hj, hv⟩ hno
              obtain ⟨j, hj, hjf⟩ := this
              exact ihn j (by omega) (by omega) hjf
        obtain ⟨i0, hi0, hf0⟩ := hex
        obtain ⟨i, him, hif, hlt⟩ := hmin (i0 + 1) i0 (by omega) hi0 hf0
        have : i ∈ Region.ready .any ops L := by
          rw [Eng.mem_ready hsz]
          refine ⟨by omega, hif, ?_⟩
          intro o ho j hj
          exact hlt j (bound_lt hs ho hj)
        rw [hnil] at this; cases this
      · intro i hi
        obtain ⟨h1, h2, h3⟩ := (Eng.mem_ready hsz).1 hi
        have him : i < m := by
          rcases Nat.lt_or_ge i m with h | h
          · exact h
          · exfalso
            obtain ⟨o, ho⟩ : ∃ o, ops[i]? = some o := ⟨ops[i], Array.getElem?_eq_getElem h1⟩
            refine hc ?_
            unfold cnt
            rw [List.length_eq_zero_iff, List.filter_eq_nil_iff]
            intro k hk
            rw [List.mem_range] at hk
            have := anc_ready hl.2 ((shape_edge hs ho).2.1 h k (by omega)) h3
            simp [this]
        refine step_inv hF hs stable hst2 hS hl hlow I him h1 h2 h3 fun a' w' I' => ih _ a' w' ?_ (by simp [hsz]) ?_ ?_ I'
        · have := cnt_set (L := L) (by omega) h2 m him
          omega
        · refine ⟨by simp [hl.1], fun k o ho hk j hj => ?_⟩
          rw [getD_set (by omega)] at hk ⊢
          split
          · rfl
          · split at hk
            · rename_i hki; subst hki; exact h3 o ho j hj
            · exact hl.2 k o ho hk j hj
        · intro k hk
          rw [getD_set (by omega), if_neg (by omega)]
          exact hlow k hk
end main
theorem region (hF : Free Fc) {id : Nat} {a : Act} {w : World} (m : Nat) (D : Nat → Value → World → Prop) (k : Nat → Kind) (hm : P.follows .mixedOrders = true) (hs : Eng.shape ops m a.tmps.size = true) (hle : decide (m ≤ ops.size) = true)
    (stable : ∀ i v w w', D i v w → Below w.heap.size w w' → D i v w') (hst2 : (∀ i j cs, k i ≠ .store j cs) ∨ ∀ i v w w', D i v w → D i v w')
    (hS : Steps Fc nn P ops Q D k a w m 0 ops.toList)
    (hE : ∀ a' w', Below w.heap.size w w' → a'.defers = a.defers → a'.tmps.size = a.tmps.size → (∀ j d, j < m → dstOf ops j = some d → D j (a'.tmps.getD d undef) w') →
      (∀ t, (∀ j, j < m → dstOf ops j ≠ some t) → a'.tmps.getD t undef = a.tmps.getD t undef) → Made ops k m w a' w' → wpOpsIn Fc nn P ops Q (List.range' m (ops.size - m)) a' w') :
    (Code.region id ops true).wpIn Fc nn P Q a w := by
  refine wpIn_region_any hm ?_
  have hb : Below w.heap.size w { w with drawn := w.drawn + 1 } := ⟨rfl, rfl, rfl, Nat.le_refl _, fun _ _ => rfl⟩
  have hle := of_decide_eq_true hle
  refine wp_free (k := k) hF hs hle stable hst2 hS hE ops.size _ a _ ?_ (by simp) ⟨by simp, fun i o _ h => ?_⟩ (fun k _ => ?_) ⟨hb, rfl, rfl, fun j d h => ?_, fun t _ => rfl, fun j d T c h => ?_, fun j j' d d' T c T' c' g h => ?_⟩
  · have : cnt (Array.replicate ops.size false) m = m := by
      unfold cnt
      have : ∀ k ∈ List.range m, (!(Array.replicate ops.size false).getD k false) = true := by
        intro k _
        simp [Array.getD_eq_getD_getElem?, Array.getElem?_replicate]
        split <;> rfl
      rw [List.filter_eq_self.2 this, List.length_range]
    omega
  all_goals
    first
    | (simp [Array.getD_eq_getD_getElem?, Array.getElem?_replicate] at h; split at h <;> simp at h)
    | (simp [Array.getD_eq_getD_getElem?, Array.getElem?_replicate]; split <;> rfl)
section seqs
variable {D : Nat → Value → World → Prop} {a0 : Act} {w0 : World} {m : Nat}
theorem seq_free (hF : Free Fc) {k : Nat → Kind} (hs : Eng.shape ops m a0.tmps.size = true) (hm : m ≤ ops.size) (stable : ∀ i v w w', D i v w → Below w.heap.size w w' → D i v w') (hst2 : (∀ i j cs, k i ≠ .store j cs) ∨ ∀ i v w w', D i v w → D i v w')
    (hS : Steps Fc nn P ops Q D k a0 w0 m 0 ops.toList)
    (hE : ∀ a w, Below w0.heap.size w0 w → a.defers = a0.defers → a.tmps.size = a0.tmps.size → (∀ j d, j < m → dstOf ops j = some d → D j (a.tmps.getD d undef) w) →
      (∀ t, (∀ j, j < m → dstOf ops j ≠ some t) → a.tmps.getD t undef = a0.tmps.getD t undef) → Made ops k m w0 a w → wpOpsIn Fc nn P ops Q (List.range' m (ops.size - m)) a w) :
    ∀ (fuel k' : Nat) (L : Array Bool) (a : Act) (w : World), k' + fuel = m → upto ops k' L → Inv ops D k a0 w0 L a w → wpOpsIn Fc nn P ops Q (List.range' k' (ops.size - k')) a w := by
  intro fuel
  induction fuel with
  | zero =>
    intro k' L a w hk hL I
    obtain rfl : k' = m := by omega
    refine hE a w I.below I.defers I.size (fun j d hj hd => I.done j d (by rw [hL.2]; simp; omega) hd) (fun t ht => I.rest t fun j hj => ht j ?_) (made_of I (fun j hj => by rw [hL.2]; simp; omega) (fun j hj => by rw [hL.2]; simp; omega))
    rw [hL.2] at hj; simp at hj; omega
  | succ fuel ih =>
    intro k' L a w hk hL I
    have hk' : k' < ops.size := by omega
    rw [show ops.size - k' = (ops.size - (k' + 1)) + 1 by omega, List.range'_succ, wpOpsIn_cons]
    refine step_inv hF hs stable hst2 hS ⟨hL.1, fun i o ho hi j hj => ?_⟩ (fun j hj => by rw [hL.2]; simp; omega) I (by omega) hk' (by rw [hL.2]; simp) (fun o ho j hj => ?_) fun a' w' I' => ih (k' + 1) _ a' w' (by omega) ⟨by simp [hL.1], fun j => ?_⟩ I'
    · have h1 := bound_lt hs ho hj
      rw [hL.2] at hi ⊢; simp at hi ⊢; omega
    · have h1 := bound_lt hs ho hj
      rw [hL.2]; simp; omega
    · rw [getD_set (by rw [hL.1]; exact hk'), hL.2]
      split
      · rename_i hj; subst hj; simp; omega
      · rw [decide_eq_decide]; omega
end seqs
theorem region_seq (hF : Free Fc) {id : Nat} {a : Act} {w : World} (m : Nat) (D : Nat → Value → World → Prop) (k : Nat → Kind) (hs : Eng.shape ops m a.tmps.size = true) (hle : decide (m ≤ ops.size) = true)
    (stable : ∀ i v w w', D i v w → Below w.heap.size w w' → D i v w') (hst2 : (∀ i j cs, k i ≠ .store j cs) ∨ ∀ i v w w', D i v w → D i v w')
    (hS : Steps Fc nn P ops Q D k a w m 0 ops.toList)
    (hE : ∀ a' w', Below w.heap.size w w' → a'.defers = a.defers → a'.tmps.size = a.tmps.size → (∀ j d, j < m → dstOf ops j = some d → D j (a'.tmps.getD d undef) w') →
      (∀ t, (∀ j, j < m → dstOf ops j ≠ some t) → a'.tmps.getD t undef = a.tmps.getD t undef) → Made ops k m w a' w' → wpOpsIn Fc nn P ops Q (List.range' m (ops.size - m)) a' w') :
    (Code.region id ops false).wpIn Fc nn P Q a w := by
  refine wpIn_region ?_
  rw [List.range_eq_range']
  have := seq_free (k := k) hF hs (of_decide_eq_true hle) stable hst2 hS hE m 0 (Array.replicate ops.size false) a w (by omega) ⟨by simp, fun j => by simp [Array.getD_eq_getD_getElem?, Array.getElem?_replicate]; split <;> rfl⟩ ⟨Below.refl _ _, rfl, rfl, fun j d h => ?_, fun t _ => rfl, fun j d T c h => ?_, fun j j' d d' T c T' c' g h => ?_⟩
  · exact this
  all_goals (simp [Array.getD_eq_getD_getElem?, Array.getElem?_replicate] at h; split at h <;> simp at h)
end Go.Proofs.EngI
end
section
namespace Go.Proofs.Eng
open Go Go.RowKit
set_option linter.unusedSimpArgs false
set_option linter.unusedVariables false
variable {P : Program}
theorem below_of_grown {w w' : World} {B : Nat} {v : Value} (h : w.grownBy w' v.ownBlock) (hB : B ≤ w.heap.size) (hv : ∀ g, v.ownBlock = some g → B ≤ g) : Below B w w' :=
  ⟨h.os, h.tape, h.output, h.size, fun k hk => h.block k (by omega) fun e => by have := hv k e.symm; omega⟩
theorem own_block {w : World} {B : Nat} {e : TypeId} {v : Value} {n size : Nat} {xs : List Value} (O : w.ownsRow B e size v n xs) : ∀ g, v.ownBlock = some g → B ≤ g := by
  rcases O.2 with ⟨rfl, _⟩ | ⟨g, cap, cur, rfl, hg, _⟩
  · intro g h; simp [Value.ownBlock] at h
  · intro g' h; simp only [Value.ownBlock, Option.some.injEq] at h; omega
theorem own_ne {w : World} {B : Nat} {e T : TypeId} {v : Value} {n size g : Nat} {xs : List Value} {cs : Array Value} (O : w.ownsRow B e size v n xs) (hk : w.heap[g]? = some (.cells cs T (0, 0))) (hne : (e != T) = true) : some g ≠ v.ownBlock := by
  rcases O.2 with ⟨rfl, _⟩ | ⟨g', cap, cur, rfl, hg, hh, _⟩
  · simp [Value.ownBlock]
  · intro h; simp only [Value.ownBlock, Option.some.injEq] at h; subst h
    rw [hk] at hh; injection hh with hh; injection hh with _ hh; simp [hh] at hne
theorem own_append {w : World} {B : Nat} {t ty e : TypeId} {i : TypeInfo} {z : Value} {size : Nat} (ht : P.underlying t = some (.slice e)) (hi : P.info? e = some i) (hz : i.zero = some z) (hsize : i.size = size) (hby : i.bytes ≤ 128) (hzs : z.cells.size = size) (hsz : 0 < size)
    {v : Value} {n : Nat} {xs : List Value} (O : w.ownsRow B e size v n xs) {x : Value} {m : Nat} {news : List Value} (F : Reads w x m size news) (h1 : ∀ u ∈ news, u.oneCell' = true) (h63 : n + m ≤ 1000000000000) (hB : B ≤ w.heap.size) :
    ∃ v' w', (Builtin.append_ #[t, t] ty #[v, x]).run P w = .ok v' w' ∧ w'.ownsRow B e size v' (n + m) (xs ++ news) ∧ w'.ownsRow B e size v n xs ∧ Below B w w' ∧ w.grownBy w' v.ownBlock ∧ (v'.ownBlock = v.ownBlock ∨ v'.ownBlock = some w.heap.size) := by
  have hbm : (n + m) * i.bytes ≤ 140737488355328 := Nat.le_trans (Nat.mul_le_mul h63 hby) (by decide)
  have h63' : n + m ≤ maxLen := by unfold maxLen; omega
  obtain ⟨hl, A, c, rfl, hc, hm, hx⟩ := F
  cases A with
  | none =>
    have hm0 : m = 0 := by
      rcases Nat.eq_zero_or_pos m with h | h
      · exact h
      · have h0 : 0 < news.length := by rw [hl]; exact Nat.mul_pos h hsz
        obtain ⟨ad, e', _⟩ := hx 0 _ (List.getElem?_eq_getElem h0)
        cases e'
    subst hm0
    have hn : news = [] := List.eq_nil_of_length_eq_zero (by simpa using hl)
    subst hn
    have hs : Src P i.size t (.slice none 0 c) 0 [] w := Src.ofNil w ht c
    refine ⟨v, w, ?_, by simpa using O, O, Below.refl _ _, ⟨rfl, rfl, rfl, Nat.le_refl _, fun _ _ _ => rfl⟩, .inl rfl⟩
    rcases O.2 with ⟨rfl, rfl⟩ | ⟨g, cap, cur, rfl, hg, hh, hn, _⟩
    · exact run_append_nothing w t t ty e i ht hi none 0 0 (Nat.le_refl _) _ hs
    · exact run_append_nothing w t t ty e i ht hi _ n cap hn _ hs
  | some a =>
    have hx' : ∀ j u, news[j]? = some u → w.cell? (a.add j) = some u := fun j u h => by
      obtain ⟨ad, e', hcell⟩ := hx j u h
      injection e' with e'; subst e'; exact hcell
    obtain ⟨v', w', hr, h2, h3, h4, h5⟩ := run_append_own_at (P := P) w B t ty e i z size i.bytes ht hi hz hsize rfl hzs hsz v n xs O a m c news hl hx' h1 h63' hbm hB
    refine ⟨v', w', hr, h2, ?_, below_of_grown h3 hB (own_block O), h3, h5⟩
    subst hsize
    rcases O.2 with ⟨rfl, rfl⟩ | ⟨g, cap, cur, rfl, hbg, hg, hnc, hcm, hcs, htake⟩
    · have : xs = [] := List.eq_nil_of_length_eq_zero (by simpa using O.1)
      subst this; exact World.ownsRow_nil w' B e i.size
    · by_cases hroom : n + m ≤ cap
      · have hfit : n * i.size + news.length ≤ cur.size := by rw [hl, hcs, ← Nat.add_mul]; exact Nat.mul_le_mul_right _ hroom
        have hr' := run_append_room (P := P) w t ty e i ht hi g n cap cur hg a m c news hl hx' h1 hroom hfit
        rw [hr'] at hr
        injection hr with _ hw
        subst hw
        refine ⟨O.1, .inr ⟨g, cap, _, rfl, hbg, setRow_heap w g cur _ e _ hg, hnc, hcm, ?_, ?_⟩⟩
        · simp only [List.size_toArray, List.length_append, List.length_take, List.length_drop, Array.length_toList]
          omega
        · simp only [List.append_assoc]
          rw [List.take_append_of_le_length (by rw [List.length_take, Array.length_toList]; omega), List.take_take, Nat.min_self]
          exact htake
      · have holds : ∀ j u, xs[j]? = some u → w.cell? ((⟨g, 0, none⟩ : Addr).add j) = some u := O.cells (g := g) rfl
        have hr' := run_append_grow (P := P) w t ty e i z ht hi hz ⟨g, 0, none⟩ n cap xs O.1 holds a m c news hl hx' (by omega) (by omega) (growslice_fits (by omega) hbm)
        rw [hr'] at hr
        injection hr with _ hw
        subst hw
        refine ⟨O.1, .inr ⟨g, cap, cur, rfl, hbg, ?_, hnc, hcm, hcs, htake⟩⟩
        exact (heap_alloc_old w.drew _ (by simpa using (Array.getElem?_eq_some_iff.1 hg).1)).trans hg
theorem Reads.len_le {w : World} {v : Value} {n size : Nat} {xs : List Value} (F : Reads w v n size xs) : n ≤ 9223372036854775807 := by
  obtain ⟨_, A, c, _, h, hm, _⟩ := F
  unfold maxLen at hm; omega
inductive Tl where
  | still (p : Value → Prop)
  | own (B : Nat) (e : TypeId) (size n : Nat) (xs : List Value)
  | lasts (p : Value → World → Prop) (h : ∀ v w w', p v w → Below w.heap.size w w' → p v w')
def Tl.holds : Tl → Value → World → Prop
  | .still p, v, _ => p v
  | .own B e size n xs, v, w => w.ownsRow B e size v n xs
  | .lasts p _, v, w => p v w
def Tl.isStill : Tl → Bool
  | .still _ => true
  | _ => false
def tell (L : List Tl) (i : Nat) (v : Value) (w : World) : Prop := (L.getD i (.still fun _ => True)).holds v w
theorem tell_stable (L : List Tl) : ∀ i v w w', tell L i v w → Below w.heap.size w w' → tell L i v w' := by
  intro i v w w' h hb
  unfold tell at h ⊢
  cases hq : L.getD i (.still fun _ => True) with
  | still p => rw [hq] at h; exact h
  | own B e size n xs => rw [hq] at h; exact own_below h hb
  | lasts p hp => rw [hq] at h; exact hp _ _ _ h hb
theorem no_stores {ks : List Kind} (h : (ks.all fun x => match x with | .store _ _ => false | _ => true) = true) : ∀ i j cs, ks.getD i .plain ≠ .store j cs := by
  intro i j cs hn
  rcases Nat.lt_or_ge i ks.length with hl | hl
  · rw [List.getD_eq_getElem?_getD, List.getElem?_eq_getElem hl] at hn
    simp only [Option.getD_some] at hn
    have := List.all_eq_true.1 h _ (List.getElem_mem hl)
    rw [hn] at this
    simp at this
  · rw [List.getD_eq_getElem?_getD, List.getElem?_eq_none hl] at hn; cases hn
section duties
variable {ops : Array Oper} {Q : Exit → Act → World → Prop} {D : Nat → Value → World → Prop} {k : Nat → Kind} {a0 : Act} {w0 : World} {m i : Nat} {o : Oper}
theorem own_mono {w : World} {B B' : Nat} {e : TypeId} {v : Value} {n size : Nat} {xs : List Value} (O : w.ownsRow B e size v n xs) (h : B' ≤ B) : w.ownsRow B' e size v n xs := by
  refine ⟨O.1, ?_⟩
  rcases O.2 with h2 | ⟨g, cap, cur, e1, hg, r⟩
  · exact .inl h2
  · exact .inr ⟨g, cap, cur, e1, by omega, r⟩
theorem val_own {a : Act} {w w1 : World} {v : Value} (hrun : (execOp a.eval o).run P w = .ok (.value v) w1) (hB : Below w.heap.size w w1) (h : D i v w1) : o.wp P a w (fun a' w' => ∃ v, a' = a.put o.dst v ∧ (o.dst ≠ none → D i v w') ∧ Below w.heap.size w w') Q := by
  unfold Oper.wp
  rw [hrun]
  exact ⟨v, rfl, fun _ => h, hB⟩
theorem val_ex {a : Act} {w : World} {R : Value → World → Prop} (hrun : ∃ v w1, (execOp a.eval o).run P w = .ok (.value v) w1 ∧ R v w1) (h : ∀ v w1, R v w1 → Below w.heap.size w w1 ∧ D i v w1) : o.wp P a w (fun a' w' => ∃ v, a' = a.put o.dst v ∧ (o.dst ≠ none → D i v w') ∧ Below w.heap.size w w') Q := by
  obtain ⟨v, w1, hr, hR⟩ := hrun
  exact val_own hr (h v w1 hR).1 (h v w1 hR).2
theorem eats {L : List Tl} {B : Nat} {T : TypeId} {size n n' e d : Nat} {xs xs' : List Value} (hk : k i = .eats) (hg : o.guard = none) (hno : ∀ j T c, k j ≠ .alloc T c) (hb : bound o e = true) (hd : dstOf ops e = some d)
    (he : L.getD e (.still fun _ => True) = .own B T size n xs) (hi : L.getD i (.still fun _ => True) = .own B T size n' xs') (hL : ((List.range L.length).all fun j => j == e || j == i || (L.getD j (.still fun _ => True)).isStill) = true)
    (h : ∀ (a : Act) (w : World), At ops (tell L) a0 w0 i o a w → w.ownsRow B T size (a.eval (.tmp d)) n xs → ∃ v w', (execOp a.eval o).run P w = .ok (.value v) w' ∧ Below w0.heap.size w w' ∧ w'.ownsRow B T size v n' xs' ∧ w'.ownsRow B T size (a.eval (.tmp d)) n xs) : Duty P ops Q (tell L) k a0 w0 i o := by
  unfold Duty; rw [hk]
  refine ⟨hg, hno, fun a w hB hdep ho => ?_⟩
  have h0 : w.ownsRow B T size (a.eval (.tmp d)) n xs := by
    have := hdep e d hb hd
    unfold tell at this; rw [he] at this; exact this
  obtain ⟨v, w', hr, h1, h2, h3⟩ := h a w ⟨hB, fun j d hb hd => hdep j d hb hd, ho⟩ h0
  unfold Oper.wp
  rw [hr]
  refine ⟨v, rfl, fun _ => ?_, h1, fun j d' hj hjd hD => ?_⟩
  · unfold tell; rw [hi]; exact h2
  · by_cases hje : j = e
    · subst hje
      rw [hd] at hjd; injection hjd with hjd; subst hjd
      unfold tell; rw [he]; exact h3
    · unfold tell at hD ⊢
      rcases Nat.lt_or_ge j L.length with hl | hl
      · have := all_range.1 hL j hl
        simp only [Bool.or_eq_true, beq_iff_eq, hje, hj, false_or] at this
        cases hq : L.getD j (.still fun _ => True) with
        | still p => rw [hq] at hD; exact hD
        | own B e size n xs => rw [hq] at this; cases this
        | lasts p hp => rw [hq] at this; cases this
      · have hq : L.getD j (.still fun _ => True) = .still fun _ => True := by rw [List.getD_eq_getElem?_getD, List.getElem?_eq_none hl]; rfl
        rw [hq]; trivial
end duties
section runs
variable {o : Oper} {a : Act} {w : World}
theorem run_append {B : Nat} {t e : TypeId} {i : TypeInfo} {z : Value} {size : Nat} {s x : Operand} (hop : o.op = .call { callee := .builtin .append, args := #[s, x], argTypes := #[t, t] })
    (ht : P.underlying t = some (.slice e)) (hi : P.info? e = some i) (hz : i.zero = some z) (hsize : i.size = size) (hby : i.bytes ≤ 128) (hzs : z.cells.size = size) (hsz : 0 < size)
    {v xv : Value} {n : Nat} {xs : List Value} (hs : a.eval s = v) (O : w.ownsRow B e size v n xs) (hx : a.eval x = xv) {m : Nat} {news : List Value} (F : Reads w xv m size news) (h1 : ∀ u ∈ news, u.oneCell' = true) (h63 : n + m ≤ 1000000000000) (hB : B ≤ w.heap.size) :
    ∃ v' w', (execOp a.eval o).run P w = .ok (.value v') w' ∧ w'.ownsRow B e size v' (n + m) (xs ++ news) ∧ w'.ownsRow B e size v n xs ∧ Below B w w' ∧ w.grownBy w' v.ownBlock ∧ (v'.ownBlock = v.ownBlock ∨ v'.ownBlock = some w.heap.size) := by
  obtain ⟨v', w', hr, h⟩ := own_append (P := P) (ty := o.type) ht hi hz hsize hby hzs hsz O F h1 h63 hB
  refine ⟨v', w', ?_, h⟩
  unfold execOp
  simp only [hop, resolve, invoke, builtin, Sem.run_bind, Sem.run_pure, Result.andThen_ok, List.map_toArray, List.map_cons, List.map_nil, hs, hx, hr]
theorem run_build1 {T e : TypeId} {i : TypeInfo} {z : Value} {x : Operand} {u : Value} {size : Nat} (us : List Value) (hop : o.op = .buildSlice T 1 #[(0, x)]) (hu : P.underlying T = some (.slice e)) (hi : P.info? e = some i) (hz : i.zero = some z) (hsize : i.size = size) (hs : (decide (0 < size)) = true) (hs' : (decide (size < 1000)) = true)
    (hl : us.length = size) (hf : Instr.fill (fun i => some (i * size, size)) ((Array.range (1 * size)).map (z.cells[· % z.cells.size]!)) [(0, u)] = some us.toArray) (h : a.eval x = u) :
    ∃ v w', (execOp a.eval o).run P w = .ok (.value v) w' ∧ Reads w' v 1 size us ∧ Below w.heap.size w w' := by
  have hs := of_decide_eq_true hs
  have hs' := of_decide_eq_true hs'
  subst hsize
  have hr := run_buildSlice (P := P) w T e 1 #[(0, u)] us.toArray i z hu hi hz (by omega) (by omega) hf
  refine ⟨_, _, ?_, ⟨by omega, some ⟨w.heap.size, 0, none⟩, 1, rfl, Nat.le_refl _, by unfold maxLen; omega, fun j u hj => ⟨_, rfl, ?_⟩⟩, (Below.refl _ _).alloc (Nat.le_refl _) (.cells us.toArray e)⟩
  · unfold execOp
    simp only [hop, List.map_toArray, List.map_cons, List.map_nil, h, Sem.run_bind, hr, Result.andThen_ok]
    rfl
  · have hadd : (⟨w.heap.size, 0, none⟩ : Addr).add j = ⟨w.heap.size, j, none⟩ := by unfold Addr.add; split <;> simp_all
    rw [hadd]
    unfold World.cell?
    have : (w.alloc (.cells us.toArray e)).heap[w.heap.size]? = some (.cells us.toArray e) := by show (w.heap.push _)[w.heap.size]? = _; simp
    rw [this]
    simpa using hj
theorem info_of {e : TypeId} {size : Nat} {z : Value} (hI : (P.info? e).map (fun i => (i.size, decide (i.bytes ≤ 128), i.zero)) = some (size, true, some z)) : ∃ i, P.info? e = some i ∧ i.size = size ∧ i.bytes ≤ 128 ∧ i.zero = some z := by
  cases hq : P.info? e with
  | none => simp [hq] at hI
  | some i =>
    simp [hq] at hI
    exact ⟨i, rfl, hI.1, hI.2.1, hI.2.2⟩
theorem run_appendI {B : Nat} {t e : TypeId} {z : Value} {size : Nat} {s x : Operand} (hop : o.op = .call { callee := .builtin .append, args := #[s, x], argTypes := #[t, t] })
    (ht : P.underlying t = some (.slice e)) (hI : (P.info? e).map (fun i => (i.size, decide (i.bytes ≤ 128), i.zero)) = some (size, true, some z)) (hzs : z.cells.size = size) (hsz : (decide (0 < size)) = true)
    {v xv : Value} {n : Nat} {xs : List Value} (hs : a.eval s = v) (O : w.ownsRow B e size v n xs) (hx : a.eval x = xv) {m : Nat} {news : List Value} (F : Reads w xv m size news) (h1 : ∀ u ∈ news, u.oneCell' = true) (h63 : n + m ≤ 1000000000000) (hB : B ≤ w.heap.size) :
    ∃ v' w', (execOp a.eval o).run P w = .ok (.value v') w' ∧ w'.ownsRow B e size v' (n + m) (xs ++ news) ∧ w'.ownsRow B e size v n xs ∧ Below B w w' ∧ w.grownBy w' v.ownBlock ∧ (v'.ownBlock = v.ownBlock ∨ v'.ownBlock = some w.heap.size) := by
  obtain ⟨i, h1', h2, h3, h4⟩ := info_of hI
  exact run_append hop ht h1' h4 h2 h3 hzs (of_decide_eq_true hsz) hs O hx F h1 h63 hB
theorem run_build1I {T e : TypeId} {z : Value} {x : Operand} {u : Value} {size : Nat} (us : List Value) (hop : o.op = .buildSlice T 1 #[(0, x)]) (hu : P.underlying T = some (.slice e)) (hI : (P.info? e).map (fun i => (i.size, decide (i.bytes ≤ 128), i.zero)) = some (size, true, some z)) (hs : (decide (0 < size)) = true) (hs' : (decide (size < 1000)) = true)
    (hl : us.length = size) (hf : Instr.fill (fun i => some (i * size, size)) ((Array.range (1 * size)).map (z.cells[· % z.cells.size]!)) [(0, u)] = some us.toArray) (h : a.eval x = u) :
    ∃ v w', (execOp a.eval o).run P w = .ok (.value v) w' ∧ Reads w' v 1 size us ∧ Below w.heap.size w w' := by
  obtain ⟨i, h1', h2, h3, h4⟩ := info_of hI
  exact run_build1 us hop hu h1' h4 h2 hs hs' hl hf h
theorem tail_ex {c d n i : Nat} {o : Oper} {Q : Exit → Act → World → Prop} {ops : Array Oper} {R : Value → World → Prop} {os : List Oper} (ho' : ops.toList.drop i = o :: os) (hg : o.guard = none) (hd : o.dst = some d) (hrun : ∃ v w1, (execOp a.eval o).run P w = .ok (.value v) w1 ∧ R v w1) (hn : a.tmps.size = n) (hlt : decide (d < n) = true)
    (h : ∀ (v : Value) (w1 : World) (a' : Act), R v w1 → a'.defers = a.defers → a'.tmps.size = n → a'.eval (.tmp d) = v → (∀ t, (t != d) = true → a'.eval (.tmp t) = a.eval (.tmp t)) → wpOps P ops Q (List.range' (i + 1) c) a' w1) : wpOps P ops Q (List.range' i (c + 1)) a w := by
  obtain ⟨v, w1, hr, hR⟩ := hrun
  exact tail_val ho' hg hd hr hn hlt fun a' => h v w1 a' hR
theorem regionT {id n : Nat} {Q : Exit → Act → World → Prop} {ops : Array Oper} (hn : ops.size = n) (h : wpOps P ops Q (List.range' 0 n) a w) : (Code.region id ops false).wp P Q a w := by
  refine wp_region ?_
  rw [hn, List.range_eq_range']; exact h
end runs
end Go.Proofs.Eng
end
section
namespace Go.Proofs.EngI
open Go Go.RowKit Go.Proofs.Eng
set_option linter.unusedSimpArgs false
set_option linter.unusedVariables false
variable {Fc : Fence} {nn : Nat} {P : Program} {ops : Array Oper} {Q : Exit → Act → World → Prop} {D : Nat → Value → World → Prop} {k : Nat → Kind} {a0 : Act} {w0 : World} {m i : Nat} {o : Oper}
def calm (o : Oper) : Bool := match o.op with | .defer _ => false | _ => true
theorem calm_ne (h : calm o = true) : ∀ c, o.op ≠ .defer c := fun c e => by unfold calm at h; rw [e] at h; cases h
theorem sem_calm (h : calm o = true) (ro : Option Nat) (ρ : Operand → Value) : o.semAt ro ρ = execOp ρ o := Oper.semAt_eq _ _ _ (calm_ne h)
theorem wp_in (hF : Free Fc) (hc : calm o = true) {a : Act} {w : World} {K : Act → World → Prop} (h : o.wp P a w K Q) : o.wpIn Fc nn P a w K Q := by
  unfold Oper.wpIn
  refine ⟨fun f _ => hF.fn f, ?_⟩
  rw [sem_calm hc]
  unfold Oper.wp at h
  have hd : Fc.depth.isSome = true → 1 ≤ nn := fun hh => by rw [hF.depth] at hh; cases hh
  generalize (execOp a.eval o).run P w = r at h ⊢
  unfold Oper.upon at h
  unfold Oper.uponIn
  split at h
  · exact h
  · exact h
  · exact h
  · exact ⟨hd, hF.calls h⟩
  · exact ⟨hd, hF.rows h⟩
  · exact h
  · exact h.elim
theorem duty_in (hF : Free Fc) (hc : calm o = true) (h : Eng.Duty P ops Q D k a0 w0 i o) : EngI.Duty Fc nn P ops Q D k a0 w0 i o := by
  unfold Eng.Duty at h
  unfold EngI.Duty
  split at h <;> rename_i hk <;> rw [hk]
  · intro a w hB hd ho
    have := h a w hB hd ho
    split
    · rename_i hw; rw [if_pos hw] at this; exact wp_in hF hc this
    · rename_i hw; rw [if_neg hw] at this; exact this
  · obtain ⟨h1, h2, h3⟩ := h
    exact ⟨h1, h2, fun a w hd ho => by rw [sem_calm hc]; exact h3 a w hd ho⟩
  · obtain ⟨h1, h2, d, T, c0, b1, b2, b3, b4, b5, h3⟩ := h
    exact ⟨h1, h2, d, T, c0, b1, b2, b3, b4, b5, fun a w g e hg hd ho => by rw [sem_calm hc]; exact h3 a w g e hg hd ho⟩
  · obtain ⟨h1, h2, h3⟩ := h
    exact ⟨h1, h2, fun a w hB hd ho => wp_in hF hc (h3 a w hB hd ho)⟩
theorem steps_in (hF : Free Fc) : ∀ (l : List Oper) (i : Nat), (l.all calm) = true → Eng.Steps P ops Q D k a0 w0 m i l → EngI.Steps Fc nn P ops Q D k a0 w0 m i l
  | [], _, _, _ => trivial
  | o :: os, i, hc, h => by
    rw [List.all_cons, Bool.and_eq_true] at hc
    exact ⟨fun hi => duty_in hF hc.1 (h.1 hi), steps_in hF os (i + 1) hc.2 h.2⟩
section regions
variable {a : Act} {w : World}
theorem regionD (hF : Free Fc) {id : Nat} (D : Nat → Value → World → Prop) (k : Nat → Kind) (m c n : Nat) (hm : P.follows .mixedOrders = true) (hn : a.tmps.size = n) (hc : ops.size = m + c) (hs : Eng.shape ops m n = true)
    (stable : ∀ i v w w', D i v w → Below w.heap.size w w' → D i v w') (hst2 : (∀ i j cs, k i ≠ .store j cs) ∨ ∀ i v w w', D i v w → D i v w') (hcalm : (ops.toList.all calm) = true)
    (hS : Eng.Steps P ops Q D k a w m 0 ops.toList) (hE : ∀ a' w', Eng.Then ops m D k a w a' w' → wpOpsIn Fc nn P ops Q (List.range' m c) a' w') : (Code.region id ops true).wpIn Fc nn P Q a w := by
  subst hn
  refine EngI.region hF m D k hm hs (by simp; omega) stable hst2 (steps_in hF _ _ hcalm hS) fun a' w' h1 h2 h3 h4 h5 h6 => ?_
  rw [hc, Nat.add_sub_cancel_left]
  exact hE a' w' ⟨h1, h2, h3, fun j d hj => h4 j d (of_decide_eq_true hj), fun t ht => h5 t (notdst ht), h6⟩
theorem regionS (hF : Free Fc) {id : Nat} (D : Nat → Value → World → Prop) (k : Nat → Kind) (m c n : Nat) (hn : a.tmps.size = n) (hc : ops.size = m + c) (hs : Eng.shape ops m n = true)
    (stable : ∀ i v w w', D i v w → Below w.heap.size w w' → D i v w') (hst2 : (∀ i j cs, k i ≠ .store j cs) ∨ ∀ i v w w', D i v w → D i v w') (hcalm : (ops.toList.all calm) = true)
    (hS : Eng.Steps P ops Q D k a w m 0 ops.toList) (hE : ∀ a' w', Eng.Then ops m D k a w a' w' → wpOpsIn Fc nn P ops Q (List.range' m c) a' w') : (Code.region id ops false).wpIn Fc nn P Q a w := by
  subst hn
  refine EngI.region_seq hF m D k hs (by simp; omega) stable hst2 (steps_in hF _ _ hcalm hS) fun a' w' h1 h2 h3 h4 h5 h6 => ?_
  rw [hc, Nat.add_sub_cancel_left]
  exact hE a' w' ⟨h1, h2, h3, fun j d hj => h4 j d (of_decide_eq_true hj), fun t ht => h5 t (notdst ht), h6⟩
theorem regionT {id n : Nat} (hn : ops.size = n) (h : wpOpsIn Fc nn P ops Q (List.range' 0 n) a w) : (Code.region id ops false).wpIn Fc nn P Q a w := by
  refine wpIn_region ?_
  rw [hn, List.range_eq_range']; exact h
theorem tail_nil (h : Q .normal a w) : wpOpsIn Fc nn P ops Q (List.range' m 0) a w := h
theorem tail_one (hF : Free Fc) {c : Nat} {os : List Oper} (ho' : ops.toList.drop i = o :: os) (hg : o.guard = none) (hcalm : calm o = true) (h : o.wp P a w (fun a' w' => wpOpsIn Fc nn P ops Q (List.range' (i + 1) c) a' w') Q) : wpOpsIn Fc nn P ops Q (List.range' i (c + 1)) a w := by
  have ho := drop_get ho'
  rw [List.range'_succ, wpOpsIn_cons]
  unfold wpOpIn
  rw [ho]
  simp only
  rw [if_pos (wanted_none hg)]
  exact wp_in hF hcalm h
theorem tail_skip (hF : Free Fc) {c : Nat} {w1 : World} {os : List Oper} (ho' : ops.toList.drop i = o :: os) (hg : o.guard = none) (hcalm : calm o = true) (hd : o.dst = none) (hrun : (execOp a.eval o).run P w = .ok .skip w1) (h : wpOpsIn Fc nn P ops Q (List.range' (i + 1) c) a w1) : wpOpsIn Fc nn P ops Q (List.range' i (c + 1)) a w := by
  refine tail_one hF ho' hg hcalm ?_
  unfold Oper.wp
  rw [hrun]
  show wpOpsIn Fc nn P ops Q _ (a.put o.dst undef) w1
  rw [hd]; exact h
theorem tail_val (hF : Free Fc) {c d n : Nat} {v : Value} {w1 : World} {os : List Oper} (ho' : ops.toList.drop i = o :: os) (hg : o.guard = none) (hcalm : calm o = true) (hd : o.dst = some d) (hrun : (execOp a.eval o).run P w = .ok (.value v) w1) (hn : a.tmps.size = n) (hlt : decide (d < n) = true)
    (h : ∀ a' : Act, a'.defers = a.defers → a'.tmps.size = n → a'.eval (.tmp d) = v → (∀ t, (t != d) = true → a'.eval (.tmp t) = a.eval (.tmp t)) → wpOpsIn Fc nn P ops Q (List.range' (i + 1) c) a' w1) : wpOpsIn Fc nn P ops Q (List.range' i (c + 1)) a w := by
  refine tail_one hF ho' hg hcalm ?_
  unfold Oper.wp
  rw [hrun]
  show wpOpsIn Fc nn P ops Q _ (a.put o.dst v) w1
  rw [hd]
  have hlt := of_decide_eq_true hlt
  have hx : ∀ d', some d = some d' → d' < a.tmps.size := fun d' e => by injection e with e; omega
  refine h _ rfl (by simp [Act.put, hn]) ?_ fun t ht => ?_
  · show (a.put (some d) v).tmps.getD d undef = v
    rw [put_getD _ _ _ _ hx, if_pos rfl]
  · show (a.put (some d) v).tmps.getD t undef = _
    rw [put_getD _ _ _ _ hx, if_neg (fun e => by injection e with e; simp [e] at ht)]
    rfl
theorem tail_ex (hF : Free Fc) {c d n : Nat} {R : Value → World → Prop} {os : List Oper} (ho' : ops.toList.drop i = o :: os) (hg : o.guard = none) (hcalm : calm o = true) (hd : o.dst = some d) (hrun : ∃ v w1, (execOp a.eval o).run P w = .ok (.value v) w1 ∧ R v w1) (hn : a.tmps.size = n) (hlt : decide (d < n) = true)
    (h : ∀ (v : Value) (w1 : World) (a' : Act), R v w1 → a'.defers = a.defers → a'.tmps.size = n → a'.eval (.tmp d) = v → (∀ t, (t != d) = true → a'.eval (.tmp t) = a.eval (.tmp t)) → wpOpsIn Fc nn P ops Q (List.range' (i + 1) c) a' w1) : wpOpsIn Fc nn P ops Q (List.range' i (c + 1)) a w := by
  obtain ⟨v, w1, hr, hR⟩ := hrun
  exact tail_val hF ho' hg hcalm hd hr hn hlt fun a' => h v w1 a' hR
theorem tail_put (hF : Free Fc) {c g n : Nat} {T : TypeId} {cs new : Array Value} (vs : List Value) {os : List Oper} (ho : ops.toList.drop i = o :: os) (hg : o.guard = none) (hcalm : calm o = true) (hd : o.dst = none) (hk : w.heap[g]? = some (.cells cs T (0, 0))) (hnew : (vs.zipIdx n |>.foldl (fun c x => c.setIfInBounds x.2 x.1) cs) = new)
    (hrun : (execOp a.eval o).run P w = .ok .skip (putAll w g n vs)) (h : ∀ w', Sets w w' g (.cells new T (0, 0)) → wpOpsIn Fc nn P ops Q (List.range' (i + 1) c) a w') : wpOpsIn Fc nn P ops Q (List.range' i (c + 1)) a w :=
  tail_skip hF ho hg hcalm hd hrun (h _ (hnew ▸ Sets.of_putAll (n := n) vs hk))
theorem tail_call (hF : Free Fc) {c d n : Nat} {f : FuncId} {fn : Func} {as_ : Array Operand} {ts : Array TypeId} {R : Value → World → Prop} {os : List Oper} (hf : P.funcs[f]? = some fn) (hname : (fn.name == "runtime.NumGoroutine") = false) (hb : fn.body.isNone = false)
    (ho' : ops.toList.drop i = o :: os) (hg : o.guard = none) (hd : o.dst = some d) (hop : o.op = .call { callee := .value (.func f), args := as_, argTypes := ts }) (args : Array Value) (hargs : as_.map a.eval = args) (hn : a.tmps.size = n) (hlt : decide (d < n) = true)
    (hcall : Calls P f args w fun e w' => ∃ v, e = .returned v ∧ R v w')
    (h : ∀ (v : Value) (w1 : World) (a' : Act), R v w1 → a'.defers = a.defers → a'.tmps.size = n → a'.eval (.tmp d) = v → (∀ t, (t != d) = true → a'.eval (.tmp t) = a.eval (.tmp t)) → wpOpsIn Fc nn P ops Q (List.range' (i + 1) c) a' w1) : wpOpsIn Fc nn P ops Q (List.range' i (c + 1)) a w := by
  refine tail_one hF ho' hg (by unfold calm; rw [hop]) ?_
  have he := enters hf hname hb args w
  have hrun : (execOp a.eval o).run P w = .ok (.enter f args) w := by
    unfold execOp
    rw [hop]
    simp only [resolve, Deferred.ofValue, invoke, Act.eval, hargs]
    have h2 : (#[] : Array Value) ++ args ++ (#[] : Array Value) = args := by simp
    show Sem.run P (callFunc f (#[] ++ args ++ #[])) w = _
    rw [h2]
    exact he
  unfold Oper.wp
  rw [hrun]
  refine Calls.mono hcall ?_
  rintro e w' ⟨v, rfl, hR⟩
  show wpOpsIn Fc nn P ops Q _ (a.put o.dst v) w'
  rw [hd]
  have hlt := of_decide_eq_true hlt
  have hx : ∀ d', some d = some d' → d' < a.tmps.size := fun d' e => by injection e with e; omega
  refine h v w' _ hR rfl (by simp [Act.put, hn]) ?_ fun t ht => ?_
  · show (a.put (some d) v).tmps.getD d undef = v
    rw [put_getD _ _ _ _ hx, if_pos rfl]
  · show (a.put (some d) v).tmps.getD t undef = _
    rw [put_getD _ _ _ _ hx, if_neg (fun e => by injection e with e; simp [e] at ht)]
    rfl
end regions
end Go.Proofs.EngI
end
section
namespace Go.Proofs.Eng
open Go Go.RowKit
set_option linter.unusedSimpArgs false
set_option linter.unusedVariables false
variable {P : Program}
structure Kept (B : Nat) (w w' : World) : Prop where
  size : w.heap.size ≤ w'.heap.size
  block : ∀ b, B ≤ b → b < w.heap.size → w'.heap[b]? = w.heap[b]?
theorem Kept.refl (B : Nat) (w : World) : Kept B w w := ⟨Nat.le_refl _, fun _ _ _ => rfl⟩
theorem Kept.trans {B : Nat} {a b c : World} (h : Kept B a b) (k : Kept B b c) : Kept B a c :=
  ⟨Nat.le_trans h.size k.size, fun x h1 h2 => (k.block x h1 (Nat.lt_of_lt_of_le h2 h.size)).trans (h.block x h1 h2)⟩
theorem Kept.below {B : Nat} {w w' : World} (h : Below w.heap.size w w') : Kept B w w' := ⟨h.size, fun b _ hb => h.block b hb⟩
theorem Kept.sets {B g : Nat} {w w' : World} {o : Obj} (h : Sets w w' g o) (hg : g < B) : Kept B w w' := ⟨by have := h.size; omega, fun b h1 _ => h.far b (by omega)⟩
structure Turns (w w' : World) (g : Nat) (o : Obj) : Prop where
  new : w'.heap[g]? = some o
  far : ∀ b, b ≠ g → b < w.heap.size → w'.heap[b]? = w.heap[b]?
  size : w.heap.size ≤ w'.heap.size
  os : w'.os = w.os
  tape : w'.tape = w.tape
  output : w'.output = w.output
theorem Turns.of_sets {w w1 w' : World} {g : Nat} {o : Obj} (hb : Below w.heap.size w w1) (S : Sets w1 w' g o) : Turns w w' g o :=
  ⟨S.new, fun b h1 h2 => (S.far b h1).trans (hb.block b h2), by have := S.size; have := hb.size; omega, S.os.trans hb.os, S.tape.trans hb.tape, S.output.trans hb.output⟩
theorem Turns.of_below {w w' : World} {g : Nat} {o : Obj} (hb : Below w.heap.size w w') (h : w.heap[g]? = some o) : Turns w w' g o :=
  ⟨(hb.block g (Array.getElem?_eq_some_iff.1 h).1).trans h, fun b _ h2 => hb.block b h2, hb.size, hb.os, hb.tape, hb.output⟩
theorem Turns.below {W w w' : World} {g B : Nat} {o : Obj} (h : Turns w w' g o) (hb : Below B W w) (hg : B ≤ g) (hB : B ≤ W.heap.size) : Below B W w' :=
  hb.trans ⟨h.os, h.tape, h.output, h.size, fun k hk => h.far k (by omega) (by have := hb.size; omega)⟩
theorem Turns.kept {w w' : World} {g B : Nat} {o : Obj} (h : Turns w w' g o) (hg : g < B) : Kept B w w' := ⟨h.size, fun b h1 h2 => h.far b (by omega) h2⟩
theorem below_put {B l : Nat} {w : World} {o o' : Obj} (h : w.heap[l]? = some o) (hB : B ≤ l) : Below B w (w.putObj l o') :=
  ⟨rfl, rfl, rfl, by simp [World.putObj], fun k hk => World.putObj_heap_other (by omega)⟩
theorem range_rule {α : Type} {n m : Nat} {g : Operand} {ps : Array Tmp} {assign body : Code} {Q : Exit → Act → World → Prop} {a : Act} {V : World} {gf : Nat} {lb : Array Value} (items : List α) (enc : α → Array Value) (J : List α → World → Prop)
    (hg : a.eval g = .func (.func gf) #[] lb) (eg : ∀ args w, (callFunc gf args).run P w = .ok (.enter gf args) w) (hps : ∀ x, (enc x).size = ps.size) (h0 : J [] V)
    (stab : ∀ pre W W', J pre W → Below V.heap.size W W' → J pre W')
    (hit : ∀ (l : Nat) (K : List α → World → Prop), (∀ pre W W', K pre W → Below W.heap.size W W' → K pre W') → (∀ pre W, K pre W → J pre W) →
      (∀ pre x W, (pre ++ [x]) <+: items → K pre W → YieldAt Fence.wide m P l (enc x) W fun e W' => e = .returned (.bool true) ∧ K (pre ++ [x]) W') →
      ∀ W, K [] W → Calls P gf (#[.func (.yield l) #[] #[]] ++ lb) W fun e W' => (∃ v, e = .returned v) ∧ K items W')
    (hbody : ∀ pre x W l (a1 : Act), (pre ++ [x]) <+: items → J pre W → V.heap.size ≤ W.heap.size → l < W.heap.size → a1.defers = [] → a1.tmps = (ps.zip (enc x)).foldl (fun t (p, v) => t.setIfInBounds p v) a.tmps →
      assign.wpIn (Fence.wide.inRound l) m P (Exit.then (fun a1 w1 => Kept V.heap.size W w1 ∧ J pre w1 ∧ ∀ w2, (∀ b, b ≠ l → w2.heap[b]? = w1.heap[b]?) → w2.heap.size = w1.heap.size → Below V.heap.size w1 w2 → J pre w2 →
        body.wpIn (Fence.wide.inRound l) m P (fun e a2 w3 => e = .normal ∧ J (pre ++ [x]) w3 ∧ Kept V.heap.size w2 w3) a1 w2) (fun _ _ _ => False)) a1 W)
    (hend : ∀ W a', J items W → a'.tmps = a.tmps → a'.defers = { target := .collected V.heap.size, args := #[] } :: a.defers → W.heap[V.heap.size]? = some (.deferred (some [])) → Q .normal a' W) :
    (Code.rangeFunc g ps assign body).wp P Q a V := by
  refine (wpIn_wide (n := n)).1 (wpIn_rangeFunc ?_)
  intro fn hfn
  obtain ⟨r, hr⟩ : ∃ r : Loop, r = { state := .ready, pending := none, fn, tmps := a.tmps, params := ps, assign, body, defers := V.heap.size } := ⟨_, rfl⟩
  obtain ⟨W1, hW1⟩ : ∃ W1, (V.alloc (.deferred (some []))).alloc (.loop r) = W1 := ⟨_, rfl⟩
  have hdep : Fence.wide.depth.isSome = true → 1 ≤ n := fun h => (by cases h)
  let K : List α → World → Prop := fun pre W => J pre W ∧ V.heap.size + 2 ≤ W.heap.size ∧ W.heap[V.heap.size + 1]? = some (.loop r) ∧ W.heap[V.heap.size]? = some (.deferred (some []))
  have hKst : ∀ pre W W', K pre W → Below W.heap.size W W' → K pre W' := fun pre W W' h hb =>
    ⟨stab _ _ _ h.1 (hb.mono (by have := h.2.1; omega)), Nat.le_trans h.2.1 hb.size, (hb.block _ (by have := h.2.1; omega)).trans h.2.2.1, (hb.block _ (by have := h.2.1; omega)).trans h.2.2.2⟩
  have hK0 : K [] W1 := by
    have hs1 : (V.alloc (.deferred (some []))).heap.size = V.heap.size + 1 := by simp
    refine ⟨stab _ _ _ h0 ?_, ?_, ?_, ?_⟩
    · rw [← hW1]; exact ((Below.refl _ V).alloc (Nat.le_refl _) _).alloc (by simp) _
    · rw [← hW1]; simp
    · rw [← hW1]
      show ((V.alloc (.deferred (some []))).heap.push _)[V.heap.size + 1]? = _
      rw [Array.getElem?_push, if_pos hs1.symm]
    · rw [← hW1]
      refine (Below.heap_alloc (V.alloc (.deferred (some []))) _ V.heap.size (by simp)).trans ?_
      show (V.heap.push _)[V.heap.size]? = _
      simp
  refine ⟨V.heap.size + 1, [{ target := .collected V.heap.size, args := #[] }], W1, { target := .fn (.func gf) lb, args := #[.func (.yield (V.heap.size + 1)) #[] #[]] }, W1, gf,
    #[.func (.yield (V.heap.size + 1)) #[] #[]] ++ lb, W1, ?_, ?_, (fun _ _ => trivial), ?_, hdep, ?_⟩
  · rw [← hW1, hr]; exact run_enterLoop_outer _ _ _ _ _
  · simp only [resolve, hg]
    simp [go_sem]
  · simp [invoke, go_sem, eg]
  · refine callsIn_wide.2 ((hit (V.heap.size + 1) K hKst (fun _ _ h => h.1) ?_ W1 hK0).mono ?_)
    · intro pre x W hpre hK
      refine ⟨_, _, _, _, run_yield hK.2.2.1 (by rw [hr]; exact hps x), roundIn_of_wpIn trivial ?_⟩
      have hb := hbody pre x W (V.heap.size + 1) { tmps := (ps.zip (enc x)).foldl (fun t (p, v) => t.setIfInBounds p v) a.tmps, defers := [] } hpre hK.1 (by have := hK.2.1; omega) (by have := hK.2.1; omega) rfl rfl
      have e1 : r.params = ps := by rw [hr]
      have e2 : r.tmps = a.tmps := by rw [hr]
      have e3 : r.assign = assign := by rw [hr]
      have e4 : r.body = body := by rw [hr]
      have e5 : r.state = .ready := by rw [hr]
      have e6 : r.pending = none := by rw [hr]
      rw [e1, e2, e3, e4]
      refine wpIn_mono hb fun e a1 w1 hq => ?_
      cases e with
      | normal =>
        obtain ⟨hk1, hJ1, hgo⟩ := hq
        have hl1 : w1.heap[V.heap.size + 1]? = some (.loop r) := (hk1.block _ (by omega) (by have := hK.2.1; omega)).trans hK.2.2.1
        have hd1 : w1.heap[V.heap.size]? = some (.deferred (some [])) := (hk1.block _ (by omega) (by have := hK.2.1; omega)).trans hK.2.2.2
        refine ⟨_, run_beginRound hl1 e5, ?_⟩
        have hb2 : Below V.heap.size w1 (w1.putObj (V.heap.size + 1) (.loop { r with state := .busy })) := below_put hl1 (by omega)
        have hl1s : V.heap.size + 1 < w1.heap.size := (Array.getElem?_eq_some_iff.1 hl1).1
        have hl2 : (w1.putObj (V.heap.size + 1) (.loop { r with state := .busy })).heap[V.heap.size + 1]? = some (.loop { r with state := .busy }) := World.putObj_heap_same hl1s
        have hd2 : (w1.putObj (V.heap.size + 1) (.loop { r with state := .busy })).heap[V.heap.size]? = some (.deferred (some [])) := (World.putObj_heap_other (by omega)).trans hd1
        have hgo2 := hgo _ (fun b hb => World.putObj_heap_other hb) (by simp [World.putObj]) hb2 (stab _ _ _ hJ1 hb2)
        refine wpIn_mono hgo2 fun e a2 w3 hq3 => ?_
        obtain ⟨rfl, hJ3, hk3⟩ := hq3
        have hs2 := hb2.size
        have hl3 := (hk3.block _ (by omega) (by omega)).trans hl2
        have hd3 := (hk3.block _ (by omega) (by omega)).trans hd2
        have hs3 := hk3.size
        have hback : ({ ({ r with state := .busy } : Loop) with state := if (none : Option Code).isNone = true then .ready else .done, pending := none } : Loop) = r := by cases r; simp_all
        have hend := run_endRound (P := P) none hl3
        rw [hback] at hend
        exact ⟨_, _, hend, rfl, stab _ _ _ hJ3 (below_put hl3 (by omega)), by have := (below_put (B := 0) (o' := .loop r) hl3 (Nat.zero_le _)).size; omega, World.putObj_heap_same (Array.getElem?_eq_some_iff.1 hl3).1, (World.putObj_heap_other (by omega)).trans hd3⟩
      | _ => exact hq.elim
    · rintro e W' ⟨⟨v, rfl⟩, hK⟩
      have e5 : r.state = .ready := by rw [hr]
      have e6 : r.pending = none := by rw [hr]
      refine ⟨none, W'.putObj (V.heap.size + 1) (.loop { r with state := .exhausted }), (run_endLoop (P := P) hK.2.2.1 (by rw [e5]; decide)).trans (by rw [e6]), ?_⟩
      exact hend _ _ (stab _ _ _ hK.1 (below_put hK.2.2.1 (by omega))) rfl rfl ((World.putObj_heap_other (by omega)).trans hK.2.2.2)
theorem range_act2 {a1 a : Act} {p0 p1 n : Nat} {v0 v1 : Value} (ht : a1.tmps = (#[p0, p1].zip #[v0, v1]).foldl (fun t (p, v) => t.setIfInBounds p v) a.tmps) (hn : a.tmps.size = n) (h0 : decide (p0 < n) = true) (h1 : decide (p1 < n) = true) (hne : (p0 != p1) = true) :
    a1.tmps.size = n ∧ a1.eval (.tmp p0) = v0 ∧ a1.eval (.tmp p1) = v1 ∧ ∀ t, (t != p0 && t != p1) = true → a1.eval (.tmp t) = a.eval (.tmp t) := by
  have h0 := of_decide_eq_true h0
  have h1 := of_decide_eq_true h1
  have hne : p0 ≠ p1 := by simpa using hne
  have ht : a1.tmps = (a.tmps.setIfInBounds p0 v0).setIfInBounds p1 v1 := ht.trans (by simp)
  subst hn
  refine ⟨by rw [ht]; simp, ?_, ?_, fun t h => ?_⟩
  · show a1.tmps.getD p0 undef = v0
    rw [ht]; simp [Array.getD_eq_getD_getElem?, Array.getElem?_setIfInBounds, h0, h1, Ne.symm hne]
  · show a1.tmps.getD p1 undef = v1
    rw [ht]; simp [Array.getD_eq_getD_getElem?, Array.getElem?_setIfInBounds, h0, h1]
  · show a1.tmps.getD t undef = a.tmps.getD t undef
    simp only [Bool.and_eq_true, bne_iff_ne, ne_eq] at h
    rw [ht]; simp [Array.getD_eq_getD_getElem?, Array.getElem?_setIfInBounds, Ne.symm h.1, Ne.symm h.2]
theorem act_eval {a a' : Act} (h : a'.tmps = a.tmps) (t : Nat) : a'.eval (.tmp t) = a.eval (.tmp t) := by
  show a'.tmps.getD t undef = a.tmps.getD t undef
  rw [h]
theorem def_ne {w : World} {D g : Nat} {x : Option (List Deferred)} {cs : Array Value} {T : TypeId} {fz : Nat × Nat} (h : w.heap[D]? = some (.deferred x)) (hk : w.heap[g]? = some (.cells cs T fz)) : D ≠ g := by
  intro e; subst e; rw [h] at hk; injection hk with hk; cases hk
theorem tail_arr {ops : Array Oper} {Q : Exit → Act → World → Prop} {o : Oper} {i : Nat} {a : Act} {w : World} {c g : Nat} {ty T : TypeId} {x y : Operand} {cs new : Array Value} {os : List Oper} (ho' : ops.toList.drop i = o :: os) (hg : o.guard = none) (hd : o.dst = none) (hop : o.op = .store ty x y)
    (hx : a.eval x = .pointer (some ⟨g, 0, none⟩)) (hy : a.eval y = .agg new) (hk : w.heap[g]? = some (.cells cs T (0, 0))) (hi : (P.info? ty).map (·.size) = some new.size) (hold : cs.size = new.size) (h1 : new.all (·.oneCell') = true)
    (h : ∀ w', Sets w w' g (.cells new T (0, 0)) → wpOps P ops Q (List.range' (i + 1) c) a w') : wpOps P ops Q (List.range' i (c + 1)) a w := by
  refine tail_skip (w1 := w.setRow g new) ho' hg hd ?_ (h _ ⟨setRow_heap w g cs new T (0, 0) hk, fun b hb => setRow_other w g b new hb, by simp [World.setRow], rfl, rfl, rfl⟩)
  unfold execOp
  simp only [hop, hx, hy, Instr.storeAt, Instr.sureAddr, Sem.run_bind, Sem.run_pure, Result.andThen_ok, run_storeVar_row w g T ty cs new hk hi hold h1]
theorem stored_arr {ops : Array Oper} {Q : Exit → Act → World → Prop} {D : Nat → Value → World → Prop} {k : Nat → Kind} {a0 : Act} {w0 : World} {i j d : Nat} {o : Oper} {T ty : TypeId} {c0 new : Array Value} {y : Operand} (hk : k i = .store j new) (hn : o.dst = none) (hg : o.guard = none) (hb : bound o j = true) (hd : dstOf ops j = some d) (hkj : k j = .alloc T c0)
    (hu : ∀ i' cs', k i' = .store j cs' → i' = i) (hsz : c0.size = new.size) (hop : o.op = .store ty (.tmp d) y) (hi : (P.info? ty).map (·.size) = some new.size) (h1 : new.all (·.oneCell') = true)
    (h : ∀ (a : Act) (w : World), (∀ j d, bound o j = true → dstOf ops j = some d → D j (a.eval (.tmp d)) w) → (∀ t, old ops i t = true → a.eval (.tmp t) = a0.eval (.tmp t)) → a.eval y = .agg new) : Duty P ops Q D k a0 w0 i o := by
  unfold Duty; rw [hk]
  refine ⟨hn, hg, d, T, c0, hb, hd, hkj, hu, hsz, fun a w g e hc hdep ho => ?_⟩
  have hy := h a w hdep ho
  refine ⟨w.setRow g new, ?_, setRow_heap w g c0 new T (0, 0) hc, fun b hb => setRow_other w g b new hb, by simp [World.setRow], rfl, rfl, rfl⟩
  have hx : a.eval (.tmp d) = .pointer (some ⟨g, 0, none⟩) := e
  unfold execOp
  simp only [hop, hx, hy, Instr.storeAt, Instr.sureAddr, Sem.run_bind, Sem.run_pure, Result.andThen_ok, run_storeVar_row w g T ty c0 new hc hi hsz h1]
theorem enterM {n : Nat} {f : FuncId} {fn : Func} {c : Code} {args : Array Value} {w : World} {R : Ending → World → Prop} (hf : P.funcs[f]? = some fn) (hb : fn.body = some c)
    (h : ∀ a : Act, a.defers = [] → a.tmps.size = args.size + (fn.ntmps - args.size) → (∀ t, t < args.size → a.eval (.tmp t) = args.getD t undef) → c.wp P (bodyPostM Fence.wide n P fn R) a w) : Calls P f args w R := by
  refine callsIn_wide.1 (callsIn_of_wp_marks (n := n) hf hb trivial (wpIn_wide.2 (h _ rfl (by simp) fun t ht => ?_)) rfl)
  show (args ++ Array.replicate (fn.ntmps - args.size) undef).getD t undef = _
  simp [Array.getD_eq_getD_getElem?, Array.getElem?_append_left ht]
theorem retM {n D : Nat} {fn : Func} {R : Ending → World → Prop} {a : Act} {w : World} (hd : a.defers = [{ target := .collected D, args := #[] }]) (hD : w.heap[D]? = some (.deferred (some []))) {v : Value}
    (hres : ∀ w1, (∀ (b : Nat) (o : Obj), w.heap[b]? = some o → o.isCells = true → w1.heap[b]? = some o) → (results fn a.tmps).run P w1 = .ok v w1) (hR : ∀ w1, Below D w w1 → R (.returned v) w1) : bodyPostM Fence.wide n P fn R .ret a w := by
  show LeavesInM Fence.wide n P fn a.tmps R a.defers .returning w
  rw [hd]
  refine ⟨by simp, .inl ⟨D, _, rfl, run_takeDeferred hD, ?_⟩⟩
  refine ⟨_, hres _ fun b o hb hc => ?_, hR _ (below_put hD (Nat.le_refl _))⟩
  refine (World.putObj_heap_other fun e => ?_).trans hb
  subst e
  rw [hD] at hb
  injection hb with hb
  subst hb
  cases hc
theorem retcM {n D : Nat} {fn : Func} {p : Nat} {ty T : TypeId} {g : Nat} {cs : Array Value} {d : TypeDesc} {R : Ending → World → Prop} {a : Act} {w : World} (h : fn.results = #[.cell p ty]) (hd : a.defers = [{ target := .collected D, args := #[] }]) (hD : w.heap[D]? = some (.deferred (some [])))
    (e : a.eval (.tmp p) = .pointer (some ⟨g, 0, none⟩)) (hb : w.heap[g]? = some (.cells cs T (0, 0)))
    (hu : P.underlying ty = some d) (hrow : d.isRow = true) (hi : (P.info? ty).map (·.size) = some cs.size) (hR : ∀ w1, Below D w w1 → R (.returned (.agg cs)) w1) : bodyPostM Fence.wide n P fn R .ret a w :=
  retM hd hD (fun w1 hk => results_cell_row h _ w1 g T cs _ d e (hk _ _ hb rfl) hu (by cases d <;> simp_all) hi) hR
theorem ret0 {fn : Func} {R : Ending → World → Prop} {a : Act} {w : World} (h : fn.results = #[]) (hd : a.defers = []) (hR : ∀ v, R (.returned v) w) : bodyPost P fn R .normal a w := by
  refine ⟨hd, .tuple #[], ?_, hR _⟩
  unfold results
  rw [h]
  simp [Sem.run_bind, Sem.run_pure]
end Go.Proofs.Eng
namespace Go.Proofs.EngI
open Go Go.RowKit Go.Proofs.Eng
theorem tail_yield {P : Program} {ops : Array Oper} {Q : Exit → Act → World → Prop} {a : Act} {w : World} {o : Oper} {i nn l c d n : Nat} {os : List Oper} {g : Operand} {as_ : Array Operand} {ts : Array TypeId} {args : Array Value} {R : World → Prop}
    (ho' : ops.toList.drop i = o :: os) (hg : o.guard = none) (hd : o.dst = some d) (hop : o.op = .call { callee := .value g, args := as_, argTypes := ts }) (hgv : a.eval g = .func (.yield l) #[] #[]) (hargs : as_.map a.eval = args) (hn : a.tmps.size = n) (hlt : decide (d < n) = true)
    (hY : YieldAt Fence.wide (nn - 1) P l args w fun e W' => e = .returned (.bool true) ∧ R W')
    (h : ∀ (w1 : World) (a' : Act), R w1 → a'.defers = a.defers → a'.tmps.size = n → a'.eval (.tmp d) = .bool true → (∀ t, (t != d) = true → a'.eval (.tmp t) = a.eval (.tmp t)) → wpOpsIn Fence.wide nn P ops Q (List.range' (i + 1) c) a' w1) : wpOpsIn Fence.wide nn P ops Q (List.range' i (c + 1)) a w := by
  have ho := drop_get ho'
  rw [List.range'_succ, wpOpsIn_cons]
  unfold wpOpIn
  rw [ho]
  simp only
  rw [if_pos (wanted_none hg)]
  unfold Oper.wpIn
  refine ⟨fun _ _ => trivial, ?_⟩
  rw [sem_calm (by unfold calm; rw [hop])]
  obtain ⟨fn, tmps, assign, body, hy, hR⟩ := hY
  have hrun : (execOp a.eval o).run P w = .ok (.round l fn tmps assign body) w := by
    unfold execOp
    rw [hop]
    simp only [resolve, Deferred.ofValue, invoke, hgv, hargs]
    have h2 : (#[] : Array Value) ++ args ++ (#[] : Array Value) = args := by simp
    first
      | exact hy
      | (show (Instr.yield l (#[] ++ args ++ #[])).run P w = _; rw [h2]; exact hy)
  rw [hrun]
  refine ⟨fun h => (by cases h), hR.mono ?_⟩
  rintro e w' ⟨rfl, hR⟩
  show wpOpsIn Fence.wide nn P ops Q _ (a.put o.dst (.bool true)) w'
  rw [hd]
  have hlt := of_decide_eq_true hlt
  have hx : ∀ d', some d = some d' → d' < a.tmps.size := fun d' e => by injection e with e; omega
  refine h w' _ hR rfl (by simp [Act.put, hn]) ?_ fun t ht => ?_
  · show (a.put (some d) (.bool true)).tmps.getD d undef = .bool true
    rw [put_getD _ _ _ _ hx, if_pos rfl]
  · show (a.put (some d) (.bool true)).tmps.getD t undef = _
    rw [put_getD _ _ _ _ hx, if_neg (fun e => by injection e with e; simp [e] at ht)]
    rfl
end Go.Proofs.EngI
end
section
namespace Go.Proofs.YthgafcaoibfchaaDoor.X
open Go.RowKit Go.Shelf Go.Proofs Go.Proofs.YthgafcaoibfchaaDoorW.PrintWords Go.Proofs.YthgafcaoibfchaaDoorW.PrintLast Go.Proofs.YthgafcaoibfchaaDoorW.PrintMore
set_option linter.unusedVariables false
set_option linter.unusedSimpArgs false
namespace Nfa
def at_ (s : List Int) (k : Nat) : Int := s.getD k 0
def has (s : List Int) (n : Int) : Bool := (decide (n ≥ 0) && decide (n < 512)) && (Go.bits .and .u64 (shr .u64 (at_ s (n.toNat / 64)) ((n.toNat % 64 : Nat) : Int)) 1 == 1)
def put (s : List Int) (n : Int) : List Int := if 0 ≤ n ∧ n < 512 then s.set (n.toNat / 64) (Go.bits .or .u64 (at_ s (n.toNat / 64)) (shl .u64 1 ((n.toNat % 64 : Nat) : Int))) else s
theorem put_len (s : List Int) (n : Int) : (put s n).length = s.length := by unfold put; split <;> simp
def unionTo (a b : List Int) (k : Nat) : List Int := (List.range k).foldl (fun (s : List Int) (i : Nat) => s.set i (Go.bits .or .u64 (at_ s i) (at_ b i))) a
theorem unionTo_succ (a b : List Int) (k : Nat) : unionTo a b (k + 1) = (unionTo a b k).set k (Go.bits .or .u64 (at_ (unionTo a b k) k) (at_ b k)) := by
  unfold unionTo; rw [List.range_succ, List.foldl_append]; rfl
theorem unionTo_len (a b : List Int) (k : Nat) : (unionTo a b k).length = a.length := by
  induction k with
  | zero => rfl
  | succ k ih => rw [unionTo_succ, List.length_set, ih]
theorem same_succ {l r : List Int} {k : Nat} (h : ∀ i, i < k → l.getD i 0 = r.getD i 0) (hk : l.getD k 0 = r.getD k 0) : ∀ i, i < k + 1 → l.getD i 0 = r.getD i 0 := by
  intro i hi
  rcases Nat.lt_or_ge i k with h1 | h1
  · exact h i h1
  · have : i = k := by omega
    rw [this]; exact hk
theorem eq_len {l r : List Int} (h : l.length ≠ r.length) : (l == r) = false := by
  rw [beq_eq_false_iff_ne]; intro e; exact h (congrArg _ e)
theorem eq_at {l r : List Int} {k : Nat} (h : l.getD k 0 ≠ r.getD k 0) : (l == r) = false := by
  rw [beq_eq_false_iff_ne]; intro e; exact h (by rw [e])
theorem eq_all {l r : List Int} (hl : l.length = r.length) (h : ∀ i, i < l.length → l.getD i 0 = r.getD i 0) : (l == r) = true := by
  rw [beq_iff_eq]
  refine List.ext_getElem hl fun i h1 h2 => ?_
  have := h i h1
  simpa [List.getD_eq_getElem?_getD, List.getElem?_eq_getElem h1, List.getElem?_eq_getElem h2] using this
theorem quo64 {n : Int} (h0 : 0 ≤ n) (h1 : n < 512) : IntKind.i64.wrap (n.tdiv 64) = ((n.toNat / 64 : Nat) : Int) := by
  obtain ⟨m, rfl⟩ := Int.eq_ofNat_of_zero_le h0
  have e : ((m : Nat) : Int).tdiv 64 = ((m / 64 : Nat) : Int) := rfl
  rw [e, Eng.i64_id (by omega) (by omega)]
  simp
theorem rem64 {n : Int} (h0 : 0 ≤ n) : n.tmod 64 = ((n.toNat % 64 : Nat) : Int) := by
  obtain ⟨m, rfl⟩ := Int.eq_ofNat_of_zero_le h0
  rfl
theorem put_in {s : List Int} {n : Int} (h0 : 0 ≤ n) (h1 : n < 512) : put s n = s.set (n.toNat / 64) (Go.bits .or .u64 (at_ s (n.toNat / 64)) (shl .u64 1 ((n.toNat % 64 : Nat) : Int))) := if_pos ⟨h0, h1⟩
theorem put_out {s : List Int} {n : Int} (h : 0 ≤ n → 512 ≤ n) : put s n = s := if_neg fun ⟨a, b⟩ => by have := h a; omega
theorem shr_eq (x : Int) {r : Nat} (h : r < 64) : x / 2 ^ r = shr .u64 x (r : Int) := by
  unfold shr
  rw [Int.toNat_natCast, Nat.min_eq_left (by show r ≤ 64; omega)]
theorem shl_eq (x : Int) {r : Nat} (h : r < 64) : IntKind.u64.wrap (x * 2 ^ r) = shl .u64 x (r : Int) := by
  unfold shl
  rw [Int.toNat_natCast, Nat.min_eq_left (by show r ≤ 64; omega)]
theorem cells_size {l : List Int} {n : Nat} (h : l.length = n) : (List.map (Value.int .u64) l).toArray.size = n := by simpa using h
theorem cell_at {l : List Int} {n j : Nat} (h : l.length = n) (hj : j < n) : (List.map (Value.int .u64) l).toArray[j]? = some (.int .u64 (at_ l j)) := by
  simp [at_, List.getD_eq_getElem?_getD, List.getElem?_eq_getElem (show j < l.length by omega)]
theorem cell_set (l : List Int) (j : Nat) (b : Int) : (List.map (Value.int .u64) l).toArray.setIfInBounds j (.int .u64 b) = (List.map (Value.int .u64) (l.set j b)).toArray := by
  simp [List.map_set]
def beginF (bs : List Int) (i : Int) : Int := if i ≥ (bs.length : Int) then 512 else bs.getD i.toNat 0
def ints (bs : List Int) : List Value := bs.map (Value.int .i64)
theorem ints_at (bs : List Int) (j : Nat) (h : j < bs.length) : (ints bs)[j * 1]? = some (.int .i64 (bs.getD j 0)) := by
  rw [Nat.mul_one]
  simp [ints, List.getD_eq_getElem?_getD, List.getElem?_eq_getElem h]
end Nfa
end Go.Proofs.YthgafcaoibfchaaDoor.X
end
section
namespace Go.Proofs.YthgafcaoibfchaaDoor.X.Pth
open Go.RowKit Go.Shelf Go.Proofs
set_option linter.unusedVariables false
set_option linter.unusedSimpArgs false
abbrev Part := Int × ByteArray
def right1 (k : Int) (s : ByteArray) : Bool :=
  if (k == 0) = true then Lib.validD s.data.toList && decide ((s.size : Int) ≤ 100) else if (k == 1) = true then s.toList.isEmpty else if (k == 2) = true then s.toList.isEmpty else false
def encP (p : Part) : List Value := [.int .i64 p.1, .string p.2]
def cellsP (l : List Part) : List Value := l.flatMap encP
theorem cells_at : ∀ (l : List Part) (j : Nat), j < l.length → ((cellsP l).drop (j * 2)).take 2 = [.int .i64 (l.getD j default).1, .string (l.getD j default).2]
  | p :: t, 0, _ => by simp [cellsP, encP]
  | p :: t, j + 1, h => by
    have := cells_at t j (by simpa using h)
    rw [show (j + 1) * 2 = j * 2 + 2 by omega]
    simpa [cellsP, encP, List.drop_append] using this
theorem cells_len : ∀ l : List Part, (cellsP l).length = l.length * 2
  | [] => rfl
  | p :: t => by
    have := cells_len t
    simp only [cellsP, encP, List.flatMap_cons, List.length_append, List.length_cons, List.length_nil] at this ⊢
    omega
theorem cells_one (l : List Part) : ∀ u ∈ cellsP l, u.oneCell' = true := by
  intro u hu
  obtain ⟨x, _, hx⟩ := List.mem_flatMap.1 hu
  simp [encP] at hx
  rcases hx with rfl | rfl <;> rfl
theorem own_nil_cat {w : World} {B : Nat} {e : TypeId} {v : Value} {l : List Part} (O : w.ownsRow B e 2 v (0 + l.length) ([] ++ cellsP l)) : w.ownsRow B e 2 v l.length (cellsP l) := by
  rw [Nat.zero_add, List.nil_append] at O; exact O
theorem own_cat {w : World} {B : Nat} {e : TypeId} {v : Value} {l r : List Part} (O : w.ownsRow B e 2 v (l.length + r.length) (cellsP l ++ cellsP r)) : w.ownsRow B e 2 v (l ++ r).length (cellsP (l ++ r)) := by
  have : cellsP (l ++ r) = cellsP l ++ cellsP r := List.flatMap_append
  rw [List.length_append, this]; exact O
theorem take_one {l : List Part} {k : Nat} (h : k < l.length) : l.take (k + 1) = l.take k ++ [l.getD k default] := by
  rw [List.take_add_one, List.getD_eq_getElem?_getD, List.getElem?_eq_getElem h]; rfl
def heavy (l : List Part) : Bool := l.any (fun p => decide (p.2.size > 2000)) || decide (l.length > 40)
theorem light_succ {l : List Part} {k : Nat} (h : ∀ i, i < k → (l.getD i default).2.size ≤ 2000) (hk : (l.getD k default).2.size ≤ 2000) : ∀ i, i < k + 1 → (l.getD i default).2.size ≤ 2000 := by
  intro i hi
  rcases Nat.lt_or_ge i k with h1 | h1
  · exact h i h1
  · have : i = k := by omega
    rw [this]; exact hk
theorem heavy_at {l : List Part} {k : Nat} (hk : k < l.length) (h : (l.getD k default).2.size > 2000) : heavy l = true := by
  unfold heavy
  rw [Bool.or_eq_true]
  refine .inl (List.any_eq_true.2 ⟨l[k], List.getElem_mem hk, ?_⟩)
  rw [List.getD_eq_getElem?_getD, List.getElem?_eq_getElem hk] at h
  simpa using h
theorem heavy_all {l : List Part} (h : ∀ i, i < l.length → (l.getD i default).2.size ≤ 2000) : heavy l = decide (l.length > 40) := by
  unfold heavy
  have : l.any (fun p => decide (p.2.size > 2000)) = false := by
    rw [List.any_eq_false]
    intro x hx
    obtain ⟨i, hi, rfl⟩ := List.getElem_of_mem hx
    have := h i hi
    rw [List.getD_eq_getElem?_getD, List.getElem?_eq_getElem hi] at this
    simpa using this
  rw [this, Bool.false_or]
def heavies (ps : List (List Part)) : Bool := ps.any heavy || decide (ps.length > 40)
theorem lights_succ {l : List (List Part)} {k : Nat} (h : ∀ i, i < k → heavy (l.getD i []) = false) (hk : heavy (l.getD k []) = false) : ∀ i, i < k + 1 → heavy (l.getD i []) = false := by
  intro i hi
  rcases Nat.lt_or_ge i k with h1 | h1
  · exact h i h1
  · have : i = k := by omega
    rw [this]; exact hk
theorem heavies_at {l : List (List Part)} {k : Nat} (hk : k < l.length) (h : heavy (l.getD k []) = true) : heavies l = true := by
  unfold heavies
  rw [Bool.or_eq_true]
  refine .inl (List.any_eq_true.2 ⟨l[k], List.getElem_mem hk, ?_⟩)
  rw [List.getD_eq_getElem?_getD, List.getElem?_eq_getElem hk] at h
  simpa using h
theorem heavies_all {l : List (List Part)} (h : ∀ i, i < l.length → heavy (l.getD i []) = false) : heavies l = decide (l.length > 40) := by
  unfold heavies
  have : l.any heavy = false := by
    rw [List.any_eq_false]
    intro x hx
    obtain ⟨i, hi, rfl⟩ := List.getElem_of_mem hx
    have := h i hi
    rw [List.getD_eq_getElem?_getD, List.getElem?_eq_getElem hi] at this
    simpa using this
  rw [this, Bool.false_or]
def firstBad : List Part → Int → Int
  | [], _ => -1
  | p :: t, i => if (!right1 p.1 p.2) = true then i else firstBad t (i + 1)
theorem firstBad_drop {l : List Part} {k : Nat} (h : k < l.length) (i : Int) : firstBad (l.drop k) i = if (!right1 (l.getD k default).1 (l.getD k default).2) = true then i else firstBad (l.drop (k + 1)) (i + 1) := by
  rw [List.drop_eq_getElem_cons h, firstBad]
  simp [List.getD_eq_getElem?_getD, List.getElem?_eq_getElem h]
def rightB (l : List Part) : Bool := decide ((l.length : Int) ≤ 20) && l.all fun p => right1 p.1 p.2
theorem firstBad_all : ∀ (l : List Part) (i : Int), 0 ≤ i → (decide (firstBad l i ≥ 0) = !(l.all fun p => right1 p.1 p.2))
  | [], i, _ => by simp [firstBad]
  | p :: t, i, hi => by
    rw [firstBad, List.all_cons]
    cases h : right1 p.1 p.2 with
    | false => simp; omega
    | true => simp; simpa using firstBad_all t (i + 1) (by omega)
end Go.Proofs.YthgafcaoibfchaaDoor.X.Pth
end
