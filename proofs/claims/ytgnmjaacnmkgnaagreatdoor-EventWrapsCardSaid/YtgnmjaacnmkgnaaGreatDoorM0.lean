/- Words and walks that the row of EventWraps needs: printed by programs, and plain laws. -/
import Derived.Shelf.Unicode.ValidAny
import Derived.Test.YtgnmjaacnmkgnaaGreatDoorProg
import Derived.Test.YtgnmjaacnmkgnaaGreatDoorRows
import Derived.Lib.LaidU8T
import Derived.PinnedBridge
import Derived.WalkKit
import Derived.Below
import Derived.Orders
import Derived.OpenShut
import Derived.Laws.Rows
import Derived.Deep.MidRow
section
namespace Go.Proofs
def Tryz.layVal_ren : Go.Shelf.Ren := ⟨fun | 196 => 38 | 259 => 68 | n => n, fun | 9 => 9 | 4 => 4 | 3 => 3 | 5 => 5 | 12 => 12 | 119 => 94 | 0 => 0 | 46 => 98 | 139 => 97 | 138 => 96 | 53 => 117 | n => n, fun | 3 => 0 | 4 => 1 | n => n⟩
theorem Tryz.layVal : Go.Proofs.Lays.n196 Tryz.prog Tryz.layVal_ren := {
  mixed := by kernel_rfl
  f196 := Tryz.func38.trans (congrArg some (by kernel_rfl))
  f259 := Tryz.func68.trans (congrArg some (by kernel_rfl))
  t0 := Tryz.underlying0
  a0 := Tryz.isAgg0
  z0 := Tryz.sizeOf0
  v0 := Tryz.zeroValue0
  t3 := Tryz.underlying3
  a3 := Tryz.isAgg3
  z3 := Tryz.sizeOf3
  v3 := Tryz.zeroValue3
  t4 := Tryz.underlying4
  a4 := Tryz.isAgg4
  z4 := Tryz.sizeOf4
  v4 := Tryz.zeroValue4
  t5 := Tryz.underlying5
  a5 := Tryz.isAgg5
  z5 := Tryz.sizeOf5
  v5 := Tryz.zeroValue5
  t9 := Tryz.underlying9
  a9 := Tryz.isAgg9
  z9 := Tryz.sizeOf9
  v9 := Tryz.zeroValue9
  t12 := Tryz.underlying12
  a12 := Tryz.isAgg12
  z12 := Tryz.sizeOf12
  v12 := Tryz.zeroValue12
  t46 := Tryz.underlying98
  a46 := Tryz.isAgg98
  z46 := Tryz.sizeOf98
  v46 := Tryz.zeroValue98
  t53 := Tryz.underlying117
  a53 := Tryz.isAgg117
  z53 := Tryz.sizeOf117
  v53 := Tryz.zeroValue117
  t119 := Tryz.underlying94
  a119 := Tryz.isAgg94
  z119 := Tryz.sizeOf94
  t138 := Tryz.underlying96
  a138 := Tryz.isAgg96
  z138 := Tryz.sizeOf96
  v138 := Tryz.zeroValue96
  t139 := Tryz.underlying97
  a139 := Tryz.isAgg97
  z139 := Tryz.sizeOf97
  v139 := Tryz.zeroValue97
  g3 := by kernel_rfl
  g4 := by kernel_rfl }
end Go.Proofs
namespace Go.Proofs.YtgnmjaacnmkgnaaGreatDoor.X.Tabs
open Go.Shelf Go.Lib Go.RowKit
def Holds (w : World) : Prop := Utf8Tabs 0 1 w
theorem below {w w' : World} (h : Holds w) (hb : Below w.heap.size w w') : Holds w' := Utf8Tabs_below h hb
theorem valid (s : ByteArray) (w : World) (hs : s.size ≤ 9223372036854775807) (hT : Holds w) : Calls Tryz.prog 38 #[.string s] w fun e w' => e = .returned (.bool (Lib.validD s.data.toList)) ∧ Below w.heap.size w w' :=
  Any.utf8_ValidString Tryz.layVal s w hs hT
end Go.Proofs.YtgnmjaacnmkgnaaGreatDoor.X.Tabs
end
section
namespace Go.Proofs.Eng
open Go Go.RowKit
set_option linter.unusedSimpArgs false
set_option linter.unusedVariables false
def bound (o : Oper) (j : Nat) : Bool := o.after.any fun e => e.on == j && Region.binds .any e
def old (ops : Array Oper) (i t : Nat) : Bool :=
  (List.range ops.size).all fun k => match ops[k]? with
    | some o => o.dst != some t || k == i || bound o i
    | none => true
def maskOf (l : List Nat) (o : Oper) : Nat := o.after.toList.foldl (fun s e => if Region.binds .any e then s ||| (1 <<< e.on) ||| l.getD e.on 0 else s) 0
def masks (ops : Array Oper) : Nat → List Nat
  | 0 => []
  | n + 1 => let l := masks ops n; l ++ [match ops[n]? with | some o => maskOf l o | none => 0]
inductive Anc (ops : Array Oper) : Nat → Nat → Prop where
  | one {i j : Nat} {o : Oper} (h : ops[i]? = some o) (hb : bound o j = true) : Anc ops i j
  | more {i k j : Nat} {o : Oper} (h : ops[i]? = some o) (hb : bound o k = true) (ha : Anc ops k j) : Anc ops i j
theorem bound_mem {o : Oper} {e : Edge} (h : e ∈ o.after.toList) (hb : Region.binds .any e = true) : bound o e.on = true := by
  unfold bound
  rw [Array.any_eq_true']
  exact ⟨e, by simpa using h, by simp [hb]⟩
theorem maskOf_anc {ops : Array Oper} {l : List Nat} {i : Nat} {o : Oper} (ho : ops[i]? = some o) (hl : ∀ k j, (l.getD k 0).testBit j = true → Anc ops k j) {j : Nat} (h : (maskOf l o).testBit j = true) : Anc ops i j := by
  have gen : ∀ (es : List Edge) (s : Nat), (∀ e ∈ es, e ∈ o.after.toList) → ((es.foldl (fun s e => if Region.binds .any e then s ||| (1 <<< e.on) ||| l.getD e.on 0 else s) s).testBit j = true) → s.testBit j = true ∨ Anc ops i j := by
    intro es
    induction es with
    | nil => intro s _ h; exact .inl h
    | cons e es ih =>
      intro s hm h
      rw [List.foldl_cons] at h
      rcases ih _ (fun x hx => hm x (List.mem_cons_of_mem _ hx)) h with h | h
      · split at h
        · rename_i hb
          have hbd := bound_mem (hm e List.mem_cons_self) hb
          rw [Nat.testBit_or, Nat.testBit_or, Bool.or_eq_true, Bool.or_eq_true] at h
          rcases h with (h | h) | h
          · exact .inl h
          · right
            rw [Nat.one_shiftLeft, Nat.testBit_two_pow] at h
            have := of_decide_eq_true h
            subst this
            exact .one ho hbd
          · exact .inr (.more ho hbd (hl _ _ h))
        · exact .inl h
      · exact .inr h
  rcases gen o.after.toList 0 (fun _ h => h) h with h | h
  · simp at h
  · exact h
theorem masks_anc {ops : Array Oper} : ∀ (n k j : Nat), ((masks ops n).getD k 0).testBit j = true → Anc ops k j
  | 0, k, j, h => by simp [masks] at h
  | n + 1, k, j, h => by
    have ih := masks_anc (ops := ops) n
    have hlen : ∀ n, (masks ops n).length = n := by
      intro n
      induction n with
      | zero => rfl
      | succ n ih => simp [masks, ih]
    simp only [masks] at h
    rw [List.getD_eq_getElem?_getD] at h
    rcases Nat.lt_or_ge k n with hk | hk
    · rw [List.getElem?_append_left (by rw [hlen]; exact hk), ← List.getD_eq_getElem?_getD] at h
      exact ih k j h
    · rw [List.getElem?_append_right (by rw [hlen]; exact hk), hlen] at h
      by_cases hkn : k = n
      · subst hkn
        simp only [Nat.sub_self, List.getElem?_cons_zero, Option.getD_some] at h
        split at h
        · rename_i o ho
          exact maskOf_anc ho ih h
        · simp at h
      · rw [List.getElem?_eq_none (by simp; omega)] at h
        simp at h
def waitsAll (ops : Array Oper) (k : Nat) : Bool := (List.range k).all fun j => ((masks ops ops.size).getD k 0).testBit j
def dstOf (ops : Array Oper) (j : Nat) : Option Nat := (ops[j]?).bind (·.dst)
def shape (ops : Array Oper) (m n : Nat) : Bool :=
  ((List.range ops.size).all fun k => match ops[k]? with
    | some o => (o.after.all fun e => !Region.binds .any e || decide (e.on < k)) && (decide (k < m) || waitsAll ops k) && (match o.dst with | some d => decide (d < n) | none => true)
    | none => false) &&
  ((List.range m).all fun k => (List.range k).all fun j => match dstOf ops k, dstOf ops j with | some a, some b => a != b | _, _ => true)
variable {P : Program} {ops : Array Oper} {Q : Exit → Act → World → Prop}
inductive Kind where
  | plain
  | alloc (T : TypeId) (cs : Array Value)
  | store (j : Nat) (cs : Array Value)
  | eats
def Stores (P : Program) (ops : Array Oper) (D : Nat → Value → World → Prop) (k : Nat → Kind) (a0 : Act) (w0 : World) (i : Nat) (o : Oper) (j : Nat) (cs : Array Value) : Prop :=
  o.dst = none ∧ o.guard = none ∧ ∃ d T c0, bound o j = true ∧ dstOf ops j = some d ∧ k j = .alloc T c0 ∧ (∀ i' cs', k i' = .store j cs' → i' = i) ∧ c0.size = cs.size ∧
  ∀ (a : Act) (w : World) (g : Nat), a.tmps.getD d undef = .pointer (some ⟨g, 0, none⟩) → w.heap[g]? = some (.cells c0 T (0, 0)) →
    (∀ j' d', bound o j' = true → dstOf ops j' = some d' → D j' (a.tmps.getD d' undef) w) →
    (∀ t, old ops i t = true → a.eval (.tmp t) = a0.eval (.tmp t)) →
    ∃ w', (execOp a.eval o).run P w = .ok .skip w' ∧ w'.heap[g]? = some (.cells cs T (0, 0)) ∧ (∀ b, b ≠ g → w'.heap[b]? = w.heap[b]?) ∧ w'.heap.size = w.heap.size ∧ w'.os = w.os ∧ w'.tape = w.tape ∧ w'.output = w.output
def Allocs (P : Program) (ops : Array Oper) (D : Nat → Value → World → Prop) (a0 : Act) (w0 : World) (i : Nat) (o : Oper) (T : TypeId) (cs : Array Value) : Prop :=
  o.dst ≠ none ∧ o.guard = none ∧ ∀ (a : Act) (w : World), (∀ j' d', bound o j' = true → dstOf ops j' = some d' → D j' (a.tmps.getD d' undef) w) → (∀ t, old ops i t = true → a.eval (.tmp t) = a0.eval (.tmp t)) →
    (execOp a.eval o).run P w = .ok (.value (.pointer (some ⟨w.heap.size, 0, none⟩))) (w.alloc (.cells cs T (0, 0))) ∧ D i (.pointer (some ⟨w.heap.size, 0, none⟩)) (w.alloc (.cells cs T (0, 0)))
def Step (P : Program) (ops : Array Oper) (Q : Exit → Act → World → Prop) (D : Nat → Value → World → Prop) (a0 : Act) (w0 : World) (i : Nat) (o : Oper) : Prop :=
  ∀ (a : Act) (w : World), Below w0.heap.size w0 w →
    (∀ j d, bound o j = true → dstOf ops j = some d → D j (a.tmps.getD d undef) w ∧ yielded ops a.tmps j = (match a.tmps.getD d undef with | .bool b => some b | _ => none)) →
    (∀ t, old ops i t = true → a.eval (.tmp t) = a0.eval (.tmp t)) →
    (if Region.wanted o (yielded ops a.tmps) then o.wp P a w (fun a' w' => ∃ v, a' = a.put o.dst v ∧ (o.dst ≠ none → D i v w') ∧ Below w.heap.size w w') Q
     else (o.dst ≠ none → D i undef w))
def Eats (P : Program) (ops : Array Oper) (Q : Exit → Act → World → Prop) (D : Nat → Value → World → Prop) (k : Nat → Kind) (a0 : Act) (w0 : World) (i : Nat) (o : Oper) : Prop :=
  o.guard = none ∧ (∀ j T c, k j ≠ .alloc T c) ∧ ∀ (a : Act) (w : World), Below w0.heap.size w0 w →
    (∀ j d, bound o j = true → dstOf ops j = some d → D j (a.tmps.getD d undef) w) →
    (∀ t, old ops i t = true → a.eval (.tmp t) = a0.eval (.tmp t)) →
    o.wp P a w (fun a' w' => ∃ v, a' = a.put o.dst v ∧ (o.dst ≠ none → D i v w') ∧ Below w0.heap.size w w' ∧ ∀ j d, j ≠ i → dstOf ops j = some d → D j (a.tmps.getD d undef) w → D j (a.tmps.getD d undef) w') Q
def Duty (P : Program) (ops : Array Oper) (Q : Exit → Act → World → Prop) (D : Nat → Value → World → Prop) (k : Nat → Kind) (a0 : Act) (w0 : World) (i : Nat) (o : Oper) : Prop :=
  match k i with
  | .plain => Step P ops Q D a0 w0 i o
  | .alloc T cs => Allocs P ops D a0 w0 i o T cs
  | .store j cs => Stores P ops D k a0 w0 i o j cs
  | .eats => Eats P ops Q D k a0 w0 i o
def Steps (P : Program) (ops : Array Oper) (Q : Exit → Act → World → Prop) (D : Nat → Value → World → Prop) (k : Nat → Kind) (a0 : Act) (w0 : World) (m : Nat) : Nat → List Oper → Prop
  | _, [] => True
  | i, o :: os => (i < m → Duty P ops Q D k a0 w0 i o) ∧ Steps P ops Q D k a0 w0 m (i + 1) os
theorem Steps.get {D : Nat → Value → World → Prop} {k : Nat → Kind} {a0 : Act} {w0 : World} {m : Nat} : ∀ {l : List Oper} {i : Nat}, Steps P ops Q D k a0 w0 m i l → ∀ n o, l[n]? = some o → i + n < m → Duty P ops Q D k a0 w0 (i + n) o
  | [], _, _, _, _, h, _ => by simp at h
  | o :: os, i, h, 0, o', he, hm => by simp at he; subst he; exact h.1 hm
  | o :: os, i, h, n + 1, o', he, hm => by
    have e : i + 1 + n = i + (n + 1) := by omega
    have := Steps.get h.2 n o' (by simpa using he) (by omega)
    rw [e] at this; exact this
structure Inv (ops : Array Oper) (D : Nat → Value → World → Prop) (k : Nat → Kind) (a0 : Act) (w0 : World) (L : Array Bool) (a : Act) (w : World) : Prop where
  below : Below w0.heap.size w0 w
  defers : a.defers = a0.defers
  size : a.tmps.size = a0.tmps.size
  done : ∀ j d, L.getD j false = true → dstOf ops j = some d → D j (a.tmps.getD d undef) w
  rest : ∀ t, (∀ j, L.getD j false = true → dstOf ops j ≠ some t) → a.tmps.getD t undef = a0.tmps.getD t undef
  al : ∀ j d T c0, L.getD j false = true → k j = .alloc T c0 → dstOf ops j = some d → ∃ g, a.tmps.getD d undef = .pointer (some ⟨g, 0, none⟩) ∧ w0.heap.size ≤ g ∧ g < w.heap.size ∧
    ∃ cs, w.heap[g]? = some (.cells cs T (0, 0)) ∧ (∀ i new, k i = .store j new → L.getD i false = true → cs = new) ∧ ((∀ i new, k i = .store j new → L.getD i false = false) → cs = c0)
  dist : ∀ j j' d d' T c T' c' g, L.getD j false = true → L.getD j' false = true → k j = .alloc T c → k j' = .alloc T' c' → dstOf ops j = some d → dstOf ops j' = some d' →
    a.tmps.getD d undef = .pointer (some ⟨g, 0, none⟩) → a.tmps.getD d' undef = .pointer (some ⟨g, 0, none⟩) → j = j'
structure Made (ops : Array Oper) (k : Nat → Kind) (m : Nat) (w0 : World) (a : Act) (w : World) : Prop where
  al : ∀ j d T c0, j < m → k j = .alloc T c0 → dstOf ops j = some d → ∃ g, a.tmps.getD d undef = .pointer (some ⟨g, 0, none⟩) ∧ w0.heap.size ≤ g ∧ g < w.heap.size ∧
    ∃ cs, w.heap[g]? = some (.cells cs T (0, 0)) ∧ (∀ i new, i < m → k i = .store j new → cs = new) ∧ ((∀ i new, i < m → k i ≠ .store j new) → cs = c0)
  dist : ∀ j j' d d' T c T' c' g, j < m → j' < m → k j = .alloc T c → k j' = .alloc T' c' → dstOf ops j = some d → dstOf ops j' = some d' →
    a.tmps.getD d undef = .pointer (some ⟨g, 0, none⟩) → a.tmps.getD d' undef = .pointer (some ⟨g, 0, none⟩) → j = j'
theorem made_of {D : Nat → Value → World → Prop} {k : Nat → Kind} {a0 : Act} {w0 : World} {L : Array Bool} {a : Act} {w : World} {m : Nat} (I : Inv ops D k a0 w0 L a w) (h : ∀ j, j < m → L.getD j false = true) (h' : ∀ j, m ≤ j → L.getD j false = false) : Made ops k m w0 a w := by
  refine ⟨fun j d T c0 hj hk hd => ?_, fun j j' d d' T c T' c' g hj hj' => I.dist j j' d d' T c T' c' g (h j hj) (h j' hj')⟩
  obtain ⟨g, h1, h2, h3, cs, h4, h5, h6⟩ := I.al j d T c0 (h j hj) hk hd
  refine ⟨g, h1, h2, h3, cs, h4, fun i new hi hk => h5 i new hk (h i hi), fun hno => h6 fun i new hk => ?_⟩
  rcases Nat.lt_or_ge i m with hi | hi
  · exact absurd hk (hno i new hi)
  · exact h' i hi
def lits (L : Array Bool) (ops : Array Oper) : Prop := L.size = ops.size ∧ ∀ i o, ops[i]? = some o → L.getD i false = true → ∀ j, bound o j = true → L.getD j false = true
theorem getD_set {L : Array Bool} {i j : Nat} (hi : i < L.size) : (L.setIfInBounds i true).getD j false = if j = i then true else L.getD j false := by
  by_cases h : j = i
  · subst h; simp [Array.getD_eq_getD_getElem?, Array.getElem?_setIfInBounds, hi]
  · simp [Array.getD_eq_getD_getElem?, Array.getElem?_setIfInBounds, h, Ne.symm h]
theorem put_getD (a : Act) (dst : Option Nat) (v : Value) (t : Nat) (h : ∀ d, dst = some d → d < a.tmps.size) : (a.put dst v).tmps.getD t undef = if dst = some t then v else a.tmps.getD t undef := by
  cases dst with
  | none => simp [Act.put]
  | some d =>
    have hd := h d rfl
    by_cases e : d = t
    · subst e; simp [Act.put, Array.getD_eq_getD_getElem?, Array.getElem?_setIfInBounds, hd]
    · simp [Act.put, Array.getD_eq_getD_getElem?, Array.getElem?_setIfInBounds, e]
theorem yielded_eq {a : Act} {j d : Nat} (h : dstOf ops j = some d) (hd : d < a.tmps.size) : yielded ops a.tmps j = (match a.tmps.getD d undef with | .bool b => some b | _ => none) := by
  unfold yielded
  unfold dstOf at h
  rw [h]
  simp only [Option.bind_some, Array.getD_eq_getD_getElem?, Array.getElem?_eq_getElem hd, Option.getD_some]
  generalize a.tmps[d] = v
  cases v <;> rfl
theorem all_range {n : Nat} {p : Nat → Bool} : (List.range n).all p = true ↔ ∀ k < n, p k = true := by simp
section main
variable {D : Nat → Value → World → Prop} {a0 : Act} {w0 : World} {m : Nat}
theorem shape_edge (h : shape ops m a0.tmps.size = true) {i : Nat} {o : Oper} (ho : ops[i]? = some o) : (∀ e ∈ o.after, Region.binds .any e = true → e.on < i) ∧ (m ≤ i → ∀ j < i, Anc ops i j) ∧ (∀ d, o.dst = some d → d < a0.tmps.size) := by
  unfold shape at h
  rw [Bool.and_eq_true, all_range] at h
  have hi : i < ops.size := (Array.getElem?_eq_some_iff.1 ho).1
  have := h.1 i hi
  rw [ho] at this
  simp only [Bool.and_eq_true, Bool.or_eq_true, decide_eq_true_eq] at this
  obtain ⟨⟨h1, h2⟩, h3⟩ := this
  refine ⟨?_, ?_, ?_⟩
  · intro e he hb
    have hh := Array.all_eq_true'.1 h1 e he
    rw [hb] at hh
    simpa using hh
  · intro hm
    rcases h2 with h2 | h2
    · omega
    · unfold waitsAll at h2
      rw [all_range] at h2
      exact fun j hj => masks_anc _ _ _ (h2 j hj)
  · intro d hd
    rw [hd] at h3
    simpa using h3
theorem shape_dst (h : shape ops m a0.tmps.size = true) {i j d : Nat} (hi : i < m) (hj : j < m) (h1 : dstOf ops i = some d) (h2 : dstOf ops j = some d) : i = j := by
  unfold shape at h
  rw [Bool.and_eq_true, all_range] at h
  have h4 := all_range.1 h.2
  rcases Nat.lt_trichotomy i j with hlt | hlt | hlt
  · have := all_range.1 (h4 j hj) i hlt
    rw [h1, h2] at this; simp at this
  · exact hlt
  · have := all_range.1 (h4 i hi) j hlt
    rw [h1, h2] at this; simp at this
theorem bound_lt (h : shape ops m a0.tmps.size = true) {i j : Nat} {o : Oper} (ho : ops[i]? = some o) (hb : bound o j = true) : j < i := by
  unfold bound at hb
  rw [Array.any_eq_true'] at hb
  obtain ⟨e, he, h2⟩ := hb
  rw [Bool.and_eq_true, beq_iff_eq] at h2
  rw [← h2.1]; exact (shape_edge h ho).1 e he h2.2
theorem step_inv {k : Nat → Kind} (hs : shape ops m a0.tmps.size = true) (stable : ∀ i v w w', D i v w → Below w.heap.size w w' → D i v w') (hst2 : (∀ i j cs, k i ≠ .store j cs) ∨ ∀ i v w w', D i v w → D i v w')
    (hS : Steps P ops Q D k a0 w0 m 0 ops.toList) {L : Array Bool} (hL : lits L ops) (hlow : ∀ k, m ≤ k → L.getD k false = false) {a : Act} {w : World} (I : Inv ops D k a0 w0 L a w)
    {i : Nat} (hi : i < m) (him : i < ops.size) (hnot : L.getD i false = false) (hr : ∀ o, ops[i]? = some o → ∀ j, bound o j = true → L.getD j false = true)
    {K : Act → World → Prop} (hK : ∀ a' w', Inv ops D k a0 w0 (L.setIfInBounds i true) a' w' → K a' w') : wpOp P ops Q i K a w := by
  obtain ⟨o, ho⟩ : ∃ o, ops[i]? = some o := ⟨ops[i], Array.getElem?_eq_getElem him⟩
  have hst := hS.get i o (by simpa using ho) (by omega)
  rw [Nat.zero_add] at hst
  have hdo : dstOf ops i = o.dst := by unfold dstOf; rw [ho]; rfl
  have hd3 := (shape_edge hs ho).2.2
  have hjm : ∀ j, L.getD j false = true → j < m := fun j hj => by
    rcases Nat.lt_or_ge j m with h | h
    · exact h
    · rw [hlow j h] at hj; cases hj
  have hjs : ∀ j, L.getD j false = true → j < ops.size := fun j hj => by
    rcases Nat.lt_or_ge j L.size with h | h
    · rw [← hL.1]; exact h
    · rw [Array.getD_eq_getD_getElem?, Array.getElem?_eq_none h] at hj; cases hj
  have hdeps : ∀ j d, bound o j = true → dstOf ops j = some d → D j (a.tmps.getD d undef) w ∧ yielded ops a.tmps j = (match a.tmps.getD d undef with | .bool b => some b | _ => none) := fun j d hb hd => ⟨I.done j d (hr o ho j hb) hd, yielded_eq hd (by
      rw [I.size]
      have hj := bound_lt hs ho hb
      obtain ⟨oj, hoj⟩ : ∃ oj, ops[j]? = some oj := ⟨ops[j]'(by omega), Array.getElem?_eq_getElem _⟩
      refine (shape_edge hs hoj).2.2 d ?_
      unfold dstOf at hd; rw [hoj] at hd; exact hd)⟩
  have holds : ∀ t, old ops i t = true → a.eval (.tmp t) = a0.eval (.tmp t) := fun t ht => by
    show a.tmps.getD t undef = a0.tmps.getD t undef
    refine I.rest t fun j hj hjd => ?_
    unfold old at ht
    rw [all_range] at ht
    have := ht j (hjs j hj)
    obtain ⟨oj, hoj⟩ : ∃ oj, ops[j]? = some oj := ⟨ops[j]'(hjs j hj), Array.getElem?_eq_getElem _⟩
    unfold dstOf at hjd
    rw [hoj] at hjd this
    simp only [Option.bind_some] at hjd
    simp only [hjd, bne_self_eq_false, Bool.false_or, Bool.or_eq_true, beq_iff_eq] at this
    rcases this with h | h
    · subst h; rw [hj] at hnot; cases hnot
    · have := hL.2 j oj hoj hj i h
      rw [this] at hnot; cases hnot
  have hiL : i < L.size := by rw [hL.1]; exact him
  have hdsz : ∀ d, o.dst = some d → d < a.tmps.size := fun d hd => by rw [I.size]; exact hd3 d hd
  have hset : ∀ j, (L.setIfInBounds i true).getD j false = true → j ≠ i → L.getD j false = true := fun j hj hne => by rw [getD_set hiL, if_neg hne] at hj; exact hj
  have hkeep : ∀ j, L.getD j false = true → (L.setIfInBounds i true).getD j false = true := fun j hj => by
    rw [getD_set hiL]; split
    · rfl
    · exact hj
  have hslot : ∀ v j d, L.getD j false = true → dstOf ops j = some d → (a.put o.dst v).tmps.getD d undef = a.tmps.getD d undef := fun v j d hj hd => by
    rw [put_getD _ _ _ _ hdsz, if_neg]
    intro he
    have := shape_dst hs (hjm j hj) hi hd (hdo.trans he)
    subst this; rw [hj] at hnot; cases hnot
  have hdef : ∀ v, (a.put o.dst v).defers = a0.defers := fun v => by rw [← I.defers]; cases o.dst <;> rfl
  have hsz : ∀ v, (a.put o.dst v).tmps.size = a0.tmps.size := fun v => by rw [← I.size]; cases o.dst <;> simp [Act.put]
  have hrest : ∀ v t, (∀ j, (L.setIfInBounds i true).getD j false = true → dstOf ops j ≠ some t) → (a.put o.dst v).tmps.getD t undef = a0.tmps.getD t undef := fun v t ht => by
    rw [put_getD _ _ _ _ hdsz, if_neg (fun he => ht i (by rw [getD_set hiL, if_pos rfl]) (hdo.trans he))]
    exact I.rest t fun j hj => ht j (hkeep j hj)
  have plain : (∀ T c, k i ≠ .alloc T c) → (∀ j c, k i ≠ .store j c) → ∀ v w', (o.dst ≠ none → D i v w') → Below w.heap.size w w' → Inv ops D k a0 w0 (L.setIfInBounds i true) (a.put o.dst v) w' := by
    intro hka hks v w' hD hB
    refine ⟨I.below.trans (hB.mono (by have := I.below.size; omega)), hdef v, hsz v, ?_, hrest v, ?_, ?_⟩
    · intro j d hj hjd
      by_cases hji : j = i
      · subst hji
        rw [put_getD _ _ _ _ hdsz, if_pos (hdo ▸ hjd)]
        exact hD (by rw [← hdo, hjd]; simp)
      · rw [hslot v j d (hset j hj hji) hjd]
        exact stable j _ _ _ (I.done j d (hset j hj hji) hjd) hB
    · intro j d T c0 hj hk hjd
      have hji : j ≠ i := fun e => by subst e; exact hka _ _ hk
      obtain ⟨g, h1, h2, h3, cs, h4, h5, h6⟩ := I.al j d T c0 (hset j hj hji) hk hjd
      refine ⟨g, by rw [hslot v j d (hset j hj hji) hjd]; exact h1, h2, by have := hB.size; omega, cs, by rw [hB.block g h3]; exact h4, fun i' new hk' hi' => ?_, fun hno => h6 fun i' new hk' => ?_⟩
      · exact h5 i' new hk' (hset i' hi' (fun e => by subst e; exact hks _ _ hk'))
      · have := hno i' new hk'
        cases hv : L.getD i' false with
        | false => rfl
        | true => rw [hkeep i' hv] at this; cases this
    · intro j j' d d' T c T' c' g hj hj' hk hk' hd hd' e e'
      have hji : j ≠ i := fun e => by subst e; exact hka _ _ hk
      have hji' : j' ≠ i := fun e => by subst e; exact hka _ _ hk'
      rw [hslot v j d (hset j hj hji) hd] at e
      rw [hslot v j' d' (hset j' hj' hji') hd'] at e'
      exact I.dist j j' d d' T c T' c' g (hset j hj hji) (hset j' hj' hji') hk hk' hd hd' e e'
  unfold wpOp
  rw [ho]
  simp only
  unfold Duty at hst
  split at hst
  · rename_i hk
    have h1 := hst a w I.below hdeps holds
    have plain := plain (fun T c h => by rw [hk] at h; cases h) (fun j c h => by rw [hk] at h; cases h)
    split
    · rename_i hw
      rw [if_pos hw] at h1
      exact .inl (Oper.wp_mono (fun a' w' ⟨v, hv, hD, hB⟩ => by subst hv; exact hK _ _ (plain v w' hD hB)) h1)
    · rename_i hw
      rw [if_neg hw] at h1
      exact hK _ _ (plain undef w h1 (Below.refl _ _))
  ·
    rename_i T cs hk
    obtain ⟨hdn, hg, h1⟩ := hst
    obtain ⟨hrun, hD⟩ := h1 a w (fun j d hb hd => (hdeps j d hb hd).1) holds
    have hw : Region.wanted o (yielded ops a.tmps) = true := by unfold Region.wanted; rw [hg]
    rw [if_pos hw]
    refine .inl ?_
    unfold Oper.wp
    rw [hrun]
    have hB : Below w.heap.size w (w.alloc (.cells cs T (0, 0))) := (Below.refl _ _).alloc (Nat.le_refl _) _
    have hszw : (w.alloc (.cells cs T (0, 0))).heap.size = w.heap.size + 1 := by simp
    have hnew : (w.alloc (.cells cs T (0, 0))).heap[w.heap.size]? = some (.cells cs T (0, 0)) := by show (w.heap.push _)[w.heap.size]? = _; simp
    refine hK _ _ ⟨I.below.trans (hB.mono (by have := I.below.size; omega)), hdef _, hsz _, ?_, hrest _, ?_, ?_⟩
    · intro j d hj hjd
      by_cases hji : j = i
      · subst hji
        rw [put_getD _ _ _ _ hdsz, if_pos (hdo ▸ hjd)]
        exact hD
      · rw [hslot _ j d (hset j hj hji) hjd]
        exact stable j _ _ _ (I.done j d (hset j hj hji) hjd) hB
    · intro j d T' c0 hj hk' hjd
      by_cases hji : j = i
      · subst hji
        rw [hk] at hk'
        injection hk' with e1 e2
        subst e1; subst e2
        refine ⟨w.heap.size, by rw [put_getD _ _ _ _ hdsz, if_pos (hdo ▸ hjd)], I.below.size, by omega, cs, hnew, fun i' new hki hi' => ?_, fun _ => rfl⟩
        exfalso
        have hne : i' ≠ j := fun e => by subst e; rw [hk] at hki; cases hki
        have hl := hset i' hi' hne
        obtain ⟨o', ho'⟩ : ∃ o', ops[i']? = some o' := ⟨ops[i']'(hjs i' hl), Array.getElem?_eq_getElem _⟩
        have hst' := hS.get i' o' (by simpa using ho') (by have := hjm i' hl; omega)
        rw [Nat.zero_add] at hst'
        unfold Duty at hst'
        rw [hki] at hst'
        obtain ⟨_, _, _, _, _, hb, _⟩ := hst'
        have := hL.2 i' o' ho' hl j hb
        rw [this] at hnot; cases hnot
      · obtain ⟨g, h1, h2, h3, cs', h4, h5, h6⟩ := I.al j d T' c0 (hset j hj hji) hk' hjd
        refine ⟨g, by rw [hslot _ j d (hset j hj hji) hjd]; exact h1, h2, by omega, cs', by rw [hB.block g h3]; exact h4, fun i' new hki hi' => ?_, fun hno => h6 fun i' new hki => ?_⟩
        · exact h5 i' new hki (hset i' hi' (fun e => by subst e; rw [hk] at hki; cases hki))
        · have := hno i' new hki
          cases hv : L.getD i' false with
          | false => rfl
          | true => rw [hkeep i' hv] at this; cases this
    · intro j j' d d' T1 c1 T2 c2 g hj hj' hk1 hk2 hd hd' e e'
      have far : ∀ j d T c, (L.setIfInBounds i true).getD j false = true → j ≠ i → k j = .alloc T c → dstOf ops j = some d → (a.put o.dst (.pointer (some ⟨w.heap.size, 0, none⟩))).tmps.getD d undef = .pointer (some ⟨g, 0, none⟩) → g < w.heap.size := by
        intro j d T c hj hji hkj hd e
        rw [hslot _ j d (hset j hj hji) hd] at e
        obtain ⟨g', h1, h2, h3, _⟩ := I.al j d T c (hset j hj hji) hkj hd
        rw [h1] at e
        injection e with e; injection e with e; injection e with e
        omega
      have me : ∀ d, dstOf ops i = some d → (a.put o.dst (.pointer (some ⟨w.heap.size, 0, none⟩))).tmps.getD d undef = .pointer (some ⟨g, 0, none⟩) → g = w.heap.size := by
        intro d hd e
        rw [put_getD _ _ _ _ hdsz, if_pos (hdo ▸ hd)] at e
        injection e with e; injection e with e; injection e with e
        exact e.symm
      by_cases hji : j = i
      · by_cases hji' : j' = i
        · rw [hji, hji']
        · subst hji
          have h1 := far j' d' T2 c2 hj' hji' hk2 hd' e'
          have h2 := me d hd e
          omega
      · by_cases hji' : j' = i
        · subst hji'
          have h1 := far j d T1 c1 hj hji hk1 hd e
          have h2 := me d' hd' e'
          omega
        · rw [hslot _ j d (hset j hj hji) hd] at e
          rw [hslot _ j' d' (hset j' hj' hji') hd'] at e'
          exact I.dist j j' d d' T1 c1 T2 c2 g (hset j hj hji) (hset j' hj' hji') hk1 hk2 hd hd' e e'
  ·
    rename_i j cs hk
    obtain ⟨hdn, hg, dj, T, c0, hbj, hdj, hkj, huniq, hcsz, h1⟩ := hst
    have hLj := hr o ho j hbj
    obtain ⟨g, e1, e2, e3, cs0, e4, e5, e6⟩ := I.al j dj T c0 hLj hkj hdj
    have hcs : cs0 = c0 := e6 fun i' new hki => by rw [huniq i' new hki]; exact hnot
    subst hcs
    obtain ⟨w', hrun, hn, hoth, hsize, hos, htape, hout⟩ := h1 a w g e1 e4 (fun j d hb hd => (hdeps j d hb hd).1) holds
    have hw : Region.wanted o (yielded ops a.tmps) = true := by unfold Region.wanted; rw [hg]
    rw [if_pos hw]
    refine .inl ?_
    unfold Oper.wp
    rw [hrun]
    show K (a.put o.dst undef) w'
    have hput : ∀ j d, L.getD j false = true → dstOf ops j = some d → (a.put o.dst undef).tmps.getD d undef = a.tmps.getD d undef := hslot undef
    have hB : Below w0.heap.size w w' := ⟨hos, htape, hout, by omega, fun b hb => hoth b (by omega)⟩
    have hDw : ∀ i v w w', D i v w → D i v w' := by
      rcases hst2 with h | h
      · exact absurd hk (h i j cs)
      · exact h
    have hii : ∀ j T c, k j = .alloc T c → j ≠ i := fun j T c h e => by subst e; rw [hk] at h; cases h
    refine hK _ _ ⟨I.below.trans hB, hdef _, hsz _, ?_, hrest _, ?_, ?_⟩
    · intro j' d hj' hjd
      by_cases hji : j' = i
      · subst hji; rw [hdo, hdn] at hjd; cases hjd
      · rw [hput j' d (hset j' hj' hji) hjd]
        exact hDw j' _ _ _ (I.done j' d (hset j' hj' hji) hjd)
    · intro j' d T' c' hj' hk' hjd
      have hji := hii j' T' c' hk'
      obtain ⟨g', h1, h2, h3, cs', h4, h5, h6⟩ := I.al j' d T' c' (hset j' hj' hji) hk' hjd
      by_cases hjj : j' = j
      · subst hjj
        rw [hkj] at hk'
        injection hk' with x1 x2
        subst x1; subst x2
        have hgg : g' = g := by
          rw [hdj] at hjd
          injection hjd with hjd
          subst hjd
          rw [e1] at h1
          injection h1 with h1; injection h1 with h1; injection h1 with h1
          exact h1.symm
        subst hgg
        refine ⟨g', by rw [hput _ _ (hset _ hj' hji) hjd]; exact h1, h2, by omega, cs, hn, fun i' new hki _ => ?_, fun hno => ?_⟩
        · have := huniq i' new hki
          subst this
          rw [hk] at hki
          injection hki
        · have := hno i cs hk
          rw [getD_set hiL, if_pos rfl] at this; cases this
      · have hgg : g' ≠ g := fun e => by
          subst e
          exact hjj (I.dist j' j d dj T' c' T cs0 g' (hset j' hj' hji) hLj hk' hkj hjd hdj h1 e1)
        refine ⟨g', by rw [hput j' d (hset j' hj' hji) hjd]; exact h1, h2, by omega, cs', by rw [hoth g' hgg]; exact h4, fun i' new hki hi' => ?_, fun hno => h6 fun i' new hki => ?_⟩
        · exact h5 i' new hki (hset i' hi' (fun e => by subst e; rw [hk] at hki; injection hki with x; exact hjj x.symm))
        · have := hno i' new hki
          cases hv : L.getD i' false with
          | false => rfl
          | true => rw [hkeep i' hv] at this; cases this
    · intro j1 j2 d1 d2 T1 c1 T2 c2 g1 hj1 hj2 hk1 hk2 hd1 hd2 x1 x2
      have n1 := hii j1 _ _ hk1
      have n2 := hii j2 _ _ hk2
      rw [hput j1 d1 (hset j1 hj1 n1) hd1] at x1
      rw [hput j2 d2 (hset j2 hj2 n2) hd2] at x2
      exact I.dist j1 j2 d1 d2 T1 c1 T2 c2 g1 (hset j1 hj1 n1) (hset j2 hj2 n2) hk1 hk2 hd1 hd2 x1 x2
  ·
    rename_i hk
    obtain ⟨hg, hno, h1⟩ := hst
    have hw : Region.wanted o (yielded ops a.tmps) = true := by unfold Region.wanted; rw [hg]
    rw [if_pos hw]
    refine .inl (Oper.wp_mono ?_ (h1 a w I.below (fun j d hb hd => (hdeps j d hb hd).1) holds))
    rintro a' w' ⟨v, rfl, hD, hB, hkeepD⟩
    refine hK _ _ ⟨I.below.trans hB, hdef v, hsz v, ?_, hrest v, ?_, ?_⟩
    · intro j d hj hjd
      by_cases hji : j = i
      · subst hji
        rw [put_getD _ _ _ _ hdsz, if_pos (hdo ▸ hjd)]
        exact hD (by rw [← hdo, hjd]; simp)
      · rw [hslot v j d (hset j hj hji) hjd]
        exact hkeepD j d hji hjd (I.done j d (hset j hj hji) hjd)
    · intro j d T c0 _ hkj _
      exact absurd hkj (hno j T c0)
    · intro j j' d d' T c T' c' g _ _ hkj
      exact absurd hkj (hno j T c)
def upto (ops : Array Oper) (k : Nat) (L : Array Bool) : Prop := L.size = ops.size ∧ ∀ j, L.getD j false = decide (j < k ∧ j < ops.size)
theorem anc_listed {L : Array Bool} (hl : ∀ i o, ops[i]? = some o → L.getD i false = true → ∀ j, bound o j = true → L.getD j false = true) : ∀ {i j : Nat}, Anc ops i j → L.getD i false = true → L.getD j false = true := by
  intro i j h
  induction h with
  | one ho hb => exact fun hi => hl _ _ ho hi _ hb
  | more ho hb _ ih => exact fun hi => ih (hl _ _ ho hi _ hb)
theorem anc_ready {L : Array Bool} (hl : ∀ i o, ops[i]? = some o → L.getD i false = true → ∀ j, bound o j = true → L.getD j false = true) {i j : Nat} (h : Anc ops i j) (hr : ∀ o, ops[i]? = some o → ∀ j, bound o j = true → L.getD j false = true) : L.getD j false = true := by
  cases h with
  | one ho hb => exact hr _ ho _ hb
  | more ho hb ha => exact anc_listed hl ha (hr _ ho _ hb)
theorem mem_ready {L : Array Bool} (hL : L.size = ops.size) {i : Nat} : i ∈ Region.ready .any ops L ↔ i < ops.size ∧ L.getD i false = false ∧ ∀ o, ops[i]? = some o → ∀ j, bound o j = true → L.getD j false = true := by
  unfold Region.ready
  rw [List.mem_filter, List.mem_range]
  constructor
  · rintro ⟨h1, h2⟩
    rw [Bool.and_eq_true] at h2
    have hl : L.getD i true = L.getD i false := by
      simp [Array.getD_eq_getD_getElem?, Array.getElem?_eq_getElem (show i < L.size by omega)]
    refine ⟨h1, by rw [← hl]; simpa using h2.1, ?_⟩
    intro o ho j hj
    rw [ho] at h2
    simp only [Option.map_some, Option.getD_some] at h2
    have h3 := Array.all_eq_true'.1 h2.2
    unfold bound at hj
    rw [Array.any_eq_true'] at hj
    obtain ⟨e, he, h4⟩ := hj
    rw [Bool.and_eq_true, beq_iff_eq] at h4
    have := h3 e he
    rw [h4.2, h4.1] at this
    simpa using this
  · rintro ⟨h1, h2, h3⟩
    refine ⟨h1, ?_⟩
    have hl : L.getD i true = L.getD i false := by
      simp [Array.getD_eq_getD_getElem?, Array.getElem?_eq_getElem (show i < L.size by omega)]
    obtain ⟨o, ho⟩ : ∃ o, ops[i]? = some o := ⟨ops[i], Array.getElem?_eq_getElem h1⟩
    rw [hl, h2, ho]
    simp only [Bool.not_false, Bool.true_and, Option.map_some, Option.getD_some]
    rw [Array.all_eq_true']
    intro e he
    cases hb : Region.binds .any e with
    | false => rfl
    | true =>
      have := h3 o ho e.on (by unfold bound; rw [Array.any_eq_true']; exact ⟨e, he, by simp [hb]⟩)
      simpa using this
def cnt (L : Array Bool) (n : Nat) : Nat := ((List.range n).filter fun k => !L.getD k false).length
theorem cnt_set {L : Array Bool} {i : Nat} (hi : i < L.size) (hnot : L.getD i false = false) : ∀ n, i < n → cnt (L.setIfInBounds i true) n + 1 = cnt L n := by
  intro n hn
  unfold cnt
  have e : ∀ k, (!(L.setIfInBounds i true).getD k false) = (!L.getD k false && decide (k ≠ i)) := by
    intro k; rw [getD_set hi]; by_cases h : k = i <;> simp [h]
  have : ((List.range n).filter fun k => !(L.setIfInBounds i true).getD k false) = ((List.range n).filter fun k => !L.getD k false).erase i := by
    rw [List.Nodup.erase_eq_filter ((List.nodup_range).filter _), List.filter_filter]
    refine List.filter_congr fun k _ => ?_
    rw [e, Bool.and_comm]
    congr 1
    rw [Bool.eq_iff_iff]; simp
  have hm : i ∈ (List.range n).filter fun k => !L.getD k false := List.mem_filter.2 ⟨List.mem_range.2 hn, by rw [hnot]; rfl⟩
  rw [this, List.length_erase_of_mem hm]
  have : 0 < ((List.range n).filter fun k => !L.getD k false).length := List.length_pos_of_mem hm
  omega
theorem cnt_zero {L : Array Bool} : ∀ {n : Nat}, cnt L n = 0 → ∀ k, k < n → L.getD k false = true := by
  intro n h k hk
  unfold cnt at h
  rw [List.length_eq_zero_iff, List.filter_eq_nil_iff] at h
  simpa using h k (by simpa using hk)
theorem wp_tail (hs : shape ops m a0.tmps.size = true) : ∀ (fuel k : Nat) (L : Array Bool) (a : Act) (w : World), m ≤ k → k + fuel = ops.size → upto ops k L →
    wpOps P ops Q (List.range' k fuel) a w → wpAny P .any ops Q fuel L a w := by
  intro fuel
  induction fuel with
  | zero =>
    intro k L a w hm hk hL h
    refine ⟨?_, h⟩
    rw [List.eq_nil_iff_forall_not_mem]
    intro i hi
    have := (mem_ready hL.1).1 hi
    rw [hL.2] at this
    simp at this; omega
  | succ fuel ih =>
    intro k L a w hm hk hL h
    have only : ∀ i, i ∈ Region.ready .any ops L → i = k := by
      intro i hi
      obtain ⟨h1, h2, h3⟩ := (mem_ready hL.1).1 hi
      rw [hL.2] at h2
      have hik : k ≤ i := by simp at h2; omega
      rcases Nat.lt_or_ge k i with hlt | hge
      · obtain ⟨o, ho⟩ : ∃ o, ops[i]? = some o := ⟨ops[i], Array.getElem?_eq_getElem h1⟩
        have := anc_ready (L := L) (fun i o ho hi j hj => by
          have := bound_lt hs ho hj
          rw [hL.2] at hi ⊢; simp at hi ⊢; omega) ((shape_edge hs ho).2.1 (by omega) k hlt) h3
        rw [hL.2] at this; simp at this
      · omega
    constructor
    · intro hnil
      exfalso
      have : k ∈ Region.ready .any ops L := by
        rw [mem_ready hL.1]
        refine ⟨by omega, by rw [hL.2]; simp, ?_⟩
        intro o ho j hj
        have := bound_lt hs ho hj
        rw [hL.2]; simp; omega
      rw [hnil] at this; cases this
    · intro i hi
      obtain rfl := only i hi
      rw [List.range'_succ, wpOps_cons] at h
      refine wpOp_mono (fun a' w' h' => ih (i + 1) _ a' w' (by omega) (by omega) ⟨by simp [hL.1], ?_⟩ h') h
      intro j
      rw [getD_set (by rw [hL.1]; omega), hL.2]
      split
      · rename_i hj; subst hj; simp; omega
      · rename_i hj
        rw [decide_eq_decide]; omega
theorem wp_free {k : Nat → Kind} (hs : shape ops m a0.tmps.size = true) (hm : m ≤ ops.size) (stable : ∀ i v w w', D i v w → Below w.heap.size w w' → D i v w') (hst2 : (∀ i j cs, k i ≠ .store j cs) ∨ ∀ i v w w', D i v w → D i v w')
    (hS : Steps P ops Q D k a0 w0 m 0 ops.toList)
    (hE : ∀ a w, Below w0.heap.size w0 w → a.defers = a0.defers → a.tmps.size = a0.tmps.size → (∀ j d, j < m → dstOf ops j = some d → D j (a.tmps.getD d undef) w) →
      (∀ t, (∀ j, j < m → dstOf ops j ≠ some t) → a.tmps.getD t undef = a0.tmps.getD t undef) → Made ops k m w0 a w → wpOps P ops Q (List.range' m (ops.size - m)) a w) :
    ∀ (fuel : Nat) (L : Array Bool) (a : Act) (w : World), fuel = cnt L m + (ops.size - m) → L.size = ops.size → lits L ops → (∀ k, m ≤ k → L.getD k false = false) → Inv ops D k a0 w0 L a w → wpAny P .any ops Q fuel L a w := by
  have fin : ∀ (L : Array Bool) (a : Act) (w : World), cnt L m = 0 → L.size = ops.size → (∀ k, m ≤ k → L.getD k false = false) → Inv ops D k a0 w0 L a w → wpAny P .any ops Q (ops.size - m) L a w := by
    intro L a w hc hsz hlow I
    have hall := cnt_zero hc
    refine wp_tail hs (ops.size - m) m L a w (Nat.le_refl _) (by omega) ⟨hsz, ?_⟩ ?_
    · intro j
      rcases Nat.lt_or_ge j m with h | h
      · rw [hall j h]; simp; omega
      · rw [hlow j h]; simp; omega
    · refine hE a w I.below I.defers I.size (fun j d hj hd => I.done j d (hall j hj) hd) (fun t ht => I.rest t fun j hj => ht j ?_) (made_of I (fun j hj => hall j hj) hlow)
      rcases Nat.lt_or_ge j m with h | h
      · exact h
      · rw [hlow j h] at hj; cases hj
  intro fuel
  induction fuel with
  | zero =>
    intro L a w hf hsz hl hlow I
    have := fin L a w (by omega) hsz hlow I
    rw [show ops.size - m = 0 by omega] at this
    exact this
  | succ fuel ih =>
    intro L a w hf hsz hl hlow I
    by_cases hc : cnt L m = 0
    · have := fin L a w hc hsz hlow I
      rw [show ops.size - m = fuel + 1 by omega] at this
      exact this
    · constructor
      · intro hnil
        exfalso
        have hex : ∃ i, i < m ∧ L.getD i false = false := by
          apply Classical.byContradiction
          intro hno
          refine hc ?_
          unfold cnt
          rw [List.length_eq_zero_iff, List.filter_eq_nil_iff]
          intro k hk
          rw [List.mem_range] at hk
          cases hv : L.getD k false with
          | true => simp
          | false => exact absurd ⟨k, hk, hv⟩ hno
        have hmin : ∀ n i, i < n → i < m → L.getD i false = false → ∃ i, i < m ∧ L.getD i false = false ∧ ∀ j, j < i → L.getD j false = true := by
          intro n
          induction n with
          | zero => intro i h; omega
          | succ n ihn =>
            intro i hin him hf
            by_cases hall : ∀ j, j < i → L.getD j false = true
            · exact ⟨i, him, hf, hall⟩
            · have : ∃ j, j < i ∧ L.getD j false = false := by
                apply Classical.byContradiction
                intro hno
                refine hall fun j hj => ?_
                cases hv : L.getD j false with
                | true => rfl
                | false => exact absurd ⟨j, hj, hv⟩ hno
              obtain ⟨j, hj, hjf⟩ := this
              exact ihn j (by omega) (by omega) hjf
        obtain ⟨i0, hi0, hf0⟩ := hex
        obtain ⟨i, him, hif, hlt⟩ := hmin (i0 + 1) i0 (by omega) hi0 hf0
        have : i ∈ Region.ready .any ops L := by
          rw [mem_ready hsz]
          refine ⟨by omega, hif, ?_⟩
          intro o ho j hj
          exact hlt j (bound_lt hs ho hj)
        rw [hnil] at this; cases this
      · intro i hi
        obtain ⟨h1, h2, h3⟩ := (mem_ready hsz).1 hi
        have him : i < m := by
          rcases Nat.lt_or_ge i m with h | h
          · exact h
          · exfalso
            obtain ⟨o, ho⟩ : ∃ o, ops[i]? = some o := ⟨ops[i], Array.getElem?_eq_getElem h1⟩
            refine hc ?_
            unfold cnt
            rw [List.length_eq_zero_iff, List.filter_eq_nil_iff]
            intro k hk
            rw [List.mem_range] at hk
            have := anc_ready hl.2 ((shape_edge hs ho).2.1 h k (by omega)) h3
            simp [this]
        refine step_inv hs stable hst2 hS hl hlow I him h1 h2 h3 fun a' w' I' => ih _ a' w' ?_ (by simp [hsz]) ?_ ?_ I'
        · have := cnt_set (L := L) (by omega) h2 m him
          omega
        · refine ⟨by simp [hl.1], fun k o ho hk j hj => ?_⟩
          rw [getD_set (by omega)] at hk ⊢
          split
          · rfl
          · split at hk
            · rename_i hki; subst hki; exact h3 o ho j hj
            · exact hl.2 k o ho hk j hj
        · intro k hk
          rw [getD_set (by omega), if_neg (by omega)]
          exact hlow k hk
end main
theorem region {id : Nat} {a : Act} {w : World} (m : Nat) (D : Nat → Value → World → Prop) (k : Nat → Kind) (hm : P.follows .mixedOrders = true) (hs : shape ops m a.tmps.size = true) (hle : decide (m ≤ ops.size) = true)
    (stable : ∀ i v w w', D i v w → Below w.heap.size w w' → D i v w') (hst2 : (∀ i j cs, k i ≠ .store j cs) ∨ ∀ i v w w', D i v w → D i v w')
    (hS : Steps P ops Q D k a w m 0 ops.toList)
    (hE : ∀ a' w', Below w.heap.size w w' → a'.defers = a.defers → a'.tmps.size = a.tmps.size → (∀ j d, j < m → dstOf ops j = some d → D j (a'.tmps.getD d undef) w') →
      (∀ t, (∀ j, j < m → dstOf ops j ≠ some t) → a'.tmps.getD t undef = a.tmps.getD t undef) → Made ops k m w a' w' → wpOps P ops Q (List.range' m (ops.size - m)) a' w') :
    (Code.region id ops true).wp P Q a w := by
  refine wp_region_any hm ?_
  have hb : Below w.heap.size w { w with drawn := w.drawn + 1 } := ⟨rfl, rfl, rfl, Nat.le_refl _, fun _ _ => rfl⟩
  have hle := of_decide_eq_true hle
  refine wp_free (k := k) hs hle stable hst2 hS hE ops.size _ a _ ?_ (by simp) ⟨by simp, fun i o _ h => ?_⟩ (fun k _ => ?_) ⟨hb, rfl, rfl, fun j d h => ?_, fun t _ => rfl, fun j d T c h => ?_, fun j j' d d' T c T' c' g h => ?_⟩
  · have : cnt (Array.replicate ops.size false) m = m := by
      unfold cnt
      have : ∀ k ∈ List.range m, (!(Array.replicate ops.size false).getD k false) = true := by
        intro k _
        simp [Array.getD_eq_getD_getElem?, Array.getElem?_replicate]
        split <;> rfl
      rw [List.filter_eq_self.2 this, List.length_range]
    omega
  all_goals
    first
    | (simp [Array.getD_eq_getD_getElem?, Array.getElem?_replicate] at h; split at h <;> simp at h)
    | (simp [Array.getD_eq_getD_getElem?, Array.getElem?_replicate]; split <;> rfl)
section seqs
variable {D : Nat → Value → World → Prop} {a0 : Act} {w0 : World} {m : Nat}
theorem seq_free {k : Nat → Kind} (hs : shape ops m a0.tmps.size = true) (hm : m ≤ ops.size) (stable : ∀ i v w w', D i v w → Below w.heap.size w w' → D i v w') (hst2 : (∀ i j cs, k i ≠ .store j cs) ∨ ∀ i v w w', D i v w → D i v w')
    (hS : Steps P ops Q D k a0 w0 m 0 ops.toList)
    (hE : ∀ a w, Below w0.heap.size w0 w → a.defers = a0.defers → a.tmps.size = a0.tmps.size → (∀ j d, j < m → dstOf ops j = some d → D j (a.tmps.getD d undef) w) →
      (∀ t, (∀ j, j < m → dstOf ops j ≠ some t) → a.tmps.getD t undef = a0.tmps.getD t undef) → Made ops k m w0 a w → wpOps P ops Q (List.range' m (ops.size - m)) a w) :
    ∀ (fuel k' : Nat) (L : Array Bool) (a : Act) (w : World), k' + fuel = m → upto ops k' L → Inv ops D k a0 w0 L a w → wpOps P ops Q (List.range' k' (ops.size - k')) a w := by
  intro fuel
  induction fuel with
  | zero =>
    intro k' L a w hk hL I
    obtain rfl : k' = m := by omega
    refine hE a w I.below I.defers I.size (fun j d hj hd => I.done j d (by rw [hL.2]; simp; omega) hd) (fun t ht => I.rest t fun j hj => ht j ?_) (made_of I (fun j hj => by rw [hL.2]; simp; omega) (fun j hj => by rw [hL.2]; simp; omega))
    rw [hL.2] at hj; simp at hj; omega
  | succ fuel ih =>
    intro k' L a w hk hL I
    have hk' : k' < ops.size := by omega
    rw [show ops.size - k' = (ops.size - (k' + 1)) + 1 by omega, List.range'_succ, wpOps_cons]
    refine step_inv hs stable hst2 hS ⟨hL.1, fun i o ho hi j hj => ?_⟩ (fun j hj => by rw [hL.2]; simp; omega) I (by omega) hk' (by rw [hL.2]; simp) (fun o ho j hj => ?_) fun a' w' I' => ih (k' + 1) _ a' w' (by omega) ⟨by simp [hL.1], fun j => ?_⟩ I'
    · have h1 := bound_lt hs ho hj
      rw [hL.2] at hi ⊢; simp at hi ⊢; omega
    · have h1 := bound_lt hs ho hj
      rw [hL.2]; simp; omega
    · rw [getD_set (by rw [hL.1]; exact hk'), hL.2]
      split
      · rename_i hj; subst hj; simp; omega
      · rw [decide_eq_decide]; omega
end seqs
theorem region_seq {id : Nat} {a : Act} {w : World} (m : Nat) (D : Nat → Value → World → Prop) (k : Nat → Kind) (hs : shape ops m a.tmps.size = true) (hle : decide (m ≤ ops.size) = true)
    (stable : ∀ i v w w', D i v w → Below w.heap.size w w' → D i v w') (hst2 : (∀ i j cs, k i ≠ .store j cs) ∨ ∀ i v w w', D i v w → D i v w')
    (hS : Steps P ops Q D k a w m 0 ops.toList)
    (hE : ∀ a' w', Below w.heap.size w w' → a'.defers = a.defers → a'.tmps.size = a.tmps.size → (∀ j d, j < m → dstOf ops j = some d → D j (a'.tmps.getD d undef) w') →
      (∀ t, (∀ j, j < m → dstOf ops j ≠ some t) → a'.tmps.getD t undef = a.tmps.getD t undef) → Made ops k m w a' w' → wpOps P ops Q (List.range' m (ops.size - m)) a' w') :
    (Code.region id ops false).wp P Q a w := by
  refine wp_region ?_
  rw [List.range_eq_range']
  have := seq_free (k := k) hs (of_decide_eq_true hle) stable hst2 hS hE m 0 (Array.replicate ops.size false) a w (by omega) ⟨by simp, fun j => by simp [Array.getD_eq_getD_getElem?, Array.getElem?_replicate]; split <;> rfl⟩ ⟨Below.refl _ _, rfl, rfl, fun j d h => ?_, fun t _ => rfl, fun j d T c h => ?_, fun j j' d d' T c T' c' g h => ?_⟩
  · exact this
  all_goals (simp [Array.getD_eq_getD_getElem?, Array.getElem?_replicate] at h; split at h <;> simp at h)
theorem wanted_none {o : Oper} {y : Nat → Option Bool} (h : o.guard = none) : Region.wanted o y = true := by unfold Region.wanted; rw [h]
theorem wanted_some {o : Oper} {y : Nat → Option Bool} {j : Nat} {want b G : Bool} {v : Value} (h : o.guard = some (j, want)) (hy : y j = (match v with | .bool b => some b | _ => none)) (hv : v = bif G then .bool b else undef) : Region.wanted o y = (G && (b == want)) := by
  unfold Region.wanted
  rw [h]
  show (y j == some want) = _
  rw [hy, hv]
  cases G
  · rfl
  · cases b <;> cases want <;> rfl
section ends
variable {o : Oper} {a : Act} {w : World} {D : Value → World → Prop}
theorem val {v : Value} {w1 : World} (hrun : (execOp a.eval o).run P w = .ok (.value v) w1) (hB : Below w.heap.size w w1) (hD : D v w1) : o.wp P a w (fun a' w' => ∃ v, a' = a.put o.dst v ∧ (o.dst ≠ none → D v w') ∧ Below w.heap.size w w') Q := by
  unfold Oper.wp
  rw [hrun]
  exact ⟨v, rfl, fun _ => hD, hB⟩
theorem enters {f : FuncId} {fn : Func} (hf : P.funcs[f]? = some fn) (hname : (fn.name == "runtime.NumGoroutine") = false) (hb : fn.body.isNone = false) (args : Array Value) (w : World) : (callFunc f args).run P w = .ok (.enter f args) w := by
  have h1 : ((Sem.program fun p => Sem.pure p : Sem Program).run P w) = .ok P w := rfl
  unfold callFunc
  show Sem.run P (Sem.bind (Sem.program fun p => Sem.pure p) _) w = _
  simp only [Sem.bind, Sem.run, hf, hname, hb]
  rfl
theorem call {f : FuncId} {fn : Func} {as_ : Array Operand} {ts : Array TypeId} (hf : P.funcs[f]? = some fn) (hname : (fn.name == "runtime.NumGoroutine") = false) (hb : fn.body.isNone = false)
    (hop : o.op = .call { callee := .value (.func f), args := as_, argTypes := ts }) (args : Array Value) (hargs : as_.map a.eval = args)
    (h : Calls P f args w fun e w' => ∃ v, e = .returned v ∧ D v w' ∧ Below w.heap.size w w') : o.wp P a w (fun a' w' => ∃ v, a' = a.put o.dst v ∧ (o.dst ≠ none → D v w') ∧ Below w.heap.size w w') Q := by
  unfold Oper.wp
  have he := enters hf hname hb args w
  have : (execOp a.eval o).run P w = .ok (.enter f args) w := by
    unfold execOp
    rw [hop]
    simp only [resolve, Deferred.ofValue, invoke, Act.eval, hargs]
    have h2 : (#[] : Array Value) ++ args ++ (#[] : Array Value) = args := by simp
    show Sem.run P (callFunc f (#[] ++ args ++ #[])) w = _
    rw [h2]
    exact he
  rw [this]
  refine Calls.mono h ?_
  rintro e w' ⟨v, rfl, hD, hB⟩
  exact ⟨v, rfl, fun _ => hD, hB⟩
theorem run_move {x : Operand} (hop : o.op = .move x) {v : Value} (h : a.eval x = v) : (execOp a.eval o).run P w = .ok (.value v) w := by
  unfold execOp; rw [hop, ← h]; rfl
theorem run_assign {x : Operand} (hop : o.op = .assign x) {v : Value} (h : a.eval x = v) : (execOp a.eval o).run P w = .ok (.value v) w := by
  unfold execOp; rw [hop, ← h]; rfl
theorem run_pick {c x y : Operand} (hop : o.op = .pick c x y) {b : Bool} (h : a.eval c = .bool b) {v : Value} (hv : (if b then a.eval x else a.eval y) = v) : (execOp a.eval o).run P w = .ok (.value v) w := by
  unfold execOp; rw [hop, ← hv]
  simp only [h]
  rfl
theorem run_and {c x y : Operand} (hop : o.op = .pick c x y) (hy : a.eval y = .bool false) {b b' G : Bool} (h : a.eval c = .bool b) (hx : b = true → a.eval x = .bool b') : (execOp a.eval o).run P w = .ok (.value (.bool (b && b'))) w := by
  refine run_pick hop h ?_
  cases b
  · exact hy
  · exact hx rfl
theorem run_or {c x y : Operand} (hop : o.op = .pick c x y) (hx : a.eval x = .bool true) {b b' G : Bool} (h : a.eval c = .bool b) (hy : b = false → a.eval y = .bool b') : (execOp a.eval o).run P w = .ok (.value (.bool (b || b'))) w := by
  refine run_pick hop h ?_
  cases b
  · exact hy rfl
  · exact hx
end ends
theorem frame (a : Act) (n : Nat) (h : a.tmps.size = n) : a = ⟨((List.range n).map fun t => a.tmps.getD t undef).toArray, a.defers⟩ := by
  obtain ⟨t, d⟩ := a
  congr 1
  refine Array.ext (by simpa using h) fun i h1 h2 => ?_
  simp at h2
  simp [Array.getD_eq_getD_getElem?, Array.getElem?_eq_getElem h1]
end Go.Proofs.Eng
end
section
namespace Go.Proofs.Eng
open Go Go.RowKit
set_option linter.unusedSimpArgs false
set_option linter.unusedVariables false
variable {P : Program} {ops : Array Oper} {Q : Exit → Act → World → Prop} {D : Nat → Value → World → Prop} {k : Nat → Kind} {a0 : Act} {w0 : World} {m i : Nat} {o : Oper}
def still (L : List (Value → Prop)) (i : Nat) (v : Value) (_ : World) : Prop := (L.getD i fun _ => True) v
theorem still_stable (L : List (Value → Prop)) : ∀ i v w w', still L i v w → Below w.heap.size w w' → still L i v w' := fun _ _ _ _ h _ => h
theorem still_any (L : List (Value → Prop)) : ∀ i v w w', still L i v w → still L i v w' := fun _ _ _ _ h => h
theorem Steps.nil : Steps P ops Q D k a0 w0 m i [] := trivial
theorem Steps.cons {os : List Oper} (h : i < m → Duty P ops Q D k a0 w0 i o) (hs : Steps P ops Q D k a0 w0 m (i + 1) os) : Steps P ops Q D k a0 w0 m i (o :: os) := ⟨h, hs⟩
structure At (ops : Array Oper) (D : Nat → Value → World → Prop) (a0 : Act) (w0 : World) (i : Nat) (o : Oper) (a : Act) (w : World) : Prop where
  below : Below w0.heap.size w0 w
  dep : ∀ j d, bound o j = true → dstOf ops j = some d → D j (a.eval (.tmp d)) w
  kept : ∀ t, old ops i t = true → a.eval (.tmp t) = a0.eval (.tmp t)
theorem plain (hk : k i = .plain) (hg : o.guard = none) (h : ∀ (a : Act) (w : World), At ops D a0 w0 i o a w → o.wp P a w (fun a' w' => ∃ v, a' = a.put o.dst v ∧ (o.dst ≠ none → D i v w') ∧ Below w.heap.size w w') Q) : Duty P ops Q D k a0 w0 i o := by
  unfold Duty; rw [hk]
  intro a w hB hd ho
  rw [if_pos (wanted_none hg)]
  exact h a w ⟨hB, fun j d hb he => (hd j d hb he).1, ho⟩
theorem guarded {j d : Nat} {want b G : Bool} (hk : k i = .plain) (hg : o.guard = some (j, want)) (hb : bound o j = true) (hd : dstOf ops j = some d) (hD : ∀ (v : Value) (w : World), D j v w → v = bif G then .bool b else undef)
    (hoff : (G && (b == want)) = false → ∀ w : World, D i undef w)
    (h : (G && (b == want)) = true → ∀ (a : Act) (w : World), At ops D a0 w0 i o a w → o.wp P a w (fun a' w' => ∃ v, a' = a.put o.dst v ∧ (o.dst ≠ none → D i v w') ∧ Below w.heap.size w w') Q) : Duty P ops Q D k a0 w0 i o := by
  unfold Duty; rw [hk]
  intro a w hB hdep ho
  have h1 := hdep j d hb hd
  rw [wanted_some hg h1.2 (hD _ _ h1.1)]
  split
  · rename_i hw
    exact h hw a w ⟨hB, fun j d hb he => (hdep j d hb he).1, ho⟩
  · rename_i hw
    exact fun _ => hoff (by simpa using hw) w
theorem guarded1 {j d : Nat} {want b : Bool} (hk : k i = .plain) (hg : o.guard = some (j, want)) (hb : bound o j = true) (hd : dstOf ops j = some d) (hD : ∀ (v : Value) (w : World), D j v w → v = .bool b)
    (hoff : (b == want) = false → ∀ w : World, D i undef w)
    (h : (b == want) = true → ∀ (a : Act) (w : World), At ops D a0 w0 i o a w → o.wp P a w (fun a' w' => ∃ v, a' = a.put o.dst v ∧ (o.dst ≠ none → D i v w') ∧ Below w.heap.size w w') Q) : Duty P ops Q D k a0 w0 i o :=
  guarded (G := true) hk hg hb hd hD (by rw [Bool.true_and]; exact hoff) (by rw [Bool.true_and]; exact h)
theorem on {G : Bool} {v x : Value} (e : x = bif G then v else undef) (h : G = true) : x = v := by rw [e, h]; rfl
theorem off {G : Bool} {v : Value} (h : G = false) : undef = bif G then v else undef := by rw [h]; rfl
theorem off' {G : Bool} {v x : Value} (h : G = true) (e : x = v) : x = bif G then v else undef := by rw [h, e]; rfl
theorem one2 {b want : Bool} (h : (b == want) = true) : b = want := by simpa using h
theorem mk2 {x b want : Bool} (h : x = true) (hb : b = want) : (x && (b == want)) = true := by rw [h, hb]; simp
theorem mk1 {b want : Bool} (hb : b = want) : (b == want) = true := by rw [hb]; simp
theorem made {T : TypeId} {cs : Array Value} (hk : k i = .alloc T cs) (hn : o.dst ≠ none) (hg : o.guard = none) (h : ∀ (a : Act) (w : World), (∀ j d, bound o j = true → dstOf ops j = some d → D j (a.eval (.tmp d)) w) → (∀ t, old ops i t = true → a.eval (.tmp t) = a0.eval (.tmp t)) →
    (execOp a.eval o).run P w = .ok (.value (.pointer (some ⟨w.heap.size, 0, none⟩))) (w.alloc (.cells cs T (0, 0)))) (hD : ∀ (v : Value) (w : World), D i v w) : Duty P ops Q D k a0 w0 i o := by
  unfold Duty; rw [hk]
  exact ⟨hn, hg, fun a w hd ho => ⟨h a w hd ho, hD _ _⟩⟩
def putAll (w : World) (g : Nat) : Nat → List Value → World
  | _, [] => w
  | n, v :: vs => putAll (w.setCell ⟨g, n, none⟩ v) g (n + 1) vs
theorem setCell_heap {w : World} {g n : Nat} {v : Value} {cs : Array Value} {T : TypeId} {fz : Nat × Nat} (h : w.heap[g]? = some (.cells cs T fz)) : (w.setCell ⟨g, n, none⟩ v).heap[g]? = some (.cells (cs.setIfInBounds n v) T fz) := by
  simp [World.setCell, Array.getElem?_modify, h]
theorem setCell_far {w : World} {g n b : Nat} {v : Value} (h : b ≠ g) : (w.setCell ⟨g, n, none⟩ v).heap[b]? = w.heap[b]? := Below.heap_setCell _ _ _ _ h
theorem setCell_size {w : World} {a : Addr} {v : Value} : (w.setCell a v).heap.size = w.heap.size := by simp [World.setCell]
theorem putAll_spec {g : Nat} {T : TypeId} {fz : Nat × Nat} : ∀ (vs : List Value) (n : Nat) (w : World) (cs : Array Value), w.heap[g]? = some (.cells cs T fz) →
    (putAll w g n vs).heap[g]? = some (.cells (vs.zipIdx n |>.foldl (fun c x => c.setIfInBounds x.2 x.1) cs) T fz) ∧ (∀ b, b ≠ g → (putAll w g n vs).heap[b]? = w.heap[b]?) ∧ (putAll w g n vs).heap.size = w.heap.size ∧
    (putAll w g n vs).os = w.os ∧ (putAll w g n vs).tape = w.tape ∧ (putAll w g n vs).output = w.output
  | [], _, _, _, h => ⟨h, fun _ _ => rfl, rfl, rfl, rfl, rfl⟩
  | v :: vs, n, w, cs, h => by
    obtain ⟨h1, h2, h3, h4, h5, h6⟩ := putAll_spec vs (n + 1) _ _ (setCell_heap (n := n) (v := v) h)
    exact ⟨h1, fun b hb => (h2 b hb).trans (setCell_far hb), h3.trans setCell_size, h4, h5, h6⟩
theorem stored {j d : Nat} {T : TypeId} {c0 : Array Value} (vs : List Value) (hk : k i = .store j vs.toArray) (hn : o.dst = none) (hg : o.guard = none) (hb : bound o j = true) (hd : dstOf ops j = some d) (hkj : k j = .alloc T c0)
    (hu : ∀ i' cs', k i' = .store j cs' → i' = i) (hsz : c0.size = vs.toArray.size) (hfold : (vs.zipIdx 0 |>.foldl (fun c x => c.setIfInBounds x.2 x.1) c0) = vs.toArray)
    (h : ∀ (a : Act) (w : World) (g : Nat), a.eval (.tmp d) = .pointer (some ⟨g, 0, none⟩) → w.heap[g]? = some (.cells c0 T (0, 0)) → (∀ j d, bound o j = true → dstOf ops j = some d → D j (a.eval (.tmp d)) w) → (∀ t, old ops i t = true → a.eval (.tmp t) = a0.eval (.tmp t)) →
      (execOp a.eval o).run P w = .ok .skip (putAll w g 0 vs)) : Duty P ops Q D k a0 w0 i o := by
  unfold Duty; rw [hk]
  refine ⟨hn, hg, d, T, c0, hb, hd, hkj, hu, hsz, fun a w g e hc hdep ho => ?_⟩
  obtain ⟨h1, h2, h3, h4, h5, h6⟩ := putAll_spec vs 0 w c0 hc
  rw [hfold] at h1
  exact ⟨_, h a w g e hc hdep ho, h1, h2, h3, h4, h5, h6⟩
theorem cells {w : World} {g : Nat} {cs : Array Value} {T : TypeId} {fz : Nat × Nat} (h : w.heap[g]? = some (.cells cs T fz)) (n : Nat) : w.cell? ⟨g, n, none⟩ = cs[n]? := by unfold World.cell?; rw [h]; rfl
theorem unfrozen {w : World} {g : Nat} {cs : Array Value} {T : TypeId} (h : w.heap[g]? = some (.cells cs T (0, 0))) (n : Nat) : w.frozen? ⟨g, n, none⟩ = false := by unfold World.frozen?; rw [h]; simp
theorem enter {f : FuncId} {fn : Func} {c : Code} {args : Array Value} {w : World} {R : Ending → World → Prop} (hf : P.funcs[f]? = some fn) (hb : fn.body = some c)
    (h : ∀ a : Act, a.defers = [] → a.tmps.size = args.size + (fn.ntmps - args.size) → (∀ t, t < args.size → a.eval (.tmp t) = args.getD t undef) → c.wp P (bodyPost P fn R) a w) : Calls P f args w R := by
  refine calls_of_wp hf hb (h _ rfl (by simp) fun t ht => ?_)
  show (args ++ Array.replicate (fn.ntmps - args.size) undef).getD t undef = _
  simp [Array.getD_eq_getD_getElem?, Array.getElem?_append_left ht]
theorem notdst {t : Nat} (h : (List.range m).all (fun j => dstOf ops j != some t) = true) : ∀ j, j < m → dstOf ops j ≠ some t := fun j hj => by
  have := all_range.1 h j hj
  simpa using this
theorem ret1 {fn : Func} {t : Nat} {R : Ending → World → Prop} {a : Act} {w : World} (h : fn.results = #[.tmp t]) (hd : a.defers = []) {v : Value} (e : a.eval (.tmp t) = v) (hR : R (.returned v) w) : bodyPost P fn R .ret a w :=
  ⟨hd, v, by rw [Go.results_tmp h]; exact congrArg (fun x => Result.ok x w) e, hR⟩
theorem callv {f : FuncId} {fn : Func} {g : Operand} {cap : Array Value} {as_ : Array Operand} {ts : Array TypeId} {a : Act} {w : World} {D : Value → World → Prop} (hf : P.funcs[f]? = some fn) (hname : (fn.name == "runtime.NumGoroutine") = false) (hb : fn.body.isNone = false)
    (hop : o.op = .call { callee := .value g, args := as_, argTypes := ts }) (hg : a.eval g = .func (.func f) #[] cap) (args : Array Value) (hargs : as_.map a.eval = args)
    (h : Calls P f (args ++ cap) w fun e w' => ∃ v, e = .returned v ∧ D v w' ∧ Below w.heap.size w w') : o.wp P a w (fun a' w' => ∃ v, a' = a.put o.dst v ∧ (o.dst ≠ none → D v w') ∧ Below w.heap.size w w') Q := by
  unfold Oper.wp
  have he := enters hf hname hb (args ++ cap) w
  have : (execOp a.eval o).run P w = .ok (.enter f (args ++ cap)) w := by
    unfold execOp
    rw [hop]
    simp only [resolve, Deferred.ofValue, invoke, hg, hargs]
    have h2 : (#[] : Array Value) ++ args ++ cap = args ++ cap := by simp
    show Sem.run P (callFunc f (#[] ++ args ++ cap)) w = _
    rw [h2]
    exact he
  rw [this]
  refine Calls.mono h ?_
  rintro e w' ⟨v, rfl, hD, hB⟩
  exact ⟨v, rfl, fun _ => hD, hB⟩
section runs
variable {a : Act} {w : World}
theorem run_not {x : Operand} {T : TypeId} (hop : o.op = .unOp .not T x) {b : Bool} (h : a.eval x = .bool b) : (execOp a.eval o).run P w = .ok (.value (.bool (!b))) w := by
  unfold execOp; rw [hop]; simp only [h]; rfl
end runs
theorem store_uniq {ks : List Kind} {j i : Nat} (h : ((List.range ks.length).all fun n => match ks[n]? with | some (.store j' _) => j' != j || n == i | _ => true) = true) : ∀ n cs, ks.getD n .plain = .store j cs → n = i := by
  intro n cs hn
  rcases Nat.lt_or_ge n ks.length with hl | hl
  · have h1 := all_range.1 h n hl
    rw [List.getD_eq_getElem?_getD] at hn
    rw [List.getElem?_eq_getElem hl] at hn h1
    simp only [Option.getD_some] at hn
    rw [hn] at h1
    simpa using h1
  · rw [List.getD_eq_getElem?_getD, List.getElem?_eq_none hl] at hn; cases hn
theorem no_store {ks : List Kind} {j : Nat} (h : (ks.all fun x => match x with | .store j' _ => j' != j | _ => true) = true) : ∀ n cs, n < m → ks.getD n .plain ≠ .store j cs := by
  intro n cs _ hn
  rcases Nat.lt_or_ge n ks.length with hl | hl
  · rw [List.getD_eq_getElem?_getD, List.getElem?_eq_getElem hl] at hn
    simp only [Option.getD_some] at hn
    have := List.all_eq_true.1 h _ (List.getElem_mem hl)
    rw [hn] at this
    simp at this
  · rw [List.getD_eq_getElem?_getD, List.getElem?_eq_none hl] at hn; cases hn
structure Then (ops : Array Oper) (m : Nat) (D : Nat → Value → World → Prop) (k : Nat → Kind) (a0 : Act) (w0 : World) (a : Act) (w : World) : Prop where
  below : Below w0.heap.size w0 w
  defers : a.defers = a0.defers
  size : a.tmps.size = a0.tmps.size
  done : ∀ j d, (decide (j < m)) = true → dstOf ops j = some d → D j (a.eval (.tmp d)) w
  rest : ∀ t, (List.range m).all (fun j => dstOf ops j != some t) = true → a.eval (.tmp t) = a0.eval (.tmp t)
  made : Made ops k m w0 a w
theorem in_ret {id : Nat} {a : Act} {w : World} (h : Q .ret a w) : Exit.inBlock id Q .ret a w := h
theorem then_ret {K : Act → World → Prop} {a : Act} {w : World} (h : Q .ret a w) : Exit.then K Q .ret a w := h
section thens
variable {ks : List Kind} {a : Act} {w : World}
theorem Then.al (h : Then ops m D (fun i => ks.getD i .plain) a0 w0 a w) (j d : Nat) (T : TypeId) (c0 : Array Value) (hj : decide (j < m) = true) (hk : ks.getD j .plain = .alloc T c0) (hd : dstOf ops j = some d)
    (hno : (ks.all fun x => match x with | .store j' _ => j' != j | _ => true) = true) : ∃ g, a.eval (.tmp d) = .pointer (some ⟨g, 0, none⟩) ∧ w0.heap.size ≤ g ∧ g < w.heap.size ∧ w.heap[g]? = some (.cells c0 T (0, 0)) := by
  obtain ⟨g, h1, h2, h3, cs, h4, h5, h6⟩ := h.made.al j d T c0 (of_decide_eq_true hj) hk hd
  have := h6 (no_store hno)
  subst this
  exact ⟨g, h1, h2, h3, h4⟩
theorem Then.st (h : Then ops m D (fun i => ks.getD i .plain) a0 w0 a w) (j d i : Nat) (T : TypeId) (c0 cs : Array Value) (hj : decide (j < m) = true) (hi : decide (i < m) = true) (hk : ks.getD j .plain = .alloc T c0) (hd : dstOf ops j = some d)
    (hki : ks.getD i .plain = .store j cs) : ∃ g, a.eval (.tmp d) = .pointer (some ⟨g, 0, none⟩) ∧ w0.heap.size ≤ g ∧ g < w.heap.size ∧ w.heap[g]? = some (.cells cs T (0, 0)) := by
  obtain ⟨g, h1, h2, h3, cs', h4, h5, h6⟩ := h.made.al j d T c0 (of_decide_eq_true hj) hk hd
  have := h5 i cs (of_decide_eq_true hi) hki
  subst this
  exact ⟨g, h1, h2, h3, h4⟩
theorem regionD {id : Nat} (D : Nat → Value → World → Prop) (k : Nat → Kind) (m c n : Nat) (hm : P.follows .mixedOrders = true) (hn : a.tmps.size = n) (hc : ops.size = m + c) (hs : shape ops m n = true)
    (stable : ∀ i v w w', D i v w → Below w.heap.size w w' → D i v w') (hst2 : (∀ i j cs, k i ≠ .store j cs) ∨ ∀ i v w w', D i v w → D i v w')
    (hS : Steps P ops Q D k a w m 0 ops.toList) (hE : ∀ a' w', Then ops m D k a w a' w' → wpOps P ops Q (List.range' m c) a' w') : (Code.region id ops true).wp P Q a w := by
  subst hn
  refine region m D k hm hs (by simp; omega) stable hst2 hS fun a' w' h1 h2 h3 h4 h5 h6 => ?_
  rw [hc, Nat.add_sub_cancel_left]
  exact hE a' w' ⟨h1, h2, h3, fun j d hj => h4 j d (of_decide_eq_true hj), fun t ht => h5 t (notdst ht), h6⟩
theorem regionS {id : Nat} (D : Nat → Value → World → Prop) (k : Nat → Kind) (m c n : Nat) (hn : a.tmps.size = n) (hc : ops.size = m + c) (hs : shape ops m n = true)
    (stable : ∀ i v w w', D i v w → Below w.heap.size w w' → D i v w') (hst2 : (∀ i j cs, k i ≠ .store j cs) ∨ ∀ i v w w', D i v w → D i v w')
    (hS : Steps P ops Q D k a w m 0 ops.toList) (hE : ∀ a' w', Then ops m D k a w a' w' → wpOps P ops Q (List.range' m c) a' w') : (Code.region id ops false).wp P Q a w := by
  subst hn
  refine region_seq m D k hs (by simp; omega) stable hst2 hS fun a' w' h1 h2 h3 h4 h5 h6 => ?_
  rw [hc, Nat.add_sub_cancel_left]
  exact hE a' w' ⟨h1, h2, h3, fun j d hj => h4 j d (of_decide_eq_true hj), fun t ht => h5 t (notdst ht), h6⟩
theorem drop_get {os : List Oper} (h : ops.toList.drop i = o :: os) : ops[i]? = some o := by
  have := congrArg (fun l => l[0]?) h
  simpa [List.getElem?_drop] using this
theorem tail_nil (h : Q .normal a w) : wpOps P ops Q (List.range' m 0) a w := h
theorem tail_skip {c : Nat} {w1 : World} {os : List Oper} (ho' : ops.toList.drop i = o :: os) (hg : o.guard = none) (hd : o.dst = none) (hrun : (execOp a.eval o).run P w = .ok .skip w1) (h : wpOps P ops Q (List.range' (i + 1) c) a w1) : wpOps P ops Q (List.range' i (c + 1)) a w := by
  have ho := drop_get ho'
  rw [List.range'_succ, wpOps_cons]
  unfold wpOp
  rw [ho]
  simp only
  rw [if_pos (wanted_none hg)]
  refine .inl ?_
  unfold Oper.wp
  rw [hrun]
  show wpOps P ops Q _ (a.put o.dst undef) w1
  rw [hd]; exact h
theorem tail_val {c d n : Nat} {v : Value} {w1 : World} {os : List Oper} (ho' : ops.toList.drop i = o :: os) (hg : o.guard = none) (hd : o.dst = some d) (hrun : (execOp a.eval o).run P w = .ok (.value v) w1) (hn : a.tmps.size = n) (hlt : decide (d < n) = true)
    (h : ∀ a' : Act, a'.defers = a.defers → a'.tmps.size = n → a'.eval (.tmp d) = v → (∀ t, (t != d) = true → a'.eval (.tmp t) = a.eval (.tmp t)) → wpOps P ops Q (List.range' (i + 1) c) a' w1) : wpOps P ops Q (List.range' i (c + 1)) a w := by
  have ho := drop_get ho'
  rw [List.range'_succ, wpOps_cons]
  unfold wpOp
  rw [ho]
  simp only
  rw [if_pos (wanted_none hg)]
  refine .inl ?_
  unfold Oper.wp
  rw [hrun]
  show wpOps P ops Q _ (a.put o.dst v) w1
  rw [hd]
  have hlt := of_decide_eq_true hlt
  have hx : ∀ d', some d = some d' → d' < a.tmps.size := fun d' e => by injection e with e; omega
  refine h _ rfl (by simp [Act.put, hn]) ?_ fun t ht => ?_
  · show (a.put (some d) v).tmps.getD d undef = v
    rw [put_getD _ _ _ _ hx, if_pos rfl]
  · show (a.put (some d) v).tmps.getD t undef = _
    rw [put_getD _ _ _ _ hx, if_neg (fun e => by injection e with e; simp [e] at ht)]
    rfl
end thens
structure Sets (w w' : World) (g : Nat) (o : Obj) : Prop where
  new : w'.heap[g]? = some o
  far : ∀ b, b ≠ g → w'.heap[b]? = w.heap[b]?
  size : w'.heap.size = w.heap.size
  os : w'.os = w.os
  tape : w'.tape = w.tape
  output : w'.output = w.output
theorem Sets.below {w w' : World} {g : Nat} {o : Obj} (h : Sets w w' g o) {W : World} {B : Nat} (hb : Below B W w) (hg : B ≤ g) : Below B W w' :=
  hb.trans ⟨h.os, h.tape, h.output, by have := h.size; omega, fun k hk => h.far k (by omega)⟩
theorem Sets.of_putAll {w : World} {g : Nat} {T : TypeId} {cs : Array Value} {n : Nat} (vs : List Value) (h : w.heap[g]? = some (.cells cs T (0, 0))) : Sets w (putAll w g n vs) g (.cells (vs.zipIdx n |>.foldl (fun c x => c.setIfInBounds x.2 x.1) cs) T (0, 0)) := by
  obtain ⟨h1, h2, h3, h4, h5, h6⟩ := putAll_spec vs n w cs h
  exact ⟨h1, h2, h3, h4, h5, h6⟩
theorem Sets.of_setCell {w : World} {g : Nat} {T : TypeId} {cs : Array Value} (n : Nat) (v : Value) (h : w.heap[g]? = some (.cells cs T (0, 0))) : Sets w (w.setCell ⟨g, n, none⟩ v) g (.cells (cs.setIfInBounds n v) T (0, 0)) :=
  Sets.of_putAll (n := n) [v] h
section tails
variable {a : Act} {w : World}
theorem tail_set {c g n : Nat} {T : TypeId} {cs new : Array Value} {v : Value} {os : List Oper} (ho : ops.toList.drop i = o :: os) (hg : o.guard = none) (hd : o.dst = none) (hk : w.heap[g]? = some (.cells cs T (0, 0))) (hnew : cs.setIfInBounds n v = new)
    (hrun : (execOp a.eval o).run P w = .ok .skip (w.setCell ⟨g, n, none⟩ v)) (h : ∀ w', Sets w w' g (.cells new T (0, 0)) → wpOps P ops Q (List.range' (i + 1) c) a w') : wpOps P ops Q (List.range' i (c + 1)) a w :=
  tail_skip ho hg hd hrun (h _ (hnew ▸ Sets.of_setCell n v hk))
theorem tail_put {c g n : Nat} {T : TypeId} {cs new : Array Value} (vs : List Value) {os : List Oper} (ho : ops.toList.drop i = o :: os) (hg : o.guard = none) (hd : o.dst = none) (hk : w.heap[g]? = some (.cells cs T (0, 0))) (hnew : (vs.zipIdx n |>.foldl (fun c x => c.setIfInBounds x.2 x.1) cs) = new)
    (hrun : (execOp a.eval o).run P w = .ok .skip (putAll w g n vs)) (h : ∀ w', Sets w w' g (.cells new T (0, 0)) → wpOps P ops Q (List.range' (i + 1) c) a w') : wpOps P ops Q (List.range' i (c + 1)) a w :=
  tail_skip ho hg hd hrun (h _ (hnew ▸ Sets.of_putAll (n := n) vs hk))
theorem run_box {T : TypeId} {x : Operand} {v : Value} (hop : o.op = .box T x) (h : a.eval x = v) : (execOp a.eval o).run P w = .ok (.value (.pointer (some ⟨w.heap.size, 0, none⟩))) (w.alloc (.cells v.cells T (0, 0))) := by
  unfold execOp; rw [hop, ← h]; rfl
theorem run_alloc {T : TypeId} {cs : Array Value} (hop : o.op = .alloc T) (hz : (zeroValue T).run P w = .ok (.agg cs) w) : (execOp a.eval o).run P w = .ok (.value (.pointer (some ⟨w.heap.size, 0, none⟩))) (w.alloc (.cells cs T (0, 0))) := by
  unfold execOp; rw [hop]
  simp only [Instr.alloc, Sem.run_bind, hz, Result.andThen_ok]
  rfl
theorem run_load_all {T ty : TypeId} {x : Operand} {g : Nat} {cs : Array Value} {fz : Nat × Nat} {d : TypeDesc} (hop : o.op = .load ty x) (h : a.eval x = .pointer (some ⟨g, 0, none⟩)) (hb : w.heap[g]? = some (.cells cs T fz))
    (hu : P.underlying ty = some d) (hd : d.isRow = true) (hi : (P.info? ty).map (·.size) = some cs.size) : (execOp a.eval o).run P w = .ok (.value (.agg cs)) w := by
  have hr := World.rangeAt_of_block hb 0 cs.size
  have hl := run_loadAt_mid (P := P) w g 0 ty _ d hr hu hd (by rw [hi]; simp)
  unfold execOp; rw [hop]
  simp only [h, Sem.run_bind, hl, Result.andThen_ok]
  simp
end tails
section loops
variable {a : Act} {w : World}
theorem loopN {c : Code} (I : Nat → Act → World → Prop) {n0 : Nat} (h0 : I n0 a w) (round : ∀ n a w, I n a w → c.wp P (Exit.then (fun a' w' => ∃ n', n' < n ∧ I n' a' w') Q) a w) : (Code.loop c).wp P Q a w := by
  have least : ∀ n a w, I n a w → ∃ m, I m a w ∧ m ≤ n ∧ ∀ k, I k a w → m ≤ k := by
    intro n
    induction n using Nat.strongRecOn with
    | _ n ih =>
      intro a w h
      by_cases hx : ∃ k, k < n ∧ I k a w
      · obtain ⟨k, hk, hI⟩ := hx
        obtain ⟨m, h1, h2, h3⟩ := ih k hk a w hI
        exact ⟨m, h1, by omega, h3⟩
      · exact ⟨n, h, Nat.le_refl _, fun k hk => by
          rcases Nat.lt_or_ge k n with hl | hl
          · exact absurd ⟨k, hl, hk⟩ hx
          · exact hl⟩
  classical
  let mu : Act → World → Nat := fun a w => if h : ∃ n, I n a w then Classical.choose (least _ a w (Classical.choose_spec h)) else 0
  have hmu : ∀ n a w, I n a w → I (mu a w) a w ∧ mu a w ≤ n := by
    intro n a w h
    have hx : ∃ n, I n a w := ⟨n, h⟩
    have hs := Classical.choose_spec (least _ a w (Classical.choose_spec hx))
    have e : mu a w = Classical.choose (least _ a w (Classical.choose_spec hx)) := by
      show (if h : ∃ n, I n a w then Classical.choose (least _ a w (Classical.choose_spec h)) else 0) = _
      rw [dif_pos hx]
    rw [e]
    exact ⟨hs.1, hs.2.2 n h⟩
  refine wp_loop (fun a w => ∃ n, I n a w) mu ⟨n0, h0⟩ fun a w ⟨n, h⟩ => ?_
  refine wp_mono (round _ a w (hmu n a w h).1) fun e a' w' hq => ?_
  cases e with
  | normal =>
    obtain ⟨n', hn, hI⟩ := hq
    exact ⟨⟨n', hI⟩, Nat.lt_of_le_of_lt (hmu n' a' w' hI).2 hn⟩
  | _ => exact hq
theorem i64_id {x : Int} (h0 : -9223372036854775808 ≤ x) (h1 : x ≤ 9223372036854775807) : IntKind.i64.wrap x = x := by
  rw [IntKind.wrap_i64]
  omega
end loops
end Go.Proofs.Eng
end
