/- Words and walks that the row of LatticeTells needs: printed by programs, and plain laws. -/
import Derived.Test.YthgafcaoibfchaaDoorM4
import Derived.WalkKit
import Derived.OpenShut
import Derived.Laws.Rows
import Derived.Deep.MidRow
import Derived.Test.YthgafcaoibfchaaDoorProg
import Derived.Below
import Derived.Deep.Draws
import Derived.Deep.AppendLies
import Derived.Maps.AppendAt
import Derived.OwnWalk
import Derived.Laws.BytesArg
import Derived.Laws.MakeOwn
import Derived.Laws.OwnMore
import Derived.Deep.OwnRows
import Derived.Tactics
import Derived.Lib.ConvBytes
import Derived.Laws.Slices
import Derived.KernelRfl
import Derived.RowKit3
import Derived.Deep.LoopGhost
import Derived.Deep.QuietTactic
import Derived.BigQuiet
import Derived.WideLaws
import Derived.Deep.DeepCutAuto
import Derived.Deep.CutBlock
import Derived.Deep.RegionHeld3
import Derived.Lib.AppendStr
import Derived.ArgAppend
import Derived.Laws.IdiomCopy
import Derived.OrdersHeld
import Derived.Laws.BitsLemmas
import Derived.RowKit
import Derived.Test.YthgafcaoibfchaaDoorM0
import Derived.Shelf.Strings.SlTrimAscii
import Derived.Test.YthgafcaoibfchaaDoorM1
section
namespace Go.Proofs.Eng
open Go Go.RowKit
set_option linter.unusedSimpArgs false
set_option linter.unusedVariables false
variable {P : Program} {ops : Array Oper} {Q : Exit → Act → World → Prop} {D : Nat → Value → World → Prop} {k : Nat → Kind} {a0 : Act} {w0 : World} {m i : Nat} {o : Oper}
def still (L : List (Value → Prop)) (i : Nat) (v : Value) (_ : World) : Prop := (L.getD i fun _ => True) v
theorem still_stable (L : List (Value → Prop)) : ∀ i v w w', still L i v w → Below w.heap.size w w' → still L i v w' := fun _ _ _ _ h _ => h
theorem still_any (L : List (Value → Prop)) : ∀ i v w w', still L i v w → still L i v w' := fun _ _ _ _ h => h
theorem Steps.nil : Steps P ops Q D k a0 w0 m i [] := trivial
theorem Steps.cons {os : List Oper} (h : i < m → Duty P ops Q D k a0 w0 i o) (hs : Steps P ops Q D k a0 w0 m (i + 1) os) : Steps P ops Q D k a0 w0 m i (o :: os) := ⟨h, hs⟩
structure At (ops : Array Oper) (D : Nat → Value → World → Prop) (a0 : Act) (w0 : World) (i : Nat) (o : Oper) (a : Act) (w : World) : Prop where
  below : Below w0.heap.size w0 w
  dep : ∀ j d, bound o j = true → dstOf ops j = some d → D j (a.eval (.tmp d)) w
  kept : ∀ t, old ops i t = true → a.eval (.tmp t) = a0.eval (.tmp t)
theorem plain (hk : k i = .plain) (hg : o.guard = none) (h : ∀ (a : Act) (w : World), At ops D a0 w0 i o a w → o.wp P a w (fun a' w' => ∃ v, a' = a.put o.dst v ∧ (o.dst ≠ none → D i v w') ∧ Below w.heap.size w w') Q) : Duty P ops Q D k a0 w0 i o := by
  unfold Duty; rw [hk]
  intro a w hB hd ho
  rw [if_pos (wanted_none hg)]
  exact h a w ⟨hB, fun j d hb he => (hd j d hb he).1, ho⟩
theorem guarded {j d : Nat} {want b G : Bool} (hk : k i = .plain) (hg : o.guard = some (j, want)) (hb : bound o j = true) (hd : dstOf ops j = some d) (hD : ∀ (v : Value) (w : World), D j v w → v = bif G then .bool b else undef)
    (hoff : (G && (b == want)) = false → ∀ w : World, D i undef w)
    (h : (G && (b == want)) = true → ∀ (a : Act) (w : World), At ops D a0 w0 i o a w → o.wp P a w (fun a' w' => ∃ v, a' = a.put o.dst v ∧ (o.dst ≠ none → D i v w') ∧ Below w.heap.size w w') Q) : Duty P ops Q D k a0 w0 i o := by
  unfold Duty; rw [hk]
  intro a w hB hdep ho
  have h1 := hdep j d hb hd
  rw [wanted_some hg h1.2 (hD _ _ h1.1)]
  split
  · rename_i hw
    exact h hw a w ⟨hB, fun j d hb he => (hdep j d hb he).1, ho⟩
  · rename_i hw
    exact fun _ => hoff (by simpa using hw) w
theorem guarded1 {j d : Nat} {want b : Bool} (hk : k i = .plain) (hg : o.guard = some (j, want)) (hb : bound o j = true) (hd : dstOf ops j = some d) (hD : ∀ (v : Value) (w : World), D j v w → v = .bool b)
    (hoff : (b == want) = false → ∀ w : World, D i undef w)
    (h : (b == want) = true → ∀ (a : Act) (w : World), At ops D a0 w0 i o a w → o.wp P a w (fun a' w' => ∃ v, a' = a.put o.dst v ∧ (o.dst ≠ none → D i v w') ∧ Below w.heap.size w w') Q) : Duty P ops Q D k a0 w0 i o :=
  guarded (G := true) hk hg hb hd hD (by rw [Bool.true_and]; exact hoff) (by rw [Bool.true_and]; exact h)
theorem on {G : Bool} {v x : Value} (e : x = bif G then v else undef) (h : G = true) : x = v := by rw [e, h]; rfl
theorem off {G : Bool} {v : Value} (h : G = false) : undef = bif G then v else undef := by rw [h]; rfl
theorem off' {G : Bool} {v x : Value} (h : G = true) (e : x = v) : x = bif G then v else undef := by rw [h, e]; rfl
theorem mk1 {b want : Bool} (hb : b = want) : (b == want) = true := by rw [hb]; simp
theorem made {T : TypeId} {cs : Array Value} (hk : k i = .alloc T cs) (hn : o.dst ≠ none) (hg : o.guard = none) (h : ∀ (a : Act) (w : World), (∀ j d, bound o j = true → dstOf ops j = some d → D j (a.eval (.tmp d)) w) → (∀ t, old ops i t = true → a.eval (.tmp t) = a0.eval (.tmp t)) →
    (execOp a.eval o).run P w = .ok (.value (.pointer (some ⟨w.heap.size, 0, none⟩))) (w.alloc (.cells cs T (0, 0)))) (hD : ∀ (v : Value) (w : World), D i v w) : Duty P ops Q D k a0 w0 i o := by
  unfold Duty; rw [hk]
  exact ⟨hn, hg, fun a w hd ho => ⟨h a w hd ho, hD _ _⟩⟩
def putAll (w : World) (g : Nat) : Nat → List Value → World
  | _, [] => w
  | n, v :: vs => putAll (w.setCell ⟨g, n, none⟩ v) g (n + 1) vs
theorem setCell_heap {w : World} {g n : Nat} {v : Value} {cs : Array Value} {T : TypeId} {fz : Nat × Nat} (h : w.heap[g]? = some (.cells cs T fz)) : (w.setCell ⟨g, n, none⟩ v).heap[g]? = some (.cells (cs.setIfInBounds n v) T fz) := by
  simp [World.setCell, Array.getElem?_modify, h]
theorem setCell_far {w : World} {g n b : Nat} {v : Value} (h : b ≠ g) : (w.setCell ⟨g, n, none⟩ v).heap[b]? = w.heap[b]? := Below.heap_setCell _ _ _ _ h
theorem setCell_size {w : World} {a : Addr} {v : Value} : (w.setCell a v).heap.size = w.heap.size := by simp [World.setCell]
theorem putAll_spec {g : Nat} {T : TypeId} {fz : Nat × Nat} : ∀ (vs : List Value) (n : Nat) (w : World) (cs : Array Value), w.heap[g]? = some (.cells cs T fz) →
    (putAll w g n vs).heap[g]? = some (.cells (vs.zipIdx n |>.foldl (fun c x => c.setIfInBounds x.2 x.1) cs) T fz) ∧ (∀ b, b ≠ g → (putAll w g n vs).heap[b]? = w.heap[b]?) ∧ (putAll w g n vs).heap.size = w.heap.size ∧
    (putAll w g n vs).os = w.os ∧ (putAll w g n vs).tape = w.tape ∧ (putAll w g n vs).output = w.output
  | [], _, _, _, h => ⟨h, fun _ _ => rfl, rfl, rfl, rfl, rfl⟩
  | v :: vs, n, w, cs, h => by
    obtain ⟨h1, h2, h3, h4, h5, h6⟩ := putAll_spec vs (n + 1) _ _ (setCell_heap (n := n) (v := v) h)
    exact ⟨h1, fun b hb => (h2 b hb).trans (setCell_far hb), h3.trans setCell_size, h4, h5, h6⟩
theorem stored {j d : Nat} {T : TypeId} {c0 : Array Value} (vs : List Value) (hk : k i = .store j vs.toArray) (hn : o.dst = none) (hg : o.guard = none) (hb : bound o j = true) (hd : dstOf ops j = some d) (hkj : k j = .alloc T c0)
    (hu : ∀ i' cs', k i' = .store j cs' → i' = i) (hsz : c0.size = vs.toArray.size) (hfold : (vs.zipIdx 0 |>.foldl (fun c x => c.setIfInBounds x.2 x.1) c0) = vs.toArray)
    (h : ∀ (a : Act) (w : World) (g : Nat), a.eval (.tmp d) = .pointer (some ⟨g, 0, none⟩) → w.heap[g]? = some (.cells c0 T (0, 0)) → (∀ j d, bound o j = true → dstOf ops j = some d → D j (a.eval (.tmp d)) w) → (∀ t, old ops i t = true → a.eval (.tmp t) = a0.eval (.tmp t)) →
      (execOp a.eval o).run P w = .ok .skip (putAll w g 0 vs)) : Duty P ops Q D k a0 w0 i o := by
  unfold Duty; rw [hk]
  refine ⟨hn, hg, d, T, c0, hb, hd, hkj, hu, hsz, fun a w g e hc hdep ho => ?_⟩
  obtain ⟨h1, h2, h3, h4, h5, h6⟩ := putAll_spec vs 0 w c0 hc
  rw [hfold] at h1
  exact ⟨_, h a w g e hc hdep ho, h1, h2, h3, h4, h5, h6⟩
theorem cells {w : World} {g : Nat} {cs : Array Value} {T : TypeId} {fz : Nat × Nat} (h : w.heap[g]? = some (.cells cs T fz)) (n : Nat) : w.cell? ⟨g, n, none⟩ = cs[n]? := by unfold World.cell?; rw [h]; rfl
theorem unfrozen {w : World} {g : Nat} {cs : Array Value} {T : TypeId} (h : w.heap[g]? = some (.cells cs T (0, 0))) (n : Nat) : w.frozen? ⟨g, n, none⟩ = false := by unfold World.frozen?; rw [h]; simp
theorem enter {f : FuncId} {fn : Func} {c : Code} {args : Array Value} {w : World} {R : Ending → World → Prop} (hf : P.funcs[f]? = some fn) (hb : fn.body = some c)
    (h : ∀ a : Act, a.defers = [] → a.tmps.size = args.size + (fn.ntmps - args.size) → (∀ t, t < args.size → a.eval (.tmp t) = args.getD t undef) → c.wp P (bodyPost P fn R) a w) : Calls P f args w R := by
  refine calls_of_wp hf hb (h _ rfl (by simp) fun t ht => ?_)
  show (args ++ Array.replicate (fn.ntmps - args.size) undef).getD t undef = _
  simp [Array.getD_eq_getD_getElem?, Array.getElem?_append_left ht]
theorem notdst {t : Nat} (h : (List.range m).all (fun j => dstOf ops j != some t) = true) : ∀ j, j < m → dstOf ops j ≠ some t := fun j hj => by
  have := all_range.1 h j hj
  simpa using this
theorem ret1 {fn : Func} {t : Nat} {R : Ending → World → Prop} {a : Act} {w : World} (h : fn.results = #[.tmp t]) (hd : a.defers = []) {v : Value} (e : a.eval (.tmp t) = v) (hR : R (.returned v) w) : bodyPost P fn R .ret a w :=
  ⟨hd, v, by rw [Go.results_tmp h]; exact congrArg (fun x => Result.ok x w) e, hR⟩
section runs
variable {a : Act} {w : World}
theorem run_not {x : Operand} {T : TypeId} (hop : o.op = .unOp .not T x) {b : Bool} (h : a.eval x = .bool b) : (execOp a.eval o).run P w = .ok (.value (.bool (!b))) w := by
  unfold execOp; rw [hop]; simp only [h]; rfl
end runs
theorem store_uniq {ks : List Kind} {j i : Nat} (h : ((List.range ks.length).all fun n => match ks[n]? with | some (.store j' _) => j' != j || n == i | _ => true) = true) : ∀ n cs, ks.getD n .plain = .store j cs → n = i := by
  intro n cs hn
  rcases Nat.lt_or_ge n ks.length with hl | hl
  · have h1 := all_range.1 h n hl
    rw [List.getD_eq_getElem?_getD] at hn
    rw [List.getElem?_eq_getElem hl] at hn h1
    simp only [Option.getD_some] at hn
    rw [hn] at h1
    simpa using h1
  · rw [List.getD_eq_getElem?_getD, List.getElem?_eq_none hl] at hn; cases hn
theorem no_store {ks : List Kind} {j : Nat} (h : (ks.all fun x => match x with | .store j' _ => j' != j | _ => true) = true) : ∀ n cs, n < m → ks.getD n .plain ≠ .store j cs := by
  intro n cs _ hn
  rcases Nat.lt_or_ge n ks.length with hl | hl
  · rw [List.getD_eq_getElem?_getD, List.getElem?_eq_getElem hl] at hn
    simp only [Option.getD_some] at hn
    have := List.all_eq_true.1 h _ (List.getElem_mem hl)
    rw [hn] at this
    simp at this
  · rw [List.getD_eq_getElem?_getD, List.getElem?_eq_none hl] at hn; cases hn
structure Then (ops : Array Oper) (m : Nat) (D : Nat → Value → World → Prop) (k : Nat → Kind) (a0 : Act) (w0 : World) (a : Act) (w : World) : Prop where
  below : Below w0.heap.size w0 w
  defers : a.defers = a0.defers
  size : a.tmps.size = a0.tmps.size
  done : ∀ j d, (decide (j < m)) = true → dstOf ops j = some d → D j (a.eval (.tmp d)) w
  rest : ∀ t, (List.range m).all (fun j => dstOf ops j != some t) = true → a.eval (.tmp t) = a0.eval (.tmp t)
  made : Made ops k m w0 a w
section thens
variable {ks : List Kind} {a : Act} {w : World}
theorem Then.al (h : Then ops m D (fun i => ks.getD i .plain) a0 w0 a w) (j d : Nat) (T : TypeId) (c0 : Array Value) (hj : decide (j < m) = true) (hk : ks.getD j .plain = .alloc T c0) (hd : dstOf ops j = some d)
    (hno : (ks.all fun x => match x with | .store j' _ => j' != j | _ => true) = true) : ∃ g, a.eval (.tmp d) = .pointer (some ⟨g, 0, none⟩) ∧ w0.heap.size ≤ g ∧ g < w.heap.size ∧ w.heap[g]? = some (.cells c0 T (0, 0)) := by
  obtain ⟨g, h1, h2, h3, cs, h4, h5, h6⟩ := h.made.al j d T c0 (of_decide_eq_true hj) hk hd
  have := h6 (no_store hno)
  subst this
  exact ⟨g, h1, h2, h3, h4⟩
theorem Then.st (h : Then ops m D (fun i => ks.getD i .plain) a0 w0 a w) (j d i : Nat) (T : TypeId) (c0 cs : Array Value) (hj : decide (j < m) = true) (hi : decide (i < m) = true) (hk : ks.getD j .plain = .alloc T c0) (hd : dstOf ops j = some d)
    (hki : ks.getD i .plain = .store j cs) : ∃ g, a.eval (.tmp d) = .pointer (some ⟨g, 0, none⟩) ∧ w0.heap.size ≤ g ∧ g < w.heap.size ∧ w.heap[g]? = some (.cells cs T (0, 0)) := by
  obtain ⟨g, h1, h2, h3, cs', h4, h5, h6⟩ := h.made.al j d T c0 (of_decide_eq_true hj) hk hd
  have := h5 i cs (of_decide_eq_true hi) hki
  subst this
  exact ⟨g, h1, h2, h3, h4⟩
theorem Then.ne (h : Then ops m D (fun i => ks.getD i .plain) a0 w0 a w) (j j' d d' : Nat) {T T' : TypeId} {c c' : Array Value} {g g' : Nat} (hj : decide (j < m) = true) (hj' : decide (j' < m) = true) (hk : ks.getD j .plain = .alloc T c) (hk' : ks.getD j' .plain = .alloc T' c')
    (hd : dstOf ops j = some d) (hd' : dstOf ops j' = some d') (e : a.eval (.tmp d) = .pointer (some ⟨g, 0, none⟩)) (e' : a.eval (.tmp d') = .pointer (some ⟨g', 0, none⟩)) (hjj : (j != j') = true) : g ≠ g' := by
  intro x
  subst x
  have := h.made.dist j j' d d' T c T' c' g (of_decide_eq_true hj) (of_decide_eq_true hj') hk hk' hd hd' e e'
  simp [this] at hjj
theorem regionD {id : Nat} (D : Nat → Value → World → Prop) (k : Nat → Kind) (m c n : Nat) (hm : P.follows .mixedOrders = true) (hn : a.tmps.size = n) (hc : ops.size = m + c) (hs : shape ops m n = true)
    (stable : ∀ i v w w', D i v w → Below w.heap.size w w' → D i v w') (hst2 : (∀ i j cs, k i ≠ .store j cs) ∨ ∀ i v w w', D i v w → D i v w')
    (hS : Steps P ops Q D k a w m 0 ops.toList) (hE : ∀ a' w', Then ops m D k a w a' w' → wpOps P ops Q (List.range' m c) a' w') : (Code.region id ops true).wp P Q a w := by
  subst hn
  refine region m D k hm hs (by simp; omega) stable hst2 hS fun a' w' h1 h2 h3 h4 h5 h6 => ?_
  rw [hc, Nat.add_sub_cancel_left]
  exact hE a' w' ⟨h1, h2, h3, fun j d hj => h4 j d (of_decide_eq_true hj), fun t ht => h5 t (notdst ht), h6⟩
theorem regionS {id : Nat} (D : Nat → Value → World → Prop) (k : Nat → Kind) (m c n : Nat) (hn : a.tmps.size = n) (hc : ops.size = m + c) (hs : shape ops m n = true)
    (stable : ∀ i v w w', D i v w → Below w.heap.size w w' → D i v w') (hst2 : (∀ i j cs, k i ≠ .store j cs) ∨ ∀ i v w w', D i v w → D i v w')
    (hS : Steps P ops Q D k a w m 0 ops.toList) (hE : ∀ a' w', Then ops m D k a w a' w' → wpOps P ops Q (List.range' m c) a' w') : (Code.region id ops false).wp P Q a w := by
  subst hn
  refine region_seq m D k hs (by simp; omega) stable hst2 hS fun a' w' h1 h2 h3 h4 h5 h6 => ?_
  rw [hc, Nat.add_sub_cancel_left]
  exact hE a' w' ⟨h1, h2, h3, fun j d hj => h4 j d (of_decide_eq_true hj), fun t ht => h5 t (notdst ht), h6⟩
theorem drop_get {os : List Oper} (h : ops.toList.drop i = o :: os) : ops[i]? = some o := by
  have := congrArg (fun l => l[0]?) h
  simpa [List.getElem?_drop] using this
theorem tail_nil (h : Q .normal a w) : wpOps P ops Q (List.range' m 0) a w := h
theorem tail_skip {c : Nat} {w1 : World} {os : List Oper} (ho' : ops.toList.drop i = o :: os) (hg : o.guard = none) (hd : o.dst = none) (hrun : (execOp a.eval o).run P w = .ok .skip w1) (h : wpOps P ops Q (List.range' (i + 1) c) a w1) : wpOps P ops Q (List.range' i (c + 1)) a w := by
  have ho := drop_get ho'
  rw [List.range'_succ, wpOps_cons]
  unfold wpOp
  rw [ho]
  simp only
  rw [if_pos (wanted_none hg)]
  refine .inl ?_
  unfold Oper.wp
  rw [hrun]
  show wpOps P ops Q _ (a.put o.dst undef) w1
  rw [hd]; exact h
end thens
structure Sets (w w' : World) (g : Nat) (o : Obj) : Prop where
  new : w'.heap[g]? = some o
  far : ∀ b, b ≠ g → w'.heap[b]? = w.heap[b]?
  size : w'.heap.size = w.heap.size
  os : w'.os = w.os
  tape : w'.tape = w.tape
  output : w'.output = w.output
theorem Sets.below {w w' : World} {g : Nat} {o : Obj} (h : Sets w w' g o) {W : World} {B : Nat} (hb : Below B W w) (hg : B ≤ g) : Below B W w' :=
  hb.trans ⟨h.os, h.tape, h.output, by have := h.size; omega, fun k hk => h.far k (by omega)⟩
theorem Sets.of_putAll {w : World} {g : Nat} {T : TypeId} {cs : Array Value} {n : Nat} (vs : List Value) (h : w.heap[g]? = some (.cells cs T (0, 0))) : Sets w (putAll w g n vs) g (.cells (vs.zipIdx n |>.foldl (fun c x => c.setIfInBounds x.2 x.1) cs) T (0, 0)) := by
  obtain ⟨h1, h2, h3, h4, h5, h6⟩ := putAll_spec vs n w cs h
  exact ⟨h1, h2, h3, h4, h5, h6⟩
theorem Sets.of_setCell {w : World} {g : Nat} {T : TypeId} {cs : Array Value} (n : Nat) (v : Value) (h : w.heap[g]? = some (.cells cs T (0, 0))) : Sets w (w.setCell ⟨g, n, none⟩ v) g (.cells (cs.setIfInBounds n v) T (0, 0)) :=
  Sets.of_putAll (n := n) [v] h
section tails
variable {a : Act} {w : World}
theorem tail_set {c g n : Nat} {T : TypeId} {cs new : Array Value} {v : Value} {os : List Oper} (ho : ops.toList.drop i = o :: os) (hg : o.guard = none) (hd : o.dst = none) (hk : w.heap[g]? = some (.cells cs T (0, 0))) (hnew : cs.setIfInBounds n v = new)
    (hrun : (execOp a.eval o).run P w = .ok .skip (w.setCell ⟨g, n, none⟩ v)) (h : ∀ w', Sets w w' g (.cells new T (0, 0)) → wpOps P ops Q (List.range' (i + 1) c) a w') : wpOps P ops Q (List.range' i (c + 1)) a w :=
  tail_skip ho hg hd hrun (h _ (hnew ▸ Sets.of_setCell n v hk))
theorem tail_put {c g n : Nat} {T : TypeId} {cs new : Array Value} (vs : List Value) {os : List Oper} (ho : ops.toList.drop i = o :: os) (hg : o.guard = none) (hd : o.dst = none) (hk : w.heap[g]? = some (.cells cs T (0, 0))) (hnew : (vs.zipIdx n |>.foldl (fun c x => c.setIfInBounds x.2 x.1) cs) = new)
    (hrun : (execOp a.eval o).run P w = .ok .skip (putAll w g n vs)) (h : ∀ w', Sets w w' g (.cells new T (0, 0)) → wpOps P ops Q (List.range' (i + 1) c) a w') : wpOps P ops Q (List.range' i (c + 1)) a w :=
  tail_skip ho hg hd hrun (h _ (hnew ▸ Sets.of_putAll (n := n) vs hk))
theorem run_box {T : TypeId} {x : Operand} {v : Value} (hop : o.op = .box T x) (h : a.eval x = v) : (execOp a.eval o).run P w = .ok (.value (.pointer (some ⟨w.heap.size, 0, none⟩))) (w.alloc (.cells v.cells T (0, 0))) := by
  unfold execOp; rw [hop, ← h]; rfl
theorem run_alloc {T : TypeId} {cs : Array Value} (hop : o.op = .alloc T) (hz : (zeroValue T).run P w = .ok (.agg cs) w) : (execOp a.eval o).run P w = .ok (.value (.pointer (some ⟨w.heap.size, 0, none⟩))) (w.alloc (.cells cs T (0, 0))) := by
  unfold execOp; rw [hop]
  simp only [Instr.alloc, Sem.run_bind, hz, Result.andThen_ok]
  rfl
theorem run_load_all {T ty : TypeId} {x : Operand} {g : Nat} {cs : Array Value} {fz : Nat × Nat} {d : TypeDesc} (hop : o.op = .load ty x) (h : a.eval x = .pointer (some ⟨g, 0, none⟩)) (hb : w.heap[g]? = some (.cells cs T fz))
    (hu : P.underlying ty = some d) (hd : d.isRow = true) (hi : (P.info? ty).map (·.size) = some cs.size) : (execOp a.eval o).run P w = .ok (.value (.agg cs)) w := by
  have hr := World.rangeAt_of_block hb 0 cs.size
  have hl := run_loadAt_mid (P := P) w g 0 ty _ d hr hu hd (by rw [hi]; simp)
  unfold execOp; rw [hop]
  simp only [h, Sem.run_bind, hl, Result.andThen_ok]
  simp
theorem run_indexAddr {T e : TypeId} {x ix : Operand} {g n j : Nat} {kd : IntKind} (hop : o.op = .indexAddr T x ix) (hu : P.underlying T = some (.array n e)) (he : (P.info? e).map (·.size) = some 1) (h : a.eval x = .pointer (some ⟨g, 0, none⟩)) (hi : a.eval ix = .int kd (j : Int)) (hn : (decide (1 < n)) = true) (hj : j < n) :
    (execOp a.eval o).run P w = .ok (.value (.pointer (some ⟨g, j, none⟩))) w := by
  unfold execOp; rw [hop]
  have hn := of_decide_eq_true hn
  cases hq : P.info? e with
  | none => simp [hq] at he
  | some i =>
    have hs : i.size = 1 := by simpa [hq] using he
    have h1 : (0 : Int) ≤ (j : Int) := by omega
    have h2 : (j : Int) < (n : Int) := by omega
    simp only [h, hi, Instr.indexAt, asIntOf, Sem.run_bind, Sem.run_pure, Result.andThen_ok, run_underlying hu, Instr.sureAddr]
    simp [Sem.run_bind, Sem.run_pure, h1, h2, sizeOf, typeInfo, hq, hs, Addr.add]
    exact fun h => h.symm
theorem retc {fn : Func} {p : Nat} {ty T : TypeId} {g : Nat} {cs : Array Value} {d : TypeDesc} {R : Ending → World → Prop} (h : fn.results = #[.cell p ty]) (hd : a.defers = []) (e : a.eval (.tmp p) = .pointer (some ⟨g, 0, none⟩)) (hb : w.heap[g]? = some (.cells cs T (0, 0)))
    (hu : P.underlying ty = some d) (hrow : d.isRow = true) (hi : (P.info? ty).map (·.size) = some cs.size) (hR : R (.returned (.agg cs)) w) : bodyPost P fn R .ret a w :=
  ⟨hd, _, results_cell_row h _ w g T cs _ d e hb hu (by cases d <;> simp_all) hi, hR⟩
end tails
section loops
variable {a : Act} {w : World}
theorem loopN {c : Code} (I : Nat → Act → World → Prop) {n0 : Nat} (h0 : I n0 a w) (round : ∀ n a w, I n a w → c.wp P (Exit.then (fun a' w' => ∃ n', n' < n ∧ I n' a' w') Q) a w) : (Code.loop c).wp P Q a w := by
  have least : ∀ n a w, I n a w → ∃ m, I m a w ∧ m ≤ n ∧ ∀ k, I k a w → m ≤ k := by
    intro n
    induction n using Nat.strongRecOn with
    | _ n ih =>
      intro a w h
      by_cases hx : ∃ k, k < n ∧ I k a w
      · obtain ⟨k, hk, hI⟩ := hx
        obtain ⟨m, h1, h2, h3⟩ := ih k hk a w hI
        exact ⟨m, h1, by omega, h3⟩
      · exact ⟨n, h, Nat.le_refl _, fun k hk => by
          rcases Nat.lt_or_ge k n with hl | hl
          · exact absurd ⟨k, hl, hk⟩ hx
          · exact hl⟩
  classical
  let mu : Act → World → Nat := fun a w => if h : ∃ n, I n a w then Classical.choose (least _ a w (Classical.choose_spec h)) else 0
  have hmu : ∀ n a w, I n a w → I (mu a w) a w ∧ mu a w ≤ n := by
    intro n a w h
    have hx : ∃ n, I n a w := ⟨n, h⟩
    have hs := Classical.choose_spec (least _ a w (Classical.choose_spec hx))
    have e : mu a w = Classical.choose (least _ a w (Classical.choose_spec hx)) := by
      show (if h : ∃ n, I n a w then Classical.choose (least _ a w (Classical.choose_spec h)) else 0) = _
      rw [dif_pos hx]
    rw [e]
    exact ⟨hs.1, hs.2.2 n h⟩
  refine wp_loop (fun a w => ∃ n, I n a w) mu ⟨n0, h0⟩ fun a w ⟨n, h⟩ => ?_
  refine wp_mono (round _ a w (hmu n a w h).1) fun e a' w' hq => ?_
  cases e with
  | normal =>
    obtain ⟨n', hn, hI⟩ := hq
    exact ⟨⟨n', hI⟩, Nat.lt_of_le_of_lt (hmu n' a' w' hI).2 hn⟩
  | _ => exact hq
theorem i64_id {x : Int} (h0 : -9223372036854775808 ≤ x) (h1 : x ≤ 9223372036854775807) : IntKind.i64.wrap x = x := by
  rw [IntKind.wrap_i64]
  omega
end loops
end Go.Proofs.Eng
end
section
namespace Go.Proofs.YthgafcaoibfchaaDoor.Y
open Go.RowKit Go.Proofs.YthgafcaoibfchaaDoorW.PrintWords Go.Proofs.YthgafcaoibfchaaDoorW.PrintLast Go.Proofs.YthgafcaoibfchaaDoorW.PrintMore
attribute [local go_sem] max2_int min2_int max_two min_two max_three min_three max_four min_four
set_option linter.unusedVariables false
set_option linter.unusedSimpArgs false
def errW : Option Int → Value
  | none => .nilIface
  | some c => .iface 0 (.int .i64 c)
theorem errW_none : errW none = .nilIface := rfl
theorem errW_some (c : Int) : errW (some c) = .iface 0 (.int .i64 c) := rfl
theorem xbne_nil (l : List UInt8) : (l != []) = !l.isEmpty := by cases l <;> rfl
theorem xbeq_nil (l : List UInt8) : (l == []) = l.isEmpty := by cases l <;> rfl
end Go.Proofs.YthgafcaoibfchaaDoor.Y
end
section
namespace Go.Proofs.YthgafcaoibfchaaDoor.Y
open Go.RowKit Go.Proofs.YthgafcaoibfchaaDoorW.PrintWords Go.Proofs.YthgafcaoibfchaaDoorW.PrintLast Go.Proofs.YthgafcaoibfchaaDoorW.PrintMore
attribute [local go_sem] max2_int min2_int max_two min_two max_three min_three max_four min_four
set_option linter.unusedVariables false
set_option linter.unusedSimpArgs false
def lattice_Join.f (a0_0 : Int) (a0_1 : Int) (a1_0 : Int) (a1_1 : Int) : Option (Int × Int) := some (mx a0_0 a1_0, Go.bits .or .u64 a0_1 a1_1)
set_option maxHeartbeats 8000000 in
set_option maxRecDepth 100000 in
theorem lattice_Join.calls (a0_0 : Int) (a0_1 : Int) (a1_0 : Int) (a1_1 : Int) (r1 : Int) (r2 : Int) (w : World) (h : lattice_Join.f a0_0 a0_1 a1_0 a1_1 = some (r1, r2)) :
    Calls Tryd.prog 18 #[.agg #[.int .i64 a0_0, .int .u64 a0_1], .agg #[.int .i64 a1_0, .int .u64 a1_1]] w fun e w' => e = .returned (.agg #[.int .i64 r1, .int .u64 r2]) ∧ Below w.heap.size w w' := by
  have hu30 := Tryd.underlying30
  have HB := Aside0.mk (Below.refl w.heap.size w)
  have H : (some (mx a0_0 a1_0, Go.bits .or .u64 a0_1 a1_1)) = some (r1, r2) := h
  clear h
  obtain ⟨ji3, hji3⟩ : ∃ j_ : Int, (mx a0_0 a1_0) = j_ := ⟨_, rfl⟩
  replace H : (some (ji3, Go.bits .or .u64 a0_1 a1_1)) = some (r1, r2) := by first | (rw [hji3] at H; exact H) | (simp only [hji3] at H ⊢; exact H)
  have hji3_ : (if a0_0 < a1_0 then a1_0 else a0_0) = ji3 := hji3
  simp only [Option.some.injEq, Prod.mk.injEq] at H
  obtain ⟨rfl, rfl⟩ := H
  go_enter Tryd.func18, Tryd.ntmps18
  go_wp2_with (first | ((with_reducible refine gate_dst (N := 2) rfl ?_); refine box_event ?hg (N := 2) ?hd (cs := #[.int .i64 a0_0, .int .u64 a0_1]) (t := 30) ?hr ?_; (case hd => rfl); (case hg => rfl); (case hr => first | (go_simp; done) | (go_simp; rfl)); intro gb101 hg w4 hbox hb; have n0_ := Aside0.mk (below_step (by repeat (first | (with_reducible first | exact HB.out | apply below_alloc | apply pw_below_drewN | apply below_drew1) | exact HB.out)) hb); have n1_ := Aside0.mk (hbox); have n2_ := Aside0.mk ((by rw [hg]; exact (below_size (by repeat (first | (with_reducible first | exact HB.out | apply below_alloc | apply pw_below_drewN | apply below_drew1) | exact HB.out))) : w.heap.size ≤ gb101)); have n3_ := Aside0.mk ((by rw [hg]; exact (below_size (by repeat (first | (with_reducible first | exact HB.out | apply below_alloc | apply pw_below_drewN | apply below_drew1) | exact HB.out))) : w.heap.size ≤ gb101)); clear HB; have HB := n0_; have BK101 := n1_; have GW101 := n2_; have GE101 := n3_; clear n0_ n1_ n2_ n3_; clear hb hbox hg) | ((with_reducible refine gate_dst (N := 3) rfl ?_); refine box_event ?hg (N := 3) ?hd (cs := #[.int .i64 a1_0, .int .u64 a1_1]) (t := 30) ?hr ?_; (case hd => rfl); (case hg => rfl); (case hr => first | (go_simp; done) | (go_simp; rfl)); intro gb102 hg w5 hbox hb; have n0_ := Aside0.mk (blk_below (g := gb101) (o := .cells #[.int .i64 a0_0, .int .u64 a0_1] 30 (0, 0)) (by (with_reducible repeat (first | refine blk_drewN ?_ _ | refine blk_drew ?_ | refine blk_alloc ?_ _)); exact BK101.out) hb); have n1_ := Aside0.mk (below_step (by repeat (first | (with_reducible first | exact HB.out | apply below_alloc | apply pw_below_drewN | apply below_drew1 | refine below_set ?_ GE101.out) | exact HB.out)) hb); have n2_ := Aside0.mk (hbox); have n3_ := Aside0.mk ((by rw [hg]; exact (below_size (by repeat (first | (with_reducible first | exact HB.out | apply below_alloc | apply pw_below_drewN | apply below_drew1 | refine below_set ?_ GE101.out) | exact HB.out))) : w.heap.size ≤ gb102)); have n4_ := Aside0.mk ((by rw [hg]; exact (below_size (by repeat (first | (with_reducible first | exact HB.out | apply below_alloc | apply pw_below_drewN | apply below_drew1 | refine below_set ?_ GE101.out) | exact HB.out))) : w.heap.size ≤ gb102)); have n5_ := Aside0.mk ((by rw [hg]; exact Nat.ne_of_lt (blk_lt (g := gb101) (o := .cells #[.int .i64 a0_0, .int .u64 a0_1] 30 (0, 0)) (by (with_reducible repeat (first | refine blk_drewN ?_ _ | refine blk_drew ?_ | refine blk_alloc ?_ _)); exact BK101.out)) : gb101 ≠ gb102)); have n6_ := Aside0.mk ((by rw [hg]; exact Nat.ne_of_gt (blk_lt (g := gb101) (o := .cells #[.int .i64 a0_0, .int .u64 a0_1] 30 (0, 0)) (by (with_reducible repeat (first | refine blk_drewN ?_ _ | refine blk_drew ?_ | refine blk_alloc ?_ _)); exact BK101.out)) : gb102 ≠ gb101)); clear BK101; clear HB; have BK101 := n0_; have HB := n1_; have BK102 := n2_; have GW102 := n3_; have GE102 := n4_; have NB101_102 := n5_; have NB102_101 := n6_; clear n0_ n1_ n2_ n3_ n4_ n5_ n6_; clear hb hbox hg) | ((with_reducible refine gate_dst (N := 4) rfl ?_); refine box_event ?hg (N := 4) ?hd (cs := #[.int .i64 0, .int .u64 0]) (t := 30) ?hr ?_; (case hd => rfl); (case hg => rfl); (case hr => first | (go_simp; done) | (go_simp; rfl)); intro gb103 hg w6 hbox hb; have n0_ := Aside0.mk (blk_below (g := gb101) (o := .cells #[.int .i64 a0_0, .int .u64 a0_1] 30 (0, 0)) (by (with_reducible repeat (first | refine blk_drewN ?_ _ | refine blk_drew ?_ | refine blk_alloc ?_ _)); exact BK101.out) hb); have n1_ := Aside0.mk (blk_below (g := gb102) (o := .cells #[.int .i64 a1_0, .int .u64 a1_1] 30 (0, 0)) (by (with_reducible repeat (first | refine blk_drewN ?_ _ | refine blk_drew ?_ | refine blk_alloc ?_ _)); exact BK102.out) hb); have n2_ := Aside0.mk (below_step (by repeat (first | (with_reducible first | exact HB.out | apply below_alloc | apply pw_below_drewN | apply below_drew1 | refine below_set ?_ GE101.out | refine below_set ?_ GE102.out) | exact HB.out)) hb); have n3_ := Aside0.mk (hbox); have n4_ := Aside0.mk ((by rw [hg]; exact (below_size (by repeat (first | (with_reducible first | exact HB.out | apply below_alloc | apply pw_below_drewN | apply below_drew1 | refine below_set ?_ GE101.out | refine below_set ?_ GE102.out) | exact HB.out))) : w.heap.size ≤ gb103)); have n5_ := Aside0.mk ((by rw [hg]; exact (below_size (by repeat (first | (with_reducible first | exact HB.out | apply below_alloc | apply pw_below_drewN | apply below_drew1 | refine below_set ?_ GE101.out | refine below_set ?_ GE102.out) | exact HB.out))) : w.heap.size ≤ gb103)); have n6_ := Aside0.mk ((by rw [hg]; exact Nat.ne_of_lt (blk_lt (g := gb101) (o := .cells #[.int .i64 a0_0, .int .u64 a0_1] 30 (0, 0)) (by (with_reducible repeat (first | refine blk_drewN ?_ _ | refine blk_drew ?_ | refine blk_alloc ?_ _)); exact BK101.out)) : gb101 ≠ gb103)); have n7_ := Aside0.mk ((by rw [hg]; exact Nat.ne_of_gt (blk_lt (g := gb101) (o := .cells #[.int .i64 a0_0, .int .u64 a0_1] 30 (0, 0)) (by (with_reducible repeat (first | refine blk_drewN ?_ _ | refine blk_drew ?_ | refine blk_alloc ?_ _)); exact BK101.out)) : gb103 ≠ gb101)); have n8_ := Aside0.mk ((by rw [hg]; exact Nat.ne_of_lt (blk_lt (g := gb102) (o := .cells #[.int .i64 a1_0, .int .u64 a1_1] 30 (0, 0)) (by (with_reducible repeat (first | refine blk_drewN ?_ _ | refine blk_drew ?_ | refine blk_alloc ?_ _)); exact BK102.out)) : gb102 ≠ gb103)); have n9_ := Aside0.mk ((by rw [hg]; exact Nat.ne_of_gt (blk_lt (g := gb102) (o := .cells #[.int .i64 a1_0, .int .u64 a1_1] 30 (0, 0)) (by (with_reducible repeat (first | refine blk_drewN ?_ _ | refine blk_drew ?_ | refine blk_alloc ?_ _)); exact BK102.out)) : gb103 ≠ gb102)); clear BK101; clear BK102; clear HB; have BK101 := n0_; have BK102 := n1_; have HB := n2_; have BK103 := n3_; have GW103 := n4_; have GE103 := n5_; have NB101_103 := n6_; have NB103_101 := n7_; have NB102_103 := n8_; have NB103_102 := n9_; clear n0_ n1_ n2_ n3_ n4_ n5_ n6_ n7_ n8_ n9_; clear hb hbox hg; have hnb7 := NB101_102.out; have hnc7 := NB102_101.out; have hnb8 := NB101_103.out; have hnc8 := NB103_101.out; have hcz9_0 : w6.cell? ⟨gb101, 0, none⟩ = some (.int .i64 a0_0) := (blk_cell BK101.out 0).trans rfl; have hcz9_1 : w6.cell? ⟨gb101, 1, none⟩ = some (.int .u64 a0_1) := (blk_cell BK101.out 1).trans rfl; have hfz9_0 := blk_frozen BK101.out 0; have hfz9_1 := blk_frozen BK101.out 1; have hnb10 := NB102_103.out; have hnc10 := NB103_102.out; have hcz11_0 : w6.cell? ⟨gb102, 0, none⟩ = some (.int .i64 a1_0) := (blk_cell BK102.out 0).trans rfl; have hcz11_1 : w6.cell? ⟨gb102, 1, none⟩ = some (.int .u64 a1_1) := (blk_cell BK102.out 1).trans rfl; have hfz11_0 := blk_frozen BK102.out 0; have hfz11_1 := blk_frozen BK102.out 1; have hcz12_0 : w6.cell? ⟨gb103, 0, none⟩ = some (.int .i64 0) := (blk_cell BK103.out 0).trans rfl; have hcz12_1 : w6.cell? ⟨gb103, 1, none⟩ = some (.int .u64 0) := (blk_cell BK103.out 1).trans rfl; have hfz12_0 := blk_frozen BK103.out 0; have hfz12_1 := blk_frozen BK103.out 1))
  refine bodyPost_ret (results_cell_row rfl _ _ gb103 30 #[.int .i64 ji3, .int .u64 (Go.bits .or .u64 a0_1 a1_1)] (0, 0) _ rfl (by (with_reducible repeat (first | refine blk_drewN ?_ _ | refine blk_drew ?_ | refine blk_alloc ?_ _)); refine blk_put (cs := #[.int .i64 ji3, .int .u64 0]) ?_ 1 _ rfl; (with_reducible repeat (first | refine blk_drewN ?_ _ | refine blk_drew ?_ | refine blk_alloc ?_ _)); refine blk_put (cs := #[.int .i64 0, .int .u64 0]) ?_ 0 _ rfl; (with_reducible repeat (first | refine blk_drewN ?_ _ | refine blk_drew ?_ | refine blk_alloc ?_ _)); exact BK103.out) Tryd.underlying30 rfl (by kernel_rfl)) rfl ?_
  exact ⟨by first | rfl | (simp [errW_none, errW_some] <;> rfl) | (simp only [← hji3]; first | rfl | (simp [errW_none, errW_some] <;> rfl)) | (simp [*, errW_none, errW_some] <;> rfl), by repeat (first | (with_reducible first | exact HB.out | apply below_alloc | apply pw_below_drewN | apply below_drew1 | refine below_set ?_ GE101.out | refine below_set ?_ GE102.out | refine below_set ?_ GE103.out) | exact HB.out)⟩
def grilleref12_Has.l0 : Nat → Int → Int → Int → Option (Bool)
  | 0, _, _, _ => none
  | k + 1, x0, x1, x5 => if x5 < x1 then (grilleref12_Has.l0 k (IntKind.u64.wrap (Int.tdiv x0 2)) x1 (wrap64 (x5 + 1))) else (if x1 ≥ 0 then (if x1 < 64 then (some ((Int.tmod x0 2) == 1)) else (some false)) else (some false))
def grilleref12_Has.f (k : Nat) (a0 : Int) (a1 : Int) : Option (Bool) := grilleref12_Has.l0 k a0 a1 0
theorem grilleref12_Has.mono_l : ∀ k, (∀ y0 y1 y2, LeO (grilleref12_Has.l0 k y0 y1 y2) (grilleref12_Has.l0 (k + 1) y0 y1 y2))
  | 0 => fun _ _ _ r h => by simp [grilleref12_Has.l0] at h
  | k + 1 => by
    have ih0 := grilleref12_Has.mono_l k
    · intro y0 y1 y2
      unfold grilleref12_Has.l0
      repeat' first
      | (with_reducible exact ih0 _ _ _)
      | (with_reducible exact LeO.refl _)
      | (with_reducible exact LeO.none _)
      | (with_reducible refine LeO.ite ?_ ?_)
      | (with_reducible refine LeO.bind ?_ (fun _ => ?_))
      | exact ih0 _ _ _
      | exact LeO.none _
      | refine LeO.ite ?_ ?_
      | refine LeO.bind ?_ (fun _ => ?_)
theorem grilleref12_Has.mono : ∀ a0 a1 k, LeO (grilleref12_Has.f k a0 a1) (grilleref12_Has.f (k + 1) a0 a1) := by
  intro a0 a1 k
  have ih0 := grilleref12_Has.mono_l k
  unfold grilleref12_Has.f
  repeat' first
      | (with_reducible exact ih0 _ _ _)
      | (with_reducible exact LeO.refl _)
      | (with_reducible exact LeO.none _)
      | (with_reducible refine LeO.ite ?_ ?_)
      | (with_reducible refine LeO.bind ?_ (fun _ => ?_))
      | exact ih0 _ _ _
      | exact LeO.none _
      | refine LeO.ite ?_ ?_
      | refine LeO.bind ?_ (fun _ => ?_)
set_option maxHeartbeats 8000000 in
set_option maxRecDepth 100000 in
theorem grilleref12_Has.calls (k : Nat) (a0 : Int) (a1 : Int) (r : Bool) (w : World) (h : grilleref12_Has.f k a0 a1 = some r) :
    Calls Tryd.prog 66 #[.int .u64 a0, .int .i64 a1] w fun e w' => e = .returned (.bool r) ∧ Drawn0 w w' := by
  have H : (grilleref12_Has.l0 k a0 a1 0) = some r := h
  clear h
  have H' := Aside0.mk H
  clear H
  go_enter Tryd.func66, Tryd.ntmps66
  go_wp2
  go_loopg [0, 5] k (fun kq v0 v5 w' => ∃ (x0_1 : Int) (x5_1 : Int), v0 = .int .u64 x0_1 ∧ v5 = .int .i64 x5_1 ∧ Aside0 (grilleref12_Has.l0 kq x0_1 a1 x5_1 = some r) ∧ Aside0 (kq ≤ k) ∧ Drawn0 w w')
  case atStart => exact ⟨(a0), (0), (by first | rfl | (simp; done) | (simp [*]; done) | (simp [xbne_nil, xbeq_nil]; done)), (by first | rfl | (simp; done) | (simp [*]; done) | (simp [xbne_nil, xbeq_nil]; done)), H', ⟨Nat.le_refl _⟩, by repeat (first | exact Drawn0.refl _ | apply Drawn0.step)⟩
  case round =>
    clear H'
    try clear p2
    obtain ⟨x0_1, x5_1, rfl, rfl, HA, HK1, ⟨m1, rfl⟩⟩ := hrel
    cases gk with
    | zero => exact absurd HA.out (by simp [grilleref12_Has.l0])
    | succ k1 =>
      have H := HA.out
      clear HA
      simp only [grilleref12_Has.l0] at H
      by_cases c3 : x5_1 < a1
      · rw [if_pos c3] at H
        have c3b0 : decide (x5_1 < a1) = true := decide_eq_true c3
        clear c3
        have H' := Aside0.mk H
        clear H
        go_wp2
        go_roundg k1
        case measure => have := HK1.out; omega
        case rel => exact ⟨(IntKind.u64.wrap (Int.tdiv x0_1 2)), (wrap64 (x5_1 + 1)), (by first | rfl | (simp; done) | (simp [*]; done) | (simp [xbne_nil, xbeq_nil]; done)), (by first | rfl | (simp; done) | (simp [*]; done) | (simp [xbne_nil, xbeq_nil]; done)), H', ⟨by have := HK1.out; omega⟩, by repeat (first | exact Drawn0.refl _ | apply Drawn0.step)⟩
      · rw [if_neg c3] at H
        have c3b0 : decide (x5_1 < a1) = false := decide_eq_false c3
        clear c3
        by_cases c4 : a1 ≥ 0
        · rw [if_pos c4] at H
          have c4b0 : decide (0 ≤ a1) = true := decide_eq_true c4
          clear c4
          by_cases c5 : a1 < 64
          · rw [if_pos c5] at H
            have c5b0 : decide (a1 < 64) = true := decide_eq_true c5
            clear c5
            obtain rfl := Option.some.inj H
            go_wp2
            go_ret
            exact ⟨by first | rfl | (simp; done) | (simp [*]; done) | (simp [xbne_nil, xbeq_nil]; done), by repeat (first | exact Drawn0.refl _ | apply Drawn0.step)⟩
          · rw [if_neg c5] at H
            have c5b0 : decide (a1 < 64) = false := decide_eq_false c5
            clear c5
            obtain rfl := Option.some.inj H
            go_wp2
            go_ret
            exact ⟨by first | rfl | (simp; done) | (simp [*]; done) | (simp [xbne_nil, xbeq_nil]; done), by repeat (first | exact Drawn0.refl _ | apply Drawn0.step)⟩
        · rw [if_neg c4] at H
          have c4b0 : decide (0 ≤ a1) = false := decide_eq_false c4
          clear c4
          obtain rfl := Option.some.inj H
          go_wp2
          go_ret
          exact ⟨by first | rfl | (simp; done) | (simp [*]; done) | (simp [xbne_nil, xbeq_nil]; done), by repeat (first | exact Drawn0.refl _ | apply Drawn0.step)⟩
def lattice_Meet.f (a0_0 : Int) (a0_1 : Int) (a1_0 : Int) (a1_1 : Int) : Option (Int × Int) := some (mn a0_0 a1_0, Go.bits .and .u64 a0_1 a1_1)
set_option maxHeartbeats 8000000 in
set_option maxRecDepth 100000 in
theorem lattice_Meet.calls (a0_0 : Int) (a0_1 : Int) (a1_0 : Int) (a1_1 : Int) (r1 : Int) (r2 : Int) (w : World) (h : lattice_Meet.f a0_0 a0_1 a1_0 a1_1 = some (r1, r2)) :
    Calls Tryd.prog 20 #[.agg #[.int .i64 a0_0, .int .u64 a0_1], .agg #[.int .i64 a1_0, .int .u64 a1_1]] w fun e w' => e = .returned (.agg #[.int .i64 r1, .int .u64 r2]) ∧ Below w.heap.size w w' := by
  have hu30 := Tryd.underlying30
  have HB := Aside0.mk (Below.refl w.heap.size w)
  have H : (some (mn a0_0 a1_0, Go.bits .and .u64 a0_1 a1_1)) = some (r1, r2) := h
  clear h
  obtain ⟨ji3, hji3⟩ : ∃ j_ : Int, (mn a0_0 a1_0) = j_ := ⟨_, rfl⟩
  replace H : (some (ji3, Go.bits .and .u64 a0_1 a1_1)) = some (r1, r2) := by first | (rw [hji3] at H; exact H) | (simp only [hji3] at H ⊢; exact H)
  have hji3_ : (if a1_0 < a0_0 then a1_0 else a0_0) = ji3 := hji3
  simp only [Option.some.injEq, Prod.mk.injEq] at H
  obtain ⟨rfl, rfl⟩ := H
  go_enter Tryd.func20, Tryd.ntmps20
  go_wp2_with (first | ((with_reducible refine gate_dst (N := 2) rfl ?_); refine box_event ?hg (N := 2) ?hd (cs := #[.int .i64 a0_0, .int .u64 a0_1]) (t := 30) ?hr ?_; (case hd => rfl); (case hg => rfl); (case hr => first | (go_simp; done) | (go_simp; rfl)); intro gb104 hg w4 hbox hb; have n0_ := Aside0.mk (below_step (by repeat (first | (with_reducible first | exact HB.out | apply below_alloc | apply pw_below_drewN | apply below_drew1) | exact HB.out)) hb); have n1_ := Aside0.mk (hbox); have n2_ := Aside0.mk ((by rw [hg]; exact (below_size (by repeat (first | (with_reducible first | exact HB.out | apply below_alloc | apply pw_below_drewN | apply below_drew1) | exact HB.out))) : w.heap.size ≤ gb104)); have n3_ := Aside0.mk ((by rw [hg]; exact (below_size (by repeat (first | (with_reducible first | exact HB.out | apply below_alloc | apply pw_below_drewN | apply below_drew1) | exact HB.out))) : w.heap.size ≤ gb104)); clear HB; have HB := n0_; have BK104 := n1_; have GW104 := n2_; have GE104 := n3_; clear n0_ n1_ n2_ n3_; clear hb hbox hg) | ((with_reducible refine gate_dst (N := 3) rfl ?_); refine box_event ?hg (N := 3) ?hd (cs := #[.int .i64 a1_0, .int .u64 a1_1]) (t := 30) ?hr ?_; (case hd => rfl); (case hg => rfl); (case hr => first | (go_simp; done) | (go_simp; rfl)); intro gb105 hg w5 hbox hb; have n0_ := Aside0.mk (blk_below (g := gb104) (o := .cells #[.int .i64 a0_0, .int .u64 a0_1] 30 (0, 0)) (by (with_reducible repeat (first | refine blk_drewN ?_ _ | refine blk_drew ?_ | refine blk_alloc ?_ _)); exact BK104.out) hb); have n1_ := Aside0.mk (below_step (by repeat (first | (with_reducible first | exact HB.out | apply below_alloc | apply pw_below_drewN | apply below_drew1 | refine below_set ?_ GE104.out) | exact HB.out)) hb); have n2_ := Aside0.mk (hbox); have n3_ := Aside0.mk ((by rw [hg]; exact (below_size (by repeat (first | (with_reducible first | exact HB.out | apply below_alloc | apply pw_below_drewN | apply below_drew1 | refine below_set ?_ GE104.out) | exact HB.out))) : w.heap.size ≤ gb105)); have n4_ := Aside0.mk ((by rw [hg]; exact (below_size (by repeat (first | (with_reducible first | exact HB.out | apply below_alloc | apply pw_below_drewN | apply below_drew1 | refine below_set ?_ GE104.out) | exact HB.out))) : w.heap.size ≤ gb105)); have n5_ := Aside0.mk ((by rw [hg]; exact Nat.ne_of_lt (blk_lt (g := gb104) (o := .cells #[.int .i64 a0_0, .int .u64 a0_1] 30 (0, 0)) (by (with_reducible repeat (first | refine blk_drewN ?_ _ | refine blk_drew ?_ | refine blk_alloc ?_ _)); exact BK104.out)) : gb104 ≠ gb105)); have n6_ := Aside0.mk ((by rw [hg]; exact Nat.ne_of_gt (blk_lt (g := gb104) (o := .cells #[.int .i64 a0_0, .int .u64 a0_1] 30 (0, 0)) (by (with_reducible repeat (first | refine blk_drewN ?_ _ | refine blk_drew ?_ | refine blk_alloc ?_ _)); exact BK104.out)) : gb105 ≠ gb104)); clear BK104; clear HB; have BK104 := n0_; have HB := n1_; have BK105 := n2_; have GW105 := n3_; have GE105 := n4_; have NB104_105 := n5_; have NB105_104 := n6_; clear n0_ n1_ n2_ n3_ n4_ n5_ n6_; clear hb hbox hg) | ((with_reducible refine gate_dst (N := 4) rfl ?_); refine box_event ?hg (N := 4) ?hd (cs := #[.int .i64 0, .int .u64 0]) (t := 30) ?hr ?_; (case hd => rfl); (case hg => rfl); (case hr => first | (go_simp; done) | (go_simp; rfl)); intro gb106 hg w6 hbox hb; have n0_ := Aside0.mk (blk_below (g := gb104) (o := .cells #[.int .i64 a0_0, .int .u64 a0_1] 30 (0, 0)) (by (with_reducible repeat (first | refine blk_drewN ?_ _ | refine blk_drew ?_ | refine blk_alloc ?_ _)); exact BK104.out) hb); have n1_ := Aside0.mk (blk_below (g := gb105) (o := .cells #[.int .i64 a1_0, .int .u64 a1_1] 30 (0, 0)) (by (with_reducible repeat (first | refine blk_drewN ?_ _ | refine blk_drew ?_ | refine blk_alloc ?_ _)); exact BK105.out) hb); have n2_ := Aside0.mk (below_step (by repeat (first | (with_reducible first | exact HB.out | apply below_alloc | apply pw_below_drewN | apply below_drew1 | refine below_set ?_ GE104.out | refine below_set ?_ GE105.out) | exact HB.out)) hb); have n3_ := Aside0.mk (hbox); have n4_ := Aside0.mk ((by rw [hg]; exact (below_size (by repeat (first | (with_reducible first | exact HB.out | apply below_alloc | apply pw_below_drewN | apply below_drew1 | refine below_set ?_ GE104.out | refine below_set ?_ GE105.out) | exact HB.out))) : w.heap.size ≤ gb106)); have n5_ := Aside0.mk ((by rw [hg]; exact (below_size (by repeat (first | (with_reducible first | exact HB.out | apply below_alloc | apply pw_below_drewN | apply below_drew1 | refine below_set ?_ GE104.out | refine below_set ?_ GE105.out) | exact HB.out))) : w.heap.size ≤ gb106)); have n6_ := Aside0.mk ((by rw [hg]; exact Nat.ne_of_lt (blk_lt (g := gb104) (o := .cells #[.int .i64 a0_0, .int .u64 a0_1] 30 (0, 0)) (by (with_reducible repeat (first | refine blk_drewN ?_ _ | refine blk_drew ?_ | refine blk_alloc ?_ _)); exact BK104.out)) : gb104 ≠ gb106)); have n7_ := Aside0.mk ((by rw [hg]; exact Nat.ne_of_gt (blk_lt (g := gb104) (o := .cells #[.int .i64 a0_0, .int .u64 a0_1] 30 (0, 0)) (by (with_reducible repeat (first | refine blk_drewN ?_ _ | refine blk_drew ?_ | refine blk_alloc ?_ _)); exact BK104.out)) : gb106 ≠ gb104)); have n8_ := Aside0.mk ((by rw [hg]; exact Nat.ne_of_lt (blk_lt (g := gb105) (o := .cells #[.int .i64 a1_0, .int .u64 a1_1] 30 (0, 0)) (by (with_reducible repeat (first | refine blk_drewN ?_ _ | refine blk_drew ?_ | refine blk_alloc ?_ _)); exact BK105.out)) : gb105 ≠ gb106)); have n9_ := Aside0.mk ((by rw [hg]; exact Nat.ne_of_gt (blk_lt (g := gb105) (o := .cells #[.int .i64 a1_0, .int .u64 a1_1] 30 (0, 0)) (by (with_reducible repeat (first | refine blk_drewN ?_ _ | refine blk_drew ?_ | refine blk_alloc ?_ _)); exact BK105.out)) : gb106 ≠ gb105)); clear BK104; clear BK105; clear HB; have BK104 := n0_; have BK105 := n1_; have HB := n2_; have BK106 := n3_; have GW106 := n4_; have GE106 := n5_; have NB104_106 := n6_; have NB106_104 := n7_; have NB105_106 := n8_; have NB106_105 := n9_; clear n0_ n1_ n2_ n3_ n4_ n5_ n6_ n7_ n8_ n9_; clear hb hbox hg; have hnb7 := NB104_105.out; have hnc7 := NB105_104.out; have hnb8 := NB104_106.out; have hnc8 := NB106_104.out; have hcz9_0 : w6.cell? ⟨gb104, 0, none⟩ = some (.int .i64 a0_0) := (blk_cell BK104.out 0).trans rfl; have hcz9_1 : w6.cell? ⟨gb104, 1, none⟩ = some (.int .u64 a0_1) := (blk_cell BK104.out 1).trans rfl; have hfz9_0 := blk_frozen BK104.out 0; have hfz9_1 := blk_frozen BK104.out 1; have hnb10 := NB105_106.out; have hnc10 := NB106_105.out; have hcz11_0 : w6.cell? ⟨gb105, 0, none⟩ = some (.int .i64 a1_0) := (blk_cell BK105.out 0).trans rfl; have hcz11_1 : w6.cell? ⟨gb105, 1, none⟩ = some (.int .u64 a1_1) := (blk_cell BK105.out 1).trans rfl; have hfz11_0 := blk_frozen BK105.out 0; have hfz11_1 := blk_frozen BK105.out 1; have hcz12_0 : w6.cell? ⟨gb106, 0, none⟩ = some (.int .i64 0) := (blk_cell BK106.out 0).trans rfl; have hcz12_1 : w6.cell? ⟨gb106, 1, none⟩ = some (.int .u64 0) := (blk_cell BK106.out 1).trans rfl; have hfz12_0 := blk_frozen BK106.out 0; have hfz12_1 := blk_frozen BK106.out 1))
  refine bodyPost_ret (results_cell_row rfl _ _ gb106 30 #[.int .i64 ji3, .int .u64 (Go.bits .and .u64 a0_1 a1_1)] (0, 0) _ rfl (by (with_reducible repeat (first | refine blk_drewN ?_ _ | refine blk_drew ?_ | refine blk_alloc ?_ _)); refine blk_put (cs := #[.int .i64 ji3, .int .u64 0]) ?_ 1 _ rfl; (with_reducible repeat (first | refine blk_drewN ?_ _ | refine blk_drew ?_ | refine blk_alloc ?_ _)); refine blk_put (cs := #[.int .i64 0, .int .u64 0]) ?_ 0 _ rfl; (with_reducible repeat (first | refine blk_drewN ?_ _ | refine blk_drew ?_ | refine blk_alloc ?_ _)); exact BK106.out) Tryd.underlying30 rfl (by kernel_rfl)) rfl ?_
  exact ⟨by first | rfl | (simp [errW_none, errW_some] <;> rfl) | (simp only [← hji3]; first | rfl | (simp [errW_none, errW_some] <;> rfl)) | (simp [*, errW_none, errW_some] <;> rfl), by repeat (first | (with_reducible first | exact HB.out | apply below_alloc | apply pw_below_drewN | apply below_drew1 | refine below_set ?_ GE104.out | refine below_set ?_ GE105.out | refine below_set ?_ GE106.out) | exact HB.out)⟩
def lattice_Over.f (a0_0 : Int) (a0_1 : Int) (a1_0 : Int) (a1_1 : Int) : Option (Bool) := if a0_0 ≥ a1_0 then (some ((Go.bits .andNot .u64 a1_1 a0_1) == 0)) else (some false)
set_option maxHeartbeats 8000000 in
set_option maxRecDepth 100000 in
theorem lattice_Over.calls (a0_0 : Int) (a0_1 : Int) (a1_0 : Int) (a1_1 : Int) (r : Bool) (w : World) (h : lattice_Over.f a0_0 a0_1 a1_0 a1_1 = some r) :
    Calls Tryd.prog 22 #[.agg #[.int .i64 a0_0, .int .u64 a0_1], .agg #[.int .i64 a1_0, .int .u64 a1_1]] w fun e w' => e = .returned (.bool r) ∧ Below w.heap.size w w' := by
  have hu30 := Tryd.underlying30
  have HB := Aside0.mk (Below.refl w.heap.size w)
  have H : (if a0_0 ≥ a1_0 then (some ((Go.bits .andNot .u64 a1_1 a0_1) == 0)) else (some false)) = some r := h
  clear h
  by_cases c3 : a0_0 ≥ a1_0
  · rw [if_pos c3] at H
    have c3b0 : decide (a1_0 ≤ a0_0) = true := decide_eq_true c3
    clear c3
    obtain rfl := Option.some.inj H
    go_enter Tryd.func22, Tryd.ntmps22
    go_wp2_with (first | ((with_reducible refine gate_dst (N := 2) rfl ?_); refine box_event ?hg (N := 2) ?hd (cs := #[.int .i64 a0_0, .int .u64 a0_1]) (t := 30) ?hr ?_; (case hd => rfl); (case hg => rfl); (case hr => first | (go_simp; done) | (go_simp; rfl)); intro gb107 hg w4 hbox hb; have n0_ := Aside0.mk (below_step (by repeat (first | (with_reducible first | exact HB.out | apply below_alloc | apply pw_below_drewN | apply below_drew1) | exact HB.out)) hb); have n1_ := Aside0.mk (hbox); have n2_ := Aside0.mk ((by rw [hg]; exact (below_size (by repeat (first | (with_reducible first | exact HB.out | apply below_alloc | apply pw_below_drewN | apply below_drew1) | exact HB.out))) : w.heap.size ≤ gb107)); have n3_ := Aside0.mk ((by rw [hg]; exact (below_size (by repeat (first | (with_reducible first | exact HB.out | apply below_alloc | apply pw_below_drewN | apply below_drew1) | exact HB.out))) : w.heap.size ≤ gb107)); clear HB; have HB := n0_; have BK107 := n1_; have GW107 := n2_; have GE107 := n3_; clear n0_ n1_ n2_ n3_; clear hb hbox hg) | ((with_reducible refine gate_dst (N := 3) rfl ?_); refine box_event ?hg (N := 3) ?hd (cs := #[.int .i64 a1_0, .int .u64 a1_1]) (t := 30) ?hr ?_; (case hd => rfl); (case hg => rfl); (case hr => first | (go_simp; done) | (go_simp; rfl)); intro gb108 hg w5 hbox hb; have n0_ := Aside0.mk (blk_below (g := gb107) (o := .cells #[.int .i64 a0_0, .int .u64 a0_1] 30 (0, 0)) (by (with_reducible repeat (first | refine blk_drewN ?_ _ | refine blk_drew ?_ | refine blk_alloc ?_ _)); exact BK107.out) hb); have n1_ := Aside0.mk (below_step (by repeat (first | (with_reducible first | exact HB.out | apply below_alloc | apply pw_below_drewN | apply below_drew1 | refine below_set ?_ GE107.out) | exact HB.out)) hb); have n2_ := Aside0.mk (hbox); have n3_ := Aside0.mk ((by rw [hg]; exact (below_size (by repeat (first | (with_reducible first | exact HB.out | apply below_alloc | apply pw_below_drewN | apply below_drew1 | refine below_set ?_ GE107.out) | exact HB.out))) : w.heap.size ≤ gb108)); have n4_ := Aside0.mk ((by rw [hg]; exact (below_size (by repeat (first | (with_reducible first | exact HB.out | apply below_alloc | apply pw_below_drewN | apply below_drew1 | refine below_set ?_ GE107.out) | exact HB.out))) : w.heap.size ≤ gb108)); have n5_ := Aside0.mk ((by rw [hg]; exact Nat.ne_of_lt (blk_lt (g := gb107) (o := .cells #[.int .i64 a0_0, .int .u64 a0_1] 30 (0, 0)) (by (with_reducible repeat (first | refine blk_drewN ?_ _ | refine blk_drew ?_ | refine blk_alloc ?_ _)); exact BK107.out)) : gb107 ≠ gb108)); have n6_ := Aside0.mk ((by rw [hg]; exact Nat.ne_of_gt (blk_lt (g := gb107) (o := .cells #[.int .i64 a0_0, .int .u64 a0_1] 30 (0, 0)) (by (with_reducible repeat (first | refine blk_drewN ?_ _ | refine blk_drew ?_ | refine blk_alloc ?_ _)); exact BK107.out)) : gb108 ≠ gb107)); clear BK107; clear HB; have BK107 := n0_; have HB := n1_; have BK108 := n2_; have GW108 := n3_; have GE108 := n4_; have NB107_108 := n5_; have NB108_107 := n6_; clear n0_ n1_ n2_ n3_ n4_ n5_ n6_; clear hb hbox hg; have hnb6 := NB107_108.out; have hnc6 := NB108_107.out; have hcz7_0 : w5.cell? ⟨gb107, 0, none⟩ = some (.int .i64 a0_0) := (blk_cell BK107.out 0).trans rfl; have hcz7_1 : w5.cell? ⟨gb107, 1, none⟩ = some (.int .u64 a0_1) := (blk_cell BK107.out 1).trans rfl; have hfz7_0 := blk_frozen BK107.out 0; have hfz7_1 := blk_frozen BK107.out 1; have hcz8_0 : w5.cell? ⟨gb108, 0, none⟩ = some (.int .i64 a1_0) := (blk_cell BK108.out 0).trans rfl; have hcz8_1 : w5.cell? ⟨gb108, 1, none⟩ = some (.int .u64 a1_1) := (blk_cell BK108.out 1).trans rfl; have hfz8_0 := blk_frozen BK108.out 0; have hfz8_1 := blk_frozen BK108.out 1))
    go_ret
    exact ⟨by first | rfl | (simp [errW_none, errW_some] <;> rfl) | (simp [*, errW_none, errW_some] <;> rfl), by repeat (first | (with_reducible first | exact HB.out | apply below_alloc | apply pw_below_drewN | apply below_drew1 | refine below_set ?_ GE107.out | refine below_set ?_ GE108.out) | exact HB.out)⟩
  · rw [if_neg c3] at H
    have c3b0 : decide (a1_0 ≤ a0_0) = false := decide_eq_false c3
    clear c3
    obtain rfl := Option.some.inj H
    go_enter Tryd.func22, Tryd.ntmps22
    go_wp2_with (first | ((with_reducible refine gate_dst (N := 2) rfl ?_); refine box_event ?hg (N := 2) ?hd (cs := #[.int .i64 a0_0, .int .u64 a0_1]) (t := 30) ?hr ?_; (case hd => rfl); (case hg => rfl); (case hr => first | (go_simp; done) | (go_simp; rfl)); intro gb107 hg w9 hbox hb; have n0_ := Aside0.mk (below_step (by repeat (first | (with_reducible first | exact HB.out | apply below_alloc | apply pw_below_drewN | apply below_drew1) | exact HB.out)) hb); have n1_ := Aside0.mk (hbox); have n2_ := Aside0.mk ((by rw [hg]; exact (below_size (by repeat (first | (with_reducible first | exact HB.out | apply below_alloc | apply pw_below_drewN | apply below_drew1) | exact HB.out))) : w.heap.size ≤ gb107)); have n3_ := Aside0.mk ((by rw [hg]; exact (below_size (by repeat (first | (with_reducible first | exact HB.out | apply below_alloc | apply pw_below_drewN | apply below_drew1) | exact HB.out))) : w.heap.size ≤ gb107)); clear HB; have HB := n0_; have BK107 := n1_; have GW107 := n2_; have GE107 := n3_; clear n0_ n1_ n2_ n3_; clear hb hbox hg) | ((with_reducible refine gate_dst (N := 3) rfl ?_); refine box_event ?hg (N := 3) ?hd (cs := #[.int .i64 a1_0, .int .u64 a1_1]) (t := 30) ?hr ?_; (case hd => rfl); (case hg => rfl); (case hr => first | (go_simp; done) | (go_simp; rfl)); intro gb108 hg w10 hbox hb; have n0_ := Aside0.mk (blk_below (g := gb107) (o := .cells #[.int .i64 a0_0, .int .u64 a0_1] 30 (0, 0)) (by (with_reducible repeat (first | refine blk_drewN ?_ _ | refine blk_drew ?_ | refine blk_alloc ?_ _)); exact BK107.out) hb); have n1_ := Aside0.mk (below_step (by repeat (first | (with_reducible first | exact HB.out | apply below_alloc | apply pw_below_drewN | apply below_drew1 | refine below_set ?_ GE107.out) | exact HB.out)) hb); have n2_ := Aside0.mk (hbox); have n3_ := Aside0.mk ((by rw [hg]; exact (below_size (by repeat (first | (with_reducible first | exact HB.out | apply below_alloc | apply pw_below_drewN | apply below_drew1 | refine below_set ?_ GE107.out) | exact HB.out))) : w.heap.size ≤ gb108)); have n4_ := Aside0.mk ((by rw [hg]; exact (below_size (by repeat (first | (with_reducible first | exact HB.out | apply below_alloc | apply pw_below_drewN | apply below_drew1 | refine below_set ?_ GE107.out) | exact HB.out))) : w.heap.size ≤ gb108)); have n5_ := Aside0.mk ((by rw [hg]; exact Nat.ne_of_lt (blk_lt (g := gb107) (o := .cells #[.int .i64 a0_0, .int .u64 a0_1] 30 (0, 0)) (by (with_reducible repeat (first | refine blk_drewN ?_ _ | refine blk_drew ?_ | refine blk_alloc ?_ _)); exact BK107.out)) : gb107 ≠ gb108)); have n6_ := Aside0.mk ((by rw [hg]; exact Nat.ne_of_gt (blk_lt (g := gb107) (o := .cells #[.int .i64 a0_0, .int .u64 a0_1] 30 (0, 0)) (by (with_reducible repeat (first | refine blk_drewN ?_ _ | refine blk_drew ?_ | refine blk_alloc ?_ _)); exact BK107.out)) : gb108 ≠ gb107)); clear BK107; clear HB; have BK107 := n0_; have HB := n1_; have BK108 := n2_; have GW108 := n3_; have GE108 := n4_; have NB107_108 := n5_; have NB108_107 := n6_; clear n0_ n1_ n2_ n3_ n4_ n5_ n6_; clear hb hbox hg; have hnb11 := NB107_108.out; have hnc11 := NB108_107.out; have hcz12_0 : w10.cell? ⟨gb107, 0, none⟩ = some (.int .i64 a0_0) := (blk_cell BK107.out 0).trans rfl; have hcz12_1 : w10.cell? ⟨gb107, 1, none⟩ = some (.int .u64 a0_1) := (blk_cell BK107.out 1).trans rfl; have hfz12_0 := blk_frozen BK107.out 0; have hfz12_1 := blk_frozen BK107.out 1; have hcz13_0 : w10.cell? ⟨gb108, 0, none⟩ = some (.int .i64 a1_0) := (blk_cell BK108.out 0).trans rfl; have hcz13_1 : w10.cell? ⟨gb108, 1, none⟩ = some (.int .u64 a1_1) := (blk_cell BK108.out 1).trans rfl; have hfz13_0 := blk_frozen BK108.out 0; have hfz13_1 := blk_frozen BK108.out 1))
    go_ret
    exact ⟨by first | rfl | (simp [errW_none, errW_some] <;> rfl) | (simp [*, errW_none, errW_some] <;> rfl), by repeat (first | (with_reducible first | exact HB.out | apply below_alloc | apply pw_below_drewN | apply below_drew1 | refine below_set ?_ GE107.out | refine below_set ?_ GE108.out) | exact HB.out)⟩
def grilleref12_Over.l0 : Nat → Int → Int → Int → Int → Int → Option (Bool)
  | 0, _, _, _, _, _ => none
  | k + 1, x5, x110000, x110001, x111000, x111001 => if x5 < 64 then ((grilleref12_Has.f k x111001 x5).bind fun t111 => (if t111 = true then ((grilleref12_Has.f k x110001 x5).bind fun t112 => (if t112 = true then (grilleref12_Over.l0 k (wrap64 (x5 + 1)) x110000 x110001 x111000 x111001) else (some false))) else (grilleref12_Over.l0 k (wrap64 (x5 + 1)) x110000 x110001 x111000 x111001))) else (some (decide (x110000 ≥ x111000)))
def grilleref12_Over.f (k : Nat) (a0_0 : Int) (a0_1 : Int) (a1_0 : Int) (a1_1 : Int) : Option (Bool) := grilleref12_Over.l0 k 0 a0_0 a0_1 a1_0 a1_1
theorem grilleref12_Over.mono_l : ∀ k, (∀ y0 y1 y2 y3 y4, LeO (grilleref12_Over.l0 k y0 y1 y2 y3 y4) (grilleref12_Over.l0 (k + 1) y0 y1 y2 y3 y4))
  | 0 => fun _ _ _ _ _ r h => by simp [grilleref12_Over.l0] at h
  | k + 1 => by
    have ih0 := grilleref12_Over.mono_l k
    · intro y0 y1 y2 y3 y4
      unfold grilleref12_Over.l0
      repeat' first
      | (with_reducible exact ih0 _ _ _ _ _)
      | (with_reducible exact grilleref12_Has.mono _ _ _)
      | (with_reducible exact LeO.refl _)
      | (with_reducible exact LeO.none _)
      | (with_reducible refine LeO.ite ?_ ?_)
      | (with_reducible refine LeO.bind ?_ (fun _ => ?_))
      | exact ih0 _ _ _ _ _
      | exact grilleref12_Has.mono _ _ _
      | exact LeO.none _
      | refine LeO.ite ?_ ?_
      | refine LeO.bind ?_ (fun _ => ?_)
theorem grilleref12_Over.mono : ∀ a0 a1 a2 a3 k, LeO (grilleref12_Over.f k a0 a1 a2 a3) (grilleref12_Over.f (k + 1) a0 a1 a2 a3) := by
  intro a0 a1 a2 a3 k
  have ih0 := grilleref12_Over.mono_l k
  unfold grilleref12_Over.f
  repeat' first
      | (with_reducible exact ih0 _ _ _ _ _)
      | (with_reducible exact grilleref12_Has.mono _ _ _)
      | (with_reducible exact LeO.refl _)
      | (with_reducible exact LeO.none _)
      | (with_reducible refine LeO.ite ?_ ?_)
      | (with_reducible refine LeO.bind ?_ (fun _ => ?_))
      | exact ih0 _ _ _ _ _
      | exact grilleref12_Has.mono _ _ _
      | exact LeO.none _
      | refine LeO.ite ?_ ?_
      | refine LeO.bind ?_ (fun _ => ?_)
set_option maxHeartbeats 8000000 in
set_option maxRecDepth 100000 in
theorem grilleref12_Over.calls (k : Nat) (a0_0 : Int) (a0_1 : Int) (a1_0 : Int) (a1_1 : Int) (r : Bool) (w : World) (h : grilleref12_Over.f k a0_0 a0_1 a1_0 a1_1 = some r) :
    Calls Tryd.prog 23 #[.agg #[.int .i64 a0_0, .int .u64 a0_1], .agg #[.int .i64 a1_0, .int .u64 a1_1]] w fun e w' => e = .returned (.bool r) ∧ Below w.heap.size w w' := by
  have hu28 := Tryd.underlying28
  have HB := Aside0.mk (Below.refl w.heap.size w)
  have H : (grilleref12_Over.l0 k 0 a0_0 a0_1 a1_0 a1_1) = some r := h
  clear h
  have H' := Aside0.mk H
  clear H
  go_enter Tryd.func23, Tryd.ntmps23
  go_wp2_with (first | ((with_reducible refine gate_dst (N := 2) rfl ?_); refine box_event ?hg (N := 2) ?hd (cs := #[.int .i64 a0_0, .int .u64 a0_1]) (t := 28) ?hr ?_; (case hd => rfl); (case hg => rfl); (case hr => first | (go_simp; done) | (go_simp; rfl)); intro gb109 hg w3 hbox hb; have n0_ := Aside0.mk (below_step (by repeat (first | (with_reducible first | exact HB.out | apply below_alloc | apply pw_below_drewN | apply below_drew1) | exact HB.out)) hb); have n1_ := Aside0.mk (hbox); have n2_ := Aside0.mk ((by rw [hg]; exact (below_size (by repeat (first | (with_reducible first | exact HB.out | apply below_alloc | apply pw_below_drewN | apply below_drew1) | exact HB.out))) : w.heap.size ≤ gb109)); have n3_ := Aside0.mk ((by rw [hg]; exact (below_size (by repeat (first | (with_reducible first | exact HB.out | apply below_alloc | apply pw_below_drewN | apply below_drew1) | exact HB.out))) : w.heap.size ≤ gb109)); clear HB; have HB := n0_; have BK109 := n1_; have GW109 := n2_; have GE109 := n3_; clear n0_ n1_ n2_ n3_; clear hb hbox hg) | ((with_reducible refine gate_dst (N := 3) rfl ?_); refine box_event ?hg (N := 3) ?hd (cs := #[.int .i64 a1_0, .int .u64 a1_1]) (t := 28) ?hr ?_; (case hd => rfl); (case hg => rfl); (case hr => first | (go_simp; done) | (go_simp; rfl)); intro gb110 hg w4 hbox hb; have n0_ := Aside0.mk (blk_below (g := gb109) (o := .cells #[.int .i64 a0_0, .int .u64 a0_1] 28 (0, 0)) (by (with_reducible repeat (first | refine blk_drewN ?_ _ | refine blk_drew ?_ | refine blk_alloc ?_ _)); exact BK109.out) hb); have n1_ := Aside0.mk (below_step (by repeat (first | (with_reducible first | exact HB.out | apply below_alloc | apply pw_below_drewN | apply below_drew1 | refine below_set ?_ GE109.out) | exact HB.out)) hb); have n2_ := Aside0.mk (hbox); have n3_ := Aside0.mk ((by rw [hg]; exact (below_size (by repeat (first | (with_reducible first | exact HB.out | apply below_alloc | apply pw_below_drewN | apply below_drew1 | refine below_set ?_ GE109.out) | exact HB.out))) : w.heap.size ≤ gb110)); have n4_ := Aside0.mk ((by rw [hg]; exact (below_size (by repeat (first | (with_reducible first | exact HB.out | apply below_alloc | apply pw_below_drewN | apply below_drew1 | refine below_set ?_ GE109.out) | exact HB.out))) : w.heap.size ≤ gb110)); have n5_ := Aside0.mk ((by rw [hg]; exact Nat.ne_of_lt (blk_lt (g := gb109) (o := .cells #[.int .i64 a0_0, .int .u64 a0_1] 28 (0, 0)) (by (with_reducible repeat (first | refine blk_drewN ?_ _ | refine blk_drew ?_ | refine blk_alloc ?_ _)); exact BK109.out)) : gb109 ≠ gb110)); have n6_ := Aside0.mk ((by rw [hg]; exact Nat.ne_of_gt (blk_lt (g := gb109) (o := .cells #[.int .i64 a0_0, .int .u64 a0_1] 28 (0, 0)) (by (with_reducible repeat (first | refine blk_drewN ?_ _ | refine blk_drew ?_ | refine blk_alloc ?_ _)); exact BK109.out)) : gb110 ≠ gb109)); clear BK109; clear HB; have BK109 := n0_; have HB := n1_; have BK110 := n2_; have GW110 := n3_; have GE110 := n4_; have NB109_110 := n5_; have NB110_109 := n6_; clear n0_ n1_ n2_ n3_ n4_ n5_ n6_; clear hb hbox hg))
  go_loopg [5] k (fun kq v5 w' => ∃ (x5_1 : Int), v5 = .int .i64 x5_1 ∧ Aside0 (grilleref12_Over.l0 kq x5_1 a0_0 a0_1 a1_0 a1_1 = some r) ∧ Aside0 (kq ≤ k) ∧ Aside0 (w'.heap[gb109]? = some (.cells #[.int .i64 a0_0, .int .u64 a0_1] 28 (0, 0))) ∧ Aside0 (w'.heap[gb110]? = some (.cells #[.int .i64 a1_0, .int .u64 a1_1] 28 (0, 0))) ∧ Aside0 (Below w.heap.size w w'))
  case atStart => exact ⟨(0), (by first | rfl | (simp; done) | (simp [*]; done) | (simp [xbne_nil, xbeq_nil]; done)), H', ⟨Nat.le_refl _⟩, ⟨by (with_reducible repeat (first | refine blk_drewN ?_ _ | refine blk_drew ?_ | refine blk_alloc ?_ _)); exact BK109.out⟩, ⟨by (with_reducible repeat (first | refine blk_drewN ?_ _ | refine blk_drew ?_ | refine blk_alloc ?_ _)); exact BK110.out⟩, ⟨by repeat (first | (with_reducible first | exact HB.out | apply below_alloc | apply pw_below_drewN | apply below_drew1 | refine below_set ?_ GE109.out | refine below_set ?_ GE110.out) | exact HB.out)⟩⟩
  case round =>
    clear H'
    try clear c2
    try clear p2
    obtain ⟨x5_1, rfl, HA, HK1, BK109, BK110, HB⟩ := hrel
    cases gk with
    | zero => exact absurd HA.out (by simp [grilleref12_Over.l0])
    | succ k1 =>
      have H := HA.out
      clear HA
      simp only [grilleref12_Over.l0] at H
      by_cases c5 : x5_1 < 64
      · rw [if_pos c5] at H
        have c5b0 : decide (x5_1 < 64) = true := decide_eq_true c5
        clear c5
        replace H := Option.bind_eq_some_iff.mp H
        obtain ⟨t111, A60, H⟩ := H
        replace H : (if t111 = true then ((grilleref12_Has.f k1 a0_1 x5_1).bind fun t112 => (if t112 = true then (grilleref12_Over.l0 k1 (wrap64 (x5_1 + 1)) a0_0 a0_1 a1_0 a1_1) else (some false))) else (grilleref12_Over.l0 k1 (wrap64 (x5_1 + 1)) a0_0 a0_1 a1_0 a1_1)) = some r := H
        have A6 := Aside0.mk A60
        clear A60
        by_cases c7 : t111 = true
        · subst c7
          have H1 : ((grilleref12_Has.f k1 a0_1 x5_1).bind fun t112 => (if t112 = true then (grilleref12_Over.l0 k1 (wrap64 (x5_1 + 1)) a0_0 a0_1 a1_0 a1_1) else (some false))) = some r := by rw [if_pos rfl] at H; exact H
          clear H
          have H := H1
          clear H1
          replace H := Option.bind_eq_some_iff.mp H
          obtain ⟨t112, A80, H⟩ := H
          replace H : (if t112 = true then (grilleref12_Over.l0 k1 (wrap64 (x5_1 + 1)) a0_0 a0_1 a1_0 a1_1) else (some false)) = some r := H
          have A8 := Aside0.mk A80
          clear A80
          by_cases c9 : t112 = true
          · subst c9
            have H1 : (grilleref12_Over.l0 k1 (wrap64 (x5_1 + 1)) a0_0 a0_1 a1_0 a1_1) = some r := by rw [if_pos rfl] at H; exact H
            clear H
            have H := H1
            clear H1
            have H' := Aside0.mk H
            clear H
            have hnb10 := NB110_109.out
            have hnc10 := NB109_110.out
            have hcz11_0 : wr.cell? ⟨gb110, 0, none⟩ = some (.int .i64 a1_0) := (blk_cell BK110.out 0).trans rfl
            have hcz11_1 : wr.cell? ⟨gb110, 1, none⟩ = some (.int .u64 a1_1) := (blk_cell BK110.out 1).trans rfl
            have hfz11_0 := blk_frozen BK110.out 0
            have hfz11_1 := blk_frozen BK110.out 1
            go_wp2_with (first | ((with_reducible refine gate_callee (f := 66) rfl ?_); refine goesL_ (some 13) rfl rfl Tryd.func66 (by kernel_rfl) rfl #[.int .u64 a1_1, .int .i64 x5_1] rfl (by (try simp only [List.map_toArray, List.map_cons, List.map_nil]); first | done | rfl | (simp only [List.length_drop, List.length_take]; rfl)) ?_; (with_reducible refine (grilleref12_Has.calls k1 a1_1 x5_1 true _ A6.out).mono ?_); rintro e w' ⟨rfl, ⟨nd, rfl⟩⟩; refine ⟨_, rfl, ?_⟩; have hcz12_0 : wr.cell? ⟨gb109, 0, none⟩ = some (.int .i64 a0_0) := (blk_cell BK109.out 0).trans rfl; have hcz12_1 : wr.cell? ⟨gb109, 1, none⟩ = some (.int .u64 a0_1) := (blk_cell BK109.out 1).trans rfl; have hfz12_0 := blk_frozen BK109.out 0; have hfz12_1 := blk_frozen BK109.out 1) | (go_at_call 66; (with_reducible refine (grilleref12_Has.calls k1 a0_1 x5_1 true _ A8.out).mono ?_); rintro e w' ⟨rfl, ⟨nd, rfl⟩⟩))
            go_roundg k1
            case measure => have := HK1.out; omega
            case rel => exact ⟨(wrap64 (x5_1 + 1)), (by first | rfl | (simp; done) | (simp [*]; done) | (simp [xbne_nil, xbeq_nil]; done)), H', ⟨by have := HK1.out; omega⟩, ⟨by (with_reducible repeat (first | refine blk_drewN ?_ _ | refine blk_drew ?_ | refine blk_alloc ?_ _)); exact BK109.out⟩, ⟨by (with_reducible repeat (first | refine blk_drewN ?_ _ | refine blk_drew ?_ | refine blk_alloc ?_ _)); exact BK110.out⟩, ⟨by repeat (first | (with_reducible first | exact HB.out | apply below_alloc | apply pw_below_drewN | apply below_drew1 | refine below_set ?_ GE109.out | refine below_set ?_ GE110.out) | exact HB.out)⟩⟩
          · replace c9 := Bool.eq_false_iff.mpr c9
            subst c9
            have H1 : (some false) = some r := by rw [if_neg (show ¬ (false = true) by decide)] at H; exact H
            clear H
            have H := H1
            clear H1
            obtain rfl := Option.some.inj H
            have hnb13 := NB110_109.out
            have hnc13 := NB109_110.out
            have hcz14_0 : wr.cell? ⟨gb110, 0, none⟩ = some (.int .i64 a1_0) := (blk_cell BK110.out 0).trans rfl
            have hcz14_1 : wr.cell? ⟨gb110, 1, none⟩ = some (.int .u64 a1_1) := (blk_cell BK110.out 1).trans rfl
            have hfz14_0 := blk_frozen BK110.out 0
            have hfz14_1 := blk_frozen BK110.out 1
            go_wp2_with (first | ((with_reducible refine gate_callee (f := 66) rfl ?_); refine goesL_ (some 13) rfl rfl Tryd.func66 (by kernel_rfl) rfl #[.int .u64 a1_1, .int .i64 x5_1] rfl (by (try simp only [List.map_toArray, List.map_cons, List.map_nil]); first | done | rfl | (simp only [List.length_drop, List.length_take]; rfl)) ?_; (with_reducible refine (grilleref12_Has.calls k1 a1_1 x5_1 true _ A6.out).mono ?_); rintro e w' ⟨rfl, ⟨nd, rfl⟩⟩; refine ⟨_, rfl, ?_⟩; have hcz15_0 : wr.cell? ⟨gb109, 0, none⟩ = some (.int .i64 a0_0) := (blk_cell BK109.out 0).trans rfl; have hcz15_1 : wr.cell? ⟨gb109, 1, none⟩ = some (.int .u64 a0_1) := (blk_cell BK109.out 1).trans rfl; have hfz15_0 := blk_frozen BK109.out 0; have hfz15_1 := blk_frozen BK109.out 1) | (go_at_call 66; (with_reducible refine (grilleref12_Has.calls k1 a0_1 x5_1 false _ A8.out).mono ?_); rintro e w' ⟨rfl, ⟨nd, rfl⟩⟩))
            go_ret
            exact ⟨by first | rfl | (simp [errW_none, errW_some] <;> rfl) | (simp [*, errW_none, errW_some] <;> rfl), by repeat (first | (with_reducible first | exact HB.out | apply below_alloc | apply pw_below_drewN | apply below_drew1 | refine below_set ?_ GE109.out | refine below_set ?_ GE110.out) | exact HB.out)⟩
        · replace c7 := Bool.eq_false_iff.mpr c7
          subst c7
          have H1 : (grilleref12_Over.l0 k1 (wrap64 (x5_1 + 1)) a0_0 a0_1 a1_0 a1_1) = some r := by rw [if_neg (show ¬ (false = true) by decide)] at H; exact H
          clear H
          have H := H1
          clear H1
          have H' := Aside0.mk H
          clear H
          have hnb16 := NB110_109.out
          have hnc16 := NB109_110.out
          have hcz17_0 : wr.cell? ⟨gb110, 0, none⟩ = some (.int .i64 a1_0) := (blk_cell BK110.out 0).trans rfl
          have hcz17_1 : wr.cell? ⟨gb110, 1, none⟩ = some (.int .u64 a1_1) := (blk_cell BK110.out 1).trans rfl
          have hfz17_0 := blk_frozen BK110.out 0
          have hfz17_1 := blk_frozen BK110.out 1
          go_wp2_with (first | ((with_reducible refine gate_callee (f := 66) rfl ?_); refine goesL_ (some 13) rfl rfl Tryd.func66 (by kernel_rfl) rfl #[.int .u64 a1_1, .int .i64 x5_1] rfl (by (try simp only [List.map_toArray, List.map_cons, List.map_nil]); first | done | rfl | (simp only [List.length_drop, List.length_take]; rfl)) ?_; (with_reducible refine (grilleref12_Has.calls k1 a1_1 x5_1 false _ A6.out).mono ?_); rintro e w' ⟨rfl, ⟨nd, rfl⟩⟩; refine ⟨_, rfl, ?_⟩))
          go_roundg k1
          case measure => have := HK1.out; omega
          case rel => exact ⟨(wrap64 (x5_1 + 1)), (by first | rfl | (simp; done) | (simp [*]; done) | (simp [xbne_nil, xbeq_nil]; done)), H', ⟨by have := HK1.out; omega⟩, ⟨by (with_reducible repeat (first | refine blk_drewN ?_ _ | refine blk_drew ?_ | refine blk_alloc ?_ _)); exact BK109.out⟩, ⟨by (with_reducible repeat (first | refine blk_drewN ?_ _ | refine blk_drew ?_ | refine blk_alloc ?_ _)); exact BK110.out⟩, ⟨by repeat (first | (with_reducible first | exact HB.out | apply below_alloc | apply pw_below_drewN | apply below_drew1 | refine below_set ?_ GE109.out | refine below_set ?_ GE110.out) | exact HB.out)⟩⟩
      · rw [if_neg c5] at H
        have c5b0 : decide (x5_1 < 64) = false := decide_eq_false c5
        clear c5
        obtain rfl := Option.some.inj H
        have hnb18 := NB109_110.out
        have hnc18 := NB110_109.out
        have hcz19_0 : wr.cell? ⟨gb109, 0, none⟩ = some (.int .i64 a0_0) := (blk_cell BK109.out 0).trans rfl
        have hcz19_1 : wr.cell? ⟨gb109, 1, none⟩ = some (.int .u64 a0_1) := (blk_cell BK109.out 1).trans rfl
        have hfz19_0 := blk_frozen BK109.out 0
        have hfz19_1 := blk_frozen BK109.out 1
        have hcz20_0 : wr.cell? ⟨gb110, 0, none⟩ = some (.int .i64 a1_0) := (blk_cell BK110.out 0).trans rfl
        have hcz20_1 : wr.cell? ⟨gb110, 1, none⟩ = some (.int .u64 a1_1) := (blk_cell BK110.out 1).trans rfl
        have hfz20_0 := blk_frozen BK110.out 0
        have hfz20_1 := blk_frozen BK110.out 1
        go_wp2
        go_ret
        exact ⟨by first | rfl | (simp [errW_none, errW_some] <;> rfl) | (simp [*, errW_none, errW_some] <;> rfl), by repeat (first | (with_reducible first | exact HB.out | apply below_alloc | apply pw_below_drewN | apply below_drew1 | refine below_set ?_ GE109.out | refine below_set ?_ GE110.out) | exact HB.out)⟩
def bits_Len64.f (a0 : Int) : Option (Int) := if 0 ≤ a0 ∧ a0 ≤ 18446744073709551615 then some ((Lib.bitLen a0.toNat : Nat) : Int) else none
theorem bits_Len64.calls (a0 : Int) (r : Int) (w : World) (h : bits_Len64.f a0 = some r) :
    Calls Tryd.prog 68 #[.int .u64 a0] w fun e w' => e = .returned (.int .i64 r) ∧ Drawn0 w w' := by
  unfold bits_Len64.f at h
  split at h
  · rename_i hc
    obtain rfl := Option.some.inj h
    refine (Tryd.bits_Len64 a0 w hc.1 hc.2).mono ?_
    rintro e w' ⟨rfl, rfl⟩
    exact ⟨rfl, 0, rfl⟩
  · cases h
end Go.Proofs.YthgafcaoibfchaaDoor.Y
end
