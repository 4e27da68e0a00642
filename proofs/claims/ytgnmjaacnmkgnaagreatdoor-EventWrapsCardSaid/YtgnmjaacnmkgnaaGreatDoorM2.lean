/- Words and walks that the row of EventWraps needs: printed by programs, and plain laws. -/
import Derived.Test.YtgnmjaacnmkgnaaGreatDoorM1
import Derived.RangeFuncNested
import Derived.RangeFuncSeq
import Derived.RangeFuncBound
import Derived.RangeFuncCalls
import Derived.RangeFuncLeaves
import Derived.RangeFuncKeeps
import Derived.Laws.ResultCell
import Derived.Laws.Tables
import Derived.Laws.Cover3
import Derived.Lib.AppendZeros
import Derived.Great.FillDense
import Derived.OrdersHeld
import Derived.Deep.RegionHeld3
import Derived.Laws.BitsLemmas
import Derived.RowKit
import Derived.Test.YtgnmjaacnmkgnaaGreatDoorM0
import Derived.WalkKit
import Derived.Deep.DrawnRows
import Derived.Lib.SmallJoins
import Derived.Carry
import Derived.Test.YtgnmjaacnmkgnaaGreatDoorRows
import Derived.Deep.SlicePairs
import Derived.Handed
import Derived.Shelf.Strings.Builder1
import Derived.Shelf.Strings.Builder2
import Derived.Shelf.Strings.OnBuilder
import Derived.Shelf.Small.Utf8
import Derived.Shelf.Small.Strs
import Derived.Shelf.Small.Wraps
import Derived.Shelf.Strings.BuilderF
import Derived.Shelf.Strings.BuilderK
import Derived.Shelf.Strings.BuilderRune
import Derived.Shelf.Utf8.AppendRunePlain
import Derived.Shelf.Strings.Builder2Cap
import Derived.Shelf.Strconv.Itoa0
import Derived.Shelf.Strings.Search1
import Derived.Shelf.Strings.Search2
import Derived.Shelf.Strings.Cut
import Derived.Shelf.LaysM
import Derived.Shelf.Strings.Shaped
import Derived.Shelf.GgClosure.StringsIndexFunc
import Derived.Ground.GgwProg
import Derived.Shelf.GgClosure.StringsIndexFuncTop
import Derived.Shelf.GgClosure.StringsRunes
import Derived.Shelf.Strings.Prefix
import Derived.Shelf.Strings.Runes
import Derived.Shelf.Strings.IndexAny
import Derived.Shelf.Strings.AsciiSet
import Derived.Shelf.Strings.IndexAnyAll
import Derived.Shelf.Strings.FuncGrows
import Derived.Shelf.Strings.BuilderCap
import Derived.Test.YtgnmjaacnmkgnaaGreatDoorProg
import Derived.Below
import Derived.Deep.Draws
import Derived.Deep.AppendLies
import Derived.Maps.AppendAt
import Derived.OwnWalk
import Derived.Laws.BytesArg
import Derived.Laws.MakeOwn
import Derived.Laws.OwnMore
import Derived.Deep.OwnRows
import Derived.Tactics
import Derived.Lib.ConvBytes
import Derived.Laws.Slices
import Derived.KernelRfl
import Derived.RowKit3
import Derived.Deep.LoopGhost
import Derived.Deep.QuietTactic
import Derived.BigQuiet
import Derived.WideLaws
import Derived.Deep.DeepCutAuto
import Derived.Deep.CutBlock
import Derived.Laws.Rows
import Derived.Lib.AppendStr
import Derived.ArgAppend
import Derived.Laws.IdiomCopy
import Derived.Laws.StructEq
import Derived.Shelf.Abstract
import Derived.Shelf.RegionOpen
import Derived.OwnWalkIn
import Derived.TacticsInMore
import Derived.LoopNIn
import Derived.LoopIn
import Derived.Lib.Builder
import Derived.WalkSmall
namespace Go.Proofs.YtgnmjaacnmkgnaaGreatDoorW.PrintWords
end Go.Proofs.YtgnmjaacnmkgnaaGreatDoorW.PrintWords
namespace Go.Proofs.YtgnmjaacnmkgnaaGreatDoorW.PrintLast
end Go.Proofs.YtgnmjaacnmkgnaaGreatDoorW.PrintLast
namespace Go.Proofs.YtgnmjaacnmkgnaaGreatDoorW.PrintMore
end Go.Proofs.YtgnmjaacnmkgnaaGreatDoorW.PrintMore
section
namespace Go.Proofs.EngI
open Go Go.RowKit Go.Proofs.Eng
set_option linter.unusedSimpArgs false
set_option linter.unusedVariables false
variable {Fc : Fence} {nn : Nat} {P : Program} {ops : Array Oper} {Q : Exit → Act → World → Prop} {D : Nat → Value → World → Prop} {k : Nat → Kind} {a0 : Act} {w0 : World} {m i : Nat} {o : Oper}
def calm (o : Oper) : Bool := match o.op with | .defer _ => false | _ => true
theorem calm_ne (h : calm o = true) : ∀ c, o.op ≠ .defer c := fun c e => by unfold calm at h; rw [e] at h; cases h
theorem sem_calm (h : calm o = true) (ro : Option Nat) (ρ : Operand → Value) : o.semAt ro ρ = execOp ρ o := Oper.semAt_eq _ _ _ (calm_ne h)
theorem wp_in (hF : Free Fc) (hc : calm o = true) {a : Act} {w : World} {K : Act → World → Prop} (h : o.wp P a w K Q) : o.wpIn Fc nn P a w K Q := by
  unfold Oper.wpIn
  refine ⟨fun f _ => hF.fn f, ?_⟩
  rw [sem_calm hc]
  unfold Oper.wp at h
  have hd : Fc.depth.isSome = true → 1 ≤ nn := fun hh => by rw [hF.depth] at hh; cases hh
  generalize (execOp a.eval o).run P w = r at h ⊢
  unfold Oper.upon at h
  unfold Oper.uponIn
  split at h
  · exact h
  · exact h
  · exact h
  · exact ⟨hd, hF.calls h⟩
  · exact ⟨hd, hF.rows h⟩
  · exact h
  · exact h.elim
theorem duty_in (hF : Free Fc) (hc : calm o = true) (h : Eng.Duty P ops Q D k a0 w0 i o) : EngI.Duty Fc nn P ops Q D k a0 w0 i o := by
  unfold Eng.Duty at h
  unfold EngI.Duty
  split at h <;> rename_i hk <;> rw [hk]
  · intro a w hB hd ho
    have := h a w hB hd ho
    split
    · rename_i hw; rw [if_pos hw] at this; exact wp_in hF hc this
    · rename_i hw; rw [if_neg hw] at this; exact this
  · obtain ⟨h1, h2, h3⟩ := h
    exact ⟨h1, h2, fun a w hd ho => by rw [sem_calm hc]; exact h3 a w hd ho⟩
  · obtain ⟨h1, h2, d, T, c0, b1, b2, b3, b4, b5, h3⟩ := h
    exact ⟨h1, h2, d, T, c0, b1, b2, b3, b4, b5, fun a w g e hg hd ho => by rw [sem_calm hc]; exact h3 a w g e hg hd ho⟩
  · obtain ⟨h1, h2, h3⟩ := h
    exact ⟨h1, h2, fun a w hB hd ho => wp_in hF hc (h3 a w hB hd ho)⟩
theorem steps_in (hF : Free Fc) : ∀ (l : List Oper) (i : Nat), (l.all calm) = true → Eng.Steps P ops Q D k a0 w0 m i l → EngI.Steps Fc nn P ops Q D k a0 w0 m i l
  | [], _, _, _ => trivial
  | o :: os, i, hc, h => by
    rw [List.all_cons, Bool.and_eq_true] at hc
    exact ⟨fun hi => duty_in hF hc.1 (h.1 hi), steps_in hF os (i + 1) hc.2 h.2⟩
section regions
variable {a : Act} {w : World}
theorem regionD (hF : Free Fc) {id : Nat} (D : Nat → Value → World → Prop) (k : Nat → Kind) (m c n : Nat) (hm : P.follows .mixedOrders = true) (hn : a.tmps.size = n) (hc : ops.size = m + c) (hs : Eng.shape ops m n = true)
    (stable : ∀ i v w w', D i v w → Below w.heap.size w w' → D i v w') (hst2 : (∀ i j cs, k i ≠ .store j cs) ∨ ∀ i v w w', D i v w → D i v w') (hcalm : (ops.toList.all calm) = true)
    (hS : Eng.Steps P ops Q D k a w m 0 ops.toList) (hE : ∀ a' w', Eng.Then ops m D k a w a' w' → wpOpsIn Fc nn P ops Q (List.range' m c) a' w') : (Code.region id ops true).wpIn Fc nn P Q a w := by
  subst hn
  refine EngI.region hF m D k hm hs (by simp; omega) stable hst2 (steps_in hF _ _ hcalm hS) fun a' w' h1 h2 h3 h4 h5 h6 => ?_
  rw [hc, Nat.add_sub_cancel_left]
  exact hE a' w' ⟨h1, h2, h3, fun j d hj => h4 j d (of_decide_eq_true hj), fun t ht => h5 t (notdst ht), h6⟩
theorem regionS (hF : Free Fc) {id : Nat} (D : Nat → Value → World → Prop) (k : Nat → Kind) (m c n : Nat) (hn : a.tmps.size = n) (hc : ops.size = m + c) (hs : Eng.shape ops m n = true)
    (stable : ∀ i v w w', D i v w → Below w.heap.size w w' → D i v w') (hst2 : (∀ i j cs, k i ≠ .store j cs) ∨ ∀ i v w w', D i v w → D i v w') (hcalm : (ops.toList.all calm) = true)
    (hS : Eng.Steps P ops Q D k a w m 0 ops.toList) (hE : ∀ a' w', Eng.Then ops m D k a w a' w' → wpOpsIn Fc nn P ops Q (List.range' m c) a' w') : (Code.region id ops false).wpIn Fc nn P Q a w := by
  subst hn
  refine EngI.region_seq hF m D k hs (by simp; omega) stable hst2 (steps_in hF _ _ hcalm hS) fun a' w' h1 h2 h3 h4 h5 h6 => ?_
  rw [hc, Nat.add_sub_cancel_left]
  exact hE a' w' ⟨h1, h2, h3, fun j d hj => h4 j d (of_decide_eq_true hj), fun t ht => h5 t (notdst ht), h6⟩
theorem regionT {id n : Nat} (hn : ops.size = n) (h : wpOpsIn Fc nn P ops Q (List.range' 0 n) a w) : (Code.region id ops false).wpIn Fc nn P Q a w := by
  refine wpIn_region ?_
  rw [hn, List.range_eq_range']; exact h
theorem tail_nil (h : Q .normal a w) : wpOpsIn Fc nn P ops Q (List.range' m 0) a w := h
theorem tail_one (hF : Free Fc) {c : Nat} {os : List Oper} (ho' : ops.toList.drop i = o :: os) (hg : o.guard = none) (hcalm : calm o = true) (h : o.wp P a w (fun a' w' => wpOpsIn Fc nn P ops Q (List.range' (i + 1) c) a' w') Q) : wpOpsIn Fc nn P ops Q (List.range' i (c + 1)) a w := by
  have ho := drop_get ho'
  rw [List.range'_succ, wpOpsIn_cons]
  unfold wpOpIn
  rw [ho]
  simp only
  rw [if_pos (wanted_none hg)]
  exact wp_in hF hcalm h
theorem tail_skip (hF : Free Fc) {c : Nat} {w1 : World} {os : List Oper} (ho' : ops.toList.drop i = o :: os) (hg : o.guard = none) (hcalm : calm o = true) (hd : o.dst = none) (hrun : (execOp a.eval o).run P w = .ok .skip w1) (h : wpOpsIn Fc nn P ops Q (List.range' (i + 1) c) a w1) : wpOpsIn Fc nn P ops Q (List.range' i (c + 1)) a w := by
  refine tail_one hF ho' hg hcalm ?_
  unfold Oper.wp
  rw [hrun]
  show wpOpsIn Fc nn P ops Q _ (a.put o.dst undef) w1
  rw [hd]; exact h
theorem tail_val (hF : Free Fc) {c d n : Nat} {v : Value} {w1 : World} {os : List Oper} (ho' : ops.toList.drop i = o :: os) (hg : o.guard = none) (hcalm : calm o = true) (hd : o.dst = some d) (hrun : (execOp a.eval o).run P w = .ok (.value v) w1) (hn : a.tmps.size = n) (hlt : decide (d < n) = true)
    (h : ∀ a' : Act, a'.defers = a.defers → a'.tmps.size = n → a'.eval (.tmp d) = v → (∀ t, (t != d) = true → a'.eval (.tmp t) = a.eval (.tmp t)) → wpOpsIn Fc nn P ops Q (List.range' (i + 1) c) a' w1) : wpOpsIn Fc nn P ops Q (List.range' i (c + 1)) a w := by
  refine tail_one hF ho' hg hcalm ?_
  unfold Oper.wp
  rw [hrun]
  show wpOpsIn Fc nn P ops Q _ (a.put o.dst v) w1
  rw [hd]
  have hlt := of_decide_eq_true hlt
  have hx : ∀ d', some d = some d' → d' < a.tmps.size := fun d' e => by injection e with e; omega
  refine h _ rfl (by simp [Act.put, hn]) ?_ fun t ht => ?_
  · show (a.put (some d) v).tmps.getD d undef = v
    rw [put_getD _ _ _ _ hx, if_pos rfl]
  · show (a.put (some d) v).tmps.getD t undef = _
    rw [put_getD _ _ _ _ hx, if_neg (fun e => by injection e with e; simp [e] at ht)]
    rfl
theorem tail_ex (hF : Free Fc) {c d n : Nat} {R : Value → World → Prop} {os : List Oper} (ho' : ops.toList.drop i = o :: os) (hg : o.guard = none) (hcalm : calm o = true) (hd : o.dst = some d) (hrun : ∃ v w1, (execOp a.eval o).run P w = .ok (.value v) w1 ∧ R v w1) (hn : a.tmps.size = n) (hlt : decide (d < n) = true)
    (h : ∀ (v : Value) (w1 : World) (a' : Act), R v w1 → a'.defers = a.defers → a'.tmps.size = n → a'.eval (.tmp d) = v → (∀ t, (t != d) = true → a'.eval (.tmp t) = a.eval (.tmp t)) → wpOpsIn Fc nn P ops Q (List.range' (i + 1) c) a' w1) : wpOpsIn Fc nn P ops Q (List.range' i (c + 1)) a w := by
  obtain ⟨v, w1, hr, hR⟩ := hrun
  exact tail_val hF ho' hg hcalm hd hr hn hlt fun a' => h v w1 a' hR
theorem tail_set (hF : Free Fc) {c g n : Nat} {T : TypeId} {cs new : Array Value} {v : Value} {os : List Oper} (ho : ops.toList.drop i = o :: os) (hg : o.guard = none) (hcalm : calm o = true) (hd : o.dst = none) (hk : w.heap[g]? = some (.cells cs T (0, 0))) (hnew : cs.setIfInBounds n v = new)
    (hrun : (execOp a.eval o).run P w = .ok .skip (w.setCell ⟨g, n, none⟩ v)) (h : ∀ w', Sets w w' g (.cells new T (0, 0)) → wpOpsIn Fc nn P ops Q (List.range' (i + 1) c) a w') : wpOpsIn Fc nn P ops Q (List.range' i (c + 1)) a w :=
  tail_skip hF ho hg hcalm hd hrun (h _ (hnew ▸ Sets.of_setCell n v hk))
theorem tail_call (hF : Free Fc) {c d n : Nat} {f : FuncId} {fn : Func} {as_ : Array Operand} {ts : Array TypeId} {R : Value → World → Prop} {os : List Oper} (hf : P.funcs[f]? = some fn) (hname : (fn.name == "runtime.NumGoroutine") = false) (hb : fn.body.isNone = false)
    (ho' : ops.toList.drop i = o :: os) (hg : o.guard = none) (hd : o.dst = some d) (hop : o.op = .call { callee := .value (.func f), args := as_, argTypes := ts }) (args : Array Value) (hargs : as_.map a.eval = args) (hn : a.tmps.size = n) (hlt : decide (d < n) = true)
    (hcall : Calls P f args w fun e w' => ∃ v, e = .returned v ∧ R v w')
    (h : ∀ (v : Value) (w1 : World) (a' : Act), R v w1 → a'.defers = a.defers → a'.tmps.size = n → a'.eval (.tmp d) = v → (∀ t, (t != d) = true → a'.eval (.tmp t) = a.eval (.tmp t)) → wpOpsIn Fc nn P ops Q (List.range' (i + 1) c) a' w1) : wpOpsIn Fc nn P ops Q (List.range' i (c + 1)) a w := by
  refine tail_one hF ho' hg (by unfold calm; rw [hop]) ?_
  have he := enters hf hname hb args w
  have hrun : (execOp a.eval o).run P w = .ok (.enter f args) w := by
    unfold execOp
    rw [hop]
    simp only [resolve, Deferred.ofValue, invoke, Act.eval, hargs]
    have h2 : (#[] : Array Value) ++ args ++ (#[] : Array Value) = args := by simp
    show Sem.run P (callFunc f (#[] ++ args ++ #[])) w = _
    rw [h2]
    exact he
  unfold Oper.wp
  rw [hrun]
  refine Calls.mono hcall ?_
  rintro e w' ⟨v, rfl, hR⟩
  show wpOpsIn Fc nn P ops Q _ (a.put o.dst v) w'
  rw [hd]
  have hlt := of_decide_eq_true hlt
  have hx : ∀ d', some d = some d' → d' < a.tmps.size := fun d' e => by injection e with e; omega
  refine h v w' _ hR rfl (by simp [Act.put, hn]) ?_ fun t ht => ?_
  · show (a.put (some d) v).tmps.getD d undef = v
    rw [put_getD _ _ _ _ hx, if_pos rfl]
  · show (a.put (some d) v).tmps.getD t undef = _
    rw [put_getD _ _ _ _ hx, if_neg (fun e => by injection e with e; simp [e] at ht)]
    rfl
end regions
end Go.Proofs.EngI
end
section
namespace Go.Proofs.Eng
open Go Go.RowKit
set_option linter.unusedSimpArgs false
set_option linter.unusedVariables false
variable {P : Program}
structure Kept (B : Nat) (w w' : World) : Prop where
  size : w.heap.size ≤ w'.heap.size
  block : ∀ b, B ≤ b → b < w.heap.size → w'.heap[b]? = w.heap[b]?
theorem Kept.refl (B : Nat) (w : World) : Kept B w w := ⟨Nat.le_refl _, fun _ _ _ => rfl⟩
theorem Kept.trans {B : Nat} {a b c : World} (h : Kept B a b) (k : Kept B b c) : Kept B a c :=
  ⟨Nat.le_trans h.size k.size, fun x h1 h2 => (k.block x h1 (Nat.lt_of_lt_of_le h2 h.size)).trans (h.block x h1 h2)⟩
theorem Kept.below {B : Nat} {w w' : World} (h : Below w.heap.size w w') : Kept B w w' := ⟨h.size, fun b _ hb => h.block b hb⟩
structure Turns (w w' : World) (g : Nat) (o : Obj) : Prop where
  new : w'.heap[g]? = some o
  far : ∀ b, b ≠ g → b < w.heap.size → w'.heap[b]? = w.heap[b]?
  size : w.heap.size ≤ w'.heap.size
  os : w'.os = w.os
  tape : w'.tape = w.tape
  output : w'.output = w.output
theorem Turns.below {W w w' : World} {g B : Nat} {o : Obj} (h : Turns w w' g o) (hb : Below B W w) (hg : B ≤ g) (hB : B ≤ W.heap.size) : Below B W w' :=
  hb.trans ⟨h.os, h.tape, h.output, h.size, fun k hk => h.far k (by omega) (by have := hb.size; omega)⟩
theorem Turns.kept {w w' : World} {g B : Nat} {o : Obj} (h : Turns w w' g o) (hg : g < B) : Kept B w w' := ⟨h.size, fun b h1 h2 => h.far b (by omega) h2⟩
theorem below_put {B l : Nat} {w : World} {o o' : Obj} (h : w.heap[l]? = some o) (hB : B ≤ l) : Below B w (w.putObj l o') :=
  ⟨rfl, rfl, rfl, by simp [World.putObj], fun k hk => World.putObj_heap_other (by omega)⟩
theorem ret0 {fn : Func} {R : Ending → World → Prop} {a : Act} {w : World} (h : fn.results = #[]) (hd : a.defers = []) (hR : ∀ v, R (.returned v) w) : bodyPost P fn R .normal a w := by
  refine ⟨hd, .tuple #[], ?_, hR _⟩
  unfold results
  rw [h]
  simp [Sem.run_bind, Sem.run_pure]
end Go.Proofs.Eng
end
section
namespace Go.Proofs.Eng
open Go Go.RowKit
set_option linter.unusedSimpArgs false
set_option linter.unusedVariables false
variable {P : Program} {o : Oper} {a : Act} {w : World}
theorem own_appendT {w : World} {B : Nat} {t ty e : TypeId} {i : TypeInfo} {z : Value} {size : Nat} (ht : P.underlying t = some (.slice e)) (hi : P.info? e = some i) (hz : i.zero = some z) (hsize : i.size = size) (hby : i.bytes ≤ 128) (hzs : z.cells.size = size) (hsz : 0 < size)
    {v : Value} {n : Nat} {xs : List Value} (O : w.ownsRow B e size v n xs) {x : Value} {m : Nat} {news : List Value} (F : Reads w x m size news) (h1 : ∀ u ∈ news, u.oneCell' = true) (h63' : n + m ≤ maxLen) (hbm : (n + m) * i.bytes ≤ 140737488355328) (hB : B ≤ w.heap.size) :
    ∃ v' w', (Builtin.append_ #[t, t] ty #[v, x]).run P w = .ok v' w' ∧ w'.ownsRow B e size v' (n + m) (xs ++ news) ∧ w'.ownsRow B e size v n xs ∧ Below B w w' ∧ w.grownBy w' v.ownBlock ∧ (v'.ownBlock = v.ownBlock ∨ v'.ownBlock = some w.heap.size) := by
  have h63'' : n + m ≤ 9223372036854775807 := by simpa [maxLen] using h63'
  obtain ⟨hl, A, c, rfl, hc, hm, hx⟩ := F
  cases A with
  | none =>
    have hm0 : m = 0 := by
      rcases Nat.eq_zero_or_pos m with h | h
      · exact h
      · have h0 : 0 < news.length := by rw [hl]; exact Nat.mul_pos h hsz
        obtain ⟨ad, e', _⟩ := hx 0 _ (List.getElem?_eq_getElem h0)
        cases e'
    subst hm0
    have hn : news = [] := List.eq_nil_of_length_eq_zero (by simpa using hl)
    subst hn
    have hs : Src P i.size t (.slice none 0 c) 0 [] w := Src.ofNil w ht c
    refine ⟨v, w, ?_, by simpa using O, O, Below.refl _ _, ⟨rfl, rfl, rfl, Nat.le_refl _, fun _ _ _ => rfl⟩, .inl rfl⟩
    rcases O.2 with ⟨rfl, rfl⟩ | ⟨g, cap, cur, rfl, hg, hh, hn, _⟩
    · exact run_append_nothing w t t ty e i ht hi none 0 0 (Nat.le_refl _) _ hs
    · exact run_append_nothing w t t ty e i ht hi _ n cap hn _ hs
  | some a =>
    have hx' : ∀ j u, news[j]? = some u → w.cell? (a.add j) = some u := fun j u h => by
      obtain ⟨ad, e', hcell⟩ := hx j u h
      injection e' with e'; subst e'; exact hcell
    obtain ⟨v', w', hr, h2, h3, h4, h5⟩ := run_append_own_at (P := P) w B t ty e i z size i.bytes ht hi hz hsize rfl hzs hsz v n xs O a m c news hl hx' h1 h63' hbm hB
    refine ⟨v', w', hr, h2, ?_, below_of_grown h3 hB (own_block O), h3, h5⟩
    subst hsize
    rcases O.2 with ⟨rfl, rfl⟩ | ⟨g, cap, cur, rfl, hbg, hg, hnc, hcm, hcs, htake⟩
    · have : xs = [] := List.eq_nil_of_length_eq_zero (by simpa using O.1)
      subst this; exact World.ownsRow_nil w' B e i.size
    · by_cases hroom : n + m ≤ cap
      · have hfit : n * i.size + news.length ≤ cur.size := by rw [hl, hcs, ← Nat.add_mul]; exact Nat.mul_le_mul_right _ hroom
        have hr' := run_append_room (P := P) w t ty e i ht hi g n cap cur hg a m c news hl hx' h1 hroom hfit
        rw [hr'] at hr
        injection hr with _ hw
        subst hw
        refine ⟨O.1, .inr ⟨g, cap, _, rfl, hbg, setRow_heap w g cur _ e _ hg, hnc, hcm, ?_, ?_⟩⟩
        · simp only [List.size_toArray, List.length_append, List.length_take, List.length_drop, Array.length_toList]
          omega
        · simp only [List.append_assoc]
          rw [List.take_append_of_le_length (by rw [List.length_take, Array.length_toList]; omega), List.take_take, Nat.min_self]
          exact htake
      · have holds : ∀ j u, xs[j]? = some u → w.cell? ((⟨g, 0, none⟩ : Addr).add j) = some u := O.cells (g := g) rfl
        have hr' := run_append_grow (P := P) w t ty e i z ht hi hz ⟨g, 0, none⟩ n cap xs O.1 holds a m c news hl hx' (by omega) (by omega) (growslice_fits (by omega) hbm)
        rw [hr'] at hr
        injection hr with _ hw
        subst hw
        refine ⟨O.1, .inr ⟨g, cap, cur, rfl, hbg, ?_, hnc, hcm, hcs, htake⟩⟩
        exact (heap_alloc_old w.drew _ (by simpa using (Array.getElem?_eq_some_iff.1 hg).1)).trans hg
theorem run_buildN {T e : TypeId} {n : Nat} {parts : Array (Nat × Operand)} {z : Value} {size : Nat} (vs : List Value) (hop : o.op = .buildSlice T n parts) (hu : P.underlying T = some (.slice e)) (hI : (P.info? e).map (fun i => (i.size, decide (i.bytes ≤ 128), i.zero)) = some (size, true, some z)) (hs : (decide (0 < size)) = true) (hs' : (decide (size < 1000)) = true)
    (hn : vs.length = n) (hn0 : (decide (0 < n)) = true) (hn' : (decide (n < 1000)) = true) (hz : z.cells.size = size) (h1 : ∀ v ∈ vs, v.cells.size = size) (hp : (parts.map fun (i, x) => (i, a.eval x)).toList = (vs.zipIdx 0).map fun x => (x.2, x.1)) :
    ∃ v w', (execOp a.eval o).run P w = .ok (.value v) w' ∧ Reads w' v n size (vs.flatMap fun v => v.cells.toList) ∧ Below w.heap.size w w' := by
  obtain ⟨i, hi, h2, h3, h4⟩ := info_of hI
  have hs := of_decide_eq_true hs
  have hs' := of_decide_eq_true hs'
  have hn0 := of_decide_eq_true hn0
  have hn' := of_decide_eq_true hn'
  subst h2
  have hlt : n * i.size ≤ 1000 * 1000 := Nat.mul_le_mul (by omega) (by omega)
  have hpos : 0 < n * i.size := Nat.mul_pos hn0 hs
  have hf := Great.fill_whole hs vs ((Array.range (n * i.size)).map (z.cells[· % z.cells.size]!)) h1 (by rw [Array.size_map, Array.size_range, hn])
  rw [← hp] at hf
  have hr := run_buildSlice (P := P) w T e n _ _ i z hu hi h4 (by omega) (by omega) hf
  have hlen : ∀ vs : List Value, (∀ v ∈ vs, v.cells.size = i.size) → (vs.flatMap fun v => v.cells.toList).length = vs.length * i.size := by
    intro vs
    induction vs with
    | nil => intro _; simp
    | cons v t ih =>
      intro h
      rw [List.flatMap_cons, List.length_append, ih (fun u hu => h u (List.mem_cons_of_mem _ hu)), List.length_cons, Nat.add_mul, Array.length_toList, h v List.mem_cons_self]
      omega
  refine ⟨_, _, ?_, ⟨by rw [hlen vs h1, hn], some ⟨w.heap.size, 0, none⟩, n, rfl, Nat.le_refl _, by unfold maxLen; omega, fun j u hj => ⟨_, rfl, ?_⟩⟩, (Below.refl _ _).alloc (Nat.le_refl _) (.cells (vs.flatMap fun v => v.cells.toList).toArray e)⟩
  · unfold execOp
    simp only [hop, Sem.run_bind]
    rw [hr]
    rfl
  · have hadd : (⟨w.heap.size, 0, none⟩ : Addr).add j = ⟨w.heap.size, j, none⟩ := by unfold Addr.add; split <;> simp_all
    rw [hadd]
    unfold World.cell?
    have : (w.alloc (.cells (vs.flatMap fun v => v.cells.toList).toArray e)).heap[w.heap.size]? = some (.cells (vs.flatMap fun v => v.cells.toList).toArray e) := by show (w.heap.push _)[w.heap.size]? = _; simp
    rw [this]
    simpa using hj
theorem Reads.shape {v : Value} {n size : Nat} {xs : List Value} (F : Reads w v n size xs) : ∃ A c, v = .slice A n c := by
  obtain ⟨_, A, c, rfl, _⟩ := F
  exact ⟨A, c, rfl⟩
theorem run_buildN1 {T e : TypeId} {n : Nat} {parts : Array (Nat × Operand)} {z : Value} (vs : List Value) (hop : o.op = .buildSlice T n parts) (hu : P.underlying T = some (.slice e)) (hI : (P.info? e).map (fun i => (i.size, decide (i.bytes ≤ 128), i.zero)) = some (1, true, some z))
    (hn : vs.length = n) (hn0 : (decide (0 < n)) = true) (hn' : (decide (n < 1000)) = true) (hz : z.cells.size = 1) (h1 : ∀ v ∈ vs, v.cells = #[v]) (hp : (parts.map fun (i, x) => (i, a.eval x)).toList = (vs.zipIdx 0).map fun x => (x.2, x.1)) :
    ∃ v w', (execOp a.eval o).run P w = .ok (.value v) w' ∧ Reads w' v n 1 vs ∧ Below w.heap.size w w' := by
  obtain ⟨v, w', h, F, hb⟩ := run_buildN (P := P) (a := a) (w := w) vs hop hu hI rfl rfl hn hn0 hn' hz (fun v hv => by rw [h1 v hv]; rfl) hp
  refine ⟨v, w', h, ?_, hb⟩
  have : ∀ vs : List Value, (∀ v ∈ vs, v.cells = #[v]) → (vs.flatMap fun v => v.cells.toList) = vs := by
    intro vs
    induction vs with
    | nil => intro _; rfl
    | cons u t ih => intro h; rw [List.flatMap_cons, ih (fun x hx => h x (List.mem_cons_of_mem _ hx)), h u List.mem_cons_self]; rfl
  rw [this vs h1] at F
  exact F
theorem alloc_ex {T : TypeId} {cs : Array Value} (hop : o.op = .alloc T) (hz : (zeroValue T).run P w = .ok (.agg cs) w) : ∃ v w1, (execOp a.eval o).run P w = .ok (.value v) w1 ∧ ∃ g, v = .pointer (some ⟨g, 0, none⟩) ∧ w.heap.size ≤ g ∧ g < w1.heap.size ∧ w1.heap[g]? = some (.cells cs T (0, 0)) ∧ Below w.heap.size w w1 := by
  refine ⟨_, _, run_alloc hop hz, w.heap.size, rfl, Nat.le_refl _, ?_, ?_, (Below.refl _ _).alloc (Nat.le_refl _) _⟩
  · show w.heap.size < (w.heap.push _).size; simp
  · show (w.heap.push _)[w.heap.size]? = _; simp
def Tl.reads (n size : Nat) (xs : List Value) : Tl := .lasts (fun v w => Reads w v n size xs) fun _ _ _ h hb => h.below hb
section duties
variable {ops : Array Oper} {Q : Exit → Act → World → Prop} {D : Nat → Value → World → Prop} {k : Nat → Kind} {a0 : Act} {w0 : World} {m i : Nat}
theorem guardedT {j d : Nat} {want : Bool} (hk : k i = .plain) (hg : o.guard = some (j, want)) (hb : bound o j = true) (hd : dstOf ops j = some d) (hD : ∀ (v : Value) (w : World), D j v w → v = .bool want)
    (h : ∀ (a : Act) (w : World), At ops D a0 w0 i o a w → o.wp P a w (fun a' w' => ∃ v, a' = a.put o.dst v ∧ (o.dst ≠ none → D i v w') ∧ Below w.heap.size w w') Q) : Duty P ops Q D k a0 w0 i o :=
  guarded1 (b := want) hk hg hb hd hD (fun hq => by simp at hq) (fun _ => h)
end duties
end Go.Proofs.Eng
end
section
namespace Go.Proofs.Eng
open Go Go.RowKit
set_option linter.unusedSimpArgs false
set_option linter.unusedVariables false
variable {P : Program} {o : Oper} {a : Act} {w : World}
theorem run_field_el {T : TypeId} {x : Operand} {f j : Nat} {fs : Array Field} {v : Value} {n size : Nat} {xs : List Value} (hop : o.op = .fieldAddr T x f) (hu : P.underlying T = some (.struct fs)) (k : Nat) (hf : (fs[f]?).map (fun fd => (fd.offset, ((P.info? fd.type).map (·.size)).isSome && decide ((P.info? fd.type).map (·.size) ≠ some 0))) = some (k, true)) (h : a.eval x = elemPtr v j) (F : Reads w v n size xs) (hj : j < n * size) :
    (execOp a.eval o).run P w = .ok (.value (elemPtr v (j + k))) w := by
  obtain ⟨hl, A, c, rfl, hc, hm, hx⟩ := F
  obtain ⟨ad, rfl, _⟩ := hx j _ (List.getElem?_eq_getElem (by omega))
  cases hq : fs[f]? with
  | none => simp [hq] at hf
  | some fd =>
    cases hi : P.info? fd.type with
    | none => simp [hq, hi] at hf
    | some i =>
      simp [hq, hi] at hf
      obtain ⟨h1, h2⟩ := hf
      unfold execOp; rw [hop]
      simp only [h, elemPtr, Instr.fieldAt, Instr.sureAddr, Sem.run_bind, Sem.run_pure, Result.andThen_ok, run_underlying hu]
      simp [Sem.run_bind, Sem.run_pure, hq, fieldPlace, sizeOf, typeInfo, hi, h2, ← h1, add_add]
end Go.Proofs.Eng
end
section
namespace Go.Proofs.YtgnmjaacnmkgnaaGreatDoor.X
open Go.RowKit Go.Proofs
set_option linter.unusedVariables false
set_option linter.unusedSimpArgs false
namespace Rwt
variable {α : Type} {enc : α → List Value} {sz : Nat}
theorem len (he : ∀ x, (enc x).length = sz) : ∀ l : List α, (l.flatMap enc).length = l.length * sz
  | [] => by simp
  | x :: t => by rw [List.flatMap_cons, List.length_append, he, len he t, List.length_cons, Nat.succ_mul, Nat.add_comm]
theorem at_ [Inhabited α] (he : ∀ x, (enc x).length = sz) : ∀ (l : List α) (j : Nat), j < l.length → ((l.flatMap enc).drop (j * sz)).take sz = enc (l.getD j default)
  | x :: t, 0, _ => by
    rw [Nat.zero_mul, List.drop_zero, List.flatMap_cons, ← he x, List.take_left]; rfl
  | x :: t, j + 1, h => by
    have := at_ he t j (by simpa using h)
    rw [List.flatMap_cons, Nat.succ_mul, Nat.add_comm, ← he x, List.drop_append]
    rw [show (enc x).drop ((enc x).length + j * (enc x).length) = [] from List.drop_eq_nil_of_le (by omega), List.nil_append, Nat.add_sub_cancel_left, he x, this]; rfl
theorem one (h1 : ∀ x, ∀ u ∈ enc x, u.oneCell' = true) (l : List α) : ∀ u ∈ l.flatMap enc, u.oneCell' = true := by
  intro u hu
  obtain ⟨x, _, hx⟩ := List.mem_flatMap.1 hu
  exact h1 x u hx
theorem own_cat {w : World} {B : Nat} {e : TypeId} {v : Value} {l r : List α} (O : w.ownsRow B e sz v (l.length + r.length) (l.flatMap enc ++ r.flatMap enc)) : w.ownsRow B e sz v (l ++ r).length ((l ++ r).flatMap enc) := by
  rw [List.length_append, List.flatMap_append]; exact O
theorem take_one [Inhabited α] {l : List α} {k : Nat} (h : k < l.length) : l.take (k + 1) = l.take k ++ [l.getD k default] := by
  rw [List.take_add_one, List.getD_eq_getElem?_getD, List.getElem?_eq_getElem h]; rfl
theorem drop_one [Inhabited α] {l : List α} {k : Nat} (h : k < l.length) : l.drop k = l.getD k default :: l.drop (k + 1) := by
  rw [List.drop_eq_getElem_cons h, List.getD_eq_getElem?_getD, List.getElem?_eq_getElem h]; rfl
end Rwt
end Go.Proofs.YtgnmjaacnmkgnaaGreatDoor.X
end
section
namespace Go.Proofs.YtgnmjaacnmkgnaaGreatDoorW.PrintLast
section
variable {P : Program} {ops : Array Oper} {Q : Exit → Act → World → Prop} {md : Region.Mode} {S : World → Prop} {ds : List Nat}
def ListedClosed (md : Region.Mode) (ops : Array Oper) (listed : Array Bool) : Prop :=
  ∀ j oj, ops[j]? = some oj → listed.getD j false = true → ∀ e ∈ oj.after, Region.binds md e = true → listed.getD e.on false = true
theorem ListedClosed.set {listed : Array Bool} {i : Nat} (h : ListedClosed md ops listed) (hi : i ∈ Region.ready md ops listed) : ListedClosed md ops (listed.setIfInBounds i true) := by
  obtain ⟨_, oi, hoi, hall⟩ := mem_ready.1 hi
  intro j oj hj hl e he hb
  by_cases hij : i = j
  · subst hij
    have : oj = oi := Option.some.inj (hj.symm.trans hoi)
    subst this
    exact getD_set_true (hall e he hb)
  · rw [getD_set_ne false hij] at hl
    exact getD_set_true (h j oj hj hl e he hb)
def wpAnyLast (P : Program) (md : Region.Mode) (ops : Array Oper) (Q : Exit → Act → World → Prop) (S : World → Prop) (ds : List Nat) : Nat → Array Bool → Act → World → Prop
  | 0, listed, a, w => Region.ready md ops listed = [] ∧ Q .normal a w
  | fuel + 1, listed, a, w =>
    (Region.ready md ops listed = [] → Q .normal a w) ∧
    ∀ i ∈ Region.ready md ops listed, wpOp P ops Q i (fun a' w' => (i ∉ ds → S w → S w') ∧ wpAnyLast P md ops Q S ds fuel (listed.setIfInBounds i true) a' w') a w
end
section
variable {P : Program} {ops : Array Oper} {Q : Exit → Act → World → Prop} {md : Region.Mode} {S : World → Prop} {ds : List Nat}
def AllReadyL (P : Program) (md : Region.Mode) (ops : Array Oper) (Q : Exit → Act → World → Prop) (S : World → Prop) (ds : List Nat) (fuel : Nat) (listed : Array Bool) (a : Act) (w : World) (rs : List Nat) : Prop :=
  ∀ i ∈ rs, wpOp P ops Q i (fun a' w' => (i ∉ ds → S w → S w') ∧ wpAnyLast P md ops Q S ds fuel (listed.setIfInBounds i true) a' w') a w
theorem AllReadyL.nil {fuel : Nat} {listed : Array Bool} {a : Act} {w : World} : AllReadyL P md ops Q S ds fuel listed a w [] := fun _ h => by cases h
theorem AllReadyL.cons {fuel : Nat} {listed : Array Bool} {a : Act} {w : World} {i : Nat} {o : Oper} {rs : List Nat} (ho : ops[i]? = some o) (hd : i ∉ ds)
    (h : ∀ K' : Act → World → Prop, Shut (∀ a w, S w → (S w → wpAnyLast P md ops Q S ds fuel (listed.setIfInBounds i true) a w) → K' a w) → if Region.wanted o (yielded ops a.tmps) = true then Oper.wp P o a w K' Q else K' (a.put o.dst undef) w)
    (hs : AllReadyL P md ops Q S ds fuel listed a w rs) : AllReadyL P md ops Q S ds fuel listed a w (i :: rs) := fun j hj => by
  rcases List.mem_cons.1 hj with rfl | hj
  · exact wpOp_step ho (fun K' hK => h K' (fun a w hS hW => hK a w ⟨fun _ _ => hS, hW hS⟩))
  · exact hs j hj
theorem enters_ {f : FuncId} {fn : Func} (hf : P.funcs[f]? = some fn) (hname : (fn.name == "runtime.NumGoroutine") = false) (hb : fn.body.isSome = true) (args : Array Value) (w : World) : (callFunc f args).run P w = .ok (.enter f args) w := by
  have h1 : fn.name ≠ "runtime.NumGoroutine" := by simpa using hname
  obtain ⟨c, hc⟩ := Option.isSome_iff_exists.1 hb
  simp [callFunc, hf, h1, hc]
theorem goesL_ {rest : List Oper} {oi : Oper} {a : Act} {w : World} (N : Option Tmp) (hd : oi.dst = N) (hg : oi.guard = none) {f : FuncId} {fn : Func} {as_ : Array Operand} {ts : Array TypeId} (hf : P.funcs[f]? = some fn) (hname : (fn.name == "runtime.NumGoroutine") = false) (hb : fn.body.isSome = true) (args : Array Value)
    (hop : oi.op = .call { callee := .value (.func f), args := as_, argTypes := ts }) (hargs : as_.map a.eval = args)
    (h : Calls P f args w fun e w' => ∃ v, e = .returned v ∧ wpList P ops Q rest (a.put N v) w') : wpList P ops Q (oi :: rest) a w := by
  refine wpList_plain hg fun K hK => ?_
  have he := enters_ hf hname hb args w
  have hrun : (execOp a.eval oi).run P w = .ok (.enter f args) w := by
    unfold execOp
    simp [hop, resolve, Deferred.ofValue, invoke, Act.eval, hargs, he]
  unfold Oper.wp
  rw [hrun, Oper.upon_enter]
  refine h.mono fun e w'' hh => ?_
  obtain ⟨v, rfl, hk⟩ := hh
  subst hd
  exact hK _ _ hk
theorem i64_w (n : Int) : IntKind.i64.wrap n = Go.RowKit.wrap64 n := by unfold Go.RowKit.wrap64; exact IntKind.wrap_i64 n
theorem i32_w (n : Int) : IntKind.i32.wrap n = Go.RowKit.wrap32 n := by unfold Go.RowKit.wrap32; exact IntKind.wrap_i32 n
end
end Go.Proofs.YtgnmjaacnmkgnaaGreatDoorW.PrintLast
end
section
namespace Go.Proofs.YtgnmjaacnmkgnaaGreatDoorW.PrintWords
open Go.RowKit
namespace Kd
def tag {α : Type} (f : Nat → Nat) (d : Kd α) : Kd (α × Nat) where
  sz := d.sz
  E := d.E
  K := fun w x cs => d.K w x.1 cs
  M := fun w base ok x cs => d.M w base (fun k => ok k ∧ f k = x.2) x.1 cs
  K_len := fun h => d.K_len h
  K_one := fun h => d.K_one h
  K_below := fun hb h => d.K_below hb h
  K_of_M := fun h => d.K_of_M h
  M_mono := fun hok h => d.M_mono (fun k hk => ⟨hok k hk.1, hk.2⟩) h
  M_bound := fun h => d.M_mono (fun _ hk => ⟨⟨hk.1.1, hk.2⟩, hk.1.2⟩) (d.M_bound h)
  M_move := fun hm h => d.M_move (fun k hk => hm k hk.1) h
  M_lower := fun hb h => d.M_lower hb h
section
open Classical in
variable {P : Program} {ops : Array Oper} {rest : List Oper} {o : Oper} {a : Act} {Q : Exit → Act → World → Prop} {Kc : Act → World → Prop} {α : Type}
end
section
variable {α β : Type} {d : Kd α} {e e' g n cap : Nat} {w w1 W : World} {base : Nat} {ok ok' oki okp : Nat → Prop} {u v : Value} {xs : List α} {i : Int} {c : List Value}
open Classical in
end
end Kd
end Go.Proofs.YtgnmjaacnmkgnaaGreatDoorW.PrintWords
end
section
namespace Go.Proofs.YtgnmjaacnmkgnaaGreatDoorW.PrintWords
open Go.RowKit
namespace Kd
structure Heap {α : Type} (d : Kd α) : Prop where
  K : ∀ {w w1 : World} {x : α} {cs : List Value}, (∀ k, k < w.heap.size → w1.heap[k]? = w.heap[k]?) → d.K w x cs → d.K w1 x cs
theorem cell_heap {w w1 : World} (hb : ∀ k, k < w.heap.size → w1.heap[k]? = w.heap[k]?) {a : Addr} {v : Value} (h : w.cell? a = some v) : w1.cell? a = some v := by
  have := hb a.block (World.block_lt_of_cell? w a h)
  simpa [World.cell?, this] using h
theorem Heap.C {α : Type} {d : Kd α} (hd : Heap d) {w w1 : World} {A : Option Addr} {n : Nat} {xs : List α} (hb : ∀ k, k < w.heap.size → w1.heap[k]? = w.heap[k]?) (h : d.C w A n xs) : d.C w1 A n xs :=
  ⟨h.1, h.2.1, fun hn => by
    obtain ⟨ad, e, hc⟩ := h.2.2 hn
    refine ⟨ad, e, fun j p hj => ?_⟩
    obtain ⟨c, hs, hr, hcell⟩ := hc j p hj
    exact ⟨c, hs, hd.K hb hr, fun i u hu => cell_heap hb (hcell i u hu)⟩⟩
end Kd
end Go.Proofs.YtgnmjaacnmkgnaaGreatDoorW.PrintWords
end
section
namespace Go.Proofs.YtgnmjaacnmkgnaaGreatDoorW.PrintWords
open Go.RowKit
def Kept (w W : World) (S : Nat → Prop) : Prop := w.heap.size ≤ W.heap.size ∧ ∀ i, i < w.heap.size → ¬ S i → W.heap[i]? = w.heap[i]?
section
variable {w W W2 : World} {S S2 S' : Nat → Prop}
theorem Kept.refl (w : World) (S : Nat → Prop) : Kept w w S := ⟨Nat.le_refl _, fun _ _ _ => rfl⟩
theorem Kept.of_below (h : Below w.heap.size w W) (S : Nat → Prop) : Kept w W S := ⟨h.size, fun i hi _ => h.block i hi⟩
theorem Kept.mono (h : Kept w W S) (hs : ∀ k, S k → S' k) : Kept w W S' := ⟨h.1, fun i hi hn => h.2 i hi (fun hk => hn (hs i hk))⟩
theorem Kept.then_ (h : Kept w W S) (k : Kept W W2 S2) (hs : ∀ k, S2 k → S k ∨ w.heap.size ≤ k) : Kept w W2 S :=
  ⟨Nat.le_trans h.1 k.1, fun i hi hn => (k.2 i (Nat.lt_of_lt_of_le hi h.1) (fun h2 => (hs i h2).elim hn (fun h3 => by omega))).trans (h.2 i hi hn)⟩
theorem Kept.below (h : Kept w W S) (hb : Below W.heap.size W W2) : Kept w W2 S := h.then_ (Kept.of_below hb (fun _ => False)) (fun _ hk => hk.elim)
theorem Kept.alloc (h : Kept w W S) (o : Obj) : Kept w (W.alloc o) S := h.below (below_alloc (Below.refl _ _) o)
theorem Kept.drew (h : Kept w W S) : Kept w W.drew S := h
theorem Kept.drewN (h : Kept w W S) (m : Nat) : Kept w (W.drewN m) S := h
theorem Kept.setCell (h : Kept w W S) {p : Addr} (hp : S p.block ∨ w.heap.size ≤ p.block) (u : Value) : Kept w (W.setCell p u) S :=
  h.then_ (S2 := fun k => k = p.block) ⟨by simp [World.setCell], fun i _ hn => Below.heap_setCell W p u i hn⟩ (fun k hk => by rw [hk]; exact hp)
end
end Go.Proofs.YtgnmjaacnmkgnaaGreatDoorW.PrintWords
end
section
namespace Go.Proofs.YtgnmjaacnmkgnaaGreatDoorW.PrintWords
open Go.RowKit
def Foot (P : World → Prop) (W : World) (ok : Nat → Prop) : Prop := ∀ W' : World, (∀ k, ok k → k < W.heap.size → W'.heap[k]? = W.heap[k]?) → P W'
namespace Foot
variable {P Q : World → Prop} {W W1 : World} {ok ok' : Nat → Prop}
theorem mono (h : Foot P W ok) (hok : ∀ k, ok k → ok' k) : Foot P W ok' := fun W' hW => h W' (fun k hk hlt => hW k (hok k hk) hlt)
theorem imp (h : Foot P W ok) (hi : ∀ W', P W' → Q W') : Foot Q W ok := fun W' hW => hi W' (h W' hW)
end Foot
namespace Kd
def F {α : Type} (d : Kd α) (W : World) (ok : Nat → Prop) (A : Option Addr) (n : Nat) (xs : List α) : Prop := Foot (fun W => d.C W A n xs) W ok
end Kd
end Go.Proofs.YtgnmjaacnmkgnaaGreatDoorW.PrintWords
end
section
namespace Go.Proofs.YtgnmjaacnmkgnaaGreatDoorW.PrintMore
open Go.RowKit Go.Proofs.YtgnmjaacnmkgnaaGreatDoorW.PrintWords
theorem max2_int (k k' : IntKind) (x y : Int) : Builtin.max2 (.int k x) (.int k' y) = pure (.int k (if x < y then y else x)) := by simp only [Builtin.max2, gt_iff_lt]
theorem min2_int (k k' : IntKind) (x y : Int) : Builtin.min2 (.int k x) (.int k' y) = pure (.int k (if y < x then y else x)) := by simp only [Builtin.min2]
theorem max_two (ats : Array TypeId) (ty : TypeId) (a b : Value) : Builtin.max_ ats ty #[a, b] = (Builtin.max2 a b >>= fun s => pure s) := by simp only [Builtin.max_, List.foldlM_cons, List.foldlM_nil]
theorem min_two (ats : Array TypeId) (ty : TypeId) (a b : Value) : Builtin.min_ ats ty #[a, b] = (Builtin.min2 a b >>= fun s => pure s) := by simp only [Builtin.min_, List.foldlM_cons, List.foldlM_nil]
end Go.Proofs.YtgnmjaacnmkgnaaGreatDoorW.PrintMore
namespace Go.Proofs.YtgnmjaacnmkgnaaGreatDoorW.PrintWords
open Go.RowKit
section
variable {P : Program} {ops : Array Oper} {rest : List Oper} {o : Oper} {a : Act} {Q : Exit → Act → World → Prop} {W : World}
theorem gate_callee {f : FuncId} {as_ : Array Operand} {ts : Array TypeId} (_ho : o.op = .call { callee := .value (.func f), args := as_, argTypes := ts }) (h : wpList P ops Q (o :: rest) a W) : wpList P ops Q (o :: rest) a W := h
end
def mx (a b : Int) : Int := if a < b then b else a
theorem drewN_self (w : World) (n : Nat) : w.drewN n = w.drewN n := rfl
end Go.Proofs.YtgnmjaacnmkgnaaGreatDoorW.PrintWords
end
section
namespace Go.Proofs.YtgnmjaacnmkgnaaGreatDoor.X
open Go.RowKit Go.Shelf Go.Proofs Go.Proofs.YtgnmjaacnmkgnaaGreatDoorW.PrintWords Go.Proofs.YtgnmjaacnmkgnaaGreatDoorW.PrintLast Go.Proofs.YtgnmjaacnmkgnaaGreatDoorW.PrintMore
set_option linter.unusedVariables false
set_option linter.unusedSimpArgs false
namespace Evt
structure Ev where
  kind : Int
  anchor : ByteArray
  tag : ByteArray
  text : ByteArray
  plain : Bool
instance : Inhabited Ev := ⟨⟨0, ⟨#[]⟩, ⟨#[]⟩, ⟨#[]⟩, false⟩⟩
def enc (x : Ev) : List Value := [.int .i64 x.kind, .string x.anchor, .string x.tag, .string x.text, .bool x.plain]
theorem enc_len (x : Ev) : (enc x).length = 5 := rfl
theorem enc_one (x : Ev) : ∀ u ∈ enc x, u.oneCell' = true := by
  intro u hu
  simp only [enc, List.mem_cons, List.not_mem_nil, or_false] at hu
  rcases hu with rfl | rfl | rfl | rfl | rfl <;> rfl
abbrev cells (l : List Ev) : List Value := l.flatMap enc
theorem cells_at (l : List Ev) (j : Nat) (h : j < l.length) : ((cells l).drop (j * 5)).take 5 = [.int .i64 (l.getD j default).kind, .string (l.getD j default).anchor, .string (l.getD j default).tag, .string (l.getD j default).text, .bool (l.getD j default).plain] := Rwt.at_ enc_len l j h
def isNode (k : Int) : Bool := (k == 2 || k == 4) || k == 6
def encO (x : Int × Int) : List Value := [.int .i64 x.1, .int .i64 x.2]
theorem encO_len (x : Int × Int) : (encO x).length = 2 := rfl
abbrev opens (st : List (Int × Int)) : List Value := st.flatMap encO
def pop (st : List (Int × Int)) (k : Int) (may : Int → Bool) : Option (List (Int × Int)) :=
  match st.getLast? with
  | none => none
  | some t => if t.1 = k ∧ may t.2 = true then some st.dropLast else none
def more (st : List (Int × Int)) : List (Int × Int) :=
  match st.getLast? with
  | none => []
  | some t => st.dropLast ++ [(t.1, IntKind.i64.wrap (t.2 + 1))]
def even (m : Int) : Bool := Int.tmod m 2 == 0
def takeF (st : List (Int × Int)) (k : Int) : Option (List (Int × Int)) :=
  if k = 0 then (if st.isEmpty = true then some [(0, 0)] else none)
  else if k = 1 then pop st 0 (fun m => m == 1)
  else if k = 3 then pop st 2 (fun _ => true)
  else if k = 5 then pop st 4 even
  else if st.isEmpty = true then none
  else if k = 2 ∨ k = 4 then some (more st ++ [(k, 0)])
  else some (more st)
def rightR (rightE : Ev → Bool) : List (Int × Int) → List Ev → Bool
  | st, [] => st.isEmpty
  | st, e :: t => rightE e && match takeF st e.kind with
    | none => false
    | some st' => rightR rightE st' t
def dstep (d : Int × Int) (k : Int) : Int × Int :=
  if k = 2 ∨ k = 4 then (IntKind.i64.wrap (d.1 + 1), mx d.2 (IntKind.i64.wrap (d.1 + 1)))
  else if k = 3 ∨ k = 5 then (IntKind.i64.wrap (d.1 - 1), mx d.2 (IntKind.i64.wrap (d.1 - 1)))
  else (d.1, mx d.2 d.1)
def depths (l : List Ev) : Int × Int := l.foldl (fun d e => dstep d e.kind) (0, 0)
theorem depths_take {l : List Ev} {k : Nat} (h : k < l.length) : depths (l.take (k + 1)) = dstep (depths (l.take k)) (l.getD k default).kind := by
  unfold depths; rw [Rwt.take_one h, List.foldl_append]; rfl
def rightG (rightE : Ev → Bool) (l : List Ev) : Bool := rightR rightE [] l && decide ((depths l).2 ≤ 40)
end Evt
end Go.Proofs.YtgnmjaacnmkgnaaGreatDoor.X
end
section
namespace Go.Proofs.YtgnmjaacnmkgnaaGreatDoor.X.Opn
open Go.ChangeShapes Go.WideShapes Go.RowKit Go.Joins Go.Deep
variable {H : Type} {enc : TypeId × Value → H} {w : World} {base : Nat} {spare : Nat → Bool} {held : Bool}
set_option maxRecDepth 100000 in
theorem cells23 : Tryz.prog.cellsOf 45 = 5 := by kernel_rfl
end Go.Proofs.YtgnmjaacnmkgnaaGreatDoor.X.Opn
namespace Go.Proofs.YtgnmjaacnmkgnaaGreatDoor.X.Tabs
open Go.Shelf Go.Lib Go.RowKit
set_option maxRecDepth 100000 in
theorem accept : (Rows.laid_unicode_utf8_acceptRanges : DataW Unit) = acceptData := by kernel_rfl
set_option maxRecDepth 100000 in
theorem of_laid {w : World} {l : List (String × DataW Unit)} (h : laidMet Tryz.prog l w) (h3 : ("unicode/utf8.first", Rows.laid_unicode_utf8_first) ∈ l) (h4 : ("unicode/utf8.acceptRanges", Rows.laid_unicode_utf8_acceptRanges) ∈ l) : Holds w :=
  utf8Tabs_of_readsT (ρ := Tryz.layVal_ren) ⟨Tryz.underlying5, Tryz.underlying94, Tryz.underlying96, Tryz.underlying97⟩ ⟨by kernel_rfl, by kernel_rfl, by kernel_rfl, by kernel_rfl, by kernel_rfl, by kernel_rfl, by kernel_rfl⟩
    (Pinned.utf8First_eq ▸ laidMet.reads h h3) (accept ▸ laidMet.reads h h4)
end Go.Proofs.YtgnmjaacnmkgnaaGreatDoor.X.Tabs
end
section
namespace Go.Proofs.YtgnmjaacnmkgnaaGreatDoor.X.Opn
open Go.ChangeShapes Go.WideShapes Go.RowKit Go.Joins Go.Deep
set_option linter.unusedVariables false
variable {H : Type} {enc : TypeId × Value → H} {w : World} {base : Nat} {spare : Nat → Bool} {held : Bool}
theorem weights_slice {P : Program} {t e : TypeId} {l r : List (DataW H)} {q : Nat → Bool} (hu : P.underlying t = some (.slice e)) (h : ((DataW.slice l r).weights P t).all q = true) : q ((l.length + r.length) * P.bytesOf e) = true := by
  rw [DataW.weights, hu] at h
  simp only [List.all_cons, List.all_append, Bool.and_eq_true] at h
  exact h.1
theorem weights_cons {P : Program} {t : TypeId} {ts : List TypeId} {d : DataW H} {r : List (DataW H)} {q : Nat → Bool} (h : (DataW.weightsEach P (t :: ts) (d :: r)).all q = true) : (d.weights P t).all q = true ∧ (DataW.weightsEach P ts r).all q = true := by
  rw [DataW.weightsEach, List.all_append, Bool.and_eq_true] at h
  exact h
set_option maxRecDepth 100000 in
theorem bytes23 : Tryz.prog.bytesOf 45 = 64 := by kernel_rfl
set_option maxRecDepth 100000 in
theorem c3 : Tryz.prog.cellsOf 3 = 1 := by kernel_rfl
set_option maxRecDepth 100000 in
theorem c9 : Tryz.prog.cellsOf 9 = 1 := by kernel_rfl
set_option maxRecDepth 100000 in
theorem c4 : Tryz.prog.cellsOf 4 = 1 := by kernel_rfl
set_option maxRecDepth 100000 in
theorem one_ev {fuel : Nat} {cs : List Value} {x : DataW H × List MemPlace} (h : DataW.trod enc Tryz.prog w base spare held fuel 45 cs = some x) : ∃ y : Evt.Ev, cs = Evt.enc y := by
  obtain ⟨xs, k, _, _, hlen, hxl, hf⟩ := DataW.trod_struct Tryz.underlying45 h
  rw [cells23] at hlen
  match xs, hxl, cs, hlen with
  | [y0, y1, y2, y3, y4], _, [v0, v1, v2, v3, v4], _ =>
    have g0 := hf 0 _ rfl
    have g1 := hf 1 _ rfl
    have g2 := hf 2 _ rfl
    have g3 := hf 3 _ rfl
    have g4 := hf 4 _ rfl
    simp [c3, c4, c9] at g0 g1 g2 g3 g4
    obtain ⟨k, e0, _, _⟩ := DataW.trod_int Tryz.underlying3 g0
    obtain ⟨s1, e1, _, _⟩ := DataW.trod_string Tryz.underlying9 g1
    obtain ⟨s2, e2, _, _⟩ := DataW.trod_string Tryz.underlying9 g2
    obtain ⟨s3, e3, _, _⟩ := DataW.trod_string Tryz.underlying9 g3
    obtain ⟨p, e4, _⟩ := DataW.trod_bool Tryz.underlying4 g4
    injection e0 with e0; injection e1 with e1; injection e2 with e2; injection e3 with e3; injection e4 with e4
    subst e0; subst e1; subst e2; subst e3; subst e4
    exact ⟨⟨k, s1, s2, s3, p⟩, rfl⟩
set_option maxRecDepth 100000 in
theorem open_evs {r : Reach} {b0 : Nat} {v : Value} {d : DataW H} {p : List MemPlace} (hv : Value.okWide Tryz.prog w r b0 22 v) (h : DataW.Trod enc Tryz.prog w base (fun _ => true) held 22 v d p) (hw : (d.weights Tryz.prog 22).all (· ≤ reachBytes) = true) :
    ∃ l : List Evt.Ev, Eng.Reads w v l.length 5 (Evt.cells l) ∧ l.length ≤ 2199023255488 := by
  obtain ⟨a0, len0, cap0, rfl⟩ := okWide_slice Tryz.underlying22 hv
  obtain ⟨fuel, hf⟩ := h
  have hf : DataW.trod enc Tryz.prog w base (fun _ => true) held fuel 22 [.slice a0 len0 cap0] = some (d, p) := hf
  rcases open_slice Tryz.underlying22 hf with ⟨h1, _⟩ | ⟨a, len, cap, m, n, D, Pl, h1, hb, hl, hm, hmm, hy, hx⟩
  · injection h1 with h1
    rw [h1]
    exact ⟨[], Eng.Reads.nil w 5, Nat.zero_le _⟩
  · injection h1 with h1
    rw [h1]
    simp only [if_true] at hmm
    subst hmm
    injection hy with hy hy2
    subst hy
    have hlen := weights_slice Tryz.underlying22 hw
    rw [bytes23, List.length_map, List.length_range] at hlen
    have hlen := of_decide_eq_true hlen
    unfold reachBytes at hlen
    have each : ∀ i, i < len → ∃ y : Evt.Ev, ∀ q u, (Evt.enc y)[q]? = some u → w.cell? (a.add (i * 5 + q)) = some u := fun i hi => by
      obtain ⟨cs', h2, h3⟩ := hx i (by omega)
      obtain ⟨y, rfl⟩ := one_ev h3
      rw [cells23] at h2
      obtain ⟨_, _, hcell⟩ := World.cells?_some h2
      refine ⟨y, fun q u hq => ?_⟩
      have hq5 : q < 5 := (List.getElem?_eq_some_iff.1 hq).1
      have e := hcell q hq5
      rw [add_add] at e
      rw [e]; first | exact hq | (rw [List.getElem?_eq_getElem (by exact hq5)] at hq; exact hq)
    obtain ⟨L, hL⟩ := choose_lt each
    refine ⟨(List.range len).map L, ⟨by rw [Rwt.len Evt.enc_len], some a, m, by simp, by simpa using hl, hm, fun j u hj => ⟨a, rfl, ?_⟩⟩, by simp; omega⟩
    generalize hLL : (List.range len).map L = LL at hj
    have hLl : LL.length = len := by rw [← hLL]; simp
    have hjl := (List.getElem?_eq_some_iff.1 hj).1
    rw [Rwt.len Evt.enc_len, hLl] at hjl
    have hi : j / 5 < len := by omega
    have hat := Evt.cells_at LL (j / 5) (by omega)
    have hg : LL.getD (j / 5) default = L (j / 5) := by
      rw [← hLL, List.getD_eq_getElem?_getD, List.getElem?_map, List.getElem?_range hi]; rfl
    rw [hg] at hat
    have hget : (Evt.cells LL)[j]? = (Evt.enc (L (j / 5)))[j % 5]? := by
      show _ = ([.int .i64 (L (j / 5)).kind, .string (L (j / 5)).anchor, .string (L (j / 5)).tag, .string (L (j / 5)).text, .bool (L (j / 5)).plain] : List Value)[j % 5]?
      rw [← hat, List.getElem?_take, if_pos (by omega), List.getElem?_drop]
      congr 1; omega
    rw [hget] at hj
    have := hL (j / 5) hi (j % 5) u hj
    rwa [show j / 5 * 5 + j % 5 = j by omega] at this
end Go.Proofs.YtgnmjaacnmkgnaaGreatDoor.X.Opn
end
section
namespace Go.Proofs.YtgnmjaacnmkgnaaGreatDoorW.PrintWords
theorem Reps.one {α : Type} {R : α → List Value → Prop} {ps : List α} {cs : List Value} {p : α} {v : Value} (hp : R p [v]) (h : Reps R 1 ps cs) : Reps R 1 (p :: ps) (v :: cs) := by
  refine ⟨by simp [h.1], fun j q hq => ?_⟩
  cases j with
  | zero =>
    simp only [List.getElem?_cons_zero, Option.some.injEq] at hq
    subst hq
    simpa using hp
  | succ j =>
    simp only [List.getElem?_cons_succ] at hq
    have h1 := h.2 j q hq
    simpa [Nat.mul_one] using h1
end Go.Proofs.YtgnmjaacnmkgnaaGreatDoorW.PrintWords
end
section
namespace Go.Proofs
open Go.Shelf
def Tryz.lays169_ren : Go.Shelf.Ren := ⟨fun | 169 => 30 | n => n, fun | 70 => 51 | 9 => 9 | 0 => 0 | 72 => 54 | 37 => 52 | 127 => 81 | 3 => 3 | 5 => 5 | n => n, fun | n => n⟩
theorem Tryz.lays169 : Go.Proofs.Lays.n169 Tryz.prog Tryz.lays169_ren := {
  mixed := by kernel_rfl
  f169 := Tryz.func30.trans (congrArg some (by kernel_rfl))
  t0 := Tryz.underlying0
  a0 := Tryz.isAgg0
  z0 := Tryz.sizeOf0
  v0 := Tryz.zeroValue0
  t3 := Tryz.underlying3
  a3 := Tryz.isAgg3
  z3 := Tryz.sizeOf3
  v3 := Tryz.zeroValue3
  t9 := Tryz.underlying9
  a9 := Tryz.isAgg9
  z9 := Tryz.sizeOf9
  v9 := Tryz.zeroValue9
  t37 := Tryz.underlying52
  a37 := Tryz.isAgg52
  z37 := Tryz.sizeOf52
  v37 := Tryz.zeroValue52
  t70 := Tryz.underlying51
  a70 := Tryz.isAgg51
  z70 := Tryz.sizeOf51
  v70 := Tryz.zeroValue51
  t72 := Tryz.underlying54
  a72 := Tryz.isAgg54
  z72 := Tryz.sizeOf54
  v72 := Tryz.zeroValue54
  t127 := Tryz.underlying81
  a127 := Tryz.isAgg81
  z127 := Tryz.sizeOf81
  v127 := Tryz.zeroValue81 }
theorem Tryz.Builder_Extra_169 : Builder.Extra Tryz.prog Tryz.lays169_ren := {
  sizeBuilder := by kernel_rfl
  liesBuilder := by kernel_rfl
  t5 := Tryz.underlying5
  a5 := Tryz.isAgg5
  z5 := Tryz.sizeOf5
  v5 := Tryz.zeroValue5
  infoByte := by kernel_rfl
  cellsByte := by kernel_rfl
  sizeByte := by kernel_rfl
  neB5 := by decide }
def Tryz.lays156_ren : Go.Shelf.Ren := ⟨fun | 156 => 51 | 165 => 79 | 166 => 28 | 169 => 30 | 240 => 47 | 241 => 99 | 276 => 73 | 277 => 118 | n => n, fun | 31 => 78 | 9 => 9 | 3 => 3 | 4 => 4 | 0 => 0 | 20 => 20 | 72 => 54 | 76 => 57 | 70 => 51 | 37 => 52 | 75 => 56 | 127 => 81 | 164 => 101 | 5 => 5 | 80 => 59 | n => n, fun | n => n⟩
theorem Tryz.lays156 : Go.Proofs.Lays.n156 Tryz.prog Tryz.lays156_ren := {
  mixed := by kernel_rfl
  f156 := Tryz.func51.trans (congrArg some (by kernel_rfl))
  f165 := Tryz.func79.trans (congrArg some (by kernel_rfl))
  f166 := Tryz.func28.trans (congrArg some (by kernel_rfl))
  f169 := Tryz.func30.trans (congrArg some (by kernel_rfl))
  f240 := Tryz.func47.trans (congrArg some (by kernel_rfl))
  f241 := Tryz.func99.trans (congrArg some (by kernel_rfl))
  f276 := Tryz.func73.trans (congrArg some (by kernel_rfl))
  f277 := Tryz.func118.trans (congrArg some (by kernel_rfl))
  t0 := Tryz.underlying0
  a0 := Tryz.isAgg0
  z0 := Tryz.sizeOf0
  v0 := Tryz.zeroValue0
  t3 := Tryz.underlying3
  a3 := Tryz.isAgg3
  z3 := Tryz.sizeOf3
  v3 := Tryz.zeroValue3
  t4 := Tryz.underlying4
  a4 := Tryz.isAgg4
  z4 := Tryz.sizeOf4
  v4 := Tryz.zeroValue4
  t9 := Tryz.underlying9
  a9 := Tryz.isAgg9
  z9 := Tryz.sizeOf9
  v9 := Tryz.zeroValue9
  t20 := Tryz.underlying20
  a20 := Tryz.isAgg20
  z20 := Tryz.sizeOf20
  v20 := Tryz.zeroValue20
  t31 := Tryz.underlying78
  a31 := Tryz.isAgg78
  z31 := Tryz.sizeOf78
  v31 := Tryz.zeroValue78
  t37 := Tryz.underlying52
  a37 := Tryz.isAgg52
  z37 := Tryz.sizeOf52
  v37 := Tryz.zeroValue52
  t70 := Tryz.underlying51
  a70 := Tryz.isAgg51
  z70 := Tryz.sizeOf51
  v70 := Tryz.zeroValue51
  t72 := Tryz.underlying54
  a72 := Tryz.isAgg54
  z72 := Tryz.sizeOf54
  v72 := Tryz.zeroValue54
  t75 := Tryz.underlying56
  a75 := Tryz.isAgg56
  z75 := Tryz.sizeOf56
  v75 := Tryz.zeroValue56
  t76 := Tryz.underlying57
  a76 := Tryz.isAgg57
  z76 := Tryz.sizeOf57
  v76 := Tryz.zeroValue57
  t127 := Tryz.underlying81
  a127 := Tryz.isAgg81
  z127 := Tryz.sizeOf81
  v127 := Tryz.zeroValue81
  t164 := Tryz.underlying101
  a164 := Tryz.isAgg101
  z164 := Tryz.sizeOf101
  v164 := Tryz.zeroValue101 }
theorem Tryz.Builder_Extra_156 : Builder.Extra Tryz.prog Tryz.lays156_ren := {
  sizeBuilder := by kernel_rfl
  liesBuilder := by kernel_rfl
  t5 := Tryz.underlying5
  a5 := Tryz.isAgg5
  z5 := Tryz.sizeOf5
  v5 := Tryz.zeroValue5
  infoByte := by kernel_rfl
  cellsByte := by kernel_rfl
  sizeByte := by kernel_rfl
  neB5 := by decide }
open Go.RowKit in
theorem Tryz.strings_Join (bk o c : Nat) (xs : List ByteArray) (sep : ByteArray) (w : World) (hcells : ∀ (j : Nat) x, xs[j]? = some x → w.cell? ⟨bk, o + j, none⟩ = some (.string x)) (hbk : bk < w.heap.size) (hN : xs.length ≤ 140737488355328) (hcap : xs.length ≤ c) (hlen : (Lib.join (xs.map (·.data.toList)) sep.data.toList).length ≤ 140737488355328) :
    Calls Tryz.prog 51 #[.slice (some ⟨bk, o, none⟩) xs.length c, .string sep] w fun e w' => e = .returned (.string ⟨(Lib.join (xs.map (·.data.toList)) sep.data.toList).toArray⟩) ∧ Below w.heap.size w w' := Any.strings_Join Tryz.lays156 Tryz.Builder_Extra_156 bk o c xs sep w hcells hbk hN hcap hlen
def Tryz.lays137_ren : Go.Shelf.Ren := ⟨fun | 137 => 58 | 217 => 84 | 266 => 106 | n => n, fun | 9 => 9 | 5 => 5 | 3 => 3 | n => n, fun | n => n⟩
theorem Tryz.lays137 : Go.Proofs.Lays.n137 Tryz.prog Tryz.lays137_ren := {
  mixed := by kernel_rfl
  f137 := Tryz.func58.trans (congrArg some (by kernel_rfl))
  f217 := Tryz.func84.trans (congrArg some (by kernel_rfl))
  f266 := Tryz.func106.trans (congrArg some (by kernel_rfl))
  t3 := Tryz.underlying3
  a3 := Tryz.isAgg3
  z3 := Tryz.sizeOf3
  v3 := Tryz.zeroValue3
  t5 := Tryz.underlying5
  a5 := Tryz.isAgg5
  z5 := Tryz.sizeOf5
  v5 := Tryz.zeroValue5
  t9 := Tryz.underlying9
  a9 := Tryz.isAgg9
  z9 := Tryz.sizeOf9
  v9 := Tryz.zeroValue9 }
open Go.RowKit in
theorem Tryz.strings_IndexByte (s : ByteArray) (c : Int) (w : World) :
    Calls Tryz.prog 58 #[.string s, .int .u8 c] w fun e w' => e = .returned (.int .i64 (Lib.indexByte s.data.toList c.toNat.toUInt8)) ∧ w' = w := Any.strings_IndexByte Tryz.lays137 s c w
open Go.RowKit in
theorem Tryz.Builder_String_any_f (B b : Nat) (l : List UInt8) (w : World) (h : Lib.IsBuilderF 54 5 B b (Lib.byteCells l) w) (hBw : B ≤ w.heap.size) :
    Calls Tryz.prog 30 #[.pointer (some ⟨b, 0, none⟩)] w fun e w' => e = .returned (.string ⟨l.toArray⟩) ∧ (Lib.IsBuilderF 54 5 B b (Lib.byteCells l) w' ∧ Below B w w') := Any.Builder_String_any_f Tryz.lays169 Tryz.Builder_Extra_169 B b l w h hBw
def Tryz.lays242_ren : Go.Shelf.Ren := ⟨fun | 242 => 98 | 278 => 117 | n => n, fun | 37 => 52 | 21 => 21 | 51 => 135 | 4 => 4 | 5 => 5 | 46 => 98 | n => n, fun | n => n⟩
theorem Tryz.lays242 : Go.Proofs.Lays.n242 Tryz.prog Tryz.lays242_ren := {
  mixed := by kernel_rfl
  f242 := Tryz.func98.trans (congrArg some (by kernel_rfl))
  f278 := Tryz.func117.trans (congrArg some (by kernel_rfl))
  t4 := Tryz.underlying4
  a4 := Tryz.isAgg4
  z4 := Tryz.sizeOf4
  v4 := Tryz.zeroValue4
  t5 := Tryz.underlying5
  a5 := Tryz.isAgg5
  z5 := Tryz.sizeOf5
  v5 := Tryz.zeroValue5
  t21 := Tryz.underlying21
  a21 := Tryz.isAgg21
  z21 := Tryz.sizeOf21
  v21 := Tryz.zeroValue21
  t37 := Tryz.underlying52
  a37 := Tryz.isAgg52
  z37 := Tryz.sizeOf52
  v37 := Tryz.zeroValue52
  t46 := Tryz.underlying98
  a46 := Tryz.isAgg98
  z46 := Tryz.sizeOf98
  v46 := Tryz.zeroValue98
  t51 := Tryz.underlying135
  a51 := Tryz.isAgg135
  z51 := Tryz.sizeOf135
  v51 := Tryz.zeroValue135 }
def Tryz.lays219_ren : Go.Shelf.Ren := ⟨fun | 219 => 107 | 217 => 84 | 225 => 123 | 224 => 124 | 267 => 125 | 266 => 106 | 314 => 131 | n => n, fun | 9 => 9 | 3 => 3 | 4 => 4 | 5 => 5 | 46 => 98 | 146 => 144 | 51 => 135 | n => n, fun | 1 => 2 | n => n⟩
theorem Tryz.lays219 : Go.Proofs.Lays.n219 Tryz.prog Tryz.lays219_ren := {
  mixed := by kernel_rfl
  f217 := Tryz.func84.trans (congrArg some (by kernel_rfl))
  f219 := Tryz.func107.trans (congrArg some (by kernel_rfl))
  f224 := Tryz.func124.trans (congrArg some (by kernel_rfl))
  f225 := Tryz.func123.trans (congrArg some (by kernel_rfl))
  f266 := Tryz.func106.trans (congrArg some (by kernel_rfl))
  f267 := Tryz.func125.trans (congrArg some (by kernel_rfl))
  f314 := Tryz.func131.trans (congrArg some (by kernel_rfl))
  t3 := Tryz.underlying3
  a3 := Tryz.isAgg3
  z3 := Tryz.sizeOf3
  v3 := Tryz.zeroValue3
  t4 := Tryz.underlying4
  a4 := Tryz.isAgg4
  z4 := Tryz.sizeOf4
  v4 := Tryz.zeroValue4
  t5 := Tryz.underlying5
  a5 := Tryz.isAgg5
  z5 := Tryz.sizeOf5
  v5 := Tryz.zeroValue5
  t9 := Tryz.underlying9
  a9 := Tryz.isAgg9
  z9 := Tryz.sizeOf9
  v9 := Tryz.zeroValue9
  t46 := Tryz.underlying98
  a46 := Tryz.isAgg98
  z46 := Tryz.sizeOf98
  v46 := Tryz.zeroValue98
  t51 := Tryz.underlying135
  a51 := Tryz.isAgg135
  z51 := Tryz.sizeOf135
  v51 := Tryz.zeroValue135
  t146 := Tryz.underlying144
  a146 := Tryz.isAgg144
  z146 := Tryz.sizeOf144
  v146 := Tryz.zeroValue144
  g1 := by kernel_rfl }
open Go.RowKit Go.Lib in
theorem Tryz.stringslite_Index_one (s : ByteArray) (c : UInt8) (w : World) :
    Calls Tryz.prog 107 #[.string s, .string ⟨#[c]⟩] w fun e w' => e = .returned (.int .i64 (Lib.indexByte s.data.toList c)) ∧ w' = w := Any.stringslite_Index_one Tryz.lays219 s c w
def Tryz.laysGw17_ren : Go.Shelf.Ren := ⟨fun | 17 => 70 | 15 => 93 | 20 => 116 | n => n, fun | 9 => 9 | 23 => 99 | 4 => 4 | 3 => 3 | 0 => 0 | 21 => 21 | n => n, fun | n => n⟩
theorem Tryz.laysGw17 : Go.Proofs.LaysGw.n17 Tryz.prog Tryz.laysGw17_ren := {
  mixed := by kernel_rfl
  f15 := Tryz.func93.trans (congrArg some (by kernel_rfl))
  f17 := Tryz.func70.trans (congrArg some (by kernel_rfl))
  f20 := Tryz.func116.trans (congrArg some (by kernel_rfl))
  t0 := Tryz.underlying0
  a0 := Tryz.isAgg0
  z0 := Tryz.sizeOf0
  v0 := Tryz.zeroValue0
  i0 := by kernel_rfl
  t3 := Tryz.underlying3
  a3 := Tryz.isAgg3
  z3 := Tryz.sizeOf3
  v3 := Tryz.zeroValue3
  i3 := by kernel_rfl
  t4 := Tryz.underlying4
  a4 := Tryz.isAgg4
  z4 := Tryz.sizeOf4
  v4 := Tryz.zeroValue4
  i4 := by kernel_rfl
  t9 := Tryz.underlying9
  a9 := Tryz.isAgg9
  z9 := Tryz.sizeOf9
  v9 := Tryz.zeroValue9
  i9 := by kernel_rfl
  t21 := Tryz.underlying21
  a21 := Tryz.isAgg21
  z21 := Tryz.sizeOf21
  v21 := Tryz.zeroValue21
  i21 := by kernel_rfl
  t23 := Tryz.underlying99
  a23 := Tryz.isAgg99
  z23 := Tryz.sizeOf99
  v23 := Tryz.zeroValue99
  i23 := by kernel_rfl }
open Go.RowKit Go.Lib in
theorem Tryz.strings_ContainsFunc (g : Nat) (lb : Array Value) (eg : ∀ args w, (callFunc g args).run Tryz.prog w = .ok (.enter g args) w) (p : Nat → Bool) (s : ByteArray) (w : World) (hp : PredAt Tryz.prog g lb encR p w) :
    Calls Tryz.prog 70 #[.string s, .func (.func g) #[] lb] w fun e w' => e = .returned (.bool (decide (0 ≤ Lib.idxFunc p true s))) ∧ Below w.heap.size w w' := Any.strings_ContainsFunc Tryz.laysGw17 g lb eg p s w hp
def Tryz.lays102_ren : Go.Shelf.Ren := ⟨fun | 102 => 36 | 209 => 63 | 207 => 89 | n => n, fun | 9 => 9 | 4 => 4 | 3 => 3 | n => n, fun | n => n⟩
theorem Tryz.lays102 : Go.Proofs.Lays.n102 Tryz.prog Tryz.lays102_ren := {
  mixed := by kernel_rfl
  f102 := Tryz.func36.trans (congrArg some (by kernel_rfl))
  f207 := Tryz.func89.trans (congrArg some (by kernel_rfl))
  f209 := Tryz.func63.trans (congrArg some (by kernel_rfl))
  t3 := Tryz.underlying3
  a3 := Tryz.isAgg3
  z3 := Tryz.sizeOf3
  v3 := Tryz.zeroValue3
  t4 := Tryz.underlying4
  a4 := Tryz.isAgg4
  z4 := Tryz.sizeOf4
  v4 := Tryz.zeroValue4
  t9 := Tryz.underlying9
  a9 := Tryz.isAgg9
  z9 := Tryz.sizeOf9
  v9 := Tryz.zeroValue9 }
open Go.RowKit Go.Lib in
theorem Tryz.strings_TrimSuffix (s p : ByteArray) (w : World) (hs : s.size ≤ 9223372036854775807) :
    Calls Tryz.prog 36 #[.string s, .string p] w fun e w' => e = .returned (.string ⟨(Lib.trimSuffix s.data.toList p.data.toList).toArray⟩) ∧ w' = w := Any.strings_TrimSuffix Tryz.lays102 s p w hs
end Go.Proofs
end
section
namespace Go.Proofs.YtgnmjaacnmkgnaaGreatDoor.Spl
open Go.RowKit Go.Shelf Go.Proofs
set_option linter.unusedVariables false
set_option linter.unusedSimpArgs false
theorem indexByte_lt : ∀ (l : List UInt8) (c : UInt8), Lib.indexByte l c < (l.length : Int) ∧ -1 ≤ Lib.indexByte l c
  | [], c => by simp [Lib.indexByte]
  | b :: l, c => by
    have ih := indexByte_lt l c
    simp only [Lib.indexByte, List.length_cons]
    split
    · omega
    · split <;> omega
def cutL (l : List UInt8) : List UInt8 × List UInt8 × Bool := if Lib.indexByte l 32 < 0 then (l, [], false) else (l.take (Lib.indexByte l 32).toNat, l.drop ((Lib.indexByte l 32).toNat + 1), true)
set_option maxHeartbeats 4000000 in
set_option maxRecDepth 100000 in
theorem cut85 (l : List UInt8) (w : World) (hl : l.length ≤ 1000000) :
    Calls Tryz.prog 85 #[.string ⟨l.toArray⟩, .string ⟨#[32]⟩] w fun e w' => e = .returned (.tuple #[.string ⟨(cutL l).1.toArray⟩, .string ⟨(cutL l).2.1.toArray⟩, .bool (cutL l).2.2]) ∧ ∃ n, w' = w.drewN n := by
  have hi := indexByte_lt l 32
  have hsz : (⟨l.toArray⟩ : ByteArray).size = l.length := by simp [ByteArray.size]
  by_cases hneg : Lib.indexByte l 32 < 0
  · have d1 : decide (0 ≤ Lib.indexByte l 32) = false := decide_eq_false (by omega)
    unfold cutL
    rw [if_pos hneg]
    go_enter Tryz.func85, Tryz.ntmps85
    go_wp2_with (refine (Tryz.stringslite_Index_one ⟨l.toArray⟩ 32 _).mono ?_; rintro e w' ⟨rfl, rfl⟩)
    go_ret3
    exact ⟨rfl, 0, rfl⟩
  · obtain ⟨m, hm⟩ : ∃ m : Nat, Lib.indexByte l 32 = (m : Int) := ⟨(Lib.indexByte l 32).toNat, by omega⟩
    unfold cutL
    rw [if_neg hneg, hm, Int.toNat_natCast]
    rw [hm] at hi hneg
    have d1 : decide (0 ≤ (m : Int)) = true := decide_eq_true (by omega)
    have hx : (⟨l.toArray⟩ : ByteArray).extract 0 m = ⟨(l.take m).toArray⟩ := by
      apply ByteArray.ext
      rw [ByteArray.data_extract]
      apply Array.ext'
      simp
    have hx2 : (⟨l.toArray⟩ : ByteArray).extract (m + 1) l.length = ⟨(l.drop (m + 1)).toArray⟩ := by
      apply ByteArray.ext
      rw [ByteArray.data_extract]
      apply Array.ext'
      simp [ByteArray.size]
      exact List.take_of_length_le (by simp)
    have c1 : (0 : Int) ≤ ↑m := by omega
    have c2 : (↑m : Int) ≤ ↑(⟨l.toArray⟩ : ByteArray).size := by omega
    have c3 : (0 : Int) ≤ ↑m + 1 := by omega
    have c4 : (↑m + 1 : Int) ≤ ↑(⟨l.toArray⟩ : ByteArray).size := by omega
    go_enter Tryz.func85, Tryz.ntmps85
    go_wp2_with (refine (Tryz.stringslite_Index_one ⟨l.toArray⟩ 32 _).mono ?_; rw [hm]; rintro e w' ⟨rfl, rfl⟩)
    go_region_o
    go_wp2
    go_ret3
    exact ⟨rfl, 1, rfl⟩
set_option maxHeartbeats 4000000 in
theorem cut_one (l : List UInt8) (w : World) (hl : l.length ≤ 1000000) :
    Calls Tryz.prog 59 #[.string ⟨l.toArray⟩, .string ⟨#[32]⟩] w fun e w' => e = .returned (.tuple #[.string ⟨(cutL l).1.toArray⟩, .string ⟨(cutL l).2.1.toArray⟩, .bool (cutL l).2.2]) ∧ ∃ n, w' = w.drewN n := by
  generalize hc : cutL l = c
  have h := cut85 l w hl
  rw [hc] at h
  go_enter Tryz.func59, Tryz.ntmps59
  go_wp2_with (refine h.mono ?_; rintro e w' ⟨rfl, n, rfl⟩)
  go_ret3
  exact ⟨rfl, n, rfl⟩
end Go.Proofs.YtgnmjaacnmkgnaaGreatDoor.Spl
end
section
namespace Go.Proofs.YtgnmjaacnmkgnaaGreatDoor.Spl
open Go.RowKit Go.Shelf Go.Proofs
attribute [local go_sem] Oper.semAt_some
set_option linter.unusedVariables false
set_option linter.unusedSimpArgs false
def linesF : Nat → List UInt8 → List (List UInt8)
  | 0, _ => []
  | n + 1, l => if l.isEmpty then [] else if Lib.indexByte l 10 < 0 then [l] else l.take ((Lib.indexByte l 10).toNat + 1) :: linesF n (l.drop ((Lib.indexByte l 10).toNat + 1))
def left (W : World) (B : Nat) : Nat := match W.cell? ⟨B, 0, none⟩ with
  | some (.string s) => s.size
  | _ => 0
theorem left_of {W : World} {B : Nat} {s : List UInt8} (h : W.heap[B]? = some (.cells #[.string ⟨s.toArray⟩] 9 (0, 0))) : left W B = s.length := by
  have hc : W.cell? ⟨B, 0, none⟩ = some (.string ⟨s.toArray⟩) := by rw [Lib.cell_of_heap h]; rfl
  unfold left; rw [hc]; simp [ByteArray.size]
theorem set_box {W : World} {B : Nat} {x y : Value} (h : W.heap[B]? = some (.cells #[x] 9 (0, 0))) : (W.setCell ⟨B, 0, none⟩ y).heap[B]? = some (.cells #[y] 9 (0, 0)) := by
  obtain ⟨hlt, he⟩ := Array.getElem?_eq_some_iff.1 h
  simp [World.setCell, hlt, Array.getElem_modify, he]
set_option maxHeartbeats 4000000 in
set_option maxRecDepth 100000 in
theorem lines_in (n l Bs : Nat) (items : List (List UInt8)) (K : List (List UInt8) → World → Prop)
    (hset : ∀ pre W v, K pre W → K pre (W.setCell ⟨Bs, 0, none⟩ v))
    (hdr : ∀ pre W, K pre W → K pre W.drew)
    (hY : ∀ pre x W, (pre ++ [x]) <+: items → K pre W → YieldAt Fence.wide (n - 1) Tryz.prog l #[.string ⟨x.toArray⟩] W fun e W' => e = .returned (.bool true) ∧ K (pre ++ [x]) W' ∧ W'.heap[Bs]? = W.heap[Bs]?)
    (s : List UInt8) (W : World) (h0 : K [] W) (hs : W.heap[Bs]? = some (.cells #[.string ⟨s.toArray⟩] 9 (0, 0))) (hit : items = linesF s.length s) (hsz : s.length ≤ 1000000) :
    CallsIn Fence.wide n Tryz.prog 57 #[.func (.yield l) #[] #[], .pointer (some ⟨Bs, 0, none⟩)] W fun e W' => (∃ v, e = .returned v) ∧ K items W' := by
  refine callsIn_of_wp Tryz.func57 rfl trivial ?_ rfl
  simp only [Tryz.ntmps57, List.size_toArray, List.length_cons, List.length_nil, Nat.reduceAdd, Nat.reduceSub, Array.replicate_succ, Array.replicate_zero, List.push_toArray, List.append_toArray, List.nil_append, List.cons_append]
  gi_wp2
  gi_loopw [] (fun wr => ∃ (pre : List (List UInt8)) (rest : List UInt8) (f : Nat), items = pre ++ linesF f rest ∧ rest.length ≤ f ∧ rest.length ≤ 1000000 ∧ K pre wr ∧ wr.heap[Bs]? = some (.cells #[.string ⟨rest.toArray⟩] 9 (0, 0)))
    (fun wr => left wr Bs)
  case atStart => exact ⟨[], s, s.length, by simp [hit], Nat.le_refl _, hsz, h0, hs⟩
  case round =>
    obtain ⟨pre, rest, f, hp, hf, hr, hJ, hb⟩ := hrel
    have hcs : wr.cell? ⟨Bs, 0, none⟩ = some (.string ⟨rest.toArray⟩) := by rw [Lib.cell_of_heap hb]; rfl
    have hfz : wr.frozen? ⟨Bs, 0, none⟩ = false := Lib.frozen_of_heap hb 0
    have hsz2 : (⟨rest.toArray⟩ : ByteArray).size = rest.length := by simp [ByteArray.size]
    by_cases hnil : rest = []
    · subst hnil
      have hpc : items = pre := by rw [hp]; cases f <;> simp [linesF]
      gi_wp2
      go_end0
      exact ⟨⟨_, rfl⟩, by rw [hpc]; exact hJ⟩
    have hne : rest.isEmpty = false := by cases rest with
      | nil => exact absurd rfl hnil
      | cons => rfl
    have hpos : 0 < rest.length := by cases rest with
      | nil => exact absurd rfl hnil
      | cons => simp
    have dpos : decide ((0 : Int) < (rest.length : Int)) = true := decide_eq_true (by omega)
    have hi := indexByte_lt rest 10
    obtain ⟨f, rfl⟩ : ∃ g, f = g + 1 := ⟨f - 1, by omega⟩
    by_cases hneg : Lib.indexByte rest 10 < 0
    · have d1 : decide (0 ≤ Lib.indexByte rest 10) = false := decide_eq_false (by omega)
      have hpc : items = pre ++ [rest] := by rw [hp, linesF, hne, if_neg (by decide), if_pos hneg]
      have hW := set_box (y := .string ⟨#[]⟩) hb
      obtain ⟨fn, tmps, assign, body, hy, hR⟩ := hY pre rest _ (by rw [hpc]; exact List.prefix_refl _) (hset _ _ (.string ⟨#[]⟩) hJ)
      gi_wp2_with (refine ⟨trivial, fun h => (by cases h), ?_⟩; refine (callsIn_wide.2 (Tryz.strings_IndexByte ⟨rest.toArray⟩ 10 _)).mono ?_; rintro e w' ⟨rfl, rfl⟩)
      refine ⟨fun h => (by cases h), ?_⟩
      refine hR.mono ?_
      rintro e W3 ⟨rfl, hJ3, hb3⟩
      have hb4 := hb3.trans hW
      gi_wp2
      have hl1 := left_of (s := []) hb4
      have hl2 := left_of hb
      refine ⟨⟨pre ++ [rest], [], f, ?_, by simp, by simp, hJ3, hb4⟩, ?_⟩
      · rw [hpc]; cases f <;> simp [linesF]
      · simp only [List.length_nil] at hl1; omega
    · have d1 : decide (0 ≤ Lib.indexByte rest 10) = true := decide_eq_true (by omega)
      obtain ⟨m, hm⟩ : ∃ m : Nat, Lib.indexByte rest 10 = (m : Int) := ⟨(Lib.indexByte rest 10).toNat, by omega⟩
      have hpc : items = pre ++ (rest.take (m + 1) :: linesF f (rest.drop (m + 1))) := by rw [hp, linesF, hne, if_neg (by decide), if_neg hneg, hm, Int.toNat_natCast]
      rw [hm] at hi hneg d1
      have hx : (⟨rest.toArray⟩ : ByteArray).extract 0 (m + 1) = ⟨(rest.take (m + 1)).toArray⟩ := by
        apply ByteArray.ext
        rw [ByteArray.data_extract]
        apply Array.ext'
        simp
      have hx2 : (⟨rest.toArray⟩ : ByteArray).extract (m + 1) rest.length = ⟨(rest.drop (m + 1)).toArray⟩ := by
        apply ByteArray.ext
        rw [ByteArray.data_extract]
        apply Array.ext'
        simp [ByteArray.size]
        exact List.take_of_length_le (by simp)
      have c1 : (0 : Int) ≤ (m : Int) + 1 := by omega
      have c2 : ((m : Int) + 1 ≤ (rest.length : Int)) := by omega
      have c3 : ((m : Int) + 1).toNat = m + 1 := by omega
      have hW := set_box (y := .string ⟨(rest.drop (m + 1)).toArray⟩) hb
      obtain ⟨fn, tmps, assign, body, hy, hR⟩ := hY pre (rest.take (m + 1)) _ (by rw [hpc]; exact ⟨linesF f (rest.drop (m + 1)), by simp⟩) (hdr _ _ (hset _ _ (.string ⟨(rest.drop (m + 1)).toArray⟩) hJ))
      gi_wp2_with (refine ⟨trivial, fun h => (by cases h), ?_⟩; refine (callsIn_wide.2 (Tryz.strings_IndexByte ⟨rest.toArray⟩ 10 _)).mono ?_; rw [show Lib.indexByte (⟨rest.toArray⟩ : ByteArray).data.toList (10 : Int).toNat.toUInt8 = (m : Int) from hm]; rintro e w' ⟨rfl, rfl⟩)
      gi_region_o
      all_goals gi_wp2
      all_goals refine ⟨fun h => (by cases h), ?_⟩
      all_goals refine hR.mono ?_
      all_goals rintro e W3 ⟨rfl, hJ3, hb3⟩
      all_goals have hb4 := hb3.trans hW
      all_goals gi_wp2
      all_goals
        have hl1 := left_of hb4
        have hl2 := left_of hb
        refine ⟨⟨pre ++ [rest.take (m + 1)], rest.drop (m + 1), f, ?_, by rw [List.length_drop]; omega, by rw [List.length_drop]; omega, hJ3, hb4⟩, ?_⟩
        · rw [hpc]; simp
        · rw [hl1, hl2, List.length_drop]; omega
end Go.Proofs.YtgnmjaacnmkgnaaGreatDoor.Spl
end
section
namespace Go.Proofs.Eng
open Go Go.RowKit Go.Proofs
set_option linter.unusedSimpArgs false
set_option linter.unusedVariables false
variable {P : Program}
theorem range_ruleB {α : Type} {n m : Nat} {g : Operand} {ps : Array Tmp} {assign body : Code} {Q : Exit → Act → World → Prop} {a : Act} {V : World} {gf : Nat} {lb : Array Value} (items : List α) (enc : α → Array Value) (J : List α → World → Prop)
    (hg : a.eval g = .func (.func gf) #[] lb) (eg : ∀ args w, (callFunc gf args).run P w = .ok (.enter gf args) w) (hps : ∀ x, (enc x).size = ps.size) (h0 : J [] V)
    (stab : ∀ pre W W', J pre W → Below V.heap.size W W' → (∀ (k : Nat) (o : Obj), W.heap[k]? = some o → (∃ c t f, o = Obj.cells c t f) → W'.heap[k]? = some o) → J pre W')
    (bs : Nat) (hbs : bs < V.heap.size) (hset : ∀ pre W v, J pre W → J pre (W.setCell ⟨bs, 0, none⟩ v))
    (hit : ∀ (l : Nat) (K : List α → World → Prop), (∀ pre W W', K pre W → Below W.heap.size W W' → K pre W') → (∀ pre W v, K pre W → K pre (W.setCell ⟨bs, 0, none⟩ v)) → (∀ pre W, K pre W → J pre W) →
      (∀ pre x W, (pre ++ [x]) <+: items → K pre W → YieldAt Fence.wide m P l (enc x) W fun e W' => e = .returned (.bool true) ∧ K (pre ++ [x]) W' ∧ W'.heap[bs]? = W.heap[bs]?) →
      ∀ W, K [] W → W.heap[bs]? = V.heap[bs]? → Calls P gf (#[.func (.yield l) #[] #[]] ++ lb) W fun e W' => (∃ v, e = .returned v) ∧ K items W')
    (hbody : ∀ pre x W l (a1 : Act), (pre ++ [x]) <+: items → J pre W → l = V.heap.size + 1 → V.heap.size + 2 ≤ W.heap.size → a1.defers = [] → a1.tmps = (ps.zip (enc x)).foldl (fun t (p, v) => t.setIfInBounds p v) a.tmps →
      assign.wpIn (Fence.wide.inRound l) m P (Exit.then (fun a1 w1 => Below W.heap.size W w1 ∧ J pre w1 ∧ ∀ w2 rb, V.heap.size + 2 ≤ w2.heap.size → w2.heap[l]? = some (.loop rb) → w2.heap[V.heap.size]? = some (.deferred (some [])) → J pre w2 →
        body.wpIn (Fence.wide.inRound l) m P (fun e a2 w3 => e = .normal ∧ J (pre ++ [x]) w3 ∧ V.heap.size + 2 ≤ w3.heap.size ∧ w3.heap[l]? = some (.loop rb) ∧ w3.heap[V.heap.size]? = some (.deferred (some [])) ∧ w3.heap[bs]? = w2.heap[bs]?) a1 w2) (fun _ _ _ => False)) a1 W)
    (hend : ∀ W a', J items W → a'.tmps = a.tmps → a'.defers = { target := .collected V.heap.size, args := #[] } :: a.defers → W.heap[V.heap.size]? = some (.deferred (some [])) → Q .normal a' W) :
    (Code.rangeFunc g ps assign body).wp P Q a V := by
  refine (wpIn_wide (n := n)).1 (wpIn_rangeFunc ?_)
  intro fn hfn
  obtain ⟨r, hr⟩ : ∃ r : Loop, r = { state := .ready, pending := none, fn, tmps := a.tmps, params := ps, assign, body, defers := V.heap.size } := ⟨_, rfl⟩
  obtain ⟨W1, hW1⟩ : ∃ W1, (V.alloc (.deferred (some []))).alloc (.loop r) = W1 := ⟨_, rfl⟩
  have hdep : Fence.wide.depth.isSome = true → 1 ≤ n := fun h => (by cases h)
  let K : List α → World → Prop := fun pre W => J pre W ∧ V.heap.size + 2 ≤ W.heap.size ∧ W.heap[V.heap.size + 1]? = some (.loop r) ∧ W.heap[V.heap.size]? = some (.deferred (some []))
  have hKst : ∀ pre W W', K pre W → Below W.heap.size W W' → K pre W' := fun pre W W' h hb =>
    ⟨stab _ _ _ h.1 (hb.mono (by have := h.2.1; omega)) (fun k o hk _ => (hb.block k (Array.getElem?_eq_some_iff.1 hk).1).trans hk), Nat.le_trans h.2.1 hb.size, (hb.block _ (by have := h.2.1; omega)).trans h.2.2.1, (hb.block _ (by have := h.2.1; omega)).trans h.2.2.2⟩
  have hK0 : K [] W1 := by
    have hs1 : (V.alloc (.deferred (some []))).heap.size = V.heap.size + 1 := by simp
    have hb01 : Below V.heap.size V W1 := by rw [← hW1]; exact ((Below.refl _ V).alloc (Nat.le_refl _) _).alloc (by simp) _
    refine ⟨stab _ _ _ h0 hb01 (fun k o hk _ => (hb01.block k (Array.getElem?_eq_some_iff.1 hk).1).trans hk), ?_, ?_, ?_⟩
    · rw [← hW1]; simp
    · rw [← hW1]
      show ((V.alloc (.deferred (some []))).heap.push _)[V.heap.size + 1]? = _
      rw [Array.getElem?_push, if_pos hs1.symm]
    · rw [← hW1]
      refine (Below.heap_alloc (V.alloc (.deferred (some []))) _ V.heap.size (by simp)).trans ?_
      show (V.heap.push _)[V.heap.size]? = _
      simp
  have hKset : ∀ pre W v, K pre W → K pre (W.setCell ⟨bs, 0, none⟩ v) := fun pre W v h =>
    ⟨hset _ _ _ h.1, by rw [World.size_setCell]; exact h.2.1, (Below.heap_setCell W _ _ _ (by show V.heap.size + 1 ≠ bs; omega)).trans h.2.2.1, (Below.heap_setCell W _ _ _ (by show V.heap.size ≠ bs; omega)).trans h.2.2.2⟩
  refine ⟨V.heap.size + 1, [{ target := .collected V.heap.size, args := #[] }], W1, { target := .fn (.func gf) lb, args := #[.func (.yield (V.heap.size + 1)) #[] #[]] }, W1, gf,
    #[.func (.yield (V.heap.size + 1)) #[] #[]] ++ lb, W1, ?_, ?_, (fun _ _ => trivial), ?_, hdep, ?_⟩
  · rw [← hW1, hr]; exact run_enterLoop_outer _ _ _ _ _
  · simp only [resolve, hg]
    simp [go_sem]
  · simp [invoke, go_sem, eg]
  · refine callsIn_wide.2 ((hit (V.heap.size + 1) K hKst hKset (fun _ _ h => h.1) ?_ W1 hK0 (by rw [← hW1]; exact (Below.heap_alloc (V.alloc (.deferred (some []))) _ bs (by simp; omega)).trans (Below.heap_alloc V _ bs hbs))).mono ?_)
    · intro pre x W hpre hK
      refine ⟨_, _, _, _, run_yield hK.2.2.1 (by rw [hr]; exact hps x), roundIn_of_wpIn trivial ?_⟩
      have hb := hbody pre x W (V.heap.size + 1) { tmps := (ps.zip (enc x)).foldl (fun t (p, v) => t.setIfInBounds p v) a.tmps, defers := [] } hpre hK.1 rfl hK.2.1 rfl rfl
      have e1 : r.params = ps := by rw [hr]
      have e2 : r.tmps = a.tmps := by rw [hr]
      have e3 : r.assign = assign := by rw [hr]
      have e4 : r.body = body := by rw [hr]
      have e5 : r.state = .ready := by rw [hr]
      have e6 : r.pending = none := by rw [hr]
      rw [e1, e2, e3, e4]
      refine wpIn_mono hb fun e a1 w1 hq => ?_
      cases e with
      | normal =>
        obtain ⟨hk1, hJ1, hgo⟩ := hq
        have hs0 := hK.2.1
        have hs1 := hk1.size
        have hl1 : w1.heap[V.heap.size + 1]? = some (.loop r) := (hk1.block _ (by omega)).trans hK.2.2.1
        have hd1 : w1.heap[V.heap.size]? = some (.deferred (some [])) := (hk1.block _ (by omega)).trans hK.2.2.2
        have hbs1 : w1.heap[bs]? = W.heap[bs]? := hk1.block _ (by omega)
        refine ⟨_, run_beginRound hl1 e5, ?_⟩
        have hb2 : Below V.heap.size w1 (w1.putObj (V.heap.size + 1) (.loop { r with state := .busy })) := below_put hl1 (by omega)
        have hl1s : V.heap.size + 1 < w1.heap.size := (Array.getElem?_eq_some_iff.1 hl1).1
        have hl2 : (w1.putObj (V.heap.size + 1) (.loop { r with state := .busy })).heap[V.heap.size + 1]? = some (.loop { r with state := .busy }) := World.putObj_heap_same hl1s
        have hd2 : (w1.putObj (V.heap.size + 1) (.loop { r with state := .busy })).heap[V.heap.size]? = some (.deferred (some [])) := (World.putObj_heap_other (by omega)).trans hd1
        have keep : ∀ (w : World) (o' : Obj) (q : Loop), w.heap[V.heap.size + 1]? = some (.loop q) → ∀ (k : Nat) (o : Obj), w.heap[k]? = some o → (∃ c t f, o = Obj.cells c t f) → (w.putObj (V.heap.size + 1) o').heap[k]? = some o := fun w o' q hq k o hk ho => by
          refine (World.putObj_heap_other (fun e => ?_)).trans hk
          obtain ⟨c, t, f, rfl⟩ := ho
          rw [e, hq] at hk
          cases hk
        have hs2 := hb2.size
        have hbs2 : (w1.putObj (V.heap.size + 1) (.loop { r with state := .busy })).heap[bs]? = w1.heap[bs]? := World.putObj_heap_other (by omega)
        have hgo2 := hgo _ { r with state := .busy } (by omega) hl2 hd2 (stab _ _ _ hJ1 hb2 (keep _ _ _ hl1))
        refine wpIn_mono hgo2 fun e a2 w3 hq3 => ?_
        obtain ⟨rfl, hJ3, hs3, hl3, hd3, hbs3⟩ := hq3
        have hback : ({ ({ r with state := .busy } : Loop) with state := if (none : Option Code).isNone = true then .ready else .done, pending := none } : Loop) = r := by cases r; simp_all
        have hend := run_endRound (P := P) none hl3
        rw [hback] at hend
        have hb4 : Below V.heap.size w3 (w3.putObj (V.heap.size + 1) (.loop r)) := below_put hl3 (by omega)
        have hs4 := hb4.size
        refine ⟨_, _, hend, rfl, ⟨stab _ _ _ hJ3 hb4 (keep _ _ _ hl3), by omega, World.putObj_heap_same (Array.getElem?_eq_some_iff.1 hl3).1, (World.putObj_heap_other (by omega)).trans hd3⟩, ?_⟩
        exact (World.putObj_heap_other (by omega)).trans (hbs3.trans (hbs2.trans hbs1))
      | _ => exact hq.elim
    · rintro e W' ⟨⟨v, rfl⟩, hK⟩
      have e5 : r.state = .ready := by rw [hr]
      have e6 : r.pending = none := by rw [hr]
      refine ⟨none, W'.putObj (V.heap.size + 1) (.loop { r with state := .exhausted }), (run_endLoop (P := P) hK.2.2.1 (by rw [e5]; decide)).trans (by rw [e6]), ?_⟩
      exact hend _ _ (stab _ _ _ hK.1 (below_put hK.2.2.1 (by omega)) (fun k o hk ho => (World.putObj_heap_other (fun e => by obtain ⟨c, t, f, rfl⟩ := ho; rw [e, hK.2.2.1] at hk; cases hk)).trans hk)) rfl rfl ((World.putObj_heap_other (by omega)).trans hK.2.2.2)
theorem run_loadVar_slice {w : World} {g : Nat} {T ty e : TypeId} {sl : Value} (hg : w.heap[g]? = some (.cells #[sl] T (0, 0))) (hu : P.underlying ty = some (.slice e)) : (loadVar ty ⟨g, 0, none⟩).run P w = .ok sl w := by
  have hc : w.cell? ⟨g, 0, none⟩ = some sl := by rw [Lib.cell_of_heap hg]; rfl
  simp [loadVar, Sem.run_bind, run_underlying hu, hc, Result.andThen, go_sem, isAgg]
theorem retB {n D : Nat} {fn : Func} {p u : Nat} {ty T e : TypeId} {g : Nat} {sl v : Value} {R : Ending → World → Prop} {a : Act} {w : World} (h : fn.results = #[.cell p ty, .tmp u]) (hd : a.defers = [{ target := .collected D, args := #[] }]) (hD : w.heap[D]? = some (.deferred (some [])))
    (ep : a.eval (.tmp p) = .pointer (some ⟨g, 0, none⟩)) (hb : w.heap[g]? = some (.cells #[sl] T (0, 0))) (hu : P.underlying ty = some (.slice e)) (ev : a.eval (.tmp u) = v)
    (hR : ∀ w1, Below D w w1 → (∀ (b : Nat) (o : Obj), w.heap[b]? = some o → o.isCells = true → w1.heap[b]? = some o) → R (.returned (.tuple #[sl, v])) w1) : bodyPostM Fence.wide n P fn R .ret a w := by
  show LeavesInM Fence.wide n P fn a.tmps R a.defers .returning w
  rw [hd]
  have hk : ∀ (b : Nat) (o : Obj), w.heap[b]? = some o → o.isCells = true → (w.putObj D (.deferred none)).heap[b]? = some o := fun b o hb hc => by
    refine (World.putObj_heap_other fun e => ?_).trans hb
    subst e
    rw [hD] at hb
    injection hb with hb
    subst hb
    cases hc
  refine ⟨by simp, .inl ⟨D, _, rfl, run_takeDeferred hD, ?_⟩⟩
  refine ⟨.tuple #[sl, v], ?_, hR _ (below_put hD (Nat.le_refl _)) hk⟩
  subst ev
  rw [results_cell_tmp h]
  have e1 : a.tmps.getD p undef = .pointer (some ⟨g, 0, none⟩) := ep
  rw [e1]
  have hl := run_loadVar_slice (P := P) (hk _ _ hb rfl) hu
  simp only [asAddr, Sem.run_pure, Result.andThen]
  rw [hl]
  rfl
end Go.Proofs.Eng
end
section
namespace Go.Proofs.EngG
open Go Go.RowKit Go.Proofs.Eng Go.Proofs.EngI
set_option linter.unusedSimpArgs false
set_option linter.unusedVariables false
variable {Fc : Fence} {nn : Nat} {P : Program} {ops : Array Oper} {Q : Exit → Act → World → Prop} {a : Act} {w : World} {i : Nat} {o : Oper}
theorem wanted_on {j d : Nat} {want : Bool} {oj : Oper} (hg : o.guard = some (j, want)) (hj : ops[j]? = some oj) (hd : oj.dst = some d) (hlt : d < a.tmps.size) (h : a.eval (.tmp d) = .bool want) : Region.wanted o (yielded ops a.tmps) = true := by
  have hy : yielded ops a.tmps j = some want := by
    unfold yielded
    rw [hj]
    have h2 : a.tmps[d]? = some (.bool want) := by
      have h3 : a.tmps.getD d undef = .bool want := h
      rw [Array.getD_eq_getD_getElem?] at h3
      rw [Array.getElem?_eq_getElem hlt] at h3 ⊢
      exact congrArg some h3
    simp [hd, h2]
  unfold Region.wanted
  rw [hg]
  simp [hy]
theorem wanted_off {j d : Nat} {want : Bool} {oj : Oper} (hg : o.guard = some (j, want)) (hj : ops[j]? = some oj) (hd : oj.dst = some d) (hlt : d < a.tmps.size) (h : a.eval (.tmp d) = .bool (!want)) : Region.wanted o (yielded ops a.tmps) = false := by
  have hy : yielded ops a.tmps j = some (!want) := by
    unfold yielded
    rw [hj]
    have h2 : a.tmps[d]? = some (.bool (!want)) := by
      have h3 : a.tmps.getD d undef = .bool (!want) := h
      rw [Array.getD_eq_getD_getElem?] at h3
      rw [Array.getElem?_eq_getElem hlt] at h3 ⊢
      exact congrArg some h3
    simp [hd, h2]
  unfold Region.wanted
  rw [hg]
  simp [hy]
theorem tail_one (hF : Free Fc) {c : Nat} {os : List Oper} (ho' : ops.toList.drop i = o :: os) (hg : Region.wanted o (yielded ops a.tmps) = true) (hcalm : calm o = true) (h : o.wp P a w (fun a' w' => wpOpsIn Fc nn P ops Q (List.range' (i + 1) c) a' w') Q) : wpOpsIn Fc nn P ops Q (List.range' i (c + 1)) a w := by
  have ho := drop_get ho'
  rw [List.range'_succ, wpOpsIn_cons]
  unfold wpOpIn
  rw [ho]
  simp only
  rw [if_pos hg]
  exact wp_in hF hcalm h
theorem tail_skip (hF : Free Fc) {c : Nat} {w1 : World} {os : List Oper} (ho' : ops.toList.drop i = o :: os) (hg : Region.wanted o (yielded ops a.tmps) = true) (hcalm : calm o = true) (hd : o.dst = none) (hrun : (execOp a.eval o).run P w = .ok .skip w1) (h : wpOpsIn Fc nn P ops Q (List.range' (i + 1) c) a w1) : wpOpsIn Fc nn P ops Q (List.range' i (c + 1)) a w := by
  refine tail_one hF ho' hg hcalm ?_
  unfold Oper.wp
  rw [hrun]
  show wpOpsIn Fc nn P ops Q _ (a.put o.dst undef) w1
  rw [hd]; exact h
theorem tail_val (hF : Free Fc) {c d n : Nat} {v : Value} {w1 : World} {os : List Oper} (ho' : ops.toList.drop i = o :: os) (hg : Region.wanted o (yielded ops a.tmps) = true) (hcalm : calm o = true) (hd : o.dst = some d) (hrun : (execOp a.eval o).run P w = .ok (.value v) w1) (hn : a.tmps.size = n) (hlt : decide (d < n) = true)
    (h : ∀ a' : Act, a'.defers = a.defers → a'.tmps.size = n → a'.eval (.tmp d) = v → (∀ t, (t != d) = true → a'.eval (.tmp t) = a.eval (.tmp t)) → wpOpsIn Fc nn P ops Q (List.range' (i + 1) c) a' w1) : wpOpsIn Fc nn P ops Q (List.range' i (c + 1)) a w := by
  refine tail_one hF ho' hg hcalm ?_
  unfold Oper.wp
  rw [hrun]
  show wpOpsIn Fc nn P ops Q _ (a.put o.dst v) w1
  rw [hd]
  have hlt := of_decide_eq_true hlt
  have hx : ∀ d', some d = some d' → d' < a.tmps.size := fun d' e => by injection e with e; omega
  refine h _ rfl (by simp [Act.put, hn]) ?_ fun t ht => ?_
  · show (a.put (some d) v).tmps.getD d undef = v
    rw [put_getD _ _ _ _ hx, if_pos rfl]
  · show (a.put (some d) v).tmps.getD t undef = _
    rw [put_getD _ _ _ _ hx, if_neg (fun e => by injection e with e; simp [e] at ht)]
    rfl
theorem tail_call (hF : Free Fc) {c d n : Nat} {f : FuncId} {fn : Func} {as_ : Array Operand} {ts : Array TypeId} {R : Value → World → Prop} {os : List Oper} (hf : P.funcs[f]? = some fn) (hname : (fn.name == "runtime.NumGoroutine") = false) (hb : fn.body.isNone = false)
    (ho' : ops.toList.drop i = o :: os) (hg : Region.wanted o (yielded ops a.tmps) = true) (hd : o.dst = some d) (hop : o.op = .call { callee := .value (.func f), args := as_, argTypes := ts }) (args : Array Value) (hargs : as_.map a.eval = args) (hn : a.tmps.size = n) (hlt : decide (d < n) = true)
    (hcall : Calls P f args w fun e w' => ∃ v, e = .returned v ∧ R v w')
    (h : ∀ (v : Value) (w1 : World) (a' : Act), R v w1 → a'.defers = a.defers → a'.tmps.size = n → a'.eval (.tmp d) = v → (∀ t, (t != d) = true → a'.eval (.tmp t) = a.eval (.tmp t)) → wpOpsIn Fc nn P ops Q (List.range' (i + 1) c) a' w1) : wpOpsIn Fc nn P ops Q (List.range' i (c + 1)) a w := by
  refine tail_one hF ho' hg (by unfold calm; rw [hop]) ?_
  have he := enters hf hname hb args w
  have hrun : (execOp a.eval o).run P w = .ok (.enter f args) w := by
    unfold execOp
    rw [hop]
    simp only [resolve, Deferred.ofValue, invoke, Act.eval, hargs]
    have h2 : (#[] : Array Value) ++ args ++ (#[] : Array Value) = args := by simp
    show Sem.run P (callFunc f (#[] ++ args ++ #[])) w = _
    rw [h2]
    exact he
  unfold Oper.wp
  rw [hrun]
  refine Calls.mono hcall ?_
  rintro e w' ⟨v, rfl, hR⟩
  show wpOpsIn Fc nn P ops Q _ (a.put o.dst v) w'
  rw [hd]
  have hlt := of_decide_eq_true hlt
  have hx : ∀ d', some d = some d' → d' < a.tmps.size := fun d' e => by injection e with e; omega
  refine h v w' _ hR rfl (by simp [Act.put, hn]) ?_ fun t ht => ?_
  · show (a.put (some d) v).tmps.getD d undef = v
    rw [put_getD _ _ _ _ hx, if_pos rfl]
  · show (a.put (some d) v).tmps.getD t undef = _
    rw [put_getD _ _ _ _ hx, if_neg (fun e => by injection e with e; simp [e] at ht)]
    rfl
theorem tail_off (hF : Free Fc) {c d n : Nat} {os : List Oper} (ho' : ops.toList.drop i = o :: os) (hg : Region.wanted o (yielded ops a.tmps) = false) (hd : o.dst = some d) (hn : a.tmps.size = n) (hlt : decide (d < n) = true)
    (h : ∀ a' : Act, a'.defers = a.defers → a'.tmps.size = n → (∀ t, (t != d) = true → a'.eval (.tmp t) = a.eval (.tmp t)) → wpOpsIn Fc nn P ops Q (List.range' (i + 1) c) a' w) : wpOpsIn Fc nn P ops Q (List.range' i (c + 1)) a w := by
  have ho := drop_get ho'
  rw [List.range'_succ, wpOpsIn_cons]
  unfold wpOpIn
  rw [ho]
  simp only
  rw [if_neg (by rw [hg]; simp)]
  refine ⟨fun f _ => hF.fn f, ?_⟩
  rw [hd]
  have hlt := of_decide_eq_true hlt
  have hx : ∀ d', some d = some d' → d' < a.tmps.size := fun d' e => by injection e with e; omega
  refine h _ rfl (by simp [Act.put, hn]) fun t ht => ?_
  show (a.put (some d) undef).tmps.getD t undef = _
  rw [put_getD _ _ _ _ hx, if_neg (fun e => by injection e with e; simp [e] at ht)]
  rfl
theorem tail_exs (hF : Free Fc) {c : Nat} {R : World → Prop} {os : List Oper} (ho' : ops.toList.drop i = o :: os) (hg : Region.wanted o (yielded ops a.tmps) = true) (hcalm : calm o = true) (hd : o.dst = none) (hrun : ∃ w1, (execOp a.eval o).run P w = .ok .skip w1 ∧ R w1)
    (h : ∀ w1, R w1 → wpOpsIn Fc nn P ops Q (List.range' (i + 1) c) a w1) : wpOpsIn Fc nn P ops Q (List.range' i (c + 1)) a w := by
  obtain ⟨w1, hr, hR⟩ := hrun
  exact tail_skip hF ho' hg hcalm hd hr (h w1 hR)
end Go.Proofs.EngG
namespace Go.Proofs.Eng
open Go Go.RowKit
set_option linter.unusedSimpArgs false
set_option linter.unusedVariables false
variable {P : Program} {a : Act} {w : World} {o : Oper}
theorem run_nil_el {x : Operand} {j : Nat} {v : Value} {n size : Nat} {xs : List Value} (hop : o.op = .nilCheck x) (h : a.eval x = elemPtr v j) (F : Reads w v n size xs) (hj : j < n * size) : (execOp a.eval o).run P w = .ok (.value (elemPtr v j)) w := by
  obtain ⟨hl, A, c, rfl, hc, hm, hx⟩ := F
  obtain ⟨ad, rfl, _⟩ := hx j _ (List.getElem?_eq_getElem (by omega))
  unfold execOp
  rw [hop]
  simp only [h, elemPtr]
  go_simp
theorem own_pop {B : Nat} {e : TypeId} {size : Nat} {v : Value} {n : Nat} {xs : List Value} (O : w.ownsRow B e size v (n + 1) xs) : w.ownsRow B e size (cutVal v 0 n size) n (xs.take (n * size)) := by
  obtain ⟨hl, h2⟩ := O
  rcases h2 with ⟨h0, h1⟩ | ⟨g, cap, cur, rfl, hg, hh, hn, hcap, hsz, htake⟩
  · cases h1
  · have e1 : cutVal (.slice (some ⟨g, 0, none⟩) (n + 1) cap) 0 n size = .slice (some ⟨g, 0, none⟩) n cap := by
      unfold cutVal
      simp only [Nat.sub_zero]
      split <;> simp [Addr.add]
    rw [e1]
    have hx : xs = xs.take (n * size) ++ xs.drop (n * size) := (List.take_append_drop _ _).symm
    refine ownsRow_pop (last := xs.drop (n * size)) (by rw [List.length_take, hl, Nat.succ_mul]; omega) ?_
    rw [← hx]
    exact ⟨hl, .inr ⟨g, cap, cur, rfl, hg, hh, hn, hcap, hsz, htake⟩⟩
theorem own_form {B : Nat} {e : TypeId} {size : Nat} {v : Value} {n : Nat} {xs : List Value} (O : w.ownsRow B e size v n xs) {j : Nat} (hj : j < n * size) : ∃ g cap, v = .slice (some ⟨g, 0, none⟩) n cap ∧ elemPtr v j = .pointer (some ⟨g, j, none⟩) := by
  obtain ⟨hl, h2⟩ := O
  rcases h2 with ⟨h0, h1⟩ | ⟨g, cap, cur, rfl, hg, hh, hn, hcap, hsz, htake⟩
  · rw [h1, Nat.zero_mul] at hj; cases hj
  · exact ⟨g, cap, rfl, by simp [elemPtr, Addr.add]; intro h; exact h.symm⟩
theorem run_store_el {B : Nat} {e T : TypeId} {size : Nat} {v u : Value} {n j : Nat} {xs : List Value} {x y : Operand} (hop : o.op = .store T x y) (hx : a.eval x = elemPtr v j) (hy : a.eval y = u) (O : w.ownsRow B e size v n xs) (hj : j < n * size) (hsize : (P.info? T).map (·.size) = some 1) (h1 : u.oneCell' = true) :
    ∃ w1, (execOp a.eval o).run P w = .ok .skip w1 ∧ w1.ownsRow B e size v n (xs.set j u) ∧ w.grownBy w1 v.ownBlock := by
  obtain ⟨g, cap, rfl, hp⟩ := own_form O hj
  rw [hp] at hx
  have hs := O.stored j u
  refine ⟨w.setCell ⟨g, j, none⟩ u, ?_, hs.1, hs.2⟩
  have hc := O.cellAt j hj
  have hlt : j < xs.length := by rw [O.1]; exact hj
  rw [List.getElem?_eq_getElem hlt] at hc
  have hf := O.frozenAt j
  have hz : (sizeOf T).run P w = .ok 1 w := by
    cases hq : P.info? T with
    | none => simp [hq] at hsize
    | some i => simp [hq] at hsize; simp [sizeOf, typeInfo, hq, hsize, Sem.run_bind, Sem.run_pure]
  have hr : ∀ m, (store ⟨g, j, none⟩ u m).run P w = .ok () (w.setCell ⟨g, j, none⟩ u) := fun m => by rw [run_store P w _ u m h1, hc]; simp [hf]
  unfold execOp
  rw [hop]
  simp only [hx, hy]
  cases u <;> first | (simp [Value.oneCell'] at h1; done) | (go_simp; done) | (go_simp; rw [hz]; go_simp; done) | (go_simp; try rw [hz]; try simp only [Sem.run_bind, Result.andThen_ok]; simp [hr])
end Go.Proofs.Eng
end
