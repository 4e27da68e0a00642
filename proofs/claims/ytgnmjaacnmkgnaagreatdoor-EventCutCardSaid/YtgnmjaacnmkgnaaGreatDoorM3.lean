/- Words and walks that the row of EventCut needs: printed by programs, and plain laws. -/
import Derived.Test.YtgnmjaacnmkgnaaGreatDoorM2
import Derived.Laws.ResultCell
import Derived.Lib.Builder
import Derived.WalkSmall
import Derived.Laws.OwnMore
namespace Go.Proofs.YtgnmjaacnmkgnaaGreatDoorW.PrintWords
end Go.Proofs.YtgnmjaacnmkgnaaGreatDoorW.PrintWords
namespace Go.Proofs.YtgnmjaacnmkgnaaGreatDoorW.PrintLast
end Go.Proofs.YtgnmjaacnmkgnaaGreatDoorW.PrintLast
namespace Go.Proofs.YtgnmjaacnmkgnaaGreatDoorW.PrintMore
end Go.Proofs.YtgnmjaacnmkgnaaGreatDoorW.PrintMore
section
namespace Go.Proofs.Eng
open Go Go.RowKit Go.Proofs
set_option linter.unusedSimpArgs false
set_option linter.unusedVariables false
variable {P : Program}
theorem range_ruleB {α : Type} {n m : Nat} {g : Operand} {ps : Array Tmp} {assign body : Code} {Q : Exit → Act → World → Prop} {a : Act} {V : World} {gf : Nat} {lb : Array Value} (items : List α) (enc : α → Array Value) (J : List α → World → Prop)
    (hg : a.eval g = .func (.func gf) #[] lb) (eg : ∀ args w, (callFunc gf args).run P w = .ok (.enter gf args) w) (hps : ∀ x, (enc x).size = ps.size) (h0 : J [] V)
    (stab : ∀ pre W W', J pre W → Below V.heap.size W W' → (∀ (k : Nat) (o : Obj), W.heap[k]? = some o → (∃ c t f, o = Obj.cells c t f) → W'.heap[k]? = some o) → J pre W')
    (bs : Nat) (hbs : bs < V.heap.size) (hset : ∀ pre W v, J pre W → J pre (W.setCell ⟨bs, 0, none⟩ v))
    (hit : ∀ (l : Nat) (K : List α → World → Prop), (∀ pre W W', K pre W → Below W.heap.size W W' → K pre W') → (∀ pre W v, K pre W → K pre (W.setCell ⟨bs, 0, none⟩ v)) → (∀ pre W, K pre W → J pre W) →
      (∀ pre x W, (pre ++ [x]) <+: items → K pre W → YieldAt Fence.wide m P l (enc x) W fun e W' => e = .returned (.bool true) ∧ K (pre ++ [x]) W' ∧ W'.heap[bs]? = W.heap[bs]?) →
      ∀ W, K [] W → W.heap[bs]? = V.heap[bs]? → Calls P gf (#[.func (.yield l) #[] #[]] ++ lb) W fun e W' => (∃ v, e = .returned v) ∧ K items W')
    (hbody : ∀ pre x W l (a1 : Act), (pre ++ [x]) <+: items → J pre W → l = V.heap.size + 1 → V.heap.size + 2 ≤ W.heap.size → a1.defers = [] → a1.tmps = (ps.zip (enc x)).foldl (fun t (p, v) => t.setIfInBounds p v) a.tmps →
      assign.wpIn (Fence.wide.inRound l) m P (Exit.then (fun a1 w1 => Below W.heap.size W w1 ∧ J pre w1 ∧ ∀ w2 rb, V.heap.size + 2 ≤ w2.heap.size → w2.heap[l]? = some (.loop rb) → w2.heap[V.heap.size]? = some (.deferred (some [])) → J pre w2 →
        body.wpIn (Fence.wide.inRound l) m P (fun e a2 w3 => e = .normal ∧ J (pre ++ [x]) w3 ∧ V.heap.size + 2 ≤ w3.heap.size ∧ w3.heap[l]? = some (.loop rb) ∧ w3.heap[V.heap.size]? = some (.deferred (some [])) ∧ w3.heap[bs]? = w2.heap[bs]?) a1 w2) (fun _ _ _ => False)) a1 W)
    (hend : ∀ W a', J items W → a'.tmps = a.tmps → a'.defers = { target := .collected V.heap.size, args := #[] } :: a.defers → W.heap[V.heap.size]? = some (.deferred (some [])) → Q .normal a' W) :
    (Code.rangeFunc g ps assign body).wp P Q a V := by
  refine (wpIn_wide (n := n)).1 (wpIn_rangeFunc ?_)
  intro fn hfn
  obtain ⟨r, hr⟩ : ∃ r : Loop, r = { state := .ready, pending := none, fn, tmps := a.tmps, params := ps, assign, body, defers := V.heap.size } := ⟨_, rfl⟩
  obtain ⟨W1, hW1⟩ : ∃ W1, (V.alloc (.deferred (some []))).alloc (.loop r) = W1 := ⟨_, rfl⟩
  have hdep : Fence.wide.depth.isSome = true → 1 ≤ n := fun h => (by cases h)
  let K : List α → World → Prop := fun pre W => J pre W ∧ V.heap.size + 2 ≤ W.heap.size ∧ W.heap[V.heap.size + 1]? = some (.loop r) ∧ W.heap[V.heap.size]? = some (.deferred (some []))
  have hKst : ∀ pre W W', K pre W → Below W.heap.size W W' → K pre W' := fun pre W W' h hb =>
    ⟨stab _ _ _ h.1 (hb.mono (by have := h.2.1; omega)) (fun k o hk _ => (hb.block k (Array.getElem?_eq_some_iff.1 hk).1).trans hk), Nat.le_trans h.2.1 hb.size, (hb.block _ (by have := h.2.1; omega)).trans h.2.2.1, (hb.block _ (by have := h.2.1; omega)).trans h.2.2.2⟩
  have hK0 : K [] W1 := by
    have hs1 : (V.alloc (.deferred (some []))).heap.size = V.heap.size + 1 := by simp
    have hb01 : Below V.heap.size V W1 := by rw [← hW1]; exact ((Below.refl _ V).alloc (Nat.le_refl _) _).alloc (by simp) _
    refine ⟨stab _ _ _ h0 hb01 (fun k o hk _ => (hb01.block k (Array.getElem?_eq_some_iff.1 hk).1).trans hk), ?_, ?_, ?_⟩
    · rw [← hW1]; simp
    · rw [← hW1]
      show ((V.alloc (.deferred (some []))).heap.push _)[V.heap.size + 1]? = _
      rw [Array.getElem?_push, if_pos hs1.symm]
    · rw [← hW1]
      refine (Below.heap_alloc (V.alloc (.deferred (some []))) _ V.heap.size (by simp)).trans ?_
      show (V.heap.push _)[V.heap.size]? = _
      simp
  have hKset : ∀ pre W v, K pre W → K pre (W.setCell ⟨bs, 0, none⟩ v) := fun pre W v h =>
    ⟨hset _ _ _ h.1, by rw [World.size_setCell]; exact h.2.1, (Below.heap_setCell W _ _ _ (by show V.heap.size + 1 ≠ bs; omega)).trans h.2.2.1, (Below.heap_setCell W _ _ _ (by show V.heap.size ≠ bs; omega)).trans h.2.2.2⟩
  refine ⟨V.heap.size + 1, [{ target := .collected V.heap.size, args := #[] }], W1, { target := .fn (.func gf) lb, args := #[.func (.yield (V.heap.size + 1)) #[] #[]] }, W1, gf,
    #[.func (.yield (V.heap.size + 1)) #[] #[]] ++ lb, W1, ?_, ?_, (fun _ _ => trivial), ?_, hdep, ?_⟩
  · rw [← hW1, hr]; exact run_enterLoop_outer _ _ _ _ _
  · simp only [resolve, hg]
    simp [go_sem]
  · simp [invoke, go_sem, eg]
  · refine callsIn_wide.2 ((hit (V.heap.size + 1) K hKst hKset (fun _ _ h => h.1) ?_ W1 hK0 (by rw [← hW1]; exact (Below.heap_alloc (V.alloc (.deferred (some []))) _ bs (by simp; omega)).trans (Below.heap_alloc V _ bs hbs))).mono ?_)
    · intro pre x W hpre hK
      refine ⟨_, _, _, _, run_yield hK.2.2.1 (by rw [hr]; exact hps x), roundIn_of_wpIn trivial ?_⟩
      have hb := hbody pre x W (V.heap.size + 1) { tmps := (ps.zip (enc x)).foldl (fun t (p, v) => t.setIfInBounds p v) a.tmps, defers := [] } hpre hK.1 rfl hK.2.1 rfl rfl
      have e1 : r.params = ps := by rw [hr]
      have e2 : r.tmps = a.tmps := by rw [hr]
      have e3 : r.assign = assign := by rw [hr]
      have e4 : r.body = body := by rw [hr]
      have e5 : r.state = .ready := by rw [hr]
      have e6 : r.pending = none := by rw [hr]
      rw [e1, e2, e3, e4]
      refine wpIn_mono hb fun e a1 w1 hq => ?_
      cases e with
      | normal =>
        obtain ⟨hk1, hJ1, hgo⟩ := hq
        have hs0 := hK.2.1
        have hs1 := hk1.size
        have hl1 : w1.heap[V.heap.size + 1]? = some (.loop r) := (hk1.block _ (by omega)).trans hK.2.2.1
        have hd1 : w1.heap[V.heap.size]? = some (.deferred (some [])) := (hk1.block _ (by omega)).trans hK.2.2.2
        have hbs1 : w1.heap[bs]? = W.heap[bs]? := hk1.block _ (by omega)
        refine ⟨_, run_beginRound hl1 e5, ?_⟩
        have hb2 : Below V.heap.size w1 (w1.putObj (V.heap.size + 1) (.loop { r with state := .busy })) := below_put hl1 (by omega)
        have hl1s : V.heap.size + 1 < w1.heap.size := (Array.getElem?_eq_some_iff.1 hl1).1
        have hl2 : (w1.putObj (V.heap.size + 1) (.loop { r with state := .busy })).heap[V.heap.size + 1]? = some (.loop { r with state := .busy }) := World.putObj_heap_same hl1s
        have hd2 : (w1.putObj (V.heap.size + 1) (.loop { r with state := .busy })).heap[V.heap.size]? = some (.deferred (some [])) := (World.putObj_heap_other (by omega)).trans hd1
        have keep : ∀ (w : World) (o' : Obj) (q : Loop), w.heap[V.heap.size + 1]? = some (.loop q) → ∀ (k : Nat) (o : Obj), w.heap[k]? = some o → (∃ c t f, o = Obj.cells c t f) → (w.putObj (V.heap.size + 1) o').heap[k]? = some o := fun w o' q hq k o hk ho => by
          refine (World.putObj_heap_other (fun e => ?_)).trans hk
          obtain ⟨c, t, f, rfl⟩ := ho
          rw [e, hq] at hk
          cases hk
        have hs2 := hb2.size
        have hbs2 : (w1.putObj (V.heap.size + 1) (.loop { r with state := .busy })).heap[bs]? = w1.heap[bs]? := World.putObj_heap_other (by omega)
        have hgo2 := hgo _ { r with state := .busy } (by omega) hl2 hd2 (stab _ _ _ hJ1 hb2 (keep _ _ _ hl1))
        refine wpIn_mono hgo2 fun e a2 w3 hq3 => ?_
        obtain ⟨rfl, hJ3, hs3, hl3, hd3, hbs3⟩ := hq3
        have hback : ({ ({ r with state := .busy } : Loop) with state := if (none : Option Code).isNone = true then .ready else .done, pending := none } : Loop) = r := by cases r; simp_all
        have hend := run_endRound (P := P) none hl3
        rw [hback] at hend
        have hb4 : Below V.heap.size w3 (w3.putObj (V.heap.size + 1) (.loop r)) := below_put hl3 (by omega)
        have hs4 := hb4.size
        refine ⟨_, _, hend, rfl, ⟨stab _ _ _ hJ3 hb4 (keep _ _ _ hl3), by omega, World.putObj_heap_same (Array.getElem?_eq_some_iff.1 hl3).1, (World.putObj_heap_other (by omega)).trans hd3⟩, ?_⟩
        exact (World.putObj_heap_other (by omega)).trans (hbs3.trans (hbs2.trans hbs1))
      | _ => exact hq.elim
    · rintro e W' ⟨⟨v, rfl⟩, hK⟩
      have e5 : r.state = .ready := by rw [hr]
      have e6 : r.pending = none := by rw [hr]
      refine ⟨none, W'.putObj (V.heap.size + 1) (.loop { r with state := .exhausted }), (run_endLoop (P := P) hK.2.2.1 (by rw [e5]; decide)).trans (by rw [e6]), ?_⟩
      exact hend _ _ (stab _ _ _ hK.1 (below_put hK.2.2.1 (by omega)) (fun k o hk ho => (World.putObj_heap_other (fun e => by obtain ⟨c, t, f, rfl⟩ := ho; rw [e, hK.2.2.1] at hk; cases hk)).trans hk)) rfl rfl ((World.putObj_heap_other (by omega)).trans hK.2.2.2)
theorem run_loadVar_slice {w : World} {g : Nat} {T ty e : TypeId} {sl : Value} (hg : w.heap[g]? = some (.cells #[sl] T (0, 0))) (hu : P.underlying ty = some (.slice e)) : (loadVar ty ⟨g, 0, none⟩).run P w = .ok sl w := by
  have hc : w.cell? ⟨g, 0, none⟩ = some sl := by rw [Lib.cell_of_heap hg]; rfl
  simp [loadVar, Sem.run_bind, run_underlying hu, hc, Result.andThen, go_sem, isAgg]
theorem retB {n D : Nat} {fn : Func} {p u : Nat} {ty T e : TypeId} {g : Nat} {sl v : Value} {R : Ending → World → Prop} {a : Act} {w : World} (h : fn.results = #[.cell p ty, .tmp u]) (hd : a.defers = [{ target := .collected D, args := #[] }]) (hD : w.heap[D]? = some (.deferred (some [])))
    (ep : a.eval (.tmp p) = .pointer (some ⟨g, 0, none⟩)) (hb : w.heap[g]? = some (.cells #[sl] T (0, 0))) (hu : P.underlying ty = some (.slice e)) (ev : a.eval (.tmp u) = v)
    (hR : ∀ w1, Below D w w1 → (∀ (b : Nat) (o : Obj), w.heap[b]? = some o → o.isCells = true → w1.heap[b]? = some o) → R (.returned (.tuple #[sl, v])) w1) : bodyPostM Fence.wide n P fn R .ret a w := by
  show LeavesInM Fence.wide n P fn a.tmps R a.defers .returning w
  rw [hd]
  have hk : ∀ (b : Nat) (o : Obj), w.heap[b]? = some o → o.isCells = true → (w.putObj D (.deferred none)).heap[b]? = some o := fun b o hb hc => by
    refine (World.putObj_heap_other fun e => ?_).trans hb
    subst e
    rw [hD] at hb
    injection hb with hb
    subst hb
    cases hc
  refine ⟨by simp, .inl ⟨D, _, rfl, run_takeDeferred hD, ?_⟩⟩
  refine ⟨.tuple #[sl, v], ?_, hR _ (below_put hD (Nat.le_refl _)) hk⟩
  subst ev
  rw [results_cell_tmp h]
  have e1 : a.tmps.getD p undef = .pointer (some ⟨g, 0, none⟩) := ep
  rw [e1]
  have hl := run_loadVar_slice (P := P) (hk _ _ hb rfl) hu
  simp only [asAddr, Sem.run_pure, Result.andThen]
  rw [hl]
  rfl
end Go.Proofs.Eng
end
section
namespace Go.Proofs.EngG
open Go Go.RowKit Go.Proofs.Eng Go.Proofs.EngI
set_option linter.unusedSimpArgs false
set_option linter.unusedVariables false
variable {Fc : Fence} {nn : Nat} {P : Program} {ops : Array Oper} {Q : Exit → Act → World → Prop} {a : Act} {w : World} {i : Nat} {o : Oper}
theorem wanted_on {j d : Nat} {want : Bool} {oj : Oper} (hg : o.guard = some (j, want)) (hj : ops[j]? = some oj) (hd : oj.dst = some d) (hlt : d < a.tmps.size) (h : a.eval (.tmp d) = .bool want) : Region.wanted o (yielded ops a.tmps) = true := by
  have hy : yielded ops a.tmps j = some want := by
    unfold yielded
    rw [hj]
    have h2 : a.tmps[d]? = some (.bool want) := by
      have h3 : a.tmps.getD d undef = .bool want := h
      rw [Array.getD_eq_getD_getElem?] at h3
      rw [Array.getElem?_eq_getElem hlt] at h3 ⊢
      exact congrArg some h3
    simp [hd, h2]
  unfold Region.wanted
  rw [hg]
  simp [hy]
theorem wanted_off {j d : Nat} {want : Bool} {oj : Oper} (hg : o.guard = some (j, want)) (hj : ops[j]? = some oj) (hd : oj.dst = some d) (hlt : d < a.tmps.size) (h : a.eval (.tmp d) = .bool (!want)) : Region.wanted o (yielded ops a.tmps) = false := by
  have hy : yielded ops a.tmps j = some (!want) := by
    unfold yielded
    rw [hj]
    have h2 : a.tmps[d]? = some (.bool (!want)) := by
      have h3 : a.tmps.getD d undef = .bool (!want) := h
      rw [Array.getD_eq_getD_getElem?] at h3
      rw [Array.getElem?_eq_getElem hlt] at h3 ⊢
      exact congrArg some h3
    simp [hd, h2]
  unfold Region.wanted
  rw [hg]
  simp [hy]
theorem tail_one (hF : Free Fc) {c : Nat} {os : List Oper} (ho' : ops.toList.drop i = o :: os) (hg : Region.wanted o (yielded ops a.tmps) = true) (hcalm : calm o = true) (h : o.wp P a w (fun a' w' => wpOpsIn Fc nn P ops Q (List.range' (i + 1) c) a' w') Q) : wpOpsIn Fc nn P ops Q (List.range' i (c + 1)) a w := by
  have ho := drop_get ho'
  rw [List.range'_succ, wpOpsIn_cons]
  unfold wpOpIn
  rw [ho]
  simp only
  rw [if_pos hg]
  exact wp_in hF hcalm h
theorem tail_skip (hF : Free Fc) {c : Nat} {w1 : World} {os : List Oper} (ho' : ops.toList.drop i = o :: os) (hg : Region.wanted o (yielded ops a.tmps) = true) (hcalm : calm o = true) (hd : o.dst = none) (hrun : (execOp a.eval o).run P w = .ok .skip w1) (h : wpOpsIn Fc nn P ops Q (List.range' (i + 1) c) a w1) : wpOpsIn Fc nn P ops Q (List.range' i (c + 1)) a w := by
  refine tail_one hF ho' hg hcalm ?_
  unfold Oper.wp
  rw [hrun]
  show wpOpsIn Fc nn P ops Q _ (a.put o.dst undef) w1
  rw [hd]; exact h
theorem tail_val (hF : Free Fc) {c d n : Nat} {v : Value} {w1 : World} {os : List Oper} (ho' : ops.toList.drop i = o :: os) (hg : Region.wanted o (yielded ops a.tmps) = true) (hcalm : calm o = true) (hd : o.dst = some d) (hrun : (execOp a.eval o).run P w = .ok (.value v) w1) (hn : a.tmps.size = n) (hlt : decide (d < n) = true)
    (h : ∀ a' : Act, a'.defers = a.defers → a'.tmps.size = n → a'.eval (.tmp d) = v → (∀ t, (t != d) = true → a'.eval (.tmp t) = a.eval (.tmp t)) → wpOpsIn Fc nn P ops Q (List.range' (i + 1) c) a' w1) : wpOpsIn Fc nn P ops Q (List.range' i (c + 1)) a w := by
  refine tail_one hF ho' hg hcalm ?_
  unfold Oper.wp
  rw [hrun]
  show wpOpsIn Fc nn P ops Q _ (a.put o.dst v) w1
  rw [hd]
  have hlt := of_decide_eq_true hlt
  have hx : ∀ d', some d = some d' → d' < a.tmps.size := fun d' e => by injection e with e; omega
  refine h _ rfl (by simp [Act.put, hn]) ?_ fun t ht => ?_
  · show (a.put (some d) v).tmps.getD d undef = v
    rw [put_getD _ _ _ _ hx, if_pos rfl]
  · show (a.put (some d) v).tmps.getD t undef = _
    rw [put_getD _ _ _ _ hx, if_neg (fun e => by injection e with e; simp [e] at ht)]
    rfl
theorem tail_call (hF : Free Fc) {c d n : Nat} {f : FuncId} {fn : Func} {as_ : Array Operand} {ts : Array TypeId} {R : Value → World → Prop} {os : List Oper} (hf : P.funcs[f]? = some fn) (hname : (fn.name == "runtime.NumGoroutine") = false) (hb : fn.body.isNone = false)
    (ho' : ops.toList.drop i = o :: os) (hg : Region.wanted o (yielded ops a.tmps) = true) (hd : o.dst = some d) (hop : o.op = .call { callee := .value (.func f), args := as_, argTypes := ts }) (args : Array Value) (hargs : as_.map a.eval = args) (hn : a.tmps.size = n) (hlt : decide (d < n) = true)
    (hcall : Calls P f args w fun e w' => ∃ v, e = .returned v ∧ R v w')
    (h : ∀ (v : Value) (w1 : World) (a' : Act), R v w1 → a'.defers = a.defers → a'.tmps.size = n → a'.eval (.tmp d) = v → (∀ t, (t != d) = true → a'.eval (.tmp t) = a.eval (.tmp t)) → wpOpsIn Fc nn P ops Q (List.range' (i + 1) c) a' w1) : wpOpsIn Fc nn P ops Q (List.range' i (c + 1)) a w := by
  refine tail_one hF ho' hg (by unfold calm; rw [hop]) ?_
  have he := enters hf hname hb args w
  have hrun : (execOp a.eval o).run P w = .ok (.enter f args) w := by
    unfold execOp
    rw [hop]
    simp only [resolve, Deferred.ofValue, invoke, Act.eval, hargs]
    have h2 : (#[] : Array Value) ++ args ++ (#[] : Array Value) = args := by simp
    show Sem.run P (callFunc f (#[] ++ args ++ #[])) w = _
    rw [h2]
    exact he
  unfold Oper.wp
  rw [hrun]
  refine Calls.mono hcall ?_
  rintro e w' ⟨v, rfl, hR⟩
  show wpOpsIn Fc nn P ops Q _ (a.put o.dst v) w'
  rw [hd]
  have hlt := of_decide_eq_true hlt
  have hx : ∀ d', some d = some d' → d' < a.tmps.size := fun d' e => by injection e with e; omega
  refine h v w' _ hR rfl (by simp [Act.put, hn]) ?_ fun t ht => ?_
  · show (a.put (some d) v).tmps.getD d undef = v
    rw [put_getD _ _ _ _ hx, if_pos rfl]
  · show (a.put (some d) v).tmps.getD t undef = _
    rw [put_getD _ _ _ _ hx, if_neg (fun e => by injection e with e; simp [e] at ht)]
    rfl
theorem tail_off (hF : Free Fc) {c d n : Nat} {os : List Oper} (ho' : ops.toList.drop i = o :: os) (hg : Region.wanted o (yielded ops a.tmps) = false) (hd : o.dst = some d) (hn : a.tmps.size = n) (hlt : decide (d < n) = true)
    (h : ∀ a' : Act, a'.defers = a.defers → a'.tmps.size = n → (∀ t, (t != d) = true → a'.eval (.tmp t) = a.eval (.tmp t)) → wpOpsIn Fc nn P ops Q (List.range' (i + 1) c) a' w) : wpOpsIn Fc nn P ops Q (List.range' i (c + 1)) a w := by
  have ho := drop_get ho'
  rw [List.range'_succ, wpOpsIn_cons]
  unfold wpOpIn
  rw [ho]
  simp only
  rw [if_neg (by rw [hg]; simp)]
  refine ⟨fun f _ => hF.fn f, ?_⟩
  rw [hd]
  have hlt := of_decide_eq_true hlt
  have hx : ∀ d', some d = some d' → d' < a.tmps.size := fun d' e => by injection e with e; omega
  refine h _ rfl (by simp [Act.put, hn]) fun t ht => ?_
  show (a.put (some d) undef).tmps.getD t undef = _
  rw [put_getD _ _ _ _ hx, if_neg (fun e => by injection e with e; simp [e] at ht)]
  rfl
theorem tail_exs (hF : Free Fc) {c : Nat} {R : World → Prop} {os : List Oper} (ho' : ops.toList.drop i = o :: os) (hg : Region.wanted o (yielded ops a.tmps) = true) (hcalm : calm o = true) (hd : o.dst = none) (hrun : ∃ w1, (execOp a.eval o).run P w = .ok .skip w1 ∧ R w1)
    (h : ∀ w1, R w1 → wpOpsIn Fc nn P ops Q (List.range' (i + 1) c) a w1) : wpOpsIn Fc nn P ops Q (List.range' i (c + 1)) a w := by
  obtain ⟨w1, hr, hR⟩ := hrun
  exact tail_skip hF ho' hg hcalm hd hr (h w1 hR)
end Go.Proofs.EngG
namespace Go.Proofs.Eng
open Go Go.RowKit
set_option linter.unusedSimpArgs false
set_option linter.unusedVariables false
variable {P : Program} {a : Act} {w : World} {o : Oper}
theorem run_nil_el {x : Operand} {j : Nat} {v : Value} {n size : Nat} {xs : List Value} (hop : o.op = .nilCheck x) (h : a.eval x = elemPtr v j) (F : Reads w v n size xs) (hj : j < n * size) : (execOp a.eval o).run P w = .ok (.value (elemPtr v j)) w := by
  obtain ⟨hl, A, c, rfl, hc, hm, hx⟩ := F
  obtain ⟨ad, rfl, _⟩ := hx j _ (List.getElem?_eq_getElem (by omega))
  unfold execOp
  rw [hop]
  simp only [h, elemPtr]
  go_simp
theorem own_pop {B : Nat} {e : TypeId} {size : Nat} {v : Value} {n : Nat} {xs : List Value} (O : w.ownsRow B e size v (n + 1) xs) : w.ownsRow B e size (cutVal v 0 n size) n (xs.take (n * size)) := by
  obtain ⟨hl, h2⟩ := O
  rcases h2 with ⟨h0, h1⟩ | ⟨g, cap, cur, rfl, hg, hh, hn, hcap, hsz, htake⟩
  · cases h1
  · have e1 : cutVal (.slice (some ⟨g, 0, none⟩) (n + 1) cap) 0 n size = .slice (some ⟨g, 0, none⟩) n cap := by
      unfold cutVal
      simp only [Nat.sub_zero]
      split <;> simp [Addr.add]
    rw [e1]
    have hx : xs = xs.take (n * size) ++ xs.drop (n * size) := (List.take_append_drop _ _).symm
    refine ownsRow_pop (last := xs.drop (n * size)) (by rw [List.length_take, hl, Nat.succ_mul]; omega) ?_
    rw [← hx]
    exact ⟨hl, .inr ⟨g, cap, cur, rfl, hg, hh, hn, hcap, hsz, htake⟩⟩
theorem own_form {B : Nat} {e : TypeId} {size : Nat} {v : Value} {n : Nat} {xs : List Value} (O : w.ownsRow B e size v n xs) {j : Nat} (hj : j < n * size) : ∃ g cap, v = .slice (some ⟨g, 0, none⟩) n cap ∧ elemPtr v j = .pointer (some ⟨g, j, none⟩) := by
  obtain ⟨hl, h2⟩ := O
  rcases h2 with ⟨h0, h1⟩ | ⟨g, cap, cur, rfl, hg, hh, hn, hcap, hsz, htake⟩
  · rw [h1, Nat.zero_mul] at hj; cases hj
  · exact ⟨g, cap, rfl, by simp [elemPtr, Addr.add]; intro h; exact h.symm⟩
theorem run_store_el {B : Nat} {e T : TypeId} {size : Nat} {v u : Value} {n j : Nat} {xs : List Value} {x y : Operand} (hop : o.op = .store T x y) (hx : a.eval x = elemPtr v j) (hy : a.eval y = u) (O : w.ownsRow B e size v n xs) (hj : j < n * size) (hsize : (P.info? T).map (·.size) = some 1) (h1 : u.oneCell' = true) :
    ∃ w1, (execOp a.eval o).run P w = .ok .skip w1 ∧ w1.ownsRow B e size v n (xs.set j u) ∧ w.grownBy w1 v.ownBlock := by
  obtain ⟨g, cap, rfl, hp⟩ := own_form O hj
  rw [hp] at hx
  have hs := O.stored j u
  refine ⟨w.setCell ⟨g, j, none⟩ u, ?_, hs.1, hs.2⟩
  have hc := O.cellAt j hj
  have hlt : j < xs.length := by rw [O.1]; exact hj
  rw [List.getElem?_eq_getElem hlt] at hc
  have hf := O.frozenAt j
  have hz : (sizeOf T).run P w = .ok 1 w := by
    cases hq : P.info? T with
    | none => simp [hq] at hsize
    | some i => simp [hq] at hsize; simp [sizeOf, typeInfo, hq, hsize, Sem.run_bind, Sem.run_pure]
  have hr : ∀ m, (store ⟨g, j, none⟩ u m).run P w = .ok () (w.setCell ⟨g, j, none⟩ u) := fun m => by rw [run_store P w _ u m h1, hc]; simp [hf]
  unfold execOp
  rw [hop]
  simp only [hx, hy]
  cases u <;> first | (simp [Value.oneCell'] at h1; done) | (go_simp; done) | (go_simp; rw [hz]; go_simp; done) | (go_simp; try rw [hz]; try simp only [Sem.run_bind, Result.andThen_ok]; simp [hr])
end Go.Proofs.Eng
end
section
namespace Go.Proofs.Eng
open Go Go.RowKit
set_option linter.unusedSimpArgs false
set_option linter.unusedVariables false
structure Aft (S : Nat → Prop) (w w' : World) : Prop where
  os : w'.os = w.os
  tape : w'.tape = w.tape
  output : w'.output = w.output
  size : w.heap.size ≤ w'.heap.size
  far : ∀ b, b < w.heap.size → ¬ S b → w'.heap[b]? = w.heap[b]?
namespace Aft
variable {S S' : Nat → Prop} {w w' w1 w2 W : World}
theorem refl (S : Nat → Prop) (w : World) : Aft S w w := ⟨rfl, rfl, rfl, Nat.le_refl _, fun _ _ _ => rfl⟩
theorem step (h : Aft S W w) (hb : Below w.heap.size w w') : Aft S W w' := ⟨hb.os.trans h.os, hb.tape.trans h.tape, hb.output.trans h.output, Nat.le_trans h.size hb.size, fun b h1 h2 => (hb.block b (Nat.lt_of_lt_of_le h1 h.size)).trans (h.far b h1 h2)⟩
theorem trans (h : Aft S W w) (k : Aft S' w w') (hS : ∀ b, b < W.heap.size → S' b → S b) : Aft S W w' := ⟨k.os.trans h.os, k.tape.trans h.tape, k.output.trans h.output, Nat.le_trans h.size k.size, fun b h1 h2 => (k.far b (Nat.lt_of_lt_of_le h1 h.size) fun h3 => h2 (hS b h1 h3)).trans (h.far b h1 h2)⟩
theorem of_sets {g : Nat} {o : Obj} (s : Sets w w' g o) (hS : S g) : Aft S w w' := ⟨s.os, s.tape, s.output, by have := s.size; omega, fun b _ h => s.far b fun e => h (e ▸ hS)⟩
theorem of_grown {v : Value} (s : w.grownBy w' v.ownBlock) (hS : ∀ b, some b = v.ownBlock → S b) : Aft S w w' := ⟨s.os, s.tape, s.output, s.size, fun b hb h => s.block b hb fun e => h (hS b e)⟩
theorem sets {g : Nat} {o : Obj} (h : Aft S W w) (s : Sets w w' g o) (hS : g < W.heap.size → S g) : Aft S W w' := h.trans (S' := fun b => b = g) (of_sets s rfl) (by rintro b hb rfl; exact hS hb)
theorem grown {v : Value} (h : Aft S W w) (s : w.grownBy w' v.ownBlock) (hS : ∀ b, some b = v.ownBlock → b < W.heap.size → S b) : Aft S W w' := h.trans (S' := fun b => some b = v.ownBlock) (of_grown s fun _ => id) (fun b hb e => hS b e hb)
theorem mono (h : Aft S w w') (hS : ∀ b, b < w.heap.size → S b → S' b) : Aft S' w w' := ⟨h.os, h.tape, h.output, h.size, fun b hb k => h.far b hb fun e => k (hS b hb e)⟩
theorem below {B : Nat} (h : Aft S w w') (hb : Below B W w) (hW : B ≤ W.heap.size) (hS : ∀ b, S b → B ≤ b) : Below B W w' :=
  hb.trans ⟨h.os, h.tape, h.output, h.size, fun b hb' => h.far b (by have := hb.size; omega) fun e => by have := hS b e; omega⟩
theorem at_ {b : Nat} {o : Obj} (h : Aft S w w') (hk : w.heap[b]? = some o) (hS : ¬ S b) : w'.heap[b]? = some o := (h.far b (Array.getElem?_eq_some_iff.1 hk).1 hS).trans hk
theorem own {B : Nat} {e : TypeId} {size n : Nat} {v : Value} {xs : List Value} (h : Aft S w w') (O : w.ownsRow B e size v n xs) (hS : ∀ b, some b = v.ownBlock → ¬ S b) : w'.ownsRow B e size v n xs := by
  refine ⟨O.1, ?_⟩
  rcases O.2 with h2 | ⟨g, cap, cur, rfl, hg, hh, r⟩
  · exact .inl h2
  · exact .inr ⟨g, cap, cur, rfl, hg, h.at_ hh (hS g rfl), r⟩
end Aft
theorem ownB {w : World} {B : Nat} {e : TypeId} {size n : Nat} {v : Value} {xs : List Value} (O : w.ownsRow B e size v n xs) {b : Nat} (h : some b = v.ownBlock) : B ≤ b ∧ b < w.heap.size ∧ ∃ cs, w.heap[b]? = some (.cells cs e (0, 0)) := by
  rcases O.2 with ⟨rfl, _⟩ | ⟨g, cap, cur, rfl, hg, hh, _⟩
  · simp [Value.ownBlock] at h
  · simp [Value.ownBlock] at h; subst h
    exact ⟨hg, (Array.getElem?_eq_some_iff.1 hh).1, cur, hh⟩
def Nst (g : Nat) (o : Value) (b : Nat) : Prop := b = g ∨ some b = o.ownBlock
end Go.Proofs.Eng
namespace Go.Proofs.Eng
open Go Go.RowKit
variable {P : Program} {a : Act} {w : World} {o : Oper}
theorem box_ex {T : TypeId} {x : Operand} {v : Value} {cs : Array Value} (hop : o.op = .box T x) (h : a.eval x = v) (hc : v.cells = cs) : ∃ v' w1, (execOp a.eval o).run P w = .ok (.value v') w1 ∧ ∃ g, v' = .pointer (some ⟨g, 0, none⟩) ∧ w.heap.size ≤ g ∧ g < w1.heap.size ∧ w1.heap[g]? = some (.cells cs T (0, 0)) ∧ Below w.heap.size w w1 := by
  refine ⟨_, _, run_box hop h, w.heap.size, rfl, Nat.le_refl _, ?_, ?_, (Below.refl _ _).alloc (Nat.le_refl _) _⟩
  · show w.heap.size < (w.heap.push _).size; simp
  · show (w.heap.push _)[w.heap.size]? = _; rw [hc]; simp
theorem run_store_own {B : Nat} {e T : TypeId} {size : Nat} {v u : Value} {n j : Nat} {xs : List Value} {x y : Operand} (hop : o.op = .store T x y) (hx : a.eval x = elemPtr v j) (hy : a.eval y = u) (O : w.ownsRow B e size v n xs) (hj : j < n * size) (hsize : (P.info? T).map (·.size) = some 1) (h1 : u.oneCell' = true) :
    ∃ w1, (execOp a.eval o).run P w = .ok .skip w1 ∧ w1.ownsRow B e size v n (xs.set j u) ∧ w.grownBy w1 v.ownBlock := run_store_el hop hx hy O hj hsize h1
end Go.Proofs.Eng
namespace Go.Proofs.Eng
open Go Go.RowKit
variable {P : Program} {o : Oper} {a : Act} {w : World} {Q : Exit → Act → World → Prop} {D : Value → World → Prop}
theorem vr {v : Value} (hD : D v w) (hrun : (execOp a.eval o).run P w = .ok (.value v) w) : o.wp P a w (fun a' w' => ∃ v, a' = a.put o.dst v ∧ (o.dst ≠ none → D v w') ∧ Below w.heap.size w w') Q := val hrun (Below.refl _ _) hD
theorem run_nilb {x : Operand} {p : Addr} (hop : o.op = .nilCheck x) (h : a.eval x = .pointer (some p)) : (execOp a.eval o).run P w = .ok (.value (.pointer (some p))) w := by
  unfold execOp
  rw [hop]
  simp only [h]
  go_simp
theorem run_fieldb {T : TypeId} {x : Operand} {f g n : Nat} {fs : Array Field} (hop : o.op = .fieldAddr T x f) (hu : P.underlying T = some (.struct fs)) (k : Nat) (hf : (fs[f]?).map (fun fd => (fd.offset, ((P.info? fd.type).map (·.size)).isSome && decide ((P.info? fd.type).map (·.size) ≠ some 0))) = some (k, true)) (h : a.eval x = .pointer (some ⟨g, n, none⟩)) :
    (execOp a.eval o).run P w = .ok (.value (.pointer (some ⟨g, n + k, none⟩))) w := by
  cases hq : fs[f]? with
  | none => simp [hq] at hf
  | some fd =>
    cases hi : P.info? fd.type with
    | none => simp [hq, hi] at hf
    | some i =>
      simp [hq, hi] at hf
      obtain ⟨h1, h2⟩ := hf
      unfold execOp; rw [hop]
      simp only [h, Instr.fieldAt, Instr.sureAddr, Sem.run_bind, Sem.run_pure, Result.andThen_ok, run_underlying hu]
      simp [Sem.run_bind, Sem.run_pure, hq, fieldPlace, sizeOf, typeInfo, hi, h2, ← h1, Addr.add]
theorem run_loadb {ty T : TypeId} {x : Operand} {g n : Nat} {cs : Array Value} {u : Value} (hop : o.op = .load ty x) (h : a.eval x = .pointer (some ⟨g, n, none⟩)) (hk : w.heap[g]? = some (.cells cs T (0, 0))) (hu : cs[n]? = some u) (hagg : (isAgg ty).run P w = .ok false w) : (execOp a.eval o).run P w = .ok (.value u) w := by
  have hcell : w.cell? ⟨g, n, none⟩ = some u := (cells hk n).trans hu
  unfold execOp; rw [hop]
  simp only [h, Instr.loadAt, Instr.sureAddr, Sem.run_bind, Sem.run_pure, Result.andThen_ok, loadVar, hagg]
  simp [load, Sem.run, hcell]
end Go.Proofs.Eng
end
section
namespace Go.Proofs.YtgnmjaacnmkgnaaGreatDoor.X
open Go.RowKit Go.Shelf Go.Proofs Go.Proofs.YtgnmjaacnmkgnaaGreatDoorW.PrintWords Go.Proofs.YtgnmjaacnmkgnaaGreatDoorW.PrintLast Go.Proofs.YtgnmjaacnmkgnaaGreatDoorW.PrintMore
set_option linter.unusedVariables false
set_option linter.unusedSimpArgs false
namespace Evt
theorem opens_len (l : List (Int × Int)) : (opens l).length = l.length * 2 := Rwt.len encO_len l
theorem opens_snoc (l : List (Int × Int)) (t : Int × Int) : opens (l ++ [t]) = opens l ++ [.int .i64 t.1, .int .i64 t.2] := by unfold opens; rw [List.flatMap_append]; rfl
theorem top_0 (pre : List (Int × Int)) (t : Int × Int) : (opens (pre ++ [t]))[pre.length * 2 + 0]? = some (.int .i64 t.1) := by
  rw [opens_snoc, List.getElem?_append_right (by rw [opens_len]; omega), opens_len]; simp
theorem top_1 (pre : List (Int × Int)) (t : Int × Int) : (opens (pre ++ [t]))[pre.length * 2 + 1]? = some (.int .i64 t.2) := by
  rw [opens_snoc, List.getElem?_append_right (by rw [opens_len]; omega), opens_len]; simp
theorem last_ix (pre : List (Int × Int)) (t : Int × Int) (h : pre.length + 1 ≤ 9223372036854775807) : IntKind.i64.wrap (((pre ++ [t]).length : Int) - 1) = ((pre.length : Nat) : Int) := by
  rw [List.length_append, Eng.i64_id (by simp only [List.length_cons, List.length_nil]; omega) (by simp only [List.length_cons, List.length_nil]; omega)]; simp only [List.length_cons, List.length_nil]; omega
theorem own_popped {w : World} {B : Nat} {o : Value} {pre : List (Int × Int)} {t : Int × Int} (O : w.ownsRow B 71 2 o (pre ++ [t]).length (opens (pre ++ [t]))) : w.ownsRow B 71 2 (Eng.cutVal o 0 pre.length 2) pre.length (opens pre) := by
  have h := Eng.own_pop (n := pre.length) (by rw [List.length_append] at O; exact O)
  rw [opens_snoc, ← opens_len, List.take_left] at h; exact h
theorem own_more {w : World} {B : Nat} {o : Value} {pre : List (Int × Int)} {t : Int × Int} {m : Int} (O : w.ownsRow B 71 2 o (pre ++ [t]).length ((opens (pre ++ [t])).set (pre.length * 2 + 1) (.int .i64 m))) : w.ownsRow B 71 2 o (pre ++ [(t.1, m)]).length (opens (pre ++ [(t.1, m)])) := by
  have e : (opens (pre ++ [t])).set (pre.length * 2 + 1) (.int .i64 m) = opens (pre ++ [(t.1, m)]) := by
    rw [opens_snoc, opens_snoc, List.set_append_right _ _ (by rw [opens_len]; omega), opens_len]; simp
  rw [e] at O
  rw [List.length_append] at O ⊢; exact O
theorem own_snoc {w : World} {B : Nat} {o : Value} {pre : List (Int × Int)} {k : Int} (O : w.ownsRow B 71 2 o (pre.length + 1) (opens pre ++ [.int .i64 k, .int .i64 0])) : w.ownsRow B 71 2 o (pre ++ [(k, 0)]).length (opens (pre ++ [(k, 0)])) := by
  rw [opens_snoc, List.length_append]; exact O
theorem pop_snoc (pre : List (Int × Int)) (t : Int × Int) (k : Int) (may : Int → Bool) : pop (pre ++ [t]) k may = if t.1 = k ∧ may t.2 = true then some pre else none := by
  unfold pop; rw [List.getLast?_append]; simp
theorem more_snoc (pre : List (Int × Int)) (t : Int × Int) : more (pre ++ [t]) = pre ++ [(t.1, IntKind.i64.wrap (t.2 + 1))] := by
  unfold more; rw [List.getLast?_append]; simp
theorem takeF_0 (st : List (Int × Int)) : takeF st 0 = if st.isEmpty = true then some [(0, 0)] else none := by unfold takeF; rw [if_pos rfl]
theorem takeF_1 (st : List (Int × Int)) : takeF st 1 = pop st 0 (fun m => m == 1) := by unfold takeF; rw [if_neg (by decide), if_pos rfl]
theorem takeF_3 (st : List (Int × Int)) : takeF st 3 = pop st 2 (fun _ => true) := by unfold takeF; rw [if_neg (by decide), if_neg (by decide), if_pos rfl]
theorem takeF_5 (st : List (Int × Int)) : takeF st 5 = pop st 4 even := by unfold takeF; rw [if_neg (by decide), if_neg (by decide), if_neg (by decide), if_pos rfl]
theorem takeF_x (st : List (Int × Int)) (k : Int) (h0 : k ≠ 0) (h1 : k ≠ 1) (h3 : k ≠ 3) (h5 : k ≠ 5) : takeF st k = if st.isEmpty = true then none else if k = 2 ∨ k = 4 then some (more st ++ [(k, 0)]) else some (more st) := by
  unfold takeF; rw [if_neg h0, if_neg h1, if_neg h3, if_neg h5]
structure Is (B : Nat) (W : World) (g : Nat) (o : Value) (st : List (Int × Int)) (w' : World) (o' : Value) : Prop where
  box : w'.heap[g]? = some (.cells #[o'] 49 (0, 0))
  own : w'.ownsRow B 71 2 o' st.length (opens st)
  aft : Eng.Aft (Eng.Nst g o) W w'
end Evt
end Go.Proofs.YtgnmjaacnmkgnaaGreatDoor.X
namespace Go.Proofs.YtgnmjaacnmkgnaaGreatDoor.X
open Go.RowKit Go.Shelf Go.Proofs
namespace Evt
theorem Is.from {B g : Nat} {W0 W w' : World} {o o' : Value} {st : List (Int × Int)} (h : Eng.Aft (Eng.Nst g o) W0 W) (i : Is B W g o st w' o') : Is B W0 g o st w' o' := ⟨i.box, i.own, h.trans i.aft fun _ _ h => h⟩
theorem nst_lo {w W : World} {g : Nat} {o : Value} {n : Nat} {xs : List Value} (hlo : w.heap.size ≤ g) (O : W.ownsRow w.heap.size 71 2 o n xs) : ∀ b, Eng.Nst g o b → w.heap.size ≤ b := by
  rintro b (rfl | e)
  · exact hlo
  · exact (Eng.ownB O e).1
theorem own_sets_ne {w w' : World} {B g : Nat} {e : TypeId} {size n : Nat} {v : Value} {xs : List Value} {ob : Obj} (O : w.ownsRow B e size v n xs) (S : Eng.Sets w w' g ob) (h : ∀ b, some b = v.ownBlock → b ≠ g) : w'.ownsRow B e size v n xs :=
  (Eng.Aft.of_sets (S := fun b => b = g) S rfl).own O h
end Evt
end Go.Proofs.YtgnmjaacnmkgnaaGreatDoor.X
end
section
namespace Go.Proofs.YtgnmjaacnmkgnaaGreatDoor.X
open Go.RowKit Go.Shelf Go.Proofs Go.Proofs.YtgnmjaacnmkgnaaGreatDoorW.PrintWords Go.Proofs.YtgnmjaacnmkgnaaGreatDoorW.PrintLast Go.Proofs.YtgnmjaacnmkgnaaGreatDoorW.PrintMore
set_option linter.unusedVariables false
set_option linter.unusedSimpArgs false
attribute [local go_sem] max2_int min2_int max_two min_two
set_option maxHeartbeats 4000000 in
set_option maxRecDepth 100000 in
theorem Evt.last_nil (g : Nat) (o : Value) (B : Nat) (w : World) (hk : w.heap[g]? = some (.cells #[o] 49 (0, 0))) (hO : w.ownsRow B 71 2 o 0 (Evt.opens [])) : Calls Tryz.prog 41 #[.pointer (some ⟨g, 0, none⟩)] w fun e w' => ∃ h, e = .returned (.pointer (some ⟨h, 0, none⟩)) ∧ w.heap.size ≤ h ∧ h < w'.heap.size ∧ w'.heap[h]? = some (.cells #[.int .i64 (-1), .int .i64 0] 71 (0, 0)) ∧ Below w.heap.size w w' := by
 refine Eng.enter Tryz.func41 rfl fun act0 d0 s0 v0 => ?_
 have s0 : act0.tmps.size = 22 := s0
 have h0_0 : act0.eval (.tmp 0) = .pointer (some ⟨g, 0, none⟩) := v0 0 (by simp)
 clear v0
 have bl0 : Below w.heap.size w w := Below.refl _ _
 refine wp_seq ?_
 refine Eng.regionS (Eng.still [fun u_ => u_ = .pointer none]) (fun _ => .plain) 1 0 22 s0 rfl (by kernel_rfl) (Eng.still_stable _) (Or.inr (Eng.still_any _)) ?_ ?_
 ·refine .cons (fun _ => ?_) (.nil)
  ·exact Eng.plain rfl rfl fun a w' H => Eng.vr rfl (Eng.run_assign rfl (rfl : a.eval (.const (.pointer none)) = .pointer none))
 intro act1 w1 T
 have h0_1 := (T.rest 0 (by kernel_rfl)).trans h0_0
 have kg_1 := (T.below.block _ (Array.getElem?_eq_some_iff.1 hk).1).trans hk
 have lg_1 := Nat.lt_of_lt_of_le (Array.getElem?_eq_some_iff.1 hk).1 T.below.size
 have Fo_1 := Eng.Reads.below (Eng.Reads.of_own hO) T.below
 have d1 := T.defers.trans d0
 have s1 := T.size.trans s0
 have bl1 := bl0.trans (T.below.mono bl0.size)
 clear T
 refine Eng.tail_nil ?_
 first | show Code.wp Tryz.prog _ _ _ _ | skip
 refine wp_seq ?_
 refine wp_seq ?_
 obtain ⟨q8, Bq8⟩ : ∃ b : Bool, b = ((0 : Int) == 0) := ⟨_, rfl⟩
 refine Eng.regionS (Eng.still [fun u_ => u_ = .pointer (some ⟨g, 0, none⟩), fun u_ => u_ = .pointer (some ⟨g, 0, none⟩), fun u_ => u_ = .pointer (some ⟨g, 0, none⟩), fun u_ => u_ = o, fun u_ => u_ = .int .i64 (0 : Int), fun u_ => u_ = .bool q8]) (fun _ => .plain) 6 0 22 s1 rfl (by kernel_rfl) (Eng.still_stable _) (Or.inr (Eng.still_any _)) ?_ ?_
 ·refine .cons (fun _ => ?_) (.cons (fun _ => ?_) (.cons (fun _ => ?_) (.cons (fun _ => ?_) (.cons (fun _ => ?_) (.cons (fun _ => ?_) (.nil))))))
  ·exact Eng.plain rfl rfl fun a w' H => Eng.vr rfl (Eng.run_move rfl ((H.kept 0 (by kernel_rfl)).trans h0_1))
  ·exact Eng.plain rfl rfl fun a w' H => Eng.vr rfl (Eng.run_nilb rfl (H.dep 0 3 (by kernel_rfl) rfl))
  ·exact Eng.plain rfl rfl fun a w' H => Eng.vr rfl (Eng.run_fieldb rfl Tryz.underlying49 0 (by kernel_rfl) (H.dep 1 4 (by kernel_rfl) rfl))
  ·exact Eng.plain rfl rfl fun a w' H => Eng.vr rfl (Eng.run_loadb rfl (H.dep 2 5 (by kernel_rfl) rfl) ((H.below.block _ lg_1).trans kg_1) rfl (by kernel_rfl))
  ·exact Eng.plain rfl rfl fun a w' H => Eng.vr (v := .int .i64 (0 : Int)) rfl (Eng.run_len_sl rfl Tryz.underlying47 (show a.eval (.tmp 6) = o from (H.dep 3 6 (by kernel_rfl) rfl)) (Eng.Reads.below Fo_1 H.below))
  ·refine Eng.plain rfl rfl fun a w' H => ?_
   refine Eng.vr (v := .bool ((0 : Int) == 0)) (by show _ = Value.bool q8; rw [Bq8]) ?_
   have e0 : a.eval (.tmp 7) = .int .i64 (0 : Int) := (H.dep 4 7 (by kernel_rfl) rfl)
   have e1 : a.eval (.const (.int .i64 0)) = .int .i64 0 := (rfl : a.eval (.const (.int .i64 0)) = .int .i64 0)
   simp only [execOp, resolve, List.map_toArray, List.map_cons, List.map_nil, e0, e1]
   go_simp
   all_goals first | rfl | (simp; done) | (rw [Bool.eq_iff_iff]; simp; done) | omega | (split <;> first | (simp_all; done) | (split <;> simp_all; done)) | skip
 intro act2 w2 T
 have h8_2 : act2.eval (.tmp 8) = .bool q8 := T.done 5 8 rfl rfl
 have d2 := T.defers.trans d1
 have s2 := T.size.trans s1
 have bl2 := bl1.trans (T.below.mono bl1.size)
 clear T
 refine Eng.tail_nil ?_
 first | show Code.wp Tryz.prog _ _ _ _ | skip
 have n8 : q8 = true := by
  try simp only [Bq8]
  rfl
 refine wp_cond_true (h8_2.trans (by rw [n8])) ?_
 refine wp_seq ?_
 refine Eng.regionT (n := 3) rfl ?_
 refine Eng.tail_val (w1 := w2) (v := .agg #[.int .i64 (-1), .int .i64 0]) rfl rfl rfl ?_ s2 rfl ?_
 ·have e0 : act2.eval (.const (.int .i64 (-1))) = .int .i64 (-1) := (rfl : act2.eval (.const (.int .i64 (-1))) = .int .i64 (-1))
  simp only [execOp, resolve, List.map_toArray, List.map_cons, List.map_nil, e0]
  go_simp
  all_goals first | rfl | (simp; done) | (rw [Bool.eq_iff_iff]; simp; done) | omega | skip
 intro act3 d3 s3 hv hr
 have h9_3 : act3.eval (.tmp 9) = .agg #[.int .i64 (-1), .int .i64 0] := hv
 have d3 := d3.trans d2
 clear hv hr
 refine Eng.tail_ex rfl rfl rfl (Eng.box_ex (cs := #[.int .i64 (-1), .int .i64 0]) rfl h9_3 (by rfl)) s3 rfl fun v_4 w4 act4 R d4 s4 hv hr => ?_
 obtain ⟨g10_4, ev_4, rg_4, lg10_4, kg10_4, b_4⟩ := R
 have h10_4 : act4.eval (.tmp 10) = v_4 := hv
 have d4 := d4.trans d3
 clear hv hr
 have og10_4 : w.heap.size ≤ g10_4 := Nat.le_trans bl2.size rg_4
 have bl4 := bl2.trans (b_4.mono bl2.size)
 rw [ev_4] at h10_4
 refine Eng.tail_val rfl rfl rfl (Eng.run_assign rfl h10_4) s4 rfl fun act5 d5 s5 hv hr => ?_
 have h2_5 : act5.eval (.tmp 2) = .pointer (some ⟨g10_4, 0, none⟩) := hv
 have d5 := d5.trans d4
 clear hv hr
 refine Eng.tail_nil ?_
 first | show Code.wp Tryz.prog _ _ _ _ | skip
 refine wp_ret ?_
 repeat (first | refine Eng.in_ret ?_ | refine Eng.then_ret ?_)
 exact Eng.ret1 rfl d5 h2_5 ⟨_, rfl, og10_4, lg10_4, kg10_4, bl4⟩
set_option maxHeartbeats 4000000 in
set_option maxRecDepth 100000 in
theorem Evt.last_top (g : Nat) (o : Value) (B : Nat) (pre : List (Int × Int)) (t : Int × Int) (w : World) (hk : w.heap[g]? = some (.cells #[o] 49 (0, 0))) (hO : w.ownsRow B 71 2 o (pre ++ [t]).length (Evt.opens (pre ++ [t]))) : Calls Tryz.prog 41 #[.pointer (some ⟨g, 0, none⟩)] w fun e w' => e = .returned (Eng.elemPtr o (pre.length * 2)) ∧ Below w.heap.size w w' := by
 have hm := Eng.Reads.len_le (Eng.Reads.of_own hO)
 rw [List.length_append] at hm
 have hm1 : pre.length + 1 ≤ 9223372036854775807 := hm
 refine Eng.enter Tryz.func41 rfl fun act0 d0 s0 v0 => ?_
 have s0 : act0.tmps.size = 22 := s0
 have h0_0 : act0.eval (.tmp 0) = .pointer (some ⟨g, 0, none⟩) := v0 0 (by simp)
 clear v0
 have bl0 : Below w.heap.size w w := Below.refl _ _
 refine wp_seq ?_
 refine Eng.regionS (Eng.still [fun u_ => u_ = .pointer none]) (fun _ => .plain) 1 0 22 s0 rfl (by kernel_rfl) (Eng.still_stable _) (Or.inr (Eng.still_any _)) ?_ ?_
 ·refine .cons (fun _ => ?_) (.nil)
  ·exact Eng.plain rfl rfl fun a w' H => Eng.vr rfl (Eng.run_assign rfl (rfl : a.eval (.const (.pointer none)) = .pointer none))
 intro act1 w1 T
 have h0_1 := (T.rest 0 (by kernel_rfl)).trans h0_0
 have kg_1 := (T.below.block _ (Array.getElem?_eq_some_iff.1 hk).1).trans hk
 have lg_1 := Nat.lt_of_lt_of_le (Array.getElem?_eq_some_iff.1 hk).1 T.below.size
 have Fo_1 := Eng.Reads.below (Eng.Reads.of_own hO) T.below
 have d1 := T.defers.trans d0
 have s1 := T.size.trans s0
 have bl1 := bl0.trans (T.below.mono bl0.size)
 clear T
 refine Eng.tail_nil ?_
 first | show Code.wp Tryz.prog _ _ _ _ | skip
 refine wp_seq ?_
 refine wp_seq ?_
 obtain ⟨q8, Bq8⟩ : ∃ b : Bool, b = ((((pre ++ [t]).length : Nat) : Int) == 0) := ⟨_, rfl⟩
 refine Eng.regionS (Eng.still [fun u_ => u_ = .pointer (some ⟨g, 0, none⟩), fun u_ => u_ = .pointer (some ⟨g, 0, none⟩), fun u_ => u_ = .pointer (some ⟨g, 0, none⟩), fun u_ => u_ = o, fun u_ => u_ = .int .i64 (((pre ++ [t]).length : Nat) : Int), fun u_ => u_ = .bool q8]) (fun _ => .plain) 6 0 22 s1 rfl (by kernel_rfl) (Eng.still_stable _) (Or.inr (Eng.still_any _)) ?_ ?_
 ·refine .cons (fun _ => ?_) (.cons (fun _ => ?_) (.cons (fun _ => ?_) (.cons (fun _ => ?_) (.cons (fun _ => ?_) (.cons (fun _ => ?_) (.nil))))))
  ·exact Eng.plain rfl rfl fun a w' H => Eng.vr rfl (Eng.run_move rfl ((H.kept 0 (by kernel_rfl)).trans h0_1))
  ·exact Eng.plain rfl rfl fun a w' H => Eng.vr rfl (Eng.run_nilb rfl (H.dep 0 3 (by kernel_rfl) rfl))
  ·exact Eng.plain rfl rfl fun a w' H => Eng.vr rfl (Eng.run_fieldb rfl Tryz.underlying49 0 (by kernel_rfl) (H.dep 1 4 (by kernel_rfl) rfl))
  ·exact Eng.plain rfl rfl fun a w' H => Eng.vr rfl (Eng.run_loadb rfl (H.dep 2 5 (by kernel_rfl) rfl) ((H.below.block _ lg_1).trans kg_1) rfl (by kernel_rfl))
  ·exact Eng.plain rfl rfl fun a w' H => Eng.vr (v := .int .i64 (((pre ++ [t]).length : Nat) : Int)) rfl (Eng.run_len_sl rfl Tryz.underlying47 (show a.eval (.tmp 6) = o from (H.dep 3 6 (by kernel_rfl) rfl)) (Eng.Reads.below Fo_1 H.below))
  ·refine Eng.plain rfl rfl fun a w' H => ?_
   refine Eng.vr (v := .bool ((((pre ++ [t]).length : Nat) : Int) == 0)) (by show _ = Value.bool q8; rw [Bq8]) ?_
   have e0 : a.eval (.tmp 7) = .int .i64 (((pre ++ [t]).length : Nat) : Int) := (H.dep 4 7 (by kernel_rfl) rfl)
   have e1 : a.eval (.const (.int .i64 0)) = .int .i64 0 := (rfl : a.eval (.const (.int .i64 0)) = .int .i64 0)
   simp only [execOp, resolve, List.map_toArray, List.map_cons, List.map_nil, e0, e1]
   go_simp
   all_goals first | rfl | (simp; done) | (rw [Bool.eq_iff_iff]; simp; done) | omega | (split <;> first | (simp_all; done) | (split <;> simp_all; done)) | skip
 intro act2 w2 T
 have h0_2 := (T.rest 0 (by kernel_rfl)).trans h0_1
 have kg_2 := (T.below.block _ lg_1).trans kg_1
 have lg_2 := Nat.lt_of_lt_of_le lg_1 T.below.size
 have Fo_2 := Eng.Reads.below Fo_1 T.below
 have h8_2 : act2.eval (.tmp 8) = .bool q8 := T.done 5 8 rfl rfl
 have d2 := T.defers.trans d1
 have s2 := T.size.trans s1
 have bl2 := bl1.trans (T.below.mono bl1.size)
 clear T
 refine Eng.tail_nil ?_
 first | show Code.wp Tryz.prog _ _ _ _ | skip
 have n8 : q8 = false := by
  try simp only [Bq8]
  rw [beq_eq_false_iff_ne]; simp; omega
 refine wp_cond_false (h8_2.trans (by rw [n8])) ?_
 refine wp_skip ?_
 first | show Code.wp Tryz.prog _ _ _ _ | skip
 refine wp_seq ?_
 refine Eng.regionD (Eng.still [fun u_ => u_ = .pointer (some ⟨g, 0, none⟩), fun u_ => u_ = .pointer (some ⟨g, 0, none⟩), fun u_ => u_ = .pointer (some ⟨g, 0, none⟩), fun u_ => u_ = o, fun u_ => u_ = .pointer (some ⟨g, 0, none⟩), fun u_ => u_ = .pointer (some ⟨g, 0, none⟩), fun u_ => u_ = .pointer (some ⟨g, 0, none⟩), fun u_ => u_ = o, fun u_ => u_ = .int .i64 (((pre ++ [t]).length : Nat) : Int), fun u_ => u_ = .int .i64 (IntKind.i64.wrap ((((pre ++ [t]).length : Nat) : Int) - 1)), fun u_ => u_ = Eng.elemPtr o (pre.length * 2), fun u_ => u_ = Eng.elemPtr o (pre.length * 2)]) (fun _ => .plain) 12 0 22 (by kernel_rfl) s2 rfl (by kernel_rfl) (Eng.still_stable _) (Or.inr (Eng.still_any _)) ?_ ?_
 ·refine .cons (fun _ => ?_) (.cons (fun _ => ?_) (.cons (fun _ => ?_) (.cons (fun _ => ?_) (.cons (fun _ => ?_) (.cons (fun _ => ?_) (.cons (fun _ => ?_) (.cons (fun _ => ?_) (.cons (fun _ => ?_) (.cons (fun _ => ?_) (.cons (fun _ => ?_) (.cons (fun _ => ?_) (.nil))))))))))))
  ·exact Eng.plain rfl rfl fun a w' H => Eng.vr rfl (Eng.run_move rfl ((H.kept 0 (by kernel_rfl)).trans h0_2))
  ·exact Eng.plain rfl rfl fun a w' H => Eng.vr rfl (Eng.run_nilb rfl (H.dep 0 11 (by kernel_rfl) rfl))
  ·exact Eng.plain rfl rfl fun a w' H => Eng.vr rfl (Eng.run_fieldb rfl Tryz.underlying49 0 (by kernel_rfl) (H.dep 1 12 (by kernel_rfl) rfl))
  ·exact Eng.plain rfl rfl fun a w' H => Eng.vr rfl (Eng.run_loadb rfl (H.dep 2 13 (by kernel_rfl) rfl) ((H.below.block _ lg_2).trans kg_2) rfl (by kernel_rfl))
  ·exact Eng.plain rfl rfl fun a w' H => Eng.vr rfl (Eng.run_move rfl ((H.kept 0 (by kernel_rfl)).trans h0_2))
  ·exact Eng.plain rfl rfl fun a w' H => Eng.vr rfl (Eng.run_nilb rfl (H.dep 4 15 (by kernel_rfl) rfl))
  ·exact Eng.plain rfl rfl fun a w' H => Eng.vr rfl (Eng.run_fieldb rfl Tryz.underlying49 0 (by kernel_rfl) (H.dep 5 16 (by kernel_rfl) rfl))
  ·exact Eng.plain rfl rfl fun a w' H => Eng.vr rfl (Eng.run_loadb rfl (H.dep 6 17 (by kernel_rfl) rfl) ((H.below.block _ lg_2).trans kg_2) rfl (by kernel_rfl))
  ·exact Eng.plain rfl rfl fun a w' H => Eng.vr (v := .int .i64 (((pre ++ [t]).length : Nat) : Int)) rfl (Eng.run_len_sl rfl Tryz.underlying47 (show a.eval (.tmp 18) = o from (H.dep 7 18 (by kernel_rfl) rfl)) (Eng.Reads.below Fo_2 H.below))
  ·refine Eng.plain rfl rfl fun a w' H => ?_
   refine Eng.vr (v := .int .i64 (IntKind.i64.wrap ((((pre ++ [t]).length : Nat) : Int) - 1))) rfl ?_
   have e0 : a.eval (.tmp 19) = .int .i64 (((pre ++ [t]).length : Nat) : Int) := (H.dep 8 19 (by kernel_rfl) rfl)
   have e1 : a.eval (.const (.int .i64 1)) = .int .i64 1 := (rfl : a.eval (.const (.int .i64 1)) = .int .i64 1)
   simp only [execOp, resolve, List.map_toArray, List.map_cons, List.map_nil, e0, e1]
   go_simp
   all_goals first | rfl | (simp; done) | (rw [Bool.eq_iff_iff]; simp; done) | omega | (split <;> first | (simp_all; done) | (split <;> simp_all; done)) | skip
  ·exact Eng.plain rfl rfl fun a w' H => Eng.vr (v := Eng.elemPtr o (pre.length * 2)) rfl (Eng.run_index_sl rfl Tryz.underlying47 (by kernel_rfl) (show a.eval (.tmp 14) = o from (H.dep 3 14 (by kernel_rfl) rfl)) ((show a.eval (.tmp 20) = .int .i64 (IntKind.i64.wrap ((((pre ++ [t]).length : Nat) : Int) - 1)) from (H.dep 9 20 (by kernel_rfl) rfl)).trans (congrArg (Value.int _) (show IntKind.i64.wrap ((((pre ++ [t]).length : Nat) : Int) - 1) = ((pre.length : Nat) : Int) from by first | exact Evt.last_ix pre t hm1 | (simp; done)))) (Eng.Reads.below Fo_2 H.below) (by first | exact Evt.last_ix pre t hm1 | (simp; done)) rfl)
  ·exact Eng.plain rfl rfl fun a w' H => Eng.vr rfl (Eng.run_assign rfl (H.dep 10 21 (by kernel_rfl) rfl))
 intro act3 w3 T
 have h2_3 : act3.eval (.tmp 2) = Eng.elemPtr o (pre.length * 2) := T.done 11 2 rfl rfl
 have d3 := T.defers.trans d2
 have bl3 := bl2.trans (T.below.mono bl2.size)
 clear T
 refine Eng.tail_nil ?_
 first | show Code.wp Tryz.prog _ _ _ _ | skip
 refine wp_ret ?_
 repeat (first | refine Eng.in_ret ?_ | refine Eng.then_ret ?_)
 exact Eng.ret1 rfl d3 h2_3 ⟨rfl, bl3⟩
end Go.Proofs.YtgnmjaacnmkgnaaGreatDoor.X
end
section
namespace Go.Proofs.YtgnmjaacnmkgnaaGreatDoor.X
open Go.RowKit Go.Shelf Go.Proofs Go.Proofs.YtgnmjaacnmkgnaaGreatDoorW.PrintWords Go.Proofs.YtgnmjaacnmkgnaaGreatDoorW.PrintLast Go.Proofs.YtgnmjaacnmkgnaaGreatDoorW.PrintMore
set_option linter.unusedVariables false
set_option linter.unusedSimpArgs false
attribute [local go_sem] max2_int min2_int max_two min_two
set_option maxHeartbeats 4000000 in
set_option maxRecDepth 100000 in
theorem Evt.may69_calls (m : Int) (w : World) : Calls Tryz.prog 44 #[.int .i64 m] w fun e w' => e = .returned (.bool (m == 1)) ∧ Below w.heap.size w w' := by
 refine Eng.enter Tryz.func44 rfl fun act0 d0 s0 v0 => ?_
 have s0 : act0.tmps.size = 5 := s0
 have h0_0 : act0.eval (.tmp 0) = .int .i64 m := v0 0 (by simp)
 clear v0
 have bl0 : Below w.heap.size w w := Below.refl _ _
 refine wp_seq ?_
 refine Eng.regionS (Eng.still [fun u_ => u_ = .bool false]) (fun _ => .plain) 1 0 5 s0 rfl (by kernel_rfl) (Eng.still_stable _) (Or.inr (Eng.still_any _)) ?_ ?_
 ·refine .cons (fun _ => ?_) (.nil)
  ·exact Eng.plain rfl rfl fun a w' H => Eng.vr rfl (Eng.run_assign rfl (rfl : a.eval (.const (.bool false)) = .bool false))
 intro act1 w1 T
 have h0_1 := (T.rest 0 (by kernel_rfl)).trans h0_0
 have d1 := T.defers.trans d0
 have s1 := T.size.trans s0
 have bl1 := bl0.trans (T.below.mono bl0.size)
 clear T
 refine Eng.tail_nil ?_
 first | show Code.wp Tryz.prog _ _ _ _ | skip
 refine wp_seq ?_
 obtain ⟨q4, Bq4⟩ : ∃ b : Bool, b = (m == 1) := ⟨_, rfl⟩
 refine Eng.regionS (Eng.still [fun u_ => u_ = .int .i64 m, fun u_ => u_ = .bool q4, fun u_ => u_ = .bool q4]) (fun _ => .plain) 3 0 5 s1 rfl (by kernel_rfl) (Eng.still_stable _) (Or.inr (Eng.still_any _)) ?_ ?_
 ·refine .cons (fun _ => ?_) (.cons (fun _ => ?_) (.cons (fun _ => ?_) (.nil)))
  ·exact Eng.plain rfl rfl fun a w' H => Eng.vr rfl (Eng.run_move rfl ((H.kept 0 (by kernel_rfl)).trans h0_1))
  ·refine Eng.plain rfl rfl fun a w' H => ?_
   refine Eng.vr (v := .bool (m == 1)) (by show _ = Value.bool q4; rw [Bq4]) ?_
   have e0 : a.eval (.tmp 3) = .int .i64 m := (H.dep 0 3 (by kernel_rfl) rfl)
   have e1 : a.eval (.const (.int .i64 1)) = .int .i64 1 := (rfl : a.eval (.const (.int .i64 1)) = .int .i64 1)
   simp only [execOp, resolve, List.map_toArray, List.map_cons, List.map_nil, e0, e1]
   go_simp
   all_goals first | rfl | (simp; done) | (rw [Bool.eq_iff_iff]; simp; done) | omega | (split <;> first | (simp_all; done) | (split <;> simp_all; done)) | skip
  ·exact Eng.plain rfl rfl fun a w' H => Eng.vr rfl (Eng.run_assign rfl (H.dep 1 4 (by kernel_rfl) rfl))
 intro act2 w2 T
 have h2_2 : act2.eval (.tmp 2) = .bool q4 := T.done 2 2 rfl rfl
 have d2 := T.defers.trans d1
 have bl2 := bl1.trans (T.below.mono bl1.size)
 clear T
 refine Eng.tail_nil ?_
 first | show Code.wp Tryz.prog _ _ _ _ | skip
 refine wp_ret ?_
 repeat (first | refine Eng.in_ret ?_ | refine Eng.then_ret ?_)
 exact Eng.ret1 rfl d2 (h2_2.trans (by first | rfl | (rw [Bq4]; done) | (rw [Bq4]; rfl))) ⟨rfl, bl2⟩
set_option maxHeartbeats 4000000 in
set_option maxRecDepth 100000 in
theorem Evt.may70_calls (m : Int) (w : World) : Calls Tryz.prog 45 #[.int .i64 m] w fun e w' => e = .returned (.bool (true)) ∧ Below w.heap.size w w' := by
 refine Eng.enter Tryz.func45 rfl fun act0 d0 s0 v0 => ?_
 have s0 : act0.tmps.size = 3 := s0
 clear v0
 have bl0 : Below w.heap.size w w := Below.refl _ _
 refine wp_seq ?_
 refine Eng.regionS (Eng.still [fun u_ => u_ = .bool false]) (fun _ => .plain) 1 0 3 s0 rfl (by kernel_rfl) (Eng.still_stable _) (Or.inr (Eng.still_any _)) ?_ ?_
 ·refine .cons (fun _ => ?_) (.nil)
  ·exact Eng.plain rfl rfl fun a w' H => Eng.vr rfl (Eng.run_assign rfl (rfl : a.eval (.const (.bool false)) = .bool false))
 intro act1 w1 T
 have d1 := T.defers.trans d0
 have s1 := T.size.trans s0
 have bl1 := bl0.trans (T.below.mono bl0.size)
 clear T
 refine Eng.tail_nil ?_
 first | show Code.wp Tryz.prog _ _ _ _ | skip
 refine wp_seq ?_
 refine Eng.regionS (Eng.still [fun u_ => u_ = .bool true]) (fun _ => .plain) 1 0 3 s1 rfl (by kernel_rfl) (Eng.still_stable _) (Or.inr (Eng.still_any _)) ?_ ?_
 ·refine .cons (fun _ => ?_) (.nil)
  ·exact Eng.plain rfl rfl fun a w' H => Eng.vr rfl (Eng.run_assign rfl (rfl : a.eval (.const (.bool true)) = .bool true))
 intro act2 w2 T
 have h2_2 : act2.eval (.tmp 2) = .bool true := T.done 0 2 rfl rfl
 have d2 := T.defers.trans d1
 have bl2 := bl1.trans (T.below.mono bl1.size)
 clear T
 refine Eng.tail_nil ?_
 first | show Code.wp Tryz.prog _ _ _ _ | skip
 refine wp_ret ?_
 repeat (first | refine Eng.in_ret ?_ | refine Eng.then_ret ?_)
 exact Eng.ret1 rfl d2 (h2_2.trans (by first | rfl | (rw [id]; done) | (rw [id]; rfl))) ⟨rfl, bl2⟩
set_option maxHeartbeats 4000000 in
set_option maxRecDepth 100000 in
theorem Evt.may71_calls (m : Int) (w : World) : Calls Tryz.prog 46 #[.int .i64 m] w fun e w' => e = .returned (.bool (Evt.even m)) ∧ Below w.heap.size w w' := by
 refine Eng.enter Tryz.func46 rfl fun act0 d0 s0 v0 => ?_
 have s0 : act0.tmps.size = 6 := s0
 have h0_0 : act0.eval (.tmp 0) = .int .i64 m := v0 0 (by simp)
 clear v0
 have bl0 : Below w.heap.size w w := Below.refl _ _
 refine wp_seq ?_
 refine Eng.regionS (Eng.still [fun u_ => u_ = .bool false]) (fun _ => .plain) 1 0 6 s0 rfl (by kernel_rfl) (Eng.still_stable _) (Or.inr (Eng.still_any _)) ?_ ?_
 ·refine .cons (fun _ => ?_) (.nil)
  ·exact Eng.plain rfl rfl fun a w' H => Eng.vr rfl (Eng.run_assign rfl (rfl : a.eval (.const (.bool false)) = .bool false))
 intro act1 w1 T
 have h0_1 := (T.rest 0 (by kernel_rfl)).trans h0_0
 have d1 := T.defers.trans d0
 have s1 := T.size.trans s0
 have bl1 := bl0.trans (T.below.mono bl0.size)
 clear T
 refine Eng.tail_nil ?_
 first | show Code.wp Tryz.prog _ _ _ _ | skip
 refine wp_seq ?_
 obtain ⟨q5, Bq5⟩ : ∃ b : Bool, b = ((Int.tmod m 2) == 0) := ⟨_, rfl⟩
 refine Eng.regionS (Eng.still [fun u_ => u_ = .int .i64 m, fun u_ => u_ = .int .i64 (Int.tmod m 2), fun u_ => u_ = .bool q5, fun u_ => u_ = .bool q5]) (fun _ => .plain) 4 0 6 s1 rfl (by kernel_rfl) (Eng.still_stable _) (Or.inr (Eng.still_any _)) ?_ ?_
 ·refine .cons (fun _ => ?_) (.cons (fun _ => ?_) (.cons (fun _ => ?_) (.cons (fun _ => ?_) (.nil))))
  ·exact Eng.plain rfl rfl fun a w' H => Eng.vr rfl (Eng.run_move rfl ((H.kept 0 (by kernel_rfl)).trans h0_1))
  ·refine Eng.plain rfl rfl fun a w' H => ?_
   refine Eng.vr (v := .int .i64 (Int.tmod m 2)) rfl ?_
   have e0 : a.eval (.tmp 3) = .int .i64 m := (H.dep 0 3 (by kernel_rfl) rfl)
   have e1 : a.eval (.const (.int .i64 2)) = .int .i64 2 := (rfl : a.eval (.const (.int .i64 2)) = .int .i64 2)
   simp only [execOp, resolve, List.map_toArray, List.map_cons, List.map_nil, e0, e1]
   go_simp
   try rfl
  ·refine Eng.plain rfl rfl fun a w' H => ?_
   refine Eng.vr (v := .bool ((Int.tmod m 2) == 0)) (by show _ = Value.bool q5; rw [Bq5]) ?_
   have e0 : a.eval (.tmp 4) = .int .i64 (Int.tmod m 2) := (H.dep 1 4 (by kernel_rfl) rfl)
   have e1 : a.eval (.const (.int .i64 0)) = .int .i64 0 := (rfl : a.eval (.const (.int .i64 0)) = .int .i64 0)
   simp only [execOp, resolve, List.map_toArray, List.map_cons, List.map_nil, e0, e1]
   go_simp
   all_goals first | rfl | (simp; done) | (rw [Bool.eq_iff_iff]; simp; done) | omega | (split <;> first | (simp_all; done) | (split <;> simp_all; done)) | skip
  ·exact Eng.plain rfl rfl fun a w' H => Eng.vr rfl (Eng.run_assign rfl (H.dep 2 5 (by kernel_rfl) rfl))
 intro act2 w2 T
 have h2_2 : act2.eval (.tmp 2) = .bool q5 := T.done 3 2 rfl rfl
 have d2 := T.defers.trans d1
 have bl2 := bl1.trans (T.below.mono bl1.size)
 clear T
 refine Eng.tail_nil ?_
 first | show Code.wp Tryz.prog _ _ _ _ | skip
 refine wp_ret ?_
 repeat (first | refine Eng.in_ret ?_ | refine Eng.then_ret ?_)
 exact Eng.ret1 rfl d2 (h2_2.trans (by first | rfl | (rw [Bq5]; done) | (rw [Bq5]; rfl))) ⟨rfl, bl2⟩
end Go.Proofs.YtgnmjaacnmkgnaaGreatDoor.X
end
