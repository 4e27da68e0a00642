/- Words and walks that the row of ComposeNames needs: printed by programs, and plain laws. -/
import Derived.Test.YtgnmjaacnmkgnaaDoorM13
import Derived.Test.YtgnmjaacnmkgnaaDoorM7
import Derived.Test.YtgnmjaacnmkgnaaDoorM3
import Derived.Test.YtgnmjaacnmkgnaaDoorM6
import Derived.Test.YtgnmjaacnmkgnaaDoorM2
import Derived.Test.YtgnmjaacnmkgnaaDoorM12
namespace Go.Proofs.YtgnmjaacnmkgnaaDoorW.PrintWords
end Go.Proofs.YtgnmjaacnmkgnaaDoorW.PrintWords
namespace Go.Proofs.YtgnmjaacnmkgnaaDoorW.PrintLast
end Go.Proofs.YtgnmjaacnmkgnaaDoorW.PrintLast
namespace Go.Proofs.YtgnmjaacnmkgnaaDoorW.PrintMore
end Go.Proofs.YtgnmjaacnmkgnaaDoorW.PrintMore
section
namespace Go.Proofs.YtgnmjaacnmkgnaaDoor.X
open Go.RowKit Go.Shelf Go.Proofs Go.Maps Impl
set_option linter.unusedVariables false
set_option linter.unusedSimpArgs false
namespace Tm
open Dc Evt
theorem r1_len (l : List UInt8) : (R1 l).length ≤ 5 := by
  unfold R1
  split
  · decide
  · split
    · decide
    · split
      · decide
      · split
        · decide
        · split
          · decide
          · split <;> decide
theorem tagL_len (k : Int) (t s : List UInt8) (p : Bool) : (tagL k t s p).1.length ≤ t.length + 5 := by
  have hn : ∀ q : List UInt8, q.length ≤ 5 → (namedL t q).1.length ≤ t.length + 5 := fun q hq => by
    unfold namedL
    split
    · simp only; omega
    · split
      · simp only; omega
      · simp
  unfold tagL
  split
  · exact hn _ (by decide)
  · split
    · exact hn _ (by decide)
    · split
      · split
        · split
          · have := r1_len s; simp only; omega
          · simp [bStr]
        · split
          · simp only; omega
          · simp
      · simp
theorem tagF_size (x : Ev) : (tagF x).1.size ≤ x.tag.size + 5 := tagL_len x.kind x.tag.data.toList x.text.data.toList x.plain
def Sz (nd : List Nd) : Prop := ∀ n ∈ nd, n.tag.size ≤ 10000 ∧ n.text.size ≤ 10000
theorem Sz.kid {d : Dc} {a : Nat} (h : Sz d.nodes) : Sz (kidF d a).1.nodes := by
  unfold kidF
  split
  · exact h
  · split
    · exact h
    · rename_i o _ _
      intro n hn
      rcases List.mem_or_eq_of_mem_set hn with hn | rfl
      · exact h n hn
      · simp only
        by_cases ho : o.toNat < d.nodes.length
        · have hm : d.nodes.getD o.toNat default ∈ d.nodes := by rw [List.getD_eq_getElem?_getD, List.getElem?_eq_getElem ho]; exact List.getElem_mem ho
          exact h _ hm
        · have e : d.nodes.getD o.toNat default = default := by rw [List.getD_eq_getElem?_getD, List.getElem?_eq_none (by omega)]; rfl
          rw [e]; exact ⟨by decide, by decide⟩
theorem Sz.step {d : Dc} {x : Ev} (h : Sz d.nodes) (h1 : x.tag.size ≤ 2000) (h2 : x.text.size ≤ 2000) : Sz (stepF d x).1.nodes := by
  unfold stepF
  split
  · intro n hn; cases hn
  · split
    · exact h
    · split
      · exact h
      · split
        · show Sz (aliasF d x).1.nodes
          unfold aliasF
          split
          · exact h
          · exact h.kid
        · show Sz (nodeF d x).1.nodes
          unfold nodeF
          split
          · exact h
          · split
            · have hk : Sz (kidF ⟨d.nodes ++ [⟨kindN x.kind, (tagF x).1, x.text, []⟩], d.opn, nameF d x⟩ d.nodes.length).1.nodes := by
                refine Sz.kid fun n hn => ?_
                rcases List.mem_append.1 hn with hn | hn
                · exact h n hn
                · rw [List.mem_singleton.1 hn]
                  have := tagF_size x
                  exact ⟨by simp only; omega, by simp only; omega⟩
              simp only
              split
              · exact hk
              · exact hk
            · exact h
theorem twall (l : List Ev) : ∀ (d : Dc) (k : Nat), Dc.Good d k → Sz d.nodes → k + l.length ≤ 100000 → (∀ x ∈ l, x.tag.size ≤ 2000 ∧ x.text.size ≤ 2000) → TwAll d l := by
  induction l with
  | nil => intro d k _ _ _ _; trivial
  | cons x t ih =>
    intro d k hG hS hl hx
    simp only [List.length_cons] at hl
    refine ⟨fun _ B w h opn names gv ov mb hnd hR => ?_, ih _ (k + 1) (stepF_good hG) (hS.step (hx x (List.mem_cons_self ..)).1 (hx x (List.mem_cons_self ..)).2) (by omega) fun y hy => hx y (List.mem_cons_of_mem _ hy)⟩
    rw [← hnd]
    refine twice_small B mb gv ov h opn names w hR ?_
    rw [hnd]
    intro n hn
    obtain ⟨j, hj, rfl⟩ := List.mem_iff_getElem.1 hn
    have h1 := hG.kd j hj
    rw [List.getD_eq_getElem?_getD, List.getElem?_eq_getElem hj] at h1
    have h2 := hS _ hn
    simp only [Option.getD_some] at h1
    exact ⟨by omega, by omega, by omega⟩
theorem twall0 {l : List Ev} (hl : l.length ≤ 100000) (hx : ∀ x ∈ l, x.tag.size ≤ 2000 ∧ x.text.size ≤ 2000) : TwAll ⟨[], [], []⟩ l := twall l _ 0 (Dc.Good.nil 0) (fun n hn => by cases hn) (by omega) hx
end Tm
end Go.Proofs.YtgnmjaacnmkgnaaDoor.X
end
section
namespace Go.Proofs.YtgnmjaacnmkgnaaDoor.X
open Go.RowKit Go.Shelf Go.Proofs Go.Proofs.YtgnmjaacnmkgnaaDoorW.PrintWords Go.Proofs.YtgnmjaacnmkgnaaDoorW.PrintLast Go.Proofs.YtgnmjaacnmkgnaaDoorW.PrintMore
set_option linter.unusedVariables false
set_option linter.unusedSimpArgs false
attribute [local go_sem] max2_int min2_int max_two min_two
set_option maxHeartbeats 4000000 in
set_option maxRecDepth 100000 in
theorem Dc.clone_calls (v : Value) (l : List Int) (w : World) (hx : Eng.Reads w v l.length 1 (Dc.ints l)) (hl : l.length ≤ 2000000) : Calls Tryd.prog 42 #[v] w fun e w' => ∃ v', e = .returned v' ∧ w'.ownsRow w.heap.size 3 1 v' l.length (Dc.ints l) ∧ Below w.heap.size w w' := by
 refine Eng.enter Tryd.func42 rfl fun act0 d0 s0 v0 => ?_
 have s0 : act0.tmps.size = 8 := s0
 have h0_0 : act0.eval (.tmp 0) = v := v0 0 (by simp)
 clear v0
 have bl0 : Below w.heap.size w w := Below.refl _ _
 refine wp_seq ?_
 refine Eng.rS [.slice none 0 0] (fun _ => .plain) 1 0 s0 ?_ ?_
 ·refine .c ?_ (.nil)
  ·exact Eng.pv fun a w' H => Eng.vr rfl (Eng.run_assign rfl (rfl : a.eval (.const (.slice none 0 0)) = .slice none 0 0))
 intro act1 w1 T
 have h0_1 := T.r1 h0_0
 have Fin_1 := T.f hx
 have d1 := T.e d0
 have s1 := T.z s0
 have bl1 := T.b bl0
 clear T
 refine Eng.tail_nil ?_
 refine wp_seq ?_
 refine wp_seq ?_
 obtain ⟨q4, Bq4⟩ : ∃ b : Bool, b = (Eng.isNil v) := ⟨_, rfl⟩
 refine Eng.rS [v, .bool q4] (fun _ => .plain) 2 0 s1 ?_ ?_
 ·refine .c ?_ (.c ?_ (.nil))
  ·exact Eng.pv fun a w' H => Eng.vr rfl (Eng.run_move rfl (H.q 0 h0_1))
  exact Eng.pv fun a w' H => Eng.vr (v := .bool (Eng.isNil v)) (by show _ = Value.bool q4; rw [Bq4]) (Eng.run_isnil rfl Tryd.underlying55 (show a.eval (.tmp 3) = v from (H.d 0 3)) (Eng.Reads.below Fin_1 H.below))
 intro act2 w2 T
 have h0_2 := T.r1 h0_1
 have Fin_2 := T.f Fin_1
 have h4_2 : act2.eval (.tmp 4) = .bool q4 := T.done 1 4 rfl rfl
 have d2 := T.e d1
 have s2 := T.z s1
 have bl2 := T.b bl1
 clear T
 refine Eng.tail_nil ?_
 refine wp_cond_split h4_2 (fun hq => ?_) (fun hq => ?_)
 ·
  have c4 := Bq4.symm.trans hq
  clear hq
  have hz := Eng.isNil_zero hx c4 rfl
  have hl0 : l = [] := List.eq_nil_of_length_eq_zero hz
  refine wp_seq ?_
  refine Eng.rS [.slice none 0 0] (fun _ => .plain) 1 0 s2 ?_ ?_
  ·refine .c ?_ (.nil)
   ·exact Eng.pv fun a w' H => Eng.vr rfl (Eng.run_assign rfl (rfl : a.eval (.const (.slice none 0 0)) = .slice none 0 0))
  intro act4 w4 T
  have h2_4 : act4.eval (.tmp 2) = .slice none 0 0 := T.done 0 2 rfl rfl
  have d4 := T.e d2
  have bl4 := T.b bl2
  clear T
  refine Eng.tail_nil ?_
  refine wp_ret ?_
  repeat (first | refine Eng.in_ret ?_ | refine Eng.then_ret ?_)
  exact Eng.ret1 rfl d4 h2_4 ⟨_, rfl, by rw [hl0]; exact World.ownsRow_nil _ _ _ _, bl4⟩
 have c4 := Bq4.symm.trans hq
 clear hq
 refine wp_skip ?_
 refine wp_seq ?_
 refine Eng.regionT (n := 4) rfl ?_
 refine Eng.tail_ex rfl rfl rfl (Eng.run_build0 (B := w.heap.size) (size := 1) (z := .int .i64 0) (e := 3) rfl Tryd.underlying55 (by kernel_rfl) bl2.size) s2 rfl fun v_6 w6 act6 R d6 s6 h5_6 hr => ?_
 obtain ⟨O_6, b_6⟩ := R
 have h0_6 := Eng.k1 hr h0_2
 have d6 := d6.trans d2
 clear hr
 have Fin_6 := Eng.Reads.below Fin_2 b_6
 have bl6 := bl2.trans (b_6.mono bl2.size)
 refine Eng.tail_val rfl rfl rfl (Eng.run_move rfl h0_6) s6 rfl fun act7 d7 s7 h6_7 hr => ?_
 have h5_7 := Eng.k1 hr h5_6
 have d7 := d7.trans d6
 clear hr
 refine Eng.tail_ex rfl rfl rfl (Eng.run_appendI (z := .int .i64 0) rfl Tryd.underlying55 (by kernel_rfl) rfl rfl h5_7 O_6 h6_7 Fin_6 (Dc.ints_one _) (by simp; omega) bl6.size) s7 rfl fun v_8 w8 act8 R d8 s8 h7_8 hr => ?_
 obtain ⟨O_8, _, b_8, G_8, EO_8⟩ := R
 have d8 := d8.trans d7
 clear hr
 have bl8 := bl6.trans b_8
 have Oa8 : w8.ownsRow w.heap.size 3 1 v_8 l.length (Dc.ints l) := (by have O := O_8; rw [Nat.zero_add] at O; exact O)
 have Fa8 := Eng.Reads.of_own Oa8
 refine Eng.tail_val rfl rfl rfl (Eng.run_assign rfl h7_8) s8 rfl fun act9 d9 s9 h2_9 hr => ?_
 have d9 := d9.trans d8
 clear hr
 refine Eng.tail_nil ?_
 refine wp_ret ?_
 repeat (first | refine Eng.in_ret ?_ | refine Eng.then_ret ?_)
 exact Eng.ret1 rfl d9 h2_9 ⟨_, rfl, Oa8, bl8⟩
end Go.Proofs.YtgnmjaacnmkgnaaDoor.X
end
section
set_option linter.unusedVariables false
set_option linter.unusedSimpArgs false
namespace Go.Proofs.Eng
open Go Go.RowKit
variable {P : Program}
theorem own_grown {w w' : World} {B B' : Nat} {e e' : TypeId} {size n size' n' : Nat} {v v' : Value} {xs xs' : List Value} (O : w.ownsRow B e size v n xs) (G : w.grownBy w' v'.ownBlock) (O' : w.ownsRow B' e' size' v' n' xs') (hne : (e != e') = true) : w'.ownsRow B e size v n xs := by
  refine O.kept G ?_
  cases hq : v.ownBlock with
  | none => exact .inl rfl
  | some b => exact .inr (own_apart_ty O O' hne hq.symm)
section
variable {o : Oper} {a : Act} {w : World}
theorem run_appendM {B : Nat} {t e : TypeId} {z : Value} {size : Nat} {s x : Operand} (hop : o.op = .call { callee := .builtin .append, args := #[s, x], argTypes := #[t, t] })
    (ht : P.underlying t = some (.slice e)) (hI : (P.info? e).map (fun i => (i.size, decide (i.bytes ≤ 64), i.zero)) = some (size, true, some z)) (hzs : z.cells.size = size) (hsz : (decide (0 < size)) = true)
    {v xv : Value} {n : Nat} {xs : List Value} (hs : a.eval s = v) (O : w.ownsRow B e size v n xs) (hx : a.eval x = xv) {m : Nat} {news : List Value} (F : Reads w xv m size news) (h1 : ∀ u ∈ news, u.oneCell' = true) (h63 : n + m ≤ 2199023255488) (hB : B ≤ w.heap.size) :
    ∃ v' w', (execOp a.eval o).run P w = .ok (.value v') w' ∧ w'.ownsRow B e size v' (n + m) (xs ++ news) ∧ w'.ownsRow B e size v n xs ∧ Below B w w' ∧ w.grownBy w' v.ownBlock ∧ (v'.ownBlock = v.ownBlock ∨ v'.ownBlock = some w.heap.size) := by
  cases hq : P.info? e with
  | none => simp [hq] at hI
  | some i =>
    simp [hq] at hI
    obtain ⟨h2, h3, h4⟩ := hI
    have hb : (n + m) * i.bytes ≤ 140737488355328 := Nat.le_trans (Nat.mul_le_mul h63 h3) (by decide)
    obtain ⟨v', w', hr, h⟩ := own_appendT (P := P) (ty := o.type) ht hq h4 h2 (by omega) hzs (of_decide_eq_true hsz) O F h1 (by unfold maxLen; omega) hb hB
    refine ⟨v', w', ?_, h⟩
    unfold execOp
    simp only [hop, resolve, invoke, builtin, Sem.run_bind, Sem.run_pure, Result.andThen_ok, List.map_toArray, List.map_cons, List.map_nil, hs, hx, hr]
end
end Go.Proofs.Eng
end
section
namespace Go.Proofs.YtgnmjaacnmkgnaaDoor.X
open Go.RowKit Go.Shelf Go.Proofs Go.Maps
set_option linter.unusedVariables false
set_option linter.unusedSimpArgs false
namespace Dc
def KsO (B : Nat) (w : World) (hs : List NV) : Prop := ∀ x ∈ hs, w.ownsRow B 3 1 x.2 x.1.kids.length (ints x.1.kids)
def KsR (w : World) (hs : List NV) : Prop := ∀ x ∈ hs, Eng.Reads w x.2 x.1.kids.length 1 (ints x.1.kids)
theorem KsO.below {B : Nat} {w w' : World} {hs : List NV} (h : KsO B w hs) (b : Below w.heap.size w w') : KsO B w' hs := fun x hx => Eng.own_below (h x hx) b
theorem KsR.below {w w' : World} {hs : List NV} (h : KsR w hs) (b : Below w.heap.size w w') : KsR w' hs := fun x hx => (h x hx).below b
theorem KsO.grown {B B' : Nat} {e : TypeId} {w w' : World} {hs : List NV} {v : Value} {n size : Nat} {xs : List Value} (h : KsO B w hs) (G : w.grownBy w' v.ownBlock) (O : w.ownsRow B' e size v n xs) (hne : (3 != e) = true) : KsO B w' hs := fun x hx => Eng.own_grown (h x hx) G O hne
theorem KsO.sets {B g : Nat} {T : TypeId} {cs : Array Value} {o : Obj} {w w' : World} {hs : List NV} (h : KsO B w hs) (S : Eng.Sets w w' g o) (hg : w.heap[g]? = some (.cells cs T (0, 0))) (hne : (3 != T) = true) : KsO B w' hs := fun x hx => Eng.own_sets (h x hx) S hg hne
theorem KsO.mono {B B' : Nat} {w : World} {hs : List NV} (h : KsO B w hs) (hB : B' ≤ B) : KsO B' w hs := fun x hx => Eng.own_mono (h x hx) hB
theorem KsO.reads {B : Nat} {w : World} {hs : List NV} (h : KsO B w hs) : KsR w hs := fun x hx => Eng.Reads.of_own (h x hx)
theorem KsO.nil {B : Nat} {w : World} : KsO B w [] := fun x hx => absurd hx List.not_mem_nil
theorem KsO.snoc {B : Nat} {w : World} {hs : List NV} {x : NV} (h : KsO B w hs) (hx : w.ownsRow B 3 1 x.2 x.1.kids.length (ints x.1.kids)) : KsO B w (hs ++ [x]) := fun y hy => by
  rcases List.mem_append.1 hy with hy | hy
  · exact h y hy
  · rw [List.mem_singleton.1 hy]; exact hx
theorem KsR.at_ {w : World} {hs : List NV} (h : KsR w hs) {k : Nat} (hk : k < hs.length) : Eng.Reads w (hs.getD k default).2 (hs.getD k default).1.kids.length 1 (ints (hs.getD k default).1.kids) := by
  refine h _ ?_
  rw [List.getD_eq_getElem?_getD, List.getElem?_eq_getElem hk]; exact List.getElem_mem hk
def GR (w : World) (nd : List Nd) (v : Value) : Prop := ∃ hs : List NV, hs.map (·.1) = nd ∧ Eng.Reads w v hs.length 4 (cells hs) ∧ KsR w hs
def GO (B : Nat) (w : World) (nd : List Nd) (v : Value) : Prop := ∃ hs : List NV, hs.map (·.1) = nd ∧ w.ownsRow B 81 4 v hs.length (cells hs) ∧ KsO B w hs
theorem GR.below {w w' : World} {nd : List Nd} {v : Value} (h : GR w nd v) (b : Below w.heap.size w w') : GR w' nd v := by
  obtain ⟨hs, e, F, K⟩ := h; exact ⟨hs, e, F.below b, K.below b⟩
theorem GO.below {B : Nat} {w w' : World} {nd : List Nd} {v : Value} (h : GO B w nd v) (b : Below w.heap.size w w') : GO B w' nd v := by
  obtain ⟨hs, e, O, K⟩ := h; exact ⟨hs, e, Eng.own_below O b, K.below b⟩
theorem GO.mono {B B' : Nat} {w : World} {nd : List Nd} {v : Value} (h : GO B w nd v) (hB : B' ≤ B) : GO B' w nd v := by
  obtain ⟨hs, e, O, K⟩ := h; exact ⟨hs, e, Eng.own_mono O hB, K.mono hB⟩
theorem GO.grown {B B' : Nat} {t : TypeId} {w w' : World} {nd : List Nd} {u v : Value} {n size : Nat} {xs : List Value} (h : GO B w nd u) (G : w.grownBy w' v.ownBlock) (O : w.ownsRow B' t size v n xs) (h1 : (81 != t) = true) (h2 : (3 != t) = true) : GO B w' nd u := by
  obtain ⟨hs, e, O1, K⟩ := h; exact ⟨hs, e, Eng.own_grown O1 G O h1, K.grown G O h2⟩
theorem GO.reads {B : Nat} {w : World} {nd : List Nd} {v : Value} (h : GO B w nd v) : GR w nd v := by
  obtain ⟨hs, e, O, K⟩ := h; exact ⟨hs, e, Eng.Reads.of_own O, K.reads⟩
abbrev GV := List Nd × Value
instance : Inhabited GV := ⟨([], .slice none 0 0)⟩
def GsR (w : World) (fin : List GV) (v : Value) : Prop := Eng.Reads w v fin.length 1 (fin.map (·.2)) ∧ ∀ f ∈ fin, GR w f.1 f.2
theorem GsR.below {w w' : World} {fin : List GV} {v : Value} (h : GsR w fin v) (b : Below w.heap.size w w') : GsR w' fin v := ⟨h.1.below b, fun f hf => (h.2 f hf).below b⟩
def GsO (B : Nat) (w : World) (fin : List GV) : Prop := ∀ f ∈ fin, GO B w f.1 f.2
theorem GsO.below {B : Nat} {w w' : World} {fin : List GV} (h : GsO B w fin) (b : Below w.heap.size w w') : GsO B w' fin := fun f hf => (h f hf).below b
theorem GsO.grown {B B' : Nat} {t : TypeId} {w w' : World} {fin : List GV} {v : Value} {n size : Nat} {xs : List Value} (h : GsO B w fin) (G : w.grownBy w' v.ownBlock) (O : w.ownsRow B' t size v n xs) (h1 : (81 != t) = true) (h2 : (3 != t) = true) : GsO B w' fin := fun f hf => (h f hf).grown G O h1 h2
theorem GsO.mono {B B' : Nat} {w : World} {fin : List GV} (h : GsO B w fin) (hB : B' ≤ B) : GsO B' w fin := fun f hf => (h f hf).mono hB
theorem GsO.nil {B : Nat} {w : World} : GsO B w [] := fun x hx => absurd hx List.not_mem_nil
theorem GsO.snoc {B : Nat} {w : World} {fin : List GV} {x : GV} (h : GsO B w fin) (hx : GO B w x.1 x.2) : GsO B w (fin ++ [x]) := fun y hy => by
  rcases List.mem_append.1 hy with hy | hy
  · exact h y hy
  · rw [List.mem_singleton.1 hy]; exact hx
theorem GsO.reads {B : Nat} {w : World} {fin : List GV} {v : Value} {B' : Nat} {t : TypeId} (h : GsO B w fin) (O : w.ownsRow B' t 1 v fin.length (fin.map (·.2))) : GsR w fin v := ⟨Eng.Reads.of_own O, fun f hf => (h f hf).reads⟩
theorem gsR_at {w : World} {fin : List GV} {v : Value} (h : GsR w fin v) {k : Nat} (hk : k < fin.length) : GR w (fin.getD k default).1 (fin.getD k default).2 := by
  refine h.2 _ ?_
  rw [List.getD_eq_getElem?_getD, List.getElem?_eq_getElem hk]; exact List.getElem_mem hk
theorem map2_at (fin : List GV) (k : Nat) (hk : k < fin.length) : (fin.map (·.2))[k * 1]? = some (fin.getD k default).2 := by
  rw [Nat.mul_one, List.getElem?_map, List.getD_eq_getElem?_getD, List.getElem?_eq_getElem hk]; rfl
def NodeOne (B : Nat) (n : Nd) (v : Value) (w : World) : Prop := ∃ u, v = .agg #[.int .i64 n.kind, .string n.tag, .string n.text, u] ∧ w.ownsRow B 3 1 u n.kids.length (ints n.kids)
def Tl.node (B : Nat) (n : Nd) : Eng.Tl := .lasts (NodeOne B n) fun _ _ _ h hb => by
  obtain ⟨u, e, O⟩ := h; exact ⟨u, e, Eng.own_below O hb⟩
def RowNode (B : Nat) (n : Nd) (v : Value) (w : World) : Prop := ∃ u, w.ownsRow B 3 1 u n.kids.length (ints n.kids) ∧ Eng.Reads w v 1 4 [.int .i64 n.kind, .string n.tag, .string n.text, u]
def Tl.rowNode (B : Nat) (n : Nd) : Eng.Tl := .lasts (RowNode B n) fun _ _ _ h hb => by
  obtain ⟨u, O, F⟩ := h; exact ⟨u, Eng.own_below O hb, F.below hb⟩
theorem own_snocN {w : World} {B : Nat} {v : Value} {hs : List NV} {n : Nd} {u : Value} (O : w.ownsRow B 81 4 v (hs.length + 1) (cells hs ++ [.int .i64 n.kind, .string n.tag, .string n.text, u])) : w.ownsRow B 81 4 v (hs ++ [(n, u)]).length (cells (hs ++ [(n, u)])) := by
  have e : cells (hs ++ [(n, u)]) = cells hs ++ [.int .i64 n.kind, .string n.tag, .string n.text, u] := by
    unfold cells; rw [List.flatMap_append]; rfl
  rw [e, List.length_append]; exact O
theorem map_len {h hs : List NV} {k : Nat} (hk : k ≤ h.length) (e : hs.map (·.1) = (h.take k).map (·.1)) : hs.length = k := by
  have := congrArg List.length e
  rw [List.length_map, List.length_map, List.length_take] at this; omega
theorem map_snoc {h hs : List NV} {k : Nat} {n : Nd} {u : Value} (hk : k < h.length) (e : hs.map (·.1) = (h.take k).map (·.1)) (hn : n = (h.getD k default).1) : (hs ++ [(n, u)]).map (·.1) = (h.take (k + 1)).map (·.1) := by
  rw [Rwt.take_one hk, List.map_append, List.map_append, e, hn]; rfl
theorem own_snocG {w : World} {B : Nat} {v : Value} {fin : List GV} {f : GV} (O : w.ownsRow B 51 1 v (fin.length + 1) (fin.map (·.2) ++ [f.2])) : w.ownsRow B 51 1 v (fin ++ [f]).length ((fin ++ [f]).map (·.2)) := by
  rw [List.length_append, List.map_append]; exact O
theorem mapG_len {h hs : List GV} {k : Nat} (hk : k ≤ h.length) (e : hs.map (·.1) = (h.take k).map (·.1)) : hs.length = k := by
  have := congrArg List.length e
  rw [List.length_map, List.length_map, List.length_take] at this; omega
theorem mapG_snoc {h hs : List GV} {k : Nat} {n : List Nd} {u : Value} (hk : k < h.length) (e : hs.map (·.1) = (h.take k).map (·.1)) (hn : n = (h.getD k default).1) : (hs ++ [(n, u)]).map (·.1) = (h.take (k + 1)).map (·.1) := by
  rw [Rwt.take_one hk, List.map_append, List.map_append, e, hn]; rfl
def Sml (k : Nat) (nd : List Nd) : Prop := nd.length ≤ k ∧ ∀ n ∈ nd, n.kids.length ≤ k
theorem Sml.at_ {k : Nat} {h : List NV} (hs : Sml k (h.map (·.1))) {j : Nat} (hj : j < h.length) : (h.getD j default).1.kids.length ≤ k := by
  refine hs.2 _ (List.mem_map.2 ⟨h.getD j default, ?_, rfl⟩)
  rw [List.getD_eq_getElem?_getD, List.getElem?_eq_getElem hj]; exact List.getElem_mem hj
theorem sml_at {k : Nat} {fin : List GV} (hs : ∀ f ∈ fin, Sml k f.1) {j : Nat} (hj : j < fin.length) : Sml k (fin.getD j default).1 := by
  refine hs _ ?_
  rw [List.getD_eq_getElem?_getD, List.getElem?_eq_getElem hj]; exact List.getElem_mem hj
theorem eq_at {h h2 : List NV} (e : h.map (·.1) = h2.map (·.1)) (j : Nat) : (h.getD j default).1 = (h2.getD j default).1 := by
  have := congrArg (fun l => l.getD j (default : Nd)) e
  simpa only [map_getD] using this
theorem eq_len {h h2 : List NV} (e : h.map (·.1) = h2.map (·.1)) : h.length = h2.length := by
  have := congrArg List.length e; simpa using this
theorem eqG_at {f g : List GV} (e : f.map (·.1) = g.map (·.1)) (j : Nat) : (f.getD j default).1 = (g.getD j default).1 := by
  have := congrArg (fun l => l.getD j []) e
  simp only [List.getD_eq_getElem?_getD, List.getElem?_map] at this
  rw [List.getD_eq_getElem?_getD, List.getD_eq_getElem?_getD]
  cases hf : f[j]? <;> cases hg : g[j]? <;> rw [hf, hg] at this <;> first | exact this | rfl
theorem eqG_len {f g : List GV} (e : f.map (·.1) = g.map (·.1)) : f.length = g.length := by
  have := congrArg List.length e; simpa using this
theorem fin_reads {w W : World} {f : GV} {Bc : Nat → Prop} (h : Fin w W f Bc) : GR W f.1 f.2 := by
  obtain ⟨hs, opn, names, ov, mb, e, R, _⟩ := h
  refine ⟨hs, e, Eng.Reads.of_own R.gr, fun x hx => ?_⟩
  obtain ⟨i, hi, rfl⟩ := List.mem_iff_getElem.1 hx
  have := Eng.Reads.of_own (R.ks i hi)
  rwa [List.getD_eq_getElem?_getD, List.getElem?_eq_getElem hi] at this
end Dc
end Go.Proofs.YtgnmjaacnmkgnaaDoor.X
end
section
namespace Go.Proofs.YtgnmjaacnmkgnaaDoor.X
open Go.RowKit Go.Shelf Go.Proofs Go.Proofs.YtgnmjaacnmkgnaaDoorW.PrintWords Go.Proofs.YtgnmjaacnmkgnaaDoorW.PrintLast Go.Proofs.YtgnmjaacnmkgnaaDoorW.PrintMore
set_option linter.unusedVariables false
set_option linter.unusedSimpArgs false
attribute [local go_sem] max2_int min2_int max_two min_two
set_option maxHeartbeats 4000000 in
set_option maxRecDepth 100000 in
theorem Evt.heavy_calls (v : Value) (l : List Evt.Ev) (w : World) (hl : Eng.Reads w v l.length 5 (Evt.cells l)) : Calls Tryd.prog 9 #[v] w fun e w' => e = .returned (.bool (Evt.heavyL l)) ∧ Below w.heap.size w w' := by
 have hm := Eng.Reads.len_le hl
 refine Eng.enter Tryd.func9 rfl fun act0 d0 s0 v0 => ?_
 have s0 : act0.tmps.size = 31 := s0
 have h0_0 : act0.eval (.tmp 0) = v := v0 0 (by simp)
 clear v0
 have bl0 : Below w.heap.size w w := Below.refl _ _
 refine wp_seq ?_
 refine Eng.rS [.bool false] (fun _ => .plain) 1 0 s0 ?_ ?_
 ·refine .c ?_ (.nil)
  ·exact Eng.pv fun a w' H => Eng.vr rfl (Eng.run_assign rfl (rfl : a.eval (.const (.bool false)) = .bool false))
 intro act1 w1 T
 have h0_1 := T.r1 h0_0
 have Fl_1 := T.f hl
 have d1 := T.e d0
 have s1 := T.z s0
 have bl1 := T.b bl0
 clear T
 refine Eng.tail_nil ?_
 refine wp_seq ?_
 refine wp_seq ?_
 refine Eng.rS [v, .int .i64 ((l.length : Nat) : Int), .int .i64 0] (fun _ => .plain) 3 0 s1 ?_ ?_
 ·refine .c ?_ (.c ?_ (.c ?_ (.nil)))
  ·exact Eng.pv fun a w' H => Eng.vr rfl (Eng.run_move rfl (H.q 0 h0_1))
  ·exact Eng.pv fun a w' H => Eng.vr (v := .int .i64 ((l.length : Nat) : Int)) rfl (Eng.run_len_sl rfl Tryd.underlying26 (show a.eval (.tmp 5) = v from (H.d 0 5)) (Eng.Reads.below Fl_1 H.below))
  exact Eng.pv fun a w' H => Eng.vr rfl (Eng.run_move rfl (rfl : a.eval (.const (.int .i64 0)) = .int .i64 0))
 intro act2 w2 T
 have h0_2 := T.r1 h0_1
 have h5_2 : act2.eval (.tmp 5) = v := T.done 0 5 rfl rfl
 have h6_2 : act2.eval (.tmp 6) = .int .i64 ((l.length : Nat) : Int) := T.done 1 6 rfl rfl
 have h7_2 : act2.eval (.tmp 7) = .int .i64 0 := T.done 2 7 rfl rfl
 have d2 := T.e d1
 have s2 := T.z s1
 have bl2 := T.b bl1
 clear T
 refine Eng.tail_nil ?_
 refine wp_block ?_
 refine Eng.loopN (fun n a w' => ∃ (k : Nat), l.length - k = n ∧ (k ≤ l.length) ∧ ((List.take k l).any Evt.heavyE = false) ∧ a.defers = [] ∧ a.tmps.size = 31 ∧ Below w.heap.size w w' ∧ a.eval (.tmp 0) = v ∧ a.eval (.tmp 5) = v ∧ a.eval (.tmp 6) = .int .i64 ((l.length : Nat) : Int) ∧ a.eval (.tmp 7) = .int .i64 (k : Nat)) (n0 := l.length - 0) ?_ ?_
 ·exact ⟨0, rfl, by omega, rfl, d2, s2, bl2, h0_2, h5_2, h6_2, (h7_2.trans (by first | rfl | (congr 1; rw [Eng.i64_id (by omega) (by omega)]; omega) | (simp; done)))⟩
 rintro n act3 w3 ⟨k, rfl, hc0_3, hc1_3, d3, s3, bl3, h0_3, h5_3, h6_3, h7_3⟩
 have Fl_3 := Eng.Reads.below hl bl3
 have hk1 := hc0_3
 have hin := hc1_3
 refine wp_seq ?_
 obtain ⟨q8, Bq8⟩ : ∃ b : Bool, b = (decide ((k : Nat) < ((l.length : Nat) : Int))) := ⟨_, rfl⟩
 refine Eng.rS [.bool q8] (fun _ => .plain) 1 0 s3 ?_ ?_
 ·refine .c ?_ (.nil)
  ·refine Eng.pv fun a w' H => ?_
   refine Eng.vr (v := .bool (decide ((k : Nat) < ((l.length : Nat) : Int)))) (by show _ = Value.bool q8; rw [Bq8]) ?_
   have e0 := (H.q 7 h7_3)
   have e1 := (H.q 6 h6_3)
   simp only [execOp, resolve, List.map_toArray, List.map_cons, List.map_nil, e0, e1]
   go_simp
 intro act4 w4 T
 have ⟨h0_4, h5_4, h6_4, h7_4⟩ := T.r4 h0_3 h5_3 h6_3 h7_3
 have Fl_4 := T.f Fl_3
 have h8_4 : act4.eval (.tmp 8) = .bool q8 := T.done 0 8 rfl rfl
 have d4 := T.e d3
 have s4 := T.z s3
 have bl4 := T.b bl3
 clear T
 refine Eng.tail_nil ?_
 refine wp_seq ?_
 refine wp_cond_split h8_4 (fun hq => ?_) (fun hq => ?_)
 ·
  have c8 := Bq8.symm.trans hq
  clear hq
  have c8 := of_decide_eq_true c8
  have hk0 : k < l.length := by omega
  refine wp_skip ?_
  refine wp_seq ?_
  refine wp_block ?_
  refine wp_seq ?_
  refine Eng.regionS (Eng.still [fun u_ => u_ = Eng.elemPtr v (k * 5), fun u_ => u_ = .agg #[.int .i64 ((l.getD k default).kind), .string ((l.getD k default).anchor), .string ((l.getD k default).tag), .string ((l.getD k default).text), .bool ((l.getD k default).plain)], fun u_ => True, fun u_ => True]) (fun i => ([.plain, .plain, .alloc 23 #[.int .i64 0, .string ⟨#[]⟩, .string ⟨#[]⟩, .string ⟨#[]⟩, .bool false], .store 2 #[.int .i64 ((l.getD k default).kind), .string ((l.getD k default).anchor), .string ((l.getD k default).tag), .string ((l.getD k default).text), .bool ((l.getD k default).plain)]] : List Eng.Kind).getD i .plain) 4 0 31 s4 rfl (by kernel_rfl) (Eng.still_stable _) (Or.inr (Eng.still_any _)) ?_ ?_
  ·refine .c ?_ (.c ?_ (.c ?_ (.c ?_ (.nil))))
   ·exact Eng.pv fun a w' H => Eng.vr (v := Eng.elemPtr v (k * 5)) rfl (Eng.run_index_sl rfl Tryd.underlying26 (by kernel_rfl) (show a.eval (.tmp 5) = v from (H.q 5 h5_4)) ((show a.eval (.tmp 7) = .int .i64 (k : Nat) from (H.q 7 h7_4)).trans (congrArg (Value.int _) (show (k : Nat) = ((k : Nat) : Int) from by omega))) (Eng.Reads.below Fl_4 H.below) (by omega) rfl)
   ·exact Eng.pv fun a w' H => Eng.vr (v := .agg #[.int .i64 ((l.getD k default).kind), .string ((l.getD k default).anchor), .string ((l.getD k default).tag), .string ((l.getD k default).text), .bool ((l.getD k default).plain)]) rfl (Eng.run_load_els [.int .i64 ((l.getD k default).kind), .string ((l.getD k default).anchor), .string ((l.getD k default).tag), .string ((l.getD k default).text), .bool ((l.getD k default).plain)] rfl (show a.eval (.tmp 9) = Eng.elemPtr v (k * 5) from (H.d 0 9)) (Eng.Reads.below Fl_4 H.below) (Evt.cells_at l k (by omega)) rfl Tryd.underlying23 rfl (by kernel_rfl))
   ·refine Eng.made rfl (by simp) rfl (fun a w' hd ho => ?_) (fun _ _ => trivial)
    simp only [execOp]
    go_simp
   refine Eng.stored [.int .i64 ((l.getD k default).kind), .string ((l.getD k default).anchor), .string ((l.getD k default).tag), .string ((l.getD k default).text), .bool ((l.getD k default).plain)] rfl rfl rfl (j := 2) (d := 4) (by kernel_rfl) rfl rfl (Eng.store_uniq (by kernel_rfl)) rfl rfl fun a w' g e hc hd ho => ?_
   have e0 : a.eval _ = .agg #[.int .i64 ((l.getD k default).kind), .string ((l.getD k default).anchor), .string ((l.getD k default).tag), .string ((l.getD k default).text), .bool ((l.getD k default).plain)] := (hd 1 10 (by kernel_rfl) rfl)
   have z0 := (Eng.cells hc 0).trans rfl
   have z1 := (Eng.cells hc 1).trans rfl
   have z2 := (Eng.cells hc 2).trans rfl
   have z3 := (Eng.cells hc 3).trans rfl
   have z4 := (Eng.cells hc 4).trans rfl
   have f0 := Eng.unfrozen hc 0
   have f1 := Eng.unfrozen hc 1
   have f2 := Eng.unfrozen hc 2
   have f3 := Eng.unfrozen hc 3
   have f4 := Eng.unfrozen hc 4
   simp only [execOp, e, e0]
   go_simp
   rfl
  intro act6 w6 T
  have ⟨h0_6, h5_6, h6_6, h7_6⟩ := T.r4 h0_4 h5_4 h6_4 h7_4
  obtain ⟨g4_6, h4_6, rg4_6, lg4_6_6, kg4_6_6⟩ := T.st 2 4 3 _ _ _ rfl rfl rfl rfl rfl
  have d6 := T.e d4
  have s6 := T.z s4
  have bl6 := T.b bl4
  clear T
  refine Eng.tail_nil ?_
  refine wp_seq ?_
  obtain ⟨q14, Bq14⟩ : ∃ b : Bool, b = (decide ((((l.getD k default).text).size : Int) > 2000)) := ⟨_, rfl⟩
  obtain ⟨q19, Bq19⟩ : ∃ b : Bool, b = (decide ((((l.getD k default).anchor).size : Int) > 2000)) := ⟨_, rfl⟩
  obtain ⟨q20, Bq20⟩ : ∃ b : Bool, b = (q14 || q19) := ⟨_, rfl⟩
  obtain ⟨q25, Bq25⟩ : ∃ b : Bool, b = (decide ((((l.getD k default).tag).size : Int) > 2000)) := ⟨_, rfl⟩
  obtain ⟨q26, Bq26⟩ : ∃ b : Bool, b = (q20 || q25) := ⟨_, rfl⟩
  refine Eng.rS [.pointer (some ⟨g4_6, 3, none⟩), .string ((l.getD k default).text), .int .i64 (((l.getD k default).text).size : Int), .bool q14, .bool q14, bif (q14 == false) then (.pointer (some ⟨g4_6, 1, none⟩)) else undef, bif (q14 == false) then (.string ((l.getD k default).anchor)) else undef, bif (q14 == false) then (.int .i64 (((l.getD k default).anchor).size : Int)) else undef, bif (q14 == false) then (.bool q19) else undef, .bool q20, .bool q20, bif (q20 == false) then (.pointer (some ⟨g4_6, 2, none⟩)) else undef, bif (q20 == false) then (.string ((l.getD k default).tag)) else undef, bif (q20 == false) then (.int .i64 (((l.getD k default).tag).size : Int)) else undef, bif (q20 == false) then (.bool q25) else undef, .bool q26] (fun _ => .plain) 16 0 s6 ?_ ?_
  ·refine .c ?_ (.c ?_ (.c ?_ (.c ?_ (.c ?_ (.c ?_ (.c ?_ (.c ?_ (.c ?_ (.c ?_ (.c ?_ (.c ?_ (.c ?_ (.c ?_ (.c ?_ (.c ?_ (.nil))))))))))))))))
   ·exact Eng.pv fun a w' H => Eng.vr rfl (Eng.run_fieldb rfl Tryd.underlying23 3 (by kernel_rfl) (H.q 4 h4_6))
   ·exact Eng.pv fun a w' H => Eng.vr rfl (Eng.run_loadb rfl (H.d 0 11) ((H.below.block _ lg4_6_6).trans kg4_6_6) rfl (by kernel_rfl))
   ·refine Eng.pv fun a w' H => ?_
    refine Eng.vr (v := .int .i64 (((l.getD k default).text).size : Int)) rfl ?_
    have e0 : a.eval (.tmp 12) = .string ((l.getD k default).text) := (H.d 1 12)
    simp only [execOp, resolve, List.map_toArray, List.map_cons, List.map_nil, e0]
    go_simp
   ·refine Eng.pv fun a w' H => ?_
    refine Eng.vr (v := .bool (decide ((((l.getD k default).text).size : Int) > 2000))) (by show _ = Value.bool q14; rw [Bq14]) ?_
    have e0 : a.eval (.tmp 13) = .int .i64 (((l.getD k default).text).size : Int) := (H.d 2 13)
    have e1 : a.eval (.const (.int .i64 2000)) = .int .i64 2000 := rfl
    simp only [execOp, resolve, List.map_toArray, List.map_cons, List.map_nil, e0, e1]
    go_simp
   ·exact Eng.pv fun a w' H => Eng.vr rfl (Eng.run_move rfl (H.d 3 14))
   ·refine Eng.guarded1 (j := 4) (d := 15) (b := q14) rfl rfl (by kernel_rfl) rfl (fun v w h => h) (fun hG w => Eng.off hG) fun hG a w' H => ?_
    exact Eng.val (w1 := w') (v := .pointer (some ⟨g4_6, 1, none⟩)) (Eng.run_fieldb rfl Tryd.underlying23 1 (by kernel_rfl) (H.q 4 h4_6)) (Below.refl _ _) (Eng.off' hG rfl)
   ·refine Eng.guarded1 (j := 4) (d := 15) (b := q14) rfl rfl (by kernel_rfl) rfl (fun v w h => h) (fun hG w => Eng.off hG) fun hG a w' H => ?_
    exact Eng.val (w1 := w') (v := .string ((l.getD k default).anchor)) (Eng.run_loadb rfl (Eng.on (H.d 5 16) hG) ((H.below.block _ lg4_6_6).trans kg4_6_6) rfl (by kernel_rfl)) (Below.refl _ _) (Eng.off' hG rfl)
   ·refine Eng.guarded1 (j := 4) (d := 15) (b := q14) rfl rfl (by kernel_rfl) rfl (fun v w h => h) (fun hG w => Eng.off hG) fun hG a w' H => ?_
    refine Eng.vr (v := .int .i64 (((l.getD k default).anchor).size : Int)) (Eng.off' hG rfl) ?_
    have e0 : a.eval (.tmp 17) = .string ((l.getD k default).anchor) := (Eng.on (H.d 6 17) hG)
    simp only [execOp, resolve, List.map_toArray, List.map_cons, List.map_nil, e0]
    go_simp
   ·refine Eng.guarded1 (j := 4) (d := 15) (b := q14) rfl rfl (by kernel_rfl) rfl (fun v w h => h) (fun hG w => Eng.off hG) fun hG a w' H => ?_
    refine Eng.vr (v := .bool (decide ((((l.getD k default).anchor).size : Int) > 2000))) (Eng.off' hG (by rw [Bq19])) ?_
    have e0 : a.eval (.tmp 18) = .int .i64 (((l.getD k default).anchor).size : Int) := (Eng.on (H.d 7 18) hG)
    have e1 : a.eval (.const (.int .i64 2000)) = .int .i64 2000 := rfl
    simp only [execOp, resolve, List.map_toArray, List.map_cons, List.map_nil, e0, e1]
    go_simp
   ·exact Eng.pv fun a w' H => Eng.vr (v := .bool (q14 || q19)) (by show _ = Value.bool q20; rw [Bq20]) (Eng.run_or rfl rfl (G := true) (H.d 4 15) (fun hb => (Eng.on (H.d 8 19) (Eng.mk1 hb))))
   ·exact Eng.pv fun a w' H => Eng.vr rfl (Eng.run_move rfl (H.d 9 20))
   ·refine Eng.guarded1 (j := 10) (d := 21) (b := q20) rfl rfl (by kernel_rfl) rfl (fun v w h => h) (fun hG w => Eng.off hG) fun hG a w' H => ?_
    exact Eng.val (w1 := w') (v := .pointer (some ⟨g4_6, 2, none⟩)) (Eng.run_fieldb rfl Tryd.underlying23 2 (by kernel_rfl) (H.q 4 h4_6)) (Below.refl _ _) (Eng.off' hG rfl)
   ·refine Eng.guarded1 (j := 10) (d := 21) (b := q20) rfl rfl (by kernel_rfl) rfl (fun v w h => h) (fun hG w => Eng.off hG) fun hG a w' H => ?_
    exact Eng.val (w1 := w') (v := .string ((l.getD k default).tag)) (Eng.run_loadb rfl (Eng.on (H.d 11 22) hG) ((H.below.block _ lg4_6_6).trans kg4_6_6) rfl (by kernel_rfl)) (Below.refl _ _) (Eng.off' hG rfl)
   ·refine Eng.guarded1 (j := 10) (d := 21) (b := q20) rfl rfl (by kernel_rfl) rfl (fun v w h => h) (fun hG w => Eng.off hG) fun hG a w' H => ?_
    refine Eng.vr (v := .int .i64 (((l.getD k default).tag).size : Int)) (Eng.off' hG rfl) ?_
    have e0 : a.eval (.tmp 23) = .string ((l.getD k default).tag) := (Eng.on (H.d 12 23) hG)
    simp only [execOp, resolve, List.map_toArray, List.map_cons, List.map_nil, e0]
    go_simp
   ·refine Eng.guarded1 (j := 10) (d := 21) (b := q20) rfl rfl (by kernel_rfl) rfl (fun v w h => h) (fun hG w => Eng.off hG) fun hG a w' H => ?_
    refine Eng.vr (v := .bool (decide ((((l.getD k default).tag).size : Int) > 2000))) (Eng.off' hG (by rw [Bq25])) ?_
    have e0 : a.eval (.tmp 24) = .int .i64 (((l.getD k default).tag).size : Int) := (Eng.on (H.d 13 24) hG)
    have e1 : a.eval (.const (.int .i64 2000)) = .int .i64 2000 := rfl
    simp only [execOp, resolve, List.map_toArray, List.map_cons, List.map_nil, e0, e1]
    go_simp
   exact Eng.pv fun a w' H => Eng.vr (v := .bool (q20 || q25)) (by show _ = Value.bool q26; rw [Bq26]) (Eng.run_or rfl rfl (G := true) (H.d 10 21) (fun hb => (Eng.on (H.d 14 25) (Eng.mk1 hb))))
  intro act7 w7 T
  have ⟨h0_7, h5_7, h6_7, h7_7⟩ := T.r4 h0_6 h5_6 h6_6 h7_6
  have h26_7 : act7.eval (.tmp 26) = .bool q26 := T.done 15 26 rfl rfl
  have d7 := T.e d6
  have s7 := T.z s6
  have bl7 := T.b bl6
  clear T
  refine Eng.tail_nil ?_
  refine wp_cond_split h26_7 (fun hq => ?_) (fun hq => ?_)
  ·
   have c26 := Bq26.symm.trans hq
   clear hq
   have hx : Evt.heavyE (l.getD k default) = true := by have h1 := c26; simp only [Bq26, Bq25, Bq20, Bq19, Bq14, Bq8] at h1; exact h1
   refine wp_seq ?_
   refine Eng.rS [.bool true] (fun _ => .plain) 1 0 s7 ?_ ?_
   ·refine .c ?_ (.nil)
    ·exact Eng.pv fun a w' H => Eng.vr rfl (Eng.run_assign rfl (rfl : a.eval (.const (.bool true)) = .bool true))
   intro act9 w9 T
   have h2_9 : act9.eval (.tmp 2) = .bool true := T.done 0 2 rfl rfl
   have d9 := T.e d7
   have bl9 := T.b bl7
   clear T
   refine Eng.tail_nil ?_
   refine wp_ret ?_
   repeat (first | refine Eng.in_ret ?_ | refine Eng.then_ret ?_)
   exact Eng.ret1 rfl d9 h2_9 ⟨by rw [Evt.heavy_at hk0 hx], bl9⟩
  have c26 := Bq26.symm.trans hq
  clear hq
  have hx : Evt.heavyE (l.getD k default) = false := by have h1 := c26; simp only [Bq26, Bq25, Bq20, Bq19, Bq14, Bq8] at h1; exact h1
  refine wp_skip ?_
  refine Eng.rS [.int .i64 (IntKind.i64.wrap ((k : Nat) + 1)), .int .i64 (IntKind.i64.wrap ((k : Nat) + 1))] (fun _ => .plain) 2 0 s7 ?_ ?_
  ·refine .c ?_ (.c ?_ (.nil))
   ·refine Eng.pv fun a w' H => ?_
    refine Eng.vr (v := .int .i64 (IntKind.i64.wrap ((k : Nat) + 1))) rfl ?_
    have e0 := (H.q 7 h7_7)
    have e1 : a.eval (.const (.int .i64 1)) = .int .i64 1 := rfl
    simp only [execOp, resolve, List.map_toArray, List.map_cons, List.map_nil, e0, e1]
    go_simp
   exact Eng.pv fun a w' H => Eng.vr rfl (Eng.run_move rfl (H.d 0 27))
  intro act11 w11 T
  have ⟨h0_11, h5_11, h6_11⟩ := T.r3 h0_7 h5_7 h6_7
  have h7_11 : act11.eval (.tmp 7) = .int .i64 (IntKind.i64.wrap ((k : Nat) + 1)) := T.done 1 7 rfl rfl
  have d11 := T.e d7
  have s11 := T.z s7
  have bl11 := T.b bl7
  clear T
  refine Eng.tail_nil ?_
  exact ⟨_, by omega, k + 1, rfl, by omega, Evt.heavy_take hk0 hin hx, d11, s11, bl11, h0_11, h5_11, h6_11, (h7_11.trans (by first | rfl | (congr 1; rw [Eng.i64_id (by omega) (by omega)]; omega) | (simp; done)))⟩
 have c8 := Bq8.symm.trans hq
 clear hq
 have c8 := of_decide_eq_false c8
 have hke : k = l.length := by omega
 refine wp_exit ?_
 refine wp_seq ?_
 obtain ⟨q30, Bq30⟩ : ∃ b : Bool, b = (decide (((l.length : Nat) : Int) > 150)) := ⟨_, rfl⟩
 refine Eng.rS [v, .int .i64 ((l.length : Nat) : Int), .bool q30, .bool q30] (fun _ => .plain) 4 0 s4 ?_ ?_
 ·refine .c ?_ (.c ?_ (.c ?_ (.c ?_ (.nil))))
  ·exact Eng.pv fun a w' H => Eng.vr rfl (Eng.run_move rfl (H.q 0 h0_4))
  ·exact Eng.pv fun a w' H => Eng.vr (v := .int .i64 ((l.length : Nat) : Int)) rfl (Eng.run_len_sl rfl Tryd.underlying26 (show a.eval (.tmp 28) = v from (H.d 0 28)) (Eng.Reads.below Fl_4 H.below))
  ·refine Eng.pv fun a w' H => ?_
   refine Eng.vr (v := .bool (decide (((l.length : Nat) : Int) > 150))) (by show _ = Value.bool q30; rw [Bq30]) ?_
   have e0 : a.eval (.tmp 29) = .int .i64 ((l.length : Nat) : Int) := (H.d 1 29)
   have e1 : a.eval (.const (.int .i64 150)) = .int .i64 150 := rfl
   simp only [execOp, resolve, List.map_toArray, List.map_cons, List.map_nil, e0, e1]
   go_simp
  exact Eng.pv fun a w' H => Eng.vr rfl (Eng.run_assign rfl (H.d 2 30))
 intro act13 w13 T
 have h2_13 : act13.eval (.tmp 2) = .bool q30 := T.done 3 2 rfl rfl
 have d13 := T.e d4
 have bl13 := T.b bl4
 clear T
 refine Eng.tail_nil ?_
 refine wp_ret ?_
 repeat (first | refine Eng.in_ret ?_ | refine Eng.then_ret ?_)
 have fin : q30 = Evt.heavyL l := by
  simp only [Bq30, Bq8]
  rw [hke, List.take_length] at hin; unfold Evt.heavyL; rw [hin, Bool.false_or]
 exact Eng.ret1 rfl d13 (h2_13.trans (congrArg Value.bool fin)) ⟨rfl, bl13⟩
end Go.Proofs.YtgnmjaacnmkgnaaDoor.X
end
section
namespace Go.Proofs.YtgnmjaacnmkgnaaDoor.X
open Go.RowKit Go.Shelf Go.Proofs Go.Maps
set_option linter.unusedVariables false
set_option linter.unusedSimpArgs false
namespace Evt
def Lt (n : Nat) (l : List Ev) : Prop := l.length ≤ n ∧ ∀ x ∈ l, x.text.size ≤ 2000 ∧ x.anchor.size ≤ 2000 ∧ x.tag.size ≤ 2000
theorem light_all {l : List Ev} (h : heavyL l = false) : Lt 150 l := by
  unfold heavyL at h
  rw [Bool.or_eq_false_iff] at h
  have h1 := of_decide_eq_false h.2
  refine ⟨by omega, fun x hx => ?_⟩
  have h2 := List.any_eq_false.1 h.1 x hx
  unfold heavyE at h2
  simp only [Bool.or_eq_true, decide_eq_true_eq, not_or] at h2
  omega
theorem Lt.at_ {n : Nat} {l : List Ev} (h : Lt n l) {k : Nat} (hk : k < l.length) : (l.getD k default).text.size ≤ 2000 ∧ (l.getD k default).anchor.size ≤ 2000 ∧ (l.getD k default).tag.size ≤ 2000 := by
  refine h.2 _ ?_
  rw [List.getD_eq_getElem?_getD, List.getElem?_eq_getElem hk]; exact List.getElem_mem hk
theorem Lt.text {n : Nat} {l : List Ev} (h : Lt n l) : ∀ k, k < l.length → (l.getD k default).text.size ≤ 2000 := fun k hk => (h.at_ hk).1
theorem Lt.anchor {n : Nat} {l : List Ev} (h : Lt n l) : ∀ k, k < l.length → (l.getD k default).anchor.size ≤ maxLen := fun k hk => Nat.le_trans (h.at_ hk).2.1 (by unfold maxLen; omega)
theorem Lt.tw {n : Nat} {l : List Ev} (h : Lt n l) (hn : n ≤ 100000) : Dc.TwAll ⟨[], [], []⟩ l := Tm.twall0 (Nat.le_trans h.1 hn) fun x hx => ⟨(h.2 x hx).2.2, (h.2 x hx).1⟩
end Evt
namespace Dc
open Evt (takeF pop more Ev)
theorem gsR_fin {w W : World} {fin : List GV} {v : Value} {B : Nat} (O : W.ownsRow B 48 1 v fin.length (fin.map (·.2))) (hF : ∀ f ∈ fin, Fin w W f (fun _ => False)) : GsR W fin v := ⟨Eng.Reads.of_own O, fun f hf => fin_reads (hF f hf)⟩
theorem GsO.one {B : Nat} {w : World} {fin : List GV} (h : GsO B w fin) : ∀ u ∈ fin.map (·.2), u.oneCell' = true := by
  intro u hu
  obtain ⟨f, hf, rfl⟩ := List.mem_map.1 hu
  obtain ⟨hs, _, O, _⟩ := h f hf
  obtain ⟨A, c, e⟩ := Eng.Reads.shape (Eng.Reads.of_own O)
  rw [e]; rfl
theorem stepF_num {d : Dc} {x : Ev} : (stepF d x).1.nodes.length ≤ d.nodes.length + 1 := by
  unfold stepF
  split
  · exact Nat.zero_le _
  · split
    · exact Nat.le_succ _
    · split
      · exact Nat.le_succ _
      · split
        · show (aliasF d x).1.nodes.length ≤ _
          unfold aliasF
          split
          · exact Nat.le_succ _
          · rw [kidF_nlen]; exact Nat.le_succ _
        · show (nodeF d x).1.nodes.length ≤ _
          unfold nodeF
          split
          · exact Nat.le_succ _
          · split
            · have hk : (kidF ⟨d.nodes ++ [⟨kindN x.kind, (Evt.tagF x).1, x.text, []⟩], d.opn, nameF d x⟩ d.nodes.length).1.nodes.length = d.nodes.length + 1 := by
                rw [kidF_nlen]; simp
              simp only
              split <;> first | exact Nat.le_of_eq hk | (simp only; omega)
            · exact Nat.le_succ _
theorem sml_good {d : Dc} {k K : Nat} (h : Good d k) (hn : d.nodes.length ≤ k) (hk : k ≤ K) : Sml K d.nodes := by
  refine ⟨Nat.le_trans hn hk, fun n hm => ?_⟩
  obtain ⟨i, hi, rfl⟩ := List.mem_iff_getElem.1 hm
  have := h.kd i hi
  rw [List.getD_eq_getElem?_getD, List.getElem?_eq_getElem hi] at this
  exact Nat.le_trans this hk
theorem runF_small (K : Nat) : ∀ (l : List Ev) (d : Dc) (out : List (List Nd)) (k : Nat), Good d k → d.nodes.length ≤ k → k + l.length ≤ K → (∀ nd ∈ out, Sml K nd) → (runF d out l).1.length ≤ out.length + l.length ∧ ∀ nd ∈ (runF d out l).1, Sml K nd := by
  intro l
  induction l with
  | nil => intro d out k _ _ _ ho; exact ⟨Nat.le_refl _, ho⟩
  | cons x t ih =>
    intro d out k hG hn hK ho
    simp only [List.length_cons] at hK ⊢
    rw [runF]
    split
    · have hG2 := stepF_good (x := x) hG
      have hn2 : (stepF d x).1.nodes.length ≤ k + 1 := Nat.le_trans stepF_num (by omega)
      have h3 : ∀ out' : List (List Nd), out'.length ≤ out.length + 1 → (∀ nd ∈ out', Sml K nd) → (runF (stepF d x).1 out' t).1.length ≤ out.length + (t.length + 1) ∧ ∀ nd ∈ (runF (stepF d x).1 out' t).1, Sml K nd := fun out' hl ho' => by
        have := ih (stepF d x).1 out' (k + 1) hG2 hn2 (by omega) ho'
        exact ⟨by omega, this.2⟩
      split
      · refine h3 _ (by simp) fun nd hnd => ?_
        rcases List.mem_append.1 hnd with hnd | hnd
        · exact ho nd hnd
        · rw [List.mem_singleton.1 hnd]; exact sml_good hG2 hn2 (by omega)
      · exact h3 _ (Nat.le_succ _) ho
    · exact ⟨Nat.zero_le _, fun nd h => absurd h List.not_mem_nil⟩
theorem graphsF_small {l : List Ev} (hl : l.length ≤ 1000000) : (graphsF l).1.length ≤ 1000000 ∧ ∀ nd ∈ (graphsF l).1, Sml 1000000 nd := by
  unfold graphsF
  split
  · have := runF_small 1000000 l ⟨[], [], []⟩ [] 0 (Good.nil 0) (Nat.le_refl _) (by omega) (fun nd h => absurd h List.not_mem_nil)
    exact ⟨by have := this.1; simp only [List.length_nil] at this; omega, this.2⟩
  · exact ⟨Nat.zero_le _, fun nd h => absurd h List.not_mem_nil⟩
end Dc
end Go.Proofs.YtgnmjaacnmkgnaaDoor.X
end
section
namespace Go.Proofs.YtgnmjaacnmkgnaaDoor.X
open Go.RowKit Go.Shelf Go.Proofs Go.Maps
set_option linter.unusedVariables false
set_option linter.unusedSimpArgs false
namespace Dc
open Evt (takeF pop more Ev)
def zz (s : List UInt8) : List UInt8 := [122, 45] ++ s
theorem zz_inj {s t : List UInt8} (h : zz s = zz t) : s = t := List.append_cancel_left h
theorem zz_ne (s : List UInt8) : zz s ≠ [] := fun h => by cases h
structure NR (A : List UInt8 → Prop) (d d' : Dc) : Prop where
  nd : d'.nodes = d.nodes
  op : d'.opn = d.opn
  nm : ∀ s, A s → find d'.names (zz s) = find d.names s
  e1 : find d.names [] = none
  e2 : find d'.names [] = none
structure EA (A : List UInt8 → Prop) (x : Ev) (u : ByteArray) : Prop where
  em : x.anchor.data.toList = [] → u.data.toList = []
  al : x.kind = 7 → x.anchor.data.toList ≠ [] → A x.anchor.data.toList ∧ u.data.toList = zz x.anchor.data.toList
  no : x.kind ≠ 7 → x.anchor.data.toList ≠ [] → u.data.toList = zz x.anchor.data.toList ∨ (u.data.toList = [] ∧ ¬ A x.anchor.data.toList)
theorem kidF_eq (n : List Nd) (o : List Int) (m m' : List (List UInt8 × Int)) (a : Nat) : (kidF ⟨n, o, m'⟩ a).1.nodes = (kidF ⟨n, o, m⟩ a).1.nodes ∧ (kidF ⟨n, o, m'⟩ a).2 = (kidF ⟨n, o, m⟩ a).2 := by
  unfold kidF
  simp only
  cases o.getLast? with
  | none => exact ⟨rfl, rfl⟩
  | some o => simp only; split <;> exact ⟨rfl, rfl⟩
theorem NR.kid {A : List UInt8 → Prop} {d d' : Dc} (h : NR A d d') (a : Nat) : NR A (kidF d a).1 (kidF d' a).1 ∧ (kidF d' a).2 = (kidF d a).2 := by
  obtain ⟨n, o, m⟩ := d
  obtain ⟨n', o', m'⟩ := d'
  obtain ⟨h1, h2, h3, h4, h5⟩ := h
  simp only at h1 h2 h3 h4 h5
  subst h1; subst h2
  have hk := kidF_eq n' o' m m' a
  have s1 := kidF_same ⟨n', o', m⟩ a
  have s2 := kidF_same ⟨n', o', m'⟩ a
  refine ⟨⟨hk.1, s2.1.trans s1.1.symm, fun s hs => ?_, ?_, ?_⟩, hk.2⟩
  · rw [s1.2, s2.2]; exact h3 s hs
  · rw [s1.2]; exact h4
  · rw [s2.2]; exact h5
theorem nameF_em {d : Dc} {x : Ev} (h : x.anchor.data.toList = []) : nameF d x = d.names := by
  unfold nameF; rw [if_pos (by rw [ByteArray.toList_eq, h]; rfl)]
theorem nameF_is {d : Dc} {x : Ev} (h : x.anchor.data.toList ≠ []) : nameF d x = (x.anchor.data.toList, (d.nodes.length : Int)) :: d.names := by
  unfold nameF; rw [if_neg (by rw [ByteArray.toList_eq]; simpa using h)]
theorem find_skip {names : List (List UInt8 × Int)} {s t : List UInt8} {c : Int} (h : s ≠ t) : find ((s, c) :: names) t = find names t := by rw [find_cons, if_neg h]
theorem find_hit {names : List (List UInt8 × Int)} {s t : List UInt8} {c : Int} (h : s = t) : find ((s, c) :: names) t = some c := by rw [find_cons, if_pos h]
theorem NR.snoc {A : List UInt8 → Prop} {d d' : Dc} (h : NR A d d') {x : Ev} {u : ByteArray} (he : EA A x u) (hk : x.kind ≠ 7) (n : Nd) : NR A ⟨d.nodes ++ [n], d.opn, nameF d x⟩ ⟨d'.nodes ++ [n], d'.opn, nameF d' { x with anchor := u }⟩ := by
  refine ⟨by simp only; rw [h.nd], h.op, fun s hs => ?_, ?_, ?_⟩
  · simp only
    by_cases h0 : x.anchor.data.toList = []
    · rw [nameF_em h0, nameF_em (x := { x with anchor := u }) (he.em h0)]; exact h.nm s hs
    · rw [nameF_is h0]
      rcases he.no hk h0 with hu | ⟨hu, hA⟩
      · have hz : ({ x with anchor := u } : Ev).anchor.data.toList = zz x.anchor.data.toList := hu
        rw [nameF_is (x := { x with anchor := u }) (by rw [hz]; exact zz_ne _), hz, h.nd]
        by_cases hst : x.anchor.data.toList = s
        · rw [find_hit hst, find_hit (by rw [hst])]
        · rw [find_skip hst, find_skip (fun e => hst (zz_inj e))]; exact h.nm s hs
      · rw [nameF_em (x := { x with anchor := u }) hu, find_skip (fun e => hA (by rw [e]; exact hs))]; exact h.nm s hs
  · simp only
    by_cases h0 : x.anchor.data.toList = []
    · rw [nameF_em h0]; exact h.e1
    · rw [nameF_is h0, find_skip h0]; exact h.e1
  · simp only
    by_cases h0 : ({ x with anchor := u } : Ev).anchor.data.toList = []
    · rw [nameF_em h0]; exact h.e2
    · rw [nameF_is h0, find_skip h0]; exact h.e2
theorem NR.opn {A : List UInt8 → Prop} {d d' : Dc} (h : NR A d d') (f : List Int → List Int) : NR A { d with opn := f d.opn } { d' with opn := f d'.opn } := ⟨h.nd, by simp only; rw [h.op], h.nm, h.e1, h.e2⟩
theorem NR.node {A : List UInt8 → Prop} {d d' : Dc} (h : NR A d d') {x : Ev} {u : ByteArray} (he : EA A x u) (hk : x.kind ≠ 7) : NR A (nodeF d x).1 (nodeF d' { x with anchor := u }).1 ∧ (nodeF d' { x with anchor := u }).2 = (nodeF d x).2 := by
  have ht : Evt.tagF { x with anchor := u } = Evt.tagF x := rfl
  unfold nodeF
  rw [ht, h.nd]
  split
  · exact ⟨h, rfl⟩
  · split
    · have hs := h.snoc he hk (⟨kindN x.kind, (Evt.tagF x).1, x.text, []⟩ : Nd)
      rw [h.nd] at hs
      have hK := hs.kid d.nodes.length
      refine ⟨?_, hK.2⟩
      simp only
      split
      · exact hK.1
      · exact hK.1.opn (· ++ [(d.nodes.length : Int)])
    · exact ⟨h, rfl⟩
theorem NR.alias {A : List UInt8 → Prop} {d d' : Dc} (h : NR A d d') {x : Ev} {u : ByteArray} (he : EA A x u) (hk : x.kind = 7) : NR A (aliasF d x).1 (aliasF d' { x with anchor := u }).1 ∧ (aliasF d' { x with anchor := u }).2 = (aliasF d x).2 := by
  have hf : find d'.names u.data.toList = find d.names x.anchor.data.toList := by
    by_cases h0 : x.anchor.data.toList = []
    · rw [he.em h0, h0, h.e1, h.e2]
    · obtain ⟨h1, h2⟩ := he.al hk h0
      rw [h2]; exact h.nm _ h1
  unfold aliasF
  simp only
  rw [hf]
  cases find d.names x.anchor.data.toList with
  | none => exact ⟨h, rfl⟩
  | some c => exact h.kid c.toNat
theorem NR.start (A : List UInt8 → Prop) : NR A ⟨[], [], []⟩ ⟨[], [], []⟩ := ⟨rfl, rfl, fun s _ => rfl, rfl, rfl⟩
theorem NR.step {A : List UInt8 → Prop} {d d' : Dc} (h : NR A d d') {x : Ev} {u : ByteArray} (he : EA A x u) : NR A (stepF d x).1 (stepF d' { x with anchor := u }).1 ∧ (stepF d' { x with anchor := u }).2 = (stepF d x).2 := by
  unfold stepF
  simp only
  split
  · exact ⟨NR.start A, rfl⟩
  · split
    · rw [h.nd]; exact ⟨h, rfl⟩
    · split
      · exact ⟨h.opn List.dropLast, rfl⟩
      · split
        · rename_i h7
          have := h.alias he h7
          exact ⟨this.1, by rw [this.2]⟩
        · rename_i h7
          have := h.node he h7
          exact ⟨this.1, by rw [this.2]⟩
theorem runF_ren (A : List UInt8 → Prop) (ra : Ev → ByteArray) : ∀ (l : List Ev) (d d' : Dc) (out : List (List Nd)), (∀ x ∈ l, EA A x (ra x)) → NR A d d' → runF d' out (l.map fun x => { x with anchor := ra x }) = runF d out l := by
  intro l
  induction l with
  | nil => intro d d' out _ _; rfl
  | cons x t ih =>
    intro d d' out hE hN
    obtain ⟨h1, h2⟩ := hN.step (hE x (List.mem_cons_self ..))
    rw [List.map_cons, runF, runF, h2, h1.nd]
    split
    · exact ih _ _ _ (fun y hy => hE y (List.mem_cons_of_mem _ hy)) h1
    · rfl
def askL (l : List Ev) : List Value := ((l.filter fun x => x.kind == 7).map fun x => Value.string x.anchor).reverse
theorem ask_is {l : List Ev} {k : Nat} (hk : k < l.length) (h : (l.getD k default).kind = 7) : askL (l.take (k + 1)) = .string (l.getD k default).anchor :: askL (l.take k) := by
  unfold askL; rw [Rwt.take_one hk, List.filter_append, List.filter_cons_of_pos (by simpa using h)]; simp
theorem ask_not {l : List Ev} {k : Nat} (hk : k < l.length) (h : ¬ (l.getD k default).kind = 7) : askL (l.take (k + 1)) = askL (l.take k) := by
  unfold askL; rw [Rwt.take_one hk, List.filter_append, List.filter_cons_of_neg (by simpa using h)]; simp
theorem ask_len (l : List Ev) : (askL l).length ≤ l.length := by
  unfold askL; rw [List.length_reverse, List.length_map]; exact List.length_filter_le _ _
theorem ask_mem {l : List Ev} {x : Ev} (h : x ∈ l) (h7 : x.kind = 7) : Value.string x.anchor ∈ askL l := by
  unfold askL
  rw [List.mem_reverse, List.mem_map]
  exact ⟨x, List.mem_filter.2 ⟨h, by simpa using h7⟩, rfl⟩
noncomputable def renA (L : List Value) (x : Ev) : ByteArray :=
  if x.anchor.toList.isEmpty = true then x.anchor
  else if (!(x.kind == 7)) = true ∧ (Tm.cnt L (.string x.anchor) == 0) = true then ⟨#[]⟩ else (⟨#[122, 45]⟩ : ByteArray) ++ x.anchor
noncomputable def renE (L : List Value) (x : Ev) : Ev := { x with anchor := renA L x }
theorem ba_ext {a b : ByteArray} (h : a.data.toList = b.data.toList) : a = b := by
  obtain ⟨⟨l⟩⟩ := a
  obtain ⟨⟨m⟩⟩ := b
  simp only at h; rw [h]
theorem zz_app (s : ByteArray) : ((⟨#[122, 45]⟩ : ByteArray) ++ s).data.toList = zz s.data.toList := by
  rw [ByteArray.data_append, Array.toList_append]; rfl
theorem ea_ren (l : List Ev) : ∀ x ∈ l, EA (fun s => ∃ b : ByteArray, Value.string b ∈ askL l ∧ b.data.toList = s) x (renA (askL l) x) := by
  intro x hx
  have hem : x.anchor.toList.isEmpty = true ↔ x.anchor.data.toList = [] := by rw [ByteArray.toList_eq]; simp
  refine ⟨fun h => ?_, fun h7 h0 => ⟨⟨x.anchor, ask_mem hx h7, rfl⟩, ?_⟩, fun h7 h0 => ?_⟩
  · unfold renA; rw [if_pos (hem.2 h)]; exact h
  · unfold renA; rw [if_neg (fun e => h0 (hem.1 e)), if_neg (by simp [h7])]; exact zz_app _
  · unfold renA
    rw [if_neg (fun e => h0 (hem.1 e))]
    split
    · rename_i hc
      refine .inr ⟨rfl, ?_⟩
      rintro ⟨b, hb, he⟩
      rw [ba_ext he] at hb
      have h1 := Tm.cnt_pos hb
      have h2 : Tm.cnt (askL l) (.string x.anchor) = 0 := by simpa using hc.2
      omega
    · exact .inl (zz_app _)
theorem graphsF_ren {l : List Ev} (h1 : Evt.rightG Evt.rightE l = true) (h2 : Evt.rightG Evt.rightE (l.map (renE (askL l))) = true) : graphsF (l.map (renE (askL l))) = graphsF l := by
  rw [graphsF_is h1, graphsF_is h2]
  exact runF_ren _ (renA (askL l)) l _ _ _ (ea_ren l) (NR.start _)
theorem renE_lt {n : Nat} {l : List Ev} (L : List Value) (h : Evt.Lt n l) : ∀ x ∈ l.map (renE L), x.text.size ≤ 2000 ∧ x.anchor.size ≤ 2002 ∧ x.tag.size ≤ 2000 := by
  intro y hy
  obtain ⟨x, hx, rfl⟩ := List.mem_map.1 hy
  have := h.2 x hx
  refine ⟨this.1, ?_, this.2.2⟩
  show (renA L x).size ≤ 2002
  unfold renA
  split
  · omega
  · split
    · exact Nat.zero_le _
    · rw [ByteArray.size_append]; have : (⟨#[122, 45]⟩ : ByteArray).size = 2 := rfl; omega
noncomputable def half (L : List Value) (l : List Ev) (k : Nat) : List Ev := (l.take k).map (renE L) ++ l.drop k
theorem half_len (L : List Value) (l : List Ev) (k : Nat) (hk : k ≤ l.length) : (half L l k).length = l.length := by
  unfold half; rw [List.length_append, List.length_map, List.length_take, List.length_drop]; omega
theorem half_end (L : List Value) (l : List Ev) : half L l l.length = l.map (renE L) := by unfold half; rw [List.take_length, List.drop_length, List.append_nil]
theorem half_at (L : List Value) (l : List Ev) (k : Nat) (hk : k < l.length) : (half L l k).getD k default = l.getD k default := by
  unfold half
  have hl : ((l.take k).map (renE L)).length = k := by rw [List.length_map, List.length_take]; omega
  rw [List.getD_eq_getElem?_getD, List.getElem?_append_right (by omega), hl, Nat.sub_self, List.getElem?_drop, List.getD_eq_getElem?_getD, Nat.add_zero]
theorem half_step (L : List Value) (l : List Ev) (k : Nat) (hk : k < l.length) : half L l (k + 1) = (half L l k).set k (renE L (l.getD k default)) := by
  unfold half
  have hl : ((l.take k).map (renE L)).length = k := by rw [List.length_map, List.length_take]; omega
  rw [Rwt.take_one hk, List.map_append, List.append_assoc, Rwt.drop_one hk, List.set_append_right _ _ (by omega), hl, Nat.sub_self]; rfl
theorem half_same (L : List Value) (l : List Ev) (k : Nat) (hk : k < l.length) (h : renE L (l.getD k default) = l.getD k default) : half L l (k + 1) = half L l k := by
  unfold half
  rw [Rwt.take_one hk, List.map_append, List.append_assoc, Rwt.drop_one hk]
  simp only [List.map_cons, List.map_nil, List.singleton_append, h]
end Dc
end Go.Proofs.YtgnmjaacnmkgnaaDoor.X
end
section
namespace Go.Proofs.Eng
open Go Go.RowKit
variable {P : Program}
theorem own_new {w : World} {B g : Nat} {e : TypeId} {v : Value} {n size : Nat} {xs : List Value} (O : w.ownsRow B e size v n xs) (hg : w.heap.size ≤ g) : ∀ b, some b = v.ownBlock → b ≠ g := fun b hb e => by
  have := (ownB O hb).2.1; omega
theorem own_sets_ap {w w1 : World} {B : Nat} {e : TypeId} {v : Value} {n size g : Nat} {xs : List Value} {o : Obj} (O : w.ownsRow B e size v n xs) (S : Sets w w1 g o) (h : ∀ b, some b = v.ownBlock → b ≠ g) : w1.ownsRow B e size v n xs := by
  refine ⟨O.1, ?_⟩
  rcases O.2 with h2 | ⟨b, cap, cur, rfl, hg, hh, r⟩
  · exact .inl h2
  · exact .inr ⟨b, cap, cur, rfl, hg, (S.far b (h b rfl)).trans hh, r⟩
theorem run_add_str {a : Act} {w : World} {o : Oper} {s t : ByteArray} {T U : TypeId} {x y : Operand} (hop : o.op = .binOp .add T x y U) (hx : a.eval x = .string s) (hy : a.eval y = .string t) (h : s.size + t.size ≤ 9223372036854775807) : (execOp a.eval o).run P w = .ok (.value (.string (s ++ t))) w := by
  have h1 : ¬ (((s.size + t.size : Nat) : Int) > IntKind.i64.max) := by
    have : IntKind.i64.max = 9223372036854775807 := by decide
    rw [this]; omega
  unfold execOp; rw [hop]
  simp only [hx, hy]
  simp [Sem.run_bind, Sem.run_pure, eqGuard, binOp, Op.stringOp, h1]
  omega
end Go.Proofs.Eng
namespace Go.Proofs.YtgnmjaacnmkgnaaDoor.X
open Go.RowKit Go.Shelf Go.Proofs Go.Maps Go.WideMaps
set_option linter.unusedVariables false
set_option linter.unusedSimpArgs false
namespace Tm
theorem key_str : Keyed Tryd.prog 9 := Dc.key_law
theorem kl_str {s : ByteArray} (hs : s.size ≤ maxLen) : keyOf Tryd.prog 9 (.string s) = some (.string s.data.toList) := keyOf_string_mk Tryd.underlying9 hs
theorem Cn.rowed {w w' : World} {B mb n : Nat} {kt : TypeId} {L : List Value} {B' size m : Nat} {e : TypeId} {v : Value} {xs : List Value} (X : Cn w B mb kt n L) (O : w.ownsRow B' e size v m xs) (G : w.grownBy w' v.ownBlock) : Cn w' B mb kt n L := X.keep (G.block _ X.lt fun hb => by
  obtain ⟨_, _, cs, h1⟩ := Eng.ownB O hb
  obtain ⟨es, c, h2⟩ := X.map
  rw [h1] at h2; cases h2)
end Tm
namespace Evt
structure Lz (n : Nat) (l : List Ev) : Prop where
  len : l.length ≤ n
  all : ∀ x ∈ l, x.text.size ≤ 2000 ∧ x.anchor.size ≤ 2002 ∧ x.tag.size ≤ 2000
theorem Lz.at_ {n : Nat} {l : List Ev} (h : Lz n l) {k : Nat} (hk : k < l.length) : (l.getD k default).text.size ≤ 2000 ∧ (l.getD k default).anchor.size ≤ 2002 ∧ (l.getD k default).tag.size ≤ 2000 := by
  refine h.all _ ?_
  rw [List.getD_eq_getElem?_getD, List.getElem?_eq_getElem hk]; exact List.getElem_mem hk
theorem Lz.text {n : Nat} {l : List Ev} (h : Lz n l) : ∀ k, k < l.length → (l.getD k default).text.size ≤ 2000 := fun k hk => (h.at_ hk).1
theorem Lz.anchor {n : Nat} {l : List Ev} (h : Lz n l) : ∀ k, k < l.length → (l.getD k default).anchor.size ≤ maxLen := fun k hk => Nat.le_trans (h.at_ hk).2.1 (by unfold maxLen; omega)
theorem Lz.tw {n : Nat} {l : List Ev} (h : Lz n l) (hn : n ≤ 100000) : Dc.TwAll ⟨[], [], []⟩ l := Tm.twall0 (Nat.le_trans h.len hn) fun x hx => ⟨(h.all x hx).2.2, (h.all x hx).1⟩
theorem set_at {α : Type} {f : α → List Value} {m : Nat} (hm : ∀ x, (f x).length = m) : ∀ (l : List α) (j i : Nat) (u : Value) (y : α), j < l.length → i < m → (∀ x, l[j]? = some x → (f x).set i u = f y) → (l.flatMap f).set (j * m + i) u = (l.set j y).flatMap f
  | [], j, i, u, y, h, _, _ => absurd h (Nat.not_lt_zero _)
  | x :: t, 0, i, u, y, _, hi, he => by
    rw [List.flatMap_cons, Nat.zero_mul, Nat.zero_add, List.set_append_left _ _ (by rw [hm]; exact hi), he x rfl]; rfl
  | x :: t, j + 1, i, u, y, h, hi, he => by
    rw [List.flatMap_cons, List.set_append_right _ _ (by rw [hm, Nat.succ_mul]; omega), hm, show (j + 1) * m + i - m = j * m + i by rw [Nat.succ_mul]; omega, set_at hm t j i u y (by simpa using h) hi (fun x hx => he x (by simpa using hx))]
    rfl
theorem cells_anchor {l : List Ev} {j : Nat} (hj : j < l.length) (u : ByteArray) : (cells l).set (j * 5 + 1) (.string u) = cells (l.set j { l.getD j default with anchor := u }) :=
  set_at enc_len l j 1 (.string u) _ hj (by decide) fun x hx => by
    have : l.getD j default = x := by rw [List.getD_eq_getElem?_getD, hx]; rfl
    rw [this]; rfl
end Evt
namespace Dc
open Evt (Ev)
theorem apart_age {w w' : World} {B B' : Nat} {e e' : TypeId} {size n size' n' : Nat} {v v' : Value} {xs xs' : List Value} (O : w.ownsRow B e size v n xs) (O' : w'.ownsRow B' e' size' v' n' xs') (h : w.heap.size ≤ B') : Apart v v' := fun b hb he => by
  have h1 := (Eng.ownB O hb).2.1
  have h2 := (Eng.ownB O' he).1
  omega
theorem half_cells (L : List Value) (l : List Ev) {j : Nat} (hj : j < l.length) : ((Evt.cells (half L l j)).drop (j * 5)).take 5 = [.int .i64 (l.getD j default).kind, .string (l.getD j default).anchor, .string (l.getD j default).tag, .string (l.getD j default).text, .bool (l.getD j default).plain] := by
  have h := Evt.cells_at (half L l j) j (by rw [half_len _ _ _ (by omega)]; exact hj)
  rw [half_at _ _ _ hj] at h; exact h
theorem half_put {w : World} {B j : Nat} {v : Value} {L : List Value} {l : List Ev} {u : ByteArray} (hj : j < l.length) (hu : renE L (l.getD j default) = { l.getD j default with anchor := u }) (O : w.ownsRow B 30 5 v l.length ((Evt.cells (half L l j)).set (j * 5 + 1) (.string u))) : w.ownsRow B 30 5 v l.length (Evt.cells (half L l (j + 1))) := by
  rw [Evt.cells_anchor (by rw [half_len _ _ _ (by omega)]; exact hj), half_at _ _ _ hj, ← hu, ← half_step _ _ _ hj] at O; exact O
theorem half_keep {w : World} {B j : Nat} {v : Value} {L : List Value} {l : List Ev} (hj : j < l.length) (hu : renE L (l.getD j default) = l.getD j default) (O : w.ownsRow B 30 5 v l.length (Evt.cells (half L l j))) : w.ownsRow B 30 5 v l.length (Evt.cells (half L l (j + 1))) := by
  rw [half_same _ _ _ hj hu]; exact O
theorem half_fin {w : World} {B j : Nat} {v : Value} {L : List Value} {l lo : List Ev} (hj : j = l.length) (hlo : lo = l.map (renE L)) (O : w.ownsRow B 30 5 v l.length (Evt.cells (half L l j))) : w.ownsRow B 30 5 v lo.length (Evt.cells lo) := by
  rw [hj, half_end, ← hlo] at O; rw [hlo, List.length_map, ← hlo]; exact O
theorem ren_em {L : List Value} {x : Ev} (h : x.anchor.toList.isEmpty = true) : renE L x = x := by unfold renE renA; rw [if_pos h]
theorem ren_no {L : List Value} {x : Ev} (h : x.anchor.toList.isEmpty = false) (h1 : (!(x.kind == 7)) = true) (h2 : (Tm.cnt L (.string x.anchor) == 0) = true) : renE L x = { x with anchor := ⟨#[]⟩ } := by unfold renE renA; rw [if_neg (by rw [h]; simp), if_pos ⟨h1, h2⟩]
theorem ren_z7 {L : List Value} {x : Ev} (h : x.anchor.toList.isEmpty = false) (h1 : (!(x.kind == 7)) = false) : renE L x = { x with anchor := (⟨#[122, 45]⟩ : ByteArray) ++ x.anchor } := by unfold renE renA; rw [if_neg (by rw [h]; simp), if_neg (fun e => by rw [h1] at e; exact absurd e.1 (by simp))]
theorem ren_zz {L : List Value} {x : Ev} (h : x.anchor.toList.isEmpty = false) (h2 : (Tm.cnt L (.string x.anchor) == 0) = false) : renE L x = { x with anchor := (⟨#[122, 45]⟩ : ByteArray) ++ x.anchor } := by unfold renE renA; rw [if_neg (by rw [h]; simp), if_neg (fun e => by rw [h2] at e; exact absurd e.2 (by simp))]
theorem ren_lz {n : Nat} {l : List Ev} (L : List Value) (h : Evt.Lt n l) : Evt.Lz n (l.map (renE L)) := ⟨by rw [List.length_map]; exact h.1, renE_lt L h⟩
theorem fin_small' {l : List Ev} {fin : List GV} {n : Nat} (h : l.length ≤ n) (hn : n ≤ 100000) (hm : fin.map (·.1) = (graphsF l).1) : fin.length ≤ 1000000 ∧ ∀ f ∈ fin, Sml 1000000 f.1 := by
  have hs := graphsF_small (l := l) (Nat.le_trans h (by omega))
  rw [← hm, List.length_map] at hs
  exact ⟨hs.1, fun f hf => hs.2 _ (List.mem_map.2 ⟨f, hf, rfl⟩)⟩
end Dc
end Go.Proofs.YtgnmjaacnmkgnaaDoor.X
end
section
namespace Go.Proofs.YtgnmjaacnmkgnaaDoor.X
open Go.RowKit Go.Shelf Go.Proofs Go.Proofs.YtgnmjaacnmkgnaaDoorW.PrintWords Go.Proofs.YtgnmjaacnmkgnaaDoorW.PrintLast Go.Proofs.YtgnmjaacnmkgnaaDoorW.PrintMore
set_option linter.unusedVariables false
set_option linter.unusedSimpArgs false
attribute [local go_sem] max2_int min2_int max_two min_two
set_option maxHeartbeats 4000000 in
set_option maxRecDepth 100000 in
theorem Dc.ours8_h (gv : Value) (h : List Dc.NV) (w : World) (hF : Eng.Reads w gv h.length 4 (Dc.cells h)) (hK : Dc.KsR w h) (hsm : Dc.Sml 1000000 (h.map (·.1))) : Calls Tryd.prog 20 #[gv] w fun e w' => ∃ o, e = .returned o ∧ Dc.GO w.heap.size w' (h.map (·.1)) o ∧ Below w.heap.size w w' := by
 have hm := Eng.Reads.len_le hF
 refine Eng.enter Tryd.func20 rfl fun act0 d0 s0 v0 => ?_
 have s0 : act0.tmps.size = 27 := s0
 have h0_0 : act0.eval (.tmp 0) = gv := v0 0 (by simp)
 clear v0
 have bl0 : Below w.heap.size w w := Below.refl _ _
 refine wp_seq ?_
 refine Eng.rS [.slice none 0 0] (fun _ => .plain) 1 0 s0 ?_ ?_
 ·refine .c ?_ (.nil)
  ·exact Eng.pv fun a w' H => Eng.vr rfl (Eng.run_assign rfl (rfl : a.eval (.const (.slice none 0 0)) = .slice none 0 0))
 intro act1 w1 T
 have h0_1 := T.r1 h0_0
 have Fgr_1 := T.f hF
 have h2_1 : act1.eval (.tmp 2) = .slice none 0 0 := T.done 0 2 rfl rfl
 have d1 := T.e d0
 have s1 := T.z s0
 have bl1 := T.b bl0
 clear T
 refine Eng.tail_nil ?_
 refine wp_seq ?_
 refine Eng.rS [.slice none 0 0] (fun _ => .plain) 1 0 s1 ?_ ?_
 ·refine .c ?_ (.nil)
  ·exact Eng.pv fun a w' H => Eng.vr rfl (Eng.run_assign rfl (rfl : a.eval (.const (.slice none 0 0)) = .slice none 0 0))
 intro act2 w2 T
 have ⟨h0_2, h2_2⟩ := T.r2 h0_1 h2_1
 have Fgr_2 := T.f Fgr_1
 have h3_2 : act2.eval (.tmp 3) = .slice none 0 0 := T.done 0 3 rfl rfl
 have d2 := T.e d1
 have s2 := T.z s1
 have bl2 := T.b bl1
 clear T
 refine Eng.tail_nil ?_
 refine wp_seq ?_
 refine wp_seq ?_
 refine Eng.rS [gv, .int .i64 ((h.length : Nat) : Int), .int .i64 0] (fun _ => .plain) 3 0 s2 ?_ ?_
 ·refine .c ?_ (.c ?_ (.c ?_ (.nil)))
  ·exact Eng.pv fun a w' H => Eng.vr rfl (Eng.run_move rfl (H.q 0 h0_2))
  ·exact Eng.pv fun a w' H => Eng.vr (v := .int .i64 ((h.length : Nat) : Int)) rfl (Eng.run_len_sl rfl Tryd.underlying48 (show a.eval (.tmp 6) = gv from (H.d 0 6)) (Eng.Reads.below Fgr_2 H.below))
  exact Eng.pv fun a w' H => Eng.vr rfl (Eng.run_move rfl (rfl : a.eval (.const (.int .i64 0)) = .int .i64 0))
 intro act3 w3 T
 have ⟨h0_3, h2_3, h3_3⟩ := T.r3 h0_2 h2_2 h3_2
 have h6_3 : act3.eval (.tmp 6) = gv := T.done 0 6 rfl rfl
 have h7_3 : act3.eval (.tmp 7) = .int .i64 ((h.length : Nat) : Int) := T.done 1 7 rfl rfl
 have h8_3 : act3.eval (.tmp 8) = .int .i64 0 := T.done 2 8 rfl rfl
 have d3 := T.e d2
 have s3 := T.z s2
 have bl3 := T.b bl2
 clear T
 refine Eng.tail_nil ?_
 refine wp_block ?_
 refine Eng.loopN (fun n a w' => ∃ (k : Nat) (o : Value) (hs : List Dc.NV), h.length - k = n ∧ (k ≤ h.length) ∧ (List.map (·.1) hs = List.map (·.1) (List.take k h)) ∧ (w'.ownsRow w.heap.size 81 4 o (List.length hs) (Dc.cells hs)) ∧ (Dc.KsO w.heap.size w' hs) ∧ a.defers = [] ∧ a.tmps.size = 27 ∧ Below w.heap.size w w' ∧ a.eval (.tmp 0) = gv ∧ a.eval (.tmp 2) = .slice none 0 0 ∧ a.eval (.tmp 3) = o ∧ a.eval (.tmp 6) = gv ∧ a.eval (.tmp 7) = .int .i64 ((h.length : Nat) : Int) ∧ a.eval (.tmp 8) = .int .i64 (k : Nat)) (n0 := h.length - 0) ?_ ?_
 ·exact ⟨0, .slice none 0 0, [], rfl, by omega, rfl, World.ownsRow_nil _ _ _ _, Dc.KsO.nil, d3, s3, bl3, h0_3, h2_3, (h3_3.trans (by first | rfl | (congr 1; rw [Eng.i64_id (by omega) (by omega)]; omega) | (simp; done))), h6_3, h7_3, (h8_3.trans (by first | rfl | (congr 1; rw [Eng.i64_id (by omega) (by omega)]; omega) | (simp; done)))⟩
 rintro n act4 w4 ⟨k, o, hs, rfl, hc0_4, hc1_4, hc2_4, hc3_4, d4, s4, bl4, h0_4, h2_4, h3_4, h6_4, h7_4, h8_4⟩
 have Fgr_4 := Eng.Reads.below hF bl4
 have hk1 := hc0_4
 have hmap := hc1_4
 have hsl := Dc.map_len hk1 hmap
 refine wp_seq ?_
 obtain ⟨q9, Bq9⟩ : ∃ b : Bool, b = (decide ((k : Nat) < ((h.length : Nat) : Int))) := ⟨_, rfl⟩
 refine Eng.rS [.bool q9] (fun _ => .plain) 1 0 s4 ?_ ?_
 ·refine .c ?_ (.nil)
  ·refine Eng.pv fun a w' H => ?_
   refine Eng.vr (v := .bool (decide ((k : Nat) < ((h.length : Nat) : Int)))) (by show _ = Value.bool q9; rw [Bq9]) ?_
   have e0 := (H.q 8 h8_4)
   have e1 := (H.q 7 h7_4)
   simp only [execOp, resolve, List.map_toArray, List.map_cons, List.map_nil, e0, e1]
   go_simp
 intro act5 w5 T
 have ⟨h0_5, h2_5, h3_5, h6_5, h7_5, h8_5⟩ := T.r6 h0_4 h2_4 h3_4 h6_4 h7_4 h8_4
 have Fgr_5 := T.f Fgr_4
 have Oout_5 := T.g hc2_4
 have h9_5 : act5.eval (.tmp 9) = .bool q9 := T.done 0 9 rfl rfl
 have d5 := T.e d4
 have s5 := T.z s4
 have bl5 := T.b bl4
 have XK_5 := Dc.KsO.below hc3_4 T.below
 clear T
 refine Eng.tail_nil ?_
 refine wp_seq ?_
 refine wp_cond_split h9_5 (fun hq => ?_) (fun hq => ?_)
 ·
  have c9 := Bq9.symm.trans hq
  clear hq
  have c9 := of_decide_eq_true c9
  have hk0 : k < h.length := by omega
  have Fk0 := hK.at_ hk0
  have hcell := Dc.cells_at h k hk0
  have hkl := hsm.at_ hk0
  obtain ⟨nk, Hnk⟩ : ∃ n, n = (h.getD k default).1 := ⟨_, rfl⟩
  obtain ⟨kv, hkv⟩ : ∃ v, v = (h.getD k default).2 := ⟨_, rfl⟩
  rw [← Hnk, ← hkv] at hcell Fk0
  rw [← Hnk] at hkl
  clear hkv
  have Fkj7 := Eng.Reads.below Fk0 bl5
  refine wp_skip ?_
  refine wp_seq ?_
  refine wp_block ?_
  refine wp_seq ?_
  refine Eng.regionT (n := 4) rfl ?_
  refine Eng.tail_val (w1 := w5) (v := Eng.elemPtr gv (k * 4)) rfl rfl rfl ?_ s5 rfl ?_
  ·exact Eng.run_index_sl rfl Tryd.underlying48 (by kernel_rfl) (show act5.eval (.tmp 6) = gv from h6_5) ((show act5.eval (.tmp 8) = .int .i64 (k : Nat) from h8_5).trans (congrArg (Value.int _) (show (k : Nat) = ((k : Nat) : Int) from by omega))) Fgr_5 (by omega) rfl
  intro act8 d8 s8 h10_8 hr
  have ⟨h0_8, h2_8, h3_8, h6_8, h7_8, h8_8⟩ := Eng.k6 hr h0_5 h2_5 h3_5 h6_5 h7_5 h8_5
  have d8 := d8.trans d5
  clear hr
  refine Eng.tail_val (w1 := w5) (v := .agg #[.int .i64 nk.kind, .string nk.tag, .string nk.text, kv]) rfl rfl rfl ?_ s8 rfl ?_
  ·exact Eng.run_load_els [.int .i64 nk.kind, .string nk.tag, .string nk.text, kv] rfl (show act8.eval (.tmp 10) = Eng.elemPtr gv (k * 4) from h10_8) Fgr_5 (hcell) rfl Tryd.underlying57 rfl (by kernel_rfl)
  intro act9 d9 s9 h11_9 hr
  have ⟨h0_9, h2_9, h3_9, h6_9, h7_9, h8_9⟩ := Eng.k6 hr h0_8 h2_8 h3_8 h6_8 h7_8 h8_8
  have d9 := d9.trans d8
  clear hr
  refine Eng.tail_ex rfl rfl rfl (Eng.alloc_ex (cs := #[.int .i64 0, .string ⟨#[]⟩, .string ⟨#[]⟩, .slice none 0 0]) rfl (by kernel_rfl)) s9 rfl fun v_10 w10 act10 R d10 s10 h5_10 hr => ?_
  obtain ⟨g5_10, ev_10, rg_10, lg5_10, kg5_10, b_10⟩ := R
  have ⟨h0_10, h2_10, h3_10, h6_10, h7_10, h8_10, h11_10⟩ := Eng.k7 hr h0_9 h2_9 h3_9 h6_9 h7_9 h8_9 h11_9
  have d10 := d10.trans d9
  clear hr
  have og5_10 : w.heap.size ≤ g5_10 := Nat.le_trans bl5.size rg_10
  have Oout_10 := Eng.own_below Oout_5 b_10
  have Fkj_10 := Eng.Reads.below Fkj7 b_10
  have XK_10 := Dc.KsO.below XK_5 b_10
  have bl10 := bl5.trans (b_10.mono bl5.size)
  rw [ev_10] at h5_10
  refine Eng.tail_put [.int .i64 nk.kind, .string nk.tag, .string nk.text, kv] (n := 0) (new := #[.int .i64 nk.kind, .string nk.tag, .string nk.text, kv]) rfl rfl rfl kg5_10 rfl ?_ fun w11 S => ?_
  ·have e0 : act10.eval (.tmp 5) = .pointer (some ⟨g5_10, 0, none⟩) := h5_10
   have e1 : act10.eval (.tmp 11) = .agg #[.int .i64 nk.kind, .string nk.tag, .string nk.text, kv] := h11_10
   obtain ⟨A3_, c3_, ev3_⟩ := Eng.Reads.shape Fkj_10
   subst ev3_
   have z0 := (Eng.cells kg5_10 (0)).trans (rfl)
   have f0 := Eng.unfrozen kg5_10 (0)
   have z1 := (Eng.cells kg5_10 (1)).trans (rfl)
   have f1 := Eng.unfrozen kg5_10 (1)
   have z2 := (Eng.cells kg5_10 (2)).trans (rfl)
   have f2 := Eng.unfrozen kg5_10 (2)
   have z3 := (Eng.cells kg5_10 (3)).trans (rfl)
   have f3 := Eng.unfrozen kg5_10 (3)
   simp only [execOp]
   rw [e0, e1]
   go_simp
   try rfl
  have kg5_10_11 := S.new
  have lg5_10_11 := Nat.lt_of_lt_of_eq lg5_10 S.size.symm
  have bl11 := S.below bl10 og5_10
  have Oout_11 := Eng.own_sets Oout_10 S kg5_10 rfl
  have Fkj_11 := Eng.Reads.below Fk0 bl11
  have XK_11 := Dc.KsO.sets XK_10 S kg5_10 rfl
  clear S
  refine Eng.tail_nil ?_
  refine Eng.regionD (Eng.tell [.still fun u_ => u_ = o, .still fun u_ => u_ = .pointer (some ⟨g5_10, 0, none⟩), .still fun u_ => u_ = .int .i64 nk.kind, .still fun u_ => u_ = .pointer (some ⟨g5_10, 1, none⟩), .still fun u_ => u_ = .string nk.tag, .still fun u_ => u_ = .pointer (some ⟨g5_10, 2, none⟩), .still fun u_ => u_ = .string nk.text, .still fun u_ => u_ = .pointer (some ⟨g5_10, 3, none⟩), .still fun u_ => u_ = kv, .own w11.heap.size 3 1 nk.kids.length (Dc.ints nk.kids), Dc.Tl.node w11.heap.size nk, Dc.Tl.rowNode w11.heap.size nk]) (fun i => ([.plain, .plain, .plain, .plain, .plain, .plain, .plain, .plain, .plain, .plain, .plain, .plain] : List Eng.Kind).getD i .plain) 12 2 27 (by kernel_rfl) s10 rfl (by kernel_rfl) (Eng.tell_stable _) (Or.inl (Eng.no_stores (by kernel_rfl))) ?_ ?_
  ·refine .c ?_ (.c ?_ (.c ?_ (.c ?_ (.c ?_ (.c ?_ (.c ?_ (.c ?_ (.c ?_ (.c ?_ (.c ?_ (.c ?_ (.cons (fun h => absurd h (by decide)) (.cons (fun h => absurd h (by decide)) (.nil))))))))))))))
   ·exact Eng.pv fun a w' H => Eng.vr (v := o) rfl (Eng.run_move rfl (H.q 3 h3_10))
   ·exact Eng.pv fun a w' H => Eng.vr (v := .pointer (some ⟨g5_10, 0, none⟩)) rfl (Eng.run_fieldb rfl Tryd.underlying57 0 (by kernel_rfl) (H.q 5 h5_10))
   ·exact Eng.pv fun a w' H => Eng.vr (v := .int .i64 nk.kind) rfl (Eng.run_loadb rfl (H.d 1 13) ((H.below.block _ lg5_10_11).trans kg5_10_11) rfl (by kernel_rfl))
   ·exact Eng.pv fun a w' H => Eng.vr (v := .pointer (some ⟨g5_10, 1, none⟩)) rfl (Eng.run_fieldb rfl Tryd.underlying57 1 (by kernel_rfl) (H.q 5 h5_10))
   ·exact Eng.pv fun a w' H => Eng.vr (v := .string nk.tag) rfl (Eng.run_loadb rfl (H.d 3 15) ((H.below.block _ lg5_10_11).trans kg5_10_11) rfl (by kernel_rfl))
   ·exact Eng.pv fun a w' H => Eng.vr (v := .pointer (some ⟨g5_10, 2, none⟩)) rfl (Eng.run_fieldb rfl Tryd.underlying57 2 (by kernel_rfl) (H.q 5 h5_10))
   ·exact Eng.pv fun a w' H => Eng.vr (v := .string nk.text) rfl (Eng.run_loadb rfl (H.d 5 17) ((H.below.block _ lg5_10_11).trans kg5_10_11) rfl (by kernel_rfl))
   ·exact Eng.pv fun a w' H => Eng.vr (v := .pointer (some ⟨g5_10, 3, none⟩)) rfl (Eng.run_fieldb rfl Tryd.underlying57 3 (by kernel_rfl) (H.q 5 h5_10))
   ·exact Eng.pv fun a w' H => Eng.vr (v := kv) rfl (Eng.run_loadb rfl (H.d 7 19) ((H.below.block _ lg5_10_11).trans kg5_10_11) rfl (by kernel_rfl))
   ·refine Eng.pv fun a w' H => ?_
    refine Eng.call Tryd.func42 (by kernel_rfl) (by kernel_rfl) rfl #[kv] ?_ ?_
    ·have e0 : a.eval (.tmp 20) = kv := (H.d 8 20); simp only [List.map_toArray, List.map_cons, List.map_nil, e0]
    refine (Dc.clone_calls kv nk.kids _ (Eng.Reads.below Fkj_11 H.below) (by omega)).mono ?_
    rintro e w'' ⟨v, rfl, O, hb⟩
    exact ⟨_, rfl, Eng.own_mono O H.below.size, hb⟩
   ·refine Eng.pv fun a w' H => ?_
    have O_ : w'.ownsRow w11.heap.size 3 1 (a.eval (.tmp 21)) nk.kids.length (Dc.ints nk.kids) := H.dep 9 21 (by kernel_rfl) rfl
    obtain ⟨u_, hu_⟩ : ∃ u, u = a.eval (.tmp 21) := ⟨_, rfl⟩
    rw [← hu_] at O_
    obtain ⟨A_, c_, ev_⟩ := Eng.Reads.shape (Eng.Reads.of_own O_)
    refine Eng.vr (v := .agg #[.int .i64 nk.kind, .string nk.tag, .string nk.text, u_]) ⟨u_, rfl, O_⟩ ?_
    subst ev_
    have e0 : a.eval (.tmp 14) = .int .i64 nk.kind := (H.d 2 14)
    have e1 : a.eval (.tmp 16) = .string nk.tag := (H.d 4 16)
    have e2 : a.eval (.tmp 18) = .string nk.text := (H.d 6 18)
    have e3 : a.eval (.tmp 21) = .slice A_ _ c_ := hu_.symm
    simp only [execOp, resolve, List.map_toArray, List.map_cons, List.map_nil, e0, e1, e2, e3]
    go_simp
    try rfl
   refine Eng.pv fun a w' H => ?_
   obtain ⟨u_, e_, O_⟩ := (show Dc.NodeOne w11.heap.size nk (a.eval (.tmp 22)) w' from H.dep 10 22 (by kernel_rfl) rfl)
   obtain ⟨A_, c_, ev_⟩ := Eng.Reads.shape (Eng.Reads.of_own O_)
   refine Eng.val_ex (Eng.run_build1I (size := 4) (z := .agg #[.int .i64 0, .string ⟨#[]⟩, .string ⟨#[]⟩, .slice none 0 0]) [.int .i64 nk.kind, .string nk.tag, .string nk.text, u_] rfl Tryd.underlying51 (by kernel_rfl) rfl rfl rfl (by rw [ev_]; kernel_rfl) e_) fun v1 w'' R => ?_
   obtain ⟨F, hb⟩ := R
   exact ⟨hb, ⟨u_, Eng.own_below O_ hb, F⟩⟩
  intro act12 w12 T
  have ⟨h0_12, h2_12, h6_12, h7_12, h8_12⟩ := T.r5 h0_10 h2_10 h6_10 h7_10 h8_10
  have Oout_12 := T.g Oout_11
  have h12_12 : act12.eval (.tmp 12) = o := T.done 0 12 rfl rfl
  have OO23_12 := T.done 11 23 rfl rfl
  obtain ⟨v23_12, h23_12⟩ : ∃ v, act12.eval (.tmp 23) = v := ⟨_, rfl⟩
  have d12 := T.e d10
  have s12 := T.z s10
  have bl12 := T.b bl11
  have XK_12 := Dc.KsO.below XK_11 T.below
  have OP23_12 : Dc.RowNode w11.heap.size nk v23_12 w12 := by rw [← h23_12]; exact OO23_12
  clear OO23_12
  obtain ⟨uk_12, Ou_12, Fb_12⟩ := OP23_12
  have Ok_12 := Eng.own_mono Ou_12 bl11.size
  have Fk_12 := Eng.Reads.of_own Ok_12
  clear T
  refine Eng.tail_ex rfl rfl rfl (Eng.run_appendI (z := .agg #[.int .i64 0, .string ⟨#[]⟩, .string ⟨#[]⟩, .slice none 0 0]) rfl Tryd.underlying51 (by kernel_rfl) rfl rfl h12_12 Oout_12 h23_12 Fb_12 (by intro u hu; simp only [List.mem_cons, List.not_mem_nil, or_false] at hu; obtain ⟨A_, c_, e_⟩ := Eng.Reads.shape Fk_12; rcases hu with rfl | rfl | rfl | rfl <;> first | rfl | (rw [e_]; rfl)) (by have := hsm.1; rw [List.length_map] at this; omega) bl12.size) s12 rfl fun v_13 w13 act13 R d13 s13 h24_13 hr => ?_
  obtain ⟨O_13, _, b_13, G_13, EO_13⟩ := R
  have ⟨h0_13, h2_13, h6_13, h7_13, h8_13⟩ := Eng.k5 hr h0_12 h2_12 h6_12 h7_12 h8_12
  have d13 := d13.trans d12
  clear hr
  have XK_13 := Dc.KsO.grown XK_12 G_13 Oout_12 rfl
  have bl13 := bl12.trans b_13
  have Oku_13 := Eng.own_grown Ok_12 G_13 Oout_12 rfl
  have Oa13 : w13.ownsRow w.heap.size 81 4 v_13 (hs ++ [(nk, uk_12)]).length (Dc.cells (hs ++ [(nk, uk_12)])) := Dc.own_snocN O_13
  have Fa13 := Eng.Reads.of_own Oa13
  refine Eng.tail_val rfl rfl rfl (Eng.run_assign rfl h24_13) s13 rfl fun act14 d14 s14 h3_14 hr => ?_
  have ⟨h0_14, h2_14, h6_14, h7_14, h8_14⟩ := Eng.k5 hr h0_13 h2_13 h6_13 h7_13 h8_13
  have d14 := d14.trans d13
  clear hr
  refine Eng.tail_nil ?_
  refine Eng.rS [.int .i64 (IntKind.i64.wrap ((k : Nat) + 1)), .int .i64 (IntKind.i64.wrap ((k : Nat) + 1))] (fun _ => .plain) 2 0 s14 ?_ ?_
  ·refine .c ?_ (.c ?_ (.nil))
   ·refine Eng.pv fun a w' H => ?_
    refine Eng.vr (v := .int .i64 (IntKind.i64.wrap ((k : Nat) + 1))) rfl ?_
    have e0 := (H.q 8 h8_14)
    have e1 : a.eval (.const (.int .i64 1)) = .int .i64 1 := rfl
    simp only [execOp, resolve, List.map_toArray, List.map_cons, List.map_nil, e0, e1]
    go_simp
   exact Eng.pv fun a w' H => Eng.vr rfl (Eng.run_move rfl (H.d 0 25))
  intro act15 w15 T
  have ⟨h0_15, h2_15, h3_15, h6_15, h7_15⟩ := T.r5 h0_14 h2_14 h3_14 h6_14 h7_14
  have Oku_15 := T.g Oku_13
  have Oa13_15 := T.g Oa13
  have h8_15 : act15.eval (.tmp 8) = .int .i64 (IntKind.i64.wrap ((k : Nat) + 1)) := T.done 1 8 rfl rfl
  have d15 := T.e d14
  have s15 := T.z s14
  have bl15 := T.b bl13
  have XK_15 := Dc.KsO.below XK_13 T.below
  clear T
  refine Eng.tail_nil ?_
  exact ⟨_, by omega, k + 1, v_13, (hs ++ [(nk, uk_12)]), rfl, by omega, Dc.map_snoc hk0 hmap Hnk, Oa13_15, Dc.KsO.snoc XK_15 Oku_15, d15, s15, bl15, h0_15, h2_15, (h3_15.trans (by first | rfl | (congr 1; rw [Eng.i64_id (by omega) (by omega)]; omega) | (simp; done))), h6_15, h7_15, (h8_15.trans (by first | rfl | (congr 1; rw [Eng.i64_id (by omega) (by omega)]; omega) | (simp; done)))⟩
 have c9 := Bq9.symm.trans hq
 clear hq
 have c9 := of_decide_eq_false c9
 have hke : k = h.length := by omega
 refine wp_exit ?_
 refine wp_seq ?_
 refine Eng.rS [o, o] (fun _ => .plain) 2 0 s5 ?_ ?_
 ·refine .c ?_ (.c ?_ (.nil))
  ·exact Eng.pv fun a w' H => Eng.vr rfl (Eng.run_move rfl (H.q 3 h3_5))
  exact Eng.pv fun a w' H => Eng.vr rfl (Eng.run_assign rfl (H.d 0 26))
 intro act17 w17 T
 have Oout_17 := T.g Oout_5
 have h2_17 : act17.eval (.tmp 2) = o := T.done 1 2 rfl rfl
 have d17 := T.e d5
 have bl17 := T.b bl5
 have XK_17 := Dc.KsO.below XK_5 T.below
 clear T
 refine Eng.tail_nil ?_
 refine wp_ret ?_
 repeat (first | with_reducible refine Eng.in_ret ?_ | with_reducible refine Eng.then_ret ?_)
 rw [hke, List.take_length] at hmap
 exact Eng.ret1 rfl d17 h2_17 ⟨_, rfl, ⟨hs, hmap, Oout_17, XK_17⟩, bl17⟩
end Go.Proofs.YtgnmjaacnmkgnaaDoor.X
end
