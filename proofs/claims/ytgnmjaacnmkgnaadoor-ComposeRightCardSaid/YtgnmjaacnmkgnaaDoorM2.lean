/- Words and walks that the row of ComposeRight needs: printed by programs, and plain laws. -/
import Derived.Test.YtgnmjaacnmkgnaaDoorM1
import Derived.Maps.AppendAt
import Derived.Deep.Upon
import Derived.Great.BuildSlice
import Derived.RangeFuncNested
import Derived.RangeFuncSeq
import Derived.RangeFuncBound
import Derived.RangeFuncCalls
import Derived.RangeFuncLeaves
import Derived.RangeFuncKeeps
import Derived.Laws.ResultCell
import Derived.Laws.Tables
import Derived.Laws.Cover3
import Derived.Lib.AppendZeros
import Derived.Great.FillDense
import Derived.OrdersHeld
import Derived.Deep.RegionHeld3
import Derived.Laws.BitsLemmas
import Derived.RowKit
import Derived.Test.YtgnmjaacnmkgnaaDoorM0
import Derived.WalkKit
import Derived.Deep.DrawnRows
import Derived.Lib.SmallJoins
import Derived.Carry
import Derived.Test.YtgnmjaacnmkgnaaDoorRows
import Derived.Deep.SlicePairs
import Derived.Handed
import Derived.WalkSmall
import Derived.Laws.OwnMore
namespace Go.Proofs.YtgnmjaacnmkgnaaDoorW.PrintWords
end Go.Proofs.YtgnmjaacnmkgnaaDoorW.PrintWords
namespace Go.Proofs.YtgnmjaacnmkgnaaDoorW.PrintLast
end Go.Proofs.YtgnmjaacnmkgnaaDoorW.PrintLast
namespace Go.Proofs.YtgnmjaacnmkgnaaDoorW.PrintMore
end Go.Proofs.YtgnmjaacnmkgnaaDoorW.PrintMore
section
namespace Go.Proofs.Eng
open Go Go.RowKit
set_option linter.unusedSimpArgs false
set_option linter.unusedVariables false
variable {P : Program}
theorem below_of_grown {w w' : World} {B : Nat} {v : Value} (h : w.grownBy w' v.ownBlock) (hB : B ≤ w.heap.size) (hv : ∀ g, v.ownBlock = some g → B ≤ g) : Below B w w' :=
  ⟨h.os, h.tape, h.output, h.size, fun k hk => h.block k (by omega) fun e => by have := hv k e.symm; omega⟩
theorem own_block {w : World} {B : Nat} {e : TypeId} {v : Value} {n size : Nat} {xs : List Value} (O : w.ownsRow B e size v n xs) : ∀ g, v.ownBlock = some g → B ≤ g := by
  rcases O.2 with ⟨rfl, _⟩ | ⟨g, cap, cur, rfl, hg, _⟩
  · intro g h; simp [Value.ownBlock] at h
  · intro g' h; simp only [Value.ownBlock, Option.some.injEq] at h; omega
theorem own_ne {w : World} {B : Nat} {e T : TypeId} {v : Value} {n size g : Nat} {xs : List Value} {cs : Array Value} (O : w.ownsRow B e size v n xs) (hk : w.heap[g]? = some (.cells cs T (0, 0))) (hne : (e != T) = true) : some g ≠ v.ownBlock := by
  rcases O.2 with ⟨rfl, _⟩ | ⟨g', cap, cur, rfl, hg, hh, _⟩
  · simp [Value.ownBlock]
  · intro h; simp only [Value.ownBlock, Option.some.injEq] at h; subst h
    rw [hk] at hh; injection hh with hh; injection hh with _ hh; simp [hh] at hne
theorem own_append {w : World} {B : Nat} {t ty e : TypeId} {i : TypeInfo} {z : Value} {size : Nat} (ht : P.underlying t = some (.slice e)) (hi : P.info? e = some i) (hz : i.zero = some z) (hsize : i.size = size) (hby : i.bytes ≤ 128) (hzs : z.cells.size = size) (hsz : 0 < size)
    {v : Value} {n : Nat} {xs : List Value} (O : w.ownsRow B e size v n xs) {x : Value} {m : Nat} {news : List Value} (F : Reads w x m size news) (h1 : ∀ u ∈ news, u.oneCell' = true) (h63 : n + m ≤ 1000000000000) (hB : B ≤ w.heap.size) :
    ∃ v' w', (Builtin.append_ #[t, t] ty #[v, x]).run P w = .ok v' w' ∧ w'.ownsRow B e size v' (n + m) (xs ++ news) ∧ w'.ownsRow B e size v n xs ∧ Below B w w' ∧ w.grownBy w' v.ownBlock ∧ (v'.ownBlock = v.ownBlock ∨ v'.ownBlock = some w.heap.size) := by
  have hbm : (n + m) * i.bytes ≤ 140737488355328 := Nat.le_trans (Nat.mul_le_mul h63 hby) (by decide)
  have h63' : n + m ≤ maxLen := by unfold maxLen; omega
  obtain ⟨hl, A, c, rfl, hc, hm, hx⟩ := F
  cases A with
  | none =>
    have hm0 : m = 0 := by
      rcases Nat.eq_zero_or_pos m with h | h
      · exact h
      · have h0 : 0 < news.length := by rw [hl]; exact Nat.mul_pos h hsz
        obtain ⟨ad, e', _⟩ := hx 0 _ (List.getElem?_eq_getElem h0)
        cases e'
    subst hm0
    have hn : news = [] := List.eq_nil_of_length_eq_zero (by simpa using hl)
    subst hn
    have hs : Src P i.size t (.slice none 0 c) 0 [] w := Src.ofNil w ht c
    refine ⟨v, w, ?_, by simpa using O, O, Below.refl _ _, ⟨rfl, rfl, rfl, Nat.le_refl _, fun _ _ _ => rfl⟩, .inl rfl⟩
    rcases O.2 with ⟨rfl, rfl⟩ | ⟨g, cap, cur, rfl, hg, hh, hn, _⟩
    · exact run_append_nothing w t t ty e i ht hi none 0 0 (Nat.le_refl _) _ hs
    · exact run_append_nothing w t t ty e i ht hi _ n cap hn _ hs
  | some a =>
    have hx' : ∀ j u, news[j]? = some u → w.cell? (a.add j) = some u := fun j u h => by
      obtain ⟨ad, e', hcell⟩ := hx j u h
      injection e' with e'; subst e'; exact hcell
    obtain ⟨v', w', hr, h2, h3, h4, h5⟩ := run_append_own_at (P := P) w B t ty e i z size i.bytes ht hi hz hsize rfl hzs hsz v n xs O a m c news hl hx' h1 h63' hbm hB
    refine ⟨v', w', hr, h2, ?_, below_of_grown h3 hB (own_block O), h3, h5⟩
    subst hsize
    rcases O.2 with ⟨rfl, rfl⟩ | ⟨g, cap, cur, rfl, hbg, hg, hnc, hcm, hcs, htake⟩
    · have : xs = [] := List.eq_nil_of_length_eq_zero (by simpa using O.1)
      subst this; exact World.ownsRow_nil w' B e i.size
    · by_cases hroom : n + m ≤ cap
      · have hfit : n * i.size + news.length ≤ cur.size := by rw [hl, hcs, ← Nat.add_mul]; exact Nat.mul_le_mul_right _ hroom
        have hr' := run_append_room (P := P) w t ty e i ht hi g n cap cur hg a m c news hl hx' h1 hroom hfit
        rw [hr'] at hr
        injection hr with _ hw
        subst hw
        refine ⟨O.1, .inr ⟨g, cap, _, rfl, hbg, setRow_heap w g cur _ e _ hg, hnc, hcm, ?_, ?_⟩⟩
        · simp only [List.size_toArray, List.length_append, List.length_take, List.length_drop, Array.length_toList]
          omega
        · simp only [List.append_assoc]
          rw [List.take_append_of_le_length (by rw [List.length_take, Array.length_toList]; omega), List.take_take, Nat.min_self]
          exact htake
      · have holds : ∀ j u, xs[j]? = some u → w.cell? ((⟨g, 0, none⟩ : Addr).add j) = some u := O.cells (g := g) rfl
        have hr' := run_append_grow (P := P) w t ty e i z ht hi hz ⟨g, 0, none⟩ n cap xs O.1 holds a m c news hl hx' (by omega) (by omega) (growslice_fits (by omega) hbm)
        rw [hr'] at hr
        injection hr with _ hw
        subst hw
        refine ⟨O.1, .inr ⟨g, cap, cur, rfl, hbg, ?_, hnc, hcm, hcs, htake⟩⟩
        exact (heap_alloc_old w.drew _ (by simpa using (Array.getElem?_eq_some_iff.1 hg).1)).trans hg
theorem Reads.len_le {w : World} {v : Value} {n size : Nat} {xs : List Value} (F : Reads w v n size xs) : n ≤ 9223372036854775807 := by
  obtain ⟨_, A, c, _, h, hm, _⟩ := F
  unfold maxLen at hm; omega
def cutVal (v : Value) (l h size : Nat) : Value := match v with | .slice A n c => .slice (if c = l then A else A.map (·.add (l * size))) (h - l) (c - l) | _ => undef
inductive Tl where
  | still (p : Value → Prop)
  | own (B : Nat) (e : TypeId) (size n : Nat) (xs : List Value)
  | lasts (p : Value → World → Prop) (h : ∀ v w w', p v w → Below w.heap.size w w' → p v w')
def Tl.holds : Tl → Value → World → Prop
  | .still p, v, _ => p v
  | .own B e size n xs, v, w => w.ownsRow B e size v n xs
  | .lasts p _, v, w => p v w
def Tl.isStill : Tl → Bool
  | .still _ => true
  | _ => false
def tell (L : List Tl) (i : Nat) (v : Value) (w : World) : Prop := (L.getD i (.still fun _ => True)).holds v w
theorem tell_stable (L : List Tl) : ∀ i v w w', tell L i v w → Below w.heap.size w w' → tell L i v w' := by
  intro i v w w' h hb
  unfold tell at h ⊢
  cases hq : L.getD i (.still fun _ => True) with
  | still p => rw [hq] at h; exact h
  | own B e size n xs => rw [hq] at h; exact own_below h hb
  | lasts p hp => rw [hq] at h; exact hp _ _ _ h hb
theorem no_stores {ks : List Kind} (h : (ks.all fun x => match x with | .store _ _ => false | _ => true) = true) : ∀ i j cs, ks.getD i .plain ≠ .store j cs := by
  intro i j cs hn
  rcases Nat.lt_or_ge i ks.length with hl | hl
  · rw [List.getD_eq_getElem?_getD, List.getElem?_eq_getElem hl] at hn
    simp only [Option.getD_some] at hn
    have := List.all_eq_true.1 h _ (List.getElem_mem hl)
    rw [hn] at this
    simp at this
  · rw [List.getD_eq_getElem?_getD, List.getElem?_eq_none hl] at hn; cases hn
section duties
variable {ops : Array Oper} {Q : Exit → Act → World → Prop} {D : Nat → Value → World → Prop} {k : Nat → Kind} {a0 : Act} {w0 : World} {m i : Nat} {o : Oper}
theorem own_mono {w : World} {B B' : Nat} {e : TypeId} {v : Value} {n size : Nat} {xs : List Value} (O : w.ownsRow B e size v n xs) (h : B' ≤ B) : w.ownsRow B' e size v n xs := by
  refine ⟨O.1, ?_⟩
  rcases O.2 with h2 | ⟨g, cap, cur, e1, hg, r⟩
  · exact .inl h2
  · exact .inr ⟨g, cap, cur, e1, by omega, r⟩
theorem val_own {a : Act} {w w1 : World} {v : Value} (hrun : (execOp a.eval o).run P w = .ok (.value v) w1) (hB : Below w.heap.size w w1) (h : D i v w1) : o.wp P a w (fun a' w' => ∃ v, a' = a.put o.dst v ∧ (o.dst ≠ none → D i v w') ∧ Below w.heap.size w w') Q := by
  unfold Oper.wp
  rw [hrun]
  exact ⟨v, rfl, fun _ => h, hB⟩
theorem val_ex {a : Act} {w : World} {R : Value → World → Prop} (hrun : ∃ v w1, (execOp a.eval o).run P w = .ok (.value v) w1 ∧ R v w1) (h : ∀ v w1, R v w1 → Below w.heap.size w w1 ∧ D i v w1) : o.wp P a w (fun a' w' => ∃ v, a' = a.put o.dst v ∧ (o.dst ≠ none → D i v w') ∧ Below w.heap.size w w') Q := by
  obtain ⟨v, w1, hr, hR⟩ := hrun
  exact val_own hr (h v w1 hR).1 (h v w1 hR).2
theorem eats {L : List Tl} {B : Nat} {T : TypeId} {size n n' e d : Nat} {xs xs' : List Value} (hk : k i = .eats) (hg : o.guard = none) (hno : ∀ j T c, k j ≠ .alloc T c) (hb : bound o e = true) (hd : dstOf ops e = some d)
    (he : L.getD e (.still fun _ => True) = .own B T size n xs) (hi : L.getD i (.still fun _ => True) = .own B T size n' xs') (hL : ((List.range L.length).all fun j => j == e || j == i || (L.getD j (.still fun _ => True)).isStill) = true)
    (h : ∀ (a : Act) (w : World), At ops (tell L) a0 w0 i o a w → w.ownsRow B T size (a.eval (.tmp d)) n xs → ∃ v w', (execOp a.eval o).run P w = .ok (.value v) w' ∧ Below w0.heap.size w w' ∧ w'.ownsRow B T size v n' xs' ∧ w'.ownsRow B T size (a.eval (.tmp d)) n xs) : Duty P ops Q (tell L) k a0 w0 i o := by
  unfold Duty; rw [hk]
  refine ⟨hg, hno, fun a w hB hdep ho => ?_⟩
  have h0 : w.ownsRow B T size (a.eval (.tmp d)) n xs := by
    have := hdep e d hb hd
    unfold tell at this; rw [he] at this; exact this
  obtain ⟨v, w', hr, h1, h2, h3⟩ := h a w ⟨hB, fun j d hb hd => hdep j d hb hd, ho⟩ h0
  unfold Oper.wp
  rw [hr]
  refine ⟨v, rfl, fun _ => ?_, h1, fun j d' hj hjd hD => ?_⟩
  · unfold tell; rw [hi]; exact h2
  · by_cases hje : j = e
    · subst hje
      rw [hd] at hjd; injection hjd with hjd; subst hjd
      unfold tell; rw [he]; exact h3
    · unfold tell at hD ⊢
      rcases Nat.lt_or_ge j L.length with hl | hl
      · have := all_range.1 hL j hl
        simp only [Bool.or_eq_true, beq_iff_eq, hje, hj, false_or] at this
        cases hq : L.getD j (.still fun _ => True) with
        | still p => rw [hq] at hD; exact hD
        | own B e size n xs => rw [hq] at this; cases this
        | lasts p hp => rw [hq] at this; cases this
      · have hq : L.getD j (.still fun _ => True) = .still fun _ => True := by rw [List.getD_eq_getElem?_getD, List.getElem?_eq_none hl]; rfl
        rw [hq]; trivial
end duties
section runs
variable {o : Oper} {a : Act} {w : World}
theorem run_append {B : Nat} {t e : TypeId} {i : TypeInfo} {z : Value} {size : Nat} {s x : Operand} (hop : o.op = .call { callee := .builtin .append, args := #[s, x], argTypes := #[t, t] })
    (ht : P.underlying t = some (.slice e)) (hi : P.info? e = some i) (hz : i.zero = some z) (hsize : i.size = size) (hby : i.bytes ≤ 128) (hzs : z.cells.size = size) (hsz : 0 < size)
    {v xv : Value} {n : Nat} {xs : List Value} (hs : a.eval s = v) (O : w.ownsRow B e size v n xs) (hx : a.eval x = xv) {m : Nat} {news : List Value} (F : Reads w xv m size news) (h1 : ∀ u ∈ news, u.oneCell' = true) (h63 : n + m ≤ 1000000000000) (hB : B ≤ w.heap.size) :
    ∃ v' w', (execOp a.eval o).run P w = .ok (.value v') w' ∧ w'.ownsRow B e size v' (n + m) (xs ++ news) ∧ w'.ownsRow B e size v n xs ∧ Below B w w' ∧ w.grownBy w' v.ownBlock ∧ (v'.ownBlock = v.ownBlock ∨ v'.ownBlock = some w.heap.size) := by
  obtain ⟨v', w', hr, h⟩ := own_append (P := P) (ty := o.type) ht hi hz hsize hby hzs hsz O F h1 h63 hB
  refine ⟨v', w', ?_, h⟩
  unfold execOp
  simp only [hop, resolve, invoke, builtin, Sem.run_bind, Sem.run_pure, Result.andThen_ok, List.map_toArray, List.map_cons, List.map_nil, hs, hx, hr]
theorem run_build1 {T e : TypeId} {i : TypeInfo} {z : Value} {x : Operand} {u : Value} {size : Nat} (us : List Value) (hop : o.op = .buildSlice T 1 #[(0, x)]) (hu : P.underlying T = some (.slice e)) (hi : P.info? e = some i) (hz : i.zero = some z) (hsize : i.size = size) (hs : (decide (0 < size)) = true) (hs' : (decide (size < 1000)) = true)
    (hl : us.length = size) (hf : Instr.fill (fun i => some (i * size, size)) ((Array.range (1 * size)).map (z.cells[· % z.cells.size]!)) [(0, u)] = some us.toArray) (h : a.eval x = u) :
    ∃ v w', (execOp a.eval o).run P w = .ok (.value v) w' ∧ Reads w' v 1 size us ∧ Below w.heap.size w w' := by
  have hs := of_decide_eq_true hs
  have hs' := of_decide_eq_true hs'
  subst hsize
  have hr := run_buildSlice (P := P) w T e 1 #[(0, u)] us.toArray i z hu hi hz (by omega) (by omega) hf
  refine ⟨_, _, ?_, ⟨by omega, some ⟨w.heap.size, 0, none⟩, 1, rfl, Nat.le_refl _, by unfold maxLen; omega, fun j u hj => ⟨_, rfl, ?_⟩⟩, (Below.refl _ _).alloc (Nat.le_refl _) (.cells us.toArray e)⟩
  · unfold execOp
    simp only [hop, List.map_toArray, List.map_cons, List.map_nil, h, Sem.run_bind, hr, Result.andThen_ok]
    rfl
  · have hadd : (⟨w.heap.size, 0, none⟩ : Addr).add j = ⟨w.heap.size, j, none⟩ := by unfold Addr.add; split <;> simp_all
    rw [hadd]
    unfold World.cell?
    have : (w.alloc (.cells us.toArray e)).heap[w.heap.size]? = some (.cells us.toArray e) := by show (w.heap.push _)[w.heap.size]? = _; simp
    rw [this]
    simpa using hj
theorem run_cutv {v : Value} {n size : Nat} {xs : List Value} {T e : TypeId} {x : Operand} {lo hi : Option Operand} {l h : Nat} {L H : Option Value} (hop : o.op = .slice T x lo hi none) (hu : P.underlying T = some (.slice e)) (hsz : (P.info? e).map (·.size) = some size) (hx : a.eval x = v) (F : Reads w v n size xs)
    (hlo : lo.map a.eval = L) (hhi : hi.map a.eval = H) (hL : L = none ∧ l = 0 ∨ ∃ k, L = some (.int k (l : Int))) (hH : H = none ∧ h = n ∨ ∃ k, H = some (.int k (h : Int))) (hl : l ≤ h) (hh : h ≤ n) :
    (execOp a.eval o).run P w = .ok (.value (cutVal v l h size)) w := by
  obtain ⟨A, c, hv, hc, hm⟩ := (⟨F.2.choose, F.2.choose_spec.choose, F.2.choose_spec.choose_spec.1, F.2.choose_spec.choose_spec.2.1, F.2.choose_spec.choose_spec.2.2.1⟩ : ∃ A c, v = .slice A n c ∧ n ≤ c ∧ c ≤ maxLen)
  rw [hv]; simp only [cutVal]
  rw [hv] at hx
  cases hq : P.info? e with
  | none => simp [hq] at hsz
  | some i =>
    have hs : i.size = size := by simpa [hq] using hsz
    unfold execOp; rw [hop]
    simp only [hx, hlo, hhi, Option.map_none, Instr.sliceAt, Instr.slice, Sem.run_bind, run_underlying hu, Result.andThen_ok]
    have hb : (Instr.sliceBounds true n c L H none).run P w = .ok (l, h, c) w := by
      unfold Instr.sliceBounds
      have s1 : ∀ (k : IntKind) (y : Nat) (code : BoundsCode), h ≤ y → (Instr.sliceBound (.int k (h : Int)) y code).run P w = .ok h w := fun k y code hy => by
        unfold Instr.sliceBound
        simp [Sem.run_bind, asIntOf, Sem.run_pure]
        exact fun hlt => absurd hlt (by omega)
      have s2 : ∀ (k : IntKind) (y : Nat) (code : BoundsCode), l ≤ y → (Instr.sliceBound (.int k (l : Int)) y code).run P w = .ok l w := fun k y code hy => by
        unfold Instr.sliceBound
        simp [Sem.run_bind, asIntOf, Sem.run_pure]
        exact fun hlt => absurd hlt (by omega)
      rcases hL with ⟨rfl, rfl⟩ | ⟨k, rfl⟩ <;> rcases hH with ⟨rfl, rfl⟩ | ⟨k', rfl⟩ <;>
        simp [Sem.run_bind, Sem.run_pure, s1 _ _ _ (by omega : h ≤ c), s2 _ _ _ hl]
    simp [Sem.run_bind, Sem.run_pure, hb, sizeOf, typeInfo, hq, hs, run_underlying hu]
theorem info_of {e : TypeId} {size : Nat} {z : Value} (hI : (P.info? e).map (fun i => (i.size, decide (i.bytes ≤ 128), i.zero)) = some (size, true, some z)) : ∃ i, P.info? e = some i ∧ i.size = size ∧ i.bytes ≤ 128 ∧ i.zero = some z := by
  cases hq : P.info? e with
  | none => simp [hq] at hI
  | some i =>
    simp [hq] at hI
    exact ⟨i, rfl, hI.1, hI.2.1, hI.2.2⟩
theorem run_appendI {B : Nat} {t e : TypeId} {z : Value} {size : Nat} {s x : Operand} (hop : o.op = .call { callee := .builtin .append, args := #[s, x], argTypes := #[t, t] })
    (ht : P.underlying t = some (.slice e)) (hI : (P.info? e).map (fun i => (i.size, decide (i.bytes ≤ 128), i.zero)) = some (size, true, some z)) (hzs : z.cells.size = size) (hsz : (decide (0 < size)) = true)
    {v xv : Value} {n : Nat} {xs : List Value} (hs : a.eval s = v) (O : w.ownsRow B e size v n xs) (hx : a.eval x = xv) {m : Nat} {news : List Value} (F : Reads w xv m size news) (h1 : ∀ u ∈ news, u.oneCell' = true) (h63 : n + m ≤ 1000000000000) (hB : B ≤ w.heap.size) :
    ∃ v' w', (execOp a.eval o).run P w = .ok (.value v') w' ∧ w'.ownsRow B e size v' (n + m) (xs ++ news) ∧ w'.ownsRow B e size v n xs ∧ Below B w w' ∧ w.grownBy w' v.ownBlock ∧ (v'.ownBlock = v.ownBlock ∨ v'.ownBlock = some w.heap.size) := by
  obtain ⟨i, h1', h2, h3, h4⟩ := info_of hI
  exact run_append hop ht h1' h4 h2 h3 hzs (of_decide_eq_true hsz) hs O hx F h1 h63 hB
theorem run_build1I {T e : TypeId} {z : Value} {x : Operand} {u : Value} {size : Nat} (us : List Value) (hop : o.op = .buildSlice T 1 #[(0, x)]) (hu : P.underlying T = some (.slice e)) (hI : (P.info? e).map (fun i => (i.size, decide (i.bytes ≤ 128), i.zero)) = some (size, true, some z)) (hs : (decide (0 < size)) = true) (hs' : (decide (size < 1000)) = true)
    (hl : us.length = size) (hf : Instr.fill (fun i => some (i * size, size)) ((Array.range (1 * size)).map (z.cells[· % z.cells.size]!)) [(0, u)] = some us.toArray) (h : a.eval x = u) :
    ∃ v w', (execOp a.eval o).run P w = .ok (.value v) w' ∧ Reads w' v 1 size us ∧ Below w.heap.size w w' := by
  obtain ⟨i, h1', h2, h3, h4⟩ := info_of hI
  exact run_build1 us hop hu h1' h4 h2 hs hs' hl hf h
theorem tail_ex {c d n i : Nat} {o : Oper} {Q : Exit → Act → World → Prop} {ops : Array Oper} {R : Value → World → Prop} {os : List Oper} (ho' : ops.toList.drop i = o :: os) (hg : o.guard = none) (hd : o.dst = some d) (hrun : ∃ v w1, (execOp a.eval o).run P w = .ok (.value v) w1 ∧ R v w1) (hn : a.tmps.size = n) (hlt : decide (d < n) = true)
    (h : ∀ (v : Value) (w1 : World) (a' : Act), R v w1 → a'.defers = a.defers → a'.tmps.size = n → a'.eval (.tmp d) = v → (∀ t, (t != d) = true → a'.eval (.tmp t) = a.eval (.tmp t)) → wpOps P ops Q (List.range' (i + 1) c) a' w1) : wpOps P ops Q (List.range' i (c + 1)) a w := by
  obtain ⟨v, w1, hr, hR⟩ := hrun
  exact tail_val ho' hg hd hr hn hlt fun a' => h v w1 a' hR
theorem regionT {id n : Nat} {Q : Exit → Act → World → Prop} {ops : Array Oper} (hn : ops.size = n) (h : wpOps P ops Q (List.range' 0 n) a w) : (Code.region id ops false).wp P Q a w := by
  refine wp_region ?_
  rw [hn, List.range_eq_range']; exact h
end runs
end Go.Proofs.Eng
end
section
namespace Go.Proofs.EngI
open Go Go.RowKit Go.Proofs.Eng
set_option linter.unusedSimpArgs false
set_option linter.unusedVariables false
variable {Fc : Fence} {nn : Nat} {P : Program} {ops : Array Oper} {Q : Exit → Act → World → Prop} {D : Nat → Value → World → Prop} {k : Nat → Kind} {a0 : Act} {w0 : World} {m i : Nat} {o : Oper}
def calm (o : Oper) : Bool := match o.op with | .defer _ => false | _ => true
theorem calm_ne (h : calm o = true) : ∀ c, o.op ≠ .defer c := fun c e => by unfold calm at h; rw [e] at h; cases h
theorem sem_calm (h : calm o = true) (ro : Option Nat) (ρ : Operand → Value) : o.semAt ro ρ = execOp ρ o := Oper.semAt_eq _ _ _ (calm_ne h)
theorem wp_in (hF : Free Fc) (hc : calm o = true) {a : Act} {w : World} {K : Act → World → Prop} (h : o.wp P a w K Q) : o.wpIn Fc nn P a w K Q := by
  unfold Oper.wpIn
  refine ⟨fun f _ => hF.fn f, ?_⟩
  rw [sem_calm hc]
  unfold Oper.wp at h
  have hd : Fc.depth.isSome = true → 1 ≤ nn := fun hh => by rw [hF.depth] at hh; cases hh
  generalize (execOp a.eval o).run P w = r at h ⊢
  unfold Oper.upon at h
  unfold Oper.uponIn
  split at h
  · exact h
  · exact h
  · exact h
  · exact ⟨hd, hF.calls h⟩
  · exact ⟨hd, hF.rows h⟩
  · exact h
  · exact h.elim
theorem duty_in (hF : Free Fc) (hc : calm o = true) (h : Eng.Duty P ops Q D k a0 w0 i o) : EngI.Duty Fc nn P ops Q D k a0 w0 i o := by
  unfold Eng.Duty at h
  unfold EngI.Duty
  split at h <;> rename_i hk <;> rw [hk]
  · intro a w hB hd ho
    have := h a w hB hd ho
    split
    · rename_i hw; rw [if_pos hw] at this; exact wp_in hF hc this
    · rename_i hw; rw [if_neg hw] at this; exact this
  · obtain ⟨h1, h2, h3⟩ := h
    exact ⟨h1, h2, fun a w hd ho => by rw [sem_calm hc]; exact h3 a w hd ho⟩
  · obtain ⟨h1, h2, d, T, c0, b1, b2, b3, b4, b5, h3⟩ := h
    exact ⟨h1, h2, d, T, c0, b1, b2, b3, b4, b5, fun a w g e hg hd ho => by rw [sem_calm hc]; exact h3 a w g e hg hd ho⟩
  · obtain ⟨h1, h2, h3⟩ := h
    exact ⟨h1, h2, fun a w hB hd ho => wp_in hF hc (h3 a w hB hd ho)⟩
theorem steps_in (hF : Free Fc) : ∀ (l : List Oper) (i : Nat), (l.all calm) = true → Eng.Steps P ops Q D k a0 w0 m i l → EngI.Steps Fc nn P ops Q D k a0 w0 m i l
  | [], _, _, _ => trivial
  | o :: os, i, hc, h => by
    rw [List.all_cons, Bool.and_eq_true] at hc
    exact ⟨fun hi => duty_in hF hc.1 (h.1 hi), steps_in hF os (i + 1) hc.2 h.2⟩
section regions
variable {a : Act} {w : World}
theorem regionD (hF : Free Fc) {id : Nat} (D : Nat → Value → World → Prop) (k : Nat → Kind) (m c n : Nat) (hm : P.follows .mixedOrders = true) (hn : a.tmps.size = n) (hc : ops.size = m + c) (hs : Eng.shape ops m n = true)
    (stable : ∀ i v w w', D i v w → Below w.heap.size w w' → D i v w') (hst2 : (∀ i j cs, k i ≠ .store j cs) ∨ ∀ i v w w', D i v w → D i v w') (hcalm : (ops.toList.all calm) = true)
    (hS : Eng.Steps P ops Q D k a w m 0 ops.toList) (hE : ∀ a' w', Eng.Then ops m D k a w a' w' → wpOpsIn Fc nn P ops Q (List.range' m c) a' w') : (Code.region id ops true).wpIn Fc nn P Q a w := by
  subst hn
  refine EngI.region hF m D k hm hs (by simp; omega) stable hst2 (steps_in hF _ _ hcalm hS) fun a' w' h1 h2 h3 h4 h5 h6 => ?_
  rw [hc, Nat.add_sub_cancel_left]
  exact hE a' w' ⟨h1, h2, h3, fun j d hj => h4 j d (of_decide_eq_true hj), fun t ht => h5 t (notdst ht), h6⟩
theorem regionS (hF : Free Fc) {id : Nat} (D : Nat → Value → World → Prop) (k : Nat → Kind) (m c n : Nat) (hn : a.tmps.size = n) (hc : ops.size = m + c) (hs : Eng.shape ops m n = true)
    (stable : ∀ i v w w', D i v w → Below w.heap.size w w' → D i v w') (hst2 : (∀ i j cs, k i ≠ .store j cs) ∨ ∀ i v w w', D i v w → D i v w') (hcalm : (ops.toList.all calm) = true)
    (hS : Eng.Steps P ops Q D k a w m 0 ops.toList) (hE : ∀ a' w', Eng.Then ops m D k a w a' w' → wpOpsIn Fc nn P ops Q (List.range' m c) a' w') : (Code.region id ops false).wpIn Fc nn P Q a w := by
  subst hn
  refine EngI.region_seq hF m D k hs (by simp; omega) stable hst2 (steps_in hF _ _ hcalm hS) fun a' w' h1 h2 h3 h4 h5 h6 => ?_
  rw [hc, Nat.add_sub_cancel_left]
  exact hE a' w' ⟨h1, h2, h3, fun j d hj => h4 j d (of_decide_eq_true hj), fun t ht => h5 t (notdst ht), h6⟩
theorem regionT {id n : Nat} (hn : ops.size = n) (h : wpOpsIn Fc nn P ops Q (List.range' 0 n) a w) : (Code.region id ops false).wpIn Fc nn P Q a w := by
  refine wpIn_region ?_
  rw [hn, List.range_eq_range']; exact h
theorem tail_nil (h : Q .normal a w) : wpOpsIn Fc nn P ops Q (List.range' m 0) a w := h
theorem tail_one (hF : Free Fc) {c : Nat} {os : List Oper} (ho' : ops.toList.drop i = o :: os) (hg : o.guard = none) (hcalm : calm o = true) (h : o.wp P a w (fun a' w' => wpOpsIn Fc nn P ops Q (List.range' (i + 1) c) a' w') Q) : wpOpsIn Fc nn P ops Q (List.range' i (c + 1)) a w := by
  have ho := drop_get ho'
  rw [List.range'_succ, wpOpsIn_cons]
  unfold wpOpIn
  rw [ho]
  simp only
  rw [if_pos (wanted_none hg)]
  exact wp_in hF hcalm h
theorem tail_skip (hF : Free Fc) {c : Nat} {w1 : World} {os : List Oper} (ho' : ops.toList.drop i = o :: os) (hg : o.guard = none) (hcalm : calm o = true) (hd : o.dst = none) (hrun : (execOp a.eval o).run P w = .ok .skip w1) (h : wpOpsIn Fc nn P ops Q (List.range' (i + 1) c) a w1) : wpOpsIn Fc nn P ops Q (List.range' i (c + 1)) a w := by
  refine tail_one hF ho' hg hcalm ?_
  unfold Oper.wp
  rw [hrun]
  show wpOpsIn Fc nn P ops Q _ (a.put o.dst undef) w1
  rw [hd]; exact h
theorem tail_val (hF : Free Fc) {c d n : Nat} {v : Value} {w1 : World} {os : List Oper} (ho' : ops.toList.drop i = o :: os) (hg : o.guard = none) (hcalm : calm o = true) (hd : o.dst = some d) (hrun : (execOp a.eval o).run P w = .ok (.value v) w1) (hn : a.tmps.size = n) (hlt : decide (d < n) = true)
    (h : ∀ a' : Act, a'.defers = a.defers → a'.tmps.size = n → a'.eval (.tmp d) = v → (∀ t, (t != d) = true → a'.eval (.tmp t) = a.eval (.tmp t)) → wpOpsIn Fc nn P ops Q (List.range' (i + 1) c) a' w1) : wpOpsIn Fc nn P ops Q (List.range' i (c + 1)) a w := by
  refine tail_one hF ho' hg hcalm ?_
  unfold Oper.wp
  rw [hrun]
  show wpOpsIn Fc nn P ops Q _ (a.put o.dst v) w1
  rw [hd]
  have hlt := of_decide_eq_true hlt
  have hx : ∀ d', some d = some d' → d' < a.tmps.size := fun d' e => by injection e with e; omega
  refine h _ rfl (by simp [Act.put, hn]) ?_ fun t ht => ?_
  · show (a.put (some d) v).tmps.getD d undef = v
    rw [put_getD _ _ _ _ hx, if_pos rfl]
  · show (a.put (some d) v).tmps.getD t undef = _
    rw [put_getD _ _ _ _ hx, if_neg (fun e => by injection e with e; simp [e] at ht)]
    rfl
theorem tail_ex (hF : Free Fc) {c d n : Nat} {R : Value → World → Prop} {os : List Oper} (ho' : ops.toList.drop i = o :: os) (hg : o.guard = none) (hcalm : calm o = true) (hd : o.dst = some d) (hrun : ∃ v w1, (execOp a.eval o).run P w = .ok (.value v) w1 ∧ R v w1) (hn : a.tmps.size = n) (hlt : decide (d < n) = true)
    (h : ∀ (v : Value) (w1 : World) (a' : Act), R v w1 → a'.defers = a.defers → a'.tmps.size = n → a'.eval (.tmp d) = v → (∀ t, (t != d) = true → a'.eval (.tmp t) = a.eval (.tmp t)) → wpOpsIn Fc nn P ops Q (List.range' (i + 1) c) a' w1) : wpOpsIn Fc nn P ops Q (List.range' i (c + 1)) a w := by
  obtain ⟨v, w1, hr, hR⟩ := hrun
  exact tail_val hF ho' hg hcalm hd hr hn hlt fun a' => h v w1 a' hR
theorem tail_set (hF : Free Fc) {c g n : Nat} {T : TypeId} {cs new : Array Value} {v : Value} {os : List Oper} (ho : ops.toList.drop i = o :: os) (hg : o.guard = none) (hcalm : calm o = true) (hd : o.dst = none) (hk : w.heap[g]? = some (.cells cs T (0, 0))) (hnew : cs.setIfInBounds n v = new)
    (hrun : (execOp a.eval o).run P w = .ok .skip (w.setCell ⟨g, n, none⟩ v)) (h : ∀ w', Sets w w' g (.cells new T (0, 0)) → wpOpsIn Fc nn P ops Q (List.range' (i + 1) c) a w') : wpOpsIn Fc nn P ops Q (List.range' i (c + 1)) a w :=
  tail_skip hF ho hg hcalm hd hrun (h _ (hnew ▸ Sets.of_setCell n v hk))
theorem tail_call (hF : Free Fc) {c d n : Nat} {f : FuncId} {fn : Func} {as_ : Array Operand} {ts : Array TypeId} {R : Value → World → Prop} {os : List Oper} (hf : P.funcs[f]? = some fn) (hname : (fn.name == "runtime.NumGoroutine") = false) (hb : fn.body.isNone = false)
    (ho' : ops.toList.drop i = o :: os) (hg : o.guard = none) (hd : o.dst = some d) (hop : o.op = .call { callee := .value (.func f), args := as_, argTypes := ts }) (args : Array Value) (hargs : as_.map a.eval = args) (hn : a.tmps.size = n) (hlt : decide (d < n) = true)
    (hcall : Calls P f args w fun e w' => ∃ v, e = .returned v ∧ R v w')
    (h : ∀ (v : Value) (w1 : World) (a' : Act), R v w1 → a'.defers = a.defers → a'.tmps.size = n → a'.eval (.tmp d) = v → (∀ t, (t != d) = true → a'.eval (.tmp t) = a.eval (.tmp t)) → wpOpsIn Fc nn P ops Q (List.range' (i + 1) c) a' w1) : wpOpsIn Fc nn P ops Q (List.range' i (c + 1)) a w := by
  refine tail_one hF ho' hg (by unfold calm; rw [hop]) ?_
  have he := enters hf hname hb args w
  have hrun : (execOp a.eval o).run P w = .ok (.enter f args) w := by
    unfold execOp
    rw [hop]
    simp only [resolve, Deferred.ofValue, invoke, Act.eval, hargs]
    have h2 : (#[] : Array Value) ++ args ++ (#[] : Array Value) = args := by simp
    show Sem.run P (callFunc f (#[] ++ args ++ #[])) w = _
    rw [h2]
    exact he
  unfold Oper.wp
  rw [hrun]
  refine Calls.mono hcall ?_
  rintro e w' ⟨v, rfl, hR⟩
  show wpOpsIn Fc nn P ops Q _ (a.put o.dst v) w'
  rw [hd]
  have hlt := of_decide_eq_true hlt
  have hx : ∀ d', some d = some d' → d' < a.tmps.size := fun d' e => by injection e with e; omega
  refine h v w' _ hR rfl (by simp [Act.put, hn]) ?_ fun t ht => ?_
  · show (a.put (some d) v).tmps.getD d undef = v
    rw [put_getD _ _ _ _ hx, if_pos rfl]
  · show (a.put (some d) v).tmps.getD t undef = _
    rw [put_getD _ _ _ _ hx, if_neg (fun e => by injection e with e; simp [e] at ht)]
    rfl
end regions
end Go.Proofs.EngI
end
section
namespace Go.Proofs.Eng
open Go Go.RowKit
set_option linter.unusedSimpArgs false
set_option linter.unusedVariables false
variable {P : Program}
structure Kept (B : Nat) (w w' : World) : Prop where
  size : w.heap.size ≤ w'.heap.size
  block : ∀ b, B ≤ b → b < w.heap.size → w'.heap[b]? = w.heap[b]?
theorem Kept.refl (B : Nat) (w : World) : Kept B w w := ⟨Nat.le_refl _, fun _ _ _ => rfl⟩
theorem Kept.trans {B : Nat} {a b c : World} (h : Kept B a b) (k : Kept B b c) : Kept B a c :=
  ⟨Nat.le_trans h.size k.size, fun x h1 h2 => (k.block x h1 (Nat.lt_of_lt_of_le h2 h.size)).trans (h.block x h1 h2)⟩
theorem Kept.below {B : Nat} {w w' : World} (h : Below w.heap.size w w') : Kept B w w' := ⟨h.size, fun b _ hb => h.block b hb⟩
theorem Kept.sets {B g : Nat} {w w' : World} {o : Obj} (h : Sets w w' g o) (hg : g < B) : Kept B w w' := ⟨by have := h.size; omega, fun b h1 _ => h.far b (by omega)⟩
structure Turns (w w' : World) (g : Nat) (o : Obj) : Prop where
  new : w'.heap[g]? = some o
  far : ∀ b, b ≠ g → b < w.heap.size → w'.heap[b]? = w.heap[b]?
  size : w.heap.size ≤ w'.heap.size
  os : w'.os = w.os
  tape : w'.tape = w.tape
  output : w'.output = w.output
theorem Turns.below {W w w' : World} {g B : Nat} {o : Obj} (h : Turns w w' g o) (hb : Below B W w) (hg : B ≤ g) (hB : B ≤ W.heap.size) : Below B W w' :=
  hb.trans ⟨h.os, h.tape, h.output, h.size, fun k hk => h.far k (by omega) (by have := hb.size; omega)⟩
theorem Turns.kept {w w' : World} {g B : Nat} {o : Obj} (h : Turns w w' g o) (hg : g < B) : Kept B w w' := ⟨h.size, fun b h1 h2 => h.far b (by omega) h2⟩
theorem ret0 {fn : Func} {R : Ending → World → Prop} {a : Act} {w : World} (h : fn.results = #[]) (hd : a.defers = []) (hR : ∀ v, R (.returned v) w) : bodyPost P fn R .normal a w := by
  refine ⟨hd, .tuple #[], ?_, hR _⟩
  unfold results
  rw [h]
  simp [Sem.run_bind, Sem.run_pure]
theorem ret0' {fn : Func} {R : Ending → World → Prop} {a : Act} {w : World} (h : fn.results = #[]) (hd : a.defers = []) (hR : ∀ v, R (.returned v) w) : bodyPost P fn R .ret a w := ret0 h hd hR
end Go.Proofs.Eng
end
section
namespace Go.Proofs.Eng
open Go Go.RowKit
set_option linter.unusedSimpArgs false
set_option linter.unusedVariables false
variable {P : Program} {o : Oper} {a : Act} {w : World}
def isNil (v : Value) : Bool := match v with | .slice none _ _ => true | _ => false
theorem run_isnil {T e U : TypeId} {x : Operand} {v : Value} {n size : Nat} {xs : List Value} (hop : o.op = .binOp .eql T x (.const (.slice none 0 0)) U) (hu : P.underlying T = some (.slice e)) (h : a.eval x = v) (F : Reads w v n size xs) : (execOp a.eval o).run P w = .ok (.value (.bool (isNil v))) w := by
  obtain ⟨_, A, c, rfl, _⟩ := F
  unfold execOp; rw [hop]
  have hc : a.eval (.const (.slice none 0 0)) = .slice none 0 0 := rfl
  simp only [h, hc]
  have hr := run_equal_slice_nil (P := P) w T e A n c hu
  have hg : (eqGuard .eql T x (.const (.slice none 0 0)) (.slice A n c) (.slice none 0 0)).run P w = .ok () w := by
    unfold eqGuard
    simp [Sem.run_bind, Sem.run_pure, run_underlying hu]
  simp only [Sem.run_bind, hg, Result.andThen_ok, binOp, hr, isNil]
  cases A <;> rfl
theorem isNil_zero {v : Value} {n size : Nat} {xs : List Value} (F : Reads w v n size xs) (h : isNil v = true) (hs : (decide (0 < size)) = true) : n = 0 := by
  obtain ⟨hl, A, c, rfl, _, _, hx⟩ := F
  have hs := of_decide_eq_true hs
  cases A with
  | some a => simp [isNil] at h
  | none =>
    rcases Nat.eq_zero_or_pos n with h0 | h0
    · exact h0
    · have h1 : 0 < xs.length := by rw [hl]; exact Nat.mul_pos h0 hs
      obtain ⟨ad, e', _⟩ := hx 0 _ (List.getElem?_eq_getElem h1)
      cases e'
theorem run_build0 {T e : TypeId} {z : Value} {size B : Nat} (hop : o.op = .buildSlice T 0 #[]) (hu : P.underlying T = some (.slice e)) (hI : (P.info? e).map (fun i => (i.size, decide (i.bytes ≤ 128), i.zero)) = some (size, true, some z)) (hB : B ≤ w.heap.size) :
    ∃ v w', (execOp a.eval o).run P w = .ok (.value v) w' ∧ w'.ownsRow B e size v 0 [] ∧ Below w.heap.size w w' := by
  obtain ⟨i, h1, h2, h3, h4⟩ := info_of hI
  refine ⟨.slice (some ⟨w.heap.size, 0, none⟩) 0 0, w.alloc (.cells #[] e), ?_, ⟨by simp, .inr ⟨w.heap.size, 0, #[], rfl, hB, ?_, Nat.le_refl _, by unfold maxLen; omega, by simp, by simp⟩⟩, (Below.refl _ _).alloc (Nat.le_refl _) _⟩
  · unfold execOp; rw [hop]
    simp [Instr.buildSlice, run_underlying hu, sizeOf, typeInfo, h1, Instr.fill, newRow, Sem.run_bind]
    have h0 : Array.range 0 = #[] := Array.eq_empty_of_size_eq_zero (by simp)
    rw [h0]; simp
  · show (w.heap.push _)[w.heap.size]? = _
    simp
end Go.Proofs.Eng
end
section
namespace Go.Proofs.Eng
open Go Go.RowKit
set_option linter.unusedSimpArgs false
set_option linter.unusedVariables false
variable {P : Program} {o : Oper} {a : Act} {w : World}
theorem own_appendT {w : World} {B : Nat} {t ty e : TypeId} {i : TypeInfo} {z : Value} {size : Nat} (ht : P.underlying t = some (.slice e)) (hi : P.info? e = some i) (hz : i.zero = some z) (hsize : i.size = size) (hby : i.bytes ≤ 128) (hzs : z.cells.size = size) (hsz : 0 < size)
    {v : Value} {n : Nat} {xs : List Value} (O : w.ownsRow B e size v n xs) {x : Value} {m : Nat} {news : List Value} (F : Reads w x m size news) (h1 : ∀ u ∈ news, u.oneCell' = true) (h63' : n + m ≤ maxLen) (hbm : (n + m) * i.bytes ≤ 140737488355328) (hB : B ≤ w.heap.size) :
    ∃ v' w', (Builtin.append_ #[t, t] ty #[v, x]).run P w = .ok v' w' ∧ w'.ownsRow B e size v' (n + m) (xs ++ news) ∧ w'.ownsRow B e size v n xs ∧ Below B w w' ∧ w.grownBy w' v.ownBlock ∧ (v'.ownBlock = v.ownBlock ∨ v'.ownBlock = some w.heap.size) := by
  have h63'' : n + m ≤ 9223372036854775807 := by simpa [maxLen] using h63'
  obtain ⟨hl, A, c, rfl, hc, hm, hx⟩ := F
  cases A with
  | none =>
    have hm0 : m = 0 := by
      rcases Nat.eq_zero_or_pos m with h | h
      · exact h
      · have h0 : 0 < news.length := by rw [hl]; exact Nat.mul_pos h hsz
        obtain ⟨ad, e', _⟩ := hx 0 _ (List.getElem?_eq_getElem h0)
        cases e'
    subst hm0
    have hn : news = [] := List.eq_nil_of_length_eq_zero (by simpa using hl)
    subst hn
    have hs : Src P i.size t (.slice none 0 c) 0 [] w := Src.ofNil w ht c
    refine ⟨v, w, ?_, by simpa using O, O, Below.refl _ _, ⟨rfl, rfl, rfl, Nat.le_refl _, fun _ _ _ => rfl⟩, .inl rfl⟩
    rcases O.2 with ⟨rfl, rfl⟩ | ⟨g, cap, cur, rfl, hg, hh, hn, _⟩
    · exact run_append_nothing w t t ty e i ht hi none 0 0 (Nat.le_refl _) _ hs
    · exact run_append_nothing w t t ty e i ht hi _ n cap hn _ hs
  | some a =>
    have hx' : ∀ j u, news[j]? = some u → w.cell? (a.add j) = some u := fun j u h => by
      obtain ⟨ad, e', hcell⟩ := hx j u h
      injection e' with e'; subst e'; exact hcell
    obtain ⟨v', w', hr, h2, h3, h4, h5⟩ := run_append_own_at (P := P) w B t ty e i z size i.bytes ht hi hz hsize rfl hzs hsz v n xs O a m c news hl hx' h1 h63' hbm hB
    refine ⟨v', w', hr, h2, ?_, below_of_grown h3 hB (own_block O), h3, h5⟩
    subst hsize
    rcases O.2 with ⟨rfl, rfl⟩ | ⟨g, cap, cur, rfl, hbg, hg, hnc, hcm, hcs, htake⟩
    · have : xs = [] := List.eq_nil_of_length_eq_zero (by simpa using O.1)
      subst this; exact World.ownsRow_nil w' B e i.size
    · by_cases hroom : n + m ≤ cap
      · have hfit : n * i.size + news.length ≤ cur.size := by rw [hl, hcs, ← Nat.add_mul]; exact Nat.mul_le_mul_right _ hroom
        have hr' := run_append_room (P := P) w t ty e i ht hi g n cap cur hg a m c news hl hx' h1 hroom hfit
        rw [hr'] at hr
        injection hr with _ hw
        subst hw
        refine ⟨O.1, .inr ⟨g, cap, _, rfl, hbg, setRow_heap w g cur _ e _ hg, hnc, hcm, ?_, ?_⟩⟩
        · simp only [List.size_toArray, List.length_append, List.length_take, List.length_drop, Array.length_toList]
          omega
        · simp only [List.append_assoc]
          rw [List.take_append_of_le_length (by rw [List.length_take, Array.length_toList]; omega), List.take_take, Nat.min_self]
          exact htake
      · have holds : ∀ j u, xs[j]? = some u → w.cell? ((⟨g, 0, none⟩ : Addr).add j) = some u := O.cells (g := g) rfl
        have hr' := run_append_grow (P := P) w t ty e i z ht hi hz ⟨g, 0, none⟩ n cap xs O.1 holds a m c news hl hx' (by omega) (by omega) (growslice_fits (by omega) hbm)
        rw [hr'] at hr
        injection hr with _ hw
        subst hw
        refine ⟨O.1, .inr ⟨g, cap, cur, rfl, hbg, ?_, hnc, hcm, hcs, htake⟩⟩
        exact (heap_alloc_old w.drew _ (by simpa using (Array.getElem?_eq_some_iff.1 hg).1)).trans hg
theorem run_buildN {T e : TypeId} {n : Nat} {parts : Array (Nat × Operand)} {z : Value} {size : Nat} (vs : List Value) (hop : o.op = .buildSlice T n parts) (hu : P.underlying T = some (.slice e)) (hI : (P.info? e).map (fun i => (i.size, decide (i.bytes ≤ 128), i.zero)) = some (size, true, some z)) (hs : (decide (0 < size)) = true) (hs' : (decide (size < 1000)) = true)
    (hn : vs.length = n) (hn0 : (decide (0 < n)) = true) (hn' : (decide (n < 1000)) = true) (hz : z.cells.size = size) (h1 : ∀ v ∈ vs, v.cells.size = size) (hp : (parts.map fun (i, x) => (i, a.eval x)).toList = (vs.zipIdx 0).map fun x => (x.2, x.1)) :
    ∃ v w', (execOp a.eval o).run P w = .ok (.value v) w' ∧ Reads w' v n size (vs.flatMap fun v => v.cells.toList) ∧ Below w.heap.size w w' := by
  obtain ⟨i, hi, h2, h3, h4⟩ := info_of hI
  have hs := of_decide_eq_true hs
  have hs' := of_decide_eq_true hs'
  have hn0 := of_decide_eq_true hn0
  have hn' := of_decide_eq_true hn'
  subst h2
  have hlt : n * i.size ≤ 1000 * 1000 := Nat.mul_le_mul (by omega) (by omega)
  have hpos : 0 < n * i.size := Nat.mul_pos hn0 hs
  have hf := Great.fill_whole hs vs ((Array.range (n * i.size)).map (z.cells[· % z.cells.size]!)) h1 (by rw [Array.size_map, Array.size_range, hn])
  rw [← hp] at hf
  have hr := run_buildSlice (P := P) w T e n _ _ i z hu hi h4 (by omega) (by omega) hf
  have hlen : ∀ vs : List Value, (∀ v ∈ vs, v.cells.size = i.size) → (vs.flatMap fun v => v.cells.toList).length = vs.length * i.size := by
    intro vs
    induction vs with
    | nil => intro _; simp
    | cons v t ih =>
      intro h
      rw [List.flatMap_cons, List.length_append, ih (fun u hu => h u (List.mem_cons_of_mem _ hu)), List.length_cons, Nat.add_mul, Array.length_toList, h v List.mem_cons_self]
      omega
  refine ⟨_, _, ?_, ⟨by rw [hlen vs h1, hn], some ⟨w.heap.size, 0, none⟩, n, rfl, Nat.le_refl _, by unfold maxLen; omega, fun j u hj => ⟨_, rfl, ?_⟩⟩, (Below.refl _ _).alloc (Nat.le_refl _) (.cells (vs.flatMap fun v => v.cells.toList).toArray e)⟩
  · unfold execOp
    simp only [hop, Sem.run_bind]
    rw [hr]
    rfl
  · have hadd : (⟨w.heap.size, 0, none⟩ : Addr).add j = ⟨w.heap.size, j, none⟩ := by unfold Addr.add; split <;> simp_all
    rw [hadd]
    unfold World.cell?
    have : (w.alloc (.cells (vs.flatMap fun v => v.cells.toList).toArray e)).heap[w.heap.size]? = some (.cells (vs.flatMap fun v => v.cells.toList).toArray e) := by show (w.heap.push _)[w.heap.size]? = _; simp
    rw [this]
    simpa using hj
theorem Reads.shape {v : Value} {n size : Nat} {xs : List Value} (F : Reads w v n size xs) : ∃ A c, v = .slice A n c := by
  obtain ⟨_, A, c, rfl, _⟩ := F
  exact ⟨A, c, rfl⟩
theorem Reads.cells1 {v : Value} {n size : Nat} {xs : List Value} (F : Reads w v n size xs) : v.cells = #[v] := by
  obtain ⟨_, A, c, rfl, _⟩ := F
  rfl
theorem run_buildN1 {T e : TypeId} {n : Nat} {parts : Array (Nat × Operand)} {z : Value} (vs : List Value) (hop : o.op = .buildSlice T n parts) (hu : P.underlying T = some (.slice e)) (hI : (P.info? e).map (fun i => (i.size, decide (i.bytes ≤ 128), i.zero)) = some (1, true, some z))
    (hn : vs.length = n) (hn0 : (decide (0 < n)) = true) (hn' : (decide (n < 1000)) = true) (hz : z.cells.size = 1) (h1 : ∀ v ∈ vs, v.cells = #[v]) (hp : (parts.map fun (i, x) => (i, a.eval x)).toList = (vs.zipIdx 0).map fun x => (x.2, x.1)) :
    ∃ v w', (execOp a.eval o).run P w = .ok (.value v) w' ∧ Reads w' v n 1 vs ∧ Below w.heap.size w w' := by
  obtain ⟨v, w', h, F, hb⟩ := run_buildN (P := P) (a := a) (w := w) vs hop hu hI rfl rfl hn hn0 hn' hz (fun v hv => by rw [h1 v hv]; rfl) hp
  refine ⟨v, w', h, ?_, hb⟩
  have : ∀ vs : List Value, (∀ v ∈ vs, v.cells = #[v]) → (vs.flatMap fun v => v.cells.toList) = vs := by
    intro vs
    induction vs with
    | nil => intro _; rfl
    | cons u t ih => intro h; rw [List.flatMap_cons, ih (fun x hx => h x (List.mem_cons_of_mem _ hx)), h u List.mem_cons_self]; rfl
  rw [this vs h1] at F
  exact F
theorem alloc_ex {T : TypeId} {cs : Array Value} (hop : o.op = .alloc T) (hz : (zeroValue T).run P w = .ok (.agg cs) w) : ∃ v w1, (execOp a.eval o).run P w = .ok (.value v) w1 ∧ ∃ g, v = .pointer (some ⟨g, 0, none⟩) ∧ w.heap.size ≤ g ∧ g < w1.heap.size ∧ w1.heap[g]? = some (.cells cs T (0, 0)) ∧ Below w.heap.size w w1 := by
  refine ⟨_, _, run_alloc hop hz, w.heap.size, rfl, Nat.le_refl _, ?_, ?_, (Below.refl _ _).alloc (Nat.le_refl _) _⟩
  · show w.heap.size < (w.heap.push _).size; simp
  · show (w.heap.push _)[w.heap.size]? = _; simp
def Tl.reads (n size : Nat) (xs : List Value) : Tl := .lasts (fun v w => Reads w v n size xs) fun _ _ _ h hb => h.below hb
section duties
variable {ops : Array Oper} {Q : Exit → Act → World → Prop} {D : Nat → Value → World → Prop} {k : Nat → Kind} {a0 : Act} {w0 : World} {m i : Nat}
theorem guardedT {j d : Nat} {want : Bool} (hk : k i = .plain) (hg : o.guard = some (j, want)) (hb : bound o j = true) (hd : dstOf ops j = some d) (hD : ∀ (v : Value) (w : World), D j v w → v = .bool want)
    (h : ∀ (a : Act) (w : World), At ops D a0 w0 i o a w → o.wp P a w (fun a' w' => ∃ v, a' = a.put o.dst v ∧ (o.dst ≠ none → D i v w') ∧ Below w.heap.size w w') Q) : Duty P ops Q D k a0 w0 i o :=
  guarded1 (b := want) hk hg hb hd hD (fun hq => by simp at hq) (fun _ => h)
end duties
end Go.Proofs.Eng
end
section
namespace Go.Proofs.Eng
open Go Go.RowKit
set_option linter.unusedSimpArgs false
set_option linter.unusedVariables false
variable {P : Program} {o : Oper} {a : Act} {w : World}
theorem run_field_el {T : TypeId} {x : Operand} {f j : Nat} {fs : Array Field} {v : Value} {n size : Nat} {xs : List Value} (hop : o.op = .fieldAddr T x f) (hu : P.underlying T = some (.struct fs)) (k : Nat) (hf : (fs[f]?).map (fun fd => (fd.offset, ((P.info? fd.type).map (·.size)).isSome && decide ((P.info? fd.type).map (·.size) ≠ some 0))) = some (k, true)) (h : a.eval x = elemPtr v j) (F : Reads w v n size xs) (hj : j < n * size) :
    (execOp a.eval o).run P w = .ok (.value (elemPtr v (j + k))) w := by
  obtain ⟨hl, A, c, rfl, hc, hm, hx⟩ := F
  obtain ⟨ad, rfl, _⟩ := hx j _ (List.getElem?_eq_getElem (by omega))
  cases hq : fs[f]? with
  | none => simp [hq] at hf
  | some fd =>
    cases hi : P.info? fd.type with
    | none => simp [hq, hi] at hf
    | some i =>
      simp [hq, hi] at hf
      obtain ⟨h1, h2⟩ := hf
      unfold execOp; rw [hop]
      simp only [h, elemPtr, Instr.fieldAt, Instr.sureAddr, Sem.run_bind, Sem.run_pure, Result.andThen_ok, run_underlying hu]
      simp [Sem.run_bind, Sem.run_pure, hq, fieldPlace, sizeOf, typeInfo, hi, h2, ← h1, add_add]
end Go.Proofs.Eng
end
section
namespace Go.Proofs.YtgnmjaacnmkgnaaDoor.X
open Go.RowKit Go.Proofs
set_option linter.unusedVariables false
set_option linter.unusedSimpArgs false
namespace Rwt
variable {α : Type} {enc : α → List Value} {sz : Nat}
theorem len (he : ∀ x, (enc x).length = sz) : ∀ l : List α, (l.flatMap enc).length = l.length * sz
  | [] => by simp
  | x :: t => by rw [List.flatMap_cons, List.length_append, he, len he t, List.length_cons, Nat.succ_mul, Nat.add_comm]
theorem at_ [Inhabited α] (he : ∀ x, (enc x).length = sz) : ∀ (l : List α) (j : Nat), j < l.length → ((l.flatMap enc).drop (j * sz)).take sz = enc (l.getD j default)
  | x :: t, 0, _ => by
    rw [Nat.zero_mul, List.drop_zero, List.flatMap_cons, ← he x, List.take_left]; rfl
  | x :: t, j + 1, h => by
    have := at_ he t j (by simpa using h)
    rw [List.flatMap_cons, Nat.succ_mul, Nat.add_comm, ← he x, List.drop_append]
    rw [show (enc x).drop ((enc x).length + j * (enc x).length) = [] from List.drop_eq_nil_of_le (by omega), List.nil_append, Nat.add_sub_cancel_left, he x, this]; rfl
theorem cell [Inhabited α] (he : ∀ x, (enc x).length = sz) {l : List α} {j f : Nat} (h : j < l.length) (hf : f < sz) {u : Value} (hu : (enc (l.getD j default))[f]? = some u) : (l.flatMap enc)[j * sz + f]? = some u := by
  have := at_ he l j h
  rw [← List.getElem?_drop, ← List.getElem?_take_of_lt hf, this]; exact hu
theorem take_one [Inhabited α] {l : List α} {k : Nat} (h : k < l.length) : l.take (k + 1) = l.take k ++ [l.getD k default] := by
  rw [List.take_add_one, List.getD_eq_getElem?_getD, List.getElem?_eq_getElem h]; rfl
theorem drop_one [Inhabited α] {l : List α} {k : Nat} (h : k < l.length) : l.drop k = l.getD k default :: l.drop (k + 1) := by
  rw [List.drop_eq_getElem_cons h, List.getD_eq_getElem?_getD, List.getElem?_eq_getElem h]; rfl
end Rwt
end Go.Proofs.YtgnmjaacnmkgnaaDoor.X
end
section
namespace Go.Proofs.YtgnmjaacnmkgnaaDoorW.PrintLast
section
variable {P : Program} {ops : Array Oper} {Q : Exit → Act → World → Prop} {md : Region.Mode} {S : World → Prop} {ds : List Nat}
def ListedClosed (md : Region.Mode) (ops : Array Oper) (listed : Array Bool) : Prop :=
  ∀ j oj, ops[j]? = some oj → listed.getD j false = true → ∀ e ∈ oj.after, Region.binds md e = true → listed.getD e.on false = true
theorem ListedClosed.set {listed : Array Bool} {i : Nat} (h : ListedClosed md ops listed) (hi : i ∈ Region.ready md ops listed) : ListedClosed md ops (listed.setIfInBounds i true) := by
  obtain ⟨_, oi, hoi, hall⟩ := mem_ready.1 hi
  intro j oj hj hl e he hb
  by_cases hij : i = j
  · subst hij
    have : oj = oi := Option.some.inj (hj.symm.trans hoi)
    subst this
    exact getD_set_true (hall e he hb)
  · rw [getD_set_ne false hij] at hl
    exact getD_set_true (h j oj hj hl e he hb)
def wpAnyLast (P : Program) (md : Region.Mode) (ops : Array Oper) (Q : Exit → Act → World → Prop) (S : World → Prop) (ds : List Nat) : Nat → Array Bool → Act → World → Prop
  | 0, listed, a, w => Region.ready md ops listed = [] ∧ Q .normal a w
  | fuel + 1, listed, a, w =>
    (Region.ready md ops listed = [] → Q .normal a w) ∧
    ∀ i ∈ Region.ready md ops listed, wpOp P ops Q i (fun a' w' => (i ∉ ds → S w → S w') ∧ wpAnyLast P md ops Q S ds fuel (listed.setIfInBounds i true) a' w') a w
end
section
variable {P : Program} {ops : Array Oper} {Q : Exit → Act → World → Prop} {md : Region.Mode} {S : World → Prop} {ds : List Nat}
def AllReadyL (P : Program) (md : Region.Mode) (ops : Array Oper) (Q : Exit → Act → World → Prop) (S : World → Prop) (ds : List Nat) (fuel : Nat) (listed : Array Bool) (a : Act) (w : World) (rs : List Nat) : Prop :=
  ∀ i ∈ rs, wpOp P ops Q i (fun a' w' => (i ∉ ds → S w → S w') ∧ wpAnyLast P md ops Q S ds fuel (listed.setIfInBounds i true) a' w') a w
theorem AllReadyL.nil {fuel : Nat} {listed : Array Bool} {a : Act} {w : World} : AllReadyL P md ops Q S ds fuel listed a w [] := fun _ h => by cases h
theorem AllReadyL.cons {fuel : Nat} {listed : Array Bool} {a : Act} {w : World} {i : Nat} {o : Oper} {rs : List Nat} (ho : ops[i]? = some o) (hd : i ∉ ds)
    (h : ∀ K' : Act → World → Prop, Shut (∀ a w, S w → (S w → wpAnyLast P md ops Q S ds fuel (listed.setIfInBounds i true) a w) → K' a w) → if Region.wanted o (yielded ops a.tmps) = true then Oper.wp P o a w K' Q else K' (a.put o.dst undef) w)
    (hs : AllReadyL P md ops Q S ds fuel listed a w rs) : AllReadyL P md ops Q S ds fuel listed a w (i :: rs) := fun j hj => by
  rcases List.mem_cons.1 hj with rfl | hj
  · exact wpOp_step ho (fun K' hK => h K' (fun a w hS hW => hK a w ⟨fun _ _ => hS, hW hS⟩))
  · exact hs j hj
theorem enters_ {f : FuncId} {fn : Func} (hf : P.funcs[f]? = some fn) (hname : (fn.name == "runtime.NumGoroutine") = false) (hb : fn.body.isSome = true) (args : Array Value) (w : World) : (callFunc f args).run P w = .ok (.enter f args) w := by
  have h1 : fn.name ≠ "runtime.NumGoroutine" := by simpa using hname
  obtain ⟨c, hc⟩ := Option.isSome_iff_exists.1 hb
  simp [callFunc, hf, h1, hc]
theorem goesL_ {rest : List Oper} {oi : Oper} {a : Act} {w : World} (N : Option Tmp) (hd : oi.dst = N) (hg : oi.guard = none) {f : FuncId} {fn : Func} {as_ : Array Operand} {ts : Array TypeId} (hf : P.funcs[f]? = some fn) (hname : (fn.name == "runtime.NumGoroutine") = false) (hb : fn.body.isSome = true) (args : Array Value)
    (hop : oi.op = .call { callee := .value (.func f), args := as_, argTypes := ts }) (hargs : as_.map a.eval = args)
    (h : Calls P f args w fun e w' => ∃ v, e = .returned v ∧ wpList P ops Q rest (a.put N v) w') : wpList P ops Q (oi :: rest) a w := by
  refine wpList_plain hg fun K hK => ?_
  have he := enters_ hf hname hb args w
  have hrun : (execOp a.eval oi).run P w = .ok (.enter f args) w := by
    unfold execOp
    simp [hop, resolve, Deferred.ofValue, invoke, Act.eval, hargs, he]
  unfold Oper.wp
  rw [hrun, Oper.upon_enter]
  refine h.mono fun e w'' hh => ?_
  obtain ⟨v, rfl, hk⟩ := hh
  subst hd
  exact hK _ _ hk
theorem i64_w (n : Int) : IntKind.i64.wrap n = Go.RowKit.wrap64 n := by unfold Go.RowKit.wrap64; exact IntKind.wrap_i64 n
theorem i32_w (n : Int) : IntKind.i32.wrap n = Go.RowKit.wrap32 n := by unfold Go.RowKit.wrap32; exact IntKind.wrap_i32 n
end
end Go.Proofs.YtgnmjaacnmkgnaaDoorW.PrintLast
end
section
namespace Go.Proofs.YtgnmjaacnmkgnaaDoorW.PrintWords
open Go.RowKit
namespace Kd
def tag {α : Type} (f : Nat → Nat) (d : Kd α) : Kd (α × Nat) where
  sz := d.sz
  E := d.E
  K := fun w x cs => d.K w x.1 cs
  M := fun w base ok x cs => d.M w base (fun k => ok k ∧ f k = x.2) x.1 cs
  K_len := fun h => d.K_len h
  K_one := fun h => d.K_one h
  K_below := fun hb h => d.K_below hb h
  K_of_M := fun h => d.K_of_M h
  M_mono := fun hok h => d.M_mono (fun k hk => ⟨hok k hk.1, hk.2⟩) h
  M_bound := fun h => d.M_mono (fun _ hk => ⟨⟨hk.1.1, hk.2⟩, hk.1.2⟩) (d.M_bound h)
  M_move := fun hm h => d.M_move (fun k hk => hm k hk.1) h
  M_lower := fun hb h => d.M_lower hb h
def raw (sz : Nat) : Kd (List Value) where
  sz := sz
  E := []
  K := fun _ x cs => cs = x ∧ cs.length = sz ∧ ∀ u ∈ cs, u.oneCell' = true
  M := fun _ _ _ x cs => cs = x ∧ cs.length = sz ∧ ∀ u ∈ cs, u.oneCell' = true
  K_len := fun h => h.2.1
  K_one := fun h => h.2.2
  K_below := fun _ h => h
  K_of_M := fun h => h
  M_mono := fun _ h => h
  M_bound := fun h => h
  M_move := fun _ h => h
  M_lower := fun _ h => h
section
open Classical in
variable {P : Program} {ops : Array Oper} {rest : List Oper} {o : Oper} {a : Act} {Q : Exit → Act → World → Prop} {Kc : Act → World → Prop} {α : Type}
end
section
variable {α β : Type} {d : Kd α} {e e' g n cap : Nat} {w w1 W : World} {base : Nat} {ok ok' oki okp : Nat → Prop} {u v : Value} {xs : List α} {i : Int} {c : List Value}
open Classical in
end
end Kd
end Go.Proofs.YtgnmjaacnmkgnaaDoorW.PrintWords
end
section
namespace Go.Proofs.YtgnmjaacnmkgnaaDoorW.PrintWords
open Go.RowKit
namespace Kd
structure Heap {α : Type} (d : Kd α) : Prop where
  K : ∀ {w w1 : World} {x : α} {cs : List Value}, (∀ k, k < w.heap.size → w1.heap[k]? = w.heap[k]?) → d.K w x cs → d.K w1 x cs
theorem cell_heap {w w1 : World} (hb : ∀ k, k < w.heap.size → w1.heap[k]? = w.heap[k]?) {a : Addr} {v : Value} (h : w.cell? a = some v) : w1.cell? a = some v := by
  have := hb a.block (World.block_lt_of_cell? w a h)
  simpa [World.cell?, this] using h
theorem Heap.C {α : Type} {d : Kd α} (hd : Heap d) {w w1 : World} {A : Option Addr} {n : Nat} {xs : List α} (hb : ∀ k, k < w.heap.size → w1.heap[k]? = w.heap[k]?) (h : d.C w A n xs) : d.C w1 A n xs :=
  ⟨h.1, h.2.1, fun hn => by
    obtain ⟨ad, e, hc⟩ := h.2.2 hn
    refine ⟨ad, e, fun j p hj => ?_⟩
    obtain ⟨c, hs, hr, hcell⟩ := hc j p hj
    exact ⟨c, hs, hd.K hb hr, fun i u hu => cell_heap hb (hcell i u hu)⟩⟩
end Kd
end Go.Proofs.YtgnmjaacnmkgnaaDoorW.PrintWords
end
section
namespace Go.Proofs.YtgnmjaacnmkgnaaDoorW.PrintWords
open Go.RowKit
def Kept (w W : World) (S : Nat → Prop) : Prop := w.heap.size ≤ W.heap.size ∧ ∀ i, i < w.heap.size → ¬ S i → W.heap[i]? = w.heap[i]?
section
variable {w W W2 : World} {S S2 S' : Nat → Prop}
theorem Kept.refl (w : World) (S : Nat → Prop) : Kept w w S := ⟨Nat.le_refl _, fun _ _ _ => rfl⟩
theorem Kept.of_below (h : Below w.heap.size w W) (S : Nat → Prop) : Kept w W S := ⟨h.size, fun i hi _ => h.block i hi⟩
theorem Kept.mono (h : Kept w W S) (hs : ∀ k, S k → S' k) : Kept w W S' := ⟨h.1, fun i hi hn => h.2 i hi (fun hk => hn (hs i hk))⟩
theorem Kept.then_ (h : Kept w W S) (k : Kept W W2 S2) (hs : ∀ k, S2 k → S k ∨ w.heap.size ≤ k) : Kept w W2 S :=
  ⟨Nat.le_trans h.1 k.1, fun i hi hn => (k.2 i (Nat.lt_of_lt_of_le hi h.1) (fun h2 => (hs i h2).elim hn (fun h3 => by omega))).trans (h.2 i hi hn)⟩
theorem Kept.below (h : Kept w W S) (hb : Below W.heap.size W W2) : Kept w W2 S := h.then_ (Kept.of_below hb (fun _ => False)) (fun _ hk => hk.elim)
theorem Kept.alloc (h : Kept w W S) (o : Obj) : Kept w (W.alloc o) S := h.below (below_alloc (Below.refl _ _) o)
theorem Kept.drew (h : Kept w W S) : Kept w W.drew S := h
theorem Kept.drewN (h : Kept w W S) (m : Nat) : Kept w (W.drewN m) S := h
theorem Kept.setCell (h : Kept w W S) {p : Addr} (hp : S p.block ∨ w.heap.size ≤ p.block) (u : Value) : Kept w (W.setCell p u) S :=
  h.then_ (S2 := fun k => k = p.block) ⟨by simp [World.setCell], fun i _ hn => Below.heap_setCell W p u i hn⟩ (fun k hk => by rw [hk]; exact hp)
theorem Kept.keep {g : Nat} (h : KeepBut w W g none) (k : Kept W W2 S2) (hs : ∀ k, S2 k → w.heap.size ≤ k) : KeepBut w W2 g none :=
  ⟨Nat.le_trans h.1 k.1, fun i hi hg hr => (k.2 i (Nat.lt_of_lt_of_le hi h.1) (fun h2 => by have := hs i h2; omega)).trans (h.2 i hi hg hr)⟩
end
end Go.Proofs.YtgnmjaacnmkgnaaDoorW.PrintWords
end
section
namespace Go.Proofs.YtgnmjaacnmkgnaaDoorW.PrintWords
open Go.RowKit
def Foot (P : World → Prop) (W : World) (ok : Nat → Prop) : Prop := ∀ W' : World, (∀ k, ok k → k < W.heap.size → W'.heap[k]? = W.heap[k]?) → P W'
theorem heap_lt {W W1 : World} {k : Nat} (h : W1.heap[k]? = W.heap[k]?) (hlt : k < W.heap.size) : k < W1.heap.size := by
  rw [Array.getElem?_eq_getElem hlt] at h
  exact (Array.getElem?_eq_some_iff.1 h).1
namespace Foot
variable {P Q : World → Prop} {W W1 : World} {ok ok' : Nat → Prop}
theorem mono (h : Foot P W ok) (hok : ∀ k, ok k → ok' k) : Foot P W ok' := fun W' hW => h W' (fun k hk hlt => hW k (hok k hk) hlt)
theorem bound (h : Foot P W ok) : Foot P W (fun k => ok k ∧ k < W.heap.size) := fun W' hW => h W' (fun k hk hlt => hW k ⟨hk, hlt⟩ hlt)
theorem step (h : Foot P W ok) (hm : ∀ k, ok k → k < W.heap.size → W1.heap[k]? = W.heap[k]?) : Foot P W1 ok := fun W' hW => h W' (fun k hk hlt => (hW k hk (heap_lt (hm k hk hlt) hlt)).trans (hm k hk hlt))
theorem imp (h : Foot P W ok) (hi : ∀ W', P W' → Q W') : Foot Q W ok := fun W' hW => hi W' (h W' hW)
theorem old (h : Foot P W ok) (hb : Below W.heap.size W W1) : Foot P W1 (fun k => ok k ∧ k < W.heap.size) := (h.bound).step (fun k _ hlt => hb.block k hlt)
end Foot
namespace Kd
def F {α : Type} (d : Kd α) (W : World) (ok : Nat → Prop) (A : Option Addr) (n : Nat) (xs : List α) : Prop := Foot (fun W => d.C W A n xs) W ok
def FK {α : Type} (d : Kd α) (W : World) (ok : Nat → Prop) (x : α) (c : List Value) : Prop := Foot (fun W => d.K W x c) W ok
end Kd
end Go.Proofs.YtgnmjaacnmkgnaaDoorW.PrintWords
end
section
namespace Go.Proofs.YtgnmjaacnmkgnaaDoorW.PrintWords
open Go.RowKit
namespace Kd
section
variable {α : Type} {d : Kd α} {e base n cc g : Nat} {ok ok' okp S : Nat → Prop} {w w1 W W1 : World} {A : Option Addr} {u v v1 : Value} {xs : List α} {x : α} {c : List Value}
def N {α : Type} (d : Kd α) (e : Nat) (w : World) (base : Nat) (ok : Nat → Prop) (v : Value) (xs : List α) : Prop :=
  (∀ k, v.ownBlock = some k → ok k) ∧ ∃ rows : List (List Value), rows.length = xs.length ∧ (raw d.sz).R e w base (fun k => some k = v.ownBlock) v rows ∧ ∀ (j : Nat) (x : α) (c : List Value), xs[j]? = some x → rows[j]? = some c → FK d w (fun k => ok k ∧ some k ≠ v.ownBlock) x c
end
end Kd
end Go.Proofs.YtgnmjaacnmkgnaaDoorW.PrintWords
end
section
namespace Go.Proofs.YtgnmjaacnmkgnaaDoorW.PrintMore
open Go.RowKit Go.Proofs.YtgnmjaacnmkgnaaDoorW.PrintWords
theorem max2_int (k k' : IntKind) (x y : Int) : Builtin.max2 (.int k x) (.int k' y) = pure (.int k (if x < y then y else x)) := by simp only [Builtin.max2, gt_iff_lt]
theorem min2_int (k k' : IntKind) (x y : Int) : Builtin.min2 (.int k x) (.int k' y) = pure (.int k (if y < x then y else x)) := by simp only [Builtin.min2]
theorem max_two (ats : Array TypeId) (ty : TypeId) (a b : Value) : Builtin.max_ ats ty #[a, b] = (Builtin.max2 a b >>= fun s => pure s) := by simp only [Builtin.max_, List.foldlM_cons, List.foldlM_nil]
theorem min_two (ats : Array TypeId) (ty : TypeId) (a b : Value) : Builtin.min_ ats ty #[a, b] = (Builtin.min2 a b >>= fun s => pure s) := by simp only [Builtin.min_, List.foldlM_cons, List.foldlM_nil]
end Go.Proofs.YtgnmjaacnmkgnaaDoorW.PrintMore
namespace Go.Proofs.YtgnmjaacnmkgnaaDoorW.PrintWords
open Go.RowKit
section
variable {P : Program} {ops : Array Oper} {rest : List Oper} {o : Oper} {a : Act} {Q : Exit → Act → World → Prop} {W : World}
theorem gate_callee {f : FuncId} {as_ : Array Operand} {ts : Array TypeId} (_ho : o.op = .call { callee := .value (.func f), args := as_, argTypes := ts }) (h : wpList P ops Q (o :: rest) a W) : wpList P ops Q (o :: rest) a W := h
end
def mx (a b : Int) : Int := if a < b then b else a
end Go.Proofs.YtgnmjaacnmkgnaaDoorW.PrintWords
namespace Go.Proofs.YtgnmjaacnmkgnaaDoorW.PrintWords
open Go.RowKit
namespace Kd
def V {α : Type} (d : Kd α) (_e : Nat) (W : World) (_base : Nat) (ok : Nat → Prop) (v : Value) (xs : List α) : Prop := ∃ A c, v = .slice A xs.length c ∧ xs.length ≤ c ∧ F d W ok A xs.length xs
end Kd
end Go.Proofs.YtgnmjaacnmkgnaaDoorW.PrintWords
end
section
namespace Go.Proofs.YtgnmjaacnmkgnaaDoor.X
open Go.RowKit Go.Shelf Go.Proofs Go.Proofs.YtgnmjaacnmkgnaaDoorW.PrintWords Go.Proofs.YtgnmjaacnmkgnaaDoorW.PrintLast Go.Proofs.YtgnmjaacnmkgnaaDoorW.PrintMore
set_option linter.unusedVariables false
set_option linter.unusedSimpArgs false
namespace Evt
structure Ev where
  kind : Int
  anchor : ByteArray
  tag : ByteArray
  text : ByteArray
  plain : Bool
instance : Inhabited Ev := ⟨⟨0, ⟨#[]⟩, ⟨#[]⟩, ⟨#[]⟩, false⟩⟩
def enc (x : Ev) : List Value := [.int .i64 x.kind, .string x.anchor, .string x.tag, .string x.text, .bool x.plain]
theorem enc_len (x : Ev) : (enc x).length = 5 := rfl
abbrev cells (l : List Ev) : List Value := l.flatMap enc
theorem cells_at (l : List Ev) (j : Nat) (h : j < l.length) : ((cells l).drop (j * 5)).take 5 = [.int .i64 (l.getD j default).kind, .string (l.getD j default).anchor, .string (l.getD j default).tag, .string (l.getD j default).text, .bool (l.getD j default).plain] := Rwt.at_ enc_len l j h
def isNode (k : Int) : Bool := (k == 2 || k == 4) || k == 6
def encO (x : Int × Int) : List Value := [.int .i64 x.1, .int .i64 x.2]
theorem encO_len (x : Int × Int) : (encO x).length = 2 := rfl
abbrev opens (st : List (Int × Int)) : List Value := st.flatMap encO
def pop (st : List (Int × Int)) (k : Int) (may : Int → Bool) : Option (List (Int × Int)) :=
  match st.getLast? with
  | none => none
  | some t => if t.1 = k ∧ may t.2 = true then some st.dropLast else none
def more (st : List (Int × Int)) : List (Int × Int) :=
  match st.getLast? with
  | none => []
  | some t => st.dropLast ++ [(t.1, IntKind.i64.wrap (t.2 + 1))]
def even (m : Int) : Bool := Int.tmod m 2 == 0
def takeF (st : List (Int × Int)) (k : Int) : Option (List (Int × Int)) :=
  if k = 0 then (if st.isEmpty = true then some [(0, 0)] else none)
  else if k = 1 then pop st 0 (fun m => m == 1)
  else if k = 3 then pop st 2 (fun _ => true)
  else if k = 5 then pop st 4 even
  else if st.isEmpty = true then none
  else if k = 2 ∨ k = 4 then some (more st ++ [(k, 0)])
  else some (more st)
def rightR (rightE : Ev → Bool) : List (Int × Int) → List Ev → Bool
  | st, [] => st.isEmpty
  | st, e :: t => rightE e && match takeF st e.kind with
    | none => false
    | some st' => rightR rightE st' t
def dstep (d : Int × Int) (k : Int) : Int × Int :=
  if k = 2 ∨ k = 4 then (IntKind.i64.wrap (d.1 + 1), mx d.2 (IntKind.i64.wrap (d.1 + 1)))
  else if k = 3 ∨ k = 5 then (IntKind.i64.wrap (d.1 - 1), mx d.2 (IntKind.i64.wrap (d.1 - 1)))
  else (d.1, mx d.2 d.1)
def depths (l : List Ev) : Int × Int := l.foldl (fun d e => dstep d e.kind) (0, 0)
theorem depths_take {l : List Ev} {k : Nat} (h : k < l.length) : depths (l.take (k + 1)) = dstep (depths (l.take k)) (l.getD k default).kind := by
  unfold depths; rw [Rwt.take_one h, List.foldl_append]; rfl
def rightG (rightE : Ev → Bool) (l : List Ev) : Bool := rightR rightE [] l && decide ((depths l).2 ≤ 40)
end Evt
end Go.Proofs.YtgnmjaacnmkgnaaDoor.X
end
section
namespace Go.Proofs.YtgnmjaacnmkgnaaDoor.X.Opn
open Go.ChangeShapes Go.WideShapes Go.RowKit Go.Joins Go.Deep
variable {H : Type} {enc : TypeId × Value → H} {w : World} {base : Nat} {spare : Nat → Bool} {held : Bool}
set_option maxRecDepth 100000 in
theorem cells23 : Tryd.prog.cellsOf 23 = 5 := by kernel_rfl
end Go.Proofs.YtgnmjaacnmkgnaaDoor.X.Opn
namespace Go.Proofs.YtgnmjaacnmkgnaaDoor.X.Tabs
open Go.Shelf Go.Lib Go.RowKit
set_option maxRecDepth 100000 in
theorem accept : (Rows.laid_unicode_utf8_acceptRanges : DataW Unit) = acceptData := by kernel_rfl
set_option maxRecDepth 100000 in
theorem of_laid {w : World} {l : List (String × DataW Unit)} (h : laidMet Tryd.prog l w) (h3 : ("unicode/utf8.first", Rows.laid_unicode_utf8_first) ∈ l) (h4 : ("unicode/utf8.acceptRanges", Rows.laid_unicode_utf8_acceptRanges) ∈ l) : Holds w :=
  utf8Tabs_of_readsT (ρ := Tryd.layVal_ren) ⟨Tryd.underlying5, Tryd.underlying115, Tryd.underlying117, Tryd.underlying118⟩ ⟨by kernel_rfl, by kernel_rfl, by kernel_rfl, by kernel_rfl, by kernel_rfl, by kernel_rfl, by kernel_rfl⟩
    (Pinned.utf8First_eq ▸ laidMet.reads h h3) (accept ▸ laidMet.reads h h4)
end Go.Proofs.YtgnmjaacnmkgnaaDoor.X.Tabs
end
section
namespace Go.Proofs.YtgnmjaacnmkgnaaDoor.X.Opn
open Go.ChangeShapes Go.WideShapes Go.RowKit Go.Joins Go.Deep
set_option linter.unusedVariables false
variable {H : Type} {enc : TypeId × Value → H} {w : World} {base : Nat} {spare : Nat → Bool} {held : Bool}
theorem weights_slice {P : Program} {t e : TypeId} {l r : List (DataW H)} {q : Nat → Bool} (hu : P.underlying t = some (.slice e)) (h : ((DataW.slice l r).weights P t).all q = true) : q ((l.length + r.length) * P.bytesOf e) = true := by
  rw [DataW.weights, hu] at h
  simp only [List.all_cons, List.all_append, Bool.and_eq_true] at h
  exact h.1
theorem weights_cons {P : Program} {t : TypeId} {ts : List TypeId} {d : DataW H} {r : List (DataW H)} {q : Nat → Bool} (h : (DataW.weightsEach P (t :: ts) (d :: r)).all q = true) : (d.weights P t).all q = true ∧ (DataW.weightsEach P ts r).all q = true := by
  rw [DataW.weightsEach, List.all_append, Bool.and_eq_true] at h
  exact h
set_option maxRecDepth 100000 in
theorem bytes23 : Tryd.prog.bytesOf 23 = 64 := by kernel_rfl
set_option maxRecDepth 100000 in
theorem c3 : Tryd.prog.cellsOf 3 = 1 := by kernel_rfl
set_option maxRecDepth 100000 in
theorem c9 : Tryd.prog.cellsOf 9 = 1 := by kernel_rfl
set_option maxRecDepth 100000 in
theorem c4 : Tryd.prog.cellsOf 4 = 1 := by kernel_rfl
set_option maxRecDepth 100000 in
theorem one_ev {fuel : Nat} {cs : List Value} {x : DataW H × List MemPlace} (h : DataW.trod enc Tryd.prog w base spare held fuel 23 cs = some x) : ∃ y : Evt.Ev, cs = Evt.enc y := by
  obtain ⟨xs, k, _, _, hlen, hxl, hf⟩ := DataW.trod_struct Tryd.underlying23 h
  rw [cells23] at hlen
  match xs, hxl, cs, hlen with
  | [y0, y1, y2, y3, y4], _, [v0, v1, v2, v3, v4], _ =>
    have g0 := hf 0 _ rfl
    have g1 := hf 1 _ rfl
    have g2 := hf 2 _ rfl
    have g3 := hf 3 _ rfl
    have g4 := hf 4 _ rfl
    simp [c3, c4, c9] at g0 g1 g2 g3 g4
    obtain ⟨k, e0, _, _⟩ := DataW.trod_int Tryd.underlying3 g0
    obtain ⟨s1, e1, _, _⟩ := DataW.trod_string Tryd.underlying9 g1
    obtain ⟨s2, e2, _, _⟩ := DataW.trod_string Tryd.underlying9 g2
    obtain ⟨s3, e3, _, _⟩ := DataW.trod_string Tryd.underlying9 g3
    obtain ⟨p, e4, _⟩ := DataW.trod_bool Tryd.underlying4 g4
    injection e0 with e0; injection e1 with e1; injection e2 with e2; injection e3 with e3; injection e4 with e4
    subst e0; subst e1; subst e2; subst e3; subst e4
    exact ⟨⟨k, s1, s2, s3, p⟩, rfl⟩
set_option maxRecDepth 100000 in
theorem open_evs {r : Reach} {b0 : Nat} {v : Value} {d : DataW H} {p : List MemPlace} (hv : Value.okWide Tryd.prog w r b0 26 v) (h : DataW.Trod enc Tryd.prog w base (fun _ => true) held 26 v d p) (hw : (d.weights Tryd.prog 26).all (· ≤ reachBytes) = true) :
    ∃ l : List Evt.Ev, Eng.Reads w v l.length 5 (Evt.cells l) ∧ l.length ≤ 2199023255488 := by
  obtain ⟨a0, len0, cap0, rfl⟩ := okWide_slice Tryd.underlying26 hv
  obtain ⟨fuel, hf⟩ := h
  have hf : DataW.trod enc Tryd.prog w base (fun _ => true) held fuel 26 [.slice a0 len0 cap0] = some (d, p) := hf
  rcases open_slice Tryd.underlying26 hf with ⟨h1, _⟩ | ⟨a, len, cap, m, n, D, Pl, h1, hb, hl, hm, hmm, hy, hx⟩
  · injection h1 with h1
    rw [h1]
    exact ⟨[], Eng.Reads.nil w 5, Nat.zero_le _⟩
  · injection h1 with h1
    rw [h1]
    simp only [if_true] at hmm
    subst hmm
    injection hy with hy hy2
    subst hy
    have hlen := weights_slice Tryd.underlying26 hw
    rw [bytes23, List.length_map, List.length_range] at hlen
    have hlen := of_decide_eq_true hlen
    unfold reachBytes at hlen
    have each : ∀ i, i < len → ∃ y : Evt.Ev, ∀ q u, (Evt.enc y)[q]? = some u → w.cell? (a.add (i * 5 + q)) = some u := fun i hi => by
      obtain ⟨cs', h2, h3⟩ := hx i (by omega)
      obtain ⟨y, rfl⟩ := one_ev h3
      rw [cells23] at h2
      obtain ⟨_, _, hcell⟩ := World.cells?_some h2
      refine ⟨y, fun q u hq => ?_⟩
      have hq5 : q < 5 := (List.getElem?_eq_some_iff.1 hq).1
      have e := hcell q hq5
      rw [add_add] at e
      rw [e]; first | exact hq | (rw [List.getElem?_eq_getElem (by exact hq5)] at hq; exact hq)
    obtain ⟨L, hL⟩ := choose_lt each
    refine ⟨(List.range len).map L, ⟨by rw [Rwt.len Evt.enc_len], some a, m, by simp, by simpa using hl, hm, fun j u hj => ⟨a, rfl, ?_⟩⟩, by simp; omega⟩
    generalize hLL : (List.range len).map L = LL at hj
    have hLl : LL.length = len := by rw [← hLL]; simp
    have hjl := (List.getElem?_eq_some_iff.1 hj).1
    rw [Rwt.len Evt.enc_len, hLl] at hjl
    have hi : j / 5 < len := by omega
    have hat := Evt.cells_at LL (j / 5) (by omega)
    have hg : LL.getD (j / 5) default = L (j / 5) := by
      rw [← hLL, List.getD_eq_getElem?_getD, List.getElem?_map, List.getElem?_range hi]; rfl
    rw [hg] at hat
    have hget : (Evt.cells LL)[j]? = (Evt.enc (L (j / 5)))[j % 5]? := by
      show _ = ([.int .i64 (L (j / 5)).kind, .string (L (j / 5)).anchor, .string (L (j / 5)).tag, .string (L (j / 5)).text, .bool (L (j / 5)).plain] : List Value)[j % 5]?
      rw [← hat, List.getElem?_take, if_pos (by omega), List.getElem?_drop]
      congr 1; omega
    rw [hget] at hj
    have := hL (j / 5) hi (j % 5) u hj
    rwa [show j / 5 * 5 + j % 5 = j by omega] at this
end Go.Proofs.YtgnmjaacnmkgnaaDoor.X.Opn
end
section
namespace Go.Proofs.EngG
open Go Go.RowKit Go.Proofs.Eng Go.Proofs.EngI
set_option linter.unusedSimpArgs false
set_option linter.unusedVariables false
variable {Fc : Fence} {nn : Nat} {P : Program} {ops : Array Oper} {Q : Exit → Act → World → Prop} {a : Act} {w : World} {i : Nat} {o : Oper}
theorem wanted_on {j d : Nat} {want : Bool} {oj : Oper} (hg : o.guard = some (j, want)) (hj : ops[j]? = some oj) (hd : oj.dst = some d) (hlt : d < a.tmps.size) (h : a.eval (.tmp d) = .bool want) : Region.wanted o (yielded ops a.tmps) = true := by
  have hy : yielded ops a.tmps j = some want := by
    unfold yielded
    rw [hj]
    have h2 : a.tmps[d]? = some (.bool want) := by
      have h3 : a.tmps.getD d undef = .bool want := h
      rw [Array.getD_eq_getD_getElem?] at h3
      rw [Array.getElem?_eq_getElem hlt] at h3 ⊢
      exact congrArg some h3
    simp [hd, h2]
  unfold Region.wanted
  rw [hg]
  simp [hy]
theorem wanted_off {j d : Nat} {want : Bool} {oj : Oper} (hg : o.guard = some (j, want)) (hj : ops[j]? = some oj) (hd : oj.dst = some d) (hlt : d < a.tmps.size) (h : a.eval (.tmp d) = .bool (!want)) : Region.wanted o (yielded ops a.tmps) = false := by
  have hy : yielded ops a.tmps j = some (!want) := by
    unfold yielded
    rw [hj]
    have h2 : a.tmps[d]? = some (.bool (!want)) := by
      have h3 : a.tmps.getD d undef = .bool (!want) := h
      rw [Array.getD_eq_getD_getElem?] at h3
      rw [Array.getElem?_eq_getElem hlt] at h3 ⊢
      exact congrArg some h3
    simp [hd, h2]
  unfold Region.wanted
  rw [hg]
  simp [hy]
theorem tail_one (hF : Free Fc) {c : Nat} {os : List Oper} (ho' : ops.toList.drop i = o :: os) (hg : Region.wanted o (yielded ops a.tmps) = true) (hcalm : calm o = true) (h : o.wp P a w (fun a' w' => wpOpsIn Fc nn P ops Q (List.range' (i + 1) c) a' w') Q) : wpOpsIn Fc nn P ops Q (List.range' i (c + 1)) a w := by
  have ho := drop_get ho'
  rw [List.range'_succ, wpOpsIn_cons]
  unfold wpOpIn
  rw [ho]
  simp only
  rw [if_pos hg]
  exact wp_in hF hcalm h
theorem tail_skip (hF : Free Fc) {c : Nat} {w1 : World} {os : List Oper} (ho' : ops.toList.drop i = o :: os) (hg : Region.wanted o (yielded ops a.tmps) = true) (hcalm : calm o = true) (hd : o.dst = none) (hrun : (execOp a.eval o).run P w = .ok .skip w1) (h : wpOpsIn Fc nn P ops Q (List.range' (i + 1) c) a w1) : wpOpsIn Fc nn P ops Q (List.range' i (c + 1)) a w := by
  refine tail_one hF ho' hg hcalm ?_
  unfold Oper.wp
  rw [hrun]
  show wpOpsIn Fc nn P ops Q _ (a.put o.dst undef) w1
  rw [hd]; exact h
theorem tail_val (hF : Free Fc) {c d n : Nat} {v : Value} {w1 : World} {os : List Oper} (ho' : ops.toList.drop i = o :: os) (hg : Region.wanted o (yielded ops a.tmps) = true) (hcalm : calm o = true) (hd : o.dst = some d) (hrun : (execOp a.eval o).run P w = .ok (.value v) w1) (hn : a.tmps.size = n) (hlt : decide (d < n) = true)
    (h : ∀ a' : Act, a'.defers = a.defers → a'.tmps.size = n → a'.eval (.tmp d) = v → (∀ t, (t != d) = true → a'.eval (.tmp t) = a.eval (.tmp t)) → wpOpsIn Fc nn P ops Q (List.range' (i + 1) c) a' w1) : wpOpsIn Fc nn P ops Q (List.range' i (c + 1)) a w := by
  refine tail_one hF ho' hg hcalm ?_
  unfold Oper.wp
  rw [hrun]
  show wpOpsIn Fc nn P ops Q _ (a.put o.dst v) w1
  rw [hd]
  have hlt := of_decide_eq_true hlt
  have hx : ∀ d', some d = some d' → d' < a.tmps.size := fun d' e => by injection e with e; omega
  refine h _ rfl (by simp [Act.put, hn]) ?_ fun t ht => ?_
  · show (a.put (some d) v).tmps.getD d undef = v
    rw [put_getD _ _ _ _ hx, if_pos rfl]
  · show (a.put (some d) v).tmps.getD t undef = _
    rw [put_getD _ _ _ _ hx, if_neg (fun e => by injection e with e; simp [e] at ht)]
    rfl
theorem tail_call (hF : Free Fc) {c d n : Nat} {f : FuncId} {fn : Func} {as_ : Array Operand} {ts : Array TypeId} {R : Value → World → Prop} {os : List Oper} (hf : P.funcs[f]? = some fn) (hname : (fn.name == "runtime.NumGoroutine") = false) (hb : fn.body.isNone = false)
    (ho' : ops.toList.drop i = o :: os) (hg : Region.wanted o (yielded ops a.tmps) = true) (hd : o.dst = some d) (hop : o.op = .call { callee := .value (.func f), args := as_, argTypes := ts }) (args : Array Value) (hargs : as_.map a.eval = args) (hn : a.tmps.size = n) (hlt : decide (d < n) = true)
    (hcall : Calls P f args w fun e w' => ∃ v, e = .returned v ∧ R v w')
    (h : ∀ (v : Value) (w1 : World) (a' : Act), R v w1 → a'.defers = a.defers → a'.tmps.size = n → a'.eval (.tmp d) = v → (∀ t, (t != d) = true → a'.eval (.tmp t) = a.eval (.tmp t)) → wpOpsIn Fc nn P ops Q (List.range' (i + 1) c) a' w1) : wpOpsIn Fc nn P ops Q (List.range' i (c + 1)) a w := by
  refine tail_one hF ho' hg (by unfold calm; rw [hop]) ?_
  have he := enters hf hname hb args w
  have hrun : (execOp a.eval o).run P w = .ok (.enter f args) w := by
    unfold execOp
    rw [hop]
    simp only [resolve, Deferred.ofValue, invoke, Act.eval, hargs]
    have h2 : (#[] : Array Value) ++ args ++ (#[] : Array Value) = args := by simp
    show Sem.run P (callFunc f (#[] ++ args ++ #[])) w = _
    rw [h2]
    exact he
  unfold Oper.wp
  rw [hrun]
  refine Calls.mono hcall ?_
  rintro e w' ⟨v, rfl, hR⟩
  show wpOpsIn Fc nn P ops Q _ (a.put o.dst v) w'
  rw [hd]
  have hlt := of_decide_eq_true hlt
  have hx : ∀ d', some d = some d' → d' < a.tmps.size := fun d' e => by injection e with e; omega
  refine h v w' _ hR rfl (by simp [Act.put, hn]) ?_ fun t ht => ?_
  · show (a.put (some d) v).tmps.getD d undef = v
    rw [put_getD _ _ _ _ hx, if_pos rfl]
  · show (a.put (some d) v).tmps.getD t undef = _
    rw [put_getD _ _ _ _ hx, if_neg (fun e => by injection e with e; simp [e] at ht)]
    rfl
theorem tail_off (hF : Free Fc) {c d n : Nat} {os : List Oper} (ho' : ops.toList.drop i = o :: os) (hg : Region.wanted o (yielded ops a.tmps) = false) (hd : o.dst = some d) (hn : a.tmps.size = n) (hlt : decide (d < n) = true)
    (h : ∀ a' : Act, a'.defers = a.defers → a'.tmps.size = n → (∀ t, (t != d) = true → a'.eval (.tmp t) = a.eval (.tmp t)) → wpOpsIn Fc nn P ops Q (List.range' (i + 1) c) a' w) : wpOpsIn Fc nn P ops Q (List.range' i (c + 1)) a w := by
  have ho := drop_get ho'
  rw [List.range'_succ, wpOpsIn_cons]
  unfold wpOpIn
  rw [ho]
  simp only
  rw [if_neg (by rw [hg]; simp)]
  refine ⟨fun f _ => hF.fn f, ?_⟩
  rw [hd]
  have hlt := of_decide_eq_true hlt
  have hx : ∀ d', some d = some d' → d' < a.tmps.size := fun d' e => by injection e with e; omega
  refine h _ rfl (by simp [Act.put, hn]) fun t ht => ?_
  show (a.put (some d) undef).tmps.getD t undef = _
  rw [put_getD _ _ _ _ hx, if_neg (fun e => by injection e with e; simp [e] at ht)]
  rfl
theorem tail_exs (hF : Free Fc) {c : Nat} {R : World → Prop} {os : List Oper} (ho' : ops.toList.drop i = o :: os) (hg : Region.wanted o (yielded ops a.tmps) = true) (hcalm : calm o = true) (hd : o.dst = none) (hrun : ∃ w1, (execOp a.eval o).run P w = .ok .skip w1 ∧ R w1)
    (h : ∀ w1, R w1 → wpOpsIn Fc nn P ops Q (List.range' (i + 1) c) a w1) : wpOpsIn Fc nn P ops Q (List.range' i (c + 1)) a w := by
  obtain ⟨w1, hr, hR⟩ := hrun
  exact tail_skip hF ho' hg hcalm hd hr (h w1 hR)
end Go.Proofs.EngG
namespace Go.Proofs.Eng
open Go Go.RowKit
set_option linter.unusedSimpArgs false
set_option linter.unusedVariables false
variable {P : Program} {a : Act} {w : World} {o : Oper}
theorem run_nil_el {x : Operand} {j : Nat} {v : Value} {n size : Nat} {xs : List Value} (hop : o.op = .nilCheck x) (h : a.eval x = elemPtr v j) (F : Reads w v n size xs) (hj : j < n * size) : (execOp a.eval o).run P w = .ok (.value (elemPtr v j)) w := by
  obtain ⟨hl, A, c, rfl, hc, hm, hx⟩ := F
  obtain ⟨ad, rfl, _⟩ := hx j _ (List.getElem?_eq_getElem (by omega))
  unfold execOp
  rw [hop]
  simp only [h, elemPtr]
  go_simp
theorem own_pop {B : Nat} {e : TypeId} {size : Nat} {v : Value} {n : Nat} {xs : List Value} (O : w.ownsRow B e size v (n + 1) xs) : w.ownsRow B e size (cutVal v 0 n size) n (xs.take (n * size)) := by
  obtain ⟨hl, h2⟩ := O
  rcases h2 with ⟨h0, h1⟩ | ⟨g, cap, cur, rfl, hg, hh, hn, hcap, hsz, htake⟩
  · cases h1
  · have e1 : cutVal (.slice (some ⟨g, 0, none⟩) (n + 1) cap) 0 n size = .slice (some ⟨g, 0, none⟩) n cap := by
      unfold cutVal
      simp only [Nat.sub_zero]
      split <;> simp [Addr.add]
    rw [e1]
    have hx : xs = xs.take (n * size) ++ xs.drop (n * size) := (List.take_append_drop _ _).symm
    refine ownsRow_pop (last := xs.drop (n * size)) (by rw [List.length_take, hl, Nat.succ_mul]; omega) ?_
    rw [← hx]
    exact ⟨hl, .inr ⟨g, cap, cur, rfl, hg, hh, hn, hcap, hsz, htake⟩⟩
theorem own_form {B : Nat} {e : TypeId} {size : Nat} {v : Value} {n : Nat} {xs : List Value} (O : w.ownsRow B e size v n xs) {j : Nat} (hj : j < n * size) : ∃ g cap, v = .slice (some ⟨g, 0, none⟩) n cap ∧ elemPtr v j = .pointer (some ⟨g, j, none⟩) := by
  obtain ⟨hl, h2⟩ := O
  rcases h2 with ⟨h0, h1⟩ | ⟨g, cap, cur, rfl, hg, hh, hn, hcap, hsz, htake⟩
  · rw [h1, Nat.zero_mul] at hj; cases hj
  · exact ⟨g, cap, rfl, by simp [elemPtr, Addr.add]; intro h; exact h.symm⟩
theorem run_store_el {B : Nat} {e T : TypeId} {size : Nat} {v u : Value} {n j : Nat} {xs : List Value} {x y : Operand} (hop : o.op = .store T x y) (hx : a.eval x = elemPtr v j) (hy : a.eval y = u) (O : w.ownsRow B e size v n xs) (hj : j < n * size) (hsize : (P.info? T).map (·.size) = some 1) (h1 : u.oneCell' = true) :
    ∃ w1, (execOp a.eval o).run P w = .ok .skip w1 ∧ w1.ownsRow B e size v n (xs.set j u) ∧ w.grownBy w1 v.ownBlock := by
  obtain ⟨g, cap, rfl, hp⟩ := own_form O hj
  rw [hp] at hx
  have hs := O.stored j u
  refine ⟨w.setCell ⟨g, j, none⟩ u, ?_, hs.1, hs.2⟩
  have hc := O.cellAt j hj
  have hlt : j < xs.length := by rw [O.1]; exact hj
  rw [List.getElem?_eq_getElem hlt] at hc
  have hf := O.frozenAt j
  have hz : (sizeOf T).run P w = .ok 1 w := by
    cases hq : P.info? T with
    | none => simp [hq] at hsize
    | some i => simp [hq] at hsize; simp [sizeOf, typeInfo, hq, hsize, Sem.run_bind, Sem.run_pure]
  have hr : ∀ m, (store ⟨g, j, none⟩ u m).run P w = .ok () (w.setCell ⟨g, j, none⟩ u) := fun m => by rw [run_store P w _ u m h1, hc]; simp [hf]
  unfold execOp
  rw [hop]
  simp only [hx, hy]
  cases u <;> first | (simp [Value.oneCell'] at h1; done) | (go_simp; done) | (go_simp; rw [hz]; go_simp; done) | (go_simp; try rw [hz]; try simp only [Sem.run_bind, Result.andThen_ok]; simp [hr])
end Go.Proofs.Eng
end
section
namespace Go.Proofs.Eng
open Go Go.RowKit
set_option linter.unusedSimpArgs false
set_option linter.unusedVariables false
structure Aft (S : Nat → Prop) (w w' : World) : Prop where
  os : w'.os = w.os
  tape : w'.tape = w.tape
  output : w'.output = w.output
  size : w.heap.size ≤ w'.heap.size
  far : ∀ b, b < w.heap.size → ¬ S b → w'.heap[b]? = w.heap[b]?
namespace Aft
variable {S S' : Nat → Prop} {w w' w1 w2 W : World}
theorem refl (S : Nat → Prop) (w : World) : Aft S w w := ⟨rfl, rfl, rfl, Nat.le_refl _, fun _ _ _ => rfl⟩
theorem step (h : Aft S W w) (hb : Below w.heap.size w w') : Aft S W w' := ⟨hb.os.trans h.os, hb.tape.trans h.tape, hb.output.trans h.output, Nat.le_trans h.size hb.size, fun b h1 h2 => (hb.block b (Nat.lt_of_lt_of_le h1 h.size)).trans (h.far b h1 h2)⟩
theorem trans (h : Aft S W w) (k : Aft S' w w') (hS : ∀ b, b < W.heap.size → S' b → S b) : Aft S W w' := ⟨k.os.trans h.os, k.tape.trans h.tape, k.output.trans h.output, Nat.le_trans h.size k.size, fun b h1 h2 => (k.far b (Nat.lt_of_lt_of_le h1 h.size) fun h3 => h2 (hS b h1 h3)).trans (h.far b h1 h2)⟩
theorem of_sets {g : Nat} {o : Obj} (s : Sets w w' g o) (hS : S g) : Aft S w w' := ⟨s.os, s.tape, s.output, by have := s.size; omega, fun b _ h => s.far b fun e => h (e ▸ hS)⟩
theorem of_grown {v : Value} (s : w.grownBy w' v.ownBlock) (hS : ∀ b, some b = v.ownBlock → S b) : Aft S w w' := ⟨s.os, s.tape, s.output, s.size, fun b hb h => s.block b hb fun e => h (hS b e)⟩
theorem sets {g : Nat} {o : Obj} (h : Aft S W w) (s : Sets w w' g o) (hS : g < W.heap.size → S g) : Aft S W w' := h.trans (S' := fun b => b = g) (of_sets s rfl) (by rintro b hb rfl; exact hS hb)
theorem grown {v : Value} (h : Aft S W w) (s : w.grownBy w' v.ownBlock) (hS : ∀ b, some b = v.ownBlock → b < W.heap.size → S b) : Aft S W w' := h.trans (S' := fun b => some b = v.ownBlock) (of_grown s fun _ => id) (fun b hb e => hS b e hb)
theorem mono (h : Aft S w w') (hS : ∀ b, b < w.heap.size → S b → S' b) : Aft S' w w' := ⟨h.os, h.tape, h.output, h.size, fun b hb k => h.far b hb fun e => k (hS b hb e)⟩
theorem below {B : Nat} (h : Aft S w w') (hb : Below B W w) (hW : B ≤ W.heap.size) (hS : ∀ b, S b → B ≤ b) : Below B W w' :=
  hb.trans ⟨h.os, h.tape, h.output, h.size, fun b hb' => h.far b (by have := hb.size; omega) fun e => by have := hS b e; omega⟩
theorem at_ {b : Nat} {o : Obj} (h : Aft S w w') (hk : w.heap[b]? = some o) (hS : ¬ S b) : w'.heap[b]? = some o := (h.far b (Array.getElem?_eq_some_iff.1 hk).1 hS).trans hk
theorem own {B : Nat} {e : TypeId} {size n : Nat} {v : Value} {xs : List Value} (h : Aft S w w') (O : w.ownsRow B e size v n xs) (hS : ∀ b, some b = v.ownBlock → ¬ S b) : w'.ownsRow B e size v n xs := by
  refine ⟨O.1, ?_⟩
  rcases O.2 with h2 | ⟨g, cap, cur, rfl, hg, hh, r⟩
  · exact .inl h2
  · exact .inr ⟨g, cap, cur, rfl, hg, h.at_ hh (hS g rfl), r⟩
end Aft
theorem ownB {w : World} {B : Nat} {e : TypeId} {size n : Nat} {v : Value} {xs : List Value} (O : w.ownsRow B e size v n xs) {b : Nat} (h : some b = v.ownBlock) : B ≤ b ∧ b < w.heap.size ∧ ∃ cs, w.heap[b]? = some (.cells cs e (0, 0)) := by
  rcases O.2 with ⟨rfl, _⟩ | ⟨g, cap, cur, rfl, hg, hh, _⟩
  · simp [Value.ownBlock] at h
  · simp [Value.ownBlock] at h; subst h
    exact ⟨hg, (Array.getElem?_eq_some_iff.1 hh).1, cur, hh⟩
theorem own_apart_ty {w : World} {B B' : Nat} {e e' : TypeId} {size n size' n' : Nat} {v v' : Value} {xs xs' : List Value} (O : w.ownsRow B e size v n xs) (O' : w.ownsRow B' e' size' v' n' xs') (hne : (e != e') = true) {b : Nat} (h : some b = v.ownBlock) : some b ≠ v'.ownBlock := by
  intro h'
  obtain ⟨_, _, cs, h1⟩ := ownB O h
  obtain ⟨_, _, cs', h2⟩ := ownB O' h'
  rw [h1] at h2; injection h2 with h2; injection h2 with _ h2; simp [h2] at hne
def Nst (g : Nat) (o : Value) (b : Nat) : Prop := b = g ∨ some b = o.ownBlock
end Go.Proofs.Eng
namespace Go.Proofs.Eng
open Go Go.RowKit
variable {P : Program} {a : Act} {w : World} {o : Oper}
theorem box_ex {T : TypeId} {x : Operand} {v : Value} {cs : Array Value} (hop : o.op = .box T x) (h : a.eval x = v) (hc : v.cells = cs) : ∃ v' w1, (execOp a.eval o).run P w = .ok (.value v') w1 ∧ ∃ g, v' = .pointer (some ⟨g, 0, none⟩) ∧ w.heap.size ≤ g ∧ g < w1.heap.size ∧ w1.heap[g]? = some (.cells cs T (0, 0)) ∧ Below w.heap.size w w1 := by
  refine ⟨_, _, run_box hop h, w.heap.size, rfl, Nat.le_refl _, ?_, ?_, (Below.refl _ _).alloc (Nat.le_refl _) _⟩
  · show w.heap.size < (w.heap.push _).size; simp
  · show (w.heap.push _)[w.heap.size]? = _; rw [hc]; simp
theorem run_store_own {B : Nat} {e T : TypeId} {size : Nat} {v u : Value} {n j : Nat} {xs : List Value} {x y : Operand} (hop : o.op = .store T x y) (hx : a.eval x = elemPtr v j) (hy : a.eval y = u) (O : w.ownsRow B e size v n xs) (hj : j < n * size) (hsize : (P.info? T).map (·.size) = some 1) (h1 : u.oneCell' = true) :
    ∃ w1, (execOp a.eval o).run P w = .ok .skip w1 ∧ w1.ownsRow B e size v n (xs.set j u) ∧ w.grownBy w1 v.ownBlock := run_store_el hop hx hy O hj hsize h1
end Go.Proofs.Eng
namespace Go.Proofs.Eng
open Go Go.RowKit
variable {P : Program} {o : Oper} {a : Act} {w : World} {Q : Exit → Act → World → Prop} {D : Value → World → Prop}
theorem vr {v : Value} (hD : D v w) (hrun : (execOp a.eval o).run P w = .ok (.value v) w) : o.wp P a w (fun a' w' => ∃ v, a' = a.put o.dst v ∧ (o.dst ≠ none → D v w') ∧ Below w.heap.size w w') Q := val hrun (Below.refl _ _) hD
theorem run_nilb {x : Operand} {p : Addr} (hop : o.op = .nilCheck x) (h : a.eval x = .pointer (some p)) : (execOp a.eval o).run P w = .ok (.value (.pointer (some p))) w := by
  unfold execOp
  rw [hop]
  simp only [h]
  go_simp
theorem run_fieldb {T : TypeId} {x : Operand} {f g n : Nat} {fs : Array Field} (hop : o.op = .fieldAddr T x f) (hu : P.underlying T = some (.struct fs)) (k : Nat) (hf : (fs[f]?).map (fun fd => (fd.offset, ((P.info? fd.type).map (·.size)).isSome && decide ((P.info? fd.type).map (·.size) ≠ some 0))) = some (k, true)) (h : a.eval x = .pointer (some ⟨g, n, none⟩)) :
    (execOp a.eval o).run P w = .ok (.value (.pointer (some ⟨g, n + k, none⟩))) w := by
  cases hq : fs[f]? with
  | none => simp [hq] at hf
  | some fd =>
    cases hi : P.info? fd.type with
    | none => simp [hq, hi] at hf
    | some i =>
      simp [hq, hi] at hf
      obtain ⟨h1, h2⟩ := hf
      unfold execOp; rw [hop]
      simp only [h, Instr.fieldAt, Instr.sureAddr, Sem.run_bind, Sem.run_pure, Result.andThen_ok, run_underlying hu]
      simp [Sem.run_bind, Sem.run_pure, hq, fieldPlace, sizeOf, typeInfo, hi, h2, ← h1, Addr.add]
theorem run_loadb {ty T : TypeId} {x : Operand} {g n : Nat} {cs : Array Value} {u : Value} (hop : o.op = .load ty x) (h : a.eval x = .pointer (some ⟨g, n, none⟩)) (hk : w.heap[g]? = some (.cells cs T (0, 0))) (hu : cs[n]? = some u) (hagg : (isAgg ty).run P w = .ok false w) : (execOp a.eval o).run P w = .ok (.value u) w := by
  have hcell : w.cell? ⟨g, n, none⟩ = some u := (cells hk n).trans hu
  unfold execOp; rw [hop]
  simp only [h, Instr.loadAt, Instr.sureAddr, Sem.run_bind, Sem.run_pure, Result.andThen_ok, loadVar, hagg]
  simp [load, Sem.run, hcell]
end Go.Proofs.Eng
end
