/- Words and walks that the row of EventWraps needs: printed by programs, and plain laws. -/
import Derived.Below
import Derived.Deep.Draws
import Derived.Deep.AppendLies
import Derived.Maps.AppendAt
import Derived.OwnWalk
import Derived.Laws.BytesArg
import Derived.Laws.MakeOwn
import Derived.Laws.OwnMore
import Derived.Deep.OwnRows
import Derived.Tactics
import Derived.Lib.ConvBytes
import Derived.Laws.Slices
import Derived.WalkKit
import Derived.KernelRfl
import Derived.RowKit3
import Derived.Deep.LoopGhost
import Derived.Deep.QuietTactic
import Derived.BigQuiet
import Derived.WideLaws
import Derived.Deep.DeepCutAuto
import Derived.Deep.CutBlock
import Derived.Deep.RegionHeld3
import Derived.Laws.Rows
import Derived.Lib.AppendStr
import Derived.ArgAppend
import Derived.Laws.IdiomCopy
import Derived.RowKit
import Derived.Test.YtgnmjaacnmkgnaaGreatDoorM0
import Derived.OrdersIn
import Derived.RangeFuncIn
import Derived.RangeFuncCalls
import Derived.Deep.Upon
import Derived.Great.BuildSlice
section
set_option linter.unusedVariables false
set_option linter.unusedSimpArgs false
namespace Go.Proofs.YtgnmjaacnmkgnaaGreatDoorW.PrintWords
open Go.RowKit
structure Aside0 (p : Prop) : Prop where mk :: (out : p)
structure Drawn0 (w w' : World) : Prop where mk :: (out : ∃ n, w' = w.drewN n)
theorem Drawn0.refl (w : World) : Drawn0 w w := ⟨⟨0, rfl⟩⟩
theorem Drawn0.step {w w' : World} (h : Drawn0 w w') (n : Nat) : Drawn0 w (w'.drewN n) := by
  obtain ⟨m, rfl⟩ := h
  exact ⟨⟨m + n, World.drewN_drewN ..⟩⟩
theorem Drawn0.grown {w w' : World} (h : Drawn0 w w') : Grown w w' := by
  obtain ⟨n, rfl⟩ := h
  induction n with
  | zero => exact Grown.refl _
  | succ n ih => rw [← World.drew_drewN]; exact Grown.drew ih
theorem Drawn0.below {w w' : World} (h : Drawn0 w w') : Below w.heap.size w w' := by
  obtain ⟨n, rfl⟩ := h
  induction n with
  | zero => exact Below.refl _ _
  | succ n ih => rw [← World.drew_drewN]; exact ih.drew
def rd (xs : List Int) (i : Int) : Int := xs.getD i.toNat 0
theorem below_alloc {w W : World} (h : Below w.heap.size w W) (o : Obj) : Below w.heap.size w (W.alloc o) := h.alloc h.size o
theorem pw_below_drewN {B : Nat} {w W : World} (h : Below B w W) (n : Nat) : Below B w (W.drewN n) := ⟨h.os, h.tape, h.output, h.size, h.block⟩
theorem below_then {B : Nat} {w w1 w2 : World} (h : Below B w w1) (hB : B ≤ w1.heap.size) (k : Below w1.heap.size w1 w2) : Below B w w2 :=
  h.trans ⟨k.os, k.tape, k.output, k.size, fun i hi => k.block i (Nat.lt_of_lt_of_le hi hB)⟩
theorem grown_of_below {w w1 : World} (h : Below w.heap.size w w1) (row : Option Nat) : w.grownBy w1 row := ⟨h.os, h.tape, h.output, h.size, fun i hi _ => h.block i hi⟩
theorem pw_cell_below {w w1 : World} (h : Below w.heap.size w w1) {a : Addr} {v : Value} (hc : w.cell? a = some v) : w1.cell? a = some v := (h.cell (World.block_lt_of_cell? w a hc)).trans hc
def ReadsInt (w : World) (k : IntKind) (A : Option Addr) (n : Nat) (xs : List Int) : Prop :=
  xs.length = n ∧ n ≤ 9223372036854775807 ∧ (0 < n → ∃ ad, A = some ad ∧ ∀ j, j < n → w.cell? (ad.add j) = some (.int k (xs.getD j 0)))
theorem ReadsInt.at_ {w : World} {k : IntKind} {A : Option Addr} {n : Nat} {xs : List Int} (h : ReadsInt w k A n xs) (i : Int) (h0 : 0 ≤ i) (h1 : i < n) : ∃ ad, A = some ad ∧ w.cell? (ad.add i.toNat) = some (.int k (rd xs i)) := by
  obtain ⟨ad, e, hc⟩ := h.2.2 (by omega)
  exact ⟨ad, e, hc _ (by omega)⟩
theorem ReadsInt.below {w w1 : World} {k : IntKind} {A : Option Addr} {n : Nat} {xs : List Int} (h : ReadsInt w k A n xs) (hb : Below w.heap.size w w1) : ReadsInt w1 k A n xs :=
  ⟨h.1, h.2.1, fun hn => by
    obtain ⟨ad, e, hc⟩ := h.2.2 hn
    exact ⟨ad, e, fun j hj => pw_cell_below hb (hc j hj)⟩⟩
theorem own_base {w : World} {base : Nat} {e : TypeId} {size n : Nat} {v : Value} {xs : List Value} (h : w.ownsRow base e size v n xs) (k : Nat) (hk : v.ownBlock = some k) : base ≤ k := by
  rcases h.2 with ⟨rfl, _⟩ | ⟨g, cap, cur, rfl, hb, _⟩
  · simp [Value.ownBlock] at hk
  · have : g = k := by simpa [Value.ownBlock] using hk
    omega
theorem own_lt {w : World} {base : Nat} {e : TypeId} {size n : Nat} {v : Value} {xs : List Value} (h : w.ownsRow base e size v n xs) (k : Nat) (hk : v.ownBlock = some k) : k < w.heap.size := by
  rcases h.2 with ⟨rfl, _⟩ | ⟨g, cap, cur, rfl, hb, hh, _⟩
  · simp [Value.ownBlock] at hk
  · have : g = k := by simpa [Value.ownBlock] using hk
    subst this
    exact (Array.getElem?_eq_some_iff.1 hh).1
theorem pw_own_below {w w1 : World} {base : Nat} {e : TypeId} {size n : Nat} {v : Value} {xs : List Value} (h : w.ownsRow base e size v n xs) (hb : Below w.heap.size w w1) : w1.ownsRow base e size v n xs :=
  h.kept (grown_of_below hb none) (by cases v.ownBlock <;> simp)
def LeO {α : Type} (a b : Option α) : Prop := ∀ r, a = some r → b = some r
theorem LeO.refl {α : Type} (a : Option α) : LeO a a := fun _ h => h
theorem LeO.trans {α : Type} {a b c : Option α} (h : LeO a b) (k : LeO b c) : LeO a c := fun r hr => k r (h r hr)
theorem LeO.bind {α β : Type} {a a' : Option α} {f f' : α → Option β} (h : LeO a a') (k : ∀ x, LeO (f x) (f' x)) : LeO (a.bind f) (a'.bind f') := by
  intro r hr
  obtain ⟨x, hx, hf⟩ := Option.bind_eq_some_iff.1 hr
  exact Option.bind_eq_some_iff.2 ⟨x, h x hx, k x r hf⟩
theorem LeO.map {α β : Type} {a a' : Option α} (f : α → β) (h : LeO a a') : LeO (a.map f) (a'.map f) := by
  intro r hr
  obtain ⟨x, hx, hf⟩ := Option.map_eq_some_iff.1 hr
  exact Option.map_eq_some_iff.2 ⟨x, h x hx, hf⟩
theorem more_rounds {α : Type} {g : Nat → Option α} (h : ∀ k, LeO (g k) (g (k + 1))) (k : Nat) : ∀ j, LeO (g k) (g (k + j))
  | 0 => LeO.refl _
  | j + 1 => (more_rounds h k j).trans (h (k + j))
theorem at_rounds {α : Type} {g : Nat → Option α} (h : ∀ k, LeO (g k) (g (k + 1))) {k k' : Nat} (hk : k ≤ k') {r : α} (hr : g k = some r) : g k' = some r := by
  have := more_rounds h k (k' - k) r hr
  rwa [Nat.add_sub_cancel' hk] at this
def Reps {α : Type} (R : α → List Value → Prop) (size : Nat) (ps : List α) (cs : List Value) : Prop :=
  cs.length = ps.length * size ∧ ∀ j p, ps[j]? = some p → R p ((cs.drop (j * size)).take size)
theorem Reps.snoc {α : Type} {R : α → List Value → Prop} {size : Nat} {ps : List α} {cs c : List Value} {p : α} (h : Reps R size ps cs) (hp : R p c) (hc : c.length = size) : Reps R size (ps ++ [p]) (cs ++ c) := by
  refine ⟨by rw [List.length_append, h.1, hc, List.length_append, List.length_singleton, Nat.add_mul, Nat.one_mul], fun j q hq => ?_⟩
  rcases Nat.lt_or_ge j ps.length with hj | hj
  · rw [List.getElem?_append_left hj] at hq
    have h1 : j * size + size ≤ cs.length := by rw [h.1, ← Nat.succ_mul]; exact Nat.mul_le_mul_right _ hj
    have h2 := h.2 j q hq
    rw [List.drop_append_of_le_length (by omega), List.take_append_of_le_length (by rw [List.length_drop]; omega)]
    exact h2
  · have hj' : j = ps.length := by
      have := (List.getElem?_eq_some_iff.1 hq).1
      rw [List.length_append, List.length_singleton] at this
      omega
    subst hj'
    have hq' : p = q := by simpa using hq
    subst hq'
    rw [← h.1, List.drop_left, ← hc, List.take_length]
    exact hp
theorem Reps.imp_ {α : Type} {R R' : α → List Value → Prop} {size : Nat} {ps : List α} {cs : List Value} (h : Reps R size ps cs) (hR : ∀ p c, R p c → R' p c) : Reps R' size ps cs := ⟨h.1, fun j p hj => hR _ _ (h.2 j p hj)⟩
def ReadsRow {α : Type} (R : α → List Value → Prop) (size : Nat) (w : World) (A : Option Addr) (n : Nat) (ps : List α) : Prop :=
  ps.length = n ∧ n ≤ 9223372036854775807 ∧ (0 < n → ∃ ad, A = some ad ∧ ∀ j p, ps[j]? = some p → ∃ c, c.length = size ∧ R p c ∧ ∀ i u, c[i]? = some u → w.cell? (ad.add (j * size + i)) = some u)
theorem ReadsRow.imp_ {α : Type} {R R' : α → List Value → Prop} {size : Nat} {w w1 : World} {A : Option Addr} {n : Nat} {ps : List α} (h : ReadsRow R size w A n ps) (hb : Below w.heap.size w w1) (hR : ∀ p c, R p c → R' p c) : ReadsRow R' size w1 A n ps :=
  ⟨h.1, h.2.1, fun hn => by
    obtain ⟨ad, e, hc⟩ := h.2.2 hn
    refine ⟨ad, e, fun j p hj => ?_⟩
    obtain ⟨c, hs, hr, hcell⟩ := hc j p hj
    exact ⟨c, hs, hR _ _ hr, fun i u hu => pw_cell_below hb (hcell i u hu)⟩⟩
theorem own_reads_row {α : Type} {R : α → List Value → Prop} {w : World} {base n size : Nat} {e : TypeId} {v : Value} {ps : List α} {cs : List Value} (h : w.ownsRow base e size v n cs) (hR : Reps R size ps cs) (hn : ps.length = n) :
    ∃ A c, v = .slice A n c ∧ ReadsRow R size w A n ps := by
  rcases Nat.eq_zero_or_pos n with h0 | h0
  · rcases h.2 with ⟨rfl, rfl⟩ | ⟨g, cap, cur, rfl, _⟩
    · exact ⟨none, 0, rfl, hn, by omega, fun hp => absurd hp (by omega)⟩
    · exact ⟨_, cap, rfl, hn, by omega, fun hp => absurd hp (by omega)⟩
  · obtain ⟨g, cap, rfl, _, _⟩ := h.form h0
    have hm : n ≤ 9223372036854775807 := by
      rcases h.2 with ⟨_, h1⟩ | ⟨g', cap', cur, he, _, _, h1, h2, _⟩
      · omega
      · simp only [maxLen] at h2
        omega
    refine ⟨_, cap, rfl, hn, hm, fun _ => ⟨_, rfl, fun j p hj => ⟨(cs.drop (j * size)).take size, ?_, hR.2 j p hj, fun i u hu => ?_⟩⟩⟩
    · have hjl := (List.getElem?_eq_some_iff.1 hj).1
      have h1 : j * size + size ≤ cs.length := by rw [hR.1, ← Nat.succ_mul]; exact Nat.mul_le_mul_right _ hjl
      rw [List.length_take, List.length_drop]
      omega
    · refine h.cells (g := g) rfl _ u ?_
      rw [List.getElem?_take] at hu
      split at hu
      · rw [List.getElem?_drop] at hu
        exact hu
      · cases hu
section
variable {P : Program} {ops : Array Oper} {rest : List Oper} {o : Oper} {a : Act} {Q : Exit → Act → World → Prop}
theorem print_append_cells {w0 W : World} (base : Nat) (hgd : o.guard = none) (s x : Operand) (t e : TypeId) (z : Value) (size bytes : Nat)
    (ho : o.op = .call { callee := .builtin .append, args := #[s, x], argTypes := #[t, t] })
    (ht : P.underlying t = some (.slice e)) (hinfo : (P.info? e).map (fun i => (i.zero, i.size, i.bytes)) = some (some z, size, bytes)) (hz : z.cells.size = size) (hs0 : 0 < size) (hb0 : 0 < bytes)
    (v : Value) (n : Nat) (xs ys : List Value) (hs : a.eval s = v) (hx : a.eval x = .slice (some ⟨W.heap.size, 0, none⟩) 1 1) (hys : ys.length = size) (h1 : ∀ u ∈ ys, u.oneCell' = true)
    (HO : W.ownsRow base e size v n xs) (HB : Below base w0 W) (hbase : base ≤ W.heap.size) (hl : (n + 1) * bytes ≤ 140737488355328)
    (h : ∀ v1 w1, w1.ownsRow base e size v1 (n + 1) (xs ++ ys) → Below base w0 w1 → W.grownBy w1 v.ownBlock → (v1.ownBlock = v.ownBlock ∨ ∃ b, v1.ownBlock = some b ∧ W.heap.size ≤ b) → wpList P ops Q rest (a.put o.dst v1) w1) :
    wpList P ops Q (o :: rest) a (W.alloc (.cells ys.toArray e)) := by
  obtain ⟨i0, hi, hzz⟩ := Option.map_eq_some_iff.1 hinfo
  simp only [Prod.mk.injEq] at hzz
  obtain ⟨hz0, hz1, hz2⟩ := hzz
  have hlen : n + 1 ≤ 140737488355328 := Nat.le_trans (Nat.le_mul_of_pos_right _ hb0) hl
  refine wpList_append_own_at (W.alloc (.cells ys.toArray e)) hgd s x t ho base e i0 z size bytes ht hi hz0 hz1 hz2 hz hs0 v n xs hs (HO.alloc _) ⟨W.heap.size, 0, none⟩ 1 1 ys hx (by rw [hys]; simp)
    (by simpa using World.news_of_block (cs := ys.toArray) (t := e) (fr := (0, 0)) (heap_alloc_new W (.cells ys.toArray e))) h1 (by simp only [maxLen]; omega) hl (by simp; omega) ?_
  intro v1 w1 hown hg _ hat
  refine h v1 w1 hown ((HB.alloc hbase _).grown hg (by simp; omega) (own_base HO)) (World.grownBy.trans (World.grownBy_alloc W _ _) hg) ?_
  rcases hat with hat | hat
  · exact .inl hat
  · exact .inr ⟨_, hat, by simp⟩
end
theorem blk_set {w : World} {g : Nat} {t : TypeId} {cs : Array Value} (h : w.heap[g]? = some (.cells cs t (0, 0))) (i : Nat) (u : Value) : (w.setCell ⟨g, i, none⟩ u).heap[g]? = some (.cells (cs.setIfInBounds i u) t (0, 0)) := by
  simp [World.setCell, Array.getElem?_modify, h]
theorem blk_lt {w : World} {g : Nat} {o : Obj} (h : w.heap[g]? = some o) : g < w.heap.size := (Array.getElem?_eq_some_iff.1 h).1
theorem blk_cell {w : World} {g : Nat} {t : TypeId} {cs : Array Value} (h : w.heap[g]? = some (.cells cs t (0, 0))) (i : Nat) : w.cell? ⟨g, i, none⟩ = cs[i]? := cell_of_row w g i cs t (0, 0) h
theorem blk_frozen {w : World} {g : Nat} {t : TypeId} {cs : Array Value} (h : w.heap[g]? = some (.cells cs t (0, 0))) (i : Nat) : w.frozen? ⟨g, i, none⟩ = false := by simp [World.frozen?, h]
def KeepBut (w w' : World) (g : Nat) (row : Option Nat) : Prop := w.heap.size ≤ w'.heap.size ∧ ∀ i, i < w.heap.size → i ≠ g → some i ≠ row → w'.heap[i]? = w.heap[i]?
theorem KeepBut.refl (w : World) (g : Nat) (row : Option Nat) : KeepBut w w g row := ⟨Nat.le_refl _, fun _ _ _ _ => rfl⟩
theorem KeepBut.trans {w w1 w2 : World} {g : Nat} {row row1 : Option Nat} (h : KeepBut w w1 g row) (k : KeepBut w1 w2 g row1) (hr : row1 = row ∨ ∃ b, row1 = some b ∧ w.heap.size ≤ b) : KeepBut w w2 g row :=
  ⟨Nat.le_trans h.1 k.1, fun i hi hg hn => by
    refine (k.2 i (Nat.lt_of_lt_of_le hi h.1) hg ?_).trans (h.2 i hi hg hn)
    rcases hr with rfl | ⟨b, rfl, hb⟩
    · exact hn
    · intro e
      injection e with e
      omega⟩
theorem KeepBut.blk {w w1 : World} {g g' : Nat} {row : Option Nat} {o : Obj} (h : KeepBut w w1 g row) (hb : w.heap[g']? = some o) (hg : g' ≠ g) (hr : some g' ≠ row) : w1.heap[g']? = some o := (h.2 g' (blk_lt hb) hg hr).trans hb
theorem KeepBut.own {w w1 : World} {g : Nat} {row : Option Nat} {base : Nat} {e : TypeId} {size n : Nat} {v : Value} {xs : List Value} (h : KeepBut w w1 g row) (ho : w.ownsRow base e size v n xs) (hg : v.ownBlock ≠ some g) (hr : v.ownBlock = none ∨ v.ownBlock ≠ row) : w1.ownsRow base e size v n xs := by
  obtain ⟨h1, h2⟩ := ho
  refine ⟨h1, ?_⟩
  rcases h2 with h2 | ⟨b, cap, cur, rfl, hb, hh, r⟩
  · exact .inl h2
  · refine .inr ⟨b, cap, cur, rfl, hb, h.blk hh ?_ ?_, r⟩
    · intro e
      exact hg (by rw [← e]; rfl)
    · rcases hr with hr | hr
      · simp [Value.ownBlock] at hr
      · exact hr
def Ev {α : Type} (g : Nat → Option α) (r : α) : Prop := ∃ K, ∀ k, K ≤ k → g k = some r
theorem Ev.of {α : Type} {g : Nat → Option α} {r : α} (hg : ∀ k, LeO (g k) (g (k + 1))) {k : Nat} (h : g k = some r) : Ev g r := ⟨k, fun _ hk => at_rounds hg hk h⟩
theorem Ev.bind {α β : Type} {g : Nat → Option α} {f : Nat → α → Option β} {a : α} {r : β} (h : Ev g a) (k : Ev (fun n => f n a) r) : Ev (fun n => (g n).bind (f n)) r := by
  obtain ⟨K, h⟩ := h
  obtain ⟨K', k⟩ := k
  refine ⟨max K K', fun n hn => ?_⟩
  have h1 := h n (by omega)
  have h2 := k n (by omega)
  simp only [h1, Option.bind_some]
  exact h2
theorem own_weaken {w : World} {base base' : Nat} {e : TypeId} {size n : Nat} {v : Value} {xs : List Value} (h : w.ownsRow base e size v n xs) (hb : base' ≤ base) : w.ownsRow base' e size v n xs := by
  obtain ⟨h1, h2⟩ := h
  refine ⟨h1, ?_⟩
  rcases h2 with h2 | ⟨g, cap, cur, rfl, hg, r⟩
  · exact .inl h2
  · exact .inr ⟨g, cap, cur, rfl, Nat.le_trans hb hg, r⟩
section
variable {α : Type} {enc : α → Value} {d : α}
def rdOf (d : α) (xs : List α) (i : Int) : α := xs.getD i.toNat d
def ReadsOf (enc : α → Value) (d : α) (w : World) (A : Option Addr) (n : Nat) (xs : List α) : Prop :=
  xs.length = n ∧ n ≤ 9223372036854775807 ∧ (0 < n → ∃ ad, A = some ad ∧ ∀ j, j < n → w.cell? (ad.add j) = some (enc (xs.getD j d)))
theorem ReadsOf.at_ {w : World} {A : Option Addr} {n : Nat} {xs : List α} (h : ReadsOf enc d w A n xs) (i : Int) (h0 : 0 ≤ i) (h1 : i < n) : ∃ ad, A = some ad ∧ w.cell? (ad.add i.toNat) = some (enc (rdOf d xs i)) := by
  obtain ⟨ad, e, hc⟩ := h.2.2 (by omega)
  exact ⟨ad, e, hc _ (by omega)⟩
theorem ReadsOf.below {w w1 : World} {A : Option Addr} {n : Nat} {xs : List α} (h : ReadsOf enc d w A n xs) (hb : Below w.heap.size w w1) : ReadsOf enc d w1 A n xs :=
  ⟨h.1, h.2.1, fun hn => by
    obtain ⟨ad, e, hc⟩ := h.2.2 hn
    exact ⟨ad, e, fun j hj => pw_cell_below hb (hc j hj)⟩⟩
end
theorem blk_alloc {w : World} {g : Nat} {o : Obj} (h : w.heap[g]? = some o) (o' : Obj) : (w.alloc o').heap[g]? = some o := (Below.heap_alloc w o' g (blk_lt h)).trans h
theorem blk_drew {w : World} {g : Nat} {o : Obj} (h : w.heap[g]? = some o) : w.drew.heap[g]? = some o := h
theorem blk_drewN {w : World} {g : Nat} {o : Obj} (h : w.heap[g]? = some o) (n : Nat) : (w.drewN n).heap[g]? = some o := h
theorem blk_below {w w1 : World} {g : Nat} {o : Obj} (h : w.heap[g]? = some o) (hb : Below w.heap.size w w1) : w1.heap[g]? = some o := (hb.block g (blk_lt h)).trans h
theorem blk_new (w : World) (o : Obj) : (w.alloc o).heap[w.heap.size]? = some o := heap_alloc_new w o
theorem own_le {w : World} {base n m c size : Nat} {e : TypeId} {A : Option Addr} {xs : List Value} (h : w.ownsRow base e size (.slice A m c) n xs) : m ≤ c := by
  rcases h.2 with ⟨he, _⟩ | ⟨g, cap, cur, he, _, _, hnc, _⟩
  · injection he with _ h2 h3
    omega
  · injection he with _ h2 h3
    omega
def OwnRow {α : Type} (R : α → List Value → Prop) (e : TypeId) (size : Nat) (w : World) (base : Nat) (v : Value) (ps : List α) : Prop :=
  ∃ inner, w.ownsRow base e size v ps.length inner ∧ Reps R size ps inner
section
variable {α : Type} {R R' : α → List Value → Prop} {e : TypeId} {size : Nat} {w w1 : World} {base : Nat} {v : Value} {ps : List α}
theorem OwnRow.imp_ (h : OwnRow R e size w base v ps) (hR : ∀ p c, R p c → R' p c) : OwnRow R' e size w base v ps := by
  obtain ⟨inner, ho, hr⟩ := h
  exact ⟨inner, ho, hr.imp_ hR⟩
theorem OwnRow.below (h : OwnRow R e size w base v ps) (hb : Below w.heap.size w w1) : OwnRow R e size w1 base v ps := by
  obtain ⟨inner, ho, hr⟩ := h
  exact ⟨inner, pw_own_below ho hb, hr⟩
theorem OwnRow.reads (h : OwnRow R e size w base v ps) : ∃ A c, v = .slice A ps.length c ∧ ps.length ≤ c ∧ ReadsRow R size w A ps.length ps := by
  obtain ⟨inner, ho, hr⟩ := h
  obtain ⟨A, c, rfl, hrow⟩ := own_reads_row ho hr rfl
  exact ⟨A, c, rfl, own_le ho, hrow⟩
end
section
variable {P : Program} {ops : Array Oper} {rest : List Oper} {o : Oper} {a : Act} {Q : Exit → Act → World → Prop} {α : Type} {R : α → List Value → Prop}
theorem OwnRow.append {w0 W : World} (base : Nat) (hgd : o.guard = none) (s x : Operand) (t e : TypeId) (z : Value) (size bytes : Nat)
    (ho : o.op = .call { callee := .builtin .append, args := #[s, x], argTypes := #[t, t] })
    (ht : P.underlying t = some (.slice e)) (hinfo : (P.info? e).map (fun i => (i.zero, i.size, i.bytes)) = some (some z, size, bytes)) (hz : z.cells.size = size) (hs0 : 0 < size) (hb0 : 0 < bytes)
    (v : Value) (ps : List α) (p : α) (cs : List Value) (hs : a.eval s = v) (hx : a.eval x = .slice (some ⟨W.heap.size, 0, none⟩) 1 1) (hp : R p cs) (hcs : cs.length = size) (h1 : ∀ u ∈ cs, u.oneCell' = true)
    (HO : OwnRow R e size W base v ps) (HB : Below base w0 W) (hbase : base ≤ W.heap.size) (hl : (ps.length + 1) * bytes ≤ 140737488355328)
    (h : ∀ v1 w1, OwnRow R e size w1 base v1 (ps ++ [p]) → Below base w0 w1 → W.grownBy w1 v.ownBlock → (v1.ownBlock = v.ownBlock ∨ ∃ b, v1.ownBlock = some b ∧ W.heap.size ≤ b) → wpList P ops Q rest (a.put o.dst v1) w1) :
    wpList P ops Q (o :: rest) a (W.alloc (.cells cs.toArray e)) := by
  obtain ⟨inner, hown, hr⟩ := HO
  refine print_append_cells base hgd s x t e z size bytes ho ht hinfo hz hs0 hb0 v ps.length inner cs hs hx hcs h1 hown HB hbase hl ?_
  intro v1 w1 hown1 hb1 hg1 hat1
  exact h v1 w1 ⟨inner ++ cs, by rw [List.length_append, List.length_singleton]; exact hown1, hr.snoc hp hcs⟩ hb1 hg1 hat1
end
section
variable {α : Type} {P : Program}
theorem ReadsOf.len_ {enc : α → Value} {d : α} {w : World} {A : Option Addr} {n : Nat} {xs : List α} (h : ReadsOf enc d w A n xs) : ReadsOf enc d w A xs.length xs := by rw [h.1]; exact h
end
structure Kd (α : Type) where
  sz : Nat
  E : List Nat
  K : World → α → List Value → Prop
  M : World → Nat → (Nat → Prop) → α → List Value → Prop
  K_len : ∀ {w x cs}, K w x cs → cs.length = sz
  K_one : ∀ {w x cs}, K w x cs → ∀ u ∈ cs, u.oneCell' = true
  K_below : ∀ {w w1 : World} {x cs}, Below w.heap.size w w1 → K w x cs → K w1 x cs
  K_of_M : ∀ {w base ok x cs}, M w base ok x cs → K w x cs
  M_mono : ∀ {w base ok ok' x cs}, (∀ k, ok k → ok' k) → M w base ok x cs → M w base ok' x cs
  M_bound : ∀ {w : World} {base ok x cs}, M w base ok x cs → M w base (fun k => ok k ∧ base ≤ k ∧ k < w.heap.size ∧ ∃ q, q ∈ E ∧ ∃ cells, w.heap[k]? = some (.cells cells q (0, 0))) x cs
  M_move : ∀ {w w1 : World} {base ok x cs}, (∀ k, ok k → w1.heap[k]? = w.heap[k]?) → M w base ok x cs → M w1 base ok x cs
  M_lower : ∀ {w base base' ok x cs}, base' ≤ base → M w base ok x cs → M w base' ok x cs
theorem own_move {w w1 : World} {base : Nat} {e : TypeId} {size n : Nat} {v : Value} {xs : List Value} (h : w.ownsRow base e size v n xs) (hm : ∀ k, v.ownBlock = some k → w1.heap[k]? = w.heap[k]?) : w1.ownsRow base e size v n xs := by
  obtain ⟨h1, h2⟩ := h
  refine ⟨h1, ?_⟩
  rcases h2 with h2 | ⟨g, cap, cur, rfl, hg, hh, r⟩
  · exact .inl h2
  · exact .inr ⟨g, cap, cur, rfl, hg, (hm g (by simp [Value.ownBlock])).trans hh, r⟩
theorem own_typed {w : World} {base : Nat} {e : TypeId} {size n : Nat} {v : Value} {xs : List Value} (h : w.ownsRow base e size v n xs) (k : Nat) (hk : v.ownBlock = some k) : ∃ cells, w.heap[k]? = some (.cells cells e (0, 0)) := by
  rcases h.2 with ⟨rfl, _⟩ | ⟨g, cap, cur, rfl, hg, hh, r⟩
  · simp [Value.ownBlock] at hk
  · have : g = k := by simpa [Value.ownBlock] using hk
    subst this
    exact ⟨cur, hh⟩
namespace Kd
def C {α : Type} (d : Kd α) (w : World) (A : Option Addr) (n : Nat) (xs : List α) : Prop := ReadsRow (d.K w) d.sz w A n xs
def R {α : Type} (d : Kd α) (e : Nat) (w : World) (base : Nat) (ok : Nat → Prop) (v : Value) (xs : List α) : Prop :=
  (∀ k, v.ownBlock = some k → ok k) ∧ OwnRow (d.M w base (fun k => ok k ∧ some k ≠ v.ownBlock)) e d.sz w base v xs
section
variable {α : Type} {d : Kd α} {e : Nat} {w w1 : World} {base : Nat} {ok ok' : Nat → Prop} {v : Value} {xs : List α}
theorem C_below {A : Option Addr} {n : Nat} (h : d.C w A n xs) (hb : Below w.heap.size w w1) : d.C w1 A n xs := ReadsRow.imp_ h hb (fun _ _ hp => d.K_below hb hp)
theorem R_mono (h : d.R e w base ok v xs) (hok : ∀ k, ok k → ok' k) : d.R e w base ok' v xs := ⟨fun k hk => hok k (h.1 k hk), h.2.imp_ (fun _ _ hp => d.M_mono (fun k hk => ⟨hok k hk.1, hk.2⟩) hp)⟩
theorem R_bound (h : d.R e w base ok v xs) : d.R e w base (fun k => ok k ∧ base ≤ k ∧ k < w.heap.size ∧ ∃ q, q ∈ e :: d.E ∧ ∃ cells, w.heap[k]? = some (.cells cells q (0, 0))) v xs := by
  obtain ⟨h0, inner, ho, hr⟩ := h
  refine ⟨fun k hk => ?_, inner, ho, hr.imp_ (fun _ _ hp => d.M_mono (fun k hk => ?_) (d.M_bound hp))⟩
  · obtain ⟨cells, hc⟩ := own_typed ho k hk
    exact ⟨h0 k hk, own_base ho k hk, own_lt ho k hk, e, List.mem_cons_self, cells, hc⟩
  · obtain ⟨⟨h1, h2⟩, h3, h4, q, hq, hc⟩ := hk
    exact ⟨⟨h1, h3, h4, q, List.mem_cons_of_mem _ hq, hc⟩, h2⟩
theorem R_move (h : d.R e w base ok v xs) (hm : ∀ k, ok k → w1.heap[k]? = w.heap[k]?) : d.R e w1 base ok v xs := by
  obtain ⟨h0, inner, ho, hr⟩ := h
  exact ⟨h0, inner, own_move ho (fun k hk => hm k (h0 k hk)), hr.imp_ (fun _ _ hp => d.M_move (fun k hk => hm k hk.1) hp)⟩
theorem R_lower {base' : Nat} (h : d.R e w base ok v xs) (hb : base' ≤ base) : d.R e w base' ok v xs := by
  obtain ⟨h0, inner, ho, hr⟩ := h
  exact ⟨h0, inner, own_weaken ho hb, hr.imp_ (fun _ _ hp => d.M_lower hb hp)⟩
theorem R_reads (h : d.R e w base ok v xs) : ∃ A c, v = .slice A xs.length c ∧ xs.length ≤ c ∧ d.C w A xs.length xs := by
  obtain ⟨A, c, he, hl, hr⟩ := OwnRow.reads h.2
  exact ⟨A, c, he, hl, hr.imp_ (Below.refl _ _) (fun _ _ hp => d.K_of_M hp)⟩
end
def scalar {α : Type} (enc : α → Value) (h1 : ∀ x, (enc x).oneCell' = true) : Kd α where
  sz := 1
  E := []
  K := fun _ x cs => cs = [enc x]
  M := fun _ _ _ x cs => cs = [enc x]
  K_len := fun h => by rw [h]; rfl
  K_one := fun h u hu => by
    rw [h] at hu
    rw [List.mem_singleton.1 hu]
    exact h1 _
  K_below := fun _ h => h
  K_of_M := fun h => h
  M_mono := fun _ h => h
  M_bound := fun h => h
  M_move := fun _ h => h
  M_lower := fun _ h => h
def int (k : IntKind) : Kd Int := scalar (Value.int k) (fun _ => rfl)
def bool : Kd Bool := scalar Value.bool (fun _ => rfl)
def string : Kd ByteArray := scalar Value.string (fun _ => rfl)
def slice {α : Type} (e : Nat) (d : Kd α) : Kd (List α) where
  sz := 1
  E := e :: d.E
  K := fun w xs cs => ∃ A c, cs = [.slice A xs.length c] ∧ xs.length ≤ c ∧ d.C w A xs.length xs
  M := fun w base ok xs cs => ∃ v, cs = [v] ∧ d.R e w base ok v xs
  K_len := by
    rintro w x cs ⟨A, c, rfl, _⟩
    rfl
  K_one := by
    rintro w x cs ⟨A, c, rfl, _⟩ u hu
    rw [List.mem_singleton.1 hu]
    rfl
  K_below := by
    rintro w w1 x cs hb ⟨A, c, rfl, hl, hr⟩
    exact ⟨A, c, rfl, hl, C_below hr hb⟩
  K_of_M := by
    rintro w base ok x cs ⟨v, rfl, h⟩
    obtain ⟨A, c, rfl, hl, hr⟩ := R_reads h
    exact ⟨A, c, rfl, hl, hr⟩
  M_mono := by
    rintro w base ok ok' x cs hok ⟨v, rfl, h⟩
    exact ⟨v, rfl, R_mono h hok⟩
  M_bound := by
    rintro w base ok x cs ⟨v, rfl, h⟩
    exact ⟨v, rfl, R_bound h⟩
  M_move := by
    rintro w w1 base ok x cs hm ⟨v, rfl, h⟩
    exact ⟨v, rfl, R_move h hm⟩
  M_lower := by
    rintro w base base' ok x cs hb ⟨v, rfl, h⟩
    exact ⟨v, rfl, R_lower h hb⟩
end Kd
namespace Kd
structure Mono {α β : Type} (F : Kd α → Kd β) : Prop where
  sz : ∀ d d' : Kd α, d.sz = d'.sz → (F d).sz = (F d').sz
  K : ∀ d d' : Kd α, d.sz = d'.sz → (∀ w x cs, d.K w x cs → d'.K w x cs) → ∀ w x cs, (F d).K w x cs → (F d').K w x cs
  M : ∀ d d' : Kd α, d.sz = d'.sz → (∀ w base ok x cs, d.M w base ok x cs → d'.M w base ok x cs) → ∀ w base ok x cs, (F d).M w base ok x cs → (F d').M w base ok x cs
end Kd
namespace Kd
section
variable {P : Program} {ops : Array Oper} {rest : List Oper} {o : Oper} {a : Act} {Q : Exit → Act → World → Prop}
theorem event_run {W w1 : World} {v : Value} (hgd : o.guard = none) (hrun : (execOp a.eval o).run P W = .ok (.value v) w1) (h : wpList P ops Q rest (a.put o.dst v) w1) : wpList P ops Q (o :: rest) a W := by
  refine wpList_plain hgd fun K hK => ?_
  unfold Oper.wp
  rw [hrun]
  exact hK _ _ h
variable {α : Type}
end
end Kd
def QRow (w : World) (base : Nat) (e : TypeId) (size : Nat) (v : Value) (n : Nat) (xs : List Value) : Prop :=
  xs.length = n * size ∧
  ((n = 0 ∧ ∃ A, v = .slice A 0 0 ∧ ∀ a, A = some a → base ≤ a.block ∧ ∃ cur, w.heap[a.block]? = some (.cells cur e (0, 0))) ∨
   ∃ g off cap cur, v = .slice (some ⟨g, off * size, none⟩) n cap ∧ base ≤ g ∧ w.heap[g]? = some (.cells cur e (0, 0)) ∧ n ≤ cap ∧ off + cap ≤ maxLen ∧ cur.size = (off + cap) * size ∧ (cur.toList.drop (off * size)).take (n * size) = xs)
namespace Kd
def Q {α : Type} (d : Kd α) (e : Nat) (w : World) (base : Nat) (ok : Nat → Prop) (v : Value) (xs : List α) : Prop :=
  (∀ k, v.ownBlock = some k → ok k) ∧ ∃ inner, QRow w base e d.sz v xs.length inner ∧ Reps (d.M w base (fun k => ok k ∧ some k ≠ v.ownBlock)) d.sz xs inner
end Kd
theorem below_size {w W : World} (h : Below w.heap.size w W) : w.heap.size ≤ W.heap.size := h.size
theorem below_step {w W w2 : World} (h : Below w.heap.size w W) (k : Below W.heap.size W w2) : Below w.heap.size w w2 := below_then h h.size k
theorem ReadsInt.nil (W : World) (k : IntKind) : ReadsInt W k none ([] : List Int).length [] := ⟨rfl, by simp, fun h => absurd h (Nat.lt_irrefl 0)⟩
theorem ReadsInt.drewN {W : World} {k : IntKind} {A : Option Addr} {n : Nat} {xs : List Int} (h : ReadsInt W k A n xs) (m : Nat) : ReadsInt (W.drewN m) k A n xs := h
theorem below_set {w W : World} {g j : Nat} {v : Value} (h : Below w.heap.size w W) (hg : w.heap.size ≤ g) : Below w.heap.size w (W.setCell ⟨g, j, none⟩ v) := h.setCell hg _
theorem ReadsOf.nil {α : Type} (enc : α → Value) (d : α) (W : World) : ReadsOf enc d W none ([] : List α).length [] := ⟨rfl, by simp, fun h => absurd h (Nat.lt_irrefl 0)⟩
theorem ReadsOf.drewN {α : Type} {enc : α → Value} {d : α} {W : World} {A : Option Addr} {n : Nat} {xs : List α} (h : ReadsOf enc d W A n xs) (m : Nat) : ReadsOf enc d (W.drewN m) A n xs := h
theorem blk_put {w : World} {g : Nat} {t : TypeId} {cs cs' : Array Value} (h : w.heap[g]? = some (.cells cs t (0, 0))) (i : Nat) (u : Value) (e : cs.setIfInBounds i u = cs') : (w.setCell ⟨g, i, none⟩ u).heap[g]? = some (.cells cs' t (0, 0)) := e ▸ blk_set h i u
theorem below_drew1 {base : Nat} {w W : World} (h : Below base w W) : Below base w W.drew := h.drew
section
variable {P : Program} {ops : Array Oper} {rest : List Oper} {o : Oper} {a : Act} {Q : Exit → Act → World → Prop}
theorem box_event {W : World} (hgd : o.guard = none) {N : Tmp} (_hd : o.dst = some N) {cs : Array Value} {t : TypeId}
    (hrun : (execOp a.eval o).run P W = .ok (.value (.pointer (some ⟨W.heap.size, 0, none⟩))) (W.alloc (.cells cs t (0, 0))))
    (h : ∀ g, g = W.heap.size → ∀ w1, w1.heap[g]? = some (.cells cs t (0, 0)) → Below W.heap.size W w1 → wpList P ops Q rest (a.put o.dst (.pointer (some ⟨g, 0, none⟩))) w1) : wpList P ops Q (o :: rest) a W :=
  Kd.event_run hgd hrun (h _ rfl _ (blk_new W _) (below_alloc (Below.refl _ _) _))
end
section
variable {P : Program} {ops : Array Oper} {rest : List Oper} {o : Oper} {a : Act} {Q : Exit → Act → World → Prop} {W : World}
theorem gate_dst {N : Tmp} (_hN : o.dst = some N) (h : wpList P ops Q (o :: rest) a W) : wpList P ops Q (o :: rest) a W := h
end
inductive Vals (P : Program) (tmps : Array Value) (w : World) : List ResultVar → List Value → Prop where
  | nil : Vals P tmps w [] []
  | tmp {u : Tmp} {rs : List ResultVar} {vs : List Value} (h : Vals P tmps w rs vs) : Vals P tmps w (.tmp u :: rs) (tmps.getD u undef :: vs)
  | cell {p : Tmp} {ty : TypeId} {rs : List ResultVar} {vs : List Value} (g : Nat) (t : TypeId) (cs : Array Value) (fr : Nat × Nat) (d : TypeDesc)
      (hp : tmps.getD p undef = .pointer (some ⟨g, 0, none⟩)) (hg : w.heap[g]? = some (.cells cs t fr))
      (hu : P.underlying ty = some d) (hd : (match d with | .struct _ | .array _ _ => true | _ => false) = true) (hi : (P.info? ty).map (·.size) = some cs.size)
      (h : Vals P tmps w rs vs) : Vals P tmps w (.cell p ty :: rs) (.agg cs :: vs)
end Go.Proofs.YtgnmjaacnmkgnaaGreatDoorW.PrintWords
end
section
namespace Go.Proofs.Eng
open Go Go.RowKit
set_option linter.unusedSimpArgs false
set_option linter.unusedVariables false
def Reads (w : World) (v : Value) (n size : Nat) (xs : List Value) : Prop :=
  xs.length = n * size ∧ ∃ A c, v = .slice A n c ∧ n ≤ c ∧ c ≤ maxLen ∧ ∀ j u, xs[j]? = some u → ∃ ad, A = some ad ∧ w.cell? (ad.add j) = some u
theorem cell_lt {w : World} {a : Addr} {u : Value} (h : w.cell? a = some u) : a.block < w.heap.size := World.block_lt_of_cell? w a h
theorem add_add (a : Addr) (i j : Nat) : (a.add i).add j = a.add (i + j) := by
  unfold Addr.add
  by_cases hi : i = 0
  · subst hi; simp
  · by_cases hj : j = 0
    · subst hj; simp
    · rw [if_neg hi, if_neg hj, if_neg (by omega)]
      simp only [Nat.add_assoc]
theorem Reads.below {w w1 : World} {v : Value} {n size : Nat} {xs : List Value} (h : Reads w v n size xs) (hb : Below w.heap.size w w1) : Reads w1 v n size xs := by
  obtain ⟨h1, A, c, rfl, h2, h3, h4⟩ := h
  refine ⟨h1, A, c, rfl, h2, h3, fun j u hj => ?_⟩
  obtain ⟨ad, e, hc⟩ := h4 j u hj
  exact ⟨ad, e, (hb.cell (cell_lt hc)).trans hc⟩
theorem Reads.nil (w : World) (size : Nat) : Reads w (.slice none 0 0) 0 size [] := ⟨by simp, none, 0, rfl, Nat.le_refl _, by unfold maxLen; omega, fun j u h => by simp at h⟩
theorem Reads.of_own {w : World} {B : Nat} {e : TypeId} {v : Value} {n size : Nat} {xs : List Value} (h : w.ownsRow B e size v n xs) : Reads w v n size xs := by
  obtain ⟨h1, h2⟩ := h
  rcases h2 with ⟨rfl, rfl⟩ | ⟨g, cap, cur, rfl, hg, hh, hn, hc, hs, ht⟩
  · have : xs = [] := by simpa using h1
    subst this; exact Reads.nil w size
  · refine ⟨h1, _, cap, rfl, hn, hc, fun j u hj => ⟨_, rfl, ?_⟩⟩
    have hl : j < xs.length := (List.getElem?_eq_some_iff.1 hj).1
    rw [← ht, List.getElem?_take, if_pos (by omega)] at hj
    have hadd : (⟨g, 0, none⟩ : Addr).add j = ⟨g, j, none⟩ := by unfold Addr.add; split <;> simp_all
    rw [hadd]
    unfold World.cell?
    rw [hh]
    simpa using hj
theorem own_below {w w1 : World} {B : Nat} {e : TypeId} {v : Value} {n size : Nat} {xs : List Value} (h : w.ownsRow B e size v n xs) (hb : Below w.heap.size w w1) : w1.ownsRow B e size v n xs := by
  obtain ⟨h1, h2⟩ := h
  refine ⟨h1, ?_⟩
  rcases h2 with h2 | ⟨g, cap, cur, rfl, hg, hh, r⟩
  · exact .inl h2
  · exact .inr ⟨g, cap, cur, rfl, hg, (hb.block g (Array.getElem?_eq_some_iff.1 hh).1).trans hh, r⟩
theorem own_sets {w w1 : World} {B : Nat} {e T : TypeId} {v : Value} {n size g : Nat} {xs : List Value} {cs : Array Value} {o : Obj} (h : w.ownsRow B e size v n xs) (hs : Sets w w1 g o) (hg : w.heap[g]? = some (.cells cs T (0, 0))) (hne : (e != T) = true) : w1.ownsRow B e size v n xs := by
  obtain ⟨h1, h2⟩ := h
  refine ⟨h1, ?_⟩
  rcases h2 with h2 | ⟨k, cap, cur, rfl, hk, hh, r⟩
  · exact .inl h2
  · refine .inr ⟨k, cap, cur, rfl, hk, (hs.far k fun e' => ?_).trans hh, r⟩
    subst e'
    rw [hg] at hh
    injection hh with hh; injection hh with _ hh
    simp [hh] at hne
section runs
variable {P : Program} {o : Oper} {a : Act} {w : World} {v : Value} {n size : Nat} {xs : List Value}
theorem run_len_sl {t e : TypeId} {x : Operand} (hop : o.op = .call { callee := .builtin .len, args := #[x], argTypes := #[t] }) (hu : P.underlying t = some (.slice e)) (h : a.eval x = v) (F : Reads w v n size xs) : (execOp a.eval o).run P w = .ok (.value (.int .i64 n)) w := by
  obtain ⟨_, A, c, rfl, _⟩ := F
  unfold execOp; rw [hop]
  simp only [resolve, List.map_toArray, List.map_cons, List.map_nil, h]
  simp [Sem.run_bind, Sem.run_pure, invoke, builtin, Builtin.len_, run_underlying hu, goInt]
def elemPtr (v : Value) (j : Nat) : Value := match v with | .slice (some ad) _ _ => .pointer (some (ad.add j)) | _ => undef
theorem run_index_sl {T e : TypeId} {x ix : Operand} {kd : IntKind} {j : Nat} (hop : o.op = .indexAddr T x ix) (hu : P.underlying T = some (.slice e)) (hsz : (P.info? e).map (·.size) = some size) (h : a.eval x = v) (hi : a.eval ix = .int kd (j : Int)) (F : Reads w v n size xs) (hj : j < n) (h0 : (decide (0 < size)) = true) :
    (execOp a.eval o).run P w = .ok (.value (elemPtr v (j * size))) w := by
  obtain ⟨hl, A, c, rfl, hc, hm, hx⟩ := F
  have h0 := of_decide_eq_true h0
  have hlt : j * size < xs.length := by rw [hl]; exact Nat.mul_lt_mul_of_pos_right hj h0
  obtain ⟨ad, rfl, hcell⟩ := hx (j * size) _ (List.getElem?_eq_getElem hlt)
  cases hq : P.info? e with
  | none => simp [hq] at hsz
  | some i =>
    have hs : i.size = size := by simpa [hq] using hsz
    have h1 : (0 : Int) ≤ (j : Int) := by omega
    have h2 : (j : Int) < (n : Int) := by omega
    unfold execOp; rw [hop]
    simp only [h, hi, Instr.indexAt, asIntOf, Sem.run_bind, Sem.run_pure, Result.andThen_ok, run_underlying hu, Instr.sureAddr]
    simp [Sem.run_bind, Sem.run_pure, h1, h2, sizeOf, typeInfo, hq, hs, run_underlying hu, elemPtr]
theorem Reads.cells_at (F : Reads w v n size xs) {j : Nat} {cs : List Value} (hcs : (xs.drop j).take cs.length = cs) (hp : 0 < cs.length) : ∃ ad c, v = .slice (some ad) n c ∧ ∀ i u, cs[i]? = some u → w.cell? ((ad.add j).add i) = some u := by
  obtain ⟨hl, A, c, rfl, hc, hm, hx⟩ := F
  have hd : ∀ i u, cs[i]? = some u → xs[j + i]? = some u := by
    intro i u hu
    have hi : i < cs.length := (List.getElem?_eq_some_iff.1 hu).1
    rw [← hcs, List.getElem?_take, if_pos hi, List.getElem?_drop] at hu
    exact hu
  obtain ⟨ad, rfl, _⟩ := hx (j + 0) _ (hd 0 _ (List.getElem?_eq_getElem hp))
  refine ⟨ad, c, rfl, fun i u hu => ?_⟩
  obtain ⟨ad', e, hcell⟩ := hx (j + i) u (hd i u hu)
  injection e with e; subst e
  rw [add_add]; exact hcell
theorem run_load_els {ty : TypeId} {x : Operand} {j : Nat} {d : TypeDesc} (cs : List Value) (hop : o.op = .load ty x) (h : a.eval x = elemPtr v j) (F : Reads w v n size xs) (hcs : (xs.drop j).take cs.length = cs) (hp : (decide (0 < cs.length)) = true)
    (hu : P.underlying ty = some d) (hd : d.isRow = true) (hi : (P.info? ty).map (·.size) = some cs.length) : (execOp a.eval o).run P w = .ok (.value (.agg cs.toArray)) w := by
  obtain ⟨ad, c, rfl, hx⟩ := F.cells_at hcs (of_decide_eq_true hp)
  have hl := run_loadCells_list (P := P) (w := w) (ad.add j) cs hx
  cases hq : P.info? ty with
  | none => simp [hq] at hi
  | some i =>
    have hs : i.size = cs.length := by simpa [hq] using hi
    have hagg : (isAgg ty).run P w = .ok true w := by
      unfold isAgg
      rw [Sem.run_bind, run_underlying hu w]
      cases d <;> simp_all
    unfold execOp; rw [hop]
    simp only [h, elemPtr, Instr.loadAt, Instr.sureAddr, Sem.run_bind, Sem.run_pure, Result.andThen_ok, loadVar, hagg, if_true]
    simp [Sem.run_bind, sizeOf, typeInfo, hq, hs, hl]
theorem run_load_el {ty : TypeId} {x : Operand} {j : Nat} (u : Value) (hop : o.op = .load ty x) (h : a.eval x = elemPtr v j) (F : Reads w v n size xs) (hu : xs[j]? = some u) (hagg : (isAgg ty).run P w = .ok false w) : (execOp a.eval o).run P w = .ok (.value u) w := by
  obtain ⟨hl, A, c, rfl, hc, hm, hx⟩ := F
  obtain ⟨ad, rfl, hcell⟩ := hx j u hu
  unfold execOp; rw [hop]
  simp only [h, elemPtr, Instr.loadAt, Instr.sureAddr, Sem.run_bind, Sem.run_pure, Result.andThen_ok, loadVar, hagg]
  simp [load, Sem.run, hcell]
theorem Reads.cut (F : Reads w v n size xs) {l h : Nat} (hl : l ≤ h) (hh : h ≤ n) : ∀ A c, v = .slice A n c → Reads w (.slice (if c = l then A else A.map (·.add (l * size))) (h - l) (c - l)) (h - l) size ((xs.drop (l * size)).take ((h - l) * size)) := by
  obtain ⟨hlen, A, c, rfl, hc, hm, hx⟩ := F
  intro A' c' e
  injection e with e1 e2 e3
  subst e1; subst e3
  have hll : l * size ≤ h * size := Nat.mul_le_mul_right _ hl
  have hhn : h * size ≤ n * size := Nat.mul_le_mul_right _ hh
  have hsub : (h - l) * size = h * size - l * size := Nat.sub_mul _ _ _
  refine ⟨by rw [List.length_take, List.length_drop, hlen]; omega, _, _, rfl, by omega, by omega, fun j u hj => ?_⟩
  have hjl : j < (h - l) * size := by
    have := (List.getElem?_eq_some_iff.1 hj).1
    rw [List.length_take] at this; omega
  rw [List.getElem?_take, if_pos hjl, List.getElem?_drop] at hj
  obtain ⟨ad, rfl, hcell⟩ := hx _ u hj
  by_cases hcl : c = l
  · exfalso
    have : h - l = 0 := by omega
    rw [this] at hjl; simp at hjl
  · refine ⟨ad.add (l * size), by rw [if_neg hcl]; rfl, ?_⟩
    rw [add_add]; exact hcell
end runs
end Go.Proofs.Eng
end
section
namespace Go.Proofs.EngI
open Go Go.RowKit Go.Proofs.Eng
set_option linter.unusedSimpArgs false
set_option linter.unusedVariables false
variable {Fc : Fence} {nn : Nat} {P : Program} {ops : Array Oper} {Q : Exit → Act → World → Prop}
structure Free (Fc : Fence) : Prop where
  fn : ∀ f, Fc.fn f
  depth : Fc.depth = none
  calls : ∀ {P : Program} {n : Nat} {f : FuncId} {args : Array Value} {w : World} {R : Ending → World → Prop}, Calls P f args w R → CallsIn Fc n P f args w R
  rows : ∀ {P : Program} {n : Nat} {r : String} {args : Array Value} {w : World} {R : Value → World → Prop}, Rows P r args w R → RowsIn Fc n P r args w R
theorem free_wide : Free Fence.wide := ⟨fun _ => trivial, rfl, fun h => callsIn_wide.2 h, fun h c cs _ => let ⟨v, w', r, s⟩ := h c cs; ⟨v, w', r, stepsIn_wide.2 s⟩⟩
theorem Free.inRound (h : Free Fc) (l : Nat) : Free (Fc.inRound l) := ⟨h.fn, h.depth, fun hc => CallsIn.inRound l (h.calls hc), fun hr => h.rows hr⟩
def Stores (Fc : Fence) (P : Program) (ops : Array Oper) (D : Nat → Value → World → Prop) (k : Nat → Kind) (a0 : Act) (w0 : World) (i : Nat) (o : Oper) (j : Nat) (cs : Array Value) : Prop :=
  o.dst = none ∧ o.guard = none ∧ ∃ d T c0, bound o j = true ∧ dstOf ops j = some d ∧ k j = .alloc T c0 ∧ (∀ i' cs', k i' = .store j cs' → i' = i) ∧ c0.size = cs.size ∧
  ∀ (a : Act) (w : World) (g : Nat), a.tmps.getD d undef = .pointer (some ⟨g, 0, none⟩) → w.heap[g]? = some (.cells c0 T (0, 0)) →
    (∀ j' d', bound o j' = true → dstOf ops j' = some d' → D j' (a.tmps.getD d' undef) w) →
    (∀ t, old ops i t = true → a.eval (.tmp t) = a0.eval (.tmp t)) →
    ∃ w', (o.semAt Fc.round a.eval).run P w = .ok .skip w' ∧ w'.heap[g]? = some (.cells cs T (0, 0)) ∧ (∀ b, b ≠ g → w'.heap[b]? = w.heap[b]?) ∧ w'.heap.size = w.heap.size ∧ w'.os = w.os ∧ w'.tape = w.tape ∧ w'.output = w.output
def Allocs (Fc : Fence) (P : Program) (ops : Array Oper) (D : Nat → Value → World → Prop) (a0 : Act) (w0 : World) (i : Nat) (o : Oper) (T : TypeId) (cs : Array Value) : Prop :=
  o.dst ≠ none ∧ o.guard = none ∧ ∀ (a : Act) (w : World), (∀ j' d', bound o j' = true → dstOf ops j' = some d' → D j' (a.tmps.getD d' undef) w) → (∀ t, old ops i t = true → a.eval (.tmp t) = a0.eval (.tmp t)) →
    (o.semAt Fc.round a.eval).run P w = .ok (.value (.pointer (some ⟨w.heap.size, 0, none⟩))) (w.alloc (.cells cs T (0, 0))) ∧ D i (.pointer (some ⟨w.heap.size, 0, none⟩)) (w.alloc (.cells cs T (0, 0)))
def Step (Fc : Fence) (nn : Nat) (P : Program) (ops : Array Oper) (Q : Exit → Act → World → Prop) (D : Nat → Value → World → Prop) (a0 : Act) (w0 : World) (i : Nat) (o : Oper) : Prop :=
  ∀ (a : Act) (w : World), Below w0.heap.size w0 w →
    (∀ j d, bound o j = true → dstOf ops j = some d → D j (a.tmps.getD d undef) w ∧ yielded ops a.tmps j = (match a.tmps.getD d undef with | .bool b => some b | _ => none)) →
    (∀ t, old ops i t = true → a.eval (.tmp t) = a0.eval (.tmp t)) →
    (if Region.wanted o (yielded ops a.tmps) then o.wpIn Fc nn P a w (fun a' w' => ∃ v, a' = a.put o.dst v ∧ (o.dst ≠ none → D i v w') ∧ Below w.heap.size w w') Q
     else (o.dst ≠ none → D i undef w))
def Eats (Fc : Fence) (nn : Nat) (P : Program) (ops : Array Oper) (Q : Exit → Act → World → Prop) (D : Nat → Value → World → Prop) (k : Nat → Kind) (a0 : Act) (w0 : World) (i : Nat) (o : Oper) : Prop :=
  o.guard = none ∧ (∀ j T c, k j ≠ .alloc T c) ∧ ∀ (a : Act) (w : World), Below w0.heap.size w0 w →
    (∀ j d, bound o j = true → dstOf ops j = some d → D j (a.tmps.getD d undef) w) →
    (∀ t, old ops i t = true → a.eval (.tmp t) = a0.eval (.tmp t)) →
    o.wpIn Fc nn P a w (fun a' w' => ∃ v, a' = a.put o.dst v ∧ (o.dst ≠ none → D i v w') ∧ Below w0.heap.size w w' ∧ ∀ j d, j ≠ i → dstOf ops j = some d → D j (a.tmps.getD d undef) w → D j (a.tmps.getD d undef) w') Q
def Duty (Fc : Fence) (nn : Nat) (P : Program) (ops : Array Oper) (Q : Exit → Act → World → Prop) (D : Nat → Value → World → Prop) (k : Nat → Kind) (a0 : Act) (w0 : World) (i : Nat) (o : Oper) : Prop :=
  match k i with
  | .plain => Step Fc nn P ops Q D a0 w0 i o
  | .alloc T cs => Allocs Fc P ops D a0 w0 i o T cs
  | .store j cs => Stores Fc P ops D k a0 w0 i o j cs
  | .eats => Eats Fc nn P ops Q D k a0 w0 i o
def Steps (Fc : Fence) (nn : Nat) (P : Program) (ops : Array Oper) (Q : Exit → Act → World → Prop) (D : Nat → Value → World → Prop) (k : Nat → Kind) (a0 : Act) (w0 : World) (m : Nat) : Nat → List Oper → Prop
  | _, [] => True
  | i, o :: os => (i < m → Duty Fc nn P ops Q D k a0 w0 i o) ∧ Steps Fc nn P ops Q D k a0 w0 m (i + 1) os
theorem Steps.get {D : Nat → Value → World → Prop} {k : Nat → Kind} {a0 : Act} {w0 : World} {m : Nat} : ∀ {l : List Oper} {i : Nat}, Steps Fc nn P ops Q D k a0 w0 m i l → ∀ n o, l[n]? = some o → i + n < m → Duty Fc nn P ops Q D k a0 w0 (i + n) o
  | [], _, _, _, _, h, _ => by simp at h
  | o :: os, i, h, 0, o', he, hm => by simp at he; subst he; exact h.1 hm
  | o :: os, i, h, n + 1, o', he, hm => by
    have e : i + 1 + n = i + (n + 1) := by omega
    have := Steps.get h.2 n o' (by simpa using he) (by omega)
    rw [e] at this; exact this
section main
variable {D : Nat → Value → World → Prop} {a0 : Act} {w0 : World} {m : Nat}
theorem step_inv (hF : Free Fc) {k : Nat → Kind} (hs : Eng.shape ops m a0.tmps.size = true) (stable : ∀ i v w w', D i v w → Below w.heap.size w w' → D i v w') (hst2 : (∀ i j cs, k i ≠ .store j cs) ∨ ∀ i v w w', D i v w → D i v w')
    (hS : Steps Fc nn P ops Q D k a0 w0 m 0 ops.toList) {L : Array Bool} (hL : lits L ops) (hlow : ∀ k, m ≤ k → L.getD k false = false) {a : Act} {w : World} (I : Inv ops D k a0 w0 L a w)
    {i : Nat} (hi : i < m) (him : i < ops.size) (hnot : L.getD i false = false) (hr : ∀ o, ops[i]? = some o → ∀ j, bound o j = true → L.getD j false = true)
    {K : Act → World → Prop} (hK : ∀ a' w', Inv ops D k a0 w0 (L.setIfInBounds i true) a' w' → K a' w') : wpOpIn Fc nn P ops Q i K a w := by
  obtain ⟨o, ho⟩ : ∃ o, ops[i]? = some o := ⟨ops[i], Array.getElem?_eq_getElem him⟩
  have hst := hS.get i o (by simpa using ho) (by omega)
  rw [Nat.zero_add] at hst
  have hdo : dstOf ops i = o.dst := by unfold dstOf; rw [ho]; rfl
  have hd3 := (shape_edge hs ho).2.2
  have hjm : ∀ j, L.getD j false = true → j < m := fun j hj => by
    rcases Nat.lt_or_ge j m with h | h
    · exact h
    · rw [hlow j h] at hj; cases hj
  have hjs : ∀ j, L.getD j false = true → j < ops.size := fun j hj => by
    rcases Nat.lt_or_ge j L.size with h | h
    · rw [← hL.1]; exact h
    · rw [Array.getD_eq_getD_getElem?, Array.getElem?_eq_none h] at hj; cases hj
  have hdeps : ∀ j d, bound o j = true → dstOf ops j = some d → D j (a.tmps.getD d undef) w ∧ yielded ops a.tmps j = (match a.tmps.getD d undef with | .bool b => some b | _ => none) := fun j d hb hd => ⟨I.done j d (hr o ho j hb) hd, yielded_eq hd (by
      rw [I.size]
      have hj := bound_lt hs ho hb
      obtain ⟨oj, hoj⟩ : ∃ oj, ops[j]? = some oj := ⟨ops[j]'(by omega), Array.getElem?_eq_getElem _⟩
      refine (shape_edge hs hoj).2.2 d ?_
      unfold dstOf at hd; rw [hoj] at hd; exact hd)⟩
  have holds : ∀ t, old ops i t = true → a.eval (.tmp t) = a0.eval (.tmp t) := fun t ht => by
    show a.tmps.getD t undef = a0.tmps.getD t undef
    refine I.rest t fun j hj hjd => ?_
    unfold old at ht
    rw [all_range] at ht
    have := ht j (hjs j hj)
    obtain ⟨oj, hoj⟩ : ∃ oj, ops[j]? = some oj := ⟨ops[j]'(hjs j hj), Array.getElem?_eq_getElem _⟩
    unfold dstOf at hjd
    rw [hoj] at hjd this
    simp only [Option.bind_some] at hjd
    simp only [hjd, bne_self_eq_false, Bool.false_or, Bool.or_eq_true, beq_iff_eq] at this
    rcases this with h | h
    · subst h; rw [hj] at hnot; cases hnot
    · have := hL.2 j oj hoj hj i h
      rw [this] at hnot; cases hnot
  have hiL : i < L.size := by rw [hL.1]; exact him
  have hdsz : ∀ d, o.dst = some d → d < a.tmps.size := fun d hd => by rw [I.size]; exact hd3 d hd
  have hset : ∀ j, (L.setIfInBounds i true).getD j false = true → j ≠ i → L.getD j false = true := fun j hj hne => by rw [getD_set hiL, if_neg hne] at hj; exact hj
  have hkeep : ∀ j, L.getD j false = true → (L.setIfInBounds i true).getD j false = true := fun j hj => by
    rw [getD_set hiL]; split
    · rfl
    · exact hj
  have hslot : ∀ v j d, L.getD j false = true → dstOf ops j = some d → (a.put o.dst v).tmps.getD d undef = a.tmps.getD d undef := fun v j d hj hd => by
    rw [put_getD _ _ _ _ hdsz, if_neg]
    intro he
    have := shape_dst hs (hjm j hj) hi hd (hdo.trans he)
    subst this; rw [hj] at hnot; cases hnot
  have hdef : ∀ v, (a.put o.dst v).defers = a0.defers := fun v => by rw [← I.defers]; cases o.dst <;> rfl
  have hsz : ∀ v, (a.put o.dst v).tmps.size = a0.tmps.size := fun v => by rw [← I.size]; cases o.dst <;> simp [Act.put]
  have hrest : ∀ v t, (∀ j, (L.setIfInBounds i true).getD j false = true → dstOf ops j ≠ some t) → (a.put o.dst v).tmps.getD t undef = a0.tmps.getD t undef := fun v t ht => by
    rw [put_getD _ _ _ _ hdsz, if_neg (fun he => ht i (by rw [getD_set hiL, if_pos rfl]) (hdo.trans he))]
    exact I.rest t fun j hj => ht j (hkeep j hj)
  have plain : (∀ T c, k i ≠ .alloc T c) → (∀ j c, k i ≠ .store j c) → ∀ v w', (o.dst ≠ none → D i v w') → Below w.heap.size w w' → Inv ops D k a0 w0 (L.setIfInBounds i true) (a.put o.dst v) w' := by
    intro hka hks v w' hD hB
    refine ⟨I.below.trans (hB.mono (by have := I.below.size; omega)), hdef v, hsz v, ?_, hrest v, ?_, ?_⟩
    · intro j d hj hjd
      by_cases hji : j = i
      · subst hji
        rw [put_getD _ _ _ _ hdsz, if_pos (hdo ▸ hjd)]
        exact hD (by rw [← hdo, hjd]; simp)
      · rw [hslot v j d (hset j hj hji) hjd]
        exact stable j _ _ _ (I.done j d (hset j hj hji) hjd) hB
    · intro j d T c0 hj hk hjd
      have hji : j ≠ i := fun e => by subst e; exact hka _ _ hk
      obtain ⟨g, h1, h2, h3, cs, h4, h5, h6⟩ := I.al j d T c0 (hset j hj hji) hk hjd
      refine ⟨g, by rw [hslot v j d (hset j hj hji) hjd]; exact h1, h2, by have := hB.size; omega, cs, by rw [hB.block g h3]; exact h4, fun i' new hk' hi' => ?_, fun hno => h6 fun i' new hk' => ?_⟩
      · exact h5 i' new hk' (hset i' hi' (fun e => by subst e; exact hks _ _ hk'))
      · have := hno i' new hk'
        cases hv : L.getD i' false with
        | false => rfl
        | true => rw [hkeep i' hv] at this; cases this
    · intro j j' d d' T c T' c' g hj hj' hk hk' hd hd' e e'
      have hji : j ≠ i := fun e => by subst e; exact hka _ _ hk
      have hji' : j' ≠ i := fun e => by subst e; exact hka _ _ hk'
      rw [hslot v j d (hset j hj hji) hd] at e
      rw [hslot v j' d' (hset j' hj' hji') hd'] at e'
      exact I.dist j j' d d' T c T' c' g (hset j hj hji) (hset j' hj' hji') hk hk' hd hd' e e'
  unfold wpOpIn
  rw [ho]
  simp only
  unfold Duty at hst
  split at hst
  · rename_i hk
    have h1 := hst a w I.below hdeps holds
    have plain := plain (fun T c h => by rw [hk] at h; cases h) (fun j c h => by rw [hk] at h; cases h)
    split
    · rename_i hw
      rw [if_pos hw] at h1
      exact (Oper.wpIn_mono (fun a' w' ⟨v, hv, hD, hB⟩ => by subst hv; exact hK _ _ (plain v w' hD hB)) h1)
    · rename_i hw
      rw [if_neg hw] at h1
      exact ⟨fun f _ => hF.fn f, hK _ _ (plain undef w h1 (Below.refl _ _))⟩
  ·
    rename_i T cs hk
    obtain ⟨hdn, hg, h1⟩ := hst
    obtain ⟨hrun, hD⟩ := h1 a w (fun j d hb hd => (hdeps j d hb hd).1) holds
    have hw : Region.wanted o (yielded ops a.tmps) = true := by unfold Region.wanted; rw [hg]
    rw [if_pos hw]
    unfold Oper.wpIn
    refine ⟨fun f _ => hF.fn f, ?_⟩
    rw [hrun]
    have hB : Below w.heap.size w (w.alloc (.cells cs T (0, 0))) := (Below.refl _ _).alloc (Nat.le_refl _) _
    have hszw : (w.alloc (.cells cs T (0, 0))).heap.size = w.heap.size + 1 := by simp
    have hnew : (w.alloc (.cells cs T (0, 0))).heap[w.heap.size]? = some (.cells cs T (0, 0)) := by show (w.heap.push _)[w.heap.size]? = _; simp
    refine hK _ _ ⟨I.below.trans (hB.mono (by have := I.below.size; omega)), hdef _, hsz _, ?_, hrest _, ?_, ?_⟩
    · intro j d hj hjd
      by_cases hji : j = i
      · subst hji
        rw [put_getD _ _ _ _ hdsz, if_pos (hdo ▸ hjd)]
        exact hD
      · rw [hslot _ j d (hset j hj hji) hjd]
        exact stable j _ _ _ (I.done j d (hset j hj hji) hjd) hB
    · intro j d T' c0 hj hk' hjd
      by_cases hji : j = i
      · subst hji
        rw [hk] at hk'
        injection hk' with e1 e2
        subst e1; subst e2
        refine ⟨w.heap.size, by rw [put_getD _ _ _ _ hdsz, if_pos (hdo ▸ hjd)], I.below.size, by omega, cs, hnew, fun i' new hki hi' => ?_, fun _ => rfl⟩
        exfalso
        have hne : i' ≠ j := fun e => by subst e; rw [hk] at hki; cases hki
        have hl := hset i' hi' hne
        obtain ⟨o', ho'⟩ : ∃ o', ops[i']? = some o' := ⟨ops[i']'(hjs i' hl), Array.getElem?_eq_getElem _⟩
        have hst' := hS.get i' o' (by simpa using ho') (by have := hjm i' hl; omega)
        rw [Nat.zero_add] at hst'
        unfold Duty at hst'
        rw [hki] at hst'
        obtain ⟨_, _, _, _, _, hb, _⟩ := hst'
        have := hL.2 i' o' ho' hl j hb
        rw [this] at hnot; cases hnot
      · obtain ⟨g, h1, h2, h3, cs', h4, h5, h6⟩ := I.al j d T' c0 (hset j hj hji) hk' hjd
        refine ⟨g, by rw [hslot _ j d (hset j hj hji) hjd]; exact h1, h2, by omega, cs', by rw [hB.block g h3]; exact h4, fun i' new hki hi' => ?_, fun hno => h6 fun i' new hki => ?_⟩
        · exact h5 i' new hki (hset i' hi' (fun e => by subst e; rw [hk] at hki; cases hki))
        · have := hno i' new hki
          cases hv : L.getD i' false with
          | false => rfl
          | true => rw [hkeep i' hv] at this; cases this
    · intro j j' d d' T1 c1 T2 c2 g hj hj' hk1 hk2 hd hd' e e'
      have far : ∀ j d T c, (L.setIfInBounds i true).getD j false = true → j ≠ i → k j = .alloc T c → dstOf ops j = some d → (a.put o.dst (.pointer (some ⟨w.heap.size, 0, none⟩))).tmps.getD d undef = .pointer (some ⟨g, 0, none⟩) → g < w.heap.size := by
        intro j d T c hj hji hkj hd e
        rw [hslot _ j d (hset j hj hji) hd] at e
        obtain ⟨g', h1, h2, h3, _⟩ := I.al j d T c (hset j hj hji) hkj hd
        rw [h1] at e
        injection e with e; injection e with e; injection e with e
        omega
      have me : ∀ d, dstOf ops i = some d → (a.put o.dst (.pointer (some ⟨w.heap.size, 0, none⟩))).tmps.getD d undef = .pointer (some ⟨g, 0, none⟩) → g = w.heap.size := by
        intro d hd e
        rw [put_getD _ _ _ _ hdsz, if_pos (hdo ▸ hd)] at e
        injection e with e; injection e with e; injection e with e
        exact e.symm
      by_cases hji : j = i
      · by_cases hji' : j' = i
        · rw [hji, hji']
        · subst hji
          have h1 := far j' d' T2 c2 hj' hji' hk2 hd' e'
          have h2 := me d hd e
          omega
      · by_cases hji' : j' = i
        · subst hji'
          have h1 := far j d T1 c1 hj hji hk1 hd e
          have h2 := me d' hd' e'
          omega
        · rw [hslot _ j d (hset j hj hji) hd] at e
          rw [hslot _ j' d' (hset j' hj' hji') hd'] at e'
          exact I.dist j j' d d' T1 c1 T2 c2 g (hset j hj hji) (hset j' hj' hji') hk1 hk2 hd hd' e e'
  ·
    rename_i j cs hk
    obtain ⟨hdn, hg, dj, T, c0, hbj, hdj, hkj, huniq, hcsz, h1⟩ := hst
    have hLj := hr o ho j hbj
    obtain ⟨g, e1, e2, e3, cs0, e4, e5, e6⟩ := I.al j dj T c0 hLj hkj hdj
    have hcs : cs0 = c0 := e6 fun i' new hki => by rw [huniq i' new hki]; exact hnot
    subst hcs
    obtain ⟨w', hrun, hn, hoth, hsize, hos, htape, hout⟩ := h1 a w g e1 e4 (fun j d hb hd => (hdeps j d hb hd).1) holds
    have hw : Region.wanted o (yielded ops a.tmps) = true := by unfold Region.wanted; rw [hg]
    rw [if_pos hw]
    unfold Oper.wpIn
    refine ⟨fun f _ => hF.fn f, ?_⟩
    rw [hrun]
    show K (a.put o.dst undef) w'
    have hput : ∀ j d, L.getD j false = true → dstOf ops j = some d → (a.put o.dst undef).tmps.getD d undef = a.tmps.getD d undef := hslot undef
    have hB : Below w0.heap.size w w' := ⟨hos, htape, hout, by omega, fun b hb => hoth b (by omega)⟩
    have hDw : ∀ i v w w', D i v w → D i v w' := by
      rcases hst2 with h | h
      · exact absurd hk (h i j cs)
      · exact h
    have hii : ∀ j T c, k j = .alloc T c → j ≠ i := fun j T c h e => by subst e; rw [hk] at h; cases h
    refine hK _ _ ⟨I.below.trans hB, hdef _, hsz _, ?_, hrest _, ?_, ?_⟩
    · intro j' d hj' hjd
      by_cases hji : j' = i
      · subst hji; rw [hdo, hdn] at hjd; cases hjd
      · rw [hput j' d (hset j' hj' hji) hjd]
        exact hDw j' _ _ _ (I.done j' d (hset j' hj' hji) hjd)
    · intro j' d T' c' hj' hk' hjd
      have hji := hii j' T' c' hk'
      obtain ⟨g', h1, h2, h3, cs', h4, h5, h6⟩ := I.al j' d T' c' (hset j' hj' hji) hk' hjd
      by_cases hjj : j' = j
      · subst hjj
        rw [hkj] at hk'
        injection hk' with x1 x2
        subst x1; subst x2
        have hgg : g' = g := by
          rw [hdj] at hjd
          injection hjd with hjd
          subst hjd
          rw [e1] at h1
          injection h1 with h1; injection h1 with h1; injection h1 with h1
          exact h1.symm
        subst hgg
        refine ⟨g', by rw [hput _ _ (hset _ hj' hji) hjd]; exact h1, h2, by omega, cs, hn, fun i' new hki _ => ?_, fun hno => ?_⟩
        · have := huniq i' new hki
          subst this
          rw [hk] at hki
          injection hki
        · have := hno i cs hk
          rw [getD_set hiL, if_pos rfl] at this; cases this
      · have hgg : g' ≠ g := fun e => by
          subst e
          exact hjj (I.dist j' j d dj T' c' T cs0 g' (hset j' hj' hji) hLj hk' hkj hjd hdj h1 e1)
        refine ⟨g', by rw [hput j' d (hset j' hj' hji) hjd]; exact h1, h2, by omega, cs', by rw [hoth g' hgg]; exact h4, fun i' new hki hi' => ?_, fun hno => h6 fun i' new hki => ?_⟩
        · exact h5 i' new hki (hset i' hi' (fun e => by subst e; rw [hk] at hki; injection hki with x; exact hjj x.symm))
        · have := hno i' new hki
          cases hv : L.getD i' false with
          | false => rfl
          | true => rw [hkeep i' hv] at this; cases this
    · intro j1 j2 d1 d2 T1 c1 T2 c2 g1 hj1 hj2 hk1 hk2 hd1 hd2 x1 x2
      have n1 := hii j1 _ _ hk1
      have n2 := hii j2 _ _ hk2
      rw [hput j1 d1 (hset j1 hj1 n1) hd1] at x1
      rw [hput j2 d2 (hset j2 hj2 n2) hd2] at x2
      exact I.dist j1 j2 d1 d2 T1 c1 T2 c2 g1 (hset j1 hj1 n1) (hset j2 hj2 n2) hk1 hk2 hd1 hd2 x1 x2
  ·
    rename_i hk
    obtain ⟨hg, hno, h1⟩ := hst
    have hw : Region.wanted o (yielded ops a.tmps) = true := by unfold Region.wanted; rw [hg]
    rw [if_pos hw]
    refine (Oper.wpIn_mono ?_ (h1 a w I.below (fun j d hb hd => (hdeps j d hb hd).1) holds))
    rintro a' w' ⟨v, rfl, hD, hB, hkeepD⟩
    refine hK _ _ ⟨I.below.trans hB, hdef v, hsz v, ?_, hrest v, ?_, ?_⟩
    · intro j d hj hjd
      by_cases hji : j = i
      · subst hji
        rw [put_getD _ _ _ _ hdsz, if_pos (hdo ▸ hjd)]
        exact hD (by rw [← hdo, hjd]; simp)
      · rw [hslot v j d (hset j hj hji) hjd]
        exact hkeepD j d hji hjd (I.done j d (hset j hj hji) hjd)
    · intro j d T c0 _ hkj _
      exact absurd hkj (hno j T c0)
    · intro j j' d d' T c T' c' g _ _ hkj
      exact absurd hkj (hno j T c)
theorem wp_tail (hs : Eng.shape ops m a0.tmps.size = true) : ∀ (fuel k : Nat) (L : Array Bool) (a : Act) (w : World), m ≤ k → k + fuel = ops.size → upto ops k L →
    wpOpsIn Fc nn P ops Q (List.range' k fuel) a w → wpAnyIn Fc nn P .any ops Q fuel L a w := by
  intro fuel
  induction fuel with
  | zero =>
    intro k L a w hm hk hL h
    refine ⟨?_, h⟩
    rw [List.eq_nil_iff_forall_not_mem]
    intro i hi
    have := (Eng.mem_ready hL.1).1 hi
    rw [hL.2] at this
    simp at this; omega
  | succ fuel ih =>
    intro k L a w hm hk hL h
    have only : ∀ i, i ∈ Region.ready .any ops L → i = k := by
      intro i hi
      obtain ⟨h1, h2, h3⟩ := (Eng.mem_ready hL.1).1 hi
      rw [hL.2] at h2
      have hik : k ≤ i := by simp at h2; omega
      rcases Nat.lt_or_ge k i with hlt | hge
      · obtain ⟨o, ho⟩ : ∃ o, ops[i]? = some o := ⟨ops[i], Array.getElem?_eq_getElem h1⟩
        have := anc_ready (L := L) (fun i o ho hi j hj => by
          have := bound_lt hs ho hj
          rw [hL.2] at hi ⊢; simp at hi ⊢; omega) ((shape_edge hs ho).2.1 (by omega) k hlt) h3
        rw [hL.2] at this; simp at this
      · omega
    constructor
    · intro hnil
      exfalso
      have : k ∈ Region.ready .any ops L := by
        rw [Eng.mem_ready hL.1]
        refine ⟨by omega, by rw [hL.2]; simp, ?_⟩
        intro o ho j hj
        have := bound_lt hs ho hj
        rw [hL.2]; simp; omega
      rw [hnil] at this; cases this
    · intro i hi
      obtain rfl := only i hi
      rw [List.range'_succ, wpOpsIn_cons] at h
      refine wpOpIn_mono (fun a' w' h' => ih (i + 1) _ a' w' (by omega) (by omega) ⟨by simp [hL.1], ?_⟩ h') h
      intro j
      rw [getD_set (by rw [hL.1]; omega), hL.2]
      split
      · rename_i hj; subst hj; simp; omega
      · rename_i hj
        rw [decide_eq_decide]; omega
theorem wp_free (hF : Free Fc) {k : Nat → Kind} (hs : Eng.shape ops m a0.tmps.size = true) (hm : m ≤ ops.size) (stable : ∀ i v w w', D i v w → Below w.heap.size w w' → D i v w') (hst2 : (∀ i j cs, k i ≠ .store j cs) ∨ ∀ i v w w', D i v w → D i v w')
    (hS : Steps Fc nn P ops Q D k a0 w0 m 0 ops.toList)
    (hE : ∀ a w, Below w0.heap.size w0 w → a.defers = a0.defers → a.tmps.size = a0.tmps.size → (∀ j d, j < m → dstOf ops j = some d → D j (a.tmps.getD d undef) w) →
      (∀ t, (∀ j, j < m → dstOf ops j ≠ some t) → a.tmps.getD t undef = a0.tmps.getD t undef) → Made ops k m w0 a w → wpOpsIn Fc nn P ops Q (List.range' m (ops.size - m)) a w) :
    ∀ (fuel : Nat) (L : Array Bool) (a : Act) (w : World), fuel = cnt L m + (ops.size - m) → L.size = ops.size → lits L ops → (∀ k, m ≤ k → L.getD k false = false) → Inv ops D k a0 w0 L a w → wpAnyIn Fc nn P .any ops Q fuel L a w := by
  have fin : ∀ (L : Array Bool) (a : Act) (w : World), cnt L m = 0 → L.size = ops.size → (∀ k, m ≤ k → L.getD k false = false) → Inv ops D k a0 w0 L a w → wpAnyIn Fc nn P .any ops Q (ops.size - m) L a w := by
    intro L a w hc hsz hlow I
    have hall := cnt_zero hc
    refine wp_tail hs (ops.size - m) m L a w (Nat.le_refl _) (by omega) ⟨hsz, ?_⟩ ?_
    · intro j
      rcases Nat.lt_or_ge j m with h | h
      · rw [hall j h]; simp; omega
      · rw [hlow j h]; simp; omega
    · refine hE a w I.below I.defers I.size (fun j d hj hd => I.done j d (hall j hj) hd) (fun t ht => I.rest t fun j hj => ht j ?_) (made_of I (fun j hj => hall j hj) hlow)
      rcases Nat.lt_or_ge j m with h | h
      · exact h
      · rw [hlow j h] at hj; cases hj
  intro fuel
  induction fuel with
  | zero =>
    intro L a w hf hsz hl hlow I
    have := fin L a w (by omega) hsz hlow I
    rw [show ops.size - m = 0 by omega] at this
    exact this
  | succ fuel ih =>
    intro L a w hf hsz hl hlow I
    by_cases hc : cnt L m = 0
    · have := fin L a w hc hsz hlow I
      rw [show ops.size - m = fuel + 1 by omega] at this
      exact this
    · constructor
      · intro hnil
        exfalso
        have hex : ∃ i, i < m ∧ L.getD i false = false := by
          apply Classical.byContradiction
          intro hno
          refine hc ?_
          unfold cnt
          rw [List.length_eq_zero_iff, List.filter_eq_nil_iff]
          intro k hk
          rw [List.mem_range] at hk
          cases hv : L.getD k false with
          | true => simp
          | false => exact absurd ⟨k, hk, hv⟩ hno
        have hmin : ∀ n i, i < n → i < m → L.getD i false = false → ∃ i, i < m ∧ L.getD i false = false ∧ ∀ j, j < i → L.getD j false = true := by
          intro n
          induction n with
          | zero => intro i h; omega
          | succ n ihn =>
            intro i hin him hf
            by_cases hall : ∀ j, j < i → L.getD j false = true
            · exact ⟨i, him, hf, hall⟩
            · have : ∃ j, j < i ∧ L.getD j false = false := by
                apply Classical.byContradiction
                intro hno
                refine hall fun j hj => ?_
                cases hv : L.getD j false with
                | true => rfl
                | false => exact absurd ⟨j, hj, hv⟩ hno
              obtain ⟨j, hj, hjf⟩ := this
              exact ihn j (by omega) (by omega) hjf
        obtain ⟨i0, hi0, hf0⟩ := hex
        obtain ⟨i, him, hif, hlt⟩ := hmin (i0 + 1) i0 (by omega) hi0 hf0
        have : i ∈ Region.ready .any ops L := by
          rw [Eng.mem_ready hsz]
          refine ⟨by omega, hif, ?_⟩
          intro o ho j hj
          exact hlt j (bound_lt hs ho hj)
        rw [hnil] at this; cases this
      · intro i hi
        obtain ⟨h1, h2, h3⟩ := (Eng.mem_ready hsz).1 hi
        have him : i < m := by
          rcases Nat.lt_or_ge i m with h | h
          · exact h
          · exfalso
            obtain ⟨o, ho⟩ : ∃ o, ops[i]? = some o := ⟨ops[i], Array.getElem?_eq_getElem h1⟩
            refine hc ?_
            unfold cnt
            rw [List.length_eq_zero_iff, List.filter_eq_nil_iff]
            intro k hk
            rw [List.mem_range] at hk
            have := anc_ready hl.2 ((shape_edge hs ho).2.1 h k (by omega)) h3
            simp [this]
        refine step_inv hF hs stable hst2 hS hl hlow I him h1 h2 h3 fun a' w' I' => ih _ a' w' ?_ (by simp [hsz]) ?_ ?_ I'
        · have := cnt_set (L := L) (by omega) h2 m him
          omega
        · refine ⟨by simp [hl.1], fun k o ho hk j hj => ?_⟩
          rw [getD_set (by omega)] at hk ⊢
          split
          · rfl
          · split at hk
            · rename_i hki; subst hki; exact h3 o ho j hj
            · exact hl.2 k o ho hk j hj
        · intro k hk
          rw [getD_set (by omega), if_neg (by omega)]
          exact hlow k hk
end main
theorem region (hF : Free Fc) {id : Nat} {a : Act} {w : World} (m : Nat) (D : Nat → Value → World → Prop) (k : Nat → Kind) (hm : P.follows .mixedOrders = true) (hs : Eng.shape ops m a.tmps.size = true) (hle : decide (m ≤ ops.size) = true)
    (stable : ∀ i v w w', D i v w → Below w.heap.size w w' → D i v w') (hst2 : (∀ i j cs, k i ≠ .store j cs) ∨ ∀ i v w w', D i v w → D i v w')
    (hS : Steps Fc nn P ops Q D k a w m 0 ops.toList)
    (hE : ∀ a' w', Below w.heap.size w w' → a'.defers = a.defers → a'.tmps.size = a.tmps.size → (∀ j d, j < m → dstOf ops j = some d → D j (a'.tmps.getD d undef) w') →
      (∀ t, (∀ j, j < m → dstOf ops j ≠ some t) → a'.tmps.getD t undef = a.tmps.getD t undef) → Made ops k m w a' w' → wpOpsIn Fc nn P ops Q (List.range' m (ops.size - m)) a' w') :
    (Code.region id ops true).wpIn Fc nn P Q a w := by
  refine wpIn_region_any hm ?_
  have hb : Below w.heap.size w { w with drawn := w.drawn + 1 } := ⟨rfl, rfl, rfl, Nat.le_refl _, fun _ _ => rfl⟩
  have hle := of_decide_eq_true hle
  refine wp_free (k := k) hF hs hle stable hst2 hS hE ops.size _ a _ ?_ (by simp) ⟨by simp, fun i o _ h => ?_⟩ (fun k _ => ?_) ⟨hb, rfl, rfl, fun j d h => ?_, fun t _ => rfl, fun j d T c h => ?_, fun j j' d d' T c T' c' g h => ?_⟩
  · have : cnt (Array.replicate ops.size false) m = m := by
      unfold cnt
      have : ∀ k ∈ List.range m, (!(Array.replicate ops.size false).getD k false) = true := by
        intro k _
        simp [Array.getD_eq_getD_getElem?, Array.getElem?_replicate]
        split <;> rfl
      rw [List.filter_eq_self.2 this, List.length_range]
    omega
  all_goals
    first
    | (simp [Array.getD_eq_getD_getElem?, Array.getElem?_replicate] at h; split at h <;> simp at h)
    | (simp [Array.getD_eq_getD_getElem?, Array.getElem?_replicate]; split <;> rfl)
section seqs
variable {D : Nat → Value → World → Prop} {a0 : Act} {w0 : World} {m : Nat}
theorem seq_free (hF : Free Fc) {k : Nat → Kind} (hs : Eng.shape ops m a0.tmps.size = true) (hm : m ≤ ops.size) (stable : ∀ i v w w', D i v w → Below w.heap.size w w' → D i v w') (hst2 : (∀ i j cs, k i ≠ .store j cs) ∨ ∀ i v w w', D i v w → D i v w')
    (hS : Steps Fc nn P ops Q D k a0 w0 m 0 ops.toList)
    (hE : ∀ a w, Below w0.heap.size w0 w → a.defers = a0.defers → a.tmps.size = a0.tmps.size → (∀ j d, j < m → dstOf ops j = some d → D j (a.tmps.getD d undef) w) →
      (∀ t, (∀ j, j < m → dstOf ops j ≠ some t) → a.tmps.getD t undef = a0.tmps.getD t undef) → Made ops k m w0 a w → wpOpsIn Fc nn P ops Q (List.range' m (ops.size - m)) a w) :
    ∀ (fuel k' : Nat) (L : Array Bool) (a : Act) (w : World), k' + fuel = m → upto ops k' L → Inv ops D k a0 w0 L a w → wpOpsIn Fc nn P ops Q (List.range' k' (ops.size - k')) a w := by
  intro fuel
  induction fuel with
  | zero =>
    intro k' L a w hk hL I
    obtain rfl : k' = m := by omega
    refine hE a w I.below I.defers I.size (fun j d hj hd => I.done j d (by rw [hL.2]; simp; omega) hd) (fun t ht => I.rest t fun j hj => ht j ?_) (made_of I (fun j hj => by rw [hL.2]; simp; omega) (fun j hj => by rw [hL.2]; simp; omega))
    rw [hL.2] at hj; simp at hj; omega
  | succ fuel ih =>
    intro k' L a w hk hL I
    have hk' : k' < ops.size := by omega
    rw [show ops.size - k' = (ops.size - (k' + 1)) + 1 by omega, List.range'_succ, wpOpsIn_cons]
    refine step_inv hF hs stable hst2 hS ⟨hL.1, fun i o ho hi j hj => ?_⟩ (fun j hj => by rw [hL.2]; simp; omega) I (by omega) hk' (by rw [hL.2]; simp) (fun o ho j hj => ?_) fun a' w' I' => ih (k' + 1) _ a' w' (by omega) ⟨by simp [hL.1], fun j => ?_⟩ I'
    · have h1 := bound_lt hs ho hj
      rw [hL.2] at hi ⊢; simp at hi ⊢; omega
    · have h1 := bound_lt hs ho hj
      rw [hL.2]; simp; omega
    · rw [getD_set (by rw [hL.1]; exact hk'), hL.2]
      split
      · rename_i hj; subst hj; simp; omega
      · rw [decide_eq_decide]; omega
end seqs
theorem region_seq (hF : Free Fc) {id : Nat} {a : Act} {w : World} (m : Nat) (D : Nat → Value → World → Prop) (k : Nat → Kind) (hs : Eng.shape ops m a.tmps.size = true) (hle : decide (m ≤ ops.size) = true)
    (stable : ∀ i v w w', D i v w → Below w.heap.size w w' → D i v w') (hst2 : (∀ i j cs, k i ≠ .store j cs) ∨ ∀ i v w w', D i v w → D i v w')
    (hS : Steps Fc nn P ops Q D k a w m 0 ops.toList)
    (hE : ∀ a' w', Below w.heap.size w w' → a'.defers = a.defers → a'.tmps.size = a.tmps.size → (∀ j d, j < m → dstOf ops j = some d → D j (a'.tmps.getD d undef) w') →
      (∀ t, (∀ j, j < m → dstOf ops j ≠ some t) → a'.tmps.getD t undef = a.tmps.getD t undef) → Made ops k m w a' w' → wpOpsIn Fc nn P ops Q (List.range' m (ops.size - m)) a' w') :
    (Code.region id ops false).wpIn Fc nn P Q a w := by
  refine wpIn_region ?_
  rw [List.range_eq_range']
  have := seq_free (k := k) hF hs (of_decide_eq_true hle) stable hst2 hS hE m 0 (Array.replicate ops.size false) a w (by omega) ⟨by simp, fun j => by simp [Array.getD_eq_getD_getElem?, Array.getElem?_replicate]; split <;> rfl⟩ ⟨Below.refl _ _, rfl, rfl, fun j d h => ?_, fun t _ => rfl, fun j d T c h => ?_, fun j j' d d' T c T' c' g h => ?_⟩
  · exact this
  all_goals (simp [Array.getD_eq_getD_getElem?, Array.getElem?_replicate] at h; split at h <;> simp at h)
end Go.Proofs.EngI
end
section
namespace Go.Proofs.Eng
open Go Go.RowKit
set_option linter.unusedSimpArgs false
set_option linter.unusedVariables false
variable {P : Program}
theorem below_of_grown {w w' : World} {B : Nat} {v : Value} (h : w.grownBy w' v.ownBlock) (hB : B ≤ w.heap.size) (hv : ∀ g, v.ownBlock = some g → B ≤ g) : Below B w w' :=
  ⟨h.os, h.tape, h.output, h.size, fun k hk => h.block k (by omega) fun e => by have := hv k e.symm; omega⟩
theorem own_block {w : World} {B : Nat} {e : TypeId} {v : Value} {n size : Nat} {xs : List Value} (O : w.ownsRow B e size v n xs) : ∀ g, v.ownBlock = some g → B ≤ g := by
  rcases O.2 with ⟨rfl, _⟩ | ⟨g, cap, cur, rfl, hg, _⟩
  · intro g h; simp [Value.ownBlock] at h
  · intro g' h; simp only [Value.ownBlock, Option.some.injEq] at h; omega
theorem own_ne {w : World} {B : Nat} {e T : TypeId} {v : Value} {n size g : Nat} {xs : List Value} {cs : Array Value} (O : w.ownsRow B e size v n xs) (hk : w.heap[g]? = some (.cells cs T (0, 0))) (hne : (e != T) = true) : some g ≠ v.ownBlock := by
  rcases O.2 with ⟨rfl, _⟩ | ⟨g', cap, cur, rfl, hg, hh, _⟩
  · simp [Value.ownBlock]
  · intro h; simp only [Value.ownBlock, Option.some.injEq] at h; subst h
    rw [hk] at hh; injection hh with hh; injection hh with _ hh; simp [hh] at hne
theorem own_append {w : World} {B : Nat} {t ty e : TypeId} {i : TypeInfo} {z : Value} {size : Nat} (ht : P.underlying t = some (.slice e)) (hi : P.info? e = some i) (hz : i.zero = some z) (hsize : i.size = size) (hby : i.bytes ≤ 128) (hzs : z.cells.size = size) (hsz : 0 < size)
    {v : Value} {n : Nat} {xs : List Value} (O : w.ownsRow B e size v n xs) {x : Value} {m : Nat} {news : List Value} (F : Reads w x m size news) (h1 : ∀ u ∈ news, u.oneCell' = true) (h63 : n + m ≤ 1000000000000) (hB : B ≤ w.heap.size) :
    ∃ v' w', (Builtin.append_ #[t, t] ty #[v, x]).run P w = .ok v' w' ∧ w'.ownsRow B e size v' (n + m) (xs ++ news) ∧ w'.ownsRow B e size v n xs ∧ Below B w w' ∧ w.grownBy w' v.ownBlock ∧ (v'.ownBlock = v.ownBlock ∨ v'.ownBlock = some w.heap.size) := by
  have hbm : (n + m) * i.bytes ≤ 140737488355328 := Nat.le_trans (Nat.mul_le_mul h63 hby) (by decide)
  have h63' : n + m ≤ maxLen := by unfold maxLen; omega
  obtain ⟨hl, A, c, rfl, hc, hm, hx⟩ := F
  cases A with
  | none =>
    have hm0 : m = 0 := by
      rcases Nat.eq_zero_or_pos m with h | h
      · exact h
      · have h0 : 0 < news.length := by rw [hl]; exact Nat.mul_pos h hsz
        obtain ⟨ad, e', _⟩ := hx 0 _ (List.getElem?_eq_getElem h0)
        cases e'
    subst hm0
    have hn : news = [] := List.eq_nil_of_length_eq_zero (by simpa using hl)
    subst hn
    have hs : Src P i.size t (.slice none 0 c) 0 [] w := Src.ofNil w ht c
    refine ⟨v, w, ?_, by simpa using O, O, Below.refl _ _, ⟨rfl, rfl, rfl, Nat.le_refl _, fun _ _ _ => rfl⟩, .inl rfl⟩
    rcases O.2 with ⟨rfl, rfl⟩ | ⟨g, cap, cur, rfl, hg, hh, hn, _⟩
    · exact run_append_nothing w t t ty e i ht hi none 0 0 (Nat.le_refl _) _ hs
    · exact run_append_nothing w t t ty e i ht hi _ n cap hn _ hs
  | some a =>
    have hx' : ∀ j u, news[j]? = some u → w.cell? (a.add j) = some u := fun j u h => by
      obtain ⟨ad, e', hcell⟩ := hx j u h
      injection e' with e'; subst e'; exact hcell
    obtain ⟨v', w', hr, h2, h3, h4, h5⟩ := run_append_own_at (P := P) w B t ty e i z size i.bytes ht hi hz hsize rfl hzs hsz v n xs O a m c news hl hx' h1 h63' hbm hB
    refine ⟨v', w', hr, h2, ?_, below_of_grown h3 hB (own_block O), h3, h5⟩
    subst hsize
    rcases O.2 with ⟨rfl, rfl⟩ | ⟨g, cap, cur, rfl, hbg, hg, hnc, hcm, hcs, htake⟩
    · have : xs = [] := List.eq_nil_of_length_eq_zero (by simpa using O.1)
      subst this; exact World.ownsRow_nil w' B e i.size
    · by_cases hroom : n + m ≤ cap
      · have hfit : n * i.size + news.length ≤ cur.size := by rw [hl, hcs, ← Nat.add_mul]; exact Nat.mul_le_mul_right _ hroom
        have hr' := run_append_room (P := P) w t ty e i ht hi g n cap cur hg a m c news hl hx' h1 hroom hfit
        rw [hr'] at hr
        injection hr with _ hw
        subst hw
        refine ⟨O.1, .inr ⟨g, cap, _, rfl, hbg, setRow_heap w g cur _ e _ hg, hnc, hcm, ?_, ?_⟩⟩
        · simp only [List.size_toArray, List.length_append, List.length_take, List.length_drop, Array.length_toList]
          omega
        · simp only [List.append_assoc]
          rw [List.take_append_of_le_length (by rw [List.length_take, Array.length_toList]; omega), List.take_take, Nat.min_self]
          exact htake
      · have holds : ∀ j u, xs[j]? = some u → w.cell? ((⟨g, 0, none⟩ : Addr).add j) = some u := O.cells (g := g) rfl
        have hr' := run_append_grow (P := P) w t ty e i z ht hi hz ⟨g, 0, none⟩ n cap xs O.1 holds a m c news hl hx' (by omega) (by omega) (growslice_fits (by omega) hbm)
        rw [hr'] at hr
        injection hr with _ hw
        subst hw
        refine ⟨O.1, .inr ⟨g, cap, cur, rfl, hbg, ?_, hnc, hcm, hcs, htake⟩⟩
        exact (heap_alloc_old w.drew _ (by simpa using (Array.getElem?_eq_some_iff.1 hg).1)).trans hg
theorem Reads.len_le {w : World} {v : Value} {n size : Nat} {xs : List Value} (F : Reads w v n size xs) : n ≤ 9223372036854775807 := by
  obtain ⟨_, A, c, _, h, hm, _⟩ := F
  unfold maxLen at hm; omega
def cutVal (v : Value) (l h size : Nat) : Value := match v with | .slice A n c => .slice (if c = l then A else A.map (·.add (l * size))) (h - l) (c - l) | _ => undef
theorem Reads.cutv {w : World} {v : Value} {n size : Nat} {xs : List Value} (F : Reads w v n size xs) {l h : Nat} (hl : l ≤ h) (hh : h ≤ n) : Reads w (cutVal v l h size) (h - l) size ((xs.drop (l * size)).take ((h - l) * size)) := by
  obtain ⟨A, c, rfl⟩ : ∃ A c, v = .slice A n c := ⟨F.2.choose, F.2.choose_spec.choose, F.2.choose_spec.choose_spec.1⟩
  exact F.cut hl hh A c rfl
inductive Tl where
  | still (p : Value → Prop)
  | own (B : Nat) (e : TypeId) (size n : Nat) (xs : List Value)
  | lasts (p : Value → World → Prop) (h : ∀ v w w', p v w → Below w.heap.size w w' → p v w')
def Tl.holds : Tl → Value → World → Prop
  | .still p, v, _ => p v
  | .own B e size n xs, v, w => w.ownsRow B e size v n xs
  | .lasts p _, v, w => p v w
def Tl.isStill : Tl → Bool
  | .still _ => true
  | _ => false
def tell (L : List Tl) (i : Nat) (v : Value) (w : World) : Prop := (L.getD i (.still fun _ => True)).holds v w
theorem tell_stable (L : List Tl) : ∀ i v w w', tell L i v w → Below w.heap.size w w' → tell L i v w' := by
  intro i v w w' h hb
  unfold tell at h ⊢
  cases hq : L.getD i (.still fun _ => True) with
  | still p => rw [hq] at h; exact h
  | own B e size n xs => rw [hq] at h; exact own_below h hb
  | lasts p hp => rw [hq] at h; exact hp _ _ _ h hb
theorem no_stores {ks : List Kind} (h : (ks.all fun x => match x with | .store _ _ => false | _ => true) = true) : ∀ i j cs, ks.getD i .plain ≠ .store j cs := by
  intro i j cs hn
  rcases Nat.lt_or_ge i ks.length with hl | hl
  · rw [List.getD_eq_getElem?_getD, List.getElem?_eq_getElem hl] at hn
    simp only [Option.getD_some] at hn
    have := List.all_eq_true.1 h _ (List.getElem_mem hl)
    rw [hn] at this
    simp at this
  · rw [List.getD_eq_getElem?_getD, List.getElem?_eq_none hl] at hn; cases hn
section duties
variable {ops : Array Oper} {Q : Exit → Act → World → Prop} {D : Nat → Value → World → Prop} {k : Nat → Kind} {a0 : Act} {w0 : World} {m i : Nat} {o : Oper}
theorem own_mono {w : World} {B B' : Nat} {e : TypeId} {v : Value} {n size : Nat} {xs : List Value} (O : w.ownsRow B e size v n xs) (h : B' ≤ B) : w.ownsRow B' e size v n xs := by
  refine ⟨O.1, ?_⟩
  rcases O.2 with h2 | ⟨g, cap, cur, e1, hg, r⟩
  · exact .inl h2
  · exact .inr ⟨g, cap, cur, e1, by omega, r⟩
theorem val_own {a : Act} {w w1 : World} {v : Value} (hrun : (execOp a.eval o).run P w = .ok (.value v) w1) (hB : Below w.heap.size w w1) (h : D i v w1) : o.wp P a w (fun a' w' => ∃ v, a' = a.put o.dst v ∧ (o.dst ≠ none → D i v w') ∧ Below w.heap.size w w') Q := by
  unfold Oper.wp
  rw [hrun]
  exact ⟨v, rfl, fun _ => h, hB⟩
theorem val_ex {a : Act} {w : World} {R : Value → World → Prop} (hrun : ∃ v w1, (execOp a.eval o).run P w = .ok (.value v) w1 ∧ R v w1) (h : ∀ v w1, R v w1 → Below w.heap.size w w1 ∧ D i v w1) : o.wp P a w (fun a' w' => ∃ v, a' = a.put o.dst v ∧ (o.dst ≠ none → D i v w') ∧ Below w.heap.size w w') Q := by
  obtain ⟨v, w1, hr, hR⟩ := hrun
  exact val_own hr (h v w1 hR).1 (h v w1 hR).2
theorem eats {L : List Tl} {B : Nat} {T : TypeId} {size n n' e d : Nat} {xs xs' : List Value} (hk : k i = .eats) (hg : o.guard = none) (hno : ∀ j T c, k j ≠ .alloc T c) (hb : bound o e = true) (hd : dstOf ops e = some d)
    (he : L.getD e (.still fun _ => True) = .own B T size n xs) (hi : L.getD i (.still fun _ => True) = .own B T size n' xs') (hL : ((List.range L.length).all fun j => j == e || j == i || (L.getD j (.still fun _ => True)).isStill) = true)
    (h : ∀ (a : Act) (w : World), At ops (tell L) a0 w0 i o a w → w.ownsRow B T size (a.eval (.tmp d)) n xs → ∃ v w', (execOp a.eval o).run P w = .ok (.value v) w' ∧ Below w0.heap.size w w' ∧ w'.ownsRow B T size v n' xs' ∧ w'.ownsRow B T size (a.eval (.tmp d)) n xs) : Duty P ops Q (tell L) k a0 w0 i o := by
  unfold Duty; rw [hk]
  refine ⟨hg, hno, fun a w hB hdep ho => ?_⟩
  have h0 : w.ownsRow B T size (a.eval (.tmp d)) n xs := by
    have := hdep e d hb hd
    unfold tell at this; rw [he] at this; exact this
  obtain ⟨v, w', hr, h1, h2, h3⟩ := h a w ⟨hB, fun j d hb hd => hdep j d hb hd, ho⟩ h0
  unfold Oper.wp
  rw [hr]
  refine ⟨v, rfl, fun _ => ?_, h1, fun j d' hj hjd hD => ?_⟩
  · unfold tell; rw [hi]; exact h2
  · by_cases hje : j = e
    · subst hje
      rw [hd] at hjd; injection hjd with hjd; subst hjd
      unfold tell; rw [he]; exact h3
    · unfold tell at hD ⊢
      rcases Nat.lt_or_ge j L.length with hl | hl
      · have := all_range.1 hL j hl
        simp only [Bool.or_eq_true, beq_iff_eq, hje, hj, false_or] at this
        cases hq : L.getD j (.still fun _ => True) with
        | still p => rw [hq] at hD; exact hD
        | own B e size n xs => rw [hq] at this; cases this
        | lasts p hp => rw [hq] at this; cases this
      · have hq : L.getD j (.still fun _ => True) = .still fun _ => True := by rw [List.getD_eq_getElem?_getD, List.getElem?_eq_none hl]; rfl
        rw [hq]; trivial
end duties
section runs
variable {o : Oper} {a : Act} {w : World}
theorem run_append {B : Nat} {t e : TypeId} {i : TypeInfo} {z : Value} {size : Nat} {s x : Operand} (hop : o.op = .call { callee := .builtin .append, args := #[s, x], argTypes := #[t, t] })
    (ht : P.underlying t = some (.slice e)) (hi : P.info? e = some i) (hz : i.zero = some z) (hsize : i.size = size) (hby : i.bytes ≤ 128) (hzs : z.cells.size = size) (hsz : 0 < size)
    {v xv : Value} {n : Nat} {xs : List Value} (hs : a.eval s = v) (O : w.ownsRow B e size v n xs) (hx : a.eval x = xv) {m : Nat} {news : List Value} (F : Reads w xv m size news) (h1 : ∀ u ∈ news, u.oneCell' = true) (h63 : n + m ≤ 1000000000000) (hB : B ≤ w.heap.size) :
    ∃ v' w', (execOp a.eval o).run P w = .ok (.value v') w' ∧ w'.ownsRow B e size v' (n + m) (xs ++ news) ∧ w'.ownsRow B e size v n xs ∧ Below B w w' ∧ w.grownBy w' v.ownBlock ∧ (v'.ownBlock = v.ownBlock ∨ v'.ownBlock = some w.heap.size) := by
  obtain ⟨v', w', hr, h⟩ := own_append (P := P) (ty := o.type) ht hi hz hsize hby hzs hsz O F h1 h63 hB
  refine ⟨v', w', ?_, h⟩
  unfold execOp
  simp only [hop, resolve, invoke, builtin, Sem.run_bind, Sem.run_pure, Result.andThen_ok, List.map_toArray, List.map_cons, List.map_nil, hs, hx, hr]
theorem run_build1 {T e : TypeId} {i : TypeInfo} {z : Value} {x : Operand} {u : Value} {size : Nat} (us : List Value) (hop : o.op = .buildSlice T 1 #[(0, x)]) (hu : P.underlying T = some (.slice e)) (hi : P.info? e = some i) (hz : i.zero = some z) (hsize : i.size = size) (hs : (decide (0 < size)) = true) (hs' : (decide (size < 1000)) = true)
    (hl : us.length = size) (hf : Instr.fill (fun i => some (i * size, size)) ((Array.range (1 * size)).map (z.cells[· % z.cells.size]!)) [(0, u)] = some us.toArray) (h : a.eval x = u) :
    ∃ v w', (execOp a.eval o).run P w = .ok (.value v) w' ∧ Reads w' v 1 size us ∧ Below w.heap.size w w' := by
  have hs := of_decide_eq_true hs
  have hs' := of_decide_eq_true hs'
  subst hsize
  have hr := run_buildSlice (P := P) w T e 1 #[(0, u)] us.toArray i z hu hi hz (by omega) (by omega) hf
  refine ⟨_, _, ?_, ⟨by omega, some ⟨w.heap.size, 0, none⟩, 1, rfl, Nat.le_refl _, by unfold maxLen; omega, fun j u hj => ⟨_, rfl, ?_⟩⟩, (Below.refl _ _).alloc (Nat.le_refl _) (.cells us.toArray e)⟩
  · unfold execOp
    simp only [hop, List.map_toArray, List.map_cons, List.map_nil, h, Sem.run_bind, hr, Result.andThen_ok]
    rfl
  · have hadd : (⟨w.heap.size, 0, none⟩ : Addr).add j = ⟨w.heap.size, j, none⟩ := by unfold Addr.add; split <;> simp_all
    rw [hadd]
    unfold World.cell?
    have : (w.alloc (.cells us.toArray e)).heap[w.heap.size]? = some (.cells us.toArray e) := by show (w.heap.push _)[w.heap.size]? = _; simp
    rw [this]
    simpa using hj
theorem run_cutv {v : Value} {n size : Nat} {xs : List Value} {T e : TypeId} {x : Operand} {lo hi : Option Operand} {l h : Nat} {L H : Option Value} (hop : o.op = .slice T x lo hi none) (hu : P.underlying T = some (.slice e)) (hsz : (P.info? e).map (·.size) = some size) (hx : a.eval x = v) (F : Reads w v n size xs)
    (hlo : lo.map a.eval = L) (hhi : hi.map a.eval = H) (hL : L = none ∧ l = 0 ∨ ∃ k, L = some (.int k (l : Int))) (hH : H = none ∧ h = n ∨ ∃ k, H = some (.int k (h : Int))) (hl : l ≤ h) (hh : h ≤ n) :
    (execOp a.eval o).run P w = .ok (.value (cutVal v l h size)) w := by
  obtain ⟨A, c, hv, hc, hm⟩ := (⟨F.2.choose, F.2.choose_spec.choose, F.2.choose_spec.choose_spec.1, F.2.choose_spec.choose_spec.2.1, F.2.choose_spec.choose_spec.2.2.1⟩ : ∃ A c, v = .slice A n c ∧ n ≤ c ∧ c ≤ maxLen)
  rw [hv]; simp only [cutVal]
  rw [hv] at hx
  cases hq : P.info? e with
  | none => simp [hq] at hsz
  | some i =>
    have hs : i.size = size := by simpa [hq] using hsz
    unfold execOp; rw [hop]
    simp only [hx, hlo, hhi, Option.map_none, Instr.sliceAt, Instr.slice, Sem.run_bind, run_underlying hu, Result.andThen_ok]
    have hb : (Instr.sliceBounds true n c L H none).run P w = .ok (l, h, c) w := by
      unfold Instr.sliceBounds
      have s1 : ∀ (k : IntKind) (y : Nat) (code : BoundsCode), h ≤ y → (Instr.sliceBound (.int k (h : Int)) y code).run P w = .ok h w := fun k y code hy => by
        unfold Instr.sliceBound
        simp [Sem.run_bind, asIntOf, Sem.run_pure]
        exact fun hlt => absurd hlt (by omega)
      have s2 : ∀ (k : IntKind) (y : Nat) (code : BoundsCode), l ≤ y → (Instr.sliceBound (.int k (l : Int)) y code).run P w = .ok l w := fun k y code hy => by
        unfold Instr.sliceBound
        simp [Sem.run_bind, asIntOf, Sem.run_pure]
        exact fun hlt => absurd hlt (by omega)
      rcases hL with ⟨rfl, rfl⟩ | ⟨k, rfl⟩ <;> rcases hH with ⟨rfl, rfl⟩ | ⟨k', rfl⟩ <;>
        simp [Sem.run_bind, Sem.run_pure, s1 _ _ _ (by omega : h ≤ c), s2 _ _ _ hl]
    simp [Sem.run_bind, Sem.run_pure, hb, sizeOf, typeInfo, hq, hs, run_underlying hu]
theorem info_of {e : TypeId} {size : Nat} {z : Value} (hI : (P.info? e).map (fun i => (i.size, decide (i.bytes ≤ 128), i.zero)) = some (size, true, some z)) : ∃ i, P.info? e = some i ∧ i.size = size ∧ i.bytes ≤ 128 ∧ i.zero = some z := by
  cases hq : P.info? e with
  | none => simp [hq] at hI
  | some i =>
    simp [hq] at hI
    exact ⟨i, rfl, hI.1, hI.2.1, hI.2.2⟩
theorem run_appendI {B : Nat} {t e : TypeId} {z : Value} {size : Nat} {s x : Operand} (hop : o.op = .call { callee := .builtin .append, args := #[s, x], argTypes := #[t, t] })
    (ht : P.underlying t = some (.slice e)) (hI : (P.info? e).map (fun i => (i.size, decide (i.bytes ≤ 128), i.zero)) = some (size, true, some z)) (hzs : z.cells.size = size) (hsz : (decide (0 < size)) = true)
    {v xv : Value} {n : Nat} {xs : List Value} (hs : a.eval s = v) (O : w.ownsRow B e size v n xs) (hx : a.eval x = xv) {m : Nat} {news : List Value} (F : Reads w xv m size news) (h1 : ∀ u ∈ news, u.oneCell' = true) (h63 : n + m ≤ 1000000000000) (hB : B ≤ w.heap.size) :
    ∃ v' w', (execOp a.eval o).run P w = .ok (.value v') w' ∧ w'.ownsRow B e size v' (n + m) (xs ++ news) ∧ w'.ownsRow B e size v n xs ∧ Below B w w' ∧ w.grownBy w' v.ownBlock ∧ (v'.ownBlock = v.ownBlock ∨ v'.ownBlock = some w.heap.size) := by
  obtain ⟨i, h1', h2, h3, h4⟩ := info_of hI
  exact run_append hop ht h1' h4 h2 h3 hzs (of_decide_eq_true hsz) hs O hx F h1 h63 hB
theorem run_build1I {T e : TypeId} {z : Value} {x : Operand} {u : Value} {size : Nat} (us : List Value) (hop : o.op = .buildSlice T 1 #[(0, x)]) (hu : P.underlying T = some (.slice e)) (hI : (P.info? e).map (fun i => (i.size, decide (i.bytes ≤ 128), i.zero)) = some (size, true, some z)) (hs : (decide (0 < size)) = true) (hs' : (decide (size < 1000)) = true)
    (hl : us.length = size) (hf : Instr.fill (fun i => some (i * size, size)) ((Array.range (1 * size)).map (z.cells[· % z.cells.size]!)) [(0, u)] = some us.toArray) (h : a.eval x = u) :
    ∃ v w', (execOp a.eval o).run P w = .ok (.value v) w' ∧ Reads w' v 1 size us ∧ Below w.heap.size w w' := by
  obtain ⟨i, h1', h2, h3, h4⟩ := info_of hI
  exact run_build1 us hop hu h1' h4 h2 hs hs' hl hf h
theorem tail_ex {c d n i : Nat} {o : Oper} {Q : Exit → Act → World → Prop} {ops : Array Oper} {R : Value → World → Prop} {os : List Oper} (ho' : ops.toList.drop i = o :: os) (hg : o.guard = none) (hd : o.dst = some d) (hrun : ∃ v w1, (execOp a.eval o).run P w = .ok (.value v) w1 ∧ R v w1) (hn : a.tmps.size = n) (hlt : decide (d < n) = true)
    (h : ∀ (v : Value) (w1 : World) (a' : Act), R v w1 → a'.defers = a.defers → a'.tmps.size = n → a'.eval (.tmp d) = v → (∀ t, (t != d) = true → a'.eval (.tmp t) = a.eval (.tmp t)) → wpOps P ops Q (List.range' (i + 1) c) a' w1) : wpOps P ops Q (List.range' i (c + 1)) a w := by
  obtain ⟨v, w1, hr, hR⟩ := hrun
  exact tail_val ho' hg hd hr hn hlt fun a' => h v w1 a' hR
theorem regionT {id n : Nat} {Q : Exit → Act → World → Prop} {ops : Array Oper} (hn : ops.size = n) (h : wpOps P ops Q (List.range' 0 n) a w) : (Code.region id ops false).wp P Q a w := by
  refine wp_region ?_
  rw [hn, List.range_eq_range']; exact h
end runs
end Go.Proofs.Eng
end
