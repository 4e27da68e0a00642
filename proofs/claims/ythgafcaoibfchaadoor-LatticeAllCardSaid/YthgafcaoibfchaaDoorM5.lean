/- Words and walks that the row of LatticeAll needs: printed by programs, and plain laws. -/
import Derived.Test.YthgafcaoibfchaaDoorM4
import Derived.Test.YthgafcaoibfchaaDoorM0
import Derived.Maps.AppendAt
import Derived.Deep.Upon
import Derived.Great.BuildSlice
import Derived.Deep.SlicePairs
import Derived.Deep.DrawnRows
section
namespace Go.Proofs.Eng
open Go Go.RowKit
set_option linter.unusedSimpArgs false
set_option linter.unusedVariables false
def Reads (w : World) (v : Value) (n size : Nat) (xs : List Value) : Prop :=
  xs.length = n * size ∧ ∃ A c, v = .slice A n c ∧ n ≤ c ∧ c ≤ maxLen ∧ ∀ j u, xs[j]? = some u → ∃ ad, A = some ad ∧ w.cell? (ad.add j) = some u
theorem cell_lt {w : World} {a : Addr} {u : Value} (h : w.cell? a = some u) : a.block < w.heap.size := World.block_lt_of_cell? w a h
theorem add_add (a : Addr) (i j : Nat) : (a.add i).add j = a.add (i + j) := by
  unfold Addr.add
  by_cases hi : i = 0
  · subst hi; simp
  · by_cases hj : j = 0
    · subst hj; simp
    · rw [if_neg hi, if_neg hj, if_neg (by omega)]
      simp only [Nat.add_assoc]
theorem Reads.below {w w1 : World} {v : Value} {n size : Nat} {xs : List Value} (h : Reads w v n size xs) (hb : Below w.heap.size w w1) : Reads w1 v n size xs := by
  obtain ⟨h1, A, c, rfl, h2, h3, h4⟩ := h
  refine ⟨h1, A, c, rfl, h2, h3, fun j u hj => ?_⟩
  obtain ⟨ad, e, hc⟩ := h4 j u hj
  exact ⟨ad, e, (hb.cell (cell_lt hc)).trans hc⟩
theorem Reads.nil (w : World) (size : Nat) : Reads w (.slice none 0 0) 0 size [] := ⟨by simp, none, 0, rfl, Nat.le_refl _, by unfold maxLen; omega, fun j u h => by simp at h⟩
theorem Reads.of_own {w : World} {B : Nat} {e : TypeId} {v : Value} {n size : Nat} {xs : List Value} (h : w.ownsRow B e size v n xs) : Reads w v n size xs := by
  obtain ⟨h1, h2⟩ := h
  rcases h2 with ⟨rfl, rfl⟩ | ⟨g, cap, cur, rfl, hg, hh, hn, hc, hs, ht⟩
  · have : xs = [] := by simpa using h1
    subst this; exact Reads.nil w size
  · refine ⟨h1, _, cap, rfl, hn, hc, fun j u hj => ⟨_, rfl, ?_⟩⟩
    have hl : j < xs.length := (List.getElem?_eq_some_iff.1 hj).1
    rw [← ht, List.getElem?_take, if_pos (by omega)] at hj
    have hadd : (⟨g, 0, none⟩ : Addr).add j = ⟨g, j, none⟩ := by unfold Addr.add; split <;> simp_all
    rw [hadd]
    unfold World.cell?
    rw [hh]
    simpa using hj
theorem own_below {w w1 : World} {B : Nat} {e : TypeId} {v : Value} {n size : Nat} {xs : List Value} (h : w.ownsRow B e size v n xs) (hb : Below w.heap.size w w1) : w1.ownsRow B e size v n xs := by
  obtain ⟨h1, h2⟩ := h
  refine ⟨h1, ?_⟩
  rcases h2 with h2 | ⟨g, cap, cur, rfl, hg, hh, r⟩
  · exact .inl h2
  · exact .inr ⟨g, cap, cur, rfl, hg, (hb.block g (Array.getElem?_eq_some_iff.1 hh).1).trans hh, r⟩
section runs
variable {P : Program} {o : Oper} {a : Act} {w : World} {v : Value} {n size : Nat} {xs : List Value}
theorem run_len_sl {t e : TypeId} {x : Operand} (hop : o.op = .call { callee := .builtin .len, args := #[x], argTypes := #[t] }) (hu : P.underlying t = some (.slice e)) (h : a.eval x = v) (F : Reads w v n size xs) : (execOp a.eval o).run P w = .ok (.value (.int .i64 n)) w := by
  obtain ⟨_, A, c, rfl, _⟩ := F
  unfold execOp; rw [hop]
  simp only [resolve, List.map_toArray, List.map_cons, List.map_nil, h]
  simp [Sem.run_bind, Sem.run_pure, invoke, builtin, Builtin.len_, run_underlying hu, goInt]
def elemPtr (v : Value) (j : Nat) : Value := match v with | .slice (some ad) _ _ => .pointer (some (ad.add j)) | _ => undef
theorem run_index_sl {T e : TypeId} {x ix : Operand} {kd : IntKind} {j : Nat} (hop : o.op = .indexAddr T x ix) (hu : P.underlying T = some (.slice e)) (hsz : (P.info? e).map (·.size) = some size) (h : a.eval x = v) (hi : a.eval ix = .int kd (j : Int)) (F : Reads w v n size xs) (hj : j < n) (h0 : (decide (0 < size)) = true) :
    (execOp a.eval o).run P w = .ok (.value (elemPtr v (j * size))) w := by
  obtain ⟨hl, A, c, rfl, hc, hm, hx⟩ := F
  have h0 := of_decide_eq_true h0
  have hlt : j * size < xs.length := by rw [hl]; exact Nat.mul_lt_mul_of_pos_right hj h0
  obtain ⟨ad, rfl, hcell⟩ := hx (j * size) _ (List.getElem?_eq_getElem hlt)
  cases hq : P.info? e with
  | none => simp [hq] at hsz
  | some i =>
    have hs : i.size = size := by simpa [hq] using hsz
    have h1 : (0 : Int) ≤ (j : Int) := by omega
    have h2 : (j : Int) < (n : Int) := by omega
    unfold execOp; rw [hop]
    simp only [h, hi, Instr.indexAt, asIntOf, Sem.run_bind, Sem.run_pure, Result.andThen_ok, run_underlying hu, Instr.sureAddr]
    simp [Sem.run_bind, Sem.run_pure, h1, h2, sizeOf, typeInfo, hq, hs, run_underlying hu, elemPtr]
theorem Reads.cells_at (F : Reads w v n size xs) {j : Nat} {cs : List Value} (hcs : (xs.drop j).take cs.length = cs) (hp : 0 < cs.length) : ∃ ad c, v = .slice (some ad) n c ∧ ∀ i u, cs[i]? = some u → w.cell? ((ad.add j).add i) = some u := by
  obtain ⟨hl, A, c, rfl, hc, hm, hx⟩ := F
  have hd : ∀ i u, cs[i]? = some u → xs[j + i]? = some u := by
    intro i u hu
    have hi : i < cs.length := (List.getElem?_eq_some_iff.1 hu).1
    rw [← hcs, List.getElem?_take, if_pos hi, List.getElem?_drop] at hu
    exact hu
  obtain ⟨ad, rfl, _⟩ := hx (j + 0) _ (hd 0 _ (List.getElem?_eq_getElem hp))
  refine ⟨ad, c, rfl, fun i u hu => ?_⟩
  obtain ⟨ad', e, hcell⟩ := hx (j + i) u (hd i u hu)
  injection e with e; subst e
  rw [add_add]; exact hcell
theorem run_load_els {ty : TypeId} {x : Operand} {j : Nat} {d : TypeDesc} (cs : List Value) (hop : o.op = .load ty x) (h : a.eval x = elemPtr v j) (F : Reads w v n size xs) (hcs : (xs.drop j).take cs.length = cs) (hp : (decide (0 < cs.length)) = true)
    (hu : P.underlying ty = some d) (hd : d.isRow = true) (hi : (P.info? ty).map (·.size) = some cs.length) : (execOp a.eval o).run P w = .ok (.value (.agg cs.toArray)) w := by
  obtain ⟨ad, c, rfl, hx⟩ := F.cells_at hcs (of_decide_eq_true hp)
  have hl := run_loadCells_list (P := P) (w := w) (ad.add j) cs hx
  cases hq : P.info? ty with
  | none => simp [hq] at hi
  | some i =>
    have hs : i.size = cs.length := by simpa [hq] using hi
    have hagg : (isAgg ty).run P w = .ok true w := by
      unfold isAgg
      rw [Sem.run_bind, run_underlying hu w]
      cases d <;> simp_all
    unfold execOp; rw [hop]
    simp only [h, elemPtr, Instr.loadAt, Instr.sureAddr, Sem.run_bind, Sem.run_pure, Result.andThen_ok, loadVar, hagg, if_true]
    simp [Sem.run_bind, sizeOf, typeInfo, hq, hs, hl]
theorem Reads.cut (F : Reads w v n size xs) {l h : Nat} (hl : l ≤ h) (hh : h ≤ n) : ∀ A c, v = .slice A n c → Reads w (.slice (if c = l then A else A.map (·.add (l * size))) (h - l) (c - l)) (h - l) size ((xs.drop (l * size)).take ((h - l) * size)) := by
  obtain ⟨hlen, A, c, rfl, hc, hm, hx⟩ := F
  intro A' c' e
  injection e with e1 e2 e3
  subst e1; subst e3
  have hll : l * size ≤ h * size := Nat.mul_le_mul_right _ hl
  have hhn : h * size ≤ n * size := Nat.mul_le_mul_right _ hh
  have hsub : (h - l) * size = h * size - l * size := Nat.sub_mul _ _ _
  refine ⟨by rw [List.length_take, List.length_drop, hlen]; omega, _, _, rfl, by omega, by omega, fun j u hj => ?_⟩
  have hjl : j < (h - l) * size := by
    have := (List.getElem?_eq_some_iff.1 hj).1
    rw [List.length_take] at this; omega
  rw [List.getElem?_take, if_pos hjl, List.getElem?_drop] at hj
  obtain ⟨ad, rfl, hcell⟩ := hx _ u hj
  by_cases hcl : c = l
  · exfalso
    have : h - l = 0 := by omega
    rw [this] at hjl; simp at hjl
  · refine ⟨ad.add (l * size), by rw [if_neg hcl]; rfl, ?_⟩
    rw [add_add]; exact hcell
end runs
end Go.Proofs.Eng
end
section
namespace Go.Proofs.Eng
open Go Go.RowKit
set_option linter.unusedSimpArgs false
set_option linter.unusedVariables false
variable {P : Program}
theorem below_of_grown {w w' : World} {B : Nat} {v : Value} (h : w.grownBy w' v.ownBlock) (hB : B ≤ w.heap.size) (hv : ∀ g, v.ownBlock = some g → B ≤ g) : Below B w w' :=
  ⟨h.os, h.tape, h.output, h.size, fun k hk => h.block k (by omega) fun e => by have := hv k e.symm; omega⟩
theorem own_block {w : World} {B : Nat} {e : TypeId} {v : Value} {n size : Nat} {xs : List Value} (O : w.ownsRow B e size v n xs) : ∀ g, v.ownBlock = some g → B ≤ g := by
  rcases O.2 with ⟨rfl, _⟩ | ⟨g, cap, cur, rfl, hg, _⟩
  · intro g h; simp [Value.ownBlock] at h
  · intro g' h; simp only [Value.ownBlock, Option.some.injEq] at h; omega
theorem own_lt {w : World} {B : Nat} {e : TypeId} {v : Value} {n size : Nat} {xs : List Value} (O : w.ownsRow B e size v n xs) : ∀ g, v.ownBlock = some g → g < w.heap.size := by
  rcases O.2 with ⟨rfl, _⟩ | ⟨g, cap, cur, rfl, hg, hh, _⟩
  · intro g h; simp [Value.ownBlock] at h
  · intro g' h; simp only [Value.ownBlock, Option.some.injEq] at h; subst h; exact (Array.getElem?_eq_some_iff.1 hh).1
theorem own_ne {w : World} {B : Nat} {e T : TypeId} {v : Value} {n size g : Nat} {xs : List Value} {cs : Array Value} (O : w.ownsRow B e size v n xs) (hk : w.heap[g]? = some (.cells cs T (0, 0))) (hne : (e != T) = true) : some g ≠ v.ownBlock := by
  rcases O.2 with ⟨rfl, _⟩ | ⟨g', cap, cur, rfl, hg, hh, _⟩
  · simp [Value.ownBlock]
  · intro h; simp only [Value.ownBlock, Option.some.injEq] at h; subst h
    rw [hk] at hh; injection hh with hh; injection hh with _ hh; simp [hh] at hne
theorem own_append {w : World} {B : Nat} {t ty e : TypeId} {i : TypeInfo} {z : Value} {size : Nat} (ht : P.underlying t = some (.slice e)) (hi : P.info? e = some i) (hz : i.zero = some z) (hsize : i.size = size) (hby : i.bytes ≤ 128) (hzs : z.cells.size = size) (hsz : 0 < size)
    {v : Value} {n : Nat} {xs : List Value} (O : w.ownsRow B e size v n xs) {x : Value} {m : Nat} {news : List Value} (F : Reads w x m size news) (h1 : ∀ u ∈ news, u.oneCell' = true) (h63 : n + m ≤ 1000000000000) (hB : B ≤ w.heap.size) :
    ∃ v' w', (Builtin.append_ #[t, t] ty #[v, x]).run P w = .ok v' w' ∧ w'.ownsRow B e size v' (n + m) (xs ++ news) ∧ w'.ownsRow B e size v n xs ∧ Below B w w' ∧ w.grownBy w' v.ownBlock ∧ (v'.ownBlock = v.ownBlock ∨ v'.ownBlock = some w.heap.size) := by
  have hbm : (n + m) * i.bytes ≤ 140737488355328 := Nat.le_trans (Nat.mul_le_mul h63 hby) (by decide)
  have h63' : n + m ≤ maxLen := by unfold maxLen; omega
  obtain ⟨hl, A, c, rfl, hc, hm, hx⟩ := F
  cases A with
  | none =>
    have hm0 : m = 0 := by
      rcases Nat.eq_zero_or_pos m with h | h
      · exact h
      · have h0 : 0 < news.length := by rw [hl]; exact Nat.mul_pos h hsz
        obtain ⟨ad, e', _⟩ := hx 0 _ (List.getElem?_eq_getElem h0)
        cases e'
    subst hm0
    have hn : news = [] := List.eq_nil_of_length_eq_zero (by simpa using hl)
    subst hn
    have hs : Src P i.size t (.slice none 0 c) 0 [] w := Src.ofNil w ht c
    refine ⟨v, w, ?_, by simpa using O, O, Below.refl _ _, ⟨rfl, rfl, rfl, Nat.le_refl _, fun _ _ _ => rfl⟩, .inl rfl⟩
    rcases O.2 with ⟨rfl, rfl⟩ | ⟨g, cap, cur, rfl, hg, hh, hn, _⟩
    · exact run_append_nothing w t t ty e i ht hi none 0 0 (Nat.le_refl _) _ hs
    · exact run_append_nothing w t t ty e i ht hi _ n cap hn _ hs
  | some a =>
    have hx' : ∀ j u, news[j]? = some u → w.cell? (a.add j) = some u := fun j u h => by
      obtain ⟨ad, e', hcell⟩ := hx j u h
      injection e' with e'; subst e'; exact hcell
    obtain ⟨v', w', hr, h2, h3, h4, h5⟩ := run_append_own_at (P := P) w B t ty e i z size i.bytes ht hi hz hsize rfl hzs hsz v n xs O a m c news hl hx' h1 h63' hbm hB
    refine ⟨v', w', hr, h2, ?_, below_of_grown h3 hB (own_block O), h3, h5⟩
    subst hsize
    rcases O.2 with ⟨rfl, rfl⟩ | ⟨g, cap, cur, rfl, hbg, hg, hnc, hcm, hcs, htake⟩
    · have : xs = [] := List.eq_nil_of_length_eq_zero (by simpa using O.1)
      subst this; exact World.ownsRow_nil w' B e i.size
    · by_cases hroom : n + m ≤ cap
      · have hfit : n * i.size + news.length ≤ cur.size := by rw [hl, hcs, ← Nat.add_mul]; exact Nat.mul_le_mul_right _ hroom
        have hr' := run_append_room (P := P) w t ty e i ht hi g n cap cur hg a m c news hl hx' h1 hroom hfit
        rw [hr'] at hr
        injection hr with _ hw
        subst hw
        refine ⟨O.1, .inr ⟨g, cap, _, rfl, hbg, setRow_heap w g cur _ e _ hg, hnc, hcm, ?_, ?_⟩⟩
        · simp only [List.size_toArray, List.length_append, List.length_take, List.length_drop, Array.length_toList]
          omega
        · simp only [List.append_assoc]
          rw [List.take_append_of_le_length (by rw [List.length_take, Array.length_toList]; omega), List.take_take, Nat.min_self]
          exact htake
      · have holds : ∀ j u, xs[j]? = some u → w.cell? ((⟨g, 0, none⟩ : Addr).add j) = some u := O.cells (g := g) rfl
        have hr' := run_append_grow (P := P) w t ty e i z ht hi hz ⟨g, 0, none⟩ n cap xs O.1 holds a m c news hl hx' (by omega) (by omega) (growslice_fits (by omega) hbm)
        rw [hr'] at hr
        injection hr with _ hw
        subst hw
        refine ⟨O.1, .inr ⟨g, cap, cur, rfl, hbg, ?_, hnc, hcm, hcs, htake⟩⟩
        exact (heap_alloc_old w.drew _ (by simpa using (Array.getElem?_eq_some_iff.1 hg).1)).trans hg
theorem Reads.len_le {w : World} {v : Value} {n size : Nat} {xs : List Value} (F : Reads w v n size xs) : n ≤ 9223372036854775807 := by
  obtain ⟨_, A, c, _, h, hm, _⟩ := F
  unfold maxLen at hm; omega
def cutVal (v : Value) (l h size : Nat) : Value := match v with | .slice A n c => .slice (if c = l then A else A.map (·.add (l * size))) (h - l) (c - l) | _ => undef
theorem Reads.cutv {w : World} {v : Value} {n size : Nat} {xs : List Value} (F : Reads w v n size xs) {l h : Nat} (hl : l ≤ h) (hh : h ≤ n) : Reads w (cutVal v l h size) (h - l) size ((xs.drop (l * size)).take ((h - l) * size)) := by
  obtain ⟨A, c, rfl⟩ : ∃ A c, v = .slice A n c := ⟨F.2.choose, F.2.choose_spec.choose, F.2.choose_spec.choose_spec.1⟩
  exact F.cut hl hh A c rfl
inductive Tl where
  | still (p : Value → Prop)
  | own (B : Nat) (e : TypeId) (size n : Nat) (xs : List Value)
def Tl.holds : Tl → Value → World → Prop
  | .still p, v, _ => p v
  | .own B e size n xs, v, w => w.ownsRow B e size v n xs
def Tl.isStill : Tl → Bool
  | .still _ => true
  | _ => false
def tell (L : List Tl) (i : Nat) (v : Value) (w : World) : Prop := (L.getD i (.still fun _ => True)).holds v w
theorem tell_stable (L : List Tl) : ∀ i v w w', tell L i v w → Below w.heap.size w w' → tell L i v w' := by
  intro i v w w' h hb
  unfold tell at h ⊢
  cases hq : L.getD i (.still fun _ => True) with
  | still p => rw [hq] at h; exact h
  | own B e size n xs => rw [hq] at h; exact own_below h hb
theorem no_stores {ks : List Kind} (h : (ks.all fun x => match x with | .store _ _ => false | _ => true) = true) : ∀ i j cs, ks.getD i .plain ≠ .store j cs := by
  intro i j cs hn
  rcases Nat.lt_or_ge i ks.length with hl | hl
  · rw [List.getD_eq_getElem?_getD, List.getElem?_eq_getElem hl] at hn
    simp only [Option.getD_some] at hn
    have := List.all_eq_true.1 h _ (List.getElem_mem hl)
    rw [hn] at this
    simp at this
  · rw [List.getD_eq_getElem?_getD, List.getElem?_eq_none hl] at hn; cases hn
theorem no_allocs {ks : List Kind} (h : (ks.all fun x => match x with | .alloc _ _ => false | _ => true) = true) : ∀ j T c, ks.getD j .plain ≠ .alloc T c := by
  intro i j cs hn
  rcases Nat.lt_or_ge i ks.length with hl | hl
  · rw [List.getD_eq_getElem?_getD, List.getElem?_eq_getElem hl] at hn
    simp only [Option.getD_some] at hn
    have := List.all_eq_true.1 h _ (List.getElem_mem hl)
    rw [hn] at this
    simp at this
  · rw [List.getD_eq_getElem?_getD, List.getElem?_eq_none hl] at hn; cases hn
section duties
variable {ops : Array Oper} {Q : Exit → Act → World → Prop} {D : Nat → Value → World → Prop} {k : Nat → Kind} {a0 : Act} {w0 : World} {m i : Nat} {o : Oper}
theorem own_mono {w : World} {B B' : Nat} {e : TypeId} {v : Value} {n size : Nat} {xs : List Value} (O : w.ownsRow B e size v n xs) (h : B' ≤ B) : w.ownsRow B' e size v n xs := by
  refine ⟨O.1, ?_⟩
  rcases O.2 with h2 | ⟨g, cap, cur, e1, hg, r⟩
  · exact .inl h2
  · exact .inr ⟨g, cap, cur, e1, by omega, r⟩
theorem val_own {a : Act} {w w1 : World} {v : Value} (hrun : (execOp a.eval o).run P w = .ok (.value v) w1) (hB : Below w.heap.size w w1) (h : D i v w1) : o.wp P a w (fun a' w' => ∃ v, a' = a.put o.dst v ∧ (o.dst ≠ none → D i v w') ∧ Below w.heap.size w w') Q := by
  unfold Oper.wp
  rw [hrun]
  exact ⟨v, rfl, fun _ => h, hB⟩
theorem val_ex {a : Act} {w : World} {R : Value → World → Prop} (hrun : ∃ v w1, (execOp a.eval o).run P w = .ok (.value v) w1 ∧ R v w1) (h : ∀ v w1, R v w1 → Below w.heap.size w w1 ∧ D i v w1) : o.wp P a w (fun a' w' => ∃ v, a' = a.put o.dst v ∧ (o.dst ≠ none → D i v w') ∧ Below w.heap.size w w') Q := by
  obtain ⟨v, w1, hr, hR⟩ := hrun
  exact val_own hr (h v w1 hR).1 (h v w1 hR).2
theorem ex_mono {A R S : Value → World → Prop} (h : ∃ v w, A v w ∧ R v w) (hm : ∀ v w, R v w → S v w) : ∃ v w, A v w ∧ S v w := by
  obtain ⟨v, w, h1, h2⟩ := h
  exact ⟨v, w, h1, hm v w h2⟩
theorem eats {L : List Tl} {B : Nat} {T : TypeId} {size n n' e d : Nat} {xs xs' : List Value} (hk : k i = .eats) (hg : o.guard = none) (hno : ∀ j T c, k j ≠ .alloc T c) (hb : bound o e = true) (hd : dstOf ops e = some d)
    (he : L.getD e (.still fun _ => True) = .own B T size n xs) (hi : L.getD i (.still fun _ => True) = .own B T size n' xs') (hL : ((List.range L.length).all fun j => j == e || j == i || (L.getD j (.still fun _ => True)).isStill) = true)
    (h : ∀ (a : Act) (w : World), At ops (tell L) a0 w0 i o a w → w.ownsRow B T size (a.eval (.tmp d)) n xs → ∃ v w', (execOp a.eval o).run P w = .ok (.value v) w' ∧ Below w0.heap.size w w' ∧ w'.ownsRow B T size v n' xs' ∧ w'.ownsRow B T size (a.eval (.tmp d)) n xs) : Duty P ops Q (tell L) k a0 w0 i o := by
  unfold Duty; rw [hk]
  refine ⟨hg, hno, fun a w hB hdep ho => ?_⟩
  have h0 : w.ownsRow B T size (a.eval (.tmp d)) n xs := by
    have := hdep e d hb hd
    unfold tell at this; rw [he] at this; exact this
  obtain ⟨v, w', hr, h1, h2, h3⟩ := h a w ⟨hB, fun j d hb hd => hdep j d hb hd, ho⟩ h0
  unfold Oper.wp
  rw [hr]
  refine ⟨v, rfl, fun _ => ?_, h1, fun j d' hj hjd hD => ?_⟩
  · unfold tell; rw [hi]; exact h2
  · by_cases hje : j = e
    · subst hje
      rw [hd] at hjd; injection hjd with hjd; subst hjd
      unfold tell; rw [he]; exact h3
    · unfold tell at hD ⊢
      rcases Nat.lt_or_ge j L.length with hl | hl
      · have := all_range.1 hL j hl
        simp only [Bool.or_eq_true, beq_iff_eq, hje, hj, false_or] at this
        cases hq : L.getD j (.still fun _ => True) with
        | still p => rw [hq] at hD; exact hD
        | own B e size n xs => rw [hq] at this; cases this
      · have hq : L.getD j (.still fun _ => True) = .still fun _ => True := by rw [List.getD_eq_getElem?_getD, List.getElem?_eq_none hl]; rfl
        rw [hq]; trivial
end duties
section runs
variable {o : Oper} {a : Act} {w : World}
theorem run_append {B : Nat} {t e : TypeId} {i : TypeInfo} {z : Value} {size : Nat} {s x : Operand} (hop : o.op = .call { callee := .builtin .append, args := #[s, x], argTypes := #[t, t] })
    (ht : P.underlying t = some (.slice e)) (hi : P.info? e = some i) (hz : i.zero = some z) (hsize : i.size = size) (hby : i.bytes ≤ 128) (hzs : z.cells.size = size) (hsz : 0 < size)
    {v xv : Value} {n : Nat} {xs : List Value} (hs : a.eval s = v) (O : w.ownsRow B e size v n xs) (hx : a.eval x = xv) {m : Nat} {news : List Value} (F : Reads w xv m size news) (h1 : ∀ u ∈ news, u.oneCell' = true) (h63 : n + m ≤ 1000000000000) (hB : B ≤ w.heap.size) :
    ∃ v' w', (execOp a.eval o).run P w = .ok (.value v') w' ∧ w'.ownsRow B e size v' (n + m) (xs ++ news) ∧ w'.ownsRow B e size v n xs ∧ Below B w w' ∧ w.grownBy w' v.ownBlock ∧ (v'.ownBlock = v.ownBlock ∨ v'.ownBlock = some w.heap.size) := by
  obtain ⟨v', w', hr, h⟩ := own_append (P := P) (ty := o.type) ht hi hz hsize hby hzs hsz O F h1 h63 hB
  refine ⟨v', w', ?_, h⟩
  unfold execOp
  simp only [hop, resolve, invoke, builtin, Sem.run_bind, Sem.run_pure, Result.andThen_ok, List.map_toArray, List.map_cons, List.map_nil, hs, hx, hr]
theorem run_build1 {T e : TypeId} {i : TypeInfo} {z : Value} {x : Operand} {u : Value} {size : Nat} (us : List Value) (hop : o.op = .buildSlice T 1 #[(0, x)]) (hu : P.underlying T = some (.slice e)) (hi : P.info? e = some i) (hz : i.zero = some z) (hsize : i.size = size) (hs : (decide (0 < size)) = true) (hs' : (decide (size < 1000)) = true)
    (hl : us.length = size) (hf : Instr.fill (fun i => some (i * size, size)) ((Array.range (1 * size)).map (z.cells[· % z.cells.size]!)) [(0, u)] = some us.toArray) (h : a.eval x = u) :
    ∃ v w', (execOp a.eval o).run P w = .ok (.value v) w' ∧ Reads w' v 1 size us ∧ Below w.heap.size w w' := by
  have hs := of_decide_eq_true hs
  have hs' := of_decide_eq_true hs'
  subst hsize
  have hr := run_buildSlice (P := P) w T e 1 #[(0, u)] us.toArray i z hu hi hz (by omega) (by omega) hf
  refine ⟨_, _, ?_, ⟨by omega, some ⟨w.heap.size, 0, none⟩, 1, rfl, Nat.le_refl _, by unfold maxLen; omega, fun j u hj => ⟨_, rfl, ?_⟩⟩, (Below.refl _ _).alloc (Nat.le_refl _) (.cells us.toArray e)⟩
  · unfold execOp
    simp only [hop, List.map_toArray, List.map_cons, List.map_nil, h, Sem.run_bind, hr, Result.andThen_ok]
    rfl
  · have hadd : (⟨w.heap.size, 0, none⟩ : Addr).add j = ⟨w.heap.size, j, none⟩ := by unfold Addr.add; split <;> simp_all
    rw [hadd]
    unfold World.cell?
    have : (w.alloc (.cells us.toArray e)).heap[w.heap.size]? = some (.cells us.toArray e) := by show (w.heap.push _)[w.heap.size]? = _; simp
    rw [this]
    simpa using hj
theorem run_cutv {v : Value} {n size : Nat} {xs : List Value} {T e : TypeId} {x : Operand} {lo hi : Option Operand} {l h : Nat} {L H : Option Value} (hop : o.op = .slice T x lo hi none) (hu : P.underlying T = some (.slice e)) (hsz : (P.info? e).map (·.size) = some size) (hx : a.eval x = v) (F : Reads w v n size xs)
    (hlo : lo.map a.eval = L) (hhi : hi.map a.eval = H) (hL : L = none ∧ l = 0 ∨ ∃ k, L = some (.int k (l : Int))) (hH : H = none ∧ h = n ∨ ∃ k, H = some (.int k (h : Int))) (hl : l ≤ h) (hh : h ≤ n) :
    (execOp a.eval o).run P w = .ok (.value (cutVal v l h size)) w := by
  obtain ⟨A, c, hv, hc, hm⟩ := (⟨F.2.choose, F.2.choose_spec.choose, F.2.choose_spec.choose_spec.1, F.2.choose_spec.choose_spec.2.1, F.2.choose_spec.choose_spec.2.2.1⟩ : ∃ A c, v = .slice A n c ∧ n ≤ c ∧ c ≤ maxLen)
  rw [hv]; simp only [cutVal]
  rw [hv] at hx
  cases hq : P.info? e with
  | none => simp [hq] at hsz
  | some i =>
    have hs : i.size = size := by simpa [hq] using hsz
    unfold execOp; rw [hop]
    simp only [hx, hlo, hhi, Option.map_none, Instr.sliceAt, Instr.slice, Sem.run_bind, run_underlying hu, Result.andThen_ok]
    have hb : (Instr.sliceBounds true n c L H none).run P w = .ok (l, h, c) w := by
      unfold Instr.sliceBounds
      have s1 : ∀ (k : IntKind) (y : Nat) (code : BoundsCode), h ≤ y → (Instr.sliceBound (.int k (h : Int)) y code).run P w = .ok h w := fun k y code hy => by
        unfold Instr.sliceBound
        simp [Sem.run_bind, asIntOf, Sem.run_pure]
        exact fun hlt => absurd hlt (by omega)
      have s2 : ∀ (k : IntKind) (y : Nat) (code : BoundsCode), l ≤ y → (Instr.sliceBound (.int k (l : Int)) y code).run P w = .ok l w := fun k y code hy => by
        unfold Instr.sliceBound
        simp [Sem.run_bind, asIntOf, Sem.run_pure]
        exact fun hlt => absurd hlt (by omega)
      rcases hL with ⟨rfl, rfl⟩ | ⟨k, rfl⟩ <;> rcases hH with ⟨rfl, rfl⟩ | ⟨k', rfl⟩ <;>
        simp [Sem.run_bind, Sem.run_pure, s1 _ _ _ (by omega : h ≤ c), s2 _ _ _ hl]
    simp [Sem.run_bind, Sem.run_pure, hb, sizeOf, typeInfo, hq, hs, run_underlying hu]
theorem info_of {e : TypeId} {size : Nat} {z : Value} (hI : (P.info? e).map (fun i => (i.size, decide (i.bytes ≤ 128), i.zero)) = some (size, true, some z)) : ∃ i, P.info? e = some i ∧ i.size = size ∧ i.bytes ≤ 128 ∧ i.zero = some z := by
  cases hq : P.info? e with
  | none => simp [hq] at hI
  | some i =>
    simp [hq] at hI
    exact ⟨i, rfl, hI.1, hI.2.1, hI.2.2⟩
theorem run_appendI {B : Nat} {t e : TypeId} {z : Value} {size : Nat} {s x : Operand} (hop : o.op = .call { callee := .builtin .append, args := #[s, x], argTypes := #[t, t] })
    (ht : P.underlying t = some (.slice e)) (hI : (P.info? e).map (fun i => (i.size, decide (i.bytes ≤ 128), i.zero)) = some (size, true, some z)) (hzs : z.cells.size = size) (hsz : (decide (0 < size)) = true)
    {v xv : Value} {n : Nat} {xs : List Value} (hs : a.eval s = v) (O : w.ownsRow B e size v n xs) (hx : a.eval x = xv) {m : Nat} {news : List Value} (F : Reads w xv m size news) (h1 : ∀ u ∈ news, u.oneCell' = true) (h63 : n + m ≤ 1000000000000) (hB : B ≤ w.heap.size) :
    ∃ v' w', (execOp a.eval o).run P w = .ok (.value v') w' ∧ w'.ownsRow B e size v' (n + m) (xs ++ news) ∧ w'.ownsRow B e size v n xs ∧ Below B w w' ∧ w.grownBy w' v.ownBlock ∧ (v'.ownBlock = v.ownBlock ∨ v'.ownBlock = some w.heap.size) := by
  obtain ⟨i, h1', h2, h3, h4⟩ := info_of hI
  exact run_append hop ht h1' h4 h2 h3 hzs (of_decide_eq_true hsz) hs O hx F h1 h63 hB
theorem run_build1I {T e : TypeId} {z : Value} {x : Operand} {u : Value} {size : Nat} (us : List Value) (hop : o.op = .buildSlice T 1 #[(0, x)]) (hu : P.underlying T = some (.slice e)) (hI : (P.info? e).map (fun i => (i.size, decide (i.bytes ≤ 128), i.zero)) = some (size, true, some z)) (hs : (decide (0 < size)) = true) (hs' : (decide (size < 1000)) = true)
    (hl : us.length = size) (hf : Instr.fill (fun i => some (i * size, size)) ((Array.range (1 * size)).map (z.cells[· % z.cells.size]!)) [(0, u)] = some us.toArray) (h : a.eval x = u) :
    ∃ v w', (execOp a.eval o).run P w = .ok (.value v) w' ∧ Reads w' v 1 size us ∧ Below w.heap.size w w' := by
  obtain ⟨i, h1', h2, h3, h4⟩ := info_of hI
  exact run_build1 us hop hu h1' h4 h2 hs hs' hl hf h
theorem tail_ex {c d n i : Nat} {o : Oper} {Q : Exit → Act → World → Prop} {ops : Array Oper} {R : Value → World → Prop} {os : List Oper} (ho' : ops.toList.drop i = o :: os) (hg : o.guard = none) (hd : o.dst = some d) (hrun : ∃ v w1, (execOp a.eval o).run P w = .ok (.value v) w1 ∧ R v w1) (hn : a.tmps.size = n) (hlt : decide (d < n) = true)
    (h : ∀ (v : Value) (w1 : World) (a' : Act), R v w1 → a'.defers = a.defers → a'.tmps.size = n → a'.eval (.tmp d) = v → (∀ t, (t != d) = true → a'.eval (.tmp t) = a.eval (.tmp t)) → wpOps P ops Q (List.range' (i + 1) c) a' w1) : wpOps P ops Q (List.range' i (c + 1)) a w := by
  obtain ⟨v, w1, hr, hR⟩ := hrun
  exact tail_val ho' hg hd hr hn hlt fun a' => h v w1 a' hR
theorem regionT {id n : Nat} {Q : Exit → Act → World → Prop} {ops : Array Oper} (hn : ops.size = n) (h : wpOps P ops Q (List.range' 0 n) a w) : (Code.region id ops false).wp P Q a w := by
  refine wp_region ?_
  rw [hn, List.range_eq_range']; exact h
end runs
end Go.Proofs.Eng
end
section
namespace Go.Proofs.YthgafcaoibfchaaDoor.X
open Go.RowKit Go.Shelf Go.Proofs Go.Proofs.YthgafcaoibfchaaDoorW.PrintWords Go.Proofs.YthgafcaoibfchaaDoorW.PrintLast Go.Proofs.YthgafcaoibfchaaDoorW.PrintMore
set_option linter.unusedVariables false
set_option linter.unusedSimpArgs false
namespace Lat
abbrev Lb := Int × Int
def jn (x y : Lb) : Lb := (mx x.1 y.1, Go.bits .or .u64 x.2 y.2)
def allL (l : List Lb) : Lb := l.foldl jn (0, 0)
def ok (x : Lb) : Prop := 0 ≤ x.1 ∧ 0 ≤ x.2 ∧ x.2 ≤ 18446744073709551615
theorem bits_range (A : BitVec 64) : (0 : Int) ≤ (A.toNat : Int) ∧ (A.toNat : Int) ≤ 18446744073709551615 := by have := A.isLt; omega
theorem jn_ok {x y : Lb} (hx : ok x) (hy : ok y) : ok (jn x y) := by
  refine ⟨?_, ?_⟩
  · have := (mx_le x.1 y.1 (mx x.1 y.1)).1 (Int.le_refl _)
    have := hx.1
    show 0 ≤ mx x.1 y.1
    omega
  · show 0 ≤ Go.bits .or .u64 x.2 y.2 ∧ _
    rw [show (jn x y).2 = Go.bits .or .u64 x.2 y.2 from rfl, bits_or]; exact bits_range _
theorem mx_comm (a b : Int) : mx a b = mx b a := by unfold mx; split <;> split <;> omega
theorem mx_assoc (a b c : Int) : mx (mx a b) c = mx a (mx b c) := by
  unfold mx
  by_cases h1 : a < b <;> by_cases h2 : b < c <;> by_cases h3 : a < c <;> simp only [h1, h2, h3, if_true, if_false] <;> omega
theorem jn_comm (x y : Lb) : jn x y = jn y x := by unfold jn; rw [mx_comm, bits_or, bits_or, BitVec.or_comm]
theorem jn_assoc (x y z : Lb) : jn (jn x y) z = jn x (jn y z) := by
  unfold jn; simp only
  rw [mx_assoc, bits_or (Go.bits .or .u64 x.2 y.2), bits_or x.2 (Go.bits .or .u64 y.2 z.2), bv_or, bv_or, BitVec.or_assoc]
theorem zero_jn {x : Lb} (h : ok x) : jn (0, 0) x = x := by
  unfold jn
  have e1 : mx 0 x.1 = x.1 := by have := h.1; unfold mx; split <;> omega
  have e2 : Go.bits .or .u64 0 x.2 = x.2 := by
    rw [bits_or]
    have : bv 0 = 0#64 := rfl
    rw [this, BitVec.zero_or, bv_toNat h.2.1 h.2.2]
  simp only [e1, e2]
theorem zero_ok : ok (0, 0) := ⟨by decide, by decide, by decide⟩
theorem foldl_ok : ∀ (l : List Lb) (a : Lb), (∀ x ∈ l, ok x) → ok a → ok (l.foldl jn a)
  | [], a, _, h => h
  | x :: l, a, hl, h => foldl_ok l (jn a x) (fun y hy => hl y (List.mem_cons_of_mem _ hy)) (jn_ok h (hl x List.mem_cons_self))
theorem foldl_jn : ∀ (l : List Lb) (a : Lb), (∀ x ∈ l, ok x) → ok a → l.foldl jn a = jn a (allL l)
  | [], a, _, h => by show a = jn a (0, 0); rw [jn_comm, zero_jn h]
  | x :: l, a, hl, h => by
    have hx := hl x List.mem_cons_self
    have ht : ∀ y ∈ l, ok y := fun y hy => hl y (List.mem_cons_of_mem _ hy)
    unfold allL
    rw [List.foldl_cons, List.foldl_cons, foldl_jn l _ ht (jn_ok h hx), foldl_jn l _ ht (jn_ok zero_ok hx), zero_jn hx, jn_assoc]
theorem allL_ok {l : List Lb} (h : ∀ x ∈ l, ok x) : ok (allL l) := foldl_ok l _ h zero_ok
theorem allL_append {l r : List Lb} (hl : ∀ x ∈ l, ok x) (hr : ∀ x ∈ r, ok x) : allL (l ++ r) = jn (allL l) (allL r) := by
  show (l ++ r).foldl jn (0, 0) = _
  rw [List.foldl_append]
  exact foldl_jn r _ hr (allL_ok hl)
theorem allL_turn {l : List Lb} (h : ∀ x ∈ l, ok x) (k : Nat) : allL (l.drop k ++ l.take k) = allL l := by
  have ht : ∀ x ∈ l.take k, ok x := fun x hx => h x (List.mem_of_mem_take hx)
  have hd : ∀ x ∈ l.drop k, ok x := fun x hx => h x (List.mem_of_mem_drop hx)
  rw [allL_append hd ht, jn_comm, ← allL_append ht hd, List.take_append_drop]
theorem allL_cut {l : List Lb} (h : ∀ x ∈ l, ok x) (k : Nat) : jn (allL (l.take k)) (allL (l.drop k)) = allL l := by
  rw [← allL_append (fun x hx => h x (List.mem_of_mem_take hx)) (fun x hx => h x (List.mem_of_mem_drop hx)), List.take_append_drop]
theorem ov_jn (c x y : Lb) : ov c.1 c.2 (jn x y).1 (jn x y).2 = (ov c.1 c.2 x.1 x.2 && ov c.1 c.2 y.1 y.2) := ov_join _ _ _ _ _ _
theorem ov_all {l : List Lb} (h : ∀ x ∈ l, ok x) {x : Lb} (hx : x ∈ l) : ov (allL l).1 (allL l).2 x.1 x.2 = true := by
  obtain ⟨s, t, rfl⟩ := List.append_of_mem hx
  have hs : ∀ y ∈ s, ok y := fun y hy => h y (by simp [hy])
  have ht : ∀ y ∈ x :: t, ok y := fun y hy => h y (List.mem_append_right _ hy)
  have ht2 : ∀ y ∈ t, ok y := fun y hy => ht y (List.mem_cons_of_mem _ hy)
  have h1 : allL (x :: t) = jn x (allL t) := by
    show (x :: t).foldl jn (0, 0) = _
    rw [List.foldl_cons, foldl_jn t _ ht2 (jn_ok zero_ok (ht x List.mem_cons_self)), zero_jn (ht x List.mem_cons_self)]
  have h2 : ov (allL (s ++ x :: t)).1 (allL (s ++ x :: t)).2 (allL (s ++ x :: t)).1 (allL (s ++ x :: t)).2 = true := ov_refl _ _
  generalize hg : allL (s ++ x :: t) = g at h2 ⊢
  have h3 : g = jn (allL s) (jn x (allL t)) := by rw [← hg, allL_append hs ht, h1]
  have h4 : ov g.1 g.2 (jn (allL s) (jn x (allL t))).1 (jn (allL s) (jn x (allL t))).2 = true := by rw [← h3]; exact h2
  rw [ov_jn, ov_jn, Bool.and_eq_true, Bool.and_eq_true] at h4
  exact h4.2.1
def cellsL (l : List Lb) : List Value := l.flatMap fun x => [.int .i64 x.1, .int .u64 x.2]
theorem cellsL_len (l : List Lb) : (cellsL l).length = l.length * 2 := by
  induction l with
  | nil => rfl
  | cons x l ih => show ([_, _] ++ cellsL l).length = _; rw [List.length_append, ih]; simp; omega
theorem cellsL_append (l r : List Lb) : cellsL (l ++ r) = cellsL l ++ cellsL r := List.flatMap_append
theorem cellsL_drop : ∀ (l : List Lb) (k : Nat), (cellsL l).drop (k * 2) = cellsL (l.drop k)
  | l, 0 => by simp
  | [], k + 1 => by simp [cellsL]
  | x :: l, k + 1 => by
    rw [show (k + 1) * 2 = k * 2 + 2 by omega]
    show ([_, _] ++ cellsL l).drop (k * 2 + 2) = cellsL (l.drop k)
    exact cellsL_drop l k
theorem cellsL_take : ∀ (l : List Lb) (k : Nat), (cellsL l).take (k * 2) = cellsL (l.take k)
  | l, 0 => by simp [cellsL]
  | [], k + 1 => by simp [cellsL]
  | x :: l, k + 1 => by
    rw [show (k + 1) * 2 = k * 2 + 2 by omega]
    show (.int .i64 x.1 :: .int .u64 x.2 :: cellsL l).take (k * 2 + 2) = .int .i64 x.1 :: .int .u64 x.2 :: cellsL (l.take k)
    simp only [List.take_succ_cons, cellsL_take l k]
theorem cells_at (l : List Lb) (k : Nat) (h : k < l.length) : ((cellsL l).drop (k * 2)).take 2 = [.int .i64 (l.getD k default).1, .int .u64 (l.getD k default).2] := by
  rw [cellsL_drop, List.getD_eq_getElem?_getD, List.getElem?_eq_getElem h, List.drop_eq_getElem_cons h]
  rfl
theorem cells_one (l : List Lb) : ∀ u ∈ cellsL l, u.oneCell' = true := by
  intro u hu
  obtain ⟨x, _, hx⟩ := List.mem_flatMap.1 hu
  simp at hx
  rcases hx with rfl | rfl <;> rfl
theorem cut_reads {w : World} {v : Value} {l : List Lb} (F : Eng.Reads w v l.length 2 (cellsL l)) {a b : Nat} (hab : a ≤ b) (hb : b ≤ l.length) : Eng.Reads w (Eng.cutVal v a b 2) ((l.drop a).take (b - a)).length 2 (cellsL ((l.drop a).take (b - a))) := by
  have h := F.cutv hab hb
  rw [cellsL_drop, cellsL_take] at h
  have hl : ((l.drop a).take (b - a)).length = b - a := by rw [List.length_take, List.length_drop]; omega
  rw [hl]; exact h
theorem own_cat {w : World} {B : Nat} {e : TypeId} {v : Value} {l r : List Lb} (O : w.ownsRow B e 2 v (l.length + r.length) (cellsL l ++ cellsL r)) : w.ownsRow B e 2 v (l ++ r).length (cellsL (l ++ r)) := by
  rw [List.length_append, cellsL_append]; exact O
theorem own_nil_cat {w : World} {B : Nat} {e : TypeId} {v : Value} {l : List Lb} (O : w.ownsRow B e 2 v (0 + l.length) ([] ++ cellsL l)) : w.ownsRow B e 2 v l.length (cellsL l) := by
  rw [Nat.zero_add, List.nil_append] at O; exact O
theorem take_one {l : List Lb} {k : Nat} (h : k < l.length) : l.take (k + 1) = l.take k ++ [l.getD k default] := by
  rw [List.take_add_one, List.getD_eq_getElem?_getD, List.getElem?_eq_getElem h]; rfl
theorem allL_take {l : List Lb} {k : Nat} (h : k < l.length) : allL (l.take (k + 1)) = jn (allL (l.take k)) (l.getD k default) := by
  unfold allL
  rw [take_one h, List.foldl_append]; rfl
theorem getD_mem {l : List Lb} {k : Nat} (h : k < l.length) : l.getD k default ∈ l := by
  rw [List.getD_eq_getElem?_getD, List.getElem?_eq_getElem h]; exact List.getElem_mem h
theorem take_lv {l : List Lb} {k : Nat} (h : k < l.length) (hl : ∀ x ∈ List.take k l, 0 ≤ x.1) (h0 : 0 ≤ (l.getD k default).1) : ∀ x ∈ List.take (k + 1) l, 0 ≤ x.1 := by
  intro x hx
  rw [take_one h] at hx
  rcases List.mem_append.1 hx with h | h
  · exact hl x h
  · have : x = l.getD k default := by simpa using h
    rw [this]; exact h0
theorem take_hi (l : List Lb) (K : Nat) : List.take (l.length - K) (List.drop K l) = l.drop K := List.take_of_length_le (by simp)
theorem take_lo (l : List Lb) (K : Nat) : List.take (K - 0) (List.drop 0 l) = l.take K := by simp
theorem tmod_nat {x : Int} {n : Nat} (h : 0 ≤ x) : Int.tmod x ((n : Nat) : Int) = ((x.toNat % n : Nat) : Int) := by
  obtain ⟨m, rfl⟩ := Int.eq_ofNat_of_zero_le h
  rfl
theorem all_fin {l : List Lb} (h : ∀ x ∈ l, ok x) (K : Nat) : (((allL (l.drop K ++ l.take K)).1 == (allL l).1 && ((allL (l.drop K ++ l.take K)).2 == (allL l).2)) && (mx (allL (l.take K)).1 (allL (l.drop K)).1 == (allL l).1 && (Go.bits .or .u64 (allL (l.take K)).2 (allL (l.drop K)).2 == (allL l).2)) && ((0 : Int) == 0 && ((0 : Int) == 0))) = true := by
  have e2 := allL_cut h K
  have e3 : mx (allL (l.take K)).1 (allL (l.drop K)).1 = (allL l).1 := congrArg Prod.fst e2
  have e4 : Go.bits .or .u64 (allL (l.take K)).2 (allL (l.drop K)).2 = (allL l).2 := congrArg Prod.snd e2
  rw [allL_turn h, e3, e4]; simp
end Lat
end Go.Proofs.YthgafcaoibfchaaDoor.X
end
section
namespace Go.Proofs.YthgafcaoibfchaaDoor.X.Opn
open Go.ChangeShapes Go.WideShapes Go.RowKit Go.Joins Go.Deep
variable {H : Type} {enc : TypeId × Value → H} {w : World} {base : Nat} {spare : Nat → Bool} {held : Bool}
def iv : Value → Int | .int _ n => n | _ => 0
set_option maxRecDepth 100000 in
theorem cells26 : Tryd.prog.cellsOf 26 = 1 := by kernel_rfl
set_option maxRecDepth 100000 in
theorem open_labs {r : Reach} {b0 : Nat} {v : Value} {d : DataW H} {p : List MemPlace} (hv : Value.okWide Tryd.prog w r b0 39 v) (h : DataW.Trod enc Tryd.prog w base (fun _ => true) held 39 v d p) :
    ∃ l : List Lat.Lb, Eng.Reads w v l.length 2 (Lat.cellsL l) ∧ ∀ x ∈ l, 0 ≤ x.2 ∧ x.2 ≤ 18446744073709551615 := by
  obtain ⟨a0, len0, cap0, rfl⟩ := okWide_slice Tryd.underlying39 hv
  obtain ⟨fuel, hf⟩ := h
  have hf : DataW.trod enc Tryd.prog w base (fun _ => true) held fuel 39 [.slice a0 len0 cap0] = some (d, p) := hf
  rcases open_slice_pairs Tryd.underlying39 Tryd.underlying28 cells28 rfl rfl cells3 cells26 hf with ⟨h1, _⟩ | ⟨a, len, cap, m, n, V0, V1, D0, D1, P0, P1, h1, hb, hl, hm, hmm, _, hx⟩
  · injection h1 with h1
    rw [h1]
    exact ⟨[], Eng.Reads.nil w 2, fun x hx => by cases hx⟩
  · injection h1 with h1
    rw [h1]
    simp only [if_true] at hmm
    subst hmm
    have e0 : ∀ i, i < m → V0 i = .int .i64 (iv (V0 i)) := fun i hi => by
      obtain ⟨x, hx0, _, _⟩ := DataW.trod_int Tryd.underlying3 (hx i hi).2.2.1
      have : V0 i = .int .i64 x := by simpa using hx0
      rw [this]; rfl
    have e1 : ∀ i, i < m → V1 i = .int .u64 (iv (V1 i)) ∧ 0 ≤ iv (V1 i) ∧ iv (V1 i) ≤ 18446744073709551615 := fun i hi => by
      obtain ⟨x, hx0, _, hw⟩ := DataW.trod_int Tryd.underlying26 (hx i hi).2.2.2
      have : V1 i = .int .u64 x := by simpa using hx0
      rw [this]; exact ⟨rfl, wf_u64 hw⟩
    refine ⟨(List.range len).map fun i => (iv (V0 i), iv (V1 i)), ⟨Lat.cellsL_len _, some a, m, by simp, by simpa using hl, hm, fun j u hj => ⟨a, rfl, ?_⟩⟩, fun x hxm => ?_⟩
    · generalize hL : ((List.range len).map fun i => (iv (V0 i), iv (V1 i))) = L at hj
      have hLl : L.length = len := by rw [← hL]; simp
      have hjl := (List.getElem?_eq_some_iff.1 hj).1
      rw [Lat.cellsL_len, hLl] at hjl
      have hi : j / 2 < len := by omega
      have hat := Lat.cells_at L (j / 2) (by omega)
      have hg : L.getD (j / 2) default = (iv (V0 (j / 2)), iv (V1 (j / 2))) := by
        rw [← hL, List.getD_eq_getElem?_getD, List.getElem?_map, List.getElem?_range hi]; rfl
      rw [hg] at hat
      have hr : j % 2 = 0 ∨ j % 2 = 1 := by omega
      have hget : (Lat.cellsL L)[j]? = ([Value.int .i64 (iv (V0 (j / 2))), Value.int .u64 (iv (V1 (j / 2)))] : List Value)[j % 2]? := by
        rw [← hat, List.getElem?_take, if_pos (by omega), List.getElem?_drop]
        congr 1; omega
      rw [hget] at hj
      obtain ⟨c0, c1, _, _⟩ := hx (j / 2) (by omega)
      rcases hr with hr | hr
      · rw [hr] at hj
        have hu : u = .int .i64 (iv (V0 (j / 2))) := by simpa using hj.symm
        rw [hu, ← e0 _ (by omega), show j = j / 2 * 2 by omega, show j / 2 * 2 / 2 = j / 2 by omega]
        exact c0
      · rw [hr] at hj
        have hu : u = .int .u64 (iv (V1 (j / 2))) := by simpa using hj.symm
        rw [hu, ← (e1 _ (by omega)).1, show j = j / 2 * 2 + 1 by omega, show (j / 2 * 2 + 1) / 2 = j / 2 by omega]
        exact c1
    · obtain ⟨i, hi, rfl⟩ := List.mem_map.1 hxm
      exact (e1 i (by have := List.mem_range.1 hi; omega)).2
set_option maxRecDepth 100000 in
theorem open_u8 {r : Reach} {b0 : Nat} {v : Value} {d : DataW H} {p : List MemPlace} (hv : Value.okWide Tryd.prog w r b0 5 v) (h : DataW.Trod enc Tryd.prog w base spare held 5 v d p) : ∃ a : Int, v = .int .u8 a ∧ 0 ≤ a ∧ a ≤ 255 := by
  obtain ⟨n, rfl, _, _, hw⟩ := open_int Tryd.underlying5 hv h
  have : 0 ≤ n ∧ n ≤ 255 := by simpa [Lit.wf, IntKind.min, IntKind.max, IntKind.signed, IntKind.bits] using hw
  exact ⟨n, rfl, this⟩
end Go.Proofs.YthgafcaoibfchaaDoor.X.Opn
end
section
namespace Go.Proofs.YthgafcaoibfchaaDoor.X
open Go.RowKit Go.Shelf Go.Proofs Go.Proofs.YthgafcaoibfchaaDoorW.PrintWords Go.Proofs.YthgafcaoibfchaaDoorW.PrintLast Go.Proofs.YthgafcaoibfchaaDoorW.PrintMore
set_option linter.unusedVariables false
set_option linter.unusedSimpArgs false
namespace Lat
theorem eqA28 (d : Nat) (w : World) (x0 y0 : Int) (x1 y1 : Int) :
    (Op.equalIn (d + 2) 28 (.agg #[.int .i64 x0, .int .u64 x1]) (.agg #[.int .i64 y0, .int .u64 y1])).run Tryd.prog w = .ok (x0 == y0 && (x1 == y1)) w := by
  refine eqA_of Tryd.underlying28 (by kernel_rfl) ?_
  refine eqf_cons (by rfl) (by go_simp; rfl) (by go_simp; rfl) (by go_simp) ?_
  exact eqf_last (by rfl) (by go_simp; rfl) (by go_simp; rfl) (by go_simp)
end Lat
end Go.Proofs.YthgafcaoibfchaaDoor.X
end
section
namespace Go.Proofs.YthgafcaoibfchaaDoor.X
open Go.RowKit Go.Shelf Go.Proofs Go.Proofs.YthgafcaoibfchaaDoorW.PrintWords Go.Proofs.YthgafcaoibfchaaDoorW.PrintLast Go.Proofs.YthgafcaoibfchaaDoorW.PrintMore
set_option linter.unusedVariables false
set_option linter.unusedSimpArgs false
attribute [local go_sem] max2_int min2_int max_two min_two
set_option maxHeartbeats 4000000 in
set_option maxRecDepth 100000 in
theorem Lat.all_calls (v : Value) (l : List Lat.Lb) (w : World) (hF : Eng.Reads w v l.length 2 (Lat.cellsL l)) : Calls Tryd.prog 26 #[v] w fun e w' => e = .returned (.agg #[.int .i64 (Lat.allL l).1, .int .u64 (Lat.allL l).2]) ∧ Below w.heap.size w w' := by
  have hu30 := Tryd.underlying30
  have hu28 := Tryd.underlying28
  have hm := Eng.Reads.len_le hF
  refine Eng.enter Tryd.func26 rfl fun act0 d0 s0 v0 => ?_
  have s0 : act0.tmps.size = 16 := s0
  have h0_0 : act0.eval (.tmp 0) = v := v0 0 (by simp)
  clear v0
  have bl0 : Below w.heap.size w w := Below.refl _ _
  refine wp_seq ?_
  refine Eng.regionS (Eng.still [fun u_ => True]) (fun i => ([.alloc 30 #[.int .i64 0, .int .u64 0]] : List Eng.Kind).getD i .plain) 1 0 16 s0 rfl (by kernel_rfl) (Eng.still_stable _) (Or.inr (Eng.still_any _)) ?_ ?_
  · refine Eng.Steps.cons (fun _ => ?_) (Eng.Steps.nil)
    · refine Eng.made rfl (by simp) rfl (fun a w' hd ho => ?_) (fun _ _ => trivial)
      simp only [execOp]
      go_simp
  intro act1 w1 T
  have h0_1 : act1.eval (.tmp 0) = v := (T.rest 0 (by kernel_rfl)).trans h0_0
  have Fp_1 := Eng.Reads.below hF T.below
  obtain ⟨g2_1, h2_1, rg2_1, lg2_1_1, kg2_1_1⟩ := T.al 0 2 _ _ rfl rfl rfl (by kernel_rfl)
  have og2_1 : w.heap.size ≤ g2_1 := Nat.le_trans bl0.size rg2_1
  have d1 := T.defers.trans d0
  have s1 := T.size.trans s0
  have bl1 := bl0.trans (T.below.mono bl0.size)
  clear T
  refine Eng.tail_nil ?_
  show Code.wp Tryd.prog _ _ _ _
  refine wp_seq ?_
  refine wp_seq ?_
  refine Eng.regionS (Eng.still [fun u_ => u_ = v, fun u_ => u_ = .int .i64 ((l.length : Nat) : Int), fun u_ => u_ = .int .i64 0]) (fun i => ([.plain, .plain, .plain] : List Eng.Kind).getD i .plain) 3 0 16 s1 rfl (by kernel_rfl) (Eng.still_stable _) (Or.inr (Eng.still_any _)) ?_ ?_
  · refine Eng.Steps.cons (fun _ => ?_) (Eng.Steps.cons (fun _ => ?_) (Eng.Steps.cons (fun _ => ?_) (Eng.Steps.nil)))
    · refine Eng.plain rfl rfl fun a w' H => ?_
      exact Eng.val (w1 := w') (v := v) (Eng.run_move rfl ((H.kept 0 (by kernel_rfl)).trans h0_1)) (Below.refl _ _) rfl
    · refine Eng.plain rfl rfl fun a w' H => ?_
      refine Eng.val (w1 := w') (v := .int .i64 ((l.length : Nat) : Int)) ?_ (Below.refl _ _) rfl
      exact Eng.run_len_sl rfl Tryd.underlying40 (show a.eval (.tmp 5) = v from (H.dep 0 5 (by kernel_rfl) rfl)) (Eng.Reads.below Fp_1 H.below)
    · refine Eng.plain rfl rfl fun a w' H => ?_
      exact Eng.val (w1 := w') (v := .int .i64 0) (Eng.run_move rfl (rfl : a.eval (.const (.int .i64 0)) = .int .i64 0)) (Below.refl _ _) rfl
  intro act2 w2 T
  have h0_2 : act2.eval (.tmp 0) = v := (T.rest 0 (by kernel_rfl)).trans h0_1
  have h2_2 : act2.eval (.tmp 2) = .pointer (some ⟨g2_1, 0, none⟩) := (T.rest 2 (by kernel_rfl)).trans h2_1
  have kg2_1_2 := (T.below.block _ lg2_1_1).trans kg2_1_1
  have lg2_1_2 := Nat.lt_of_lt_of_le lg2_1_1 T.below.size
  have Fp_2 := Eng.Reads.below Fp_1 T.below
  have h5_2 : act2.eval (.tmp 5) = v := T.done 0 5 rfl rfl
  have h6_2 : act2.eval (.tmp 6) = .int .i64 ((l.length : Nat) : Int) := T.done 1 6 rfl rfl
  have h7_2 : act2.eval (.tmp 7) = .int .i64 0 := T.done 2 7 rfl rfl
  have d2 := T.defers.trans d1
  have s2 := T.size.trans s1
  have bl2 := bl1.trans (T.below.mono bl1.size)
  clear T
  refine Eng.tail_nil ?_
  show Code.wp Tryd.prog _ _ _ _
  refine wp_block ?_
  refine Eng.loopN (fun n a w' => ∃ (k : Nat), l.length - k = n ∧ k ≤ l.length ∧ a.defers = [] ∧ a.tmps.size = 16 ∧ Below w.heap.size w w' ∧ a.eval (.tmp 0) = v ∧ a.eval (.tmp 2) = .pointer (some ⟨g2_1, 0, none⟩) ∧ a.eval (.tmp 5) = v ∧ a.eval (.tmp 6) = .int .i64 ((l.length : Nat) : Int) ∧ a.eval (.tmp 7) = .int .i64 (k : Nat) ∧ w'.heap[g2_1]? = some (.cells (#[.int .i64 ((Lat.allL (l.take k)).1), .int .u64 ((Lat.allL (l.take k)).2)]) 30 (0, 0)) ∧ g2_1 < w'.heap.size) (n0 := l.length - 0) ?_ ?_
  · exact ⟨0, rfl, by omega, d2, s2, bl2, h0_2, h2_2, h5_2, h6_2, (h7_2.trans (by first | rfl | (congr 1; rw [Eng.i64_id (by omega) (by omega)]; omega) | (simp; done))), (kg2_1_2.trans (by first | rfl | (rw [Lat.allL_take hk0]; rfl))), lg2_1_2⟩
  rintro n act3 w3 ⟨k, rfl, hc0_3, d3, s3, bl3, h0_3, h2_3, h5_3, h6_3, h7_3, kg2_1_3, lg2_1_3⟩
  have Fp_3 := Eng.Reads.below hF bl3
  have hk1 := hc0_3
  refine wp_seq ?_
  obtain ⟨q8, Bq8⟩ : ∃ b : Bool, b = (decide ((k : Nat) < ((l.length : Nat) : Int))) := ⟨_, rfl⟩
  refine Eng.regionS (Eng.still [fun u_ => u_ = .bool q8]) (fun i => ([.plain] : List Eng.Kind).getD i .plain) 1 0 16 s3 rfl (by kernel_rfl) (Eng.still_stable _) (Or.inr (Eng.still_any _)) ?_ ?_
  · refine Eng.Steps.cons (fun _ => ?_) (Eng.Steps.nil)
    · refine Eng.plain rfl rfl fun a w' H => ?_
      refine Eng.val (w1 := w') (v := .bool (decide ((k : Nat) < ((l.length : Nat) : Int)))) ?_ (Below.refl _ _) (by show _ = Value.bool q8; rw [Bq8])
      have e0 : a.eval (.tmp 7) = .int .i64 (k : Nat) := ((H.kept 7 (by kernel_rfl)).trans h7_3)
      have e1 : a.eval (.tmp 6) = .int .i64 ((l.length : Nat) : Int) := ((H.kept 6 (by kernel_rfl)).trans h6_3)
      simp only [execOp, resolve, List.map_toArray, List.map_cons, List.map_nil, e0, e1]
      go_simp
      all_goals first | rfl | (simp; done) | (rw [Bool.eq_iff_iff]; simp; done) | omega | skip
  intro act4 w4 T
  have h0_4 : act4.eval (.tmp 0) = v := (T.rest 0 (by kernel_rfl)).trans h0_3
  have h2_4 : act4.eval (.tmp 2) = .pointer (some ⟨g2_1, 0, none⟩) := (T.rest 2 (by kernel_rfl)).trans h2_3
  have h5_4 : act4.eval (.tmp 5) = v := (T.rest 5 (by kernel_rfl)).trans h5_3
  have h6_4 : act4.eval (.tmp 6) = .int .i64 ((l.length : Nat) : Int) := (T.rest 6 (by kernel_rfl)).trans h6_3
  have h7_4 : act4.eval (.tmp 7) = .int .i64 (k : Nat) := (T.rest 7 (by kernel_rfl)).trans h7_3
  have kg2_1_4 := (T.below.block _ lg2_1_3).trans kg2_1_3
  have lg2_1_4 := Nat.lt_of_lt_of_le lg2_1_3 T.below.size
  have Fp_4 := Eng.Reads.below Fp_3 T.below
  have h8_4 : act4.eval (.tmp 8) = .bool q8 := T.done 0 8 rfl rfl
  have d4 := T.defers.trans d3
  have s4 := T.size.trans s3
  have bl4 := bl3.trans (T.below.mono bl3.size)
  clear T
  refine Eng.tail_nil ?_
  show Code.wp Tryd.prog _ _ _ _
  refine wp_seq ?_
  refine wp_cond_split h8_4 (fun hq => ?_) (fun hq => ?_)
  ·
    have kn5 := hq
    have c8 := Bq8.symm.trans hq
    clear hq
    have c8 := of_decide_eq_true c8
    have hk0 : k < l.length := by omega
    refine wp_skip ?_
    show Code.wp Tryd.prog _ _ _ _
    refine wp_seq ?_
    refine wp_block ?_
    refine wp_seq ?_
    refine Eng.regionS (Eng.still [fun u_ => u_ = Eng.elemPtr v (k * 2), fun u_ => u_ = .agg #[.int .i64 ((l.getD k default).1), .int .u64 ((l.getD k default).2)], fun u_ => True, fun u_ => True]) (fun i => ([.plain, .plain, .alloc 30 #[.int .i64 0, .int .u64 0], .store 2 #[.int .i64 ((l.getD k default).1), .int .u64 ((l.getD k default).2)]] : List Eng.Kind).getD i .plain) 4 0 16 s4 rfl (by kernel_rfl) (Eng.still_stable _) (Or.inr (Eng.still_any _)) ?_ ?_
    · refine Eng.Steps.cons (fun _ => ?_) (Eng.Steps.cons (fun _ => ?_) (Eng.Steps.cons (fun _ => ?_) (Eng.Steps.cons (fun _ => ?_) (Eng.Steps.nil))))
      · refine Eng.plain rfl rfl fun a w' H => ?_
        refine Eng.val (w1 := w') (v := Eng.elemPtr v (k * 2)) ?_ (Below.refl _ _) rfl
        exact Eng.run_index_sl rfl Tryd.underlying40 (by kernel_rfl) (show a.eval (.tmp 5) = v from ((H.kept 5 (by kernel_rfl)).trans h5_4)) ((show a.eval (.tmp 7) = .int .i64 (k : Nat) from ((H.kept 7 (by kernel_rfl)).trans h7_4)).trans (congrArg (Value.int _) (show (k : Nat) = ((k : Nat) : Int) from by omega))) (Eng.Reads.below Fp_4 H.below) (by omega) rfl
      · refine Eng.plain rfl rfl fun a w' H => ?_
        refine Eng.val (w1 := w') (v := .agg #[.int .i64 ((l.getD k default).1), .int .u64 ((l.getD k default).2)]) ?_ (Below.refl _ _) rfl
        exact Eng.run_load_els [.int .i64 ((l.getD k default).1), .int .u64 ((l.getD k default).2)] rfl (show a.eval (.tmp 9) = Eng.elemPtr v (k * 2) from (H.dep 0 9 (by kernel_rfl) rfl)) (Eng.Reads.below Fp_4 H.below) (Lat.cells_at l k (by omega)) rfl Tryd.underlying30 rfl (by kernel_rfl)
      · refine Eng.made rfl (by simp) rfl (fun a w' hd ho => ?_) (fun _ _ => trivial)
        simp only [execOp]
        go_simp
      · refine Eng.stored [.int .i64 ((l.getD k default).1), .int .u64 ((l.getD k default).2)] rfl rfl rfl (j := 2) (d := 4) (by kernel_rfl) rfl rfl (Eng.store_uniq (by kernel_rfl)) rfl rfl fun a w' g e hc hd ho => ?_
        have e0 : a.eval _ = .agg #[.int .i64 ((l.getD k default).1), .int .u64 ((l.getD k default).2)] := (hd 1 10 (by kernel_rfl) rfl)
        have z0 := (Eng.cells hc 0).trans rfl
        have z1 := (Eng.cells hc 1).trans rfl
        have f0 := Eng.unfrozen hc 0
        have f1 := Eng.unfrozen hc 1
        simp only [execOp, e, e0]
        go_simp
        rfl
    intro act6 w6 T
    have h0_6 : act6.eval (.tmp 0) = v := (T.rest 0 (by kernel_rfl)).trans h0_4
    have h2_6 : act6.eval (.tmp 2) = .pointer (some ⟨g2_1, 0, none⟩) := (T.rest 2 (by kernel_rfl)).trans h2_4
    have h5_6 : act6.eval (.tmp 5) = v := (T.rest 5 (by kernel_rfl)).trans h5_4
    have h6_6 : act6.eval (.tmp 6) = .int .i64 ((l.length : Nat) : Int) := (T.rest 6 (by kernel_rfl)).trans h6_4
    have h7_6 : act6.eval (.tmp 7) = .int .i64 (k : Nat) := (T.rest 7 (by kernel_rfl)).trans h7_4
    have h8_6 : act6.eval (.tmp 8) = .bool q8 := (T.rest 8 (by kernel_rfl)).trans h8_4
    have kg2_1_6 := (T.below.block _ lg2_1_4).trans kg2_1_4
    have lg2_1_6 := Nat.lt_of_lt_of_le lg2_1_4 T.below.size
    have Fp_6 := Eng.Reads.below Fp_4 T.below
    obtain ⟨g4_6, h4_6, rg4_6, lg4_6_6, kg4_6_6⟩ := T.st 2 4 3 _ _ _ rfl rfl rfl rfl rfl
    have og4_6 : w.heap.size ≤ g4_6 := Nat.le_trans bl4.size rg4_6
    have ne_g4_6_g2_1 : g2_1 ≠ g4_6 := fun e => Nat.lt_irrefl _ (Nat.lt_of_lt_of_le (e ▸ lg2_1_4) rg4_6)
    have d6 := T.defers.trans d4
    have s6 := T.size.trans s4
    have bl6 := bl4.trans (T.below.mono bl4.size)
    clear T
    refine Eng.tail_nil ?_
    show Code.wp Tryd.prog _ _ _ _
    refine Eng.regionS (Eng.still [fun u_ => u_ = .agg #[.int .i64 ((Lat.allL (l.take k)).1), .int .u64 ((Lat.allL (l.take k)).2)], fun u_ => u_ = .agg #[.int .i64 ((l.getD k default).1), .int .u64 ((l.getD k default).2)], fun u_ => u_ = .agg #[.int .i64 (mx ((Lat.allL (l.take k)).1) ((l.getD k default).1)), .int .u64 (Go.bits .or .u64 ((Lat.allL (l.take k)).2) ((l.getD k default).2))]]) (fun i => ([.plain, .plain, .plain] : List Eng.Kind).getD i .plain) 3 1 16 s6 rfl (by kernel_rfl) (Eng.still_stable _) (Or.inr (Eng.still_any _)) ?_ ?_
    · refine Eng.Steps.cons (fun _ => ?_) (Eng.Steps.cons (fun _ => ?_) (Eng.Steps.cons (fun _ => ?_) (Eng.Steps.cons (fun hlt => ?_) (Eng.Steps.nil))))
      · refine Eng.plain rfl rfl fun a w' H => ?_
        have kb := (H.below.block _ lg2_1_6).trans kg2_1_6
        have z0 : w'.cell? ⟨g2_1, 0, none⟩ = some (.int .i64 ((Lat.allL (l.take k)).1)) := (Eng.cells kb 0).trans rfl
        have z1 : w'.cell? ⟨g2_1, 1, none⟩ = some (.int .u64 ((Lat.allL (l.take k)).2)) := (Eng.cells kb 1).trans rfl
        refine Eng.val (w1 := w') (v := .agg #[.int .i64 ((Lat.allL (l.take k)).1), .int .u64 ((Lat.allL (l.take k)).2)]) ?_ (Below.refl _ _) rfl
        have e0 : a.eval (.tmp 2) = .pointer (some ⟨g2_1, 0, none⟩) := ((H.kept 2 (by kernel_rfl)).trans h2_6)
        simp only [execOp, resolve, List.map_toArray, List.map_cons, List.map_nil, e0]
        go_simp
        all_goals first | rfl | (simp; done) | (rw [Bool.eq_iff_iff]; simp; done) | omega | skip
      · refine Eng.plain rfl rfl fun a w' H => ?_
        have kb := (H.below.block _ lg4_6_6).trans kg4_6_6
        have z0 : w'.cell? ⟨g4_6, 0, none⟩ = some (.int .i64 ((l.getD k default).1)) := (Eng.cells kb 0).trans rfl
        have z1 : w'.cell? ⟨g4_6, 1, none⟩ = some (.int .u64 ((l.getD k default).2)) := (Eng.cells kb 1).trans rfl
        refine Eng.val (w1 := w') (v := .agg #[.int .i64 ((l.getD k default).1), .int .u64 ((l.getD k default).2)]) ?_ (Below.refl _ _) rfl
        have e0 : a.eval (.tmp 4) = .pointer (some ⟨g4_6, 0, none⟩) := ((H.kept 4 (by kernel_rfl)).trans h4_6)
        simp only [execOp, resolve, List.map_toArray, List.map_cons, List.map_nil, e0]
        go_simp
        all_goals first | rfl | (simp; done) | (rw [Bool.eq_iff_iff]; simp; done) | omega | skip
      · refine Eng.plain rfl rfl fun a w' H => ?_
        refine Eng.call Tryd.func18 (by kernel_rfl) (by kernel_rfl) rfl #[.agg #[.int .i64 ((Lat.allL (l.take k)).1), .int .u64 ((Lat.allL (l.take k)).2)], .agg #[.int .i64 ((l.getD k default).1), .int .u64 ((l.getD k default).2)]] ?_ ?_
        · have e0 : a.eval (.tmp 11) = .agg #[.int .i64 ((Lat.allL (l.take k)).1), .int .u64 ((Lat.allL (l.take k)).2)] := (H.dep 0 11 (by kernel_rfl) rfl); have e1 : a.eval (.tmp 12) = .agg #[.int .i64 ((l.getD k default).1), .int .u64 ((l.getD k default).2)] := (H.dep 1 12 (by kernel_rfl) rfl); simp only [List.map_toArray, List.map_cons, List.map_nil, e0, e1]
        refine (lattice_Join.calls ((Lat.allL (l.take k)).1) ((Lat.allL (l.take k)).2) ((l.getD k default).1) ((l.getD k default).2) _ _ _ (Lat.join ((Lat.allL (l.take k)).1) ((Lat.allL (l.take k)).2) ((l.getD k default).1) ((l.getD k default).2))).mono ?_
        rintro e w'' ⟨rfl, hb⟩
        exact ⟨_, rfl, rfl, hb⟩
      · exact absurd hlt (by decide)
    intro act7 w7 T
    have h0_7 : act7.eval (.tmp 0) = v := (T.rest 0 (by kernel_rfl)).trans h0_6
    have h2_7 : act7.eval (.tmp 2) = .pointer (some ⟨g2_1, 0, none⟩) := (T.rest 2 (by kernel_rfl)).trans h2_6
    have h4_7 : act7.eval (.tmp 4) = .pointer (some ⟨g4_6, 0, none⟩) := (T.rest 4 (by kernel_rfl)).trans h4_6
    have h5_7 : act7.eval (.tmp 5) = v := (T.rest 5 (by kernel_rfl)).trans h5_6
    have h6_7 : act7.eval (.tmp 6) = .int .i64 ((l.length : Nat) : Int) := (T.rest 6 (by kernel_rfl)).trans h6_6
    have h7_7 : act7.eval (.tmp 7) = .int .i64 (k : Nat) := (T.rest 7 (by kernel_rfl)).trans h7_6
    have h8_7 : act7.eval (.tmp 8) = .bool q8 := (T.rest 8 (by kernel_rfl)).trans h8_6
    have kg2_1_7 := (T.below.block _ lg2_1_6).trans kg2_1_6
    have lg2_1_7 := Nat.lt_of_lt_of_le lg2_1_6 T.below.size
    have kg4_6_7 := (T.below.block _ lg4_6_6).trans kg4_6_6
    have lg4_6_7 := Nat.lt_of_lt_of_le lg4_6_6 T.below.size
    have Fp_7 := Eng.Reads.below Fp_6 T.below
    have h13_7 : act7.eval (.tmp 13) = .agg #[.int .i64 (mx ((Lat.allL (l.take k)).1) ((l.getD k default).1)), .int .u64 (Go.bits .or .u64 ((Lat.allL (l.take k)).2) ((l.getD k default).2))] := T.done 2 13 rfl rfl
    have d7 := T.defers.trans d6
    have s7 := T.size.trans s6
    have bl7 := bl6.trans (T.below.mono bl6.size)
    clear T
    refine Eng.tail_put [.int .i64 (mx ((Lat.allL (l.take k)).1) ((l.getD k default).1)), .int .u64 (Go.bits .or .u64 ((Lat.allL (l.take k)).2) ((l.getD k default).2))] (n := 0) (new := #[.int .i64 (mx ((Lat.allL (l.take k)).1) ((l.getD k default).1)), .int .u64 (Go.bits .or .u64 ((Lat.allL (l.take k)).2) ((l.getD k default).2))]) rfl rfl rfl kg2_1_7 rfl ?_ fun w8 S => ?_
    · have e0 : act7.eval (.tmp 2) = .pointer (some ⟨g2_1, 0, none⟩) := h2_7
      have e1 : act7.eval (.tmp 13) = .agg #[.int .i64 (mx ((Lat.allL (l.take k)).1) ((l.getD k default).1)), .int .u64 (Go.bits .or .u64 ((Lat.allL (l.take k)).2) ((l.getD k default).2))] := h13_7
      have z0 := (Eng.cells kg2_1_7 (0)).trans (rfl)
      have f0 := Eng.unfrozen kg2_1_7 (0)
      have z1 := (Eng.cells kg2_1_7 (1)).trans (rfl)
      have f1 := Eng.unfrozen kg2_1_7 (1)
      simp only [execOp]
      rw [e0, e1]
      go_simp
      try rfl
    have kg2_1_8 := S.new
    have lg2_1_8 := Nat.lt_of_lt_of_eq lg2_1_7 S.size.symm
    have kg4_6_8 := (S.far _ ne_g4_6_g2_1.symm).trans kg4_6_7
    have lg4_6_8 := Nat.lt_of_lt_of_eq lg4_6_7 S.size.symm
    have bl8 := S.below bl7 og2_1
    have Fp_8 := Eng.Reads.below hF bl8
    clear S
    refine Eng.tail_nil ?_
    show Code.wp Tryd.prog _ _ _ _
    refine Eng.regionS (Eng.still [fun u_ => u_ = .int .i64 (IntKind.i64.wrap ((k : Nat) + 1)), fun u_ => u_ = .int .i64 (IntKind.i64.wrap ((k : Nat) + 1))]) (fun i => ([.plain, .plain] : List Eng.Kind).getD i .plain) 2 0 16 s7 rfl (by kernel_rfl) (Eng.still_stable _) (Or.inr (Eng.still_any _)) ?_ ?_
    · refine Eng.Steps.cons (fun _ => ?_) (Eng.Steps.cons (fun _ => ?_) (Eng.Steps.nil))
      · refine Eng.plain rfl rfl fun a w' H => ?_
        refine Eng.val (w1 := w') (v := .int .i64 (IntKind.i64.wrap ((k : Nat) + 1))) ?_ (Below.refl _ _) rfl
        have e0 : a.eval (.tmp 7) = .int .i64 (k : Nat) := ((H.kept 7 (by kernel_rfl)).trans h7_7)
        have e1 : a.eval (.const (.int .i64 1)) = .int .i64 1 := (rfl : a.eval (.const (.int .i64 1)) = .int .i64 1)
        simp only [execOp, resolve, List.map_toArray, List.map_cons, List.map_nil, e0, e1]
        go_simp
        all_goals first | rfl | (simp; done) | (rw [Bool.eq_iff_iff]; simp; done) | omega | skip
      · refine Eng.plain rfl rfl fun a w' H => ?_
        exact Eng.val (w1 := w') (v := .int .i64 (IntKind.i64.wrap ((k : Nat) + 1))) (Eng.run_move rfl (H.dep 0 14 (by kernel_rfl) rfl)) (Below.refl _ _) rfl
    intro act9 w9 T
    have h0_9 : act9.eval (.tmp 0) = v := (T.rest 0 (by kernel_rfl)).trans h0_7
    have h2_9 : act9.eval (.tmp 2) = .pointer (some ⟨g2_1, 0, none⟩) := (T.rest 2 (by kernel_rfl)).trans h2_7
    have h4_9 : act9.eval (.tmp 4) = .pointer (some ⟨g4_6, 0, none⟩) := (T.rest 4 (by kernel_rfl)).trans h4_7
    have h5_9 : act9.eval (.tmp 5) = v := (T.rest 5 (by kernel_rfl)).trans h5_7
    have h6_9 : act9.eval (.tmp 6) = .int .i64 ((l.length : Nat) : Int) := (T.rest 6 (by kernel_rfl)).trans h6_7
    have h8_9 : act9.eval (.tmp 8) = .bool q8 := (T.rest 8 (by kernel_rfl)).trans h8_7
    have kg2_1_9 := (T.below.block _ lg2_1_8).trans kg2_1_8
    have lg2_1_9 := Nat.lt_of_lt_of_le lg2_1_8 T.below.size
    have kg4_6_9 := (T.below.block _ lg4_6_8).trans kg4_6_8
    have lg4_6_9 := Nat.lt_of_lt_of_le lg4_6_8 T.below.size
    have Fp_9 := Eng.Reads.below Fp_8 T.below
    have h7_9 : act9.eval (.tmp 7) = .int .i64 (IntKind.i64.wrap ((k : Nat) + 1)) := T.done 1 7 rfl rfl
    have d9 := T.defers.trans d7
    have s9 := T.size.trans s7
    have bl9 := bl8.trans (T.below.mono bl8.size)
    clear T
    refine Eng.tail_nil ?_
    exact ⟨_, by omega, k + 1, rfl, by omega, d9, s9, bl9, h0_9, h2_9, h5_9, h6_9, (h7_9.trans (by first | rfl | (congr 1; rw [Eng.i64_id (by omega) (by omega)]; omega) | (simp; done))), (kg2_1_9.trans (by first | rfl | (rw [Lat.allL_take hk0]; rfl))), lg2_1_9⟩
  ·
    have kn10 := hq
    have c8 := Bq8.symm.trans hq
    clear hq
    have c8 := of_decide_eq_false c8
    refine wp_exit ?_
    show Code.wp Tryd.prog _ _ _ _
    show Code.wp Tryd.prog _ _ _ _
    refine wp_seq ?_
    refine Eng.regionS (Eng.still [fun u_ => u_ = .agg #[.int .i64 ((Lat.allL (l.take k)).1), .int .u64 ((Lat.allL (l.take k)).2)]]) (fun i => ([.plain] : List Eng.Kind).getD i .plain) 1 1 16 s4 rfl (by kernel_rfl) (Eng.still_stable _) (Or.inr (Eng.still_any _)) ?_ ?_
    · refine Eng.Steps.cons (fun _ => ?_) (Eng.Steps.cons (fun hlt => ?_) (Eng.Steps.nil))
      · refine Eng.plain rfl rfl fun a w' H => ?_
        have kb := (H.below.block _ lg2_1_4).trans kg2_1_4
        have z0 : w'.cell? ⟨g2_1, 0, none⟩ = some (.int .i64 ((Lat.allL (l.take k)).1)) := (Eng.cells kb 0).trans rfl
        have z1 : w'.cell? ⟨g2_1, 1, none⟩ = some (.int .u64 ((Lat.allL (l.take k)).2)) := (Eng.cells kb 1).trans rfl
        refine Eng.val (w1 := w') (v := .agg #[.int .i64 ((Lat.allL (l.take k)).1), .int .u64 ((Lat.allL (l.take k)).2)]) ?_ (Below.refl _ _) rfl
        have e0 : a.eval (.tmp 2) = .pointer (some ⟨g2_1, 0, none⟩) := ((H.kept 2 (by kernel_rfl)).trans h2_4)
        simp only [execOp, resolve, List.map_toArray, List.map_cons, List.map_nil, e0]
        go_simp
        all_goals first | rfl | (simp; done) | (rw [Bool.eq_iff_iff]; simp; done) | omega | skip
      · exact absurd hlt (by decide)
    intro act11 w11 T
    have h0_11 : act11.eval (.tmp 0) = v := (T.rest 0 (by kernel_rfl)).trans h0_4
    have h2_11 : act11.eval (.tmp 2) = .pointer (some ⟨g2_1, 0, none⟩) := (T.rest 2 (by kernel_rfl)).trans h2_4
    have h5_11 : act11.eval (.tmp 5) = v := (T.rest 5 (by kernel_rfl)).trans h5_4
    have h6_11 : act11.eval (.tmp 6) = .int .i64 ((l.length : Nat) : Int) := (T.rest 6 (by kernel_rfl)).trans h6_4
    have h7_11 : act11.eval (.tmp 7) = .int .i64 (k : Nat) := (T.rest 7 (by kernel_rfl)).trans h7_4
    have h8_11 : act11.eval (.tmp 8) = .bool q8 := (T.rest 8 (by kernel_rfl)).trans h8_4
    have kg2_1_11 := (T.below.block _ lg2_1_4).trans kg2_1_4
    have lg2_1_11 := Nat.lt_of_lt_of_le lg2_1_4 T.below.size
    have Fp_11 := Eng.Reads.below Fp_4 T.below
    have h15_11 : act11.eval (.tmp 15) = .agg #[.int .i64 ((Lat.allL (l.take k)).1), .int .u64 ((Lat.allL (l.take k)).2)] := T.done 0 15 rfl rfl
    have d11 := T.defers.trans d4
    have s11 := T.size.trans s4
    have bl11 := bl4.trans (T.below.mono bl4.size)
    clear T
    refine Eng.tail_put [.int .i64 ((Lat.allL (l.take k)).1), .int .u64 ((Lat.allL (l.take k)).2)] (n := 0) (new := #[.int .i64 ((Lat.allL (l.take k)).1), .int .u64 ((Lat.allL (l.take k)).2)]) rfl rfl rfl kg2_1_11 rfl ?_ fun w12 S => ?_
    · have e0 : act11.eval (.tmp 2) = .pointer (some ⟨g2_1, 0, none⟩) := h2_11
      have e1 : act11.eval (.tmp 15) = .agg #[.int .i64 ((Lat.allL (l.take k)).1), .int .u64 ((Lat.allL (l.take k)).2)] := h15_11
      have z0 := (Eng.cells kg2_1_11 (0)).trans (rfl)
      have f0 := Eng.unfrozen kg2_1_11 (0)
      have z1 := (Eng.cells kg2_1_11 (1)).trans (rfl)
      have f1 := Eng.unfrozen kg2_1_11 (1)
      simp only [execOp]
      rw [e0, e1]
      go_simp
      try rfl
    have kg2_1_12 := S.new
    have lg2_1_12 := Nat.lt_of_lt_of_eq lg2_1_11 S.size.symm
    have bl12 := S.below bl11 og2_1
    have Fp_12 := Eng.Reads.below hF bl12
    clear S
    refine Eng.tail_nil ?_
    show Code.wp Tryd.prog _ _ _ _
    refine wp_ret ?_
    repeat (first | refine Eng.in_ret ?_ | refine Eng.then_ret ?_)
    obtain rfl : k = l.length := by omega
    exact Eng.retc rfl d11 h2_11 (kg2_1_12.trans (by rw [List.take_length])) Tryd.underlying30 rfl (by kernel_rfl) ⟨rfl, bl12⟩
end Go.Proofs.YthgafcaoibfchaaDoor.X
end
