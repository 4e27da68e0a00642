/- Words and walks that the row of ComposeRight needs: printed by programs, and plain laws. -/
import Derived.Test.YtgnmjaacnmkgnaaDoorM12
import Derived.Test.YtgnmjaacnmkgnaaDoorM7
import Derived.Test.YtgnmjaacnmkgnaaDoorM3
import Derived.Test.YtgnmjaacnmkgnaaDoorM2
import Derived.Test.YtgnmjaacnmkgnaaDoorM10
namespace Go.Proofs.YtgnmjaacnmkgnaaDoorW.PrintWords
end Go.Proofs.YtgnmjaacnmkgnaaDoorW.PrintWords
namespace Go.Proofs.YtgnmjaacnmkgnaaDoorW.PrintLast
end Go.Proofs.YtgnmjaacnmkgnaaDoorW.PrintLast
namespace Go.Proofs.YtgnmjaacnmkgnaaDoorW.PrintMore
end Go.Proofs.YtgnmjaacnmkgnaaDoorW.PrintMore
section
namespace Go.Proofs.YtgnmjaacnmkgnaaDoor.X
open Go.RowKit Go.Shelf Go.Proofs Go.Maps
set_option linter.unusedVariables false
set_option linter.unusedSimpArgs false
namespace Tm
section
variable {w w' : World} {B mb n : Nat} {kt : TypeId} {L : List Value}
theorem Cn.mono (X : Cn w B mb kt n L) {n' : Nat} (h : n ≤ n') : Cn w B mb kt n' L := by
  obtain ⟨l, D, h1, h2⟩ := X; exact ⟨l, D, h1.mono h, h2⟩
theorem Cn.sets {g : Nat} {o : Obj} {T : TypeId} {cs : Array Value} (X : Cn w B mb kt n L) (S : Eng.Sets w w' g o) (hk : w.heap[g]? = some (.cells cs T (0, 0))) : Cn w' B mb kt n L := X.keep (S.far _ (fun e => X.ne hk e.symm))
theorem Cn.eqL (X : Cn w B mb kt n L) {L' : List Value} (h : L' = L) : Cn w B mb kt n L' := h ▸ X
theorem mem_of {v : Value} (h : cnt (v :: L) v > 1) : v ∈ L := by
  by_cases hm : v ∈ L
  · exact hm
  · rw [cnt_same, cnt_zero hm] at h; omega
theorem not_of {v : Value} (h : ¬ cnt (v :: L) v > 1) : v ∉ L := fun hm => h (by rw [cnt_same]; have := cnt_pos hm; omega)
end
def leafB (nd : List Dc.Nd) (i : Int) : Option (ByteArray × ByteArray) := if (nd.getD i.toNat default).kind = 0 then some ((nd.getD i.toNat default).tag, (nd.getD i.toNat default).text) else none
def kv1 (i : Int) : Value := .int .i64 i
def kv2 (p : ByteArray × ByteArray) : Value := .agg #[.string p.1, .string p.2]
def fil (nd : List Dc.Nd) (ks : List Int) (m : Nat) : List Int := (ks.take m).filter (Dc.hasI nd)
def K1 (nd : List Dc.Nd) (ks : List Int) (m : Nat) : List Value := ((fil nd ks m).map kv1).reverse
def K2 (nd : List Dc.Nd) (ks : List Int) (m : Nat) : List Value := (((fil nd ks m).filterMap (leafB nd)).map kv2).reverse
def Ok (nd : List Dc.Nd) (ks : List Int) (m : Nat) : Prop := (fil nd ks m).Nodup ∧ ((fil nd ks m).filterMap (leafB nd)).Nodup
section
variable {nd : List Dc.Nd} {ks : List Int} {m : Nat} {key : Int}
theorem fil_len : (fil nd ks m).length ≤ m := by
  unfold fil; have h1 := List.length_filter_le (Dc.hasI nd) (ks.take m); have h2 := List.length_take_le m ks; omega
theorem K1_len : (K1 nd ks m).length ≤ m := by unfold K1; rw [List.length_reverse, List.length_map]; exact fil_len
theorem K2_len : (K2 nd ks m).length ≤ m := by
  unfold K2; rw [List.length_reverse, List.length_map]; have h1 := List.length_filterMap_le (leafB nd) (fil nd ks m); have h2 := fil_len (nd := nd) (ks := ks) (m := m); omega
theorem fil_not (hm : m < ks.length) (hk : key = ks.getD m 0) (h : Dc.hasI nd key = false) : fil nd ks (m + 1) = fil nd ks m := by
  have hk' : key = ks.getD m default := hk
  unfold fil; rw [Rwt.take_one hm, List.filter_append, ← hk', List.filter_cons_of_neg (by simp [h]), List.filter_nil, List.append_nil]
theorem fil_has (hm : m < ks.length) (hk : key = ks.getD m 0) (h : Dc.hasI nd key = true) : fil nd ks (m + 1) = fil nd ks m ++ [key] := by
  have hk' : key = ks.getD m default := hk
  unfold fil; rw [Rwt.take_one hm, List.filter_append, ← hk', List.filter_cons_of_pos h, List.filter_nil]
theorem K1_not (hm : m < ks.length) (hk : key = ks.getD m 0) (h : Dc.hasI nd key = false) : K1 nd ks (m + 1) = K1 nd ks m := by unfold K1; rw [fil_not hm hk h]
theorem K2_not (hm : m < ks.length) (hk : key = ks.getD m 0) (h : Dc.hasI nd key = false) : K2 nd ks (m + 1) = K2 nd ks m := by unfold K2; rw [fil_not hm hk h]
theorem K1_has (hm : m < ks.length) (hk : key = ks.getD m 0) (h : Dc.hasI nd key = true) : K1 nd ks (m + 1) = kv1 key :: K1 nd ks m := by unfold K1; rw [fil_has hm hk h]; simp
theorem K2_none (hm : m < ks.length) (hk : key = ks.getD m 0) (h : Dc.hasI nd key = true) (hl : leafB nd key = none) : K2 nd ks (m + 1) = K2 nd ks m := by unfold K2; rw [fil_has hm hk h, List.filterMap_append]; simp [hl]
theorem K2_some (hm : m < ks.length) (hk : key = ks.getD m 0) (h : Dc.hasI nd key = true) {p : ByteArray × ByteArray} (hl : leafB nd key = some p) : K2 nd ks (m + 1) = kv2 p :: K2 nd ks m := by unfold K2; rw [fil_has hm hk h, List.filterMap_append]; simp [hl]
theorem mem1 : kv1 key ∈ K1 nd ks m ↔ key ∈ fil nd ks m := by
  unfold K1
  rw [List.mem_reverse, List.mem_map]
  refine ⟨?_, fun h => ⟨key, h, rfl⟩⟩
  rintro ⟨x, hx, he⟩
  unfold kv1 at he; injection he with _ he; exact he ▸ hx
theorem mem2 {p : ByteArray × ByteArray} : kv2 p ∈ K2 nd ks m ↔ p ∈ (fil nd ks m).filterMap (leafB nd) := by
  unfold K2
  rw [List.mem_reverse, List.mem_map]
  refine ⟨?_, fun h => ⟨p, h, rfl⟩⟩
  rintro ⟨x, hx, he⟩
  have : x = p := by
    unfold kv2 at he
    simp at he
    exact Prod.ext he.1 he.2
  exact this ▸ hx
theorem nodup_snoc {α : Type} {l : List α} {x : α} : (l ++ [x]).Nodup ↔ l.Nodup ∧ x ∉ l := by
  rw [List.nodup_append]
  simp only [List.nodup_cons, List.not_mem_nil, not_false_eq_true, List.nodup_nil, and_self, true_and, List.mem_singleton]
  refine ⟨fun ⟨h1, h2⟩ => ⟨h1, fun h => h2 x h x rfl rfl⟩, fun ⟨h1, h2⟩ => ⟨h1, fun a ha b hb e => h2 ?_⟩⟩
  subst hb; subst e; exact ha
theorem ok_zero : Ok nd ks 0 := by unfold Ok fil; simp
theorem ok_not (hm : m < ks.length) (hk : key = ks.getD m 0) (h : Dc.hasI nd key = false) (H : Ok nd ks m) : Ok nd ks (m + 1) := by unfold Ok; rw [fil_not hm hk h]; exact H
theorem ok_none (hm : m < ks.length) (hk : key = ks.getD m 0) (h : Dc.hasI nd key = true) (hl : leafB nd key = none) (h1 : kv1 key ∉ K1 nd ks m) (H : Ok nd ks m) : Ok nd ks (m + 1) := by
  unfold Ok; rw [fil_has hm hk h, List.filterMap_append]; simp only [List.filterMap_cons, hl, List.filterMap_nil, List.append_nil]
  exact ⟨nodup_snoc.2 ⟨H.1, fun h => h1 (mem1.2 h)⟩, H.2⟩
theorem ok_some (hm : m < ks.length) (hk : key = ks.getD m 0) (h : Dc.hasI nd key = true) {p : ByteArray × ByteArray} (hl : leafB nd key = some p) (h1 : kv1 key ∉ K1 nd ks m) (h2 : kv2 p ∉ K2 nd ks m) (H : Ok nd ks m) : Ok nd ks (m + 1) := by
  unfold Ok; rw [fil_has hm hk h, List.filterMap_append]; simp only [List.filterMap_cons, hl, List.filterMap_nil]
  exact ⟨nodup_snoc.2 ⟨H.1, fun h => h1 (mem1.2 h)⟩, nodup_snoc.2 ⟨H.2, fun h => h2 (mem2.2 h)⟩⟩
theorem leaf_eq (i : Int) : Dc.leaf nd i = (leafB nd i).map fun p => (p.1.data.toList, p.2.data.toList) := by
  unfold Dc.leaf leafB; split <;> rfl
theorem data_inj {a b : ByteArray} (h : a.data.toList = b.data.toList) : a = b := by
  cases a; cases b; simp at h; rw [h]
theorem leaves (l : List Int) : (l.filterMap (Dc.leaf nd)).Nodup ↔ (l.filterMap (leafB nd)).Nodup := by
  have e : l.filterMap (Dc.leaf nd) = (l.filterMap (leafB nd)).map fun p => (p.1.data.toList, p.2.data.toList) := by
    rw [List.map_filterMap]; congr 1; funext i; exact leaf_eq i
  rw [e]
  unfold List.Nodup
  rw [List.pairwise_map]
  refine ⟨fun h => h.imp fun hn he => hn (by rw [he]), fun h => h.imp fun hn he => hn ?_⟩
  simp only [Prod.mk.injEq] at he
  exact Prod.ext (data_inj he.1) (data_inj he.2)
theorem sub_fil (h : m ≤ ks.length) : (fil nd ks m).Sublist (ks.filter (Dc.hasI nd)) := (List.take_sublist m ks).filter _
theorem dup_iff {n : Dc.Nd} (h2 : n.kind = 2) (hk : ks = Dc.keysL n.kids) : Dc.dupNode nd n = false ↔ Ok nd ks ks.length := by
  unfold Dc.dupNode Ok fil
  rw [← hk, List.take_length, ← leaves]
  simp [h2]
theorem dup_kind {n : Dc.Nd} (h2 : n.kind ≠ 2) : Dc.dupNode nd n = false := by
  unfold Dc.dupNode
  have : (n.kind == 2) = false := by simpa using h2
  rw [this]; rfl
theorem dup_one {n : Dc.Nd} (h2 : n.kind = 2) (hk : ks = Dc.keysL n.kids) (hm : m < ks.length) (hkey : key = ks.getD m 0) (h : Dc.hasI nd key = true) (hin : kv1 key ∈ K1 nd ks m) : Dc.dupNode nd n = true := by
  cases hd : Dc.dupNode nd n with
  | true => rfl
  | false =>
    have H := ((dup_iff h2 hk).1 hd).1
    have hs : (fil nd ks (m + 1)).Nodup := by
      have h1 := sub_fil (nd := nd) (m := m + 1) (ks := ks) hm
      unfold fil at H; rw [List.take_length] at H
      exact h1.nodup H
    rw [fil_has hm hkey h] at hs
    exact absurd (mem1.1 hin) (nodup_snoc.1 hs).2
theorem dup_two {n : Dc.Nd} (h2 : n.kind = 2) (hk : ks = Dc.keysL n.kids) (hm : m < ks.length) (hkey : key = ks.getD m 0) (h : Dc.hasI nd key = true) {p : ByteArray × ByteArray} (hl : leafB nd key = some p) (hin : kv2 p ∈ K2 nd ks m) : Dc.dupNode nd n = true := by
  cases hd : Dc.dupNode nd n with
  | true => rfl
  | false =>
    have H := ((dup_iff h2 hk).1 hd).2
    have hs : ((fil nd ks (m + 1)).filterMap (leafB nd)).Nodup := by
      have h1 := (sub_fil (nd := nd) (m := m + 1) (ks := ks) hm).filterMap (leafB nd)
      unfold fil at H; rw [List.take_length] at H
      exact h1.nodup H
    rw [fil_has hm hkey h, List.filterMap_append] at hs
    simp only [List.filterMap_cons, hl, List.filterMap_nil] at hs
    exact absurd (mem2.1 hin) (nodup_snoc.1 hs).2
theorem twice_true {k : Nat} (hk : k < nd.length) (h : Dc.dupNode nd (nd.getD k default) = true) : Dc.twiceF nd = true := by
  unfold Dc.twiceF; rw [List.any_eq_true]
  refine ⟨nd.getD k default, ?_, h⟩
  rw [List.getD_eq_getElem?_getD, List.getElem?_eq_getElem hk]; exact List.getElem_mem hk
theorem twice_false (h : ∀ j, j < nd.length → Dc.dupNode nd (nd.getD j default) = false) : Dc.twiceF nd = false := by
  unfold Dc.twiceF; rw [List.any_eq_false]
  intro n hn
  obtain ⟨j, hj, rfl⟩ := List.mem_iff_getElem.1 hn
  have := h j hj
  rw [List.getD_eq_getElem?_getD, List.getElem?_eq_getElem hj] at this
  simpa using this
theorem none_step {k : Nat} (h : ∀ j, j < k → Dc.dupNode nd (nd.getD j default) = false) (h1 : Dc.dupNode nd (nd.getD k default) = false) : ∀ j, j < k + 1 → Dc.dupNode nd (nd.getD j default) = false := fun j hj => by
  rcases Nat.lt_or_eq_of_le (Nat.le_of_lt_succ hj) with h2 | rfl
  · exact h j h2
  · exact h1
end
def Small (nd : List Dc.Nd) : Prop := ∀ n ∈ nd, n.kids.length ≤ 1000000 ∧ n.tag.size ≤ 1000000 ∧ n.text.size ≤ 1000000
theorem Small.at_ {nd : List Dc.Nd} (h : Small nd) {k : Nat} (hk : k < nd.length) : (nd.getD k default).kids.length ≤ 1000000 ∧ (nd.getD k default).tag.size ≤ 1000000 ∧ (nd.getD k default).text.size ≤ 1000000 := by
  refine h _ ?_
  rw [List.getD_eq_getElem?_getD, List.getElem?_eq_getElem hk]; exact List.getElem_mem hk
theorem keys_len : ∀ l : List Int, (Dc.keysL l).length ≤ l.length
  | [] => Nat.le_refl _
  | [a] => Nat.le_refl _
  | a :: b :: t => by
    have := keys_len t
    show (Dc.keysL t).length + 1 ≤ t.length + 1 + 1
    omega
theorem own_drew {w : World} {B size m d : Nat} {e : TypeId} {v : Value} {xs : List Value} (h : w.ownsRow B e size v m xs) : ({ w with drawn := d } : World).ownsRow B e size v m xs := h
theorem Cn.drew {w : World} {B mb n d : Nat} {kt : TypeId} {L : List Value} (X : Cn w B mb kt n L) : Cn ({ w with drawn := d } : World) B mb kt n L := X.keep rfl
theorem run_leaf {a : Act} {o : Oper} {x y : Operand} {s t : ByteArray} {u : World} (hop : o.op = .build 105 #[(0, x), (1, y)]) (hx : a.eval x = .string s) (hy : a.eval y = .string t) : (execOp a.eval o).run Tryd.prog u = .ok (.value (.agg #[.string s, .string t])) u := by
  unfold execOp; rw [hop]; simp only [List.map_toArray, List.map_cons, List.map_nil, hx, hy]; go_simp
end Tm
end Go.Proofs.YtgnmjaacnmkgnaaDoor.X
end
section
namespace Go.Proofs.Eng
open Go Go.RowKit
set_option linter.unusedSimpArgs false
set_option linter.unusedVariables false
variable {P : Program} {ops : Array Oper} {Q : Exit → Act → World → Prop}
def DutyZ (P : Program) (ops : Array Oper) (Q : Exit → Act → World → Prop) (D : Nat → Value → World → Prop) (Z : (Nat → Bool) → World → Prop) (a0 : Act) (i : Nat) (o : Oper) : Prop :=
  ∀ (L : Nat → Bool) (a : Act) (w : World), L i = false → Z L w → (∀ j d, bound o j = true → dstOf ops j = some d → D j (a.tmps.getD d undef) w) → (∀ t, old ops i t = true → a.eval (.tmp t) = a0.eval (.tmp t)) →
    o.guard = none ∧ o.wp P a w (fun a' w' => ∃ v, a' = a.put o.dst v ∧ (o.dst ≠ none → D i v w') ∧ Z (fun j => if j = i then true else L j) w' ∧ ∀ j v, L j = true → D j v w → D j v w') Q
def StepsZ (P : Program) (ops : Array Oper) (Q : Exit → Act → World → Prop) (D : Nat → Value → World → Prop) (Z : (Nat → Bool) → World → Prop) (a0 : Act) (m : Nat) : Nat → List Oper → Prop
  | _, [] => True
  | i, o :: os => (i < m → DutyZ P ops Q D Z a0 i o) ∧ StepsZ P ops Q D Z a0 m (i + 1) os
theorem StepsZ.cons {D : Nat → Value → World → Prop} {Z : (Nat → Bool) → World → Prop} {a0 : Act} {m i : Nat} {o : Oper} {os : List Oper} (h : i < m → DutyZ P ops Q D Z a0 i o) (hs : StepsZ P ops Q D Z a0 m (i + 1) os) : StepsZ P ops Q D Z a0 m i (o :: os) := ⟨h, hs⟩
theorem StepsZ.nil {D : Nat → Value → World → Prop} {Z : (Nat → Bool) → World → Prop} {a0 : Act} {m i : Nat} : StepsZ P ops Q D Z a0 m i [] := trivial
theorem StepsZ.get {D : Nat → Value → World → Prop} {Z : (Nat → Bool) → World → Prop} {a0 : Act} {m : Nat} : ∀ {l : List Oper} {i : Nat}, StepsZ P ops Q D Z a0 m i l → ∀ n o, l[n]? = some o → i + n < m → DutyZ P ops Q D Z a0 (i + n) o
  | [], _, _, _, _, h, _ => by simp at h
  | o :: os, i, h, 0, o', he, hm => by simp at he; subst he; exact h.1 hm
  | o :: os, i, h, n + 1, o', he, hm => by
    have e : i + 1 + n = i + (n + 1) := by omega
    have := StepsZ.get h.2 n o' (by simpa using he) (by omega)
    rw [e] at this; exact this
structure InvZ (ops : Array Oper) (D : Nat → Value → World → Prop) (Z : (Nat → Bool) → World → Prop) (a0 : Act) (L : Array Bool) (a : Act) (w : World) : Prop where
  z : Z (fun j => L.getD j false) w
  defers : a.defers = a0.defers
  size : a.tmps.size = a0.tmps.size
  done : ∀ j d, L.getD j false = true → dstOf ops j = some d → D j (a.tmps.getD d undef) w
  rest : ∀ t, (∀ j, L.getD j false = true → dstOf ops j ≠ some t) → a.tmps.getD t undef = a0.tmps.getD t undef
section main
variable {D : Nat → Value → World → Prop} {Z : (Nat → Bool) → World → Prop} {a0 : Act} {m : Nat}
theorem step_invZ (hs : shape ops m a0.tmps.size = true) (hS : StepsZ P ops Q D Z a0 m 0 ops.toList) {L : Array Bool} (hL : lits L ops) (hlow : ∀ k, m ≤ k → L.getD k false = false) {a : Act} {w : World} (I : InvZ ops D Z a0 L a w)
    {i : Nat} (hi : i < m) (him : i < ops.size) (hnot : L.getD i false = false) (hr : ∀ o, ops[i]? = some o → ∀ j, bound o j = true → L.getD j false = true)
    {K : Act → World → Prop} (hK : ∀ a' w', InvZ ops D Z a0 (L.setIfInBounds i true) a' w' → K a' w') : wpOp P ops Q i K a w := by
  obtain ⟨o, ho⟩ : ∃ o, ops[i]? = some o := ⟨ops[i], Array.getElem?_eq_getElem him⟩
  have hst := hS.get i o (by simpa using ho) (by omega)
  rw [Nat.zero_add] at hst
  have hdo : dstOf ops i = o.dst := by unfold dstOf; rw [ho]; rfl
  have hd3 := (shape_edge hs ho).2.2
  have hjm : ∀ j, L.getD j false = true → j < m := fun j hj => by
    rcases Nat.lt_or_ge j m with h | h
    · exact h
    · rw [hlow j h] at hj; cases hj
  have hjs : ∀ j, L.getD j false = true → j < ops.size := fun j hj => by
    rcases Nat.lt_or_ge j L.size with h | h
    · rw [← hL.1]; exact h
    · rw [Array.getD_eq_getD_getElem?, Array.getElem?_eq_none h] at hj; cases hj
  have holds : ∀ t, old ops i t = true → a.eval (.tmp t) = a0.eval (.tmp t) := fun t ht => by
    show a.tmps.getD t undef = a0.tmps.getD t undef
    refine I.rest t fun j hj hjd => ?_
    unfold old at ht
    rw [all_range] at ht
    have := ht j (hjs j hj)
    obtain ⟨oj, hoj⟩ : ∃ oj, ops[j]? = some oj := ⟨ops[j]'(hjs j hj), Array.getElem?_eq_getElem _⟩
    unfold dstOf at hjd
    rw [hoj] at hjd this
    simp only [Option.bind_some] at hjd
    simp only [hjd, bne_self_eq_false, Bool.false_or, Bool.or_eq_true, beq_iff_eq] at this
    rcases this with h | h
    · subst h; rw [hj] at hnot; cases hnot
    · have := hL.2 j oj hoj hj i h
      rw [this] at hnot; cases hnot
  have hiL : i < L.size := by rw [hL.1]; exact him
  have hdsz : ∀ d, o.dst = some d → d < a.tmps.size := fun d hd => by rw [I.size]; exact hd3 d hd
  have hset : ∀ j, (L.setIfInBounds i true).getD j false = true → j ≠ i → L.getD j false = true := fun j hj hne => by rw [getD_set hiL, if_neg hne] at hj; exact hj
  have hkeep : ∀ j, L.getD j false = true → (L.setIfInBounds i true).getD j false = true := fun j hj => by
    rw [getD_set hiL]; split
    · rfl
    · exact hj
  have hslot : ∀ v j d, L.getD j false = true → dstOf ops j = some d → (a.put o.dst v).tmps.getD d undef = a.tmps.getD d undef := fun v j d hj hd => by
    rw [put_getD _ _ _ _ hdsz, if_neg]
    intro he
    have := shape_dst hs (hjm j hj) hi hd (hdo.trans he)
    subst this; rw [hj] at hnot; cases hnot
  obtain ⟨hg, h1⟩ := hst (fun j => L.getD j false) a w hnot I.z (fun j d hb hd => I.done j d (hr o ho j hb) hd) holds
  unfold wpOp
  rw [ho]
  simp only
  have hw : Region.wanted o (yielded ops a.tmps) = true := by unfold Region.wanted; rw [hg]
  rw [if_pos hw]
  refine .inl (Oper.wp_mono (fun a' w' ⟨v, hv, hD, hZ, hkD⟩ => ?_) h1)
  subst hv
  have eL : (fun j => (L.setIfInBounds i true).getD j false) = fun j => if j = i then true else L.getD j false := by funext j; exact getD_set hiL
  refine hK _ _ ⟨by rw [eL]; exact hZ, by rw [← I.defers]; cases o.dst <;> rfl, by rw [← I.size]; cases o.dst <;> simp [Act.put], ?_, fun t ht => ?_⟩
  · intro j d hj hjd
    by_cases hji : j = i
    · subst hji
      rw [put_getD _ _ _ _ hdsz, if_pos (hdo ▸ hjd)]
      exact hD (by rw [← hdo, hjd]; simp)
    · rw [hslot v j d (hset j hj hji) hjd]
      exact hkD j _ (hset j hj hji) (I.done j d (hset j hj hji) hjd)
  · rw [put_getD _ _ _ _ hdsz, if_neg (fun he => ht i (by rw [getD_set hiL, if_pos rfl]) (hdo.trans he))]
    exact I.rest t fun j hj => ht j (hkeep j hj)
theorem wp_freeZ (hs : shape ops m a0.tmps.size = true) (hm : m ≤ ops.size) (hS : StepsZ P ops Q D Z a0 m 0 ops.toList)
    (hE : ∀ a w, Z (fun j => decide (j < m)) w → a.defers = a0.defers → a.tmps.size = a0.tmps.size → (∀ j d, j < m → dstOf ops j = some d → D j (a.tmps.getD d undef) w) →
      (∀ t, (∀ j, j < m → dstOf ops j ≠ some t) → a.tmps.getD t undef = a0.tmps.getD t undef) → wpOps P ops Q (List.range' m (ops.size - m)) a w) :
    ∀ (fuel : Nat) (L : Array Bool) (a : Act) (w : World), fuel = cnt L m + (ops.size - m) → L.size = ops.size → lits L ops → (∀ k, m ≤ k → L.getD k false = false) → InvZ ops D Z a0 L a w → wpAny P .any ops Q fuel L a w := by
  have fin : ∀ (L : Array Bool) (a : Act) (w : World), cnt L m = 0 → L.size = ops.size → (∀ k, m ≤ k → L.getD k false = false) → InvZ ops D Z a0 L a w → wpAny P .any ops Q (ops.size - m) L a w := by
    intro L a w hc hsz hlow I
    have hall := cnt_zero hc
    refine wp_tail hs (ops.size - m) m L a w (Nat.le_refl _) (by omega) ⟨hsz, ?_⟩ ?_
    · intro j
      rcases Nat.lt_or_ge j m with h | h
      · rw [hall j h]; simp; omega
      · rw [hlow j h]; simp; omega
    · have eL : (fun j => L.getD j false) = fun j => decide (j < m) := by
        funext j
        rcases Nat.lt_or_ge j m with h | h
        · rw [hall j h]; simp [h]
        · rw [hlow j h]; simp [h]
      refine hE a w (eL ▸ I.z) I.defers I.size (fun j d hj hd => I.done j d (hall j hj) hd) (fun t ht => I.rest t fun j hj => ht j ?_)
      rcases Nat.lt_or_ge j m with h | h
      · exact h
      · rw [hlow j h] at hj; cases hj
  intro fuel
  induction fuel with
  | zero =>
    intro L a w hf hsz hl hlow I
    have := fin L a w (by omega) hsz hlow I
    rw [show ops.size - m = 0 by omega] at this
    exact this
  | succ fuel ih =>
    intro L a w hf hsz hl hlow I
    by_cases hc : cnt L m = 0
    · have := fin L a w hc hsz hlow I
      rw [show ops.size - m = fuel + 1 by omega] at this
      exact this
    · constructor
      · intro hnil
        exfalso
        have hex : ∃ i, i < m ∧ L.getD i false = false := by
          apply Classical.byContradiction
          intro hno
          refine hc ?_
          unfold cnt
          rw [List.length_eq_zero_iff, List.filter_eq_nil_iff]
          intro k hk
          rw [List.mem_range] at hk
          cases hv : L.getD k false with
          | true => simp
          | false => exact absurd ⟨k, hk, hv⟩ hno
        have hmin : ∀ n i, i < n → i < m → L.getD i false = false → ∃ i, i < m ∧ L.getD i false = false ∧ ∀ j, j < i → L.getD j false = true := by
          intro n
          induction n with
          | zero => intro i h; omega
          | succ n ihn =>
            intro i hin him hf
            by_cases hall : ∀ j, j < i → L.getD j false = true
            · exact ⟨i, him, hf, hall⟩
            · have : ∃ j, j < i ∧ L.getD j false = false := by
                apply Classical.byContradiction
                intro hno
                refine hall fun j hj => ?_
                cases hv : L.getD j false with
                | true => rfl
                | false => exact absurd ⟨j, hj, hv⟩ hno
              obtain ⟨j, hj, hjf⟩ := this
              exact ihn j (by omega) (by omega) hjf
        obtain ⟨i0, hi0, hf0⟩ := hex
        obtain ⟨i, him, hif, hlt⟩ := hmin (i0 + 1) i0 (by omega) hi0 hf0
        have : i ∈ Region.ready .any ops L := by
          rw [mem_ready hsz]
          refine ⟨by omega, hif, ?_⟩
          intro o ho j hj
          exact hlt j (bound_lt hs ho hj)
        rw [hnil] at this; cases this
      · intro i hi
        obtain ⟨h1, h2, h3⟩ := (mem_ready hsz).1 hi
        have him : i < m := by
          rcases Nat.lt_or_ge i m with h | h
          · exact h
          · exfalso
            obtain ⟨o, ho⟩ : ∃ o, ops[i]? = some o := ⟨ops[i], Array.getElem?_eq_getElem h1⟩
            refine hc ?_
            unfold cnt
            rw [List.length_eq_zero_iff, List.filter_eq_nil_iff]
            intro k hk
            rw [List.mem_range] at hk
            have := anc_ready hl.2 ((shape_edge hs ho).2.1 h k (by omega)) h3
            simp [this]
        refine step_invZ hs hS hl hlow I him h1 h2 h3 fun a' w' I' => ih _ a' w' ?_ (by simp [hsz]) ?_ ?_ I'
        · have := cnt_set (L := L) (by omega) h2 m him
          omega
        · refine ⟨by simp [hl.1], fun k o ho hk j hj => ?_⟩
          rw [getD_set (by omega)] at hk ⊢
          split
          · rfl
          · split at hk
            · rename_i hki; subst hki; exact h3 o ho j hj
            · exact hl.2 k o ho hk j hj
        · intro k hk
          rw [getD_set (by omega), if_neg (by omega)]
          exact hlow k hk
end main
theorem regionZ {id : Nat} {a : Act} {w : World} (D : Nat → Value → World → Prop) (Z : (Nat → Bool) → World → Prop) (m c n : Nat) (hm : P.follows .mixedOrders = true) (hn : a.tmps.size = n) (hc : ops.size = m + c) (hs : shape ops m n = true) (hZ : Z (fun _ => false) { w with drawn := w.drawn + 1 })
    (hS : StepsZ P ops Q D Z a m 0 ops.toList)
    (hE : ∀ a' w', Z (fun j => decide (j < m)) w' → a'.defers = a.defers → a'.tmps.size = n → (∀ j d, decide (j < m) = true → dstOf ops j = some d → D j (a'.eval (.tmp d)) w') →
      (∀ t, (List.range m).all (fun j => dstOf ops j != some t) = true → a'.eval (.tmp t) = a.eval (.tmp t)) → wpOps P ops Q (List.range' m c) a' w') :
    (Code.region id ops true).wp P Q a w := by
  subst hn
  refine wp_region_any hm ?_
  have hle : m ≤ ops.size := by omega
  have eZ : Z (fun j => (Array.replicate ops.size false).getD j false) { w with drawn := w.drawn + 1 } := by
    have eL : (fun j => (Array.replicate ops.size false).getD j false) = fun _ => false := by
      funext j
      rw [Array.getD_eq_getD_getElem?, Array.getElem?_replicate]
      split <;> rfl
    rw [eL]; exact hZ
  have key := wp_freeZ hs hle hS (fun a' w' h1 h2 h3 h4 h5 => by
    rw [hc, Nat.add_sub_cancel_left]
    exact hE a' w' h1 h2 h3 (fun j d hj => h4 j d (of_decide_eq_true hj)) (fun t ht => h5 t (notdst ht))) ops.size (Array.replicate ops.size false) a { w with drawn := w.drawn + 1 } ?_ (by simp) ⟨by simp, fun i o _ h => ?_⟩ (fun k _ => ?_) ⟨eZ, rfl, rfl, fun j d h => ?_, fun t _ => rfl⟩
  · exact key
  · have : cnt (Array.replicate ops.size false) m = m := by
      unfold cnt
      have : ∀ k ∈ List.range m, (!(Array.replicate ops.size false).getD k false) = true := by
        intro k _
        simp [Array.getD_eq_getD_getElem?, Array.getElem?_replicate]
        split <;> rfl
      rw [List.filter_eq_self.2 this, List.length_range]
    omega
  all_goals
    first
    | (simp [Array.getD_eq_getD_getElem?, Array.getElem?_replicate] at h; split at h <;> simp at h)
    | (simp [Array.getD_eq_getD_getElem?, Array.getElem?_replicate]; split <;> rfl)
end Go.Proofs.Eng
end
section
namespace Go.Proofs.Eng
open Go Go.RowKit
set_option linter.unusedSimpArgs false
set_option linter.unusedVariables false
variable {P : Program} {ops : Array Oper} {Q : Exit → Act → World → Prop}
def Zt (e : Nat) (w0 w1 : World) (L : Nat → Bool) (u : World) : Prop := u = if L e = true then w1 else w0
structure AtZ (ops : Array Oper) (Ds : List (Value → Prop)) (a0 : Act) (w0 w1 : World) (i : Nat) (o : Oper) (a : Act) (u : World) : Prop where
  or : u = w0 ∨ u = w1
  dep : ∀ j d, bound o j = true → dstOf ops j = some d → still Ds j (a.eval (.tmp d)) u
  kept : ∀ t, old ops i t = true → a.eval (.tmp t) = a0.eval (.tmp t)
section
variable {Ds : List (Value → Prop)} {e i : Nat} {w0 w1 : World} {a0 : Act} {o : Oper}
theorem zval (hi : (i == e) = false) (hg : o.guard = none) (h : ∀ (a : Act) (u : World), AtZ ops Ds a0 w0 w1 i o a u → ∃ v, (execOp a.eval o).run P u = .ok (.value v) u ∧ still Ds i v u) : DutyZ P ops Q (still Ds) (Zt e w0 w1) a0 i o := by
  intro L a u hL hZ hd ho
  have hor : u = w0 ∨ u = w1 := by
    unfold Zt at hZ
    split at hZ
    · exact .inr hZ
    · exact .inl hZ
  obtain ⟨v, hr, hD⟩ := h a u ⟨hor, hd, ho⟩
  refine ⟨hg, ?_⟩
  unfold Oper.wp
  rw [hr]
  refine ⟨v, rfl, fun _ => hD, ?_, fun _ _ _ h => h⟩
  have he : (if e = i then true else L e) = L e := if_neg fun h => by subst h; simp at hi
  show u = if (if e = i then true else L e) = true then w1 else w0
  rw [he]; exact hZ
theorem zturn (hg : o.guard = none) (h : ∀ (a : Act), AtZ ops Ds a0 w0 w1 e o a w0 → ∃ v, (execOp a.eval o).run P w0 = .ok (.value v) w1 ∧ still Ds e v w1) : DutyZ P ops Q (still Ds) (Zt e w0 w1) a0 e o := by
  intro L a u hL hZ hd ho
  have hu : u = w0 := by unfold Zt at hZ; rw [hL] at hZ; exact hZ
  subst hu
  obtain ⟨v, hr, hD⟩ := h a ⟨.inl rfl, hd, ho⟩
  refine ⟨hg, ?_⟩
  unfold Oper.wp
  rw [hr]
  refine ⟨v, rfl, fun _ => hD, ?_, fun _ _ _ h => h⟩
  show w1 = if (if e = e then true else L e) = true then w1 else _
  rw [if_pos rfl, if_pos rfl]
theorem regionX {id : Nat} {a : Act} {w : World} (Ds : List (Value → Prop)) (e m c n : Nat) (hm : P.follows .mixedOrders = true) (hn : a.tmps.size = n) (hc : ops.size = m + c) (hs : shape ops m n = true) (he : decide (e < m) = true) (w1 : World)
    (hS : StepsZ P ops Q (still Ds) (Zt e { w with drawn := w.drawn + 1 } w1) a m 0 ops.toList)
    (hE : ∀ a', a'.defers = a.defers → a'.tmps.size = n → (∀ j d, decide (j < m) = true → dstOf ops j = some d → still Ds j (a'.eval (.tmp d)) w1) →
      (∀ t, (List.range m).all (fun j => dstOf ops j != some t) = true → a'.eval (.tmp t) = a.eval (.tmp t)) → wpOps P ops Q (List.range' m c) a' w1) :
    (Code.region id ops true).wp P Q a w := by
  refine regionZ (still Ds) (Zt e { w with drawn := w.drawn + 1 } w1) m c n hm hn hc hs rfl hS fun a' w' hZ => ?_
  have hw : w' = w1 := hZ.trans (if_pos he)
  subst hw
  exact hE a'
end
section
variable {a : Act} {o : Oper} {t : TypeId} {m x y : Operand} {mv kv v : Value} {u u1 : World}
theorem run_look0 (hop : o.op = .lookup t m x false) (hm : a.eval m = mv) (hx : a.eval x = kv) (h : (Instr.lookup t mv kv false).run P u = .ok v u) : (execOp a.eval o).run P u = .ok (.value v) u := by
  unfold execOp; rw [hop]; simp only [hm, hx]; simp [h, Result.andThen]
theorem run_upd (hop : o.op = .mapUpdate t m x y) (hm : a.eval m = mv) (hx : a.eval x = kv) (hy : a.eval y = v) (h : (Instr.mapUpdate t mv kv v).run P u = .ok () u1) : (execOp a.eval o).run P u = .ok .skip u1 := by
  unfold execOp; rw [hop]; simp only [hm, hx, hy]; simp [h, Result.andThen]
theorem run_entry (hop : o.op = .mapEntry t m x) (hm : a.eval m = mv) (hx : a.eval x = kv) (h : (Instr.mapEntry t mv kv).run P u = .ok v u1) : (execOp a.eval o).run P u = .ok (.value v) u1 := by
  unfold execOp; rw [hop]; simp only [hm, hx]; simp [h, Result.andThen]
theorem run_estore (hop : o.op = .entryStore t m x y) (hm : a.eval m = mv) (hx : a.eval x = kv) (hy : a.eval y = v) (h : (Instr.entryStore t mv kv v).run P u = .ok () u1) : (execOp a.eval o).run P u = .ok .skip u1 := by
  unfold execOp; rw [hop]; simp only [hm, hx, hy]; simp [h, Result.andThen]
theorem run_ext1 {v1 : Value} (hop : o.op = .extract x 1) (hx : a.eval x = .tuple #[v, v1]) : (execOp a.eval o).run P u = .ok (.value v1) u := by
  unfold execOp; rw [hop]; simp only [hx]; rfl
theorem run_inc {c : Int} {T T2 : TypeId} (hop : o.op = .binOp .add T x (.const (.int .i64 1)) T2) (hx : a.eval x = .int .i64 c) (hu : P.underlying T = some (.int .i64)) (h0 : 0 ≤ c) (h1 : c ≤ 1000000000) : (execOp a.eval o).run P u = .ok (.value (.int .i64 (c + 1))) u := by
  have hw := i64_id (x := c + 1) (by omega) (by omega)
  have e1 : a.eval (.const (.int .i64 1)) = .int .i64 1 := rfl
  unfold execOp; rw [hop]; simp only [resolve, hx, e1]
  go_simp
end
end Go.Proofs.Eng
end
section
namespace Go.Proofs.YtgnmjaacnmkgnaaDoor.X
open Go.RowKit Go.Shelf Go.Proofs Go.Proofs.YtgnmjaacnmkgnaaDoorW.PrintWords Go.Proofs.YtgnmjaacnmkgnaaDoorW.PrintLast Go.Proofs.YtgnmjaacnmkgnaaDoorW.PrintMore
set_option linter.unusedVariables false
set_option linter.unusedSimpArgs false
attribute [local go_sem] max2_int min2_int max_two min_two
set_option maxHeartbeats 4000000 in
set_option maxRecDepth 100000 in
theorem Dc.Graphs_calls (v : Value) (l : List Evt.Ev) (w : World) (hT : Tabs.Holds w) (hl : Eng.Reads w v l.length 5 (Evt.cells l)) (hlen : l.length ≤ 100000) (hsz : ∀ k, k < l.length → (l.getD k default).text.size ≤ 2000) (hasz : ∀ k, k < l.length → (l.getD k default).anchor.size ≤ maxLen) (htw0 : Dc.TwAll ⟨[], [], []⟩ l) : Calls Tryd.prog 12 #[v] w fun e w' => ∃ outv fin, e = .returned (.tuple #[outv, .int .i64 (Dc.graphsF l).2]) ∧ List.map (·.1) fin = (Dc.graphsF l).1 ∧ w'.ownsRow w.heap.size 48 1 outv fin.length (List.map (·.2) fin) ∧ (∀ f ∈ fin, Dc.Fin w w' f (fun _ => False)) ∧ Below w.heap.size w w' := by
 have hm := Eng.Reads.len_le hl
 refine Eng.enter Tryd.func12 rfl fun A d0 s0 v0 => ?_
 have s0 : A.tmps.size = 39 := s0
 have y0 : A.eval (.tmp 0) = v := v0 0 (by simp)
 clear v0
 have bl0 : Below w.heap.size w w := Below.refl _ _
 refine wp_seq (Eng.rP [.slice none 0 0, .int .i64 0] 2 0 s0 (.c (Eng.pq fun a w' H => Eng.ra (rfl : a.eval (.const (.slice none 0 0)) = .slice none 0 0)) (.c (Eng.pq fun a w' H => Eng.ra (rfl : a.eval (.const (.int .i64 0)) = .int .i64 0)) .nil)) fun A w1 T => ?_)
 have y0 := T.r1 y0
 have Fl_ := T.f hl
 have y2 := T.u 0 2
 have ⟨d1, s1, bl1⟩ := T.h d0 s0 bl0
 clear T
 refine Eng.tail_nil (wp_seq (wp_seq ?_))
 obtain ⟨q10, Bq10⟩ := Eng.nm (Evt.rightG Evt.rightE l)
 obtain ⟨q11, Bq11⟩ := Eng.nm (!q10)
 refine Eng.rS [v, .bool q10, .bool q11] (fun _ => .plain) 3 0 s1 ?_ ?_
 ·refine .c ?_ (.c ?_ (.c ?_ (.nil)))
  ·exact Eng.qq 0 y0
  ·refine Eng.pv fun a w' H => Eng.call Tryd.func17 (by kernel_rfl) (by kernel_rfl) rfl #[v] ?_ ?_
   ·have e0 : a.eval (.tmp 9) = v := (H.d 0 9); simp only [List.map_toArray, List.map_cons, List.map_nil, e0]
   refine (Evt.Right_calls v l _ (Tabs.below (Tabs.below hT bl1) H.below) (Eng.Reads.below Fl_ H.below) (fun k hk => Nat.le_trans (hsz k hk) (by decide)) (by omega)).mono ?_
   rintro e w'' ⟨rfl, hb⟩
   exact ⟨_, rfl, (by show _ = Value.bool q10; rw [Bq10]), hb⟩
  exact Eng.pv fun a w' H => Eng.vr (Eng.bb Bq11) (Eng.run_not rfl (H.d 1 10))
 intro A w2 T
 have ⟨y0, y2⟩ := T.r2 y0 y2
 have Fl_ := T.f Fl_
 have y11 := T.u 2 11
 have ⟨d2, s2, bl2⟩ := T.h d1 s1 bl1
 clear T
 refine Eng.tail_nil (wp_cond_split y11 (fun hq => ?_) (fun hq => ?_))
 ·
  have c11 := Bq11.symm.trans hq
  clear hq
  have hnr : Evt.rightG Evt.rightE l = false := by have h1 := c11; rw [Bq10] at h1; simpa using h1
  refine wp_seq (Eng.rP [.slice none 0 0, .int .i64 5] 2 0 s2 (.c (Eng.pq fun a w' H => Eng.ra (rfl : a.eval (.const (.slice none 0 0)) = .slice none 0 0)) (.c (Eng.pq fun a w' H => Eng.ra (rfl : a.eval (.const (.int .i64 5)) = .int .i64 5)) .nil)) fun A w4 T => ?_)
  have y2 := T.u 0 2
  have y3 := T.u 1 3
  have d4 := T.e d2
  have bl4 := T.b bl2
  clear T
  refine Eng.tail_nil (wp_ret ?_)
  repeat (first | refine Eng.in_ret ?_ | refine Eng.then_ret ?_)
  exact Eng.ret2 rfl d4 y2 y3 ⟨_, [], by rw [Dc.graphsF_no hnr], by rw [Dc.graphsF_no hnr]; rfl, Dc.fin_nil, fun f hf => absurd hf List.not_mem_nil, bl4⟩
 have c11 := Bq11.symm.trans hq
 clear hq
 have hnr : Evt.rightG Evt.rightE l = true := by have h1 := c11; rw [Bq10] at h1; simpa using h1
 refine wp_skip (wp_seq ?_)
 refine Eng.regionT (n := 3) rfl (Eng.tail_val (w1 := w2) (v := .agg #[.slice none 0 0, .slice none 0 0, .map none]) rfl rfl rfl ?_ s2 rfl ?_)
 ·simp only [execOp, resolve]
  go_simp
 intro A d6 s6 y12 hr
 have ⟨y0, y2, y11⟩ := Eng.k3 hr y0 y2 y11
 have d6 := d6.trans d2
 refine Eng.tail_ex rfl rfl rfl (Eng.box_ex (cs := #[.slice none 0 0, .slice none 0 0, .map none]) rfl y12 (by rfl)) s6 rfl fun v_7 w7 A R d7 s7 y13 hr => ?_
 obtain ⟨g13_7, ev_7, rg_7, lg13_, kg13_, b_7⟩ := R
 have ⟨y0, y2, y11⟩ := Eng.k3 hr y0 y2 y11
 have d7 := d7.trans d6
 have og13_7 : w.heap.size ≤ g13_7 := Nat.le_trans bl2.size rg_7
 have Fl_ := Eng.Reads.below Fl_ b_7
 have bl7 := bl2.trans (b_7.mono bl2.size)
 rw [ev_7] at y13
 refine Eng.tail_val rfl rfl rfl (Eng.ra y13) s7 rfl fun A d8 s8 y4 hr => ?_
 have ⟨y0, y2, y11⟩ := Eng.k3 hr y0 y2 y11
 have d8 := d8.trans d7
 refine Eng.tail_nil (wp_seq (wp_seq ?_))
 refine Eng.rP [v, .int .i64 ((l.length : Nat) : Int), .int .i64 0] 3 0 s8 (.c (Eng.qq 0 y0) (.c (Eng.pv fun a w' H => Eng.vr (v := .int .i64 ((l.length : Nat) : Int)) rfl (Eng.run_len_sl rfl Tryd.underlying37 (H.d 0 14) (Eng.Reads.below Fl_ H.below))) (.c (Eng.pq fun a w' H => Eng.rv (rfl : a.eval (.const (.int .i64 0)) = .int .i64 0)) .nil))) fun A w9 T => ?_
 have ⟨y0, y2, y4, y11⟩ := T.r4 y0 y2 y4 y11
 have ⟨kg13_7_, lg13_7_⟩ := T.y kg13_ lg13_
 have y14 := T.u 0 14
 have y15 := T.u 1 15
 have y16 := T.u 2 16
 have ⟨d9, s9, bl9⟩ := T.h d8 s8 bl7
 clear T
 refine Eng.tail_nil (wp_block ?_)
 refine Eng.loopN (fun n a w' => ∃ (k : Nat) (gv : Value) (ov : Value) (mv : Value) (outv : Value) (st : List (Int × Int)) (d : Dc.Dc) (fin : List (List Dc.Nd × Value)) (live : Bool), l.length - k = n ∧ (k ≤ l.length) ∧ (Evt.rightR Evt.rightE st (List.drop k l) = true) ∧ (Dc.runF ⟨[], [], []⟩ [] l = Dc.runF d (List.map (·.1) fin) (List.drop k l)) ∧ (Dc.HS w w' g13_7 gv ov mv st d fin k live) ∧ (w'.ownsRow w.heap.size 48 1 outv (List.length fin) (List.map (·.2) fin)) ∧ (Dc.TwAll d (List.drop k l)) ∧ (List.length fin ≤ k) ∧ a.defers = [] ∧ a.tmps.size = 39 ∧ Below w.heap.size w w' ∧ a.eval (.tmp 0) = v ∧ a.eval (.tmp 2) = outv ∧ a.eval (.tmp 4) = .pointer (some ⟨g13_7, 0, none⟩) ∧ a.eval (.tmp 11) = .bool q11 ∧ a.eval (.tmp 14) = v ∧ a.eval (.tmp 15) = .int .i64 ((l.length : Nat) : Int) ∧ a.eval (.tmp 16) = .int .i64 (k : Nat) ∧ w'.heap[g13_7]? = some (.cells (#[gv, ov, mv]) 64 (0, 0)) ∧ g13_7 < w'.heap.size) (n0 := l.length - 0) ?_ ?_
 ·exact ⟨0, .slice none 0 0, .slice none 0 0, .map none, .slice none 0 0, [], ⟨[], [], []⟩, [], false, rfl, by omega, Dc.rightG_R hnr, rfl, Dc.HS.start, Dc.fin_nil, htw0, by simp, d9, s9, bl9, y0, (y2.trans (by first | rfl | (congr 1; rw [Eng.i64_id (by omega) (by omega)]; omega) | (simp; done))), y4, y11, y14, y15, (y16.trans (by first | rfl | (congr 1; rw [Eng.i64_id (by omega) (by omega)]; omega) | (simp; done))), (kg13_7_.trans (by first | rfl | (simp; done))), lg13_7_⟩
 rintro n A w10 ⟨k, gv, ov, mv, outv, st, d, fin, live, rfl, hc0_10, hc1_10, hc2_10, hc3_10, hc4_10, hc5_10, hc6_10, d10, s10, bl10, y0, y2, y4, y11, y14, y15, y16, kg13_7_, lg13_7_⟩
 have Fl_ := Eng.Reads.below hl bl10
 have hk1 := hc0_10
 have hrr := hc1_10
 have hrun := hc2_10
 have htw := hc5_10
 have hfl := hc6_10
 refine wp_seq ?_
 obtain ⟨q17, Bq17⟩ := Eng.nm (decide ((k : Nat) < ((l.length : Nat) : Int)))
 refine Eng.rS [.bool q17] (fun _ => .plain) 1 0 s10 ?_ ?_
 ·refine .c ?_ (.nil)
  ·exact Eng.pv fun a w' H => Eng.vr (Eng.bb Bq17) (Eng.o2 (H.q 16 y16) (H.q 15 y15))
 intro A w11 T
 have ⟨y0, y2, y4, y11, y14, y15, y16⟩ := T.r7 y0 y2 y4 y11 y14 y15 y16
 have ⟨kg13_7_, lg13_7_⟩ := T.y kg13_7_ lg13_7_
 have Fl_ := T.f Fl_
 have Oout_11 := T.g hc4_10
 have y17 := T.u 0 17
 have ⟨d11, s11, bl11⟩ := T.h d10 s10 bl10
 have XH_11 := Dc.HS.below hc3_10 T.below
 clear T
 refine Eng.tail_nil (wp_seq ?_)
 refine wp_cond_split y17 (fun hq => ?_) (fun hq => ?_)
 ·
  have c17 := Bq17.symm.trans hq
  clear hq
  have c17 := of_decide_eq_true c17
  have hk0 : k < l.length := by omega
  obtain ⟨st2, ht2, hrr2⟩ := Evt.rightR_step hk0 hrr
  have htw2 := Dc.twall_step hk0 htw
  have hover := Dc.over_st XH_11 ht2
  refine wp_skip (wp_seq ?_)
  refine wp_block (wp_seq ?_)
  refine Eng.regionS (Eng.still [fun u_ => u_ = Eng.elemPtr v (k * 5), fun u_ => u_ = .agg #[.int .i64 ((l.getD k default).kind), .string ((l.getD k default).anchor), .string ((l.getD k default).tag), .string ((l.getD k default).text), .bool ((l.getD k default).plain)], fun u_ => True, fun u_ => True]) (fun i => ([.plain, .plain, .alloc 30 #[.int .i64 0, .string ⟨#[]⟩, .string ⟨#[]⟩, .string ⟨#[]⟩, .bool false], .store 2 #[.int .i64 ((l.getD k default).kind), .string ((l.getD k default).anchor), .string ((l.getD k default).tag), .string ((l.getD k default).text), .bool ((l.getD k default).plain)]] : List Eng.Kind).getD i .plain) 4 0 39 s11 rfl (by kernel_rfl) (Eng.still_stable _) (Or.inr (Eng.still_any _)) ?_ ?_
  ·refine .c ?_ (.c ?_ (.c ?_ (.c ?_ (.nil))))
   ·exact Eng.pv fun a w' H => Eng.vr (v := Eng.elemPtr v (k * 5)) rfl (Eng.run_index_sl rfl Tryd.underlying37 (by kernel_rfl) (H.q 14 y14) ((H.q 16 y16).trans (congrArg (Value.int _) (show (k : Nat) = ((k : Nat) : Int) from by omega))) (Eng.Reads.below Fl_ H.below) (by omega) rfl)
   ·exact Eng.pv fun a w' H => Eng.vr (v := .agg #[.int .i64 ((l.getD k default).kind), .string ((l.getD k default).anchor), .string ((l.getD k default).tag), .string ((l.getD k default).text), .bool ((l.getD k default).plain)]) rfl (Eng.run_load_els [.int .i64 ((l.getD k default).kind), .string ((l.getD k default).anchor), .string ((l.getD k default).tag), .string ((l.getD k default).text), .bool ((l.getD k default).plain)] rfl (H.d 0 18) (Eng.Reads.below Fl_ H.below) (Evt.cells_at l k (by omega)) rfl Tryd.underlying30 rfl (by kernel_rfl))
   ·refine Eng.made rfl (by simp) rfl (fun a w' hd ho => ?_) (fun _ _ => trivial)
    simp only [execOp]
    go_simp
   refine Eng.stored [.int .i64 ((l.getD k default).kind), .string ((l.getD k default).anchor), .string ((l.getD k default).tag), .string ((l.getD k default).text), .bool ((l.getD k default).plain)] rfl rfl rfl (j := 2) (d := 6) (by kernel_rfl) rfl rfl (Eng.store_uniq (by kernel_rfl)) rfl rfl fun a w' g e hc hd ho => ?_
   have e0 : a.eval _ = .agg #[.int .i64 ((l.getD k default).kind), .string ((l.getD k default).anchor), .string ((l.getD k default).tag), .string ((l.getD k default).text), .bool ((l.getD k default).plain)] := (hd 1 19 (by kernel_rfl) rfl)
   have z0 := (Eng.cells hc 0).trans rfl
   have z1 := (Eng.cells hc 1).trans rfl
   have z2 := (Eng.cells hc 2).trans rfl
   have z3 := (Eng.cells hc 3).trans rfl
   have z4 := (Eng.cells hc 4).trans rfl
   have f0 := Eng.unfrozen hc 0
   have f1 := Eng.unfrozen hc 1
   have f2 := Eng.unfrozen hc 2
   have f3 := Eng.unfrozen hc 3
   have f4 := Eng.unfrozen hc 4
   simp only [execOp, e, e0]
   go_simp
   rfl
  intro A w13 T
  have ⟨y0, y2, y4, y11, y14, y15, y16⟩ := T.r7 y0 y2 y4 y11 y14 y15 y16
  have kg13_7_ := T.x lg13_7_ kg13_7_
  have Oout_13 := T.g Oout_11
  obtain ⟨g6_13, y6, rg6_13, lg6_13_, kg6_13_⟩ := T.st 2 6 3 _ _ _ rfl rfl rfl rfl rfl
  have ⟨d13, s13, bl13⟩ := T.h d11 s11 bl11
  have XH_13 := Dc.HS.below XH_11 T.below
  clear T
  refine Eng.tail_nil (wp_seq ?_)
  refine (wpIn_wide (n := 1)).1 (EngI.regionT (n := 8) rfl ?_)
  refine EngI.tw rfl (Eng.rv y4) s13 d13 fun A d14 s14 y21 hr => ?_
  have ⟨y0, y2, y4, y6, y11, y14, y15, y16⟩ := Eng.k8 hr y0 y2 y4 y6 y11 y14 y15 y16
  refine EngI.tw rfl (Eng.run_load_all rfl y6 kg6_13_ Tryd.underlying30 rfl (by kernel_rfl)) s14 d14 fun A d15 s15 y22 hr => ?_
  have ⟨y0, y2, y4, y11, y14, y15, y16, y21⟩ := Eng.k8 hr y0 y2 y4 y11 y14 y15 y16 y21
  refine EngI.tail_call EngI.free_wide Tryd.func30 (by kernel_rfl) (by kernel_rfl) rfl rfl rfl rfl #[.pointer (some ⟨g13_7, 0, none⟩), .agg #[.int .i64 ((l.getD k default).kind), .string ((l.getD k default).anchor), .string ((l.getD k default).tag), .string ((l.getD k default).text), .bool ((l.getD k default).plain)]] (Eng.m2 y21 y22) s15 rfl (R := fun v w' => v = .tuple #[.bool (Dc.stepF d (l.getD k default)).2.1, .int .i64 (Dc.stepF d (l.getD k default)).2.2] ∧ Below w.heap.size w w' ∧ Dc.Keep w13 w' g13_7 ∧ ∃ gv' ov' mv', w'.heap[g13_7]? = some (.cells #[gv', ov', mv'] 64 (0, 0)) ∧ ((Dc.stepF d (l.getD k default)).2.2 = 0 → Dc.HS w w' g13_7 gv' ov' mv' st2 (Dc.stepF d (l.getD k default)).1 fin (k + 1) true)) ((Dc.take_all g13_7 gv ov mv (l.getD k default) st st2 d fin k live w _ bl13 og13_7 kg13_7_ XH_13 ht2 (hsz k hk0) (hasz k hk0) (by omega) htw2.1).mono ?_) fun v_16 w16 A R d16 s16 y23 hr => ?_
  ·rintro e w1 ⟨rfl, r1⟩; exact ⟨_, rfl, rfl, r1⟩
  have ⟨y0, y2, y4, y11, y14, y15, y16⟩ := Eng.k7 hr y0 y2 y4 y11 y14 y15 y16
  have d16 := d16.trans d15
  obtain ⟨ev_16, bl16, kp_, gv16, ov16, mv16, kb16, hP16⟩ := R
  obtain ⟨er16, her16⟩ : ∃ e, e = (Dc.stepF d (l.getD k default)).2.2 := ⟨_, rfl⟩
  obtain ⟨vr16, hvr16⟩ : ∃ e, e = (Dc.stepF d (l.getD k default)).2.1 := ⟨_, rfl⟩
  rw [ev_16, ← her16, ← hvr16] at y23
  rw [← her16] at hP16
  have Oout_16 := Dc.own_keep Oout_13 kp_ kg13_7_
  have lb16 := (Array.getElem?_eq_some_iff.1 kb16).1
  refine EngI.tw rfl (Eng.rv y23) s16 d16 fun A d17 s17 y20 hr => ?_
  have ⟨y0, y2, y4, y11, y14, y15, y16⟩ := Eng.k7 hr y0 y2 y4 y11 y14 y15 y16
  refine EngI.tw (w1 := w16) (v := .bool vr16) rfl (Eng.o1 y20) s17 d17 ?_
  intro A d18 s18 y24 hr
  have ⟨y0, y2, y4, y11, y14, y15, y16, y20⟩ := Eng.k8 hr y0 y2 y4 y11 y14 y15 y16 y20
  refine EngI.tw (w1 := w16) (v := .int .i64 er16) rfl (Eng.o1 y20) s18 d18 ?_
  intro A d19 s19 y25 hr
  have ⟨y0, y2, y4, y11, y14, y15, y16, y24⟩ := Eng.k8 hr y0 y2 y4 y11 y14 y15 y16 y24
  refine EngI.tw rfl (Eng.ra y24) s19 d19 fun A d20 s20 y7 hr => ?_
  have ⟨y0, y2, y4, y11, y14, y15, y16, y25⟩ := Eng.k8 hr y0 y2 y4 y11 y14 y15 y16 y25
  refine EngI.tw rfl (Eng.ra y25) s20 d20 fun A d21 s21 y8 hr => ?_
  have ⟨y0, y2, y4, y7, y11, y14, y15, y16⟩ := Eng.k8 hr y0 y2 y4 y7 y11 y14 y15 y16
  refine EngI.tail_nil (wp_seq (wp_seq ?_))
  obtain ⟨q27, Bq27⟩ := Eng.nm (!(er16 == 0))
  refine Eng.rP [.int .i64 er16, .bool q27] 2 0 s21 (.c (Eng.qq 8 y8) (.c (Eng.pv fun a w' H => Eng.vr (Eng.bb Bq27) (Eng.okz (.int .i64 0) (H.d 0 26))) .nil)) fun A w22 T => ?_
  have ⟨y0, y2, y4, y7, y8, y11, y14, y15, y16⟩ := T.r9 y0 y2 y4 y7 y8 y11 y14 y15 y16
  have ⟨kg13_7_, lg13_7_⟩ := T.y kb16 lb16
  have Oout_22 := T.g Oout_16
  have y27 := T.u 1 27
  have ⟨d22, s22, bl22⟩ := T.h d21 s21 bl16
  have XP_22 := Dc.pend_below hP16 T.below
  clear T
  refine Eng.tail_nil (wp_cond_split y27 (fun hq => ?_) (fun hq => ?_))
  ·
   have c27 := Bq27.symm.trans hq
   clear hq
   have he0 : ¬ er16 = 0 := by simpa using c27
   refine wp_seq (Eng.rP [.int .i64 er16, .slice none 0 0, .int .i64 er16] 3 0 s22 (.c (Eng.qq 8 y8) (.c (Eng.pq fun a w' H => Eng.ra (rfl : a.eval (.const (.slice none 0 0)) = .slice none 0 0)) (.c (Eng.qe 0 28) .nil))) fun A w24 T => ?_)
   have y2 := T.u 1 2
   have y3 := T.u 2 3
   have d24 := T.e d22
   have bl24 := T.b bl22
   clear T
   refine Eng.tail_nil (wp_ret ?_)
   repeat (first | refine Eng.in_ret ?_ | refine Eng.then_ret ?_)
   have hG := (Dc.graphsF_is hnr).trans hrun
   rw [Dc.runF_err hk0 (her16 ▸ he0)] at hG
   exact Eng.ret2 rfl d24 y2 y3 ⟨_, [], by rw [hG, her16], by rw [hG]; rfl, Dc.fin_nil, fun f hf => absurd hf List.not_mem_nil, bl24⟩
  have c27 := Bq27.symm.trans hq
  clear hq
  have he0 : er16 = 0 := by simpa using c27
  have H26 := XP_22 he0
  refine wp_skip (wp_seq ?_)
  refine Eng.rS [.bool vr16] (fun _ => .plain) 1 0 s22 ?_ ?_
  ·refine .c ?_ (.nil)
   ·exact Eng.qq 7 y7
  intro A w27 T
  have ⟨y0, y2, y4, y11, y14, y15, y16⟩ := T.r7 y0 y2 y4 y11 y14 y15 y16
  have ⟨kg13_7_, lg13_7_⟩ := T.y kg13_7_ lg13_7_
  have Oout_27 := T.g Oout_22
  have y29 := T.u 0 29
  have ⟨d27, s27, bl27⟩ := T.h d22 s22 bl22
  have XH_27 := Dc.HS.below H26 T.below
  clear T
  refine Eng.tail_nil (wp_cond_split y29 (fun hq => ?_) (fun hq => ?_))
  ·
   have c29 := hq
   clear hq
   have hov : (Dc.stepF d (l.getD k default)).2.1 = true := by rw [← hvr16]; exact c29
   have hst2 := hover hov
   subst hst2
   obtain ⟨h_, mb_, _, _, hR_, _⟩ := XH_27.doc rfl
   have Og29 := hR_.gr
   have Fg29 := Eng.Reads.of_own Og29
   have H29 := Dc.HS.over XH_27
   refine Eng.regionT (n := 8) rfl (Eng.tail_val rfl rfl rfl (Eng.rv y2) s27 rfl fun A d30 s30 y30 hr => ?_)
   have ⟨y0, y4, y11, y14, y15, y16⟩ := Eng.k6 hr y0 y4 y11 y14 y15 y16
   have d30 := d30.trans d27
   refine Eng.tail_val rfl rfl rfl (Eng.rv y4) s30 rfl fun A d31 s31 y31 hr => ?_
   have ⟨y0, y4, y11, y14, y15, y16, y30⟩ := Eng.k7 hr y0 y4 y11 y14 y15 y16 y30
   have d31 := d31.trans d30
   refine Eng.tail_val (w1 := w27) (v := .pointer (some ⟨g13_7, 0, none⟩)) rfl rfl rfl ?_ s31 rfl ?_
   ·exact Eng.run_nilb rfl y31
   intro A d32 s32 y32 hr
   have ⟨y0, y4, y11, y14, y15, y16, y30⟩ := Eng.k7 hr y0 y4 y11 y14 y15 y16 y30
   have d32 := d32.trans d31
   refine Eng.tail_val (w1 := w27) (v := .pointer (some ⟨g13_7, 0, none⟩)) rfl rfl rfl ?_ s32 rfl ?_
   ·exact Eng.fb Tryd.underlying64 0 y32
   intro A d33 s33 y33 hr
   have ⟨y0, y4, y11, y14, y15, y16, y30⟩ := Eng.k7 hr y0 y4 y11 y14 y15 y16 y30
   have d33 := d33.trans d32
   refine Eng.tail_val (w1 := w27) (v := gv16) rfl rfl rfl ?_ s33 rfl ?_
   ·exact Eng.lb y33 (((Below.refl _ _).block _ lg13_7_).trans kg13_7_)
   intro A d34 s34 y34 hr
   have ⟨y0, y4, y11, y14, y15, y16, y30⟩ := Eng.k7 hr y0 y4 y11 y14 y15 y16 y30
   have d34 := d34.trans d33
   refine Eng.tail_ex rfl rfl rfl (Eng.run_buildN1 (z := .slice none 0 0) [gv16] rfl Tryd.underlying34 (by kernel_rfl) rfl rfl rfl rfl (by intro v hv; have h := List.mem_singleton.1 hv; rw [h]; exact (Eng.Reads.cells1 Fg29)) (by have e0 : A.eval (.tmp 34) = gv16 := y34; simp [e0])) s34 rfl fun v_35 w35 A R d35 s35 y35 hr => ?_
   obtain ⟨F_35, b_35⟩ := R
   have ⟨y0, y4, y11, y14, y15, y16, y30⟩ := Eng.k7 hr y0 y4 y11 y14 y15 y16 y30
   have d35 := d35.trans d34
   have kg13_7_ := (b_35.block _ lg13_7_).trans kg13_7_
   have lg13_7_ := Nat.lt_of_lt_of_le lg13_7_ b_35.size
   have Oout_35 := Eng.own_below Oout_27 b_35
   have Fgrw_ := Eng.Reads.below Fg29 b_35
   have XH_35 := Dc.HS.below H29 b_35
   have bl35 := bl27.trans (b_35.mono bl27.size)
   refine Eng.tail_ex rfl rfl rfl (Eng.run_appendI (z := .slice none 0 0) rfl Tryd.underlying34 (by kernel_rfl) rfl rfl y30 Oout_35 y35 F_35 (by intro u hu; simp at hu; subst hu; obtain ⟨A_, c_, e_⟩ := Eng.Reads.shape Fgrw_; rw [e_]; rfl) (by omega) bl35.size) s35 rfl fun v_36 w36 A R d36 s36 y36 hr => ?_
   obtain ⟨O_36, _, b_36, G_36, EO_36⟩ := R
   have ⟨y0, y4, y11, y14, y15, y16⟩ := Eng.k6 hr y0 y4 y11 y14 y15 y16
   have d36 := d36.trans d35
   have kg13_7_ := (G_36.block _ lg13_7_ (Eng.own_ne Oout_35 kg13_7_ rfl)).trans kg13_7_
   have lg13_7_ := Nat.lt_of_lt_of_le lg13_7_ G_36.size
   have XH_36 := Dc.HS.grown XH_35 Oout_35 G_36
   have bl36 := bl35.trans b_36
   have Oa36 : w36.ownsRow w.heap.size 48 1 v_36 (fin ++ [((Dc.stepF d (l.getD k default)).1.nodes, gv16)]).length (List.map (·.2) (fin ++ [((Dc.stepF d (l.getD k default)).1.nodes, gv16)])) := Dc.fin_snoc O_36
   have Fa36 := Eng.Reads.of_own Oa36
   refine Eng.tail_val rfl rfl rfl (Eng.ra y36) s36 rfl fun A d37 s37 y2 hr => ?_
   have ⟨y0, y4, y11, y14, y15, y16⟩ := Eng.k6 hr y0 y4 y11 y14 y15 y16
   have d37 := d37.trans d36
   refine Eng.tail_nil (Eng.rP [.int .i64 (IntKind.i64.wrap ((k : Nat) + 1)), .int .i64 (IntKind.i64.wrap ((k : Nat) + 1))] 2 0 s37 (.c (Eng.pv fun a w' H => Eng.vr (v := .int .i64 (IntKind.i64.wrap ((k : Nat) + 1))) rfl (Eng.ok (.int .i64 1) (H.q 16 y16))) (.c (Eng.qd 0 37) .nil)) fun A w38 T => ?_)
   have ⟨y0, y2, y4, y11, y14, y15⟩ := T.r6 y0 y2 y4 y11 y14 y15
   have ⟨kg13_7_, lg13_7_⟩ := T.y kg13_7_ lg13_7_
   have Oa36_38 := T.g Oa36
   have y16 := T.u 1 16
   have ⟨d38, s38, bl38⟩ := T.h d37 s37 bl36
   have XH_38 := Dc.HS.below XH_36 T.below
   clear T
   exact Eng.tail_nil (⟨_, by omega, k + 1, gv16, ov16, mv16, v_36, [], (Dc.stepF d (l.getD k default)).1, (fin ++ [((Dc.stepF d (l.getD k default)).1.nodes, gv16)]), false, rfl, by omega, hrr2, (by rw [hrun, Dc.runF_step hk0 (her16 ▸ he0), if_pos hov]; simp), XH_38, Oa36_38, htw2.2, (by simp; omega), d38, s38, bl38, y0, (y2.trans (by first | rfl | (congr 1; rw [Eng.i64_id (by omega) (by omega)]; omega) | (simp; done))), y4, y11, y14, y15, (y16.trans (by first | rfl | (congr 1; rw [Eng.i64_id (by omega) (by omega)]; omega) | (simp; done))), (kg13_7_.trans (by first | rfl | (simp; done))), lg13_7_⟩)
  have c29 := hq
  clear hq
  have hov : ¬ (Dc.stepF d (l.getD k default)).2.1 = true := by rw [← hvr16]; simpa using c29
  refine wp_skip (Eng.rP [.int .i64 (IntKind.i64.wrap ((k : Nat) + 1)), .int .i64 (IntKind.i64.wrap ((k : Nat) + 1))] 2 0 s27 (.c (Eng.pv fun a w' H => Eng.vr (v := .int .i64 (IntKind.i64.wrap ((k : Nat) + 1))) rfl (Eng.ok (.int .i64 1) (H.q 16 y16))) (.c (Eng.qd 0 37) .nil)) fun A w40 T => ?_)
  have ⟨y0, y2, y4, y11, y14, y15⟩ := T.r6 y0 y2 y4 y11 y14 y15
  have ⟨kg13_7_, lg13_7_⟩ := T.y kg13_7_ lg13_7_
  have Oout_40 := T.g Oout_27
  have y16 := T.u 1 16
  have ⟨d40, s40, bl40⟩ := T.h d27 s27 bl27
  have XH_40 := Dc.HS.below XH_27 T.below
  clear T
  exact Eng.tail_nil (⟨_, by omega, k + 1, gv16, ov16, mv16, outv, st2, (Dc.stepF d (l.getD k default)).1, fin, true, rfl, by omega, hrr2, (by rw [hrun, Dc.runF_step hk0 (her16 ▸ he0), if_neg hov]), XH_40, Oout_40, htw2.2, (by omega), d40, s40, bl40, y0, (y2.trans (by first | rfl | (congr 1; rw [Eng.i64_id (by omega) (by omega)]; omega) | (simp; done))), y4, y11, y14, y15, (y16.trans (by first | rfl | (congr 1; rw [Eng.i64_id (by omega) (by omega)]; omega) | (simp; done))), (kg13_7_.trans (by first | rfl | (simp; done))), lg13_7_⟩)
 have c17 := Bq17.symm.trans hq
 clear hq
 have c17 := of_decide_eq_false c17
 have hke : k = l.length := by omega
 refine wp_exit (wp_seq ?_)
 refine Eng.rP [outv, outv, .int .i64 0] 3 0 s11 (.c (Eng.qq 2 y2) (.c (Eng.qe 0 38) (.c (Eng.pq fun a w' H => Eng.ra (rfl : a.eval (.const (.int .i64 0)) = .int .i64 0)) .nil))) fun A w42 T => ?_
 have Oout_42 := T.g Oout_11
 have y2 := T.u 1 2
 have y3 := T.u 2 3
 have d42 := T.e d11
 have bl42 := T.b bl11
 have XH_42 := Dc.HS.below XH_11 T.below
 clear T
 refine Eng.tail_nil (wp_ret ?_)
 repeat (first | refine Eng.in_ret ?_ | refine Eng.then_ret ?_)
 have hG := (Dc.graphsF_is hnr).trans hrun
 rw [Dc.runF_end hke] at hG
 exact Eng.ret2 rfl d42 y2 y3 ⟨_, fin, by rw [hG], by rw [hG], Oout_42, XH_42.fins, bl42⟩
end Go.Proofs.YtgnmjaacnmkgnaaDoor.X
end
section
namespace Go.Proofs.YtgnmjaacnmkgnaaDoor.X
open Go.RowKit Go.Shelf Go.Proofs Go.Maps Go.WideMaps
set_option linter.unusedVariables false
set_option linter.unusedSimpArgs false
namespace Evt
def heavyE (x : Ev) : Bool := (decide ((x.text.size : Int) > 2000) || decide ((x.anchor.size : Int) > 2000)) || decide ((x.tag.size : Int) > 2000)
def heavyL (l : List Ev) : Bool := l.any heavyE || decide ((l.length : Int) > 150)
theorem heavy_take {l : List Ev} {k : Nat} (hk : k < l.length) (h : (l.take k).any heavyE = false) (h2 : heavyE (l.getD k default) = false) : (l.take (k + 1)).any heavyE = false := by
  rw [Rwt.take_one hk, List.any_append, h, Bool.false_or, List.any_cons, h2]; rfl
theorem heavy_at {l : List Ev} {k : Nat} (hk : k < l.length) (h2 : heavyE (l.getD k default) = true) : heavyL l = true := by
  unfold heavyL
  rw [Bool.or_eq_true]; left
  rw [List.any_eq_true]
  refine ⟨l.getD k default, ?_, h2⟩
  rw [List.getD_eq_getElem?_getD, List.getElem?_eq_getElem hk]; exact List.getElem_mem hk
end Evt
end Go.Proofs.YtgnmjaacnmkgnaaDoor.X
end
