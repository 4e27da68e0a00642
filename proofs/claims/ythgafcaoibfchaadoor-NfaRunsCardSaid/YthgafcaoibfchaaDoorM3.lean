/- Words and walks that the row of NfaRuns needs: printed by programs, and plain laws. -/
import Derived.Test.YthgafcaoibfchaaDoorM2
import Derived.Test.YthgafcaoibfchaaDoorM0
import Derived.Deep.SlicePairs
import Derived.Handed
import Derived.Laws.Cover3
import Derived.Lib.AppendZeros
import Derived.Great.FillDense
namespace Go.Proofs.YthgafcaoibfchaaDoorW.PrintWords
end Go.Proofs.YthgafcaoibfchaaDoorW.PrintWords
namespace Go.Proofs.YthgafcaoibfchaaDoorW.PrintLast
end Go.Proofs.YthgafcaoibfchaaDoorW.PrintLast
namespace Go.Proofs.YthgafcaoibfchaaDoorW.PrintMore
end Go.Proofs.YthgafcaoibfchaaDoorW.PrintMore
section
namespace Go.Proofs.YthgafcaoibfchaaDoor.X
open Go.RowKit Go.Shelf Go.Proofs Go.Proofs.YthgafcaoibfchaaDoorW.PrintWords Go.Proofs.YthgafcaoibfchaaDoorW.PrintLast Go.Proofs.YthgafcaoibfchaaDoorW.PrintMore
set_option linter.unusedVariables false
set_option linter.unusedSimpArgs false
namespace Nfa
abbrev It := Int × Pth.Part
def enc (x : It) : Array Value := #[.int .i64 x.1, .agg #[.int .i64 x.2.1, .string x.2.2]]
def item (ps : List (List Pth.Part)) (bs : List Int) (k j : Nat) : It := (IntKind.i64.wrap (beginF bs (k : Int) + (j : Int)), (ps.getD k []).getD j default)
def upTo (ps : List (List Pth.Part)) (bs : List Int) (k : Nat) : List It := (List.range k).flatMap fun i => (List.range (ps.getD i []).length).map (item ps bs i)
def itemsTo (ps : List (List Pth.Part)) (bs : List Int) (k j : Nat) : List It := upTo ps bs k ++ (List.range j).map (item ps bs k)
def items (ps : List (List Pth.Part)) (bs : List Int) : List It := upTo ps bs ps.length
theorem itemsTo_zero (ps : List (List Pth.Part)) (bs : List Int) : itemsTo ps bs 0 0 = [] := rfl
theorem upTo_succ (ps : List (List Pth.Part)) (bs : List Int) (k : Nat) : upTo ps bs (k + 1) = upTo ps bs k ++ (List.range (ps.getD k []).length).map (item ps bs k) := by
  unfold upTo; rw [List.range_succ, List.flatMap_append]; simp
theorem itemsTo_end (ps : List (List Pth.Part)) (bs : List Int) (k : Nat) : itemsTo ps bs k (ps.getD k []).length = itemsTo ps bs (k + 1) 0 := by
  unfold itemsTo; rw [upTo_succ]; simp
theorem itemsTo_succ (ps : List (List Pth.Part)) (bs : List Int) (k j : Nat) : itemsTo ps bs k (j + 1) = itemsTo ps bs k j ++ [item ps bs k j] := by
  unfold itemsTo; rw [List.range_succ]; simp
theorem itemsTo_all (ps : List (List Pth.Part)) (bs : List Int) : itemsTo ps bs ps.length 0 = items ps bs := by unfold itemsTo items; simp
theorem range_prefix {m n : Nat} (h : m ≤ n) : List.range m <+: List.range n := by
  obtain ⟨d, rfl⟩ := Nat.exists_eq_add_of_le h
  rw [List.range_add]; exact List.prefix_append _ _
theorem upTo_prefix (ps : List (List Pth.Part)) (bs : List Int) {m n : Nat} (h : m ≤ n) : upTo ps bs m <+: upTo ps bs n := by
  obtain ⟨t, ht⟩ := range_prefix h
  unfold upTo
  rw [← ht, List.flatMap_append]; exact List.prefix_append _ _
theorem itemsTo_prefix (ps : List (List Pth.Part)) (bs : List Int) {k j : Nat} (hk : k < ps.length) (hj : j < (ps.getD k []).length) : itemsTo ps bs k j ++ [item ps bs k j] <+: items ps bs := by
  rw [← itemsTo_succ]
  refine List.IsPrefix.trans ?_ (upTo_prefix ps bs (show k + 1 ≤ ps.length by omega))
  rw [upTo_succ]
  unfold itemsTo
  rw [List.prefix_append_right_inj]
  obtain ⟨t, ht⟩ := range_prefix (show j + 1 ≤ (ps.getD k []).length by omega)
  rw [← ht, List.map_append]; exact List.prefix_append _ _
def closeF (s : List Int) (l : List It) : List Int := l.foldl (fun s x => if (x.2.1 == 2 && has s x.1) = true then put s (IntKind.i64.wrap (x.1 + 1)) else s) s
theorem closeF_len (s : List Int) (l : List It) : (closeF s l).length = s.length := by
  unfold closeF
  induction l generalizing s with
  | nil => rfl
  | cons x l ih => rw [List.foldl_cons, ih]; split <;> simp [put_len]
theorem closeF_snoc (s : List Int) (l : List It) (x : It) : closeF s (l ++ [x]) = if (x.2.1 == 2 && has (closeF s l) x.1) = true then put (closeF s l) (IntKind.i64.wrap (x.1 + 1)) else closeF s l := by
  unfold closeF; rw [List.foldl_append]; rfl
def stepP (s : List Int) (step : ByteArray) (out : List Int) (x : It) : List Int :=
  if (!has s x.1) = true then out else if (x.2.1 == 2) = true then put out x.1 else if (x.2.1 == 1 || x.2.2.toList == step.toList) = true then put out (IntKind.i64.wrap (x.1 + 1)) else out
def stepF (s : List Int) (step : ByteArray) (l : List It) : List Int := l.foldl (stepP s step) (List.replicate 8 0)
theorem stepF_len (s : List Int) (step : ByteArray) (l : List It) : (stepF s step l).length = 8 := by
  have gen : ∀ (l : List It) (o : List Int), o.length = 8 → (l.foldl (stepP s step) o).length = 8 := by
    intro l
    induction l with
    | nil => intro o h; exact h
    | cons x l ih =>
      intro o h
      rw [List.foldl_cons]
      refine ih _ ?_
      unfold stepP
      split
      · exact h
      · split
        · rw [put_len]; exact h
        · split
          · rw [put_len]; exact h
          · exact h
  exact gen l _ (by simp)
theorem stepF_snoc (s : List Int) (step : ByteArray) (l : List It) (x : It) : stepF s step (l ++ [x]) = stepP s step (stepF s step l) x := by
  unfold stepF; rw [List.foldl_append]; rfl
def step (ps : List (List Pth.Part)) (bs : List Int) (s : List Int) (x : ByteArray) : List Int := closeF (stepF s x (items ps bs)) (items ps bs)
theorem step_len (ps : List (List Pth.Part)) (bs : List Int) (s : List Int) (x : ByteArray) : (step ps bs s x).length = 8 := (closeF_len _ _).trans (stepF_len _ _ _)
def begins (bs : List Int) (n : Nat) : List Int := (List.range n).foldl (fun (s : List Int) (i : Nat) => put s (beginF bs (i : Int))) (List.replicate 8 0)
theorem begins_len (bs : List Int) (n : Nat) : (begins bs n).length = 8 := by
  unfold begins
  induction n with
  | zero => rfl
  | succ n ih => rw [List.range_succ, List.foldl_append]; simp only [List.foldl_cons, List.foldl_nil]; rw [put_len]; exact ih
theorem begins_succ (bs : List Int) (n : Nat) : begins bs (n + 1) = put (begins bs n) (beginF bs (n : Int)) := by
  unfold begins; rw [List.range_succ, List.foldl_append]; rfl
def start (ps : List (List Pth.Part)) (bs : List Int) : List Int := closeF (begins bs ps.length) (items ps bs)
theorem start_len (ps : List (List Pth.Part)) (bs : List Int) : (start ps bs).length = 8 := (closeF_len _ _).trans (begins_len _ _)
def run (ps : List (List Pth.Part)) (bs : List Int) (l : List ByteArray) : List Int := l.foldl (step ps bs) (start ps bs)
theorem run_len (ps : List (List Pth.Part)) (bs : List Int) (l : List ByteArray) : (run ps bs l).length = 8 := by
  have gen : ∀ (l : List ByteArray) (o : List Int), o.length = 8 → (l.foldl (step ps bs) o).length = 8 := by
    intro l
    induction l with
    | nil => intro o h; exact h
    | cons x l ih => intro o h; rw [List.foldl_cons]; exact ih _ (step_len _ _ _ _)
  exact gen l _ (start_len _ _)
theorem run_take (ps : List (List Pth.Part)) (bs : List Int) {l : List ByteArray} {k : Nat} (h : k < l.length) : run ps bs (l.take (k + 1)) = step ps bs (run ps bs (l.take k)) (l.getD k default) := by
  unfold run
  rw [List.take_add_one, List.getElem?_eq_getElem h, List.foldl_append, List.getD_eq_getElem?_getD, List.getElem?_eq_getElem h]; rfl
def strs (l : List ByteArray) : List Value := l.map Value.string
theorem strs_at (l : List ByteArray) (j : Nat) (h : j < l.length) : (strs l)[j * 1]? = some (.string (l.getD j default)) := by
  rw [Nat.mul_one]
  simp [strs, List.getD_eq_getElem?_getD, List.getElem?_eq_getElem h]
def acceptTo (ps : List (List Pth.Part)) (bs : List Int) (s : List Int) (k : Nat) : List Int := ((List.range k).filter fun (i : Nat) => has s (IntKind.i64.wrap (beginF bs (i : Int) + ((ps.getD i []).length : Int)))).map fun (i : Nat) => (i : Int)
def accept (ps : List (List Pth.Part)) (bs : List Int) (s : List Int) : List Int := acceptTo ps bs s ps.length
theorem acceptTo_succ (ps : List (List Pth.Part)) (bs : List Int) (s : List Int) (k : Nat) : acceptTo ps bs s (k + 1) = if has s (IntKind.i64.wrap (beginF bs (k : Int) + ((ps.getD k []).length : Int))) = true then acceptTo ps bs s k ++ [(k : Int)] else acceptTo ps bs s k := by
  unfold acceptTo
  rw [List.range_succ, List.filter_append, List.map_append, List.filter_cons]
  by_cases h : has s (IntKind.i64.wrap (beginF bs (k : Int) + ((ps.getD k []).length : Int))) = true
  · rw [if_pos h, if_pos h]; rfl
  · rw [if_neg h, if_neg h]; exact List.append_nil _
theorem acceptTo_len (ps : List (List Pth.Part)) (bs : List Int) (s : List Int) (k : Nat) : (acceptTo ps bs s k).length ≤ k := by
  unfold acceptTo
  rw [List.length_map]
  exact Nat.le_trans (List.length_filter_le _ _) (by simp)
theorem ints_cat {w : World} {B : Nat} {e : TypeId} {v : Value} {l r : List Int} (O : w.ownsRow B e 1 v (l.length + r.length) (ints l ++ ints r)) : w.ownsRow B e 1 v (l ++ r).length (ints (l ++ r)) := by
  rw [List.length_append]
  unfold ints at O ⊢
  rw [List.map_append]; exact O
theorem at_one (vs : List Value) {j n : Nat} (h : vs.length = n) (hj : j < n) : vs[j * 1]? = some (vs.getD j undef) := by
  rw [Nat.mul_one, List.getD_eq_getElem?_getD, List.getElem?_eq_getElem (show j < vs.length by omega)]; rfl
end Nfa
end Go.Proofs.YthgafcaoibfchaaDoor.X
end
section
namespace Go.Proofs.YthgafcaoibfchaaDoor.X.Opn
open Go.ChangeShapes Go.WideShapes Go.RowKit Go.Joins Go.Deep
variable {H : Type} {enc : TypeId × Value → H} {w : World} {base : Nat} {held : Bool}
def sv : Value → ByteArray | .string s => s | _ => ByteArray.empty
set_option maxRecDepth 100000 in
theorem cells9 : Tryd.prog.cellsOf 9 = 1 := by kernel_rfl
set_option maxRecDepth 100000 in
theorem open_strs {r : Reach} {b0 : Nat} {v : Value} {d : DataW H} {p : List MemPlace} (hv : Value.okWide Tryd.prog w r b0 43 v) (h : DataW.Trod enc Tryd.prog w base (fun _ => true) held 43 v d p) :
    ∃ l : List ByteArray, Eng.Reads w v l.length 1 (Nfa.strs l) := by
  obtain ⟨a0, len0, cap0, rfl⟩ := okWide_slice Tryd.underlying43 hv
  obtain ⟨fuel, hf⟩ := h
  have hf : DataW.trod enc Tryd.prog w base (fun _ => true) held fuel 43 [.slice a0 len0 cap0] = some (d, p) := hf
  rcases open_slice1 Tryd.underlying43 cells9 hf with ⟨h1, _⟩ | ⟨a, len, cap, m, n, V, D, Pl, h1, hb, hl, hm, hmm, _, hx⟩
  · injection h1 with h1
    rw [h1]
    exact ⟨[], Eng.Reads.nil w 1⟩
  · injection h1 with h1
    rw [h1]
    simp only [if_true] at hmm
    subst hmm
    have e0 : ∀ i, i < m → V i = .string (sv (V i)) := fun i hi => by
      obtain ⟨x, hx0, _, _⟩ := DataW.trod_string Tryd.underlying9 (hx i hi).2
      have : V i = .string x := by simpa using hx0
      rw [this]; rfl
    refine ⟨(List.range len).map fun i => sv (V i), by simp [Nfa.strs], some a, m, by simp, by simpa using hl, hm, fun j u hj => ⟨a, rfl, ?_⟩⟩
    have hjl : j < len := by
      have := (List.getElem?_eq_some_iff.1 hj).1
      simpa [Nfa.strs] using this
    have hu : u = .string (sv (V j)) := by
      simp [Nfa.strs, hjl] at hj
      exact hj.symm
    rw [hu, ← e0 j (by omega)]
    exact (hx j (by omega)).1
end Go.Proofs.YthgafcaoibfchaaDoor.X.Opn
end
section
namespace Go.Proofs.YthgafcaoibfchaaDoor.X.Opn
open Go.ChangeShapes Go.WideShapes Go.RowKit Go.Joins Go.Deep
variable {H : Type} {enc : TypeId × Value → H} {w : World} {base : Nat} {held : Bool}
def iv' : Value → Int | .int _ n => n | _ => 0
set_option maxRecDepth 100000 in
theorem cells118 : Tryd.prog.cellsOf 118 = 1 := by kernel_rfl
set_option maxRecDepth 100000 in
theorem cells157 : Tryd.prog.cellsOf 157 = 2 := by kernel_rfl
end Go.Proofs.YthgafcaoibfchaaDoor.X.Opn
end
section
namespace Go.Proofs.YthgafcaoibfchaaDoor.X.Opn
open Go.ChangeShapes Go.WideShapes Go.RowKit Go.Joins Go.Deep
set_option linter.unusedVariables false
variable {H : Type} {enc : TypeId × Value → H} {w : World} {base : Nat} {held : Bool}
theorem weights_all {P : Program} {e : TypeId} {q : Nat → Bool} : ∀ {l : List (DataW H)}, (DataW.weightsAll P e l).all q = true → ∀ d ∈ l, (d.weights P e).all q = true
  | [], _, d, hd => absurd hd (by simp)
  | x :: r, h, d, hd => by
    rw [DataW.weightsAll, List.all_append, Bool.and_eq_true] at h
    rcases List.mem_cons.1 hd with rfl | hd
    · exact h.1
    · exact weights_all h.2 d hd
theorem weights_slice {P : Program} {t e : TypeId} {l r : List (DataW H)} {q : Nat → Bool} (hu : P.underlying t = some (.slice e)) (h : ((DataW.slice l r).weights P t).all q = true) : q ((l.length + r.length) * P.bytesOf e) = true ∧ ∀ d ∈ l, (d.weights P e).all q = true := by
  rw [DataW.weights, hu] at h
  simp only [List.all_cons, List.all_append, Bool.and_eq_true] at h
  exact ⟨h.1, weights_all h.2.1⟩
set_option maxRecDepth 100000 in
theorem bytes118 : Tryd.prog.bytesOf 118 = 24 := by kernel_rfl
set_option maxRecDepth 100000 in
theorem bytes157 : Tryd.prog.bytesOf 157 = 24 := by kernel_rfl
theorem fit24 {n m : Nat} (h : (decide ((n + m) * 24 ≤ reachBytes)) = true) : n ≤ 5864062014634 := by
  have := of_decide_eq_true h
  unfold reachBytes at this
  omega
set_option maxRecDepth 100000 in
theorem open_parts_w {fuel : Nat} {x : Value} {y : DataW H × List MemPlace} (hf : DataW.trod enc Tryd.prog w base (fun _ => true) held fuel 118 [x] = some y) (hw : (y.1.weights Tryd.prog 118).all (· ≤ reachBytes) = true) :
    ∃ l : List Pth.Part, Eng.Reads w x l.length 2 (Pth.cellsP l) ∧ l.length ≤ 5864062014634 ∧ ∀ p ∈ l, p.2.size ≤ 9223372036854775807 := by
  rcases open_slice_pairs Tryd.underlying118 Tryd.underlying157 cells157 rfl rfl cells3 cells9 hf with ⟨h1, _⟩ | ⟨a, len, cap, m, n, V0, V1, D0, D1, P0, P1, h1, hb, hl, hm, hmm, hy, hx⟩
  · injection h1 with h1
    rw [h1]
    exact ⟨[], Eng.Reads.nil w 2, Nat.zero_le _, fun p hp => absurd hp (by simp)⟩
  · injection h1 with h1
    rw [h1]
    simp only [if_true] at hmm
    subst hmm
    subst hy
    have hlen := (weights_slice Tryd.underlying118 hw).1
    rw [bytes157, List.length_map, List.length_range] at hlen
    have e0 : ∀ i, i < m → V0 i = .int .i64 (iv' (V0 i)) := fun i hi => by
      obtain ⟨x, hx0, _, _⟩ := DataW.trod_int Tryd.underlying3 (hx i hi).2.2.1
      have : V0 i = .int .i64 x := by simpa using hx0
      rw [this]; rfl
    have e1 : ∀ i, i < m → V1 i = .string (sv (V1 i)) ∧ (sv (V1 i)).size ≤ 9223372036854775807 := fun i hi => by
      obtain ⟨x, hx0, _, hsz⟩ := DataW.trod_string Tryd.underlying9 (hx i hi).2.2.2
      have : V1 i = .string x := by simpa using hx0
      rw [this]; exact ⟨rfl, by unfold maxLen at hsz; exact hsz⟩
    refine ⟨(List.range len).map fun i => (iv' (V0 i), sv (V1 i)), ⟨Pth.cells_len _, some a, m, by simp, by simpa using hl, hm, fun j u hj => ⟨a, rfl, ?_⟩⟩, by simpa using fit24 hlen, fun p hp => ?_⟩
    · generalize hL : ((List.range len).map fun i => (iv' (V0 i), sv (V1 i))) = L at hj
      have hLl : L.length = len := by rw [← hL]; simp
      have hjl := (List.getElem?_eq_some_iff.1 hj).1
      rw [Pth.cells_len, hLl] at hjl
      have hi : j / 2 < len := by omega
      have hat := Pth.cells_at L (j / 2) (by omega)
      have hg : L.getD (j / 2) default = (iv' (V0 (j / 2)), sv (V1 (j / 2))) := by
        rw [← hL, List.getD_eq_getElem?_getD, List.getElem?_map, List.getElem?_range hi]; rfl
      rw [hg] at hat
      have hget : (Pth.cellsP L)[j]? = ([Value.int .i64 (iv' (V0 (j / 2))), Value.string (sv (V1 (j / 2)))] : List Value)[j % 2]? := by
        rw [← hat, List.getElem?_take, if_pos (by omega), List.getElem?_drop]
        congr 1; omega
      rw [hget] at hj
      obtain ⟨c0, c1, _, _⟩ := hx (j / 2) (by omega)
      have hr : j % 2 = 0 ∨ j % 2 = 1 := by omega
      rcases hr with hr | hr
      · rw [hr] at hj
        have hu : u = .int .i64 (iv' (V0 (j / 2))) := by simpa using hj.symm
        rw [hu, ← e0 _ (by omega), show j = j / 2 * 2 by omega, show j / 2 * 2 / 2 = j / 2 by omega]
        exact c0
      · rw [hr] at hj
        have hu : u = .string (sv (V1 (j / 2))) := by simpa using hj.symm
        rw [hu, ← (e1 _ (by omega)).1, show j = j / 2 * 2 + 1 by omega, show (j / 2 * 2 + 1) / 2 = j / 2 by omega]
        exact c1
    · obtain ⟨i, hi, rfl⟩ := List.mem_map.1 hp
      exact (e1 i (by have := List.mem_range.1 hi; omega)).2
set_option maxRecDepth 100000 in
theorem open_partses_w {r : Reach} {b0 : Nat} {v : Value} {d : DataW H} {p : List MemPlace} (hv : Value.okWide Tryd.prog w r b0 59 v) (h : DataW.Trod enc Tryd.prog w base (fun _ => true) held 59 v d p) (hw : (d.weights Tryd.prog 59).all (· ≤ reachBytes) = true) :
    ∃ (ps : List (List Pth.Part)) (vs : List Value), vs.length = ps.length ∧ Eng.Reads w v ps.length 1 vs ∧ (∀ k, k < ps.length → Eng.Reads w (vs.getD k undef) (ps.getD k []).length 2 (Pth.cellsP (ps.getD k []))) ∧
      (∀ k, k < ps.length → (ps.getD k []).length ≤ 5864062014634) ∧ ps.length ≤ 5864062014634 ∧ ∀ k, k < ps.length → ∀ p ∈ ps.getD k [], p.2.size ≤ 9223372036854775807 := by
  obtain ⟨a0, len0, cap0, rfl⟩ := okWide_slice Tryd.underlying59 hv
  obtain ⟨fuel, hf⟩ := h
  have hf : DataW.trod enc Tryd.prog w base (fun _ => true) held fuel 59 [.slice a0 len0 cap0] = some (d, p) := hf
  rcases open_slice1 Tryd.underlying59 cells118 hf with ⟨h1, _⟩ | ⟨a, len, cap, m, n, V, D, Pl, h1, hb, hl, hm, hmm, hy, hx⟩
  · injection h1 with h1
    rw [h1]
    exact ⟨[], [], rfl, Eng.Reads.nil w 1, fun k hk => absurd hk (by simp), fun k hk => absurd hk (by simp), Nat.zero_le _, fun k hk => absurd hk (by simp)⟩
  · injection h1 with h1
    rw [h1]
    simp only [if_true] at hmm
    subst hmm
    injection hy with hy hy2
    subst hy
    obtain ⟨hlen, hws⟩ := weights_slice Tryd.underlying59 hw
    rw [bytes118, List.length_map, List.length_range] at hlen
    have hn := fit24 hlen
    obtain ⟨L, hL⟩ := choose_lt (α := List Pth.Part) (n := len) (p := fun i l => Eng.Reads w (V i) l.length 2 (Pth.cellsP l) ∧ l.length ≤ 5864062014634 ∧ ∀ p ∈ l, p.2.size ≤ 9223372036854775807) (fun i hi => open_parts_w (hx i (by omega)).2 (hws _ (List.mem_map.2 ⟨i, List.mem_range.2 hi, rfl⟩)))
    have gp : ∀ k, k < len → ((List.range len).map L).getD k [] = L k := fun k hk => by
      rw [List.getD_eq_getElem?_getD, List.getElem?_map, List.getElem?_range hk]; rfl
    have gv : ∀ k, k < len → ((List.range len).map V).getD k undef = V k := fun k hk => by
      rw [List.getD_eq_getElem?_getD, List.getElem?_map, List.getElem?_range hk]; rfl
    refine ⟨(List.range len).map L, (List.range len).map V, by simp, ⟨by simp, some a, m, by simp, by simpa using hl, hm, fun j u hj => ⟨a, rfl, ?_⟩⟩, fun k hk => ?_, fun k hk => ?_, by simpa using hn, fun k hk => ?_⟩
    · have hjl : j < len := by simpa using (List.getElem?_eq_some_iff.1 hj).1
      have hu : u = V j := by simp [hjl] at hj; exact hj.symm
      rw [hu]; exact (hx j (by omega)).1
    · have hk' : k < len := by simpa using hk
      rw [gp k hk', gv k hk']; exact (hL k (by omega)).1
    · have hk' : k < len := by simpa using hk
      rw [gp k hk']; exact (hL k hk').2.1
    · have hk' : k < len := by simpa using hk
      rw [gp k hk']; exact (hL k hk').2.2
theorem weights_cons {P : Program} {t : TypeId} {ts : List TypeId} {d : DataW H} {r : List (DataW H)} {q : Nat → Bool} (h : (DataW.weightsEach P (t :: ts) (d :: r)).all q = true) : (d.weights P t).all q = true ∧ (DataW.weightsEach P ts r).all q = true := by
  rw [DataW.weightsEach, List.all_append, Bool.and_eq_true] at h
  exact h
end Go.Proofs.YthgafcaoibfchaaDoor.X.Opn
namespace Go.Proofs.YthgafcaoibfchaaDoor.X.Tabs
open Go.Shelf Go.Lib Go.RowKit
set_option maxRecDepth 100000 in
theorem accept : (Rows.laid_unicode_utf8_acceptRanges : DataW Unit) = acceptData := by kernel_rfl
set_option maxRecDepth 100000 in
theorem of_laid {w : World} {l : List (String × DataW Unit)} (h : laidMet Tryd.prog l w) (h3 : ("unicode/utf8.first", Rows.laid_unicode_utf8_first) ∈ l) (h4 : ("unicode/utf8.acceptRanges", Rows.laid_unicode_utf8_acceptRanges) ∈ l) : Holds w :=
  utf8Tabs_of_readsT (ρ := Tryd.layVal_ren) ⟨Tryd.underlying5, Tryd.underlying175, Tryd.underlying177, Tryd.underlying178⟩ ⟨by kernel_rfl, by kernel_rfl, by kernel_rfl, by kernel_rfl, by kernel_rfl, by kernel_rfl, by kernel_rfl⟩
    (Pinned.utf8First_eq ▸ laidMet.reads h h3) (accept ▸ laidMet.reads h h4)
end Go.Proofs.YthgafcaoibfchaaDoor.X.Tabs
end
section
namespace Go.Proofs.Eng
open Go Go.RowKit
set_option linter.unusedSimpArgs false
set_option linter.unusedVariables false
variable {P : Program} {o : Oper} {a : Act} {w : World}
def isNil (v : Value) : Bool := match v with | .slice none _ _ => true | _ => false
theorem run_isnil {T e U : TypeId} {x : Operand} {v : Value} {n size : Nat} {xs : List Value} (hop : o.op = .binOp .eql T x (.const (.slice none 0 0)) U) (hu : P.underlying T = some (.slice e)) (h : a.eval x = v) (F : Reads w v n size xs) : (execOp a.eval o).run P w = .ok (.value (.bool (isNil v))) w := by
  obtain ⟨_, A, c, rfl, _⟩ := F
  unfold execOp; rw [hop]
  have hc : a.eval (.const (.slice none 0 0)) = .slice none 0 0 := rfl
  simp only [h, hc]
  have hr := run_equal_slice_nil (P := P) w T e A n c hu
  have hg : (eqGuard .eql T x (.const (.slice none 0 0)) (.slice A n c) (.slice none 0 0)).run P w = .ok () w := by
    unfold eqGuard
    simp [Sem.run_bind, Sem.run_pure, run_underlying hu]
  simp only [Sem.run_bind, hg, Result.andThen_ok, binOp, hr, isNil]
  cases A <;> rfl
theorem isNil_zero {v : Value} {n size : Nat} {xs : List Value} (F : Reads w v n size xs) (h : isNil v = true) (hs : (decide (0 < size)) = true) : n = 0 := by
  obtain ⟨hl, A, c, rfl, _, _, hx⟩ := F
  have hs := of_decide_eq_true hs
  cases A with
  | some a => simp [isNil] at h
  | none =>
    rcases Nat.eq_zero_or_pos n with h0 | h0
    · exact h0
    · have h1 : 0 < xs.length := by rw [hl]; exact Nat.mul_pos h0 hs
      obtain ⟨ad, e', _⟩ := hx 0 _ (List.getElem?_eq_getElem h1)
      cases e'
theorem run_build0 {T e : TypeId} {z : Value} {size B : Nat} (hop : o.op = .buildSlice T 0 #[]) (hu : P.underlying T = some (.slice e)) (hI : (P.info? e).map (fun i => (i.size, decide (i.bytes ≤ 128), i.zero)) = some (size, true, some z)) (hB : B ≤ w.heap.size) :
    ∃ v w', (execOp a.eval o).run P w = .ok (.value v) w' ∧ w'.ownsRow B e size v 0 [] ∧ Below w.heap.size w w' := by
  obtain ⟨i, h1, h2, h3, h4⟩ := info_of hI
  refine ⟨.slice (some ⟨w.heap.size, 0, none⟩) 0 0, w.alloc (.cells #[] e), ?_, ⟨by simp, .inr ⟨w.heap.size, 0, #[], rfl, hB, ?_, Nat.le_refl _, by unfold maxLen; omega, by simp, by simp⟩⟩, (Below.refl _ _).alloc (Nat.le_refl _) _⟩
  · unfold execOp; rw [hop]
    simp [Instr.buildSlice, run_underlying hu, sizeOf, typeInfo, h1, Instr.fill, newRow, Sem.run_bind]
    have h0 : Array.range 0 = #[] := Array.eq_empty_of_size_eq_zero (by simp)
    rw [h0]; simp
  · show (w.heap.push _)[w.heap.size]? = _
    simp
end Go.Proofs.Eng
end
section
namespace Go.Proofs.YthgafcaoibfchaaDoor.X
open Go Go.RowKit Go.Proofs
set_option linter.unusedVariables false
namespace Pth
theorem own_grown {w w' : World} {B : Nat} {e e' : TypeId} {v u : Value} {n n' size size' : Nat} {xs xs' : List Value} (O : w.ownsRow B e size v n xs) (G : w.grownBy w' u.ownBlock) (U : w.ownsRow B e' size' u n' xs') (hne : (e' != e) = true) : w'.ownsRow B e size v n xs := by
  refine ⟨O.1, ?_⟩
  rcases O.2 with h | ⟨g, cap, cur, rfl, hg, hh, r⟩
  · exact .inl h
  · exact .inr ⟨g, cap, cur, rfl, hg, (G.block g (Array.getElem?_eq_some_iff.1 hh).1 (Eng.own_ne U hh hne)).trans hh, r⟩
theorem own_one {w : World} {B : Nat} {e : TypeId} {v : Value} {n size : Nat} {xs : List Value} (O : w.ownsRow B e size v n xs) : ∀ u ∈ [v], u.oneCell' = true := by
  intro u hu
  have : u = v := by simpa using hu
  subst this
  rcases O.2 with ⟨rfl, _⟩ | ⟨g, cap, cur, rfl, _⟩ <;> rfl
theorem fill_one {w : World} {B : Nat} {e : TypeId} {v : Value} {n size : Nat} {xs : List Value} (O : w.ownsRow B e size v n xs) : Instr.fill (fun i => some (i * 1, 1)) ((Array.range (1 * 1)).map ((Value.slice none 0 0).cells[· % (Value.slice none 0 0).cells.size]!)) [(0, v)] = some [v].toArray := by
  rcases O.2 with ⟨rfl, _⟩ | ⟨g, cap, cur, rfl, _⟩
  · kernel_rfl
  · kernel_rfl
theorem vals_cat {w : World} {B : Nat} {e : TypeId} {v : Value} {l r : List Value} (O : w.ownsRow B e 1 v (l.length + r.length) (l ++ r)) : w.ownsRow B e 1 v (l ++ r).length (l ++ r) := by
  rw [List.length_append]; exact O
structure Each (B : Nat) (ps : List (List Part)) (vs : List Value) (w : World) : Prop where
  len : vs.length ≤ ps.length
  row : ∀ i, i < vs.length → w.ownsRow B 115 2 (vs.getD i undef) (ps.getD i []).length (cellsP (ps.getD i []))
theorem Each.nil (B : Nat) (ps : List (List Part)) (w : World) : Each B ps [] w := ⟨Nat.zero_le _, fun i h => absurd h (by simp)⟩
theorem Each.below {B : Nat} {ps : List (List Part)} {vs : List Value} {w w' : World} (h : Each B ps vs w) (hb : Below w.heap.size w w') : Each B ps vs w' := ⟨h.len, fun i hi => Eng.own_below (h.row i hi) hb⟩
theorem Each.grown {B : Nat} {ps : List (List Part)} {vs : List Value} {w w' : World} {u : Value} {n : Nat} {xs : List Value} (h : Each B ps vs w) (G : w.grownBy w' u.ownBlock) (U : w.ownsRow B 82 1 u n xs) : Each B ps vs w' :=
  ⟨h.len, fun i hi => own_grown (h.row i hi) G U rfl⟩
theorem Each.snoc {B : Nat} {ps : List (List Part)} {vs : List Value} {w : World} {v : Value} (h : Each B ps vs w) (hk : vs.length < ps.length) (O : w.ownsRow B 115 2 v (ps.getD vs.length []).length (cellsP (ps.getD vs.length []))) : Each B ps (vs ++ [v]) w := by
  refine ⟨by rw [List.length_append]; simp; omega, fun i hi => ?_⟩
  rcases Nat.lt_or_ge i vs.length with h1 | h1
  · have e : (vs ++ [v]).getD i undef = vs.getD i undef := by
      rw [List.getD_eq_getElem?_getD, List.getD_eq_getElem?_getD, List.getElem?_append_left h1]
    rw [e]; exact h.row i h1
  · have hi' : i = vs.length := by rw [List.length_append] at hi; simp at hi; omega
    subst hi'
    have e : (vs ++ [v]).getD vs.length undef = v := by
      rw [List.getD_eq_getElem?_getD, List.getElem?_append_right (Nat.le_refl _)]; simp
    rw [e]; exact O
theorem Each.reads {B : Nat} {ps : List (List Part)} {vs : List Value} {w : World} (h : Each B ps vs w) (hl : vs.length = ps.length) : ∀ k, k < ps.length → Eng.Reads w (vs.getD k undef) (ps.getD k []).length 2 (cellsP (ps.getD k [])) :=
  fun k hk => Eng.Reads.of_own (h.row k (by omega))
end Pth
end Go.Proofs.YthgafcaoibfchaaDoor.X
end
section
namespace Go.Proofs.Eng
open Go Go.RowKit
set_option linter.unusedSimpArgs false
set_option linter.unusedVariables false
variable {P : Program} {o : Oper} {a : Act} {w : World}
theorem own_appendT {w : World} {B : Nat} {t ty e : TypeId} {i : TypeInfo} {z : Value} {size : Nat} (ht : P.underlying t = some (.slice e)) (hi : P.info? e = some i) (hz : i.zero = some z) (hsize : i.size = size) (hby : i.bytes ≤ 128) (hzs : z.cells.size = size) (hsz : 0 < size)
    {v : Value} {n : Nat} {xs : List Value} (O : w.ownsRow B e size v n xs) {x : Value} {m : Nat} {news : List Value} (F : Reads w x m size news) (h1 : ∀ u ∈ news, u.oneCell' = true) (h63' : n + m ≤ maxLen) (hbm : (n + m) * i.bytes ≤ 140737488355328) (hB : B ≤ w.heap.size) :
    ∃ v' w', (Builtin.append_ #[t, t] ty #[v, x]).run P w = .ok v' w' ∧ w'.ownsRow B e size v' (n + m) (xs ++ news) ∧ w'.ownsRow B e size v n xs ∧ Below B w w' ∧ w.grownBy w' v.ownBlock ∧ (v'.ownBlock = v.ownBlock ∨ v'.ownBlock = some w.heap.size) := by
  have h63'' : n + m ≤ 9223372036854775807 := by simpa [maxLen] using h63'
  obtain ⟨hl, A, c, rfl, hc, hm, hx⟩ := F
  cases A with
  | none =>
    have hm0 : m = 0 := by
      rcases Nat.eq_zero_or_pos m with h | h
      · exact h
      · have h0 : 0 < news.length := by rw [hl]; exact Nat.mul_pos h hsz
        obtain ⟨ad, e', _⟩ := hx 0 _ (List.getElem?_eq_getElem h0)
        cases e'
    subst hm0
    have hn : news = [] := List.eq_nil_of_length_eq_zero (by simpa using hl)
    subst hn
    have hs : Src P i.size t (.slice none 0 c) 0 [] w := Src.ofNil w ht c
    refine ⟨v, w, ?_, by simpa using O, O, Below.refl _ _, ⟨rfl, rfl, rfl, Nat.le_refl _, fun _ _ _ => rfl⟩, .inl rfl⟩
    rcases O.2 with ⟨rfl, rfl⟩ | ⟨g, cap, cur, rfl, hg, hh, hn, _⟩
    · exact run_append_nothing w t t ty e i ht hi none 0 0 (Nat.le_refl _) _ hs
    · exact run_append_nothing w t t ty e i ht hi _ n cap hn _ hs
  | some a =>
    have hx' : ∀ j u, news[j]? = some u → w.cell? (a.add j) = some u := fun j u h => by
      obtain ⟨ad, e', hcell⟩ := hx j u h
      injection e' with e'; subst e'; exact hcell
    obtain ⟨v', w', hr, h2, h3, h4, h5⟩ := run_append_own_at (P := P) w B t ty e i z size i.bytes ht hi hz hsize rfl hzs hsz v n xs O a m c news hl hx' h1 h63' hbm hB
    refine ⟨v', w', hr, h2, ?_, below_of_grown h3 hB (own_block O), h3, h5⟩
    subst hsize
    rcases O.2 with ⟨rfl, rfl⟩ | ⟨g, cap, cur, rfl, hbg, hg, hnc, hcm, hcs, htake⟩
    · have : xs = [] := List.eq_nil_of_length_eq_zero (by simpa using O.1)
      subst this; exact World.ownsRow_nil w' B e i.size
    · by_cases hroom : n + m ≤ cap
      · have hfit : n * i.size + news.length ≤ cur.size := by rw [hl, hcs, ← Nat.add_mul]; exact Nat.mul_le_mul_right _ hroom
        have hr' := run_append_room (P := P) w t ty e i ht hi g n cap cur hg a m c news hl hx' h1 hroom hfit
        rw [hr'] at hr
        injection hr with _ hw
        subst hw
        refine ⟨O.1, .inr ⟨g, cap, _, rfl, hbg, setRow_heap w g cur _ e _ hg, hnc, hcm, ?_, ?_⟩⟩
        · simp only [List.size_toArray, List.length_append, List.length_take, List.length_drop, Array.length_toList]
          omega
        · simp only [List.append_assoc]
          rw [List.take_append_of_le_length (by rw [List.length_take, Array.length_toList]; omega), List.take_take, Nat.min_self]
          exact htake
      · have holds : ∀ j u, xs[j]? = some u → w.cell? ((⟨g, 0, none⟩ : Addr).add j) = some u := O.cells (g := g) rfl
        have hr' := run_append_grow (P := P) w t ty e i z ht hi hz ⟨g, 0, none⟩ n cap xs O.1 holds a m c news hl hx' (by omega) (by omega) (growslice_fits (by omega) hbm)
        rw [hr'] at hr
        injection hr with _ hw
        subst hw
        refine ⟨O.1, .inr ⟨g, cap, cur, rfl, hbg, ?_, hnc, hcm, hcs, htake⟩⟩
        exact (heap_alloc_old w.drew _ (by simpa using (Array.getElem?_eq_some_iff.1 hg).1)).trans hg
theorem run_appendT {B : Nat} {t e : TypeId} {z : Value} {size : Nat} {s x : Operand} (hop : o.op = .call { callee := .builtin .append, args := #[s, x], argTypes := #[t, t] })
    (ht : P.underlying t = some (.slice e)) (hI : (P.info? e).map (fun i => (i.size, decide (i.bytes ≤ 24), i.zero)) = some (size, true, some z)) (hzs : z.cells.size = size) (hsz : (decide (0 < size)) = true)
    {v xv : Value} {n : Nat} {xs : List Value} (hs : a.eval s = v) (O : w.ownsRow B e size v n xs) (hx : a.eval x = xv) {m : Nat} {news : List Value} (F : Reads w xv m size news) (h1 : ∀ u ∈ news, u.oneCell' = true) (h63 : n + m ≤ 5864062014634) (hB : B ≤ w.heap.size) :
    ∃ v' w', (execOp a.eval o).run P w = .ok (.value v') w' ∧ w'.ownsRow B e size v' (n + m) (xs ++ news) ∧ w'.ownsRow B e size v n xs ∧ Below B w w' ∧ w.grownBy w' v.ownBlock ∧ (v'.ownBlock = v.ownBlock ∨ v'.ownBlock = some w.heap.size) := by
  cases hq : P.info? e with
  | none => simp [hq] at hI
  | some i =>
    simp [hq] at hI
    obtain ⟨h2, h3, h4⟩ := hI
    have hb : (n + m) * i.bytes ≤ 140737488355328 := Nat.le_trans (Nat.mul_le_mul h63 h3) (by decide)
    obtain ⟨v', w', hr, h⟩ := own_appendT (P := P) (ty := o.type) ht hq h4 h2 (by omega) hzs (of_decide_eq_true hsz) O F h1 (by unfold maxLen; omega) hb hB
    refine ⟨v', w', ?_, h⟩
    unfold execOp
    simp only [hop, resolve, invoke, builtin, Sem.run_bind, Sem.run_pure, Result.andThen_ok, List.map_toArray, List.map_cons, List.map_nil, hs, hx, hr]
theorem run_buildN {T e : TypeId} {n : Nat} {parts : Array (Nat × Operand)} {z : Value} {size : Nat} (vs : List Value) (hop : o.op = .buildSlice T n parts) (hu : P.underlying T = some (.slice e)) (hI : (P.info? e).map (fun i => (i.size, decide (i.bytes ≤ 128), i.zero)) = some (size, true, some z)) (hs : (decide (0 < size)) = true) (hs' : (decide (size < 1000)) = true)
    (hn : vs.length = n) (hn0 : (decide (0 < n)) = true) (hn' : (decide (n < 1000)) = true) (hz : z.cells.size = size) (h1 : ∀ v ∈ vs, v.cells.size = size) (hp : (parts.map fun (i, x) => (i, a.eval x)).toList = (vs.zipIdx 0).map fun x => (x.2, x.1)) :
    ∃ v w', (execOp a.eval o).run P w = .ok (.value v) w' ∧ Reads w' v n size (vs.flatMap fun v => v.cells.toList) ∧ Below w.heap.size w w' := by
  obtain ⟨i, hi, h2, h3, h4⟩ := info_of hI
  have hs := of_decide_eq_true hs
  have hs' := of_decide_eq_true hs'
  have hn0 := of_decide_eq_true hn0
  have hn' := of_decide_eq_true hn'
  subst h2
  have hlt : n * i.size ≤ 1000 * 1000 := Nat.mul_le_mul (by omega) (by omega)
  have hpos : 0 < n * i.size := Nat.mul_pos hn0 hs
  have hf := Great.fill_whole hs vs ((Array.range (n * i.size)).map (z.cells[· % z.cells.size]!)) h1 (by rw [Array.size_map, Array.size_range, hn])
  rw [← hp] at hf
  have hr := run_buildSlice (P := P) w T e n _ _ i z hu hi h4 (by omega) (by omega) hf
  have hlen : ∀ vs : List Value, (∀ v ∈ vs, v.cells.size = i.size) → (vs.flatMap fun v => v.cells.toList).length = vs.length * i.size := by
    intro vs
    induction vs with
    | nil => intro _; simp
    | cons v t ih =>
      intro h
      rw [List.flatMap_cons, List.length_append, ih (fun u hu => h u (List.mem_cons_of_mem _ hu)), List.length_cons, Nat.add_mul, Array.length_toList, h v List.mem_cons_self]
      omega
  refine ⟨_, _, ?_, ⟨by rw [hlen vs h1, hn], some ⟨w.heap.size, 0, none⟩, n, rfl, Nat.le_refl _, by unfold maxLen; omega, fun j u hj => ⟨_, rfl, ?_⟩⟩, (Below.refl _ _).alloc (Nat.le_refl _) (.cells (vs.flatMap fun v => v.cells.toList).toArray e)⟩
  · unfold execOp
    simp only [hop, Sem.run_bind]
    rw [hr]
    rfl
  · have hadd : (⟨w.heap.size, 0, none⟩ : Addr).add j = ⟨w.heap.size, j, none⟩ := by unfold Addr.add; split <;> simp_all
    rw [hadd]
    unfold World.cell?
    have : (w.alloc (.cells (vs.flatMap fun v => v.cells.toList).toArray e)).heap[w.heap.size]? = some (.cells (vs.flatMap fun v => v.cells.toList).toArray e) := by show (w.heap.push _)[w.heap.size]? = _; simp
    rw [this]
    simpa using hj
theorem Reads.shape {v : Value} {n size : Nat} {xs : List Value} (F : Reads w v n size xs) : ∃ A c, v = .slice A n c := by
  obtain ⟨_, A, c, rfl, _⟩ := F
  exact ⟨A, c, rfl⟩
theorem Reads.cells1 {v : Value} {n size : Nat} {xs : List Value} (F : Reads w v n size xs) : v.cells = #[v] := by
  obtain ⟨_, A, c, rfl, _⟩ := F
  rfl
theorem run_buildN1 {T e : TypeId} {n : Nat} {parts : Array (Nat × Operand)} {z : Value} (vs : List Value) (hop : o.op = .buildSlice T n parts) (hu : P.underlying T = some (.slice e)) (hI : (P.info? e).map (fun i => (i.size, decide (i.bytes ≤ 128), i.zero)) = some (1, true, some z))
    (hn : vs.length = n) (hn0 : (decide (0 < n)) = true) (hn' : (decide (n < 1000)) = true) (hz : z.cells.size = 1) (h1 : ∀ v ∈ vs, v.cells = #[v]) (hp : (parts.map fun (i, x) => (i, a.eval x)).toList = (vs.zipIdx 0).map fun x => (x.2, x.1)) :
    ∃ v w', (execOp a.eval o).run P w = .ok (.value v) w' ∧ Reads w' v n 1 vs ∧ Below w.heap.size w w' := by
  obtain ⟨v, w', h, F, hb⟩ := run_buildN (P := P) (a := a) (w := w) vs hop hu hI rfl rfl hn hn0 hn' hz (fun v hv => by rw [h1 v hv]; rfl) hp
  refine ⟨v, w', h, ?_, hb⟩
  have : ∀ vs : List Value, (∀ v ∈ vs, v.cells = #[v]) → (vs.flatMap fun v => v.cells.toList) = vs := by
    intro vs
    induction vs with
    | nil => intro _; rfl
    | cons u t ih => intro h; rw [List.flatMap_cons, ih (fun x hx => h x (List.mem_cons_of_mem _ hx)), h u List.mem_cons_self]; rfl
  rw [this vs h1] at F
  exact F
theorem alloc_ex {T : TypeId} {cs : Array Value} (hop : o.op = .alloc T) (hz : (zeroValue T).run P w = .ok (.agg cs) w) : ∃ v w1, (execOp a.eval o).run P w = .ok (.value v) w1 ∧ ∃ g, v = .pointer (some ⟨g, 0, none⟩) ∧ w.heap.size ≤ g ∧ g < w1.heap.size ∧ w1.heap[g]? = some (.cells cs T (0, 0)) ∧ Below w.heap.size w w1 := by
  refine ⟨_, _, run_alloc hop hz, w.heap.size, rfl, Nat.le_refl _, ?_, ?_, (Below.refl _ _).alloc (Nat.le_refl _) _⟩
  · show w.heap.size < (w.heap.push _).size; simp
  · show (w.heap.push _)[w.heap.size]? = _; simp
def Tl.reads (n size : Nat) (xs : List Value) : Tl := .lasts (fun v w => Reads w v n size xs) fun _ _ _ h hb => h.below hb
def RowOne (B : Nat) (e : TypeId) (size n : Nat) (xs : List Value) (v : Value) (w : World) : Prop := ∃ vc, w.ownsRow B e size vc n xs ∧ Reads w v 1 1 [vc]
def Tl.rowOne (B : Nat) (e : TypeId) (size n : Nat) (xs : List Value) : Tl := .lasts (RowOne B e size n xs) fun _ _ _ h hb => by
  obtain ⟨vc, O, F⟩ := h
  exact ⟨vc, own_below O hb, F.below hb⟩
section duties
variable {ops : Array Oper} {Q : Exit → Act → World → Prop} {D : Nat → Value → World → Prop} {k : Nat → Kind} {a0 : Act} {w0 : World} {m i : Nat}
theorem guardedT {j d : Nat} {want : Bool} (hk : k i = .plain) (hg : o.guard = some (j, want)) (hb : bound o j = true) (hd : dstOf ops j = some d) (hD : ∀ (v : Value) (w : World), D j v w → v = .bool want)
    (h : ∀ (a : Act) (w : World), At ops D a0 w0 i o a w → o.wp P a w (fun a' w' => ∃ v, a' = a.put o.dst v ∧ (o.dst ≠ none → D i v w') ∧ Below w.heap.size w w') Q) : Duty P ops Q D k a0 w0 i o :=
  guarded1 (b := want) hk hg hb hd hD (fun hq => by simp at hq) (fun _ => h)
end duties
theorem retct {fn : Func} {p u : Nat} {ty T : TypeId} {g : Nat} {cs : Array Value} {d : TypeDesc} {v : Value} {R : Ending → World → Prop} (h : fn.results = #[.cell p ty, .tmp u]) (hd : a.defers = []) (e : a.eval (.tmp p) = .pointer (some ⟨g, 0, none⟩)) (hb : w.heap[g]? = some (.cells cs T (0, 0)))
    (hu : P.underlying ty = some d) (hrow : d.isRow = true) (hi : (P.info? ty).map (·.size) = some cs.size) (ev : a.eval (.tmp u) = v) (hR : R (.returned (.tuple #[.agg cs, v])) w) : bodyPost P fn R .ret a w := by
  refine ⟨hd, .tuple #[.agg cs, v], ?_, hR⟩
  subst ev
  have e' : a.tmps[p]?.getD undef = .pointer (some ⟨g, 0, none⟩) := by
    have : a.tmps.getD p undef = .pointer (some ⟨g, 0, none⟩) := e
    simpa using this
  have hr := run_loadVar_row (P := P) w g T ty cs _ d hb hu (by cases d <;> simp_all) hi
  have e2 : a.tmps[u]?.getD undef = a.eval (.tmp u) := by
    show _ = a.tmps.getD u undef
    simp
  simp [results, h, e', asAddr, hr, e2]
end Go.Proofs.Eng
end
section
namespace Go.Proofs.YthgafcaoibfchaaDoor.X
open Go Go.RowKit Go.Shelf Go.Proofs
set_option linter.unusedVariables false
set_option linter.unusedSimpArgs false
theorem Pth.Each.grownI {B : Nat} {ps : List (List Pth.Part)} {vs : List Value} {w w' : World} {u : Value} {n : Nat} {xs : List Value} (h : Pth.Each B ps vs w) (G : w.grownBy w' u.ownBlock) (U : w.ownsRow B 3 1 u n xs) : Pth.Each B ps vs w' :=
  ⟨h.len, fun i hi => Pth.own_grown (h.row i hi) G U rfl⟩
theorem Pth.Each.sets {B : Nat} {ps : List (List Pth.Part)} {vs : List Value} {w w' : World} {g : Nat} {o : Obj} {cs : Array Value} {T : TypeId} (h : Pth.Each B ps vs w) (S : Eng.Sets w w' g o) (hk : w.heap[g]? = some (.cells cs T (0, 0))) (hT : (T != 115) = true) : Pth.Each B ps vs w' :=
  ⟨h.len, fun i hi => Eng.own_sets (h.row i hi) S hk (by simpa [bne_comm] using hT)⟩
namespace Nfa
def many (ps : List (List Pth.Part)) : Nat → Int
  | 0 => 0
  | k + 1 => IntKind.i64.wrap (many ps k + IntKind.i64.wrap (((ps.getD k []).length : Int) + 1))
def begs (ps : List (List Pth.Part)) (k : Nat) : List Int := (List.range k).map (many ps)
theorem begs_succ (ps : List (List Pth.Part)) (k : Nat) : begs ps (k + 1) = begs ps k ++ [many ps k] := by
  unfold begs; rw [List.range_succ, List.map_append]; rfl
theorem begs_len (ps : List (List Pth.Part)) (k : Nat) : (begs ps k).length = k := by simp [begs]
def code (ps : List (List Pth.Part)) : Int := if (ps.any fun p => !Pth.rightB p) = true then 5 else if 512 < many ps ps.length then 4 else 0
theorem code_at {ps : List (List Pth.Part)} {k : Nat} (hk : k < ps.length) (h : Pth.rightB (ps.getD k []) = false) : code ps = 5 := by
  unfold code
  rw [if_pos]
  refine List.any_eq_true.2 ⟨ps[k], List.getElem_mem hk, ?_⟩
  rw [List.getD_eq_getElem?_getD, List.getElem?_eq_getElem hk] at h
  simpa using h
theorem code_all {ps : List (List Pth.Part)} (h : ∀ i, i < ps.length → Pth.rightB (ps.getD i []) = true) : code ps = if 512 < many ps ps.length then 4 else 0 := by
  unfold code
  rw [if_neg]
  intro hn
  obtain ⟨x, hx, h2⟩ := List.any_eq_true.1 hn
  obtain ⟨i, hi, rfl⟩ := List.getElem_of_mem hx
  have := h i hi
  rw [List.getD_eq_getElem?_getD, List.getElem?_eq_getElem hi] at this
  simp only [Option.getD_some] at this
  rw [this] at h2
  simp at h2
theorem rights_succ {l : List (List Pth.Part)} {k : Nat} (h : ∀ i, i < k → Pth.rightB (l.getD i []) = true) (hk : Pth.rightB (l.getD k []) = true) : ∀ i, i < k + 1 → Pth.rightB (l.getD i []) = true := by
  intro i hi
  rcases Nat.lt_or_ge i k with h1 | h1
  · exact h i h1
  · have : i = k := by omega
    rw [this]; exact hk
structure Tab (B : Nat) (pv bv : Value) (ps : List (List Pth.Part)) (vs : List Value) (bs : List Int) (w : World) : Prop where
  len : vs.length = ps.length
  pp : w.ownsRow B 82 1 pv ps.length vs
  each : Pth.Each B ps vs w
  bb : w.ownsRow B 3 1 bv bs.length (ints bs)
theorem Tab.below {B : Nat} {pv bv : Value} {ps : List (List Pth.Part)} {vs : List Value} {bs : List Int} {w w' : World} (h : Tab B pv bv ps vs bs w) (hb : Below w.heap.size w w') : Tab B pv bv ps vs bs w' :=
  ⟨h.len, Eng.own_below h.pp hb, h.each.below hb, Eng.own_below h.bb hb⟩
theorem Tab.mono {B B' : Nat} {pv bv : Value} {ps : List (List Pth.Part)} {vs : List Value} {bs : List Int} {w : World} (h : Tab B pv bv ps vs bs w) (hB : B' ≤ B) : Tab B' pv bv ps vs bs w :=
  ⟨h.len, Eng.own_mono h.pp hB, ⟨h.each.len, fun i hi => Eng.own_mono (h.each.row i hi) hB⟩, Eng.own_mono h.bb hB⟩
theorem Tab.sets {B : Nat} {pv bv : Value} {ps : List (List Pth.Part)} {vs : List Value} {bs : List Int} {w w' : World} {g : Nat} {o : Obj} {cs : Array Value} {T : TypeId} (h : Tab B pv bv ps vs bs w) (S : Eng.Sets w w' g o) (hk : w.heap[g]? = some (.cells cs T (0, 0))) (hT : ((T != 115) && ((T != 82) && (T != 3))) = true) : Tab B pv bv ps vs bs w' := by
  simp only [Bool.and_eq_true] at hT
  exact ⟨h.len, Eng.own_sets h.pp S hk (by simpa [bne_comm] using hT.2.1), h.each.sets S hk hT.1, Eng.own_sets h.bb S hk (by simpa [bne_comm] using hT.2.2)⟩
theorem Tab.rp {B : Nat} {pv bv : Value} {ps : List (List Pth.Part)} {vs : List Value} {bs : List Int} {w : World} (h : Tab B pv bv ps vs bs w) : Eng.Reads w pv ps.length 1 vs := Eng.Reads.of_own h.pp
theorem Tab.rb {B : Nat} {pv bv : Value} {ps : List (List Pth.Part)} {vs : List Value} {bs : List Int} {w : World} (h : Tab B pv bv ps vs bs w) : Eng.Reads w bv bs.length 1 (ints bs) := Eng.Reads.of_own h.bb
theorem Tab.ri {B : Nat} {pv bv : Value} {ps : List (List Pth.Part)} {vs : List Value} {bs : List Int} {w : World} (h : Tab B pv bv ps vs bs w) : ∀ k, k < ps.length → Eng.Reads w (vs.getD k undef) (ps.getD k []).length 2 (Pth.cellsP (ps.getD k [])) := h.each.reads h.len
def Slc (v : Value) : Prop := ∃ A n c, v = .slice A n c
theorem Slc.nil : Slc (.slice none 0 0) := ⟨_, _, _, rfl⟩
theorem Slc.of {w : World} {v : Value} {n size : Nat} {xs : List Value} (F : Eng.Reads w v n size xs) : Slc v := by
  obtain ⟨A, c, h⟩ := F.shape
  exact ⟨A, n, c, h⟩
def Made (B : Nat) (pv bv : Value) (ps : List (List Pth.Part)) (vs : List Value) (m : Int) (w : World) : Prop := code ps = 0 → Tab B pv bv ps vs (begs ps ps.length) w ∧ m = many ps ps.length
theorem Made.below {B : Nat} {pv bv : Value} {ps : List (List Pth.Part)} {vs : List Value} {m : Int} {w w' : World} (h : Made B pv bv ps vs m w) (hb : Below w.heap.size w w') : Made B pv bv ps vs m w' := fun h0 => ⟨(h h0).1.below hb, (h h0).2⟩
theorem Made.mono {B B' : Nat} {pv bv : Value} {ps : List (List Pth.Part)} {vs : List Value} {m : Int} {w : World} (h : Made B pv bv ps vs m w) (hB : B' ≤ B) : Made B' pv bv ps vs m w := fun h0 => ⟨(h h0).1.mono hB, (h h0).2⟩
theorem Made.sets {B : Nat} {pv bv : Value} {ps : List (List Pth.Part)} {vs : List Value} {m : Int} {w w' : World} {g : Nat} {o : Obj} {cs : Array Value} {T : TypeId} (h : Made B pv bv ps vs m w) (S : Eng.Sets w w' g o) (hk : w.heap[g]? = some (.cells cs T (0, 0))) (hT : ((T != 115) && ((T != 82) && (T != 3))) = true) : Made B pv bv ps vs m w' := fun h0 => ⟨(h h0).1.sets S hk hT, (h h0).2⟩
end Nfa
end Go.Proofs.YthgafcaoibfchaaDoor.X
end
section
namespace Go.Proofs.YthgafcaoibfchaaDoor.X
open Go Go.RowKit Go.Shelf Go.Proofs Go.Proofs.YthgafcaoibfchaaDoorW.PrintWords Go.Proofs.YthgafcaoibfchaaDoorW.PrintLast Go.Proofs.YthgafcaoibfchaaDoorW.PrintMore
set_option linter.unusedVariables false
set_option linter.unusedSimpArgs false
namespace Nfa
def bv (x : Int) : BitVec 64 := BitVec.ofInt 64 x
theorem wrap_nat (A : BitVec 64) : IntKind.u64.wrap (A.toNat : Int) = (A.toNat : Int) := by
  have h := A.isLt
  simp only [IntKind.wrap, IntKind.bits, IntKind.signed, Bool.false_and, Bool.false_eq_true, if_false]
  omega
theorem bits_or (x y : Int) : Go.bits .or .u64 x y = ((bv x ||| bv y).toNat : Int) := wrap_nat _
theorem bits_and (x y : Int) : Go.bits .and .u64 x y = ((bv x &&& bv y).toNat : Int) := wrap_nat _
theorem bv_cast (n : Nat) : bv (n : Int) = BitVec.ofNat 64 n := by unfold bv; rw [BitVec.ofInt_natCast]
theorem bit_and (X r : Nat) (hr : r < 64) : (Go.bits .and .u64 (shr .u64 (X : Int) (r : Int)) 1 == 1) = X.testBit r := by
  have h1 : shr .u64 (X : Int) (r : Int) = ((X / 2 ^ r : Nat) : Int) := by
    rw [← shr_eq _ hr]; simp
  rw [h1, bits_and, bv_cast, show bv 1 = BitVec.ofNat 64 1 from rfl, BitVec.toNat_and, BitVec.toNat_ofNat, BitVec.toNat_ofNat, Nat.testBit_eq_decide_div_mod_eq]
  have h2 : X / 2 ^ r % 2 ^ 64 &&& 1 % 2 ^ 64 = X / 2 ^ r % 2 := by
    rw [show 1 % 2 ^ 64 = 1 from rfl, Nat.and_one_is_mod]
    omega
  rw [h2, Bool.eq_iff_iff, beq_iff_eq, decide_eq_true_eq]
  omega
theorem bit_or (X r : Nat) (hX : X < 2 ^ 64) (hr : r < 64) : Go.bits .or .u64 (X : Int) (shl .u64 1 (r : Int)) = ((X ||| 2 ^ r : Nat) : Int) ∧ X ||| 2 ^ r < 2 ^ 64 := by
  have hp : (2 : Nat) ^ r < 2 ^ 64 := Nat.pow_lt_pow_right (by omega) hr
  have h1 : shl .u64 1 (r : Int) = ((2 ^ r : Nat) : Int) := by
    rw [← shl_eq _ hr, Int.one_mul]
    have h2 : ((2 : Int) ^ r) = ((2 ^ r : Nat) : Int) := by simp
    rw [h2]
    have hw : ∀ q : Nat, q < 2 ^ 64 → IntKind.u64.wrap (q : Int) = (q : Int) := by
      intro q hq
      simp only [IntKind.wrap, IntKind.bits, IntKind.signed, Bool.false_and, Bool.false_eq_true, if_false]
      omega
    exact hw _ hp
  have h3 : X ||| 2 ^ r < 2 ^ 64 := Nat.or_lt_two_pow hX hp
  refine ⟨?_, h3⟩
  rw [h1, bits_or, bv_cast, bv_cast, BitVec.toNat_or, BitVec.toNat_ofNat, BitVec.toNat_ofNat, Nat.mod_eq_of_lt hX, Nat.mod_eq_of_lt hp]
structure Good (s : List Int) : Prop where
  len : s.length = 8
  lo : ∀ i, i < 8 → 0 ≤ at_ s i
  hi : ∀ i, i < 8 → at_ s i < 18446744073709551616
theorem good0 : Good (List.replicate 8 0) := by
  refine ⟨by simp, fun i hi => ?_, fun i hi => ?_⟩ <;> (unfold at_; rw [List.getD_eq_getElem?_getD, List.getElem?_replicate]; split <;> simp)
theorem has_eq {s : List Int} (hg : Good s) {n : Nat} (hn : n < 512) : has s (n : Int) = (at_ s (n / 64)).toNat.testBit (n % 64) := by
  have hd : n / 64 < 8 := by omega
  obtain ⟨X, hX⟩ := Int.eq_ofNat_of_zero_le (hg.lo _ hd)
  unfold has
  rw [Int.toNat_natCast, hX, bit_and X _ (by omega), Int.toNat_natCast]
  have h1 : decide ((n : Int) ≥ 0) = true := by simp
  have h2 : decide ((n : Int) < 512) = true := by simp; omega
  rw [h1, h2]; simp
theorem at_set (s : List Int) (i j : Nat) (x : Int) (hi : i < s.length) : at_ (s.set i x) j = if i = j then x else at_ s j := by
  unfold at_
  rw [List.getD_eq_getElem?_getD, List.getD_eq_getElem?_getD, List.getElem?_set]
  by_cases h : i = j
  · subst h; rw [if_pos rfl, if_pos rfl, if_pos hi]; rfl
  · rw [if_neg h, if_neg h]
theorem put_eq {s : List Int} (hg : Good s) {n : Nat} (hn : n < 512) : put s (n : Int) = s.set (n / 64) (((at_ s (n / 64)).toNat ||| 2 ^ (n % 64) : Nat) : Int) ∧ (at_ s (n / 64)).toNat ||| 2 ^ (n % 64) < 2 ^ 64 := by
  have hd : n / 64 < 8 := by omega
  obtain ⟨X, hX⟩ := Int.eq_ofNat_of_zero_le (hg.lo _ hd)
  have hlt : X < 2 ^ 64 := by have := hg.hi _ hd; rw [hX] at this; omega
  have h := bit_or X (n % 64) hlt (by omega)
  rw [put_in (by omega) (by omega), Int.toNat_natCast, hX, Int.toNat_natCast, h.1]
  exact ⟨rfl, h.2⟩
theorem good_put {s : List Int} (hg : Good s) (n : Int) : Good (put s n) := by
  by_cases h : 0 ≤ n ∧ n < 512
  · obtain ⟨m, rfl⟩ := Int.eq_ofNat_of_zero_le h.1
    obtain ⟨h1, h2⟩ := put_eq hg (show m < 512 by omega)
    rw [h1]
    have hd : m / 64 < s.length := by rw [hg.len]; omega
    refine ⟨by rw [List.length_set]; exact hg.len, fun i hi => ?_, fun i hi => ?_⟩
    · rw [at_set _ _ _ _ hd]; split
      · omega
      · exact hg.lo i hi
    · rw [at_set _ _ _ _ hd]; split
      · omega
      · exact hg.hi i hi
  · rw [put_out (by omega)]; exact hg
def off (ps : List (List Pth.Part)) : Nat → Nat
  | 0 => 0
  | k + 1 => off ps k + ((ps.getD k []).length + 1)
structure Ok (ps : List (List Pth.Part)) : Prop where
  m : ∀ k, k ≤ ps.length → many ps k = (off ps k : Int)
  le : off ps ps.length ≤ 512
theorem off_mono (ps : List (List Pth.Part)) {a b : Nat} (h : a ≤ b) : off ps a ≤ off ps b := by
  induction b with
  | zero => have : a = 0 := by omega
            rw [this]; exact Nat.le_refl _
  | succ b ih =>
    rcases Nat.lt_or_ge a (b + 1) with h1 | h1
    · have := ih (by omega); show off ps a ≤ off ps b + _; omega
    · have : a = b + 1 := by omega
      rw [this]; exact Nat.le_refl _
theorem off_lt {ps : List (List Pth.Part)} (hok : Ok ps) {a k : Nat} (ha : a < ps.length) (hk : k ≤ (ps.getD a []).length) : off ps a + k < 512 := by
  have h1 := off_mono ps (show a + 1 ≤ ps.length by omega)
  have h2 := hok.le
  have h3 : off ps (a + 1) = off ps a + ((ps.getD a []).length + 1) := rfl
  omega
abbrev bsOf (ps : List (List Pth.Part)) : List Int := begs ps ps.length
theorem begin_eq {ps : List (List Pth.Part)} (hok : Ok ps) {a : Nat} (ha : a < ps.length) : beginF (bsOf ps) (a : Int) = (off ps a : Int) := by
  unfold beginF
  rw [begs_len, if_neg (by omega), Int.toNat_natCast]
  unfold bsOf begs
  rw [List.getD_eq_getElem?_getD, List.getElem?_map, List.getElem?_range ha]
  exact hok.m a (by omega)
theorem wrap_nat' {n : Nat} (h : n < 1000000) : IntKind.i64.wrap (n : Int) = (n : Int) := Eng.i64_id (by omega) (by omega)
def deep (p : List Pth.Part) (k : Nat) : Bool := (p.getD k default).1 == 2
end Nfa
end Go.Proofs.YthgafcaoibfchaaDoor.X
end
section
namespace Go.Proofs.YthgafcaoibfchaaDoor.X.Opn
open Go.ChangeShapes Go.WideShapes Go.RowKit Go.Joins Go.Deep
variable {H : Type} {enc : TypeId × Value → H} {w : World} {base : Nat} {spare : Nat → Bool} {held : Bool}
set_option maxRecDepth 100000 in
theorem cells61 : Tryd.prog.cellsOf 61 = 8 := by kernel_rfl
set_option maxRecDepth 100000 in
theorem cellTypes61 : Tryd.prog.cellTypes Tryd.prog.depth 61 = some (List.replicate 8 26) := by kernel_rfl
set_option maxRecDepth 100000 in
theorem okCell_u64 {r : Reach} {b0 : Nat} {v : Value} (h : Cell.okWide Tryd.prog w r b0 26 v) : ∃ z : Int, v = .int .u64 z ∧ 0 ≤ z ∧ z < 18446744073709551616 := by
  have hu := Tryd.underlying26
  unfold Cell.okWide at h
  unfold Cell.ok at h
  rw [hu] at h
  cases v
  all_goals first | exact (False.elim h) | skip
  obtain ⟨rfl, h⟩ := h
  refine ⟨_, rfl, ?_⟩
  unfold IntKind.has IntKind.min IntKind.max at h
  simp [IntKind.signed, IntKind.bits] at h
  omega
def ui : Value → Int
  | .int _ n => n
  | _ => 0
set_option maxRecDepth 100000 in
theorem open_set {r : Reach} {b0 : Nat} {v : Value} (hv : Value.okWide Tryd.prog w r b0 61 v) : ∃ l : List Int, v = .agg (List.map (Value.int .u64) l).toArray ∧ Nfa.Good l := by
  simp only [Value.okWide, Tryd.underlying61] at hv
  obtain ⟨cs, rfl, hsz, ts, hts, _, hrow⟩ := hv
  rw [cellTypes61] at hts
  obtain rfl := Option.some.inj hts
  rw [cells61] at hsz
  have hat : ∀ i, i < 8 → ∃ z : Int, cs.toList[i]? = some (.int .u64 z) ∧ 0 ≤ z ∧ z < 18446744073709551616 := by
    intro i hi
    have hlt : i < cs.size := by omega
    obtain ⟨u, hu, hok⟩ := hrow i cs[i] (by simp [hlt])
    have : u = 26 := by
      rw [List.getElem?_replicate] at hu
      simp at hu
      exact hu.2.symm
    subst this
    obtain ⟨z, hz, h0, h1⟩ := okCell_u64 hok
    exact ⟨z, by rw [← hz]; simp [hlt], h0, h1⟩
  refine ⟨cs.toList.map ui, ?_, by simpa using hsz, fun i hi => ?_, fun i hi => ?_⟩
  · congr 1
    refine Array.ext' ?_
    simp only [List.map_map]
    refine List.ext_getElem (by simp) fun i h1 h2 => ?_
    simp at h2
    obtain ⟨z, hz, _⟩ := hat i (by simp at h1; omega)
    have hz' := (List.getElem?_eq_some_iff.1 hz).2
    simp only [List.getElem_map, Function.comp]
    rw [hz']; rfl
  all_goals
    obtain ⟨z, hz, h0, h1⟩ := hat i hi
    unfold Nfa.at_
    rw [List.getD_eq_getElem?_getD, List.getElem?_map, hz]
    simp [ui]; omega
end Go.Proofs.YthgafcaoibfchaaDoor.X.Opn
end
section
namespace Go.Proofs.YthgafcaoibfchaaDoor.X
open Go.RowKit Go.Shelf Go.Proofs Go.Proofs.YthgafcaoibfchaaDoorW.PrintWords Go.Proofs.YthgafcaoibfchaaDoorW.PrintLast Go.Proofs.YthgafcaoibfchaaDoorW.PrintMore
set_option linter.unusedVariables false
set_option linter.unusedSimpArgs false
set_option maxHeartbeats 4000000 in
set_option maxRecDepth 100000 in
theorem Pth.clone_calls (v : Value) (l : List Pth.Part) (w : World) (hx : Eng.Reads w v l.length 2 (Pth.cellsP l)) (hl : l.length ≤ 5864062014634) : Calls Tryd.prog 78 #[v] w fun e w' => ∃ v', e = .returned v' ∧ w'.ownsRow w.heap.size 115 2 v' l.length (Pth.cellsP l) ∧ Below w.heap.size w w' := by
 refine Eng.enter Tryd.func78 rfl fun act0 d0 s0 v0 => ?_
 have s0 : act0.tmps.size = 8 := s0
 have h0_0 : act0.eval (.tmp 0) = v := v0 0 (by simp)
 clear v0
 have bl0 : Below w.heap.size w w := Below.refl _ _
 refine wp_seq ?_
 refine Eng.regionS (Eng.still [fun u_ => u_ = .slice none 0 0]) (fun _ => .plain) 1 0 8 s0 rfl (by kernel_rfl) (Eng.still_stable _) (Or.inr (Eng.still_any _)) ?_ ?_
 ·refine Eng.Steps.cons (fun _ => ?_) (Eng.Steps.nil)
  ·refine Eng.plain rfl rfl fun a w' H => ?_
   exact Eng.val (w1 := w') (v := .slice none 0 0) (Eng.run_assign rfl (rfl : a.eval (.const (.slice none 0 0)) = .slice none 0 0)) (Below.refl _ _) rfl
 intro act1 w1 T
 have h0_1 := (T.rest 0 (by kernel_rfl)).trans h0_0
 have Fin_1 := Eng.Reads.below hx T.below
 have d1 := T.defers.trans d0
 have s1 := T.size.trans s0
 have bl1 := bl0.trans (T.below.mono bl0.size)
 clear T
 refine Eng.tail_nil ?_
 refine wp_seq ?_
 refine wp_seq ?_
 obtain ⟨q4, Bq4⟩ : ∃ b : Bool, b = (Eng.isNil v) := ⟨_, rfl⟩
 refine Eng.regionS (Eng.still [fun u_ => u_ = v, fun u_ => u_ = .bool q4]) (fun _ => .plain) 2 0 8 s1 rfl (by kernel_rfl) (Eng.still_stable _) (Or.inr (Eng.still_any _)) ?_ ?_
 ·refine Eng.Steps.cons (fun _ => ?_) (Eng.Steps.cons (fun _ => ?_) (Eng.Steps.nil))
  ·refine Eng.plain rfl rfl fun a w' H => ?_
   exact Eng.val (w1 := w') (v := v) (Eng.run_move rfl ((H.kept 0 (by kernel_rfl)).trans h0_1)) (Below.refl _ _) rfl
  ·refine Eng.plain rfl rfl fun a w' H => ?_
   refine Eng.val (w1 := w') (v := .bool (Eng.isNil v)) ?_ (Below.refl _ _) (by show _ = Value.bool q4; rw [Bq4])
   exact Eng.run_isnil rfl Tryd.underlying82 (show a.eval (.tmp 3) = v from (H.dep 0 3 (by kernel_rfl) rfl)) (Eng.Reads.below Fin_1 H.below)
 intro act2 w2 T
 have h0_2 := (T.rest 0 (by kernel_rfl)).trans h0_1
 have Fin_2 := Eng.Reads.below Fin_1 T.below
 have h4_2 : act2.eval (.tmp 4) = .bool q4 := T.done 1 4 rfl rfl
 have d2 := T.defers.trans d1
 have s2 := T.size.trans s1
 have bl2 := bl1.trans (T.below.mono bl1.size)
 clear T
 refine Eng.tail_nil ?_
 refine wp_cond_split h4_2 (fun hq => ?_) (fun hq => ?_)
 ·
  have c4 := Bq4.symm.trans hq
  clear hq
  have hz := Eng.isNil_zero hx c4 rfl
  have hl0 : l = [] := List.eq_nil_of_length_eq_zero hz
  refine wp_seq ?_
  refine Eng.regionS (Eng.still [fun u_ => u_ = .slice none 0 0]) (fun _ => .plain) 1 0 8 s2 rfl (by kernel_rfl) (Eng.still_stable _) (Or.inr (Eng.still_any _)) ?_ ?_
  ·refine Eng.Steps.cons (fun _ => ?_) (Eng.Steps.nil)
   ·refine Eng.plain rfl rfl fun a w' H => ?_
    exact Eng.val (w1 := w') (v := .slice none 0 0) (Eng.run_assign rfl (rfl : a.eval (.const (.slice none 0 0)) = .slice none 0 0)) (Below.refl _ _) rfl
  intro act4 w4 T
  have h2_4 : act4.eval (.tmp 2) = .slice none 0 0 := T.done 0 2 rfl rfl
  have d4 := T.defers.trans d2
  have bl4 := bl2.trans (T.below.mono bl2.size)
  clear T
  refine Eng.tail_nil ?_
  refine wp_ret ?_
  repeat (first | refine Eng.in_ret ?_ | refine Eng.then_ret ?_)
  exact Eng.ret1 rfl d4 h2_4 ⟨_, rfl, by rw [hl0]; exact World.ownsRow_nil _ _ _ _, bl4⟩
 ·
  have c4 := Bq4.symm.trans hq
  clear hq
  refine wp_skip ?_
  refine wp_seq ?_
  refine Eng.regionT (n := 4) rfl ?_
  refine Eng.tail_ex rfl rfl rfl (Eng.run_build0 (B := w.heap.size) (size := 2) (z := .agg #[.int .i64 0, .string ⟨#[]⟩]) (e := 115) rfl Tryd.underlying82 (by kernel_rfl) bl2.size) s2 rfl fun v_6 w6 act6 R d6 s6 hv hr => ?_
  obtain ⟨O_6, b_6⟩ := R
  have h0_6 := (hr 0 rfl).trans h0_2
  have h5_6 : act6.eval (.tmp 5) = v_6 := hv
  have d6 := d6.trans d2
  clear hv hr
  have Fin_6 := Eng.Reads.below Fin_2 b_6
  have bl6 := bl2.trans (b_6.mono bl2.size)
  refine Eng.tail_val rfl rfl rfl (Eng.run_move rfl h0_6) s6 rfl fun act7 d7 s7 hv hr => ?_
  have h5_7 := (hr 5 rfl).trans h5_6
  have h6_7 : act7.eval (.tmp 6) = v := hv
  have d7 := d7.trans d6
  clear hv hr
  refine Eng.tail_ex rfl rfl rfl (Eng.run_appendT (z := .agg #[.int .i64 0, .string ⟨#[]⟩]) rfl Tryd.underlying82 (by kernel_rfl) rfl rfl h5_7 O_6 h6_7 Fin_6 (Pth.cells_one _) (by simp; omega) bl6.size) s7 rfl fun v_8 w8 act8 R d8 s8 hv hr => ?_
  obtain ⟨O_8, _, b_8, G_8, _⟩ := R
  have h7_8 : act8.eval (.tmp 7) = v_8 := hv
  have d8 := d8.trans d7
  clear hv hr
  have bl8 := bl6.trans b_8
  have Oa8 : w8.ownsRow w.heap.size 115 2 v_8 l.length (Pth.cellsP l) := Pth.own_nil_cat O_8
  have Fa8 := Eng.Reads.of_own Oa8
  refine Eng.tail_val rfl rfl rfl (Eng.run_assign rfl h7_8) s8 rfl fun act9 d9 s9 hv hr => ?_
  have h2_9 : act9.eval (.tmp 2) = v_8 := hv
  have d9 := d9.trans d8
  clear hv hr
  refine Eng.tail_nil ?_
  refine wp_ret ?_
  repeat (first | refine Eng.in_ret ?_ | refine Eng.then_ret ?_)
  exact Eng.ret1 rfl d9 h2_9 ⟨_, rfl, Oa8, bl8⟩
end Go.Proofs.YthgafcaoibfchaaDoor.X
end
section
namespace Go.Proofs.YthgafcaoibfchaaDoor.X
open Go.RowKit Go.Shelf Go.Proofs Go.Proofs.YthgafcaoibfchaaDoorW.PrintWords Go.Proofs.YthgafcaoibfchaaDoorW.PrintLast Go.Proofs.YthgafcaoibfchaaDoorW.PrintMore
set_option linter.unusedVariables false
set_option linter.unusedSimpArgs false
set_option maxHeartbeats 4000000 in
set_option maxRecDepth 100000 in
theorem Pth.part_calls (k : Int) (s : ByteArray) (w : World) (hs : s.size ≤ 9223372036854775807) (hT : Tabs.Holds w) : Calls Tryd.prog 111 #[.agg #[.int .i64 k, .string s]] w fun e w' => e = .returned (.bool (Pth.right1 k s)) ∧ Below w.heap.size w w' := by
 have hu115 := Tryd.underlying115
 refine Eng.enter Tryd.func111 rfl fun act0 d0 s0 v0 => ?_
 have s0 : act0.tmps.size = 22 := s0
 have h0_0 : act0.eval (.tmp 0) = .agg #[.int .i64 k, .string s] := v0 0 (by simp)
 clear v0
 have bl0 : Below w.heap.size w w := Below.refl _ _
 refine wp_seq ?_
 refine Eng.regionS (Eng.still [fun u_ => True, fun u_ => u_ = .bool false]) (fun i => ([.alloc 115 #[.int .i64 k, .string s], .plain] : List Eng.Kind).getD i .plain) 2 0 22 s0 rfl (by kernel_rfl) (Eng.still_stable _) (Or.inr (Eng.still_any _)) ?_ ?_
 ·refine Eng.Steps.cons (fun _ => ?_) (Eng.Steps.cons (fun _ => ?_) (Eng.Steps.nil))
  ·refine Eng.made rfl (by simp) rfl (fun a w' hd ho => ?_) (fun _ _ => trivial)
   exact Eng.run_box rfl ((ho 0 (by kernel_rfl)).trans h0_0)
  ·refine Eng.plain rfl rfl fun a w' H => ?_
   exact Eng.val (w1 := w') (v := .bool false) (Eng.run_assign rfl (rfl : a.eval (.const (.bool false)) = .bool false)) (Below.refl _ _) rfl
 intro act1 w1 T
 obtain ⟨g1_1, h1_1, rg1_1, lg1_1_1, kg1_1_1⟩ := T.al 0 1 _ _ rfl rfl rfl (by kernel_rfl)
 have d1 := T.defers.trans d0
 have s1 := T.size.trans s0
 have bl1 := bl0.trans (T.below.mono bl0.size)
 clear T
 refine Eng.tail_nil ?_
 show Code.wp Tryd.prog _ _ _ _
 refine wp_seq ?_
 refine wp_seq ?_
 refine Eng.regionS (Eng.still [fun u_ => u_ = .pointer (some ⟨g1_1, 0, none⟩), fun u_ => u_ = .int .i64 k]) (fun _ => .plain) 2 0 22 s1 rfl (by kernel_rfl) (Eng.still_stable _) (Or.inr (Eng.still_any _)) ?_ ?_
 ·refine Eng.Steps.cons (fun _ => ?_) (Eng.Steps.cons (fun _ => ?_) (Eng.Steps.nil))
  ·refine Eng.plain rfl rfl fun a w' H => ?_
   refine Eng.val (w1 := w') (v := .pointer (some ⟨g1_1, 0, none⟩)) ?_ (Below.refl _ _) rfl
   have e0 := ((H.kept 1 (by kernel_rfl)).trans h1_1)
   simp only [execOp, resolve, List.map_toArray, List.map_cons, List.map_nil, e0]
   go_simp
  ·refine Eng.plain rfl rfl fun a w' H => ?_
   have kb := (H.below.block _ lg1_1_1).trans kg1_1_1
   have z0 : w'.cell? ⟨g1_1, 0, none⟩ = some (.int .i64 k) := (Eng.cells kb 0).trans rfl
   refine Eng.val (w1 := w') (v := .int .i64 k) ?_ (Below.refl _ _) rfl
   have e0 : a.eval (.tmp 3) = .pointer (some ⟨g1_1, 0, none⟩) := (H.dep 0 3 (by kernel_rfl) rfl)
   simp only [execOp, resolve, List.map_toArray, List.map_cons, List.map_nil, e0]
   go_simp
 intro act2 w2 T
 have h1_2 := (T.rest 1 (by kernel_rfl)).trans h1_1
 have kg1_1_2 := (T.below.block _ lg1_1_1).trans kg1_1_1
 have lg1_1_2 := Nat.lt_of_lt_of_le lg1_1_1 T.below.size
 have h4_2 : act2.eval (.tmp 4) = .int .i64 k := T.done 1 4 rfl rfl
 have d2 := T.defers.trans d1
 have s2 := T.size.trans s1
 have bl2 := bl1.trans (T.below.mono bl1.size)
 clear T
 refine Eng.tail_nil ?_
 show Code.wp Tryd.prog _ _ _ _
 refine wp_block ?_
 refine wp_seq ?_
 obtain ⟨q6, Bq6⟩ : ∃ b : Bool, b = (k == 0) := ⟨_, rfl⟩
 refine Eng.regionS (Eng.still [fun u_ => u_ = .bool q6, fun u_ => u_ = .bool q6]) (fun _ => .plain) 2 0 22 s2 rfl (by kernel_rfl) (Eng.still_stable _) (Or.inr (Eng.still_any _)) ?_ ?_
 ·refine Eng.Steps.cons (fun _ => ?_) (Eng.Steps.cons (fun _ => ?_) (Eng.Steps.nil))
  ·refine Eng.plain rfl rfl fun a w' H => ?_
   refine Eng.val (w1 := w') (v := .bool (k == 0)) ?_ (Below.refl _ _) (by show _ = Value.bool q6; rw [Bq6])
   have e0 := ((H.kept 4 (by kernel_rfl)).trans h4_2)
   have e1 : a.eval (.const (.int .i64 0)) = .int .i64 0 := (rfl : a.eval (.const (.int .i64 0)) = .int .i64 0)
   simp only [execOp, resolve, List.map_toArray, List.map_cons, List.map_nil, e0, e1]
   go_simp
  ·refine Eng.plain rfl rfl fun a w' H => ?_
   exact Eng.val (w1 := w') (v := .bool q6) (Eng.run_assign rfl (H.dep 0 6 (by kernel_rfl) rfl)) (Below.refl _ _) rfl
 intro act3 w3 T
 have h1_3 := (T.rest 1 (by kernel_rfl)).trans h1_2
 have h4_3 := (T.rest 4 (by kernel_rfl)).trans h4_2
 have kg1_1_3 := (T.below.block _ lg1_1_2).trans kg1_1_2
 have lg1_1_3 := Nat.lt_of_lt_of_le lg1_1_2 T.below.size
 have h5_3 : act3.eval (.tmp 5) = .bool q6 := T.done 1 5 rfl rfl
 have d3 := T.defers.trans d2
 have s3 := T.size.trans s2
 have bl3 := bl2.trans (T.below.mono bl2.size)
 clear T
 refine Eng.tail_nil ?_
 show Code.wp Tryd.prog _ _ _ _
 refine wp_cond_split h5_3 (fun hq => ?_) (fun hq => ?_)
 ·
  have c5 := Bq6.symm.trans hq
  clear hq
  refine wp_seq ?_
  obtain ⟨q9, Bq9⟩ : ∃ b : Bool, b = (Lib.validD s.data.toList) := ⟨_, rfl⟩
  obtain ⟨q14, Bq14⟩ : ∃ b : Bool, b = (decide ((s.size : Int) ≤ 100)) := ⟨_, rfl⟩
  obtain ⟨q15, Bq15⟩ : ∃ b : Bool, b = (q9 && q14) := ⟨_, rfl⟩
  refine Eng.regionS (Eng.still [fun u_ => u_ = .pointer (some ⟨g1_1, 1, none⟩), fun u_ => u_ = .string s, fun u_ => u_ = .bool q9, fun u_ => u_ = .bool q9, fun u_ => u_ = bif (q9 == true) then (.pointer (some ⟨g1_1, 1, none⟩)) else undef, fun u_ => u_ = bif (q9 == true) then (.string s) else undef, fun u_ => u_ = bif (q9 == true) then (.int .i64 (s.size : Int)) else undef, fun u_ => u_ = bif (q9 == true) then (.bool q14) else undef, fun u_ => u_ = .bool q15, fun u_ => u_ = .bool q15]) (fun _ => .plain) 10 0 22 s3 rfl (by kernel_rfl) (Eng.still_stable _) (Or.inr (Eng.still_any _)) ?_ ?_
  ·refine Eng.Steps.cons (fun _ => ?_) (Eng.Steps.cons (fun _ => ?_) (Eng.Steps.cons (fun _ => ?_) (Eng.Steps.cons (fun _ => ?_) (Eng.Steps.cons (fun _ => ?_) (Eng.Steps.cons (fun _ => ?_) (Eng.Steps.cons (fun _ => ?_) (Eng.Steps.cons (fun _ => ?_) (Eng.Steps.cons (fun _ => ?_) (Eng.Steps.cons (fun _ => ?_) (Eng.Steps.nil))))))))))
   ·refine Eng.plain rfl rfl fun a w' H => ?_
    refine Eng.val (w1 := w') (v := .pointer (some ⟨g1_1, 1, none⟩)) ?_ (Below.refl _ _) rfl
    have e0 := ((H.kept 1 (by kernel_rfl)).trans h1_3)
    simp only [execOp, resolve, List.map_toArray, List.map_cons, List.map_nil, e0]
    go_simp
   ·refine Eng.plain rfl rfl fun a w' H => ?_
    have kb := (H.below.block _ lg1_1_3).trans kg1_1_3
    have z0 : w'.cell? ⟨g1_1, 1, none⟩ = some (.string s) := (Eng.cells kb 1).trans rfl
    refine Eng.val (w1 := w') (v := .string s) ?_ (Below.refl _ _) rfl
    have e0 : a.eval (.tmp 7) = .pointer (some ⟨g1_1, 1, none⟩) := (H.dep 0 7 (by kernel_rfl) rfl)
    simp only [execOp, resolve, List.map_toArray, List.map_cons, List.map_nil, e0]
    go_simp
   ·refine Eng.plain rfl rfl fun a w' H => ?_
    refine Eng.call Tryd.func132 (by kernel_rfl) (by kernel_rfl) rfl #[.string s] ?_ ?_
    ·have e0 : a.eval (.tmp 8) = .string s := (H.dep 1 8 (by kernel_rfl) rfl); simp only [List.map_toArray, List.map_cons, List.map_nil, e0]
    refine (Tabs.valid s _ (by omega) (Tabs.below (Tabs.below hT bl3) H.below)).mono ?_
    rintro e w'' ⟨rfl, hb⟩
    exact ⟨_, rfl, (by show _ = Value.bool q9; rw [Bq9]), hb⟩
   ·refine Eng.plain rfl rfl fun a w' H => ?_
    exact Eng.val (w1 := w') (v := .bool q9) (Eng.run_move rfl (H.dep 2 9 (by kernel_rfl) rfl)) (Below.refl _ _) rfl
   ·refine Eng.guarded1 (j := 3) (d := 10) (b := q9) rfl rfl (by kernel_rfl) rfl (fun v w h => h) (fun hG w => Eng.off hG) fun hG a w' H => ?_
    refine Eng.val (w1 := w') (v := .pointer (some ⟨g1_1, 1, none⟩)) ?_ (Below.refl _ _) (Eng.off' hG rfl)
    have e0 := ((H.kept 1 (by kernel_rfl)).trans h1_3)
    simp only [execOp, resolve, List.map_toArray, List.map_cons, List.map_nil, e0]
    go_simp
   ·refine Eng.guarded1 (j := 3) (d := 10) (b := q9) rfl rfl (by kernel_rfl) rfl (fun v w h => h) (fun hG w => Eng.off hG) fun hG a w' H => ?_
    have kb := (H.below.block _ lg1_1_3).trans kg1_1_3
    have z0 : w'.cell? ⟨g1_1, 1, none⟩ = some (.string s) := (Eng.cells kb 1).trans rfl
    refine Eng.val (w1 := w') (v := .string s) ?_ (Below.refl _ _) (Eng.off' hG rfl)
    have e0 : a.eval (.tmp 11) = .pointer (some ⟨g1_1, 1, none⟩) := (Eng.on (H.dep 4 11 (by kernel_rfl) rfl) hG)
    simp only [execOp, resolve, List.map_toArray, List.map_cons, List.map_nil, e0]
    go_simp
   ·refine Eng.guarded1 (j := 3) (d := 10) (b := q9) rfl rfl (by kernel_rfl) rfl (fun v w h => h) (fun hG w => Eng.off hG) fun hG a w' H => ?_
    refine Eng.val (w1 := w') (v := .int .i64 (s.size : Int)) ?_ (Below.refl _ _) (Eng.off' hG rfl)
    have e0 : a.eval (.tmp 12) = .string s := (Eng.on (H.dep 5 12 (by kernel_rfl) rfl) hG)
    simp only [execOp, resolve, List.map_toArray, List.map_cons, List.map_nil, e0]
    go_simp
   ·refine Eng.guarded1 (j := 3) (d := 10) (b := q9) rfl rfl (by kernel_rfl) rfl (fun v w h => h) (fun hG w => Eng.off hG) fun hG a w' H => ?_
    refine Eng.val (w1 := w') (v := .bool (decide ((s.size : Int) ≤ 100))) ?_ (Below.refl _ _) (Eng.off' hG (by rw [Bq14]))
    have e0 : a.eval (.tmp 13) = .int .i64 (s.size : Int) := (Eng.on (H.dep 6 13 (by kernel_rfl) rfl) hG)
    have e1 : a.eval (.const (.int .i64 100)) = .int .i64 100 := (rfl : a.eval (.const (.int .i64 100)) = .int .i64 100)
    simp only [execOp, resolve, List.map_toArray, List.map_cons, List.map_nil, e0, e1]
    go_simp
   ·refine Eng.plain rfl rfl fun a w' H => ?_
    exact Eng.val (w1 := w') (v := .bool (q9 && q14)) (Eng.run_and rfl rfl (G := true) (H.dep 3 10 (by kernel_rfl) rfl) (fun hb => (Eng.on (H.dep 7 14 (by kernel_rfl) rfl) (Eng.mk1 hb)))) (Below.refl _ _) (by show _ = Value.bool q15; rw [Bq15])
   ·refine Eng.plain rfl rfl fun a w' H => ?_
    exact Eng.val (w1 := w') (v := .bool q15) (Eng.run_assign rfl (H.dep 8 15 (by kernel_rfl) rfl)) (Below.refl _ _) rfl
  intro act5 w5 T
  have h2_5 : act5.eval (.tmp 2) = .bool q15 := T.done 9 2 rfl rfl
  have d5 := T.defers.trans d3
  have bl5 := bl3.trans (T.below.mono bl3.size)
  clear T
  refine Eng.tail_nil ?_
  show Code.wp Tryd.prog _ _ _ _
  refine wp_ret ?_
  repeat (first | refine Eng.in_ret ?_ | refine Eng.then_ret ?_)
  exact Eng.ret1 rfl d5 h2_5 ⟨by first | rfl | (simp [Pth.right1, *]; done), bl5⟩
 ·
  have c5 := Bq6.symm.trans hq
  clear hq
  refine wp_seq ?_
  refine wp_seq ?_
  obtain ⟨q17, Bq17⟩ : ∃ b : Bool, b = (k == 1) := ⟨_, rfl⟩
  refine Eng.regionS (Eng.still [fun u_ => u_ = .bool q17, fun u_ => u_ = .bool q17]) (fun _ => .plain) 2 0 22 s3 rfl (by kernel_rfl) (Eng.still_stable _) (Or.inr (Eng.still_any _)) ?_ ?_
  ·refine Eng.Steps.cons (fun _ => ?_) (Eng.Steps.cons (fun _ => ?_) (Eng.Steps.nil))
   ·refine Eng.plain rfl rfl fun a w' H => ?_
    refine Eng.val (w1 := w') (v := .bool (k == 1)) ?_ (Below.refl _ _) (by show _ = Value.bool q17; rw [Bq17])
    have e0 := ((H.kept 4 (by kernel_rfl)).trans h4_3)
    have e1 : a.eval (.const (.int .i64 1)) = .int .i64 1 := (rfl : a.eval (.const (.int .i64 1)) = .int .i64 1)
    simp only [execOp, resolve, List.map_toArray, List.map_cons, List.map_nil, e0, e1]
    go_simp
   ·refine Eng.plain rfl rfl fun a w' H => ?_
    exact Eng.val (w1 := w') (v := .bool q17) (Eng.run_assign rfl (H.dep 0 17 (by kernel_rfl) rfl)) (Below.refl _ _) rfl
  intro act7 w7 T
  have h1_7 := (T.rest 1 (by kernel_rfl)).trans h1_3
  have h4_7 := (T.rest 4 (by kernel_rfl)).trans h4_3
  have kg1_1_7 := (T.below.block _ lg1_1_3).trans kg1_1_3
  have lg1_1_7 := Nat.lt_of_lt_of_le lg1_1_3 T.below.size
  have h16_7 : act7.eval (.tmp 16) = .bool q17 := T.done 1 16 rfl rfl
  have d7 := T.defers.trans d3
  have s7 := T.size.trans s3
  have bl7 := bl3.trans (T.below.mono bl3.size)
  clear T
  refine Eng.tail_nil ?_
  show Code.wp Tryd.prog _ _ _ _
  refine wp_cond_split h16_7 (fun hq => ?_) (fun hq => ?_)
  ·
   have kn8 := hq
   have c16 := Bq17.symm.trans hq
   clear hq
   refine wp_skip ?_
   show Code.wp Tryd.prog _ _ _ _
   refine wp_cond_true (h16_7.trans (by rw [kn8])) ?_
   refine wp_seq ?_
   obtain ⟨q21, Bq21⟩ : ∃ b : Bool, b = (s.toList.isEmpty) := ⟨_, rfl⟩
   refine Eng.regionS (Eng.still [fun u_ => u_ = .pointer (some ⟨g1_1, 1, none⟩), fun u_ => u_ = .string s, fun u_ => u_ = .bool q21, fun u_ => u_ = .bool q21]) (fun _ => .plain) 4 0 22 s7 rfl (by kernel_rfl) (Eng.still_stable _) (Or.inr (Eng.still_any _)) ?_ ?_
   ·refine Eng.Steps.cons (fun _ => ?_) (Eng.Steps.cons (fun _ => ?_) (Eng.Steps.cons (fun _ => ?_) (Eng.Steps.cons (fun _ => ?_) (Eng.Steps.nil))))
    ·refine Eng.plain rfl rfl fun a w' H => ?_
     refine Eng.val (w1 := w') (v := .pointer (some ⟨g1_1, 1, none⟩)) ?_ (Below.refl _ _) rfl
     have e0 := ((H.kept 1 (by kernel_rfl)).trans h1_7)
     simp only [execOp, resolve, List.map_toArray, List.map_cons, List.map_nil, e0]
     go_simp
    ·refine Eng.plain rfl rfl fun a w' H => ?_
     have kb := (H.below.block _ lg1_1_7).trans kg1_1_7
     have z0 : w'.cell? ⟨g1_1, 1, none⟩ = some (.string s) := (Eng.cells kb 1).trans rfl
     refine Eng.val (w1 := w') (v := .string s) ?_ (Below.refl _ _) rfl
     have e0 : a.eval (.tmp 19) = .pointer (some ⟨g1_1, 1, none⟩) := (H.dep 0 19 (by kernel_rfl) rfl)
     simp only [execOp, resolve, List.map_toArray, List.map_cons, List.map_nil, e0]
     go_simp
    ·refine Eng.plain rfl rfl fun a w' H => ?_
     refine Eng.val (w1 := w') (v := .bool s.toList.isEmpty) ?_ (Below.refl _ _) (by show _ = Value.bool q21; rw [Bq21])
     have e0 : a.eval (.tmp 20) = .string s := (H.dep 1 20 (by kernel_rfl) rfl)
     have e1 : a.eval (.const (.string ⟨#[]⟩)) = .string ⟨#[]⟩ := (rfl : a.eval (.const (.string ⟨#[]⟩)) = .string ⟨#[]⟩)
     simp only [execOp, resolve, List.map_toArray, List.map_cons, List.map_nil, e0, e1]
     go_simp
    ·refine Eng.plain rfl rfl fun a w' H => ?_
     exact Eng.val (w1 := w') (v := .bool q21) (Eng.run_assign rfl (H.dep 2 21 (by kernel_rfl) rfl)) (Below.refl _ _) rfl
   intro act9 w9 T
   have h2_9 : act9.eval (.tmp 2) = .bool q21 := T.done 3 2 rfl rfl
   have d9 := T.defers.trans d7
   have bl9 := bl7.trans (T.below.mono bl7.size)
   clear T
   refine Eng.tail_nil ?_
   show Code.wp Tryd.prog _ _ _ _
   refine wp_ret ?_
   repeat (first | refine Eng.in_ret ?_ | refine Eng.then_ret ?_)
   exact Eng.ret1 rfl d9 h2_9 ⟨by first | rfl | (simp [Pth.right1, *]; done), bl9⟩
  ·
   have c16 := Bq17.symm.trans hq
   clear hq
   obtain ⟨q18, Bq18⟩ : ∃ b : Bool, b = (k == 2) := ⟨_, rfl⟩
   refine Eng.regionS (Eng.still [fun u_ => u_ = .bool q18, fun u_ => u_ = .bool q18]) (fun _ => .plain) 2 0 22 s7 rfl (by kernel_rfl) (Eng.still_stable _) (Or.inr (Eng.still_any _)) ?_ ?_
   ·refine Eng.Steps.cons (fun _ => ?_) (Eng.Steps.cons (fun _ => ?_) (Eng.Steps.nil))
    ·refine Eng.plain rfl rfl fun a w' H => ?_
     refine Eng.val (w1 := w') (v := .bool (k == 2)) ?_ (Below.refl _ _) (by show _ = Value.bool q18; rw [Bq18])
     have e0 := ((H.kept 4 (by kernel_rfl)).trans h4_7)
     have e1 : a.eval (.const (.int .i64 2)) = .int .i64 2 := (rfl : a.eval (.const (.int .i64 2)) = .int .i64 2)
     simp only [execOp, resolve, List.map_toArray, List.map_cons, List.map_nil, e0, e1]
     go_simp
    ·refine Eng.plain rfl rfl fun a w' H => ?_
     exact Eng.val (w1 := w') (v := .bool q18) (Eng.run_assign rfl (H.dep 0 18 (by kernel_rfl) rfl)) (Below.refl _ _) rfl
   intro act11 w11 T
   have h1_11 := (T.rest 1 (by kernel_rfl)).trans h1_7
   have kg1_1_11 := (T.below.block _ lg1_1_7).trans kg1_1_7
   have lg1_1_11 := Nat.lt_of_lt_of_le lg1_1_7 T.below.size
   have h16_11 : act11.eval (.tmp 16) = .bool q18 := T.done 1 16 rfl rfl
   have d11 := T.defers.trans d7
   have s11 := T.size.trans s7
   have bl11 := bl7.trans (T.below.mono bl7.size)
   clear T
   refine Eng.tail_nil ?_
   show Code.wp Tryd.prog _ _ _ _
   refine wp_cond_split h16_11 (fun hq => ?_) (fun hq => ?_)
   ·
    have c16 := Bq18.symm.trans hq
    clear hq
    refine wp_seq ?_
    obtain ⟨q21, Bq21⟩ : ∃ b : Bool, b = (s.toList.isEmpty) := ⟨_, rfl⟩
    refine Eng.regionS (Eng.still [fun u_ => u_ = .pointer (some ⟨g1_1, 1, none⟩), fun u_ => u_ = .string s, fun u_ => u_ = .bool q21, fun u_ => u_ = .bool q21]) (fun _ => .plain) 4 0 22 s11 rfl (by kernel_rfl) (Eng.still_stable _) (Or.inr (Eng.still_any _)) ?_ ?_
    ·refine Eng.Steps.cons (fun _ => ?_) (Eng.Steps.cons (fun _ => ?_) (Eng.Steps.cons (fun _ => ?_) (Eng.Steps.cons (fun _ => ?_) (Eng.Steps.nil))))
     ·refine Eng.plain rfl rfl fun a w' H => ?_
      refine Eng.val (w1 := w') (v := .pointer (some ⟨g1_1, 1, none⟩)) ?_ (Below.refl _ _) rfl
      have e0 := ((H.kept 1 (by kernel_rfl)).trans h1_11)
      simp only [execOp, resolve, List.map_toArray, List.map_cons, List.map_nil, e0]
      go_simp
     ·refine Eng.plain rfl rfl fun a w' H => ?_
      have kb := (H.below.block _ lg1_1_11).trans kg1_1_11
      have z0 : w'.cell? ⟨g1_1, 1, none⟩ = some (.string s) := (Eng.cells kb 1).trans rfl
      refine Eng.val (w1 := w') (v := .string s) ?_ (Below.refl _ _) rfl
      have e0 : a.eval (.tmp 19) = .pointer (some ⟨g1_1, 1, none⟩) := (H.dep 0 19 (by kernel_rfl) rfl)
      simp only [execOp, resolve, List.map_toArray, List.map_cons, List.map_nil, e0]
      go_simp
     ·refine Eng.plain rfl rfl fun a w' H => ?_
      refine Eng.val (w1 := w') (v := .bool s.toList.isEmpty) ?_ (Below.refl _ _) (by show _ = Value.bool q21; rw [Bq21])
      have e0 : a.eval (.tmp 20) = .string s := (H.dep 1 20 (by kernel_rfl) rfl)
      have e1 : a.eval (.const (.string ⟨#[]⟩)) = .string ⟨#[]⟩ := (rfl : a.eval (.const (.string ⟨#[]⟩)) = .string ⟨#[]⟩)
      simp only [execOp, resolve, List.map_toArray, List.map_cons, List.map_nil, e0, e1]
      go_simp
     ·refine Eng.plain rfl rfl fun a w' H => ?_
      exact Eng.val (w1 := w') (v := .bool q21) (Eng.run_assign rfl (H.dep 2 21 (by kernel_rfl) rfl)) (Below.refl _ _) rfl
    intro act13 w13 T
    have h2_13 : act13.eval (.tmp 2) = .bool q21 := T.done 3 2 rfl rfl
    have d13 := T.defers.trans d11
    have bl13 := bl11.trans (T.below.mono bl11.size)
    clear T
    refine Eng.tail_nil ?_
    show Code.wp Tryd.prog _ _ _ _
    refine wp_ret ?_
    repeat (first | refine Eng.in_ret ?_ | refine Eng.then_ret ?_)
    exact Eng.ret1 rfl d13 h2_13 ⟨by first | rfl | (simp [Pth.right1, *]; done), bl13⟩
   ·
    have c16 := Bq18.symm.trans hq
    clear hq
    refine wp_skip ?_
    show Code.wp Tryd.prog _ _ _ _
    refine wp_seq ?_
    refine Eng.regionS (Eng.still [fun u_ => u_ = .bool false]) (fun _ => .plain) 1 0 22 s11 rfl (by kernel_rfl) (Eng.still_stable _) (Or.inr (Eng.still_any _)) ?_ ?_
    ·refine Eng.Steps.cons (fun _ => ?_) (Eng.Steps.nil)
     ·refine Eng.plain rfl rfl fun a w' H => ?_
      exact Eng.val (w1 := w') (v := .bool false) (Eng.run_assign rfl (rfl : a.eval (.const (.bool false)) = .bool false)) (Below.refl _ _) rfl
    intro act15 w15 T
    have h2_15 : act15.eval (.tmp 2) = .bool false := T.done 0 2 rfl rfl
    have d15 := T.defers.trans d11
    have bl15 := bl11.trans (T.below.mono bl11.size)
    clear T
    refine Eng.tail_nil ?_
    show Code.wp Tryd.prog _ _ _ _
    refine wp_ret ?_
    repeat (first | refine Eng.in_ret ?_ | refine Eng.then_ret ?_)
    exact Eng.ret1 rfl d15 h2_15 ⟨by first | rfl | (simp [Pth.right1, *]; done), bl15⟩
end Go.Proofs.YthgafcaoibfchaaDoor.X
end
section
namespace Go.Proofs.YthgafcaoibfchaaDoor.X
open Go.RowKit Go.Shelf Go.Proofs Go.Proofs.YthgafcaoibfchaaDoorW.PrintWords Go.Proofs.YthgafcaoibfchaaDoorW.PrintLast Go.Proofs.YthgafcaoibfchaaDoorW.PrintMore
set_option linter.unusedVariables false
set_option linter.unusedSimpArgs false
set_option maxHeartbeats 4000000 in
set_option maxRecDepth 100000 in
theorem Pth.clo_calls (k : Int) (s : ByteArray) (w : World) (hs : s.size ≤ 9223372036854775807) (hT : Tabs.Holds w) : Calls Tryd.prog 110 #[.agg #[.int .i64 k, .string s]] w fun e w' => e = .returned (.bool (!Pth.right1 k s)) ∧ Below w.heap.size w w' := by
 have hu115 := Tryd.underlying115
 refine Eng.enter Tryd.func110 rfl fun act0 d0 s0 v0 => ?_
 have s0 : act0.tmps.size = 6 := s0
 have h0_0 : act0.eval (.tmp 0) = .agg #[.int .i64 k, .string s] := v0 0 (by simp)
 clear v0
 have bl0 : Below w.heap.size w w := Below.refl _ _
 refine wp_seq ?_
 refine Eng.regionS (Eng.still [fun u_ => True, fun u_ => u_ = .bool false]) (fun i => ([.alloc 115 #[.int .i64 k, .string s], .plain] : List Eng.Kind).getD i .plain) 2 0 6 s0 rfl (by kernel_rfl) (Eng.still_stable _) (Or.inr (Eng.still_any _)) ?_ ?_
 ·refine Eng.Steps.cons (fun _ => ?_) (Eng.Steps.cons (fun _ => ?_) (Eng.Steps.nil))
  ·refine Eng.made rfl (by simp) rfl (fun a w' hd ho => ?_) (fun _ _ => trivial)
   exact Eng.run_box rfl ((ho 0 (by kernel_rfl)).trans h0_0)
  ·refine Eng.plain rfl rfl fun a w' H => ?_
   exact Eng.val (w1 := w') (v := .bool false) (Eng.run_assign rfl (rfl : a.eval (.const (.bool false)) = .bool false)) (Below.refl _ _) rfl
 intro act1 w1 T
 obtain ⟨g1_1, h1_1, rg1_1, lg1_1_1, kg1_1_1⟩ := T.al 0 1 _ _ rfl rfl rfl (by kernel_rfl)
 have d1 := T.defers.trans d0
 have s1 := T.size.trans s0
 have bl1 := bl0.trans (T.below.mono bl0.size)
 clear T
 refine Eng.tail_nil ?_
 show Code.wp Tryd.prog _ _ _ _
 refine wp_seq ?_
 obtain ⟨q4, Bq4⟩ : ∃ b : Bool, b = (Pth.right1 k s) := ⟨_, rfl⟩
 obtain ⟨q5, Bq5⟩ : ∃ b : Bool, b = (!q4) := ⟨_, rfl⟩
 refine Eng.regionS (Eng.still [fun u_ => u_ = .agg #[.int .i64 k, .string s], fun u_ => u_ = .bool q4, fun u_ => u_ = .bool q5, fun u_ => u_ = .bool q5]) (fun _ => .plain) 4 0 6 s1 rfl (by kernel_rfl) (Eng.still_stable _) (Or.inr (Eng.still_any _)) ?_ ?_
 ·refine Eng.Steps.cons (fun _ => ?_) (Eng.Steps.cons (fun _ => ?_) (Eng.Steps.cons (fun _ => ?_) (Eng.Steps.cons (fun _ => ?_) (Eng.Steps.nil))))
  ·refine Eng.plain rfl rfl fun a w' H => ?_
   have kb := (H.below.block _ lg1_1_1).trans kg1_1_1
   have z0 : w'.cell? ⟨g1_1, 0, none⟩ = some (.int .i64 k) := (Eng.cells kb 0).trans rfl
   have z1 : w'.cell? ⟨g1_1, 1, none⟩ = some (.string s) := (Eng.cells kb 1).trans rfl
   refine Eng.val (w1 := w') (v := .agg #[.int .i64 k, .string s]) ?_ (Below.refl _ _) rfl
   have e0 := ((H.kept 1 (by kernel_rfl)).trans h1_1)
   simp only [execOp, resolve, e0]
   go_simp
  ·refine Eng.plain rfl rfl fun a w' H => ?_
   refine Eng.call Tryd.func111 (by kernel_rfl) (by kernel_rfl) rfl #[.agg #[.int .i64 k, .string s]] ?_ ?_
   ·have e0 : a.eval (.tmp 3) = .agg #[.int .i64 k, .string s] := (H.dep 0 3 (by kernel_rfl) rfl); simp only [List.map_toArray, List.map_cons, List.map_nil, e0]
   refine (Pth.part_calls k s _ (hs) (Tabs.below (Tabs.below hT bl1) H.below)).mono ?_
   rintro e w'' ⟨rfl, hb⟩
   exact ⟨_, rfl, (by show _ = Value.bool q4; rw [Bq4]), hb⟩
  ·refine Eng.plain rfl rfl fun a w' H => ?_
   exact Eng.val (w1 := w') (v := .bool (!q4)) (Eng.run_not rfl (H.dep 1 4 (by kernel_rfl) rfl)) (Below.refl _ _) (by show _ = Value.bool q5; rw [Bq5])
  ·refine Eng.plain rfl rfl fun a w' H => ?_
   exact Eng.val (w1 := w') (v := .bool q5) (Eng.run_assign rfl (H.dep 2 5 (by kernel_rfl) rfl)) (Below.refl _ _) rfl
 intro act2 w2 T
 have h2_2 : act2.eval (.tmp 2) = .bool q5 := T.done 3 2 rfl rfl
 have d2 := T.defers.trans d1
 have bl2 := bl1.trans (T.below.mono bl1.size)
 clear T
 refine Eng.tail_nil ?_
 show Code.wp Tryd.prog _ _ _ _
 refine wp_ret ?_
 repeat (first | refine Eng.in_ret ?_ | refine Eng.then_ret ?_)
 exact Eng.ret1 rfl d2 (h2_2.trans (by rw [Bq5, Bq4])) ⟨rfl, bl2⟩
end Go.Proofs.YthgafcaoibfchaaDoor.X
end
