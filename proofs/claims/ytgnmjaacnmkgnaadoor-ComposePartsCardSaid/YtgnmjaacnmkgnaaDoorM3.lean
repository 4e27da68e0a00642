/- Words and walks that the row of ComposeParts needs: printed by programs, and plain laws. -/
import Derived.Test.YtgnmjaacnmkgnaaDoorM2
import Derived.Maps.OwnOps
import Derived.Maps.OwnSet
import Derived.Maps.Views
import Derived.DeepKeys5
import Derived.WideKeyEntry
import Derived.Shelf.Small.Wraps
import Derived.Shelf.GgClosure.StringsIndexFunc
import Derived.Ground.GgwProg
import Derived.Shelf.GgClosure.StringsIndexFuncTop
import Derived.Shelf.GgClosure.StringsRunes
import Derived.Shelf.Strings.Prefix
import Derived.Shelf.Strings.FuncGrows
import Derived.Ground.Names2Prog
import Derived.Shelf.Slices.Clone
import Derived.Test.YtgnmjaacnmkgnaaDoorProg
import Derived.WalkKit
import Derived.Lib.DecodeN
import Derived.Lib.Strings
namespace Go.Proofs.YtgnmjaacnmkgnaaDoorW.PrintWords
end Go.Proofs.YtgnmjaacnmkgnaaDoorW.PrintWords
namespace Go.Proofs.YtgnmjaacnmkgnaaDoorW.PrintLast
end Go.Proofs.YtgnmjaacnmkgnaaDoorW.PrintLast
namespace Go.Proofs.YtgnmjaacnmkgnaaDoorW.PrintMore
end Go.Proofs.YtgnmjaacnmkgnaaDoorW.PrintMore
section
namespace Go.Proofs.YtgnmjaacnmkgnaaDoor.X
open Go.RowKit Go.Shelf Go.Proofs Go.Maps
set_option linter.unusedVariables false
set_option linter.unusedSimpArgs false
namespace Dc
structure Nd where
  kind : Int
  tag : ByteArray
  text : ByteArray
  kids : List Int
instance : Inhabited Nd := ⟨⟨0, ⟨#[]⟩, ⟨#[]⟩, []⟩⟩
abbrev NV := Nd × Value
instance : Inhabited NV := ⟨(default, .slice none 0 0)⟩
def encP (x : NV) : List Value := [.int .i64 x.1.kind, .string x.1.tag, .string x.1.text, x.2]
theorem encP_len (x : NV) : (encP x).length = 4 := rfl
abbrev cells (l : List NV) : List Value := l.flatMap encP
theorem cells_at (l : List NV) (j : Nat) (h : j < l.length) : ((cells l).drop (j * 4)).take 4 = [.int .i64 (l.getD j default).1.kind, .string (l.getD j default).1.tag, .string (l.getD j default).1.text, (l.getD j default).2] := Rwt.at_ encP_len l j h
theorem cell_kind (l : List NV) (j : Nat) (h : j < l.length) : (cells l)[j * 4 + 0]? = some (.int .i64 (l.getD j default).1.kind) := Rwt.cell encP_len h (by decide) rfl
theorem cell_tag (l : List NV) (j : Nat) (h : j < l.length) : (cells l)[j * 4 + 1]? = some (.string (l.getD j default).1.tag) := Rwt.cell encP_len h (by decide) rfl
theorem cell_text (l : List NV) (j : Nat) (h : j < l.length) : (cells l)[j * 4 + 2]? = some (.string (l.getD j default).1.text) := Rwt.cell encP_len h (by decide) rfl
theorem cell_kids (l : List NV) (j : Nat) (h : j < l.length) : (cells l)[j * 4 + 3]? = some (l.getD j default).2 := Rwt.cell encP_len h (by decide) rfl
def ints (l : List Int) : List Value := l.map (.int .i64)
theorem ints_len (l : List Int) : (ints l).length = l.length := List.length_map _
theorem ints_get (l : List Int) (j : Nat) (h : j < l.length) : (ints l)[j]? = some (.int .i64 (l.getD j 0)) := by
  unfold ints; rw [List.getElem?_map, List.getD_eq_getElem?_getD, List.getElem?_eq_getElem h]; rfl
theorem ints_snoc (l : List Int) (x : Int) : ints (l ++ [x]) = ints l ++ [.int .i64 x] := by unfold ints; simp
def Apart (u v : Value) : Prop := ∀ b, some b = u.ownBlock → some b ≠ v.ownBlock
def find (names : List (List UInt8 × Int)) (s : List UInt8) : Option Int := (names.find? (fun p => p.1 == s)).map (·.2)
def Told (D : DataW Unit) (names : List (List UInt8 × Int)) : Prop := IsMap D ∧ ∀ s, has D (.string s) = (find names s).isSome ∧ ∀ c, find names s = some c → D.atKey (.string s) (.lit (.int .i64 0)) = .lit (.int .i64 c)
theorem told_nil : Told (.map []) [] := ⟨isMap_empty, fun s => ⟨rfl, fun c h => by cases h⟩⟩
theorem find_cons (names : List (List UInt8 × Int)) (s t : List UInt8) (c : Int) : find ((s, c) :: names) t = if s = t then some c else find names t := by
  unfold find
  rw [List.find?_cons]
  by_cases h : s = t
  · rw [if_pos h]; simp [h]
  · have hb : (s == t) = false := by simpa using h
    rw [if_neg h]; simp only [hb]
theorem told_put {D : DataW Unit} {names : List (List UInt8 × Int)} (h : Told D names) (s : List UInt8) (c : Int) : Told (D.put (.string s) (.lit (.int .i64 c))) ((s, c) :: names) := by
  refine ⟨h.1.put _ _, fun t => ?_⟩
  rw [find_cons]
  by_cases hst : s = t
  · subst hst
    rw [if_pos rfl]
    refine ⟨has_put_same h.1 (show WideAt.IsKeyLit (.string _) from trivial) _, fun d hd => ?_⟩
    injection hd with hd; subst hd
    exact atKey_put_same h.1 (show WideAt.IsKeyLit (.string _) from trivial) _ _
  · rw [if_neg hst]
    have hne : Lit.string t ≠ Lit.string s := fun e => hst (by injection e with e; exact e.symm)
    refine ⟨(has_put_other hne _).trans (h.2 t).1, fun d hd => ?_⟩
    rw [atKey_put_other hne]; exact (h.2 t).2 d hd
def MapRep (B : Nat) (w : World) (mb : Nat) (names : List (List UInt8 × Int)) : Prop := B ≤ mb ∧ ∃ n D, w.ownsMap Tryd.prog 9 (plainElem Tryd.prog 3) mb n D ∧ n ≤ names.length ∧ Told D names
theorem MapRep.lt {B : Nat} {w : World} {mb : Nat} {names : List (List UInt8 × Int)} (h : MapRep B w mb names) : mb < w.heap.size := by
  obtain ⟨_, n, D, h1, _⟩ := h; exact h1.lt
theorem MapRep.map {B : Nat} {w : World} {mb : Nat} {names : List (List UInt8 × Int)} (h : MapRep B w mb names) : ∃ es c, w.heap[mb]? = some (.map es c) := by
  obtain ⟨_, n, D, ⟨es, c, h1, _⟩, _⟩ := h; exact ⟨es, c, h1⟩
theorem MapRep.kept {B : Nat} {w w' : World} {mb : Nat} {names : List (List UInt8 × Int)} (h : MapRep B w mb names) (hk : w'.heap[mb]? = w.heap[mb]?) : MapRep B w' mb names := by
  obtain ⟨h0, n, D, ⟨es, c, h1, r⟩, h2⟩ := h
  exact ⟨h0, n, D, ⟨es, c, hk.trans h1, r⟩, h2⟩
structure Rep (B : Nat) (w : World) (h : List NV) (opn : List Int) (names : List (List UInt8 × Int)) (gv ov : Value) (mb : Nat) : Prop where
  gr : w.ownsRow B 57 4 gv h.length (cells h)
  op : w.ownsRow B 3 1 ov opn.length (ints opn)
  ks : ∀ i, i < h.length → w.ownsRow B 3 1 (h.getD i default).2 (h.getD i default).1.kids.length (ints (h.getD i default).1.kids)
  ap : ∀ i j, i < h.length → j < h.length → i ≠ j → Apart (h.getD i default).2 (h.getD j default).2
  ao : ∀ i, i < h.length → Apart (h.getD i default).2 ov
  mp : MapRep B w mb names
def Blk (h : List NV) (gv ov : Value) (mb : Nat) (b : Nat) : Prop := some b = gv.ownBlock ∨ some b = ov.ownBlock ∨ (∃ i, i < h.length ∧ some b = (h.getD i default).2.ownBlock) ∨ b = mb
section
variable {B : Nat} {w w' : World} {h : List NV} {opn : List Int} {names : List (List UInt8 × Int)} {gv ov : Value} {mb : Nat}
theorem Rep.lt (R : Rep B w h opn names gv ov mb) {b : Nat} (hb : Blk h gv ov mb b) : B ≤ b ∧ b < w.heap.size := by
  rcases hb with e | e | ⟨i, hi, e⟩ | rfl
  · have := Eng.ownB R.gr e; exact ⟨this.1, this.2.1⟩
  · have := Eng.ownB R.op e; exact ⟨this.1, this.2.1⟩
  · have := Eng.ownB (R.ks i hi) e; exact ⟨this.1, this.2.1⟩
  · exact ⟨R.mp.1, R.mp.lt⟩
theorem Rep.ne (R : Rep B w h opn names gv ov mb) {g : Nat} {T : TypeId} {cs : Array Value} (hk : w.heap[g]? = some (.cells cs T (0, 0))) (h1 : (57 != T) = true) (h2 : (3 != T) = true) : ¬ Blk h gv ov mb g := by
  rintro (e | e | ⟨i, hi, e⟩ | rfl)
  · exact Eng.own_ne R.gr hk h1 e
  · exact Eng.own_ne R.op hk h2 e
  · exact Eng.own_ne (R.ks i hi) hk h2 e
  · obtain ⟨es, c, hm⟩ := R.mp.map; rw [hk] at hm; cases hm
theorem Rep.keep (R : Rep B w h opn names gv ov mb) (hk : ∀ b, Blk h gv ov mb b → w'.heap[b]? = w.heap[b]?) : Rep B w' h opn names gv ov mb := by
  have own : ∀ {e size n v xs}, w.ownsRow B e size v n xs → (∀ b, some b = v.ownBlock → Blk h gv ov mb b) → w'.ownsRow B e size v n xs := by
    intro e size n v xs O hS
    refine ⟨O.1, ?_⟩
    rcases O.2 with h2 | ⟨g, cap, cur, rfl, hg, hh, r⟩
    · exact .inl h2
    · exact .inr ⟨g, cap, cur, rfl, hg, (hk g (hS g rfl)).trans hh, r⟩
  exact ⟨own R.gr fun b e => .inl e, own R.op fun b e => .inr (.inl e), fun i hi => own (R.ks i hi) fun b e => .inr (.inr (.inl ⟨i, hi, e⟩)), R.ap, R.ao, R.mp.kept (hk mb (.inr (.inr (.inr rfl))))⟩
theorem Rep.below (R : Rep B w h opn names gv ov mb) (hb : Below w.heap.size w w') : Rep B w' h opn names gv ov mb := R.keep fun b e => hb.block b (R.lt e).2
theorem Rep.aft {S : Nat → Prop} (R : Rep B w h opn names gv ov mb) (A : Eng.Aft S w w') (hS : ∀ b, S b → ¬ Blk h gv ov mb b) : Rep B w' h opn names gv ov mb := R.keep fun b e => A.far b (R.lt e).2 fun s => hS b s e
theorem Rep.sets {g : Nat} {o : Obj} (R : Rep B w h opn names gv ov mb) (S : Eng.Sets w w' g o) (hg : ¬ Blk h gv ov mb g) : Rep B w' h opn names gv ov mb := R.keep fun b e => S.far b fun e' => hg (e' ▸ e)
theorem kept_own {e e' : TypeId} {size n size' n' : Nat} {v v' : Value} {xs xs' : List Value} {B' : Nat} (O : w.ownsRow B e size v n xs) (G : w.grownBy w' v'.ownBlock) (ha : Apart v v') : w'.ownsRow B e size v n xs := by
  refine O.kept G ?_
  cases hq : v.ownBlock with
  | none => exact .inl rfl
  | some b => exact .inr (ha b hq.symm)
theorem apart_ty {e e' : TypeId} {size n size' n' : Nat} {v v' : Value} {xs xs' : List Value} {B' : Nat} (O : w.ownsRow B e size v n xs) (O' : w.ownsRow B' e' size' v' n' xs') (hne : (e != e') = true) : Apart v v' := fun b hb => Eng.own_apart_ty O O' hne hb
theorem apart_map {e : TypeId} {size n : Nat} {v : Value} {xs : List Value} (O : w.ownsRow B e size v n xs) (M : MapRep B w mb names) : some mb ≠ v.ownBlock := by
  intro e'
  obtain ⟨_, _, cs, h1⟩ := Eng.ownB O e'
  obtain ⟨es, c, h2⟩ := M.map
  rw [h1] at h2; cases h2
theorem map_grown {e : TypeId} {size n : Nat} {v : Value} {xs : List Value} (O : w.ownsRow B e size v n xs) (M : MapRep B w mb names) (G : w.grownBy w' v.ownBlock) : MapRep B w' mb names := M.kept (G.block mb M.lt (apart_map O M))
theorem apart_new {v v' u : Value} (hn : v'.ownBlock = v.ownBlock ∨ v'.ownBlock = some w.heap.size) (ha : Apart u v) (hu : ∀ b, some b = u.ownBlock → b < w.heap.size) : Apart u v' := by
  intro b hb he
  rcases hn with h1 | h1
  · exact ha b hb (he.trans h1)
  · rw [h1] at he; injection he with he; have := hu b hb; omega
theorem Apart.symm {u v : Value} (ha : Apart u v) : Apart v u := fun b h1 h2 => ha b h2 h1
theorem apart_nil (u : Value) (c : Nat) : Apart (.slice none 0 c) u := fun b h => by cases h
end
structure Dc where
  nodes : List Nd
  opn : List Int
  names : List (List UInt8 × Int)
def odd (nodes : List Nd) (o : Nat) (at_ : Nat) : Bool := ((nodes.getD o default).kind == 2 && Int.tmod ((nodes.getD o default).kids.length : Int) 2 == 0) && !((nodes.getD at_ default).kind == 0)
def addKid (nodes : List Nd) (o : Nat) (at_ : Nat) : List Nd := nodes.set o { nodes.getD o default with kids := (nodes.getD o default).kids ++ [(at_ : Int)] }
def kidF (d : Dc) (at_ : Nat) : Dc × Int :=
  match d.opn.getLast? with
  | none => (d, 0)
  | some o => if odd d.nodes o.toNat at_ = true then (d, 5) else ({ d with nodes := addKid d.nodes o.toNat at_ }, 0)
end Dc
end Go.Proofs.YtgnmjaacnmkgnaaDoor.X
end
section
namespace Go.Proofs.YtgnmjaacnmkgnaaDoor.X
open Go.RowKit Go.Shelf Go.Proofs Go.Maps Go.WideMaps
set_option linter.unusedVariables false
set_option linter.unusedSimpArgs false
namespace Dc
variable {B : Nat} {w w' w'' W0 : World} {h : List NV} {opn : List Int} {names : List (List UInt8 × Int)} {gv ov v' : Value} {mb : Nat}
theorem getD_snoc_lt (x : NV) {i : Nat} (hi : i < h.length) : (h ++ [x]).getD i default = h.getD i default := by
  rw [List.getD_eq_getElem?_getD, List.getD_eq_getElem?_getD, List.getElem?_append_left hi]
theorem getD_snoc_last (x : NV) : (h ++ [x]).getD h.length default = x := by
  rw [List.getD_eq_getElem?_getD, List.getElem?_append_right (Nat.le_refl _), Nat.sub_self]; rfl
theorem lt_snoc {x : NV} {i : Nat} (hi : i < (h ++ [x]).length) : i < h.length ∨ i = h.length := by
  rw [List.length_append] at hi; simp only [List.length_cons, List.length_nil] at hi; omega
theorem Rep.snoc (R : Rep B w h opn names gv ov mb) (n : Nd) (hn : n.kids = []) (O : w'.ownsRow B 57 4 v' (h.length + 1) (cells h ++ encP (n, .slice none 0 0))) (G : w.grownBy w' gv.ownBlock) (E : v'.ownBlock = gv.ownBlock ∨ v'.ownBlock = some w.heap.size) : Rep B w' (h ++ [(n, .slice none 0 0)]) opn names v' ov mb := by
  have hks : ∀ i, i < (h ++ [(n, Value.slice none 0 0)]).length → w'.ownsRow B 3 1 ((h ++ [(n, Value.slice none 0 0)]).getD i default).2 ((h ++ [(n, Value.slice none 0 0)]).getD i default).1.kids.length (ints ((h ++ [(n, Value.slice none 0 0)]).getD i default).1.kids) := by
    intro i hi
    rcases lt_snoc hi with hi | rfl
    · rw [getD_snoc_lt _ hi]; exact kept_own (e' := 57) (size' := 4) (B' := B) (n' := 0) (xs' := []) (R.ks i hi) G (apart_ty (R.ks i hi) R.gr rfl)
    · rw [getD_snoc_last]; show w'.ownsRow B 3 1 (.slice none 0 0) n.kids.length (ints n.kids); rw [hn]; exact World.ownsRow_nil _ _ _ _
  refine ⟨by rw [List.length_append]; show w'.ownsRow B 57 4 v' _ (List.flatMap encP (h ++ [_])); rw [List.flatMap_append]; simpa using O, kept_own (e' := 57) (size' := 4) (B' := B) (n' := 0) (xs' := []) R.op G (apart_ty R.op R.gr rfl), hks, fun i j hi hj hne => ?_, fun i hi => ?_, map_grown R.gr R.mp G⟩
  · rcases lt_snoc hi with hi | rfl
    · rcases lt_snoc hj with hj | rfl
      · rw [getD_snoc_lt _ hi, getD_snoc_lt _ hj]; exact R.ap i j hi hj hne
      · rw [getD_snoc_last]; exact (apart_nil _ 0).symm
    · rw [getD_snoc_last]; exact apart_nil _ 0
  · rcases lt_snoc hi with hi | rfl
    · rw [getD_snoc_lt _ hi]; exact R.ao i hi
    · rw [getD_snoc_last]; exact apart_nil _ 0
theorem Rep.push (R : Rep B w h opn names gv ov mb) (x : Int) (O : w'.ownsRow B 3 1 v' (opn.length + 1) (ints opn ++ [.int .i64 x])) (G : w.grownBy w' ov.ownBlock) (E : v'.ownBlock = ov.ownBlock ∨ v'.ownBlock = some w.heap.size) : Rep B w' h (opn ++ [x]) names gv v' mb := by
  refine ⟨kept_own (e' := 57) (size' := 4) (B' := B) (n' := 0) (xs' := []) R.gr G (apart_ty R.gr R.op rfl), by rw [List.length_append, ints_snoc]; exact O, fun i hi => kept_own (e' := 57) (size' := 4) (B' := B) (n' := 0) (xs' := []) (R.ks i hi) G (R.ao i hi), R.ap, fun i hi => apart_new E (R.ao i hi) (fun b e => (Eng.ownB (R.ks i hi) e).2.1), map_grown R.op R.mp G⟩
theorem Rep.pop {pre : List Int} {x : Int} (R : Rep B w h (pre ++ [x]) names gv ov mb) : Rep B w h pre names gv (Eng.cutVal ov 0 pre.length 1) mb := by
  have hb : ∀ b, some b = (Eng.cutVal ov 0 pre.length 1).ownBlock → some b = ov.ownBlock := by
    intro b hb
    rcases R.op.2 with ⟨rfl, _⟩ | ⟨g, cap, cur, rfl, hg, hh, _⟩
    · unfold Eng.cutVal at hb; simp only at hb; split at hb <;> simp [Value.ownBlock] at hb
    · unfold Eng.cutVal at hb
      simp only at hb
      split at hb
      · simp [Value.ownBlock, Addr.add] at hb ⊢; exact hb
      · simp [Value.ownBlock, Addr.add] at hb ⊢; exact hb
  refine ⟨R.gr, ?_, R.ks, R.ap, fun i hi b h1 h2 => R.ao i hi b h1 (hb b h2), R.mp⟩
  have hO := R.op
  rw [List.length_append] at hO
  have := Eng.own_pop (n := pre.length) hO
  rw [ints_snoc, Nat.mul_one, ← ints_len pre, List.take_left, ints_len] at this
  exact this
def setKid (h : List NV) (j : Nat) (v' : Value) (x : Int) : List NV := h.set j ({ (h.getD j default).1 with kids := (h.getD j default).1.kids ++ [x] }, v')
theorem setKid_len (j : Nat) (x : Int) : (setKid h j v' x).length = h.length := List.length_set
theorem setKid_j {j : Nat} (hj : j < h.length) (x : Int) : (setKid h j v' x).getD j default = ({ (h.getD j default).1 with kids := (h.getD j default).1.kids ++ [x] }, v') := by
  unfold setKid; rw [List.getD_eq_getElem?_getD, List.getElem?_set_self hj]; rfl
theorem setKid_i {j i : Nat} (hne : i ≠ j) (x : Int) : (setKid h j v' x).getD i default = h.getD i default := by
  unfold setKid; rw [List.getD_eq_getElem?_getD, List.getElem?_set_ne (Ne.symm hne), ← List.getD_eq_getElem?_getD]
theorem map_getD (i : Nat) : (h.map (·.1)).getD i default = (h.getD i default).1 := by
  rw [List.getD_eq_getElem?_getD, List.getElem?_map, List.getD_eq_getElem?_getD]
  cases h[i]? <;> rfl
theorem setKid_map (j : Nat) (x : Nat) : (setKid h j v' x).map (·.1) = addKid (h.map (·.1)) j x := by
  unfold setKid addKid; rw [List.map_set, map_getD]
theorem cells_setKid {j : Nat} (hj : j < h.length) (x : Int) : (cells h).set (j * 4 + 3) v' = cells (setKid h j v' x) := by
  unfold setKid
  generalize hx : (h.getD j default) = y
  have hy : h[j]? = some y := by rw [List.getD_eq_getElem?_getD, List.getElem?_eq_getElem hj] at hx; rw [List.getElem?_eq_getElem hj]; exact congrArg some hx
  clear hx
  induction h generalizing j with
  | nil => cases hj
  | cons z t ih =>
    cases j with
    | zero =>
      simp at hy; subst hy
      show (encP z ++ cells t).set 3 v' = encP _ ++ cells t
      rw [List.set_append_left _ _ (by rw [encP_len]; omega)]; rfl
    | succ j =>
      have := ih (j := j) (by simpa using hj) (by simpa using hy)
      show (encP z ++ cells t).set ((j + 1) * 4 + 3) v' = encP z ++ cells (t.set j _)
      rw [List.set_append_right _ _ (by rw [encP_len]; omega), encP_len, ← this]
      congr 2; omega
structure Mid (B : Nat) (w : World) (h : List NV) (opn : List Int) (names : List (List UInt8 × Int)) (gv ov : Value) (mb : Nat) (j : Nat) (v' : Value) (x : Int) : Prop where
  hj : j < h.length
  gr : w.ownsRow B 57 4 gv h.length (cells h)
  op : w.ownsRow B 3 1 ov opn.length (ints opn)
  ks : ∀ i, i < h.length → i ≠ j → w.ownsRow B 3 1 (h.getD i default).2 (h.getD i default).1.kids.length (ints (h.getD i default).1.kids)
  kj : w.ownsRow B 3 1 v' ((h.getD j default).1.kids.length + 1) (ints (h.getD j default).1.kids ++ [.int .i64 x])
  ap : ∀ i j, i < h.length → j < h.length → i ≠ j → Apart (h.getD i default).2 (h.getD j default).2
  aj : ∀ i, i < h.length → i ≠ j → Apart (h.getD i default).2 v'
  ao : ∀ i, i < h.length → Apart (h.getD i default).2 ov
  av : Apart v' ov
  mp : MapRep B w mb names
theorem Rep.kid (R : Rep B w h opn names gv ov mb) {j : Nat} (hj : j < h.length) (x : Int) (O : w'.ownsRow B 3 1 v' ((h.getD j default).1.kids.length + 1) (ints (h.getD j default).1.kids ++ [.int .i64 x])) (G : w.grownBy w' (h.getD j default).2.ownBlock) (E : v'.ownBlock = (h.getD j default).2.ownBlock ∨ v'.ownBlock = some w.heap.size) : Mid B w' h opn names gv ov mb j v' x :=
  ⟨hj, kept_own (e' := 57) (size' := 4) (B' := B) (n' := 0) (xs' := []) R.gr G (apart_ty R.gr (R.ks j hj) rfl), kept_own (e' := 57) (size' := 4) (B' := B) (n' := 0) (xs' := []) R.op G (R.ao j hj).symm,
   fun i hi hne => kept_own (e' := 57) (size' := 4) (B' := B) (n' := 0) (xs' := []) (R.ks i hi) G (R.ap i j hi hj hne), O, R.ap, fun i hi hne => apart_new E (R.ap i j hi hj hne) (fun b e => (Eng.ownB (R.ks i hi) e).2.1), R.ao,
   (apart_new E (R.ao j hj).symm (fun b e => (Eng.ownB R.op e).2.1)).symm, map_grown (R.ks j hj) R.mp G⟩
theorem Mid.done {j : Nat} {x : Int} (M : Mid B w h opn names gv ov mb j v' x) (O : w'.ownsRow B 57 4 gv h.length ((cells h).set (j * 4 + 3) v')) (G : w.grownBy w' gv.ownBlock) : Rep B w' (setKid h j v' x) opn names gv ov mb := by
  refine ⟨by rw [setKid_len, ← cells_setKid M.hj]; exact O, kept_own (e' := 57) (size' := 4) (B' := B) (n' := 0) (xs' := []) M.op G (apart_ty M.op M.gr rfl), fun i hi => ?_, fun a b ha hb hne => ?_, fun i hi => ?_, map_grown M.gr M.mp G⟩
  · rw [setKid_len] at hi
    by_cases hij : i = j
    · subst hij; rw [setKid_j M.hj]
      have := kept_own (e' := 57) (size' := 4) (B' := B) (n' := 0) (xs' := []) M.kj G (apart_ty M.kj M.gr rfl)
      show w'.ownsRow B 3 1 v' (_ ++ [x]).length (ints (_ ++ [x]))
      rw [List.length_append, ints_snoc]; exact this
    · rw [setKid_i hij]; exact kept_own (e' := 57) (size' := 4) (B' := B) (n' := 0) (xs' := []) (M.ks i hi hij) G (apart_ty (M.ks i hi hij) M.gr rfl)
  · rw [setKid_len] at ha hb
    by_cases h1 : a = j
    · subst h1; rw [setKid_j M.hj, setKid_i (Ne.symm hne)]; exact (M.aj b hb (Ne.symm hne)).symm
    · by_cases h2 : b = j
      · subst h2; rw [setKid_j M.hj, setKid_i h1]; exact M.aj a ha h1
      · rw [setKid_i h1, setKid_i h2]; exact M.ap a b ha hb hne
  · rw [setKid_len] at hi
    by_cases h1 : i = j
    · subst h1; rw [setKid_j M.hj]; exact M.av
    · rw [setKid_i h1]; exact M.ao i hi
structure St (B : Nat) (W0 w : World) (dg : Nat) (blk0 : Nat → Prop) (h : List NV) (opn : List Int) (names : List (List UInt8 × Int)) (gv ov : Value) (mb : Nat) : Prop where
  R : Rep B w h opn names gv ov mb
  A : Eng.Aft (fun b => b = dg ∨ blk0 b) W0 w
  N : ∀ b, Blk h gv ov mb b → blk0 b ∨ W0.heap.size ≤ b
variable {dg : Nat} {blk0 : Nat → Prop}
theorem St.start (R : Rep B w h opn names gv ov mb) : St B w w dg (Blk h gv ov mb) h opn names gv ov mb := ⟨R, Eng.Aft.refl _ _, fun b hb => .inl hb⟩
theorem St.below (X : St B W0 w dg blk0 h opn names gv ov mb) (hb : Below w.heap.size w w') : St B W0 w' dg blk0 h opn names gv ov mb := ⟨X.R.below hb, X.A.step hb, X.N⟩
theorem St.grownA {v : Value} {S : Nat → Prop} (X : St B W0 w dg blk0 h opn names gv ov mb) (G : w.grownBy w' v.ownBlock) (hv : ∀ b, some b = v.ownBlock → Blk h gv ov mb b) : Eng.Aft (fun b => b = dg ∨ blk0 b) W0 w' :=
  X.A.grown G fun b e hlt => (X.N b (hv b e)).elim .inr fun h => absurd hlt (by omega)
theorem St.setd {cs : Array Value} {o : Obj} (X : St B W0 w dg blk0 h opn names gv ov mb) (S : Eng.Sets w w' dg o) (hk : w.heap[dg]? = some (.cells cs 64 (0, 0))) : St B W0 w' dg blk0 h opn names gv ov mb := ⟨X.R.sets S (X.R.ne hk rfl rfl), X.A.sets S fun _ => .inl rfl, X.N⟩
theorem St.setx {g : Nat} {o : Obj} (X : St B W0 w dg blk0 h opn names gv ov mb) (S : Eng.Sets w w' g o) (hn : ¬ Blk h gv ov mb g) (hg : W0.heap.size ≤ g) : St B W0 w' dg blk0 h opn names gv ov mb := ⟨X.R.sets S hn, X.A.sets S fun hlt => absurd hlt (by omega), X.N⟩
theorem St.snoc (X : St B W0 w dg blk0 h opn names gv ov mb) (n : Nd) (hn : n.kids = []) (O : w'.ownsRow B 57 4 v' (h.length + 1) (cells h ++ encP (n, .slice none 0 0))) (G : w.grownBy w' gv.ownBlock) (E : v'.ownBlock = gv.ownBlock ∨ v'.ownBlock = some w.heap.size) : St B W0 w' dg blk0 (h ++ [(n, .slice none 0 0)]) opn names v' ov mb := by
  refine ⟨X.R.snoc n hn O G E, X.grownA (S := blk0) G fun b e => .inl e, fun b hb => ?_⟩
  have hs := X.A.size
  rcases hb with e | e | ⟨i, hi, e⟩ | e
  · rcases E with h1 | h1
    · exact X.N b (.inl (e.trans h1))
    · rw [h1] at e; injection e with e; exact .inr (by omega)
  · exact X.N b (.inr (.inl e))
  · rcases lt_snoc hi with hi | rfl
    · rw [getD_snoc_lt _ hi] at e; exact X.N b (.inr (.inr (.inl ⟨i, hi, e⟩)))
    · rw [getD_snoc_last] at e; cases e
  · exact X.N b (.inr (.inr (.inr e)))
theorem St.push (X : St B W0 w dg blk0 h opn names gv ov mb) (x : Int) (O : w'.ownsRow B 3 1 v' (opn.length + 1) (ints opn ++ [.int .i64 x])) (G : w.grownBy w' ov.ownBlock) (E : v'.ownBlock = ov.ownBlock ∨ v'.ownBlock = some w.heap.size) : St B W0 w' dg blk0 h (opn ++ [x]) names gv v' mb := by
  refine ⟨X.R.push x O G E, X.grownA (S := blk0) G fun b e => .inr (.inl e), fun b hb => ?_⟩
  have hs := X.A.size
  rcases hb with e | e | ⟨i, hi, e⟩ | e
  · exact X.N b (.inl e)
  · rcases E with h1 | h1
    · exact X.N b (.inr (.inl (e.trans h1)))
    · rw [h1] at e; injection e with e; exact .inr (by omega)
  · exact X.N b (.inr (.inr (.inl ⟨i, hi, e⟩)))
  · exact X.N b (.inr (.inr (.inr e)))
theorem St.pop {pre : List Int} {x : Int} (X : St B W0 w dg blk0 h (pre ++ [x]) names gv ov mb) : St B W0 w dg blk0 h pre names gv (Eng.cutVal ov 0 pre.length 1) mb := by
  refine ⟨X.R.pop, X.A, fun b hb => ?_⟩
  rcases hb with e | e | e | e
  · exact X.N b (.inl e)
  · have : some b = ov.ownBlock := by
      rcases X.R.op.2 with ⟨rfl, _⟩ | ⟨g, cap, cur, rfl, hg, hh, _⟩
      · unfold Eng.cutVal at e; simp only at e; split at e <;> simp [Value.ownBlock] at e
      · unfold Eng.cutVal at e
        simp only at e
        split at e
        · simp [Value.ownBlock, Addr.add] at e ⊢; exact e
        · simp [Value.ownBlock, Addr.add] at e ⊢; exact e
    exact X.N b (.inr (.inl this))
  · exact X.N b (.inr (.inr (.inl e)))
  · exact X.N b (.inr (.inr (.inr e)))
structure Sm (B : Nat) (W0 w : World) (dg : Nat) (blk0 : Nat → Prop) (h : List NV) (opn : List Int) (names : List (List UInt8 × Int)) (gv ov : Value) (mb : Nat) (j : Nat) (v' : Value) (x : Int) : Prop where
  M : Mid B w h opn names gv ov mb j v' x
  A : Eng.Aft (fun b => b = dg ∨ blk0 b) W0 w
  N : ∀ b, Blk h gv ov mb b → blk0 b ∨ W0.heap.size ≤ b
  V : ∀ b, some b = v'.ownBlock → blk0 b ∨ W0.heap.size ≤ b
theorem St.kid (X : St B W0 w dg blk0 h opn names gv ov mb) {j : Nat} (hj : j < h.length) (x : Int) (O : w'.ownsRow B 3 1 v' ((h.getD j default).1.kids.length + 1) (ints (h.getD j default).1.kids ++ [.int .i64 x])) (G : w.grownBy w' (h.getD j default).2.ownBlock) (E : v'.ownBlock = (h.getD j default).2.ownBlock ∨ v'.ownBlock = some w.heap.size) : Sm B W0 w' dg blk0 h opn names gv ov mb j v' x := by
  refine ⟨X.R.kid hj x O G E, X.grownA (S := blk0) G fun b e => .inr (.inr (.inl ⟨j, hj, e⟩)), X.N, fun b e => ?_⟩
  have hs := X.A.size
  rcases E with h1 | h1
  · exact X.N b (.inr (.inr (.inl ⟨j, hj, e.trans h1⟩)))
  · rw [h1] at e; injection e with e; exact .inr (by omega)
theorem Sm.done {j : Nat} {x : Int} (M : Sm B W0 w dg blk0 h opn names gv ov mb j v' x) (O : w'.ownsRow B 57 4 gv h.length ((cells h).set (j * 4 + 3) v')) (G : w.grownBy w' gv.ownBlock) : St B W0 w' dg blk0 (setKid h j v' x) opn names gv ov mb := by
  refine ⟨M.M.done O G, M.A.grown G fun b e hlt => (M.N b (.inl e)).elim .inr fun h => absurd hlt (by omega), fun b hb => ?_⟩
  rcases hb with e | e | ⟨i, hi, e⟩ | e
  · exact M.N b (.inl e)
  · exact M.N b (.inr (.inl e))
  · rw [setKid_len] at hi
    by_cases h1 : i = j
    · subst h1; rw [setKid_j M.M.hj] at e; exact M.V b e
    · rw [setKid_i h1] at e; exact M.N b (.inr (.inr (.inl ⟨i, hi, e⟩)))
  · exact M.N b (.inr (.inr (.inr e)))
theorem St.call {h' : List NV} {opn' : List Int} {names' : List (List UInt8 × Int)} {gv' ov' : Value} {mb' : Nat} (X : St B W0 w dg blk0 h opn names gv ov mb) (Y : St B w w' dg (Blk h gv ov mb) h' opn' names' gv' ov' mb') : St B W0 w' dg blk0 h' opn' names' gv' ov' mb' := by
  have hs := X.A.size
  refine ⟨Y.R, X.A.trans Y.A fun b hb e => ?_, fun b hb => ?_⟩
  · rcases e with e | e
    · exact .inl e
    · exact (X.N b e).elim .inr fun h => absurd hb (by omega)
  · rcases Y.N b hb with e | e
    · exact X.N b e
    · exact .inr (by omega)
theorem key_law : Keyed Tryd.prog 9 := string_keyed Tryd.underlying9
theorem zero3 (w : World) : (zeroValue 3).run Tryd.prog w = .ok (.int .i64 0) w := by kernel_rfl
theorem run_put {a : Act} {o : Oper} {m x v : Operand} {s : ByteArray} {c : Int} (X : St B W0 w dg blk0 h opn names gv ov mb) (hop : o.op = .mapUpdate 46 m x v) (hm : a.eval m = .map (some mb)) (hx : a.eval x = .string s) (hv : a.eval v = .int .i64 c) (hs : s.size ≤ maxLen) (hc : (Lit.int .i64 c).wf = true) (hn : names.length < maxLen) :
    ∃ w1, (execOp a.eval o).run Tryd.prog w = .ok .skip w1 ∧ St B W0 w1 dg blk0 h opn ((s.data.toList, c) :: names) gv ov mb ∧ w.grownBy w1 (some mb) := by
  obtain ⟨hB, n, D, hown, hle, hT⟩ := X.R.mp
  obtain ⟨w1, hr, h1, hg⟩ := hown.update key_law Tryd.underlying46 (by omega) (keyOf_string_mk Tryd.underlying9 hs) (plainElem_int Tryd.underlying3 hc)
  refine ⟨w1, ?_, ?_, hg⟩
  · unfold execOp; rw [hop]; simp only [hm, hx, hv]; go_simp
  · have own : ∀ {e size n v xs}, w.ownsRow B e size v n xs → w1.ownsRow B e size v n xs := fun {e size n v xs} O => O.kept hg (by
      cases hq : v.ownBlock with
      | none => exact .inl rfl
      | some b => exact .inr fun e => (apart_map O X.R.mp) (e.symm.trans hq.symm))
    refine ⟨⟨own X.R.gr, own X.R.op, fun i hi => own (X.R.ks i hi), X.R.ap, X.R.ao, hB, n + 1, _, h1, by simp only [List.length_cons]; omega, told_put hT _ _⟩, ?_, X.N⟩
    refine X.A.trans (S' := fun b => b = mb) ⟨hg.os, hg.tape, hg.output, hg.size, fun b hb hne => hg.block b hb fun e => hne (by injection e)⟩ fun b hb e => ?_
    subst e
    exact (X.N b (.inr (.inr (.inr rfl)))).elim .inr fun h => absurd hb (by omega)
end Dc
end Go.Proofs.YtgnmjaacnmkgnaaDoor.X
end
section
namespace Go.Proofs.YtgnmjaacnmkgnaaDoor.X
open Go.RowKit Go.Shelf Go.Proofs Go.Maps Go.WideMaps Go.ChangeMaps Go.WideElems Go.ChangeShapes
set_option linter.unusedVariables false
set_option linter.unusedSimpArgs false
namespace Tm
noncomputable def cnt : List Value → Value → Int
  | [], _ => 0
  | u :: L, v => @ite _ (u = v) (Classical.propDecidable _) (cnt L v + 1) (cnt L v)
theorem cnt_same (L : List Value) (v : Value) : cnt (v :: L) v = cnt L v + 1 := by
  show @ite _ (v = v) (Classical.propDecidable _) (cnt L v + 1) (cnt L v) = _
  exact if_pos rfl
theorem cnt_other (L : List Value) {u v : Value} (h : u ≠ v) : cnt (u :: L) v = cnt L v := by
  show @ite _ (u = v) (Classical.propDecidable _) (cnt L v + 1) (cnt L v) = _
  exact if_neg h
theorem cnt_bd (v : Value) : ∀ L : List Value, 0 ≤ cnt L v ∧ cnt L v ≤ L.length
  | [] => ⟨Int.le_refl _, Int.le_refl _⟩
  | u :: L => by
    have := cnt_bd v L
    by_cases h : u = v
    · subst h; rw [cnt_same]; simp only [List.length_cons]; omega
    · rw [cnt_other _ h]; simp only [List.length_cons]; omega
theorem cnt_zero {v : Value} : ∀ {L : List Value}, v ∉ L → cnt L v = 0
  | [], _ => rfl
  | u :: L, h => by
    rw [cnt_other _ (fun e => h (by rw [e]; exact List.mem_cons_self ..))]
    exact cnt_zero fun h' => h (List.mem_cons_of_mem _ h')
theorem cnt_pos {v : Value} : ∀ {L : List Value}, v ∈ L → 1 ≤ cnt L v
  | u :: L, h => by
    have := (cnt_bd v L).1
    by_cases he : u = v
    · subst he; rw [cnt_same]; omega
    · rw [cnt_other _ he]
      rcases List.mem_cons.1 h with h | h
      · exact absurd h.symm he
      · exact cnt_pos h
structure Cn (w : World) (B mb : Nat) (kt : TypeId) (n : Nat) (L : List Value) : Prop where
  lo : B ≤ mb
  own : ∃ D, w.ownsMap Tryd.prog kt (plainElem (H := Unit) Tryd.prog 3) mb n D ∧ ∀ key kl, keyOf Tryd.prog kt key = some kl → D.atKey kl (.lit (.int .i64 0)) = .lit (.int .i64 (cnt L key))
section
variable {w w' : World} {B mb n : Nat} {kt : TypeId} {L : List Value}
theorem Cn.lt (X : Cn w B mb kt n L) : mb < w.heap.size := by obtain ⟨D, h, _⟩ := X.own; exact h.lt
theorem Cn.map (X : Cn w B mb kt n L) : ∃ es c, w.heap[mb]? = some (.map es c) := by
  obtain ⟨D, ⟨es, c, h, _⟩, _⟩ := X.own; exact ⟨es, c, h⟩
theorem Cn.keep (X : Cn w B mb kt n L) (h : w'.heap[mb]? = w.heap[mb]?) : Cn w' B mb kt n L := by
  obtain ⟨D, ⟨es, c, h1, r⟩, h2⟩ := X.own
  exact ⟨X.lo, D, ⟨es, c, h.trans h1, r⟩, h2⟩
theorem Cn.below (X : Cn w B mb kt n L) (hb : Below w.heap.size w w') : Cn w' B mb kt n L := X.keep (hb.block _ X.lt)
theorem Cn.grown {g : Nat} (X : Cn w B mb kt n L) (G : w.grownBy w' (some g)) (hne : mb ≠ g) : Cn w' B mb kt n L := X.keep (G.block _ X.lt (by simpa using hne))
theorem Cn.ne {g : Nat} {T : TypeId} {cs : Array Value} (X : Cn w B mb kt n L) (hk : w.heap[g]? = some (.cells cs T (0, 0))) : g ≠ mb := by
  rintro rfl; obtain ⟨es, c, h⟩ := X.map; rw [hk] at h; cases h
theorem Cn.own_kept {B' size m : Nat} {e : TypeId} {v : Value} {xs : List Value} (X : Cn w B mb kt n L) (O : w.ownsRow B' e size v m xs) (G : w.grownBy w' (some mb)) : w'.ownsRow B' e size v m xs := O.kept G (by
  cases hq : v.ownBlock with
  | none => exact .inl rfl
  | some b =>
    refine .inr fun e => ?_
    obtain ⟨_, _, cs, h1⟩ := Eng.ownB O hq.symm
    obtain ⟨es, c, h2⟩ := X.map
    injection e with e; subst e
    rw [h1] at h2; cases h2)
theorem made (w : World) (kt : TypeId) (B : Nat) (hB : B ≤ w.heap.size) : Cn (w.alloc (.map #[] 0)) B w.heap.size kt 0 [] :=
  ⟨hB, .map [], World.ownsMap_made _ _ _ _, fun key kl _ => rfl⟩
theorem made_run {a : Act} {o : Oper} {t k : TypeId} (B : Nat) (hB : B ≤ w.heap.size) (kt : TypeId) (hop : o.op = .makeMap t none) (ht : Tryd.prog.underlying t = some (.map k 3)) :
    ∃ v w1, (execOp a.eval o).run Tryd.prog w = .ok (.value v) w1 ∧ ∃ mb, v = .map (some mb) ∧ w.heap.size ≤ mb ∧ Cn w1 B mb kt 0 [] ∧ Below w.heap.size w w1 := by
  refine ⟨.map (some w.heap.size), w.alloc (.map #[] 0), ?_, w.heap.size, rfl, Nat.le_refl _, made w kt B hB, (Below.refl _ _).alloc (Nat.le_refl _) _⟩
  unfold execOp; rw [hop]; simp [run_makeMap]
variable {t : TypeId} {key : Value} {kl : Lit}
theorem Cn.look (X : Cn w B mb kt n L) (K : Keyed Tryd.prog kt) (ht : Tryd.prog.underlying t = some (.map kt 3)) (hkey : keyOf Tryd.prog kt key = some kl) :
    (Instr.lookup t (.map (some mb)) key false).run Tryd.prog w = .ok (.int .i64 (cnt L key)) w := by
  obtain ⟨D, h, hc⟩ := X.own
  obtain ⟨c, h1, h2, _⟩ := h.lookup_int K ht Tryd.underlying3 (Dc.zero3 w) hkey
  rw [hc key kl hkey] at h2
  rw [h1, ← (Lit.int.inj (DataW.lit.inj h2)).2]
theorem wf_int {a : Int} (h0 : 0 ≤ a) (h1 : a ≤ 1000000000) : (Lit.int .i64 a).wf = true := by
  have h0 := Eng.i64_id (x := a) (by omega) (by omega)
  have hm : IntKind.i64.min = -9223372036854775808 := by decide
  simp [Lit.wf, h0, hm]; omega
theorem Cn.put (X : Cn w B mb kt n L) (K : Keyed Tryd.prog kt) (ht : Tryd.prog.underlying t = some (.map kt 3)) (hkey : keyOf Tryd.prog kt key = some kl) (hn : n < maxLen) (hL : L.length ≤ 100000000) :
    ∃ w', (Instr.mapUpdate t (.map (some mb)) key (.int .i64 (cnt L key + 1))).run Tryd.prog w = .ok () w' ∧ Cn w' B mb kt (n + 1) (key :: L) ∧ w.grownBy w' (some mb) := by
  obtain ⟨D, h, hc⟩ := X.own
  obtain ⟨hlo, hhi⟩ := cnt_bd key L
  obtain ⟨w', h1, h2, h3⟩ := h.update K ht hn hkey (plainElem_int Tryd.underlying3 (wf_int (a := cnt L key + 1) (by omega) (by omega)))
  refine ⟨w', h1, ⟨X.lo, _, h2, fun k2 l2 hk2 => ?_⟩, h3⟩
  by_cases he : key = k2
  · subst he
    have : l2 = kl := (Option.some.inj (hkey.symm.trans hk2)).symm
    subst this
    rw [atKey_put_same h.isMap (K.key hkey), cnt_same]
  · have : l2 ≠ kl := fun e => he (K.inj hkey (e ▸ hk2))
    rw [atKey_put_other this, cnt_other _ he]; exact hc k2 l2 hk2
theorem Cn.entry (X : Cn w B mb kt n L) (K : KeyLaw Tryd.prog kt) (ht : Tryd.prog.underlying t = some (.map kt 3)) (hkey : keyOf Tryd.prog kt key = some kl) (hn : n + 1 < maxLen) (hL : L.length ≤ 100000000) :
    ∃ v0 st w1 w2, (Instr.mapEntry t (.map (some mb)) key).run Tryd.prog w = .ok (.tuple #[v0, goInt st]) w1 ∧ w.grownBy w1 (some mb) ∧ Cn w1 B mb kt (n + 1) L ∧
      (Instr.entryStore t (.map (some mb)) (goInt st) (.int .i64 (cnt L key + 1))).run Tryd.prog w1 = .ok () w2 ∧ Cn w2 B mb kt (n + 2) (key :: L) ∧ w1.grownBy w2 (some mb) := by
  have Kd := Keyed.of_law K
  obtain ⟨D, hD, hc⟩ := X.own
  have hD' := hD
  obtain ⟨es, clock, hb, F, hsz, hDe⟩ := hD
  obtain ⟨v0, st, es1, clock1, hE, _, hS⟩ := entry_then_store K ht (fun u => Dc.zero3 u) hb F hkey
  have hb1 := heap_setBlock_same hb (.map es1 clock1)
  have hX1 : Cn (setBlock w mb (.map es1 clock1)) B mb kt (n + 1) L := by
    rcases K.find w hkey es.toList F.keys with ⟨h1, h2⟩ | ⟨j, e0, h1, h2, h3⟩
    · have hE2 : (Instr.mapEntry t (.map (some mb)) key).run Tryd.prog w = .ok (.tuple #[.int .i64 0, goInt clock]) (setBlock w mb (.map (es.push ⟨key, .int .i64 0, clock⟩) (clock + 1))) := by
        simp [Instr.mapEntry, run_underlying ht, MapKept.run_getObj_map hb, K.check w false hkey, h1, Dc.zero3, MapKept.run_setObj_map _ hb, Result.andThen, setBlock]
      have hU : (Instr.mapUpdate t (.map (some mb)) key (.int .i64 0)).run Tryd.prog w = .ok () (setBlock w mb (.map (es.push ⟨key, .int .i64 0, clock⟩) (clock + 1))) := by
        simp [Instr.mapUpdate, run_underlying ht, MapKept.run_getObj_map hb, K.check w false hkey, h1, MapKept.run_setObj_map _ hb, Result.andThen, setBlock]
      have hlk : (Instr.lookup t (.map (some mb)) key false).run Tryd.prog w = .ok (.int .i64 0) w := by
        simp [Instr.lookup, run_underlying ht, MapKept.run_getObj_map hb, K.check w _ hkey, h1, Dc.zero3, Result.andThen]
      have h0 : cnt L key = 0 := by
        rw [X.look Kd ht hkey] at hlk
        exact (Value.int.inj (Result.ok.inj hlk).1).2
      rw [hE] at hE2; injection hE2 with _ hw; rw [hw]
      obtain ⟨w', g1, g2, g3⟩ := hD'.update Kd ht (by omega) hkey (plainElem_int Tryd.underlying3 (wf_int (a := 0) (by omega) (by omega)))
      rw [hU] at g1; injection g1 with _ hw'; subst hw'
      refine ⟨X.lo, _, g2, fun k2 l2 hk2 => ?_⟩
      by_cases he : key = k2
      · subst he
        have : l2 = kl := (Option.some.inj (hkey.symm.trans hk2)).symm
        subst this
        rw [atKey_put_same hD'.isMap (Kd.key hkey), h0]
      · have : l2 ≠ kl := fun e => he (Kd.inj hkey (e ▸ hk2))
        rw [atKey_put_other this]; exact hc k2 l2 hk2
    · have hj : es[j]? = some e0 := by simpa using h2
      have hsame : es.modify j (fun e => { e with key := key }) = es := by
        apply Array.ext'
        rw [Array.toList_modify, modify_eq_set _ _ _ _ h2]
        have : ({ e0 with key := key } : MapEntry) = e0 := by rw [← h3]
        rw [this]
        exact set_self _ _ _ h2
      have hE2 : (Instr.mapEntry t (.map (some mb)) key).run Tryd.prog w = .ok (.tuple #[e0.val, goInt e0.born]) (setBlock w mb (.map es clock)) := by
        simp [Instr.mapEntry, run_underlying ht, MapKept.run_getObj_map hb, K.check w false hkey, h1, hj, h3, K.stays w hkey, hsame, MapKept.run_setObj_map _ hb, Result.andThen, setBlock]
      rw [hE] at hE2; injection hE2 with _ hw; rw [hw]
      obtain ⟨l, D2, ho, hr⟩ := X.keep (w' := setBlock w mb (.map es clock)) ((heap_setBlock_same hb _).trans hb.symm)
      exact ⟨l, D2, ho.mono (by omega), hr⟩
  have gb : ∀ (u : World) (o : Obj) {es : Array MapEntry} {c : Nat}, u.heap[mb]? = some (.map es c) → u.grownBy (setBlock u mb o) (some mb) := fun u o es c h => ⟨rfl, rfl, rfl, by simp [setBlock], fun i _ hi => heap_setBlock_other h _ (fun e => hi (by rw [e]))⟩
  obtain ⟨es', clock', hs1, hs2⟩ := hS (setBlock w mb (.map es1 clock1)) (.int .i64 (cnt L key + 1)) hb1
  obtain ⟨w', p1, p2, p3⟩ := X.put Kd ht hkey (by omega) hL
  rw [hs2] at p1; injection p1 with _ hw; subst hw
  obtain ⟨l, D2, ho, hr⟩ := p2.keep (w' := setBlock (setBlock w mb (.map es1 clock1)) mb (.map es' clock')) ((heap_setBlock_same hb1 _).trans (heap_setBlock_same hb _).symm)
  exact ⟨v0, st, _, _, hE, gb _ _ hb, hX1, hs1, ⟨l, D2, ho.mono (by omega), hr⟩, gb _ _ hb1⟩
end
theorem key_int : Keyed Tryd.prog 3 := int_keyed Tryd.underlying3
theorem laid : laidOutB Tryd.prog = true := by kernel_rfl
theorem law_leaf : KeyLaw Tryd.prog 105 := deep_law_gate laid (of_decide_eq_true (by kernel_rfl)) (of_decide_eq_true (by kernel_rfl)) (by kernel_rfl) (by kernel_rfl)
theorem key_leaf : Keyed Tryd.prog 105 := Keyed.of_law law_leaf
theorem lits_str {n : Nat} {s : ByteArray} (hs : s.size ≤ maxLen) : Tryd.prog.keyLits (n + 1) 9 [.string s] = some [.string s.data.toList] := by
  unfold Program.keyLits; simp [Tryd.underlying9, hs]
theorem keyOf_leaf {t x : ByteArray} (ht : t.size ≤ maxLen) (hx : x.size ≤ maxLen) : ∃ kl, keyOf Tryd.prog 105 (.agg #[.string t, .string x]) = some kl := by
  have h1 : Tryd.prog.keyType 105 = true := by kernel_rfl
  have h2 : Value.formed Tryd.prog 105 (.agg #[.string t, .string x]) = true := by kernel_rfl
  have h3 : ∃ m, Tryd.prog.types.size = m + 1 := ⟨Tryd.prog.types.size - 1, by have : 0 < Tryd.prog.types.size := of_decide_eq_true (by kernel_rfl); omega⟩
  obtain ⟨m, h3⟩ := h3
  have h4 : Tryd.prog.cellsOf 105 = 2 := by kernel_rfl
  have h5 : Tryd.prog.cellsOf 9 = 1 := by kernel_rfl
  unfold keyOf
  simp only [Tryd.underlying105, h1, h2, h3, Value.cells]
  unfold Program.keyLits
  simp [Tryd.underlying105, h4, h5, lits_str ht, lits_str hx]
end Tm
end Go.Proofs.YtgnmjaacnmkgnaaDoor.X
end
section
namespace Go.Proofs.YtgnmjaacnmkgnaaDoor.X
open Go.RowKit Go.Shelf Go.Proofs Go.Maps Go.WideMaps
set_option linter.unusedVariables false
set_option linter.unusedSimpArgs false
namespace Dc
theorem last_ix (pre : List Int) (t : Int) (h : pre.length + 1 ≤ 9223372036854775807) : IntKind.i64.wrap (((pre ++ [t]).length : Int) - 1) = ((pre.length : Nat) : Int) := by
  rw [List.length_append, Eng.i64_id (by simp only [List.length_cons, List.length_nil]; omega) (by simp only [List.length_cons, List.length_nil]; omega)]; simp only [List.length_cons, List.length_nil]; omega
theorem int_top (pre : List Int) (o : Int) : (ints (pre ++ [o]))[pre.length * 1]? = some (.int .i64 o) := by
  rw [ints_snoc, Nat.mul_one, ← ints_len pre, List.getElem?_append_right (Nat.le_refl _), Nat.sub_self]; rfl
theorem kidF_top (nodes : List Nd) (pre : List Int) (o : Int) (names : List (List UInt8 × Int)) (at_ : Nat) : kidF ⟨nodes, pre ++ [o], names⟩ at_ = if odd nodes o.toNat at_ = true then (⟨nodes, pre ++ [o], names⟩, 5) else (⟨addKid nodes o.toNat at_, pre ++ [o], names⟩, 0) := by
  unfold kidF
  simp only [List.getLast?_append, List.getLast?_singleton, Option.some_or]
end Dc
end Go.Proofs.YtgnmjaacnmkgnaaDoor.X
end
section
namespace Go.Proofs.Eng
open Go Go.RowKit
variable {P : Program} {ops : Array Oper} {Q : Exit → Act → World → Prop} {D : Nat → Value → World → Prop} {k : Nat → Kind} {a0 a : Act} {w0 w : World} {m i : Nat} {o : Oper}
theorem Steps.c {os : List Oper} (h : Duty P ops Q D k a0 w0 i o) (hs : Steps P ops Q D k a0 w0 m (i + 1) os) : Steps P ops Q D k a0 w0 m i (o :: os) := .cons (fun _ => h) hs
theorem Then.r (T : Then ops m D k a0 w0 a w) (t : Nat) {v : Value} (h : a0.eval (.tmp t) = v) (hk : (List.range m).all (fun j => dstOf ops j != some t) = true := by kernel_rfl) : a.eval (.tmp t) = v := (T.rest t hk).trans h
theorem At.d (H : At ops D a0 w0 i o a w) (j d : Nat) (hb : bound o j = true := by kernel_rfl) (hd : dstOf ops j = some d := by rfl) : D j (a.eval (.tmp d)) w := H.dep j d hb hd
theorem At.q (H : At ops D a0 w0 i o a w) (t : Nat) {v : Value} (h : a0.eval (.tmp t) = v) (hk : old ops i t = true := by kernel_rfl) : a.eval (.tmp t) = v := (H.kept t hk).trans h
theorem pv (h : ∀ (a : Act) (w : World), At ops D a0 w0 i o a w → o.wp P a w (fun a' w' => ∃ v, a' = a.put o.dst v ∧ (o.dst ≠ none → D i v w') ∧ Below w.heap.size w w') Q) (hk : k i = .plain := by rfl) (hg : o.guard = none := by rfl) : Duty P ops Q D k a0 w0 i o := plain hk hg h
end Go.Proofs.Eng
end
section
namespace Go.Proofs.YtgnmjaacnmkgnaaDoor.X
open Go.RowKit Go.Shelf Go.Proofs Go.Proofs.YtgnmjaacnmkgnaaDoorW.PrintWords Go.Proofs.YtgnmjaacnmkgnaaDoorW.PrintLast Go.Proofs.YtgnmjaacnmkgnaaDoorW.PrintMore
set_option linter.unusedVariables false
set_option linter.unusedSimpArgs false
attribute [local go_sem] max2_int min2_int max_two min_two
set_option maxHeartbeats 4000000 in
set_option maxRecDepth 100000 in
theorem Dc.kid_nil (dg mb : Nat) (gv ov : Value) (h : List Dc.NV) (names : List (List UInt8 × Int)) (at_ : Nat) (w W0 : World) (hB : Below w.heap.size w W0) (hlo : w.heap.size ≤ dg) (hk : W0.heap[dg]? = some (.cells #[gv, ov, .map (some mb)] 64 (0, 0))) (hR : Dc.Rep w.heap.size W0 h [] names gv ov mb) : Calls Tryd.prog 56 #[.pointer (some ⟨dg, 0, none⟩), .int .i64 (at_ : Int)] W0 fun e w' => ∃ h', e = .returned (.int .i64 (Dc.kidF ⟨h.map (·.1), [], names⟩ at_).2) ∧ h'.map (·.1) = (Dc.kidF ⟨h.map (·.1), [], names⟩ at_).1.nodes ∧ Dc.St w.heap.size W0 w' dg (Dc.Blk h gv ov mb) h' [] names gv ov mb ∧ w'.heap[dg]? = some (.cells #[gv, ov, .map (some mb)] 64 (0, 0)) := by
 refine Eng.enter Tryd.func56 rfl fun act0 d0 s0 v0 => ?_
 have s0 : act0.tmps.size = 64 := s0
 have h0_0 : act0.eval (.tmp 0) = .pointer (some ⟨dg, 0, none⟩) := v0 0 (by simp)
 clear v0
 refine wp_seq ?_
 refine Eng.regionS (Eng.still [fun u_ => u_ = .int .i64 0]) (fun _ => .plain) 1 0 64 s0 rfl (by kernel_rfl) (Eng.still_stable _) (Or.inr (Eng.still_any _)) ?_ ?_
 ·refine .c ?_ (.nil)
  ·exact Eng.pv fun a w' H => Eng.vr rfl (Eng.run_assign rfl (rfl : a.eval (.const (.int .i64 0)) = .int .i64 0))
 intro act1 w1 T
 have h0_1 := T.r 0 h0_0
 have kdg_1 := (T.below.block _ (Array.getElem?_eq_some_iff.1 hk).1).trans hk
 have ldg_1 := Nat.lt_of_lt_of_le (Array.getElem?_eq_some_iff.1 hk).1 T.below.size
 have Fop_1 := Eng.Reads.below (Eng.Reads.of_own hR.op) T.below
 have d1 := T.defers.trans d0
 have s1 := T.size.trans s0
 have XX_1 := Dc.St.below (Dc.St.start (dg := dg) hR) T.below
 clear T
 refine Eng.tail_nil ?_
 refine wp_seq ?_
 refine wp_seq ?_
 obtain ⟨q11, Bq11⟩ : ∃ b : Bool, b = ((0 : Int) == 0) := ⟨_, rfl⟩
 refine Eng.regionS (Eng.still [fun u_ => u_ = .pointer (some ⟨dg, 0, none⟩), fun u_ => u_ = .pointer (some ⟨dg, 0, none⟩), fun u_ => u_ = .pointer (some ⟨dg, 1, none⟩), fun u_ => u_ = ov, fun u_ => u_ = .int .i64 (0 : Int), fun u_ => u_ = .bool q11]) (fun _ => .plain) 6 0 64 s1 rfl (by kernel_rfl) (Eng.still_stable _) (Or.inr (Eng.still_any _)) ?_ ?_
 ·refine .c ?_ (.c ?_ (.c ?_ (.c ?_ (.c ?_ (.c ?_ (.nil))))))
  ·exact Eng.pv fun a w' H => Eng.vr rfl (Eng.run_move rfl (H.q 0 h0_1))
  ·exact Eng.pv fun a w' H => Eng.vr rfl (Eng.run_nilb rfl (H.d 0 6))
  ·exact Eng.pv fun a w' H => Eng.vr rfl (Eng.run_fieldb rfl Tryd.underlying64 1 (by kernel_rfl) (H.d 1 7))
  ·exact Eng.pv fun a w' H => Eng.vr rfl (Eng.run_loadb rfl (H.d 2 8) ((H.below.block _ ldg_1).trans kdg_1) rfl (by kernel_rfl))
  ·exact Eng.pv fun a w' H => Eng.vr (v := .int .i64 (0 : Int)) rfl (Eng.run_len_sl rfl Tryd.underlying55 (show a.eval (.tmp 9) = ov from (H.d 3 9)) (Eng.Reads.below Fop_1 H.below))
  ·refine Eng.pv fun a w' H => ?_
   refine Eng.vr (v := .bool ((0 : Int) == 0)) (by show _ = Value.bool q11; rw [Bq11]) ?_
   have e0 : a.eval (.tmp 10) = .int .i64 (0 : Int) := (H.d 4 10)
   have e1 : a.eval (.const (.int .i64 0)) = .int .i64 0 := rfl
   simp only [execOp, resolve, e0, e1]
   go_simp
 intro act2 w2 T
 have kdg_2 := (T.below.block _ ldg_1).trans kdg_1
 have ldg_2 := Nat.lt_of_lt_of_le ldg_1 T.below.size
 have h11_2 : act2.eval (.tmp 11) = .bool q11 := T.done 5 11 rfl rfl
 have d2 := T.defers.trans d1
 have s2 := T.size.trans s1
 have XX_2 := Dc.St.below XX_1 T.below
 clear T
 refine Eng.tail_nil ?_
 have n11 : q11 = true := by
  try simp only [Bq11]
  rfl
 refine wp_cond_true (h11_2.trans (by rw [n11])) ?_
 refine wp_seq ?_
 refine Eng.regionS (Eng.still [fun u_ => u_ = .int .i64 0]) (fun _ => .plain) 1 0 64 s2 rfl (by kernel_rfl) (Eng.still_stable _) (Or.inr (Eng.still_any _)) ?_ ?_
 ·refine .c ?_ (.nil)
  ·exact Eng.pv fun a w' H => Eng.vr rfl (Eng.run_assign rfl (rfl : a.eval (.const (.int .i64 0)) = .int .i64 0))
 intro act3 w3 T
 have kdg_3 := (T.below.block _ ldg_2).trans kdg_2
 have h4_3 : act3.eval (.tmp 4) = .int .i64 0 := T.done 0 4 rfl rfl
 have d3 := T.defers.trans d2
 have XX_3 := Dc.St.below XX_2 T.below
 clear T
 refine Eng.tail_nil ?_
 refine wp_ret ?_
 repeat (first | refine Eng.in_ret ?_ | refine Eng.then_ret ?_)
 exact Eng.ret1 rfl d3 h4_3 ⟨h, rfl, rfl, XX_3, kdg_3⟩
set_option maxHeartbeats 4000000 in
set_option maxRecDepth 100000 in
theorem Dc.kid_top (dg mb : Nat) (gv ov : Value) (h : List Dc.NV) (pre : List Int) (o : Int) (names : List (List UInt8 × Int)) (at_ : Nat) (w W0 : World) (hB : Below w.heap.size w W0) (hlo : w.heap.size ≤ dg) (hk : W0.heap[dg]? = some (.cells #[gv, ov, .map (some mb)] 64 (0, 0))) (hR : Dc.Rep w.heap.size W0 h (pre ++ [o]) names gv ov mb) (hat : at_ < h.length) (ho0 : 0 ≤ o) (hj : o.toNat < h.length) (hkl : (h.getD o.toNat default).1.kids.length ≤ 1000000) : Calls Tryd.prog 56 #[.pointer (some ⟨dg, 0, none⟩), .int .i64 (at_ : Int)] W0 fun e w' => ∃ h', e = .returned (.int .i64 (Dc.kidF ⟨h.map (·.1), (pre ++ [o]), names⟩ at_).2) ∧ h'.map (·.1) = (Dc.kidF ⟨h.map (·.1), (pre ++ [o]), names⟩ at_).1.nodes ∧ Dc.St w.heap.size W0 w' dg (Dc.Blk h gv ov mb) h' (pre ++ [o]) names gv ov mb ∧ w'.heap[dg]? = some (.cells #[gv, ov, .map (some mb)] 64 (0, 0)) := by
 have hm := Eng.Reads.len_le (Eng.Reads.of_own hR.op)
 rw [List.length_append] at hm
 have hm1 : pre.length + 1 ≤ 9223372036854775807 := hm
 refine Eng.enter Tryd.func56 rfl fun act0 d0 s0 v0 => ?_
 have s0 : act0.tmps.size = 64 := s0
 have h0_0 : act0.eval (.tmp 0) = .pointer (some ⟨dg, 0, none⟩) := v0 0 (by simp)
 have h1_0 : act0.eval (.tmp 1) = .int .i64 (at_ : Int) := v0 1 (by simp)
 clear v0
 refine wp_seq ?_
 refine Eng.regionS (Eng.still [fun u_ => u_ = .int .i64 0]) (fun _ => .plain) 1 0 64 s0 rfl (by kernel_rfl) (Eng.still_stable _) (Or.inr (Eng.still_any _)) ?_ ?_
 ·refine .c ?_ (.nil)
  ·exact Eng.pv fun a w' H => Eng.vr rfl (Eng.run_assign rfl (rfl : a.eval (.const (.int .i64 0)) = .int .i64 0))
 intro act1 w1 T
 have h0_1 := T.r 0 h0_0
 have h1_1 := T.r 1 h1_0
 have kdg_1 := (T.below.block _ (Array.getElem?_eq_some_iff.1 hk).1).trans hk
 have ldg_1 := Nat.lt_of_lt_of_le (Array.getElem?_eq_some_iff.1 hk).1 T.below.size
 have Fgr_1 := Eng.Reads.below (Eng.Reads.of_own hR.gr) T.below
 have Fop_1 := Eng.Reads.below (Eng.Reads.of_own hR.op) T.below
 have Fkj_1 := Eng.Reads.below (Eng.Reads.of_own (hR.ks o.toNat hj)) T.below
 have Okj_1 := Eng.own_below (hR.ks o.toNat hj) T.below
 have d1 := T.defers.trans d0
 have s1 := T.size.trans s0
 have bl1 := hB.trans (T.below.mono hB.size)
 have XX_1 := Dc.St.below (Dc.St.start (dg := dg) hR) T.below
 clear T
 refine Eng.tail_nil ?_
 refine wp_seq ?_
 refine wp_seq ?_
 obtain ⟨q11, Bq11⟩ : ∃ b : Bool, b = ((((pre ++ [o]).length : Nat) : Int) == 0) := ⟨_, rfl⟩
 refine Eng.regionS (Eng.still [fun u_ => u_ = .pointer (some ⟨dg, 0, none⟩), fun u_ => u_ = .pointer (some ⟨dg, 0, none⟩), fun u_ => u_ = .pointer (some ⟨dg, 1, none⟩), fun u_ => u_ = ov, fun u_ => u_ = .int .i64 (((pre ++ [o]).length : Nat) : Int), fun u_ => u_ = .bool q11]) (fun _ => .plain) 6 0 64 s1 rfl (by kernel_rfl) (Eng.still_stable _) (Or.inr (Eng.still_any _)) ?_ ?_
 ·refine .c ?_ (.c ?_ (.c ?_ (.c ?_ (.c ?_ (.c ?_ (.nil))))))
  ·exact Eng.pv fun a w' H => Eng.vr rfl (Eng.run_move rfl (H.q 0 h0_1))
  ·exact Eng.pv fun a w' H => Eng.vr rfl (Eng.run_nilb rfl (H.d 0 6))
  ·exact Eng.pv fun a w' H => Eng.vr rfl (Eng.run_fieldb rfl Tryd.underlying64 1 (by kernel_rfl) (H.d 1 7))
  ·exact Eng.pv fun a w' H => Eng.vr rfl (Eng.run_loadb rfl (H.d 2 8) ((H.below.block _ ldg_1).trans kdg_1) rfl (by kernel_rfl))
  ·exact Eng.pv fun a w' H => Eng.vr (v := .int .i64 (((pre ++ [o]).length : Nat) : Int)) rfl (Eng.run_len_sl rfl Tryd.underlying55 (show a.eval (.tmp 9) = ov from (H.d 3 9)) (Eng.Reads.below Fop_1 H.below))
  ·refine Eng.pv fun a w' H => ?_
   refine Eng.vr (v := .bool ((((pre ++ [o]).length : Nat) : Int) == 0)) (by show _ = Value.bool q11; rw [Bq11]) ?_
   have e0 : a.eval (.tmp 10) = .int .i64 (((pre ++ [o]).length : Nat) : Int) := (H.d 4 10)
   have e1 : a.eval (.const (.int .i64 0)) = .int .i64 0 := rfl
   simp only [execOp, resolve, e0, e1]
   go_simp
 intro act2 w2 T
 have h0_2 := T.r 0 h0_1
 have h1_2 := T.r 1 h1_1
 have kdg_2 := (T.below.block _ ldg_1).trans kdg_1
 have ldg_2 := Nat.lt_of_lt_of_le ldg_1 T.below.size
 have Fgr_2 := Eng.Reads.below Fgr_1 T.below
 have Fop_2 := Eng.Reads.below Fop_1 T.below
 have Fkj_2 := Eng.Reads.below Fkj_1 T.below
 have Okj_2 := Eng.own_below Okj_1 T.below
 have h11_2 : act2.eval (.tmp 11) = .bool q11 := T.done 5 11 rfl rfl
 have d2 := T.defers.trans d1
 have s2 := T.size.trans s1
 have bl2 := bl1.trans (T.below.mono bl1.size)
 have XX_2 := Dc.St.below XX_1 T.below
 clear T
 refine Eng.tail_nil ?_
 have n11 : q11 = false := by
  try simp only [Bq11]
  rw [beq_eq_false_iff_ne]; simp; omega
 refine wp_cond_false (h11_2.trans (by rw [n11])) ?_
 refine wp_skip ?_
 refine wp_seq ?_
 refine Eng.regionD (Eng.still [fun u_ => u_ = .pointer (some ⟨dg, 0, none⟩), fun u_ => u_ = .pointer (some ⟨dg, 0, none⟩), fun u_ => u_ = .pointer (some ⟨dg, 0, none⟩), fun u_ => u_ = gv, fun u_ => u_ = .pointer (some ⟨dg, 0, none⟩), fun u_ => u_ = .pointer (some ⟨dg, 0, none⟩), fun u_ => u_ = .pointer (some ⟨dg, 1, none⟩), fun u_ => u_ = ov, fun u_ => u_ = .pointer (some ⟨dg, 0, none⟩), fun u_ => u_ = .pointer (some ⟨dg, 0, none⟩), fun u_ => u_ = .pointer (some ⟨dg, 1, none⟩), fun u_ => u_ = ov, fun u_ => u_ = .int .i64 (((pre ++ [o]).length : Nat) : Int), fun u_ => u_ = .int .i64 (IntKind.i64.wrap ((((pre ++ [o]).length : Nat) : Int) - 1)), fun u_ => u_ = Eng.elemPtr ov (pre.length * 1), fun u_ => u_ = .int .i64 o, fun u_ => u_ = Eng.elemPtr gv (o.toNat * 4), fun u_ => u_ = Eng.elemPtr gv (o.toNat * 4)]) (fun _ => .plain) 18 0 64 (by kernel_rfl) s2 rfl (by kernel_rfl) (Eng.still_stable _) (Or.inr (Eng.still_any _)) ?_ ?_
 ·refine .c ?_ (.c ?_ (.c ?_ (.c ?_ (.c ?_ (.c ?_ (.c ?_ (.c ?_ (.c ?_ (.c ?_ (.c ?_ (.c ?_ (.c ?_ (.c ?_ (.c ?_ (.c ?_ (.c ?_ (.c ?_ (.nil))))))))))))))))))
  ·exact Eng.pv fun a w' H => Eng.vr rfl (Eng.run_move rfl (H.q 0 h0_2))
  ·exact Eng.pv fun a w' H => Eng.vr rfl (Eng.run_nilb rfl (H.d 0 12))
  ·exact Eng.pv fun a w' H => Eng.vr rfl (Eng.run_fieldb rfl Tryd.underlying64 0 (by kernel_rfl) (H.d 1 13))
  ·exact Eng.pv fun a w' H => Eng.vr rfl (Eng.run_loadb rfl (H.d 2 14) ((H.below.block _ ldg_2).trans kdg_2) rfl (by kernel_rfl))
  ·exact Eng.pv fun a w' H => Eng.vr rfl (Eng.run_move rfl (H.q 0 h0_2))
  ·exact Eng.pv fun a w' H => Eng.vr rfl (Eng.run_nilb rfl (H.d 4 16))
  ·exact Eng.pv fun a w' H => Eng.vr rfl (Eng.run_fieldb rfl Tryd.underlying64 1 (by kernel_rfl) (H.d 5 17))
  ·exact Eng.pv fun a w' H => Eng.vr rfl (Eng.run_loadb rfl (H.d 6 18) ((H.below.block _ ldg_2).trans kdg_2) rfl (by kernel_rfl))
  ·exact Eng.pv fun a w' H => Eng.vr rfl (Eng.run_move rfl (H.q 0 h0_2))
  ·exact Eng.pv fun a w' H => Eng.vr rfl (Eng.run_nilb rfl (H.d 8 20))
  ·exact Eng.pv fun a w' H => Eng.vr rfl (Eng.run_fieldb rfl Tryd.underlying64 1 (by kernel_rfl) (H.d 9 21))
  ·exact Eng.pv fun a w' H => Eng.vr rfl (Eng.run_loadb rfl (H.d 10 22) ((H.below.block _ ldg_2).trans kdg_2) rfl (by kernel_rfl))
  ·exact Eng.pv fun a w' H => Eng.vr (v := .int .i64 (((pre ++ [o]).length : Nat) : Int)) rfl (Eng.run_len_sl rfl Tryd.underlying55 (show a.eval (.tmp 23) = ov from (H.d 11 23)) (Eng.Reads.below Fop_2 H.below))
  ·refine Eng.pv fun a w' H => ?_
   refine Eng.vr (v := .int .i64 (IntKind.i64.wrap ((((pre ++ [o]).length : Nat) : Int) - 1))) rfl ?_
   have e0 : a.eval (.tmp 24) = .int .i64 (((pre ++ [o]).length : Nat) : Int) := (H.d 12 24)
   have e1 : a.eval (.const (.int .i64 1)) = .int .i64 1 := rfl
   simp only [execOp, resolve, e0, e1]
   go_simp
  ·exact Eng.pv fun a w' H => Eng.vr (v := Eng.elemPtr ov (pre.length * 1)) rfl (Eng.run_index_sl rfl Tryd.underlying55 (by kernel_rfl) (show a.eval (.tmp 19) = ov from (H.d 7 19)) ((show a.eval (.tmp 25) = .int .i64 (IntKind.i64.wrap ((((pre ++ [o]).length : Nat) : Int) - 1)) from (H.d 13 25)).trans (congrArg (Value.int _) (show IntKind.i64.wrap ((((pre ++ [o]).length : Nat) : Int) - 1) = ((pre.length : Nat) : Int) from by first | exact Dc.last_ix pre o hm1 | (simp; done)))) (Eng.Reads.below Fop_2 H.below) (by first | exact Dc.last_ix pre o hm1 | (simp; done)) rfl)
  ·exact Eng.pv fun a w' H => Eng.vr (v := .int .i64 o) rfl (Eng.run_load_el (.int .i64 o) rfl (show a.eval (.tmp 26) = Eng.elemPtr ov (pre.length * 1) from (H.d 14 26)) (Eng.Reads.below Fop_2 H.below) (Dc.int_top pre o) (by kernel_rfl))
  ·exact Eng.pv fun a w' H => Eng.vr (v := Eng.elemPtr gv (o.toNat * 4)) rfl (Eng.run_index_sl rfl Tryd.underlying48 (by kernel_rfl) (show a.eval (.tmp 15) = gv from (H.d 3 15)) ((show a.eval (.tmp 27) = .int .i64 o from (H.d 15 27)).trans (congrArg (Value.int _) (show o = ((o.toNat : Nat) : Int) from by omega))) (Eng.Reads.below Fgr_2 H.below) (by omega) rfl)
  ·exact Eng.pv fun a w' H => Eng.vr rfl (Eng.run_assign rfl (H.d 16 28))
 intro act3 w3 T
 have h0_3 := T.r 0 h0_2
 have h1_3 := T.r 1 h1_2
 have kdg_3 := (T.below.block _ ldg_2).trans kdg_2
 have ldg_3 := Nat.lt_of_lt_of_le ldg_2 T.below.size
 have Fgr_3 := Eng.Reads.below Fgr_2 T.below
 have Fkj_3 := Eng.Reads.below Fkj_2 T.below
 have Okj_3 := Eng.own_below Okj_2 T.below
 have h5_3 : act3.eval (.tmp 5) = Eng.elemPtr gv (o.toNat * 4) := T.done 17 5 rfl rfl
 have d3 := T.defers.trans d2
 have s3 := T.size.trans s2
 have bl3 := bl2.trans (T.below.mono bl2.size)
 have XX_3 := Dc.St.below XX_2 T.below
 clear T
 refine Eng.tail_nil ?_
 refine wp_seq ?_
 refine wp_seq ?_
 obtain ⟨q33, Bq33⟩ : ∃ b : Bool, b = (((h.getD o.toNat default).1.kind) == 2) := ⟨_, rfl⟩
 obtain ⟨q41, Bq41⟩ : ∃ b : Bool, b = ((Int.tmod ((h.getD o.toNat default).1.kids.length : Int) 2) == 0) := ⟨_, rfl⟩
 obtain ⟨q42, Bq42⟩ : ∃ b : Bool, b = (q33 && q41) := ⟨_, rfl⟩
 obtain ⟨q52, Bq52⟩ : ∃ b : Bool, b = (!(((h.getD at_ default).1.kind) == 0)) := ⟨_, rfl⟩
 obtain ⟨q53, Bq53⟩ : ∃ b : Bool, b = (q42 && q52) := ⟨_, rfl⟩
 refine Eng.regionS (Eng.still [fun u_ => u_ = Eng.elemPtr gv (o.toNat * 4), fun u_ => u_ = Eng.elemPtr gv (o.toNat * 4), fun u_ => u_ = Eng.elemPtr gv (o.toNat * 4 + 0), fun u_ => u_ = .int .i64 ((h.getD o.toNat default).1.kind), fun u_ => u_ = .bool q33, fun u_ => u_ = .bool q33, fun u_ => u_ = bif (q33 == true) then (Eng.elemPtr gv (o.toNat * 4)) else undef, fun u_ => u_ = bif (q33 == true) then (Eng.elemPtr gv (o.toNat * 4)) else undef, fun u_ => u_ = bif (q33 == true) then (Eng.elemPtr gv (o.toNat * 4 + 3)) else undef, fun u_ => u_ = bif (q33 == true) then ((h.getD o.toNat default).2) else undef, fun u_ => u_ = bif (q33 == true) then (.int .i64 ((((h.getD o.toNat default).1.kids).length : Nat) : Int)) else undef, fun u_ => u_ = bif (q33 == true) then (.int .i64 (Int.tmod ((h.getD o.toNat default).1.kids.length : Int) 2)) else undef, fun u_ => u_ = bif (q33 == true) then (.bool q41) else undef, fun u_ => u_ = .bool q42, fun u_ => u_ = .bool q42, fun u_ => u_ = bif (q42 == true) then (.pointer (some ⟨dg, 0, none⟩)) else undef, fun u_ => u_ = bif (q42 == true) then (.pointer (some ⟨dg, 0, none⟩)) else undef, fun u_ => u_ = bif (q42 == true) then (.pointer (some ⟨dg, 0, none⟩)) else undef, fun u_ => u_ = bif (q42 == true) then (gv) else undef, fun u_ => u_ = bif (q42 == true) then (.int .i64 (at_ : Int)) else undef, fun u_ => u_ = bif (q42 == true) then (Eng.elemPtr gv (at_ * 4)) else undef, fun u_ => u_ = bif (q42 == true) then (Eng.elemPtr gv (at_ * 4 + 0)) else undef, fun u_ => u_ = bif (q42 == true) then (.int .i64 ((h.getD at_ default).1.kind)) else undef, fun u_ => u_ = bif (q42 == true) then (.bool q52) else undef, fun u_ => u_ = .bool q53]) (fun _ => .plain) 25 0 64 s3 rfl (by kernel_rfl) (Eng.still_stable _) (Or.inr (Eng.still_any _)) ?_ ?_
 ·refine .c ?_ (.c ?_ (.c ?_ (.c ?_ (.c ?_ (.c ?_ (.c ?_ (.c ?_ (.c ?_ (.c ?_ (.c ?_ (.c ?_ (.c ?_ (.c ?_ (.c ?_ (.c ?_ (.c ?_ (.c ?_ (.c ?_ (.c ?_ (.c ?_ (.c ?_ (.c ?_ (.c ?_ (.c ?_ (.nil)))))))))))))))))))))))))
  ·exact Eng.pv fun a w' H => Eng.vr rfl (Eng.run_move rfl (H.q 5 h5_3))
  ·exact Eng.pv fun a w' H => Eng.vr (v := Eng.elemPtr gv (o.toNat * 4)) rfl (Eng.run_nil_el rfl (show a.eval (.tmp 29) = Eng.elemPtr gv (o.toNat * 4) from (H.d 0 29)) (Eng.Reads.below Fgr_3 H.below) (by have h_ : o.toNat < h.length := (by omega); omega))
  ·exact Eng.pv fun a w' H => Eng.vr (v := Eng.elemPtr gv (o.toNat * 4 + 0)) rfl (Eng.run_field_el rfl Tryd.underlying57 0 (by kernel_rfl) (show a.eval (.tmp 30) = Eng.elemPtr gv (o.toNat * 4) from (H.d 1 30)) (Eng.Reads.below Fgr_3 H.below) (by have h_ : o.toNat < h.length := (by omega); omega))
  ·exact Eng.pv fun a w' H => Eng.vr (v := .int .i64 ((h.getD o.toNat default).1.kind)) rfl (Eng.run_load_el (.int .i64 ((h.getD o.toNat default).1.kind)) rfl (show a.eval (.tmp 31) = Eng.elemPtr gv (o.toNat * 4 + 0) from (H.d 2 31)) (Eng.Reads.below Fgr_3 H.below) (Dc.cell_kind h o.toNat (by omega)) (by kernel_rfl))
  ·refine Eng.pv fun a w' H => ?_
   refine Eng.vr (v := .bool (((h.getD o.toNat default).1.kind) == 2)) (by show _ = Value.bool q33; rw [Bq33]) ?_
   have e0 : a.eval (.tmp 32) = .int .i64 ((h.getD o.toNat default).1.kind) := (H.d 3 32)
   have e1 : a.eval (.const (.int .i64 2)) = .int .i64 2 := rfl
   simp only [execOp, resolve, e0, e1]
   go_simp
  ·exact Eng.pv fun a w' H => Eng.vr rfl (Eng.run_move rfl (H.d 4 33))
  ·refine Eng.guarded1 (j := 5) (d := 34) (b := q33) rfl rfl (by kernel_rfl) rfl (fun v w h => h) (fun hG w => Eng.off hG) fun hG a w' H => ?_
   exact Eng.val (w1 := w') (v := Eng.elemPtr gv (o.toNat * 4)) (Eng.run_move rfl (H.q 5 h5_3)) (Below.refl _ _) (Eng.off' hG rfl)
  ·refine Eng.guarded1 (j := 5) (d := 34) (b := q33) rfl rfl (by kernel_rfl) rfl (fun v w h => h) (fun hG w => Eng.off hG) fun hG a w' H => ?_
   refine Eng.vr (v := Eng.elemPtr gv (o.toNat * 4)) (Eng.off' hG rfl) ?_
   exact Eng.run_nil_el rfl (show a.eval (.tmp 35) = Eng.elemPtr gv (o.toNat * 4) from (Eng.on (H.d 6 35) hG)) (Eng.Reads.below Fgr_3 H.below) (by have h_ : o.toNat < h.length := (by omega); omega)
  ·refine Eng.guarded1 (j := 5) (d := 34) (b := q33) rfl rfl (by kernel_rfl) rfl (fun v w h => h) (fun hG w => Eng.off hG) fun hG a w' H => ?_
   refine Eng.vr (v := Eng.elemPtr gv (o.toNat * 4 + 3)) (Eng.off' hG rfl) ?_
   exact Eng.run_field_el rfl Tryd.underlying57 3 (by kernel_rfl) (show a.eval (.tmp 36) = Eng.elemPtr gv (o.toNat * 4) from (Eng.on (H.d 7 36) hG)) (Eng.Reads.below Fgr_3 H.below) (by have h_ : o.toNat < h.length := (by omega); omega)
  ·refine Eng.guarded1 (j := 5) (d := 34) (b := q33) rfl rfl (by kernel_rfl) rfl (fun v w h => h) (fun hG w => Eng.off hG) fun hG a w' H => ?_
   refine Eng.vr (v := (h.getD o.toNat default).2) (Eng.off' hG rfl) ?_
   exact Eng.run_load_el ((h.getD o.toNat default).2) rfl (show a.eval (.tmp 37) = Eng.elemPtr gv (o.toNat * 4 + 3) from (Eng.on (H.d 8 37) hG)) (Eng.Reads.below Fgr_3 H.below) (Dc.cell_kids h o.toNat (by omega)) (by kernel_rfl)
  ·refine Eng.guarded1 (j := 5) (d := 34) (b := q33) rfl rfl (by kernel_rfl) rfl (fun v w h => h) (fun hG w => Eng.off hG) fun hG a w' H => ?_
   refine Eng.vr (v := .int .i64 ((((h.getD o.toNat default).1.kids).length : Nat) : Int)) (Eng.off' hG rfl) ?_
   exact Eng.run_len_sl rfl Tryd.underlying55 (show a.eval (.tmp 38) = (h.getD o.toNat default).2 from (Eng.on (H.d 9 38) hG)) (Eng.Reads.below Fkj_3 H.below)
  ·refine Eng.guarded1 (j := 5) (d := 34) (b := q33) rfl rfl (by kernel_rfl) rfl (fun v w h => h) (fun hG w => Eng.off hG) fun hG a w' H => ?_
   refine Eng.vr (v := .int .i64 (Int.tmod ((h.getD o.toNat default).1.kids.length : Int) 2)) (Eng.off' hG rfl) ?_
   have e0 : a.eval (.tmp 39) = .int .i64 ((((h.getD o.toNat default).1.kids).length : Nat) : Int) := (Eng.on (H.d 10 39) hG)
   have e1 : a.eval (.const (.int .i64 2)) = .int .i64 2 := rfl
   simp only [execOp, resolve, e0, e1]
   go_simp
   try rfl
  ·refine Eng.guarded1 (j := 5) (d := 34) (b := q33) rfl rfl (by kernel_rfl) rfl (fun v w h => h) (fun hG w => Eng.off hG) fun hG a w' H => ?_
   refine Eng.vr (v := .bool ((Int.tmod ((h.getD o.toNat default).1.kids.length : Int) 2) == 0)) (Eng.off' hG (by rw [Bq41])) ?_
   have e0 : a.eval (.tmp 40) = .int .i64 (Int.tmod ((h.getD o.toNat default).1.kids.length : Int) 2) := (Eng.on (H.d 11 40) hG)
   have e1 : a.eval (.const (.int .i64 0)) = .int .i64 0 := rfl
   simp only [execOp, resolve, e0, e1]
   go_simp
  ·exact Eng.pv fun a w' H => Eng.vr (v := .bool (q33 && q41)) (by show _ = Value.bool q42; rw [Bq42]) (Eng.run_and rfl rfl (G := true) (H.d 5 34) (fun hb => (Eng.on (H.d 12 41) (Eng.mk1 hb))))
  ·exact Eng.pv fun a w' H => Eng.vr rfl (Eng.run_move rfl (H.d 13 42))
  ·refine Eng.guarded1 (j := 14) (d := 43) (b := q42) rfl rfl (by kernel_rfl) rfl (fun v w h => h) (fun hG w => Eng.off hG) fun hG a w' H => ?_
   exact Eng.val (w1 := w') (v := .pointer (some ⟨dg, 0, none⟩)) (Eng.run_move rfl (H.q 0 h0_3)) (Below.refl _ _) (Eng.off' hG rfl)
  ·refine Eng.guarded1 (j := 14) (d := 43) (b := q42) rfl rfl (by kernel_rfl) rfl (fun v w h => h) (fun hG w => Eng.off hG) fun hG a w' H => ?_
   exact Eng.val (w1 := w') (v := .pointer (some ⟨dg, 0, none⟩)) (Eng.run_nilb rfl (Eng.on (H.d 15 44) hG)) (Below.refl _ _) (Eng.off' hG rfl)
  ·refine Eng.guarded1 (j := 14) (d := 43) (b := q42) rfl rfl (by kernel_rfl) rfl (fun v w h => h) (fun hG w => Eng.off hG) fun hG a w' H => ?_
   exact Eng.val (w1 := w') (v := .pointer (some ⟨dg, 0, none⟩)) (Eng.run_fieldb rfl Tryd.underlying64 0 (by kernel_rfl) (Eng.on (H.d 16 45) hG)) (Below.refl _ _) (Eng.off' hG rfl)
  ·refine Eng.guarded1 (j := 14) (d := 43) (b := q42) rfl rfl (by kernel_rfl) rfl (fun v w h => h) (fun hG w => Eng.off hG) fun hG a w' H => ?_
   exact Eng.val (w1 := w') (v := gv) (Eng.run_loadb rfl (Eng.on (H.d 17 46) hG) ((H.below.block _ ldg_3).trans kdg_3) rfl (by kernel_rfl)) (Below.refl _ _) (Eng.off' hG rfl)
  ·refine Eng.guarded1 (j := 14) (d := 43) (b := q42) rfl rfl (by kernel_rfl) rfl (fun v w h => h) (fun hG w => Eng.off hG) fun hG a w' H => ?_
   exact Eng.val (w1 := w') (v := .int .i64 (at_ : Int)) (Eng.run_move rfl (H.q 1 h1_3)) (Below.refl _ _) (Eng.off' hG rfl)
  ·refine Eng.guarded1 (j := 14) (d := 43) (b := q42) rfl rfl (by kernel_rfl) rfl (fun v w h => h) (fun hG w => Eng.off hG) fun hG a w' H => ?_
   refine Eng.vr (v := Eng.elemPtr gv (at_ * 4)) (Eng.off' hG rfl) ?_
   exact Eng.run_index_sl rfl Tryd.underlying48 (by kernel_rfl) (show a.eval (.tmp 47) = gv from (Eng.on (H.d 18 47) hG)) ((show a.eval (.tmp 48) = .int .i64 (at_ : Int) from (Eng.on (H.d 19 48) hG)).trans (congrArg (Value.int _) (show (at_ : Int) = ((at_ : Nat) : Int) from by first | rfl | omega))) (Eng.Reads.below Fgr_3 H.below) (by first | rfl | omega) rfl
  ·refine Eng.guarded1 (j := 14) (d := 43) (b := q42) rfl rfl (by kernel_rfl) rfl (fun v w h => h) (fun hG w => Eng.off hG) fun hG a w' H => ?_
   refine Eng.vr (v := Eng.elemPtr gv (at_ * 4 + 0)) (Eng.off' hG rfl) ?_
   exact Eng.run_field_el rfl Tryd.underlying57 0 (by kernel_rfl) (show a.eval (.tmp 49) = Eng.elemPtr gv (at_ * 4) from (Eng.on (H.d 20 49) hG)) (Eng.Reads.below Fgr_3 H.below) (by have h_ : at_ < h.length := (by first | rfl | omega); omega)
  ·refine Eng.guarded1 (j := 14) (d := 43) (b := q42) rfl rfl (by kernel_rfl) rfl (fun v w h => h) (fun hG w => Eng.off hG) fun hG a w' H => ?_
   refine Eng.vr (v := .int .i64 ((h.getD at_ default).1.kind)) (Eng.off' hG rfl) ?_
   exact Eng.run_load_el (.int .i64 ((h.getD at_ default).1.kind)) rfl (show a.eval (.tmp 50) = Eng.elemPtr gv (at_ * 4 + 0) from (Eng.on (H.d 21 50) hG)) (Eng.Reads.below Fgr_3 H.below) (Dc.cell_kind h at_ (by first | rfl | omega)) (by kernel_rfl)
  ·refine Eng.guarded1 (j := 14) (d := 43) (b := q42) rfl rfl (by kernel_rfl) rfl (fun v w h => h) (fun hG w => Eng.off hG) fun hG a w' H => ?_
   refine Eng.vr (v := .bool (!(((h.getD at_ default).1.kind) == 0))) (Eng.off' hG (by rw [Bq52])) ?_
   have e0 : a.eval (.tmp 51) = .int .i64 ((h.getD at_ default).1.kind) := (Eng.on (H.d 22 51) hG)
   have e1 : a.eval (.const (.int .i64 0)) = .int .i64 0 := rfl
   simp only [execOp, resolve, e0, e1]
   go_simp
   all_goals first | rfl | (simp; done) | (rw [Bool.eq_iff_iff]; simp; done) | omega | (split <;> first | (simp_all; done) | (split <;> simp_all; done)) | skip
  ·exact Eng.pv fun a w' H => Eng.vr (v := .bool (q42 && q52)) (by show _ = Value.bool q53; rw [Bq53]) (Eng.run_and rfl rfl (G := true) (H.d 14 43) (fun hb => (Eng.on (H.d 23 52) (Eng.mk1 hb))))
 intro act4 w4 T
 have h1_4 := T.r 1 h1_3
 have h5_4 := T.r 5 h5_3
 have kdg_4 := (T.below.block _ ldg_3).trans kdg_3
 have ldg_4 := Nat.lt_of_lt_of_le ldg_3 T.below.size
 have Fgr_4 := Eng.Reads.below Fgr_3 T.below
 have Okj_4 := Eng.own_below Okj_3 T.below
 have h53_4 : act4.eval (.tmp 53) = .bool q53 := T.done 24 53 rfl rfl
 have d4 := T.defers.trans d3
 have s4 := T.size.trans s3
 have bl4 := bl3.trans (T.below.mono bl3.size)
 have XX_4 := Dc.St.below XX_3 T.below
 clear T
 refine Eng.tail_nil ?_
 refine wp_cond_split h53_4 (fun hq => ?_) (fun hq => ?_)
 ·
  have c53 := Bq53.symm.trans hq
  clear hq
  have hc := c53
  refine wp_seq ?_
  refine Eng.regionS (Eng.still [fun u_ => u_ = .int .i64 5]) (fun _ => .plain) 1 0 64 s4 rfl (by kernel_rfl) (Eng.still_stable _) (Or.inr (Eng.still_any _)) ?_ ?_
  ·refine .c ?_ (.nil)
   ·exact Eng.pv fun a w' H => Eng.vr rfl (Eng.run_assign rfl (rfl : a.eval (.const (.int .i64 5)) = .int .i64 5))
  intro act6 w6 T
  have kdg_6 := (T.below.block _ ldg_4).trans kdg_4
  have h4_6 : act6.eval (.tmp 4) = .int .i64 5 := T.done 0 4 rfl rfl
  have d6 := T.defers.trans d4
  have XX_6 := Dc.St.below XX_4 T.below
  clear T
  refine Eng.tail_nil ?_
  refine wp_ret ?_
  repeat (first | refine Eng.in_ret ?_ | refine Eng.then_ret ?_)
  have ho := hc
  simp only [Bq53, Bq52, Bq42, Bq41, Bq33, Bq11] at ho
  have hod : Dc.odd (h.map (·.1)) o.toNat at_ = true := by unfold Dc.odd; rw [Dc.map_getD, Dc.map_getD]; exact ho
  exact Eng.ret1 rfl d6 h4_6 ⟨h, by rw [Dc.kidF_top, if_pos hod], by rw [Dc.kidF_top, if_pos hod], XX_6, kdg_6⟩
 ·
  have c53 := Bq53.symm.trans hq
  clear hq
  have hc := c53
  refine wp_skip ?_
  refine wp_seq ?_
  refine (wpIn_wide (n := 1)).1 ?_
  refine EngI.regionT (n := 11) rfl ?_
  refine EngI.tail_val EngI.free_wide rfl rfl rfl rfl (Eng.run_move rfl h5_4) s4 rfl fun act8 d8 s8 hv hr => ?_
  have h1_8 := (hr 1 rfl).trans h1_4
  have h5_8 := (hr 5 rfl).trans h5_4
  have h54_8 : act8.eval (.tmp 54) = Eng.elemPtr gv (o.toNat * 4) := hv
  have d8 := d8.trans d4
  clear hv hr
  refine EngI.tail_val EngI.free_wide rfl rfl rfl rfl (Eng.run_move rfl h5_8) s8 rfl fun act9 d9 s9 hv hr => ?_
  have h1_9 := (hr 1 rfl).trans h1_8
  have h54_9 := (hr 54 rfl).trans h54_8
  have h55_9 : act9.eval (.tmp 55) = Eng.elemPtr gv (o.toNat * 4) := hv
  have d9 := d9.trans d8
  clear hv hr
  refine EngI.tail_val (w1 := w4) (v := Eng.elemPtr gv (o.toNat * 4)) EngI.free_wide rfl rfl rfl rfl ?_ s9 rfl ?_
  ·exact Eng.run_nil_el rfl (show act9.eval (.tmp 55) = Eng.elemPtr gv (o.toNat * 4) from h55_9) Fgr_4 (by have h_ : o.toNat < h.length := (by omega); omega)
  intro act10 d10 s10 hv hr
  have h1_10 := (hr 1 rfl).trans h1_9
  have h54_10 := (hr 54 rfl).trans h54_9
  have h56_10 : act10.eval (.tmp 56) = Eng.elemPtr gv (o.toNat * 4) := hv
  have d10 := d10.trans d9
  clear hv hr
  refine EngI.tail_val (w1 := w4) (v := Eng.elemPtr gv (o.toNat * 4 + 3)) EngI.free_wide rfl rfl rfl rfl ?_ s10 rfl ?_
  ·exact Eng.run_field_el rfl Tryd.underlying57 3 (by kernel_rfl) (show act10.eval (.tmp 56) = Eng.elemPtr gv (o.toNat * 4) from h56_10) Fgr_4 (by have h_ : o.toNat < h.length := (by omega); omega)
  intro act11 d11 s11 hv hr
  have h1_11 := (hr 1 rfl).trans h1_10
  have h54_11 := (hr 54 rfl).trans h54_10
  have h57_11 : act11.eval (.tmp 57) = Eng.elemPtr gv (o.toNat * 4 + 3) := hv
  have d11 := d11.trans d10
  clear hv hr
  refine EngI.tail_val (w1 := w4) (v := (h.getD o.toNat default).2) EngI.free_wide rfl rfl rfl rfl ?_ s11 rfl ?_
  ·exact Eng.run_load_el ((h.getD o.toNat default).2) rfl (show act11.eval (.tmp 57) = Eng.elemPtr gv (o.toNat * 4 + 3) from h57_11) Fgr_4 (Dc.cell_kids h o.toNat (by omega)) (by kernel_rfl)
  intro act12 d12 s12 hv hr
  have h1_12 := (hr 1 rfl).trans h1_11
  have h54_12 := (hr 54 rfl).trans h54_11
  have h58_12 : act12.eval (.tmp 58) = (h.getD o.toNat default).2 := hv
  have d12 := d12.trans d11
  clear hv hr
  refine EngI.tail_val EngI.free_wide rfl rfl rfl rfl (Eng.run_move rfl h1_12) s12 rfl fun act13 d13 s13 hv hr => ?_
  have h54_13 := (hr 54 rfl).trans h54_12
  have h58_13 := (hr 58 rfl).trans h58_12
  have h59_13 : act13.eval (.tmp 59) = .int .i64 (at_ : Int) := hv
  have d13 := d13.trans d12
  clear hv hr
  refine EngI.tail_ex EngI.free_wide rfl rfl rfl rfl (Eng.run_buildN1 (z := .int .i64 0) [.int .i64 (at_ : Int)] rfl Tryd.underlying55 (by kernel_rfl) rfl rfl rfl rfl (by intro v hv; have h := List.mem_singleton.1 hv; rw [h]; exact rfl) (by have e0 : act13.eval (.tmp 59) = .int .i64 (at_ : Int) := h59_13; simp [e0])) s13 rfl fun v_14 w14 act14 R d14 s14 hv hr => ?_
  obtain ⟨F_14, b_14⟩ := R
  have h54_14 := (hr 54 rfl).trans h54_13
  have h58_14 := (hr 58 rfl).trans h58_13
  have h60_14 : act14.eval (.tmp 60) = v_14 := hv
  have d14 := d14.trans d13
  clear hv hr
  have kdg_14 := (b_14.block _ ldg_4).trans kdg_4
  have ldg_14 := Nat.lt_of_lt_of_le ldg_4 b_14.size
  have Okj_14 := Eng.own_below Okj_4 b_14
  have XX_14 := Dc.St.below XX_4 b_14
  have bl14 := bl4.trans (b_14.mono bl4.size)
  refine EngI.tail_ex EngI.free_wide rfl rfl rfl rfl (Eng.run_appendI (z := .int .i64 0) rfl Tryd.underlying55 (by kernel_rfl) rfl rfl h58_14 Okj_14 h60_14 F_14 (by intro u hu; simp at hu; subst hu; rfl) (by omega) bl14.size) s14 rfl fun v_15 w15 act15 R d15 s15 hv hr => ?_
  obtain ⟨O_15, _, b_15, G_15, EO_15⟩ := R
  have h54_15 := (hr 54 rfl).trans h54_14
  have h61_15 : act15.eval (.tmp 61) = v_15 := hv
  have d15 := d15.trans d14
  clear hv hr
  have kdg_15 := (G_15.block _ ldg_14 (Eng.own_ne Okj_14 kdg_14 rfl)).trans kdg_14
  have ldg_15 := Nat.lt_of_lt_of_le ldg_14 G_15.size
  have XX_15 := Dc.St.kid XX_14 hj _ O_15 G_15 EO_15
  have Ogr_15 := XX_15.M.gr
  have Fgr_15 := Eng.Reads.of_own Ogr_15
  have Oa15 : w15.ownsRow w.heap.size 3 1 v_15 ((h.getD o.toNat default).1.kids.length + 1) (Dc.ints (h.getD o.toNat default).1.kids ++ [.int .i64 (at_ : Int)]) := O_15
  have Fa15 := Eng.Reads.of_own Oa15
  refine EngI.tail_val (w1 := w15) (v := Eng.elemPtr gv (o.toNat * 4)) EngI.free_wide rfl rfl rfl rfl ?_ s15 rfl ?_
  ·exact Eng.run_nil_el rfl (show act15.eval (.tmp 54) = Eng.elemPtr gv (o.toNat * 4) from h54_15) Fgr_15 (by have h_ : o.toNat < h.length := (by omega); omega)
  intro act16 d16 s16 hv hr
  have h61_16 := (hr 61 rfl).trans h61_15
  have h62_16 : act16.eval (.tmp 62) = Eng.elemPtr gv (o.toNat * 4) := hv
  have d16 := d16.trans d15
  clear hv hr
  refine EngI.tail_val (w1 := w15) (v := Eng.elemPtr gv (o.toNat * 4 + 3)) EngI.free_wide rfl rfl rfl rfl ?_ s16 rfl ?_
  ·exact Eng.run_field_el rfl Tryd.underlying57 3 (by kernel_rfl) (show act16.eval (.tmp 62) = Eng.elemPtr gv (o.toNat * 4) from h62_16) Fgr_15 (by have h_ : o.toNat < h.length := (by omega); omega)
  intro act17 d17 s17 hv hr
  have h61_17 := (hr 61 rfl).trans h61_16
  have h63_17 : act17.eval (.tmp 63) = Eng.elemPtr gv (o.toNat * 4 + 3) := hv
  have d17 := d17.trans d16
  clear hv hr
  refine EngG.tail_exs EngI.free_wide rfl rfl rfl rfl (Eng.run_store_own (j := o.toNat * 4 + 3) (u := v_15) rfl (show act17.eval (.tmp 63) = Eng.elemPtr gv (o.toNat * 4 + 3) from h63_17) h61_17 Ogr_15 (by have h_ : o.toNat < h.length := (by omega); omega) (by kernel_rfl) (by obtain ⟨A_, c_, e_⟩ := Eng.Reads.shape Fa15; rw [e_]; rfl)) fun w18 R => ?_
  obtain ⟨O_18, G_18⟩ := R
  have kdg_18 := (G_18.block _ ldg_15 (Eng.own_ne Ogr_15 kdg_15 rfl)).trans kdg_15
  have ldg_18 := Nat.lt_of_lt_of_le ldg_15 G_18.size
  have XX_18 := Dc.Sm.done XX_15 O_18 G_18
  refine EngI.tail_nil ?_
  refine wp_seq ?_
  refine Eng.regionS (Eng.still [fun u_ => u_ = .int .i64 0]) (fun _ => .plain) 1 0 64 s17 rfl (by kernel_rfl) (Eng.still_stable _) (Or.inr (Eng.still_any _)) ?_ ?_
  ·refine .c ?_ (.nil)
   ·exact Eng.pv fun a w' H => Eng.vr rfl (Eng.run_assign rfl (rfl : a.eval (.const (.int .i64 0)) = .int .i64 0))
  intro act19 w19 T
  have kdg_19 := (T.below.block _ ldg_18).trans kdg_18
  have h4_19 : act19.eval (.tmp 4) = .int .i64 0 := T.done 0 4 rfl rfl
  have d19 := T.defers.trans d17
  have XX_19 := Dc.St.below XX_18 T.below
  clear T
  refine Eng.tail_nil ?_
  refine wp_ret ?_
  repeat (first | refine Eng.in_ret ?_ | refine Eng.then_ret ?_)
  have ho := hc
  simp only [Bq53, Bq52, Bq42, Bq41, Bq33, Bq11] at ho
  have hod : ¬ Dc.odd (h.map (·.1)) o.toNat at_ = true := by unfold Dc.odd; rw [Dc.map_getD, Dc.map_getD, ho]; simp
  exact Eng.ret1 rfl d19 h4_19 ⟨_, by rw [Dc.kidF_top, if_neg hod], by rw [Dc.kidF_top, if_neg hod]; exact Dc.setKid_map _ _, XX_19, kdg_19⟩
end Go.Proofs.YtgnmjaacnmkgnaaDoor.X
end
section
namespace Go.Proofs.YtgnmjaacnmkgnaaDoor.X
open Go.RowKit Go.Shelf Go.Proofs Go.Proofs.YtgnmjaacnmkgnaaDoorW.PrintWords Go.Proofs.YtgnmjaacnmkgnaaDoorW.PrintLast Go.Proofs.YtgnmjaacnmkgnaaDoorW.PrintMore
set_option linter.unusedVariables false
set_option linter.unusedSimpArgs false
namespace Evt
theorem opens_len (l : List (Int × Int)) : (opens l).length = l.length * 2 := Rwt.len encO_len l
theorem opens_snoc (l : List (Int × Int)) (t : Int × Int) : opens (l ++ [t]) = opens l ++ [.int .i64 t.1, .int .i64 t.2] := by unfold opens; rw [List.flatMap_append]; rfl
theorem top_0 (pre : List (Int × Int)) (t : Int × Int) : (opens (pre ++ [t]))[pre.length * 2 + 0]? = some (.int .i64 t.1) := by
  rw [opens_snoc, List.getElem?_append_right (by rw [opens_len]; omega), opens_len]; simp
theorem top_1 (pre : List (Int × Int)) (t : Int × Int) : (opens (pre ++ [t]))[pre.length * 2 + 1]? = some (.int .i64 t.2) := by
  rw [opens_snoc, List.getElem?_append_right (by rw [opens_len]; omega), opens_len]; simp
theorem last_ix (pre : List (Int × Int)) (t : Int × Int) (h : pre.length + 1 ≤ 9223372036854775807) : IntKind.i64.wrap (((pre ++ [t]).length : Int) - 1) = ((pre.length : Nat) : Int) := by
  rw [List.length_append, Eng.i64_id (by simp only [List.length_cons, List.length_nil]; omega) (by simp only [List.length_cons, List.length_nil]; omega)]; simp only [List.length_cons, List.length_nil]; omega
theorem own_popped {w : World} {B : Nat} {o : Value} {pre : List (Int × Int)} {t : Int × Int} (O : w.ownsRow B 93 2 o (pre ++ [t]).length (opens (pre ++ [t]))) : w.ownsRow B 93 2 (Eng.cutVal o 0 pre.length 2) pre.length (opens pre) := by
  have h := Eng.own_pop (n := pre.length) (by rw [List.length_append] at O; exact O)
  rw [opens_snoc, ← opens_len, List.take_left] at h; exact h
theorem own_more {w : World} {B : Nat} {o : Value} {pre : List (Int × Int)} {t : Int × Int} {m : Int} (O : w.ownsRow B 93 2 o (pre ++ [t]).length ((opens (pre ++ [t])).set (pre.length * 2 + 1) (.int .i64 m))) : w.ownsRow B 93 2 o (pre ++ [(t.1, m)]).length (opens (pre ++ [(t.1, m)])) := by
  have e : (opens (pre ++ [t])).set (pre.length * 2 + 1) (.int .i64 m) = opens (pre ++ [(t.1, m)]) := by
    rw [opens_snoc, opens_snoc, List.set_append_right _ _ (by rw [opens_len]; omega), opens_len]; simp
  rw [e] at O
  rw [List.length_append] at O ⊢; exact O
theorem own_snoc {w : World} {B : Nat} {o : Value} {pre : List (Int × Int)} {k : Int} (O : w.ownsRow B 93 2 o (pre.length + 1) (opens pre ++ [.int .i64 k, .int .i64 0])) : w.ownsRow B 93 2 o (pre ++ [(k, 0)]).length (opens (pre ++ [(k, 0)])) := by
  rw [opens_snoc, List.length_append]; exact O
theorem pop_snoc (pre : List (Int × Int)) (t : Int × Int) (k : Int) (may : Int → Bool) : pop (pre ++ [t]) k may = if t.1 = k ∧ may t.2 = true then some pre else none := by
  unfold pop; rw [List.getLast?_append]; simp
theorem more_snoc (pre : List (Int × Int)) (t : Int × Int) : more (pre ++ [t]) = pre ++ [(t.1, IntKind.i64.wrap (t.2 + 1))] := by
  unfold more; rw [List.getLast?_append]; simp
theorem takeF_0 (st : List (Int × Int)) : takeF st 0 = if st.isEmpty = true then some [(0, 0)] else none := by unfold takeF; rw [if_pos rfl]
theorem takeF_1 (st : List (Int × Int)) : takeF st 1 = pop st 0 (fun m => m == 1) := by unfold takeF; rw [if_neg (by decide), if_pos rfl]
theorem takeF_3 (st : List (Int × Int)) : takeF st 3 = pop st 2 (fun _ => true) := by unfold takeF; rw [if_neg (by decide), if_neg (by decide), if_pos rfl]
theorem takeF_5 (st : List (Int × Int)) : takeF st 5 = pop st 4 even := by unfold takeF; rw [if_neg (by decide), if_neg (by decide), if_neg (by decide), if_pos rfl]
theorem takeF_x (st : List (Int × Int)) (k : Int) (h0 : k ≠ 0) (h1 : k ≠ 1) (h3 : k ≠ 3) (h5 : k ≠ 5) : takeF st k = if st.isEmpty = true then none else if k = 2 ∨ k = 4 then some (more st ++ [(k, 0)]) else some (more st) := by
  unfold takeF; rw [if_neg h0, if_neg h1, if_neg h3, if_neg h5]
structure Is (B : Nat) (W : World) (g : Nat) (o : Value) (st : List (Int × Int)) (w' : World) (o' : Value) : Prop where
  box : w'.heap[g]? = some (.cells #[o'] 77 (0, 0))
  own : w'.ownsRow B 93 2 o' st.length (opens st)
  aft : Eng.Aft (Eng.Nst g o) W w'
end Evt
end Go.Proofs.YtgnmjaacnmkgnaaDoor.X
namespace Go.Proofs.YtgnmjaacnmkgnaaDoor.X
open Go.RowKit Go.Shelf Go.Proofs
namespace Evt
theorem Is.from {B g : Nat} {W0 W w' : World} {o o' : Value} {st : List (Int × Int)} (h : Eng.Aft (Eng.Nst g o) W0 W) (i : Is B W g o st w' o') : Is B W0 g o st w' o' := ⟨i.box, i.own, h.trans i.aft fun _ _ h => h⟩
theorem nst_lo {w W : World} {g : Nat} {o : Value} {n : Nat} {xs : List Value} (hlo : w.heap.size ≤ g) (O : W.ownsRow w.heap.size 93 2 o n xs) : ∀ b, Eng.Nst g o b → w.heap.size ≤ b := by
  rintro b (rfl | e)
  · exact hlo
  · exact (Eng.ownB O e).1
theorem own_sets_ne {w w' : World} {B g : Nat} {e : TypeId} {size n : Nat} {v : Value} {xs : List Value} {ob : Obj} (O : w.ownsRow B e size v n xs) (S : Eng.Sets w w' g ob) (h : ∀ b, some b = v.ownBlock → b ≠ g) : w'.ownsRow B e size v n xs :=
  (Eng.Aft.of_sets (S := fun b => b = g) S rfl).own O h
end Evt
end Go.Proofs.YtgnmjaacnmkgnaaDoor.X
end
section
namespace Go.Proofs
open Go.Shelf
def Tryd.laysGw17_ren : Go.Shelf.Ren := ⟨fun | 17 => 84 | 15 => 97 | 20 => 100 | n => n, fun | 9 => 9 | 23 => 110 | 4 => 4 | 3 => 3 | 0 => 0 | 21 => 21 | n => n, fun | n => n⟩
theorem Tryd.laysGw17 : Go.Proofs.LaysGw.n17 Tryd.prog Tryd.laysGw17_ren := {
  mixed := by kernel_rfl
  f15 := Tryd.func97.trans (congrArg some (by kernel_rfl))
  f17 := Tryd.func84.trans (congrArg some (by kernel_rfl))
  f20 := Tryd.func100.trans (congrArg some (by kernel_rfl))
  t0 := Tryd.underlying0
  a0 := Tryd.isAgg0
  z0 := Tryd.sizeOf0
  v0 := Tryd.zeroValue0
  i0 := by kernel_rfl
  t3 := Tryd.underlying3
  a3 := Tryd.isAgg3
  z3 := Tryd.sizeOf3
  v3 := Tryd.zeroValue3
  i3 := by kernel_rfl
  t4 := Tryd.underlying4
  a4 := Tryd.isAgg4
  z4 := Tryd.sizeOf4
  v4 := Tryd.zeroValue4
  i4 := by kernel_rfl
  t9 := Tryd.underlying9
  a9 := Tryd.isAgg9
  z9 := Tryd.sizeOf9
  v9 := Tryd.zeroValue9
  i9 := by kernel_rfl
  t21 := Tryd.underlying21
  a21 := Tryd.isAgg21
  z21 := Tryd.sizeOf21
  v21 := Tryd.zeroValue21
  i21 := by kernel_rfl
  t23 := Tryd.underlying110
  a23 := Tryd.isAgg110
  z23 := Tryd.sizeOf110
  v23 := Tryd.zeroValue110
  i23 := by kernel_rfl }
open Go.RowKit Go.Lib in
theorem Tryd.strings_ContainsFunc (g : Nat) (lb : Array Value) (eg : ∀ args w, (callFunc g args).run Tryd.prog w = .ok (.enter g args) w) (p : Nat → Bool) (s : ByteArray) (w : World) (hp : PredAt Tryd.prog g lb encR p w) :
    Calls Tryd.prog 84 #[.string s, .func (.func g) #[] lb] w fun e w' => e = .returned (.bool (decide (0 ≤ Lib.idxFunc p true s))) ∧ Below w.heap.size w w' := Any.strings_ContainsFunc Tryd.laysGw17 g lb eg p s w hp
end Go.Proofs
end
section
namespace Go.Proofs.YtgnmjaacnmkgnaaDoor.Own
open Go.RowKit Go.Lib
def namedN (r : Nat) : Bool := (97 ≤ r && r ≤ 122) || (65 ≤ r && r ≤ 90) || (48 ≤ r && r ≤ 57) || r == 45
theorem named_calls (r : Nat) (w : World) : Calls Tryd.prog 83 #[.int .i32 r] w fun e w' => e = .returned (.bool (namedN r)) ∧ w = w' := by
  unfold namedN
  by_cases h1 : 97 ≤ r <;> by_cases h2 : r ≤ 122 <;> by_cases h3 : 65 ≤ r <;> by_cases h4 : r ≤ 90 <;> by_cases h5 : 48 ≤ r <;> by_cases h6 : r ≤ 57 <;> by_cases h7 : r = 45
  all_goals first | (exfalso; omega) | skip
  all_goals
    have z1 : (97 : Int) ≤ (r : Int) ↔ 97 ≤ r := by omega
    have z2 : (r : Int) ≤ 122 ↔ r ≤ 122 := by omega
    have z3 : (65 : Int) ≤ (r : Int) ↔ 65 ≤ r := by omega
    have z4 : (r : Int) ≤ 90 ↔ r ≤ 90 := by omega
    have z5 : (48 : Int) ≤ (r : Int) ↔ 48 ≤ r := by omega
    have z6 : (r : Int) ≤ 57 ↔ r ≤ 57 := by omega
    have z7 : ((r : Int) == 45) = decide (r = 45) := by rw [Bool.eq_iff_iff]; simp; omega
    go_enter Tryd.func83, Tryd.ntmps83
    go_wp2
    go_ret
    exact ⟨by simp [*], rfl⟩
theorem strange (w : World) : PredAt Tryd.prog 82 #[] encR (fun r => !namedN r) w := fun W r _ => by
  unfold FnGives encR
  have hn := named_calls r W
  go_enter Tryd.func82, Tryd.ntmps82
  go_wp2_with (go_at_call 83; refine hn.mono ?_; rintro e w' ⟨rfl, rfl⟩)
  go_ret
  exact ⟨rfl, 0, rfl⟩
theorem contains_calls (s : ByteArray) (w : World) :
    Calls Tryd.prog 84 #[.string s, .func (.func 82) #[] #[]] w fun e w' => e = .returned (.bool (decide (0 ≤ Lib.idxFunc (fun r => !namedN r) true s))) ∧ Below w.heap.size w w' :=
  Tryd.strings_ContainsFunc 82 #[] (enters_of Tryd.func82 (by kernel_rfl) rfl) _ s w (strange w)
def nameByte (c : UInt8) : Bool := namedN c.toNat
theorem decode_low (s : ByteArray) (i : Nat) (h : (s.get! i).toNat < 128) : Utf8.decode s i = ((s.get! i).toNat, 1) := by
  rw [decode_at]; unfold decodeN; rw [if_pos h]
theorem decode_high (s : ByteArray) (i : Nat) (h : ¬ (s.get! i).toNat < 128) : 128 ≤ (Utf8.decode s i).1 := by
  rw [decode_at]; unfold decodeN; rw [if_neg h]
  repeat' split
  all_goals simp
  all_goals omega
theorem idx_from (s : ByteArray) : ∀ (f pos : Nat), s.size - pos ≤ f →
    decide (0 ≤ idxFuncFrom (fun r => !namedN r) true s f pos) = !(s.data.toList.drop pos).all nameByte
  | 0, pos => fun h => by
    have : s.data.toList.drop pos = [] := List.drop_eq_nil_of_le (by rw [Array.length_toList]; show s.size ≤ pos; omega)
    rw [this]; rfl
  | f + 1, pos => fun h => by
    unfold idxFuncFrom
    by_cases hp : pos < s.size
    · have hl : pos < s.data.toList.length := by rw [Array.length_toList]; exact hp
      have hg : s.get! pos = s.data.toList[pos]'hl := by
        have hp' : pos < s.data.size := hp
        show s.data[pos]! = _
        rw [getElem!_pos s.data pos hp', Array.getElem_toList]
      rw [if_pos hp, List.drop_eq_getElem_cons hl, List.all_cons, ← hg]
      by_cases hb : (s.get! pos).toNat < 128
      · rw [decode_low s pos hb]
        by_cases hn : namedN (s.get! pos).toNat = true
        · rw [if_neg (by simp [hn]), idx_from s f (pos + 1) (by omega)]
          simp [nameByte, hn]
        · rw [if_pos (by simpa using hn)]
          have : (0 : Int) ≤ (pos : Int) := by omega
          simp [nameByte, hn, this]
      · have h2 := decode_high s pos hb
        have hz : ∀ r : Nat, 128 ≤ r → namedN r = false := by
          intro r hr; unfold namedN; simp; omega
        rw [if_pos (by simp [hz _ h2])]
        have h3 : nameByte (s.get! pos) = false := hz _ (by omega)
        have : (0 : Int) ≤ (pos : Int) := by omega
        simp [h3, this]
    · have : s.data.toList.drop pos = [] := List.drop_eq_nil_of_le (by rw [Array.length_toList]; show s.size ≤ pos; omega)
      rw [if_neg hp, this]; rfl
theorem contains_eq (s : ByteArray) : decide (0 ≤ Lib.idxFunc (fun r => !namedN r) true s) = !s.data.toList.all nameByte := by
  have := idx_from s s.size 0 (by omega)
  rw [List.drop_zero] at this; exact this
end Go.Proofs.YtgnmjaacnmkgnaaDoor.Own
end
