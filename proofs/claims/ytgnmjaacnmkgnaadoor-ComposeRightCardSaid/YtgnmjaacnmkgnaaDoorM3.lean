/- Words and walks that the row of ComposeRight needs: printed by programs, and plain laws. -/
import Derived.Test.YtgnmjaacnmkgnaaDoorM2
import Derived.Maps.OwnOps
import Derived.Maps.OwnSet
import Derived.Maps.Views
namespace Go.Proofs.YtgnmjaacnmkgnaaDoorW.PrintWords
end Go.Proofs.YtgnmjaacnmkgnaaDoorW.PrintWords
namespace Go.Proofs.YtgnmjaacnmkgnaaDoorW.PrintLast
end Go.Proofs.YtgnmjaacnmkgnaaDoorW.PrintLast
namespace Go.Proofs.YtgnmjaacnmkgnaaDoorW.PrintMore
end Go.Proofs.YtgnmjaacnmkgnaaDoorW.PrintMore
section
namespace Go.Proofs.YtgnmjaacnmkgnaaDoor.X
open Go.RowKit Go.Shelf Go.Proofs Go.Maps
set_option linter.unusedVariables false
set_option linter.unusedSimpArgs false
namespace Dc
structure Nd where
  kind : Int
  tag : ByteArray
  text : ByteArray
  kids : List Int
instance : Inhabited Nd := ⟨⟨0, ⟨#[]⟩, ⟨#[]⟩, []⟩⟩
abbrev NV := Nd × Value
instance : Inhabited NV := ⟨(default, .slice none 0 0)⟩
def encP (x : NV) : List Value := [.int .i64 x.1.kind, .string x.1.tag, .string x.1.text, x.2]
theorem encP_len (x : NV) : (encP x).length = 4 := rfl
abbrev cells (l : List NV) : List Value := l.flatMap encP
theorem cells_at (l : List NV) (j : Nat) (h : j < l.length) : ((cells l).drop (j * 4)).take 4 = [.int .i64 (l.getD j default).1.kind, .string (l.getD j default).1.tag, .string (l.getD j default).1.text, (l.getD j default).2] := Rwt.at_ encP_len l j h
theorem cell_kind (l : List NV) (j : Nat) (h : j < l.length) : (cells l)[j * 4 + 0]? = some (.int .i64 (l.getD j default).1.kind) := Rwt.cell encP_len h (by decide) rfl
theorem cell_tag (l : List NV) (j : Nat) (h : j < l.length) : (cells l)[j * 4 + 1]? = some (.string (l.getD j default).1.tag) := Rwt.cell encP_len h (by decide) rfl
theorem cell_text (l : List NV) (j : Nat) (h : j < l.length) : (cells l)[j * 4 + 2]? = some (.string (l.getD j default).1.text) := Rwt.cell encP_len h (by decide) rfl
theorem cell_kids (l : List NV) (j : Nat) (h : j < l.length) : (cells l)[j * 4 + 3]? = some (l.getD j default).2 := Rwt.cell encP_len h (by decide) rfl
def ints (l : List Int) : List Value := l.map (.int .i64)
theorem ints_len (l : List Int) : (ints l).length = l.length := List.length_map _
theorem ints_get (l : List Int) (j : Nat) (h : j < l.length) : (ints l)[j]? = some (.int .i64 (l.getD j 0)) := by
  unfold ints; rw [List.getElem?_map, List.getD_eq_getElem?_getD, List.getElem?_eq_getElem h]; rfl
theorem ints_snoc (l : List Int) (x : Int) : ints (l ++ [x]) = ints l ++ [.int .i64 x] := by unfold ints; simp
def Apart (u v : Value) : Prop := ∀ b, some b = u.ownBlock → some b ≠ v.ownBlock
def find (names : List (List UInt8 × Int)) (s : List UInt8) : Option Int := (names.find? (fun p => p.1 == s)).map (·.2)
def Told (D : DataW Unit) (names : List (List UInt8 × Int)) : Prop := IsMap D ∧ ∀ s, has D (.string s) = (find names s).isSome ∧ ∀ c, find names s = some c → D.atKey (.string s) (.lit (.int .i64 0)) = .lit (.int .i64 c)
theorem told_nil : Told (.map []) [] := ⟨isMap_empty, fun s => ⟨rfl, fun c h => by cases h⟩⟩
theorem find_cons (names : List (List UInt8 × Int)) (s t : List UInt8) (c : Int) : find ((s, c) :: names) t = if s = t then some c else find names t := by
  unfold find
  rw [List.find?_cons]
  by_cases h : s = t
  · rw [if_pos h]; simp [h]
  · have hb : (s == t) = false := by simpa using h
    rw [if_neg h]; simp only [hb]
theorem told_put {D : DataW Unit} {names : List (List UInt8 × Int)} (h : Told D names) (s : List UInt8) (c : Int) : Told (D.put (.string s) (.lit (.int .i64 c))) ((s, c) :: names) := by
  refine ⟨h.1.put _ _, fun t => ?_⟩
  rw [find_cons]
  by_cases hst : s = t
  · subst hst
    rw [if_pos rfl]
    refine ⟨has_put_same h.1 (show WideAt.IsKeyLit (.string _) from trivial) _, fun d hd => ?_⟩
    injection hd with hd; subst hd
    exact atKey_put_same h.1 (show WideAt.IsKeyLit (.string _) from trivial) _ _
  · rw [if_neg hst]
    have hne : Lit.string t ≠ Lit.string s := fun e => hst (by injection e with e; exact e.symm)
    refine ⟨(has_put_other hne _).trans (h.2 t).1, fun d hd => ?_⟩
    rw [atKey_put_other hne]; exact (h.2 t).2 d hd
def MapRep (B : Nat) (w : World) (mb : Nat) (names : List (List UInt8 × Int)) : Prop := B ≤ mb ∧ ∃ n D, w.ownsMap Tryd.prog 9 (plainElem Tryd.prog 3) mb n D ∧ n ≤ names.length ∧ Told D names
theorem MapRep.lt {B : Nat} {w : World} {mb : Nat} {names : List (List UInt8 × Int)} (h : MapRep B w mb names) : mb < w.heap.size := by
  obtain ⟨_, n, D, h1, _⟩ := h; exact h1.lt
theorem MapRep.map {B : Nat} {w : World} {mb : Nat} {names : List (List UInt8 × Int)} (h : MapRep B w mb names) : ∃ es c, w.heap[mb]? = some (.map es c) := by
  obtain ⟨_, n, D, ⟨es, c, h1, _⟩, _⟩ := h; exact ⟨es, c, h1⟩
theorem MapRep.kept {B : Nat} {w w' : World} {mb : Nat} {names : List (List UInt8 × Int)} (h : MapRep B w mb names) (hk : w'.heap[mb]? = w.heap[mb]?) : MapRep B w' mb names := by
  obtain ⟨h0, n, D, ⟨es, c, h1, r⟩, h2⟩ := h
  exact ⟨h0, n, D, ⟨es, c, hk.trans h1, r⟩, h2⟩
structure Rep (B : Nat) (w : World) (h : List NV) (opn : List Int) (names : List (List UInt8 × Int)) (gv ov : Value) (mb : Nat) : Prop where
  gr : w.ownsRow B 57 4 gv h.length (cells h)
  op : w.ownsRow B 3 1 ov opn.length (ints opn)
  ks : ∀ i, i < h.length → w.ownsRow B 3 1 (h.getD i default).2 (h.getD i default).1.kids.length (ints (h.getD i default).1.kids)
  ap : ∀ i j, i < h.length → j < h.length → i ≠ j → Apart (h.getD i default).2 (h.getD j default).2
  ao : ∀ i, i < h.length → Apart (h.getD i default).2 ov
  mp : MapRep B w mb names
def Blk (h : List NV) (gv ov : Value) (mb : Nat) (b : Nat) : Prop := some b = gv.ownBlock ∨ some b = ov.ownBlock ∨ (∃ i, i < h.length ∧ some b = (h.getD i default).2.ownBlock) ∨ b = mb
section
variable {B : Nat} {w w' : World} {h : List NV} {opn : List Int} {names : List (List UInt8 × Int)} {gv ov : Value} {mb : Nat}
theorem Rep.lt (R : Rep B w h opn names gv ov mb) {b : Nat} (hb : Blk h gv ov mb b) : B ≤ b ∧ b < w.heap.size := by
  rcases hb with e | e | ⟨i, hi, e⟩ | rfl
  · have := Eng.ownB R.gr e; exact ⟨this.1, this.2.1⟩
  · have := Eng.ownB R.op e; exact ⟨this.1, this.2.1⟩
  · have := Eng.ownB (R.ks i hi) e; exact ⟨this.1, this.2.1⟩
  · exact ⟨R.mp.1, R.mp.lt⟩
theorem Rep.ne (R : Rep B w h opn names gv ov mb) {g : Nat} {T : TypeId} {cs : Array Value} (hk : w.heap[g]? = some (.cells cs T (0, 0))) (h1 : (57 != T) = true) (h2 : (3 != T) = true) : ¬ Blk h gv ov mb g := by
  rintro (e | e | ⟨i, hi, e⟩ | rfl)
  · exact Eng.own_ne R.gr hk h1 e
  · exact Eng.own_ne R.op hk h2 e
  · exact Eng.own_ne (R.ks i hi) hk h2 e
  · obtain ⟨es, c, hm⟩ := R.mp.map; rw [hk] at hm; cases hm
theorem Rep.keep (R : Rep B w h opn names gv ov mb) (hk : ∀ b, Blk h gv ov mb b → w'.heap[b]? = w.heap[b]?) : Rep B w' h opn names gv ov mb := by
  have own : ∀ {e size n v xs}, w.ownsRow B e size v n xs → (∀ b, some b = v.ownBlock → Blk h gv ov mb b) → w'.ownsRow B e size v n xs := by
    intro e size n v xs O hS
    refine ⟨O.1, ?_⟩
    rcases O.2 with h2 | ⟨g, cap, cur, rfl, hg, hh, r⟩
    · exact .inl h2
    · exact .inr ⟨g, cap, cur, rfl, hg, (hk g (hS g rfl)).trans hh, r⟩
  exact ⟨own R.gr fun b e => .inl e, own R.op fun b e => .inr (.inl e), fun i hi => own (R.ks i hi) fun b e => .inr (.inr (.inl ⟨i, hi, e⟩)), R.ap, R.ao, R.mp.kept (hk mb (.inr (.inr (.inr rfl))))⟩
theorem Rep.below (R : Rep B w h opn names gv ov mb) (hb : Below w.heap.size w w') : Rep B w' h opn names gv ov mb := R.keep fun b e => hb.block b (R.lt e).2
theorem Rep.aft {S : Nat → Prop} (R : Rep B w h opn names gv ov mb) (A : Eng.Aft S w w') (hS : ∀ b, S b → ¬ Blk h gv ov mb b) : Rep B w' h opn names gv ov mb := R.keep fun b e => A.far b (R.lt e).2 fun s => hS b s e
theorem Rep.sets {g : Nat} {o : Obj} (R : Rep B w h opn names gv ov mb) (S : Eng.Sets w w' g o) (hg : ¬ Blk h gv ov mb g) : Rep B w' h opn names gv ov mb := R.keep fun b e => S.far b fun e' => hg (e' ▸ e)
theorem kept_own {e e' : TypeId} {size n size' n' : Nat} {v v' : Value} {xs xs' : List Value} {B' : Nat} (O : w.ownsRow B e size v n xs) (G : w.grownBy w' v'.ownBlock) (ha : Apart v v') : w'.ownsRow B e size v n xs := by
  refine O.kept G ?_
  cases hq : v.ownBlock with
  | none => exact .inl rfl
  | some b => exact .inr (ha b hq.symm)
theorem apart_ty {e e' : TypeId} {size n size' n' : Nat} {v v' : Value} {xs xs' : List Value} {B' : Nat} (O : w.ownsRow B e size v n xs) (O' : w.ownsRow B' e' size' v' n' xs') (hne : (e != e') = true) : Apart v v' := fun b hb => Eng.own_apart_ty O O' hne hb
theorem apart_map {e : TypeId} {size n : Nat} {v : Value} {xs : List Value} (O : w.ownsRow B e size v n xs) (M : MapRep B w mb names) : some mb ≠ v.ownBlock := by
  intro e'
  obtain ⟨_, _, cs, h1⟩ := Eng.ownB O e'
  obtain ⟨es, c, h2⟩ := M.map
  rw [h1] at h2; cases h2
theorem map_grown {e : TypeId} {size n : Nat} {v : Value} {xs : List Value} (O : w.ownsRow B e size v n xs) (M : MapRep B w mb names) (G : w.grownBy w' v.ownBlock) : MapRep B w' mb names := M.kept (G.block mb M.lt (apart_map O M))
theorem apart_new {v v' u : Value} (hn : v'.ownBlock = v.ownBlock ∨ v'.ownBlock = some w.heap.size) (ha : Apart u v) (hu : ∀ b, some b = u.ownBlock → b < w.heap.size) : Apart u v' := by
  intro b hb he
  rcases hn with h1 | h1
  · exact ha b hb (he.trans h1)
  · rw [h1] at he; injection he with he; have := hu b hb; omega
theorem Apart.symm {u v : Value} (ha : Apart u v) : Apart v u := fun b h1 h2 => ha b h2 h1
theorem apart_nil (u : Value) (c : Nat) : Apart (.slice none 0 c) u := fun b h => by cases h
end
structure Dc where
  nodes : List Nd
  opn : List Int
  names : List (List UInt8 × Int)
def odd (nodes : List Nd) (o : Nat) (at_ : Nat) : Bool := ((nodes.getD o default).kind == 2 && Int.tmod ((nodes.getD o default).kids.length : Int) 2 == 0) && !((nodes.getD at_ default).kind == 0)
def addKid (nodes : List Nd) (o : Nat) (at_ : Nat) : List Nd := nodes.set o { nodes.getD o default with kids := (nodes.getD o default).kids ++ [(at_ : Int)] }
def kidF (d : Dc) (at_ : Nat) : Dc × Int :=
  match d.opn.getLast? with
  | none => (d, 0)
  | some o => if odd d.nodes o.toNat at_ = true then (d, 5) else ({ d with nodes := addKid d.nodes o.toNat at_ }, 0)
end Dc
end Go.Proofs.YtgnmjaacnmkgnaaDoor.X
end
section
namespace Go.Proofs.YtgnmjaacnmkgnaaDoor.X
open Go.RowKit Go.Shelf Go.Proofs Go.Maps Go.WideMaps
set_option linter.unusedVariables false
set_option linter.unusedSimpArgs false
namespace Dc
variable {B : Nat} {w w' w'' W0 : World} {h : List NV} {opn : List Int} {names : List (List UInt8 × Int)} {gv ov v' : Value} {mb : Nat}
theorem getD_snoc_lt (x : NV) {i : Nat} (hi : i < h.length) : (h ++ [x]).getD i default = h.getD i default := by
  rw [List.getD_eq_getElem?_getD, List.getD_eq_getElem?_getD, List.getElem?_append_left hi]
theorem getD_snoc_last (x : NV) : (h ++ [x]).getD h.length default = x := by
  rw [List.getD_eq_getElem?_getD, List.getElem?_append_right (Nat.le_refl _), Nat.sub_self]; rfl
theorem lt_snoc {x : NV} {i : Nat} (hi : i < (h ++ [x]).length) : i < h.length ∨ i = h.length := by
  rw [List.length_append] at hi; simp only [List.length_cons, List.length_nil] at hi; omega
theorem Rep.snoc (R : Rep B w h opn names gv ov mb) (n : Nd) (hn : n.kids = []) (O : w'.ownsRow B 57 4 v' (h.length + 1) (cells h ++ encP (n, .slice none 0 0))) (G : w.grownBy w' gv.ownBlock) (E : v'.ownBlock = gv.ownBlock ∨ v'.ownBlock = some w.heap.size) : Rep B w' (h ++ [(n, .slice none 0 0)]) opn names v' ov mb := by
  have hks : ∀ i, i < (h ++ [(n, Value.slice none 0 0)]).length → w'.ownsRow B 3 1 ((h ++ [(n, Value.slice none 0 0)]).getD i default).2 ((h ++ [(n, Value.slice none 0 0)]).getD i default).1.kids.length (ints ((h ++ [(n, Value.slice none 0 0)]).getD i default).1.kids) := by
    intro i hi
    rcases lt_snoc hi with hi | rfl
    · rw [getD_snoc_lt _ hi]; exact kept_own (e' := 57) (size' := 4) (B' := B) (n' := 0) (xs' := []) (R.ks i hi) G (apart_ty (R.ks i hi) R.gr rfl)
    · rw [getD_snoc_last]; show w'.ownsRow B 3 1 (.slice none 0 0) n.kids.length (ints n.kids); rw [hn]; exact World.ownsRow_nil _ _ _ _
  refine ⟨by rw [List.length_append]; show w'.ownsRow B 57 4 v' _ (List.flatMap encP (h ++ [_])); rw [List.flatMap_append]; simpa using O, kept_own (e' := 57) (size' := 4) (B' := B) (n' := 0) (xs' := []) R.op G (apart_ty R.op R.gr rfl), hks, fun i j hi hj hne => ?_, fun i hi => ?_, map_grown R.gr R.mp G⟩
  · rcases lt_snoc hi with hi | rfl
    · rcases lt_snoc hj with hj | rfl
      · rw [getD_snoc_lt _ hi, getD_snoc_lt _ hj]; exact R.ap i j hi hj hne
      · rw [getD_snoc_last]; exact (apart_nil _ 0).symm
    · rw [getD_snoc_last]; exact apart_nil _ 0
  · rcases lt_snoc hi with hi | rfl
    · rw [getD_snoc_lt _ hi]; exact R.ao i hi
    · rw [getD_snoc_last]; exact apart_nil _ 0
theorem Rep.push (R : Rep B w h opn names gv ov mb) (x : Int) (O : w'.ownsRow B 3 1 v' (opn.length + 1) (ints opn ++ [.int .i64 x])) (G : w.grownBy w' ov.ownBlock) (E : v'.ownBlock = ov.ownBlock ∨ v'.ownBlock = some w.heap.size) : Rep B w' h (opn ++ [x]) names gv v' mb := by
  refine ⟨kept_own (e' := 57) (size' := 4) (B' := B) (n' := 0) (xs' := []) R.gr G (apart_ty R.gr R.op rfl), by rw [List.length_append, ints_snoc]; exact O, fun i hi => kept_own (e' := 57) (size' := 4) (B' := B) (n' := 0) (xs' := []) (R.ks i hi) G (R.ao i hi), R.ap, fun i hi => apart_new E (R.ao i hi) (fun b e => (Eng.ownB (R.ks i hi) e).2.1), map_grown R.op R.mp G⟩
theorem Rep.pop {pre : List Int} {x : Int} (R : Rep B w h (pre ++ [x]) names gv ov mb) : Rep B w h pre names gv (Eng.cutVal ov 0 pre.length 1) mb := by
  have hb : ∀ b, some b = (Eng.cutVal ov 0 pre.length 1).ownBlock → some b = ov.ownBlock := by
    intro b hb
    rcases R.op.2 with ⟨rfl, _⟩ | ⟨g, cap, cur, rfl, hg, hh, _⟩
    · unfold Eng.cutVal at hb; simp only at hb; split at hb <;> simp [Value.ownBlock] at hb
    · unfold Eng.cutVal at hb
      simp only at hb
      split at hb
      · simp [Value.ownBlock, Addr.add] at hb ⊢; exact hb
      · simp [Value.ownBlock, Addr.add] at hb ⊢; exact hb
  refine ⟨R.gr, ?_, R.ks, R.ap, fun i hi b h1 h2 => R.ao i hi b h1 (hb b h2), R.mp⟩
  have hO := R.op
  rw [List.length_append] at hO
  have := Eng.own_pop (n := pre.length) hO
  rw [ints_snoc, Nat.mul_one, ← ints_len pre, List.take_left, ints_len] at this
  exact this
def setKid (h : List NV) (j : Nat) (v' : Value) (x : Int) : List NV := h.set j ({ (h.getD j default).1 with kids := (h.getD j default).1.kids ++ [x] }, v')
theorem setKid_len (j : Nat) (x : Int) : (setKid h j v' x).length = h.length := List.length_set
theorem setKid_j {j : Nat} (hj : j < h.length) (x : Int) : (setKid h j v' x).getD j default = ({ (h.getD j default).1 with kids := (h.getD j default).1.kids ++ [x] }, v') := by
  unfold setKid; rw [List.getD_eq_getElem?_getD, List.getElem?_set_self hj]; rfl
theorem setKid_i {j i : Nat} (hne : i ≠ j) (x : Int) : (setKid h j v' x).getD i default = h.getD i default := by
  unfold setKid; rw [List.getD_eq_getElem?_getD, List.getElem?_set_ne (Ne.symm hne), ← List.getD_eq_getElem?_getD]
theorem map_getD (i : Nat) : (h.map (·.1)).getD i default = (h.getD i default).1 := by
  rw [List.getD_eq_getElem?_getD, List.getElem?_map, List.getD_eq_getElem?_getD]
  cases h[i]? <;> rfl
theorem setKid_map (j : Nat) (x : Nat) : (setKid h j v' x).map (·.1) = addKid (h.map (·.1)) j x := by
  unfold setKid addKid; rw [List.map_set, map_getD]
theorem cells_setKid {j : Nat} (hj : j < h.length) (x : Int) : (cells h).set (j * 4 + 3) v' = cells (setKid h j v' x) := by
  unfold setKid
  generalize hx : (h.getD j default) = y
  have hy : h[j]? = some y := by rw [List.getD_eq_getElem?_getD, List.getElem?_eq_getElem hj] at hx; rw [List.getElem?_eq_getElem hj]; exact congrArg some hx
  clear hx
  induction h generalizing j with
  | nil => cases hj
  | cons z t ih =>
    cases j with
    | zero =>
      simp at hy; subst hy
      show (encP z ++ cells t).set 3 v' = encP _ ++ cells t
      rw [List.set_append_left _ _ (by rw [encP_len]; omega)]; rfl
    | succ j =>
      have := ih (j := j) (by simpa using hj) (by simpa using hy)
      show (encP z ++ cells t).set ((j + 1) * 4 + 3) v' = encP z ++ cells (t.set j _)
      rw [List.set_append_right _ _ (by rw [encP_len]; omega), encP_len, ← this]
      congr 2; omega
structure Mid (B : Nat) (w : World) (h : List NV) (opn : List Int) (names : List (List UInt8 × Int)) (gv ov : Value) (mb : Nat) (j : Nat) (v' : Value) (x : Int) : Prop where
  hj : j < h.length
  gr : w.ownsRow B 57 4 gv h.length (cells h)
  op : w.ownsRow B 3 1 ov opn.length (ints opn)
  ks : ∀ i, i < h.length → i ≠ j → w.ownsRow B 3 1 (h.getD i default).2 (h.getD i default).1.kids.length (ints (h.getD i default).1.kids)
  kj : w.ownsRow B 3 1 v' ((h.getD j default).1.kids.length + 1) (ints (h.getD j default).1.kids ++ [.int .i64 x])
  ap : ∀ i j, i < h.length → j < h.length → i ≠ j → Apart (h.getD i default).2 (h.getD j default).2
  aj : ∀ i, i < h.length → i ≠ j → Apart (h.getD i default).2 v'
  ao : ∀ i, i < h.length → Apart (h.getD i default).2 ov
  av : Apart v' ov
  mp : MapRep B w mb names
theorem Rep.kid (R : Rep B w h opn names gv ov mb) {j : Nat} (hj : j < h.length) (x : Int) (O : w'.ownsRow B 3 1 v' ((h.getD j default).1.kids.length + 1) (ints (h.getD j default).1.kids ++ [.int .i64 x])) (G : w.grownBy w' (h.getD j default).2.ownBlock) (E : v'.ownBlock = (h.getD j default).2.ownBlock ∨ v'.ownBlock = some w.heap.size) : Mid B w' h opn names gv ov mb j v' x :=
  ⟨hj, kept_own (e' := 57) (size' := 4) (B' := B) (n' := 0) (xs' := []) R.gr G (apart_ty R.gr (R.ks j hj) rfl), kept_own (e' := 57) (size' := 4) (B' := B) (n' := 0) (xs' := []) R.op G (R.ao j hj).symm,
   fun i hi hne => kept_own (e' := 57) (size' := 4) (B' := B) (n' := 0) (xs' := []) (R.ks i hi) G (R.ap i j hi hj hne), O, R.ap, fun i hi hne => apart_new E (R.ap i j hi hj hne) (fun b e => (Eng.ownB (R.ks i hi) e).2.1), R.ao,
   (apart_new E (R.ao j hj).symm (fun b e => (Eng.ownB R.op e).2.1)).symm, map_grown (R.ks j hj) R.mp G⟩
theorem Mid.done {j : Nat} {x : Int} (M : Mid B w h opn names gv ov mb j v' x) (O : w'.ownsRow B 57 4 gv h.length ((cells h).set (j * 4 + 3) v')) (G : w.grownBy w' gv.ownBlock) : Rep B w' (setKid h j v' x) opn names gv ov mb := by
  refine ⟨by rw [setKid_len, ← cells_setKid M.hj]; exact O, kept_own (e' := 57) (size' := 4) (B' := B) (n' := 0) (xs' := []) M.op G (apart_ty M.op M.gr rfl), fun i hi => ?_, fun a b ha hb hne => ?_, fun i hi => ?_, map_grown M.gr M.mp G⟩
  · rw [setKid_len] at hi
    by_cases hij : i = j
    · subst hij; rw [setKid_j M.hj]
      have := kept_own (e' := 57) (size' := 4) (B' := B) (n' := 0) (xs' := []) M.kj G (apart_ty M.kj M.gr rfl)
      show w'.ownsRow B 3 1 v' (_ ++ [x]).length (ints (_ ++ [x]))
      rw [List.length_append, ints_snoc]; exact this
    · rw [setKid_i hij]; exact kept_own (e' := 57) (size' := 4) (B' := B) (n' := 0) (xs' := []) (M.ks i hi hij) G (apart_ty (M.ks i hi hij) M.gr rfl)
  · rw [setKid_len] at ha hb
    by_cases h1 : a = j
    · subst h1; rw [setKid_j M.hj, setKid_i (Ne.symm hne)]; exact (M.aj b hb (Ne.symm hne)).symm
    · by_cases h2 : b = j
      · subst h2; rw [setKid_j M.hj, setKid_i h1]; exact M.aj a ha h1
      · rw [setKid_i h1, setKid_i h2]; exact M.ap a b ha hb hne
  · rw [setKid_len] at hi
    by_cases h1 : i = j
    · subst h1; rw [setKid_j M.hj]; exact M.av
    · rw [setKid_i h1]; exact M.ao i hi
structure St (B : Nat) (W0 w : World) (dg : Nat) (blk0 : Nat → Prop) (h : List NV) (opn : List Int) (names : List (List UInt8 × Int)) (gv ov : Value) (mb : Nat) : Prop where
  R : Rep B w h opn names gv ov mb
  A : Eng.Aft (fun b => b = dg ∨ blk0 b) W0 w
  N : ∀ b, Blk h gv ov mb b → blk0 b ∨ W0.heap.size ≤ b
variable {dg : Nat} {blk0 : Nat → Prop}
theorem St.start (R : Rep B w h opn names gv ov mb) : St B w w dg (Blk h gv ov mb) h opn names gv ov mb := ⟨R, Eng.Aft.refl _ _, fun b hb => .inl hb⟩
theorem St.below (X : St B W0 w dg blk0 h opn names gv ov mb) (hb : Below w.heap.size w w') : St B W0 w' dg blk0 h opn names gv ov mb := ⟨X.R.below hb, X.A.step hb, X.N⟩
theorem St.grownA {v : Value} {S : Nat → Prop} (X : St B W0 w dg blk0 h opn names gv ov mb) (G : w.grownBy w' v.ownBlock) (hv : ∀ b, some b = v.ownBlock → Blk h gv ov mb b) : Eng.Aft (fun b => b = dg ∨ blk0 b) W0 w' :=
  X.A.grown G fun b e hlt => (X.N b (hv b e)).elim .inr fun h => absurd hlt (by omega)
theorem St.setd {cs : Array Value} {o : Obj} (X : St B W0 w dg blk0 h opn names gv ov mb) (S : Eng.Sets w w' dg o) (hk : w.heap[dg]? = some (.cells cs 64 (0, 0))) : St B W0 w' dg blk0 h opn names gv ov mb := ⟨X.R.sets S (X.R.ne hk rfl rfl), X.A.sets S fun _ => .inl rfl, X.N⟩
theorem St.setx {g : Nat} {o : Obj} (X : St B W0 w dg blk0 h opn names gv ov mb) (S : Eng.Sets w w' g o) (hn : ¬ Blk h gv ov mb g) (hg : W0.heap.size ≤ g) : St B W0 w' dg blk0 h opn names gv ov mb := ⟨X.R.sets S hn, X.A.sets S fun hlt => absurd hlt (by omega), X.N⟩
theorem St.snoc (X : St B W0 w dg blk0 h opn names gv ov mb) (n : Nd) (hn : n.kids = []) (O : w'.ownsRow B 57 4 v' (h.length + 1) (cells h ++ encP (n, .slice none 0 0))) (G : w.grownBy w' gv.ownBlock) (E : v'.ownBlock = gv.ownBlock ∨ v'.ownBlock = some w.heap.size) : St B W0 w' dg blk0 (h ++ [(n, .slice none 0 0)]) opn names v' ov mb := by
  refine ⟨X.R.snoc n hn O G E, X.grownA (S := blk0) G fun b e => .inl e, fun b hb => ?_⟩
  have hs := X.A.size
  rcases hb with e | e | ⟨i, hi, e⟩ | e
  · rcases E with h1 | h1
    · exact X.N b (.inl (e.trans h1))
    · rw [h1] at e; injection e with e; exact .inr (by omega)
  · exact X.N b (.inr (.inl e))
  · rcases lt_snoc hi with hi | rfl
    · rw [getD_snoc_lt _ hi] at e; exact X.N b (.inr (.inr (.inl ⟨i, hi, e⟩)))
    · rw [getD_snoc_last] at e; cases e
  · exact X.N b (.inr (.inr (.inr e)))
theorem St.push (X : St B W0 w dg blk0 h opn names gv ov mb) (x : Int) (O : w'.ownsRow B 3 1 v' (opn.length + 1) (ints opn ++ [.int .i64 x])) (G : w.grownBy w' ov.ownBlock) (E : v'.ownBlock = ov.ownBlock ∨ v'.ownBlock = some w.heap.size) : St B W0 w' dg blk0 h (opn ++ [x]) names gv v' mb := by
  refine ⟨X.R.push x O G E, X.grownA (S := blk0) G fun b e => .inr (.inl e), fun b hb => ?_⟩
  have hs := X.A.size
  rcases hb with e | e | ⟨i, hi, e⟩ | e
  · exact X.N b (.inl e)
  · rcases E with h1 | h1
    · exact X.N b (.inr (.inl (e.trans h1)))
    · rw [h1] at e; injection e with e; exact .inr (by omega)
  · exact X.N b (.inr (.inr (.inl ⟨i, hi, e⟩)))
  · exact X.N b (.inr (.inr (.inr e)))
theorem St.pop {pre : List Int} {x : Int} (X : St B W0 w dg blk0 h (pre ++ [x]) names gv ov mb) : St B W0 w dg blk0 h pre names gv (Eng.cutVal ov 0 pre.length 1) mb := by
  refine ⟨X.R.pop, X.A, fun b hb => ?_⟩
  rcases hb with e | e | e | e
  · exact X.N b (.inl e)
  · have : some b = ov.ownBlock := by
      rcases X.R.op.2 with ⟨rfl, _⟩ | ⟨g, cap, cur, rfl, hg, hh, _⟩
      · unfold Eng.cutVal at e; simp only at e; split at e <;> simp [Value.ownBlock] at e
      · unfold Eng.cutVal at e
        simp only at e
        split at e
        · simp [Value.ownBlock, Addr.add] at e ⊢; exact e
        · simp [Value.ownBlock, Addr.add] at e ⊢; exact e
    exact X.N b (.inr (.inl this))
  · exact X.N b (.inr (.inr (.inl e)))
  · exact X.N b (.inr (.inr (.inr e)))
structure Sm (B : Nat) (W0 w : World) (dg : Nat) (blk0 : Nat → Prop) (h : List NV) (opn : List Int) (names : List (List UInt8 × Int)) (gv ov : Value) (mb : Nat) (j : Nat) (v' : Value) (x : Int) : Prop where
  M : Mid B w h opn names gv ov mb j v' x
  A : Eng.Aft (fun b => b = dg ∨ blk0 b) W0 w
  N : ∀ b, Blk h gv ov mb b → blk0 b ∨ W0.heap.size ≤ b
  V : ∀ b, some b = v'.ownBlock → blk0 b ∨ W0.heap.size ≤ b
theorem St.kid (X : St B W0 w dg blk0 h opn names gv ov mb) {j : Nat} (hj : j < h.length) (x : Int) (O : w'.ownsRow B 3 1 v' ((h.getD j default).1.kids.length + 1) (ints (h.getD j default).1.kids ++ [.int .i64 x])) (G : w.grownBy w' (h.getD j default).2.ownBlock) (E : v'.ownBlock = (h.getD j default).2.ownBlock ∨ v'.ownBlock = some w.heap.size) : Sm B W0 w' dg blk0 h opn names gv ov mb j v' x := by
  refine ⟨X.R.kid hj x O G E, X.grownA (S := blk0) G fun b e => .inr (.inr (.inl ⟨j, hj, e⟩)), X.N, fun b e => ?_⟩
  have hs := X.A.size
  rcases E with h1 | h1
  · exact X.N b (.inr (.inr (.inl ⟨j, hj, e.trans h1⟩)))
  · rw [h1] at e; injection e with e; exact .inr (by omega)
theorem Sm.done {j : Nat} {x : Int} (M : Sm B W0 w dg blk0 h opn names gv ov mb j v' x) (O : w'.ownsRow B 57 4 gv h.length ((cells h).set (j * 4 + 3) v')) (G : w.grownBy w' gv.ownBlock) : St B W0 w' dg blk0 (setKid h j v' x) opn names gv ov mb := by
  refine ⟨M.M.done O G, M.A.grown G fun b e hlt => (M.N b (.inl e)).elim .inr fun h => absurd hlt (by omega), fun b hb => ?_⟩
  rcases hb with e | e | ⟨i, hi, e⟩ | e
  · exact M.N b (.inl e)
  · exact M.N b (.inr (.inl e))
  · rw [setKid_len] at hi
    by_cases h1 : i = j
    · subst h1; rw [setKid_j M.M.hj] at e; exact M.V b e
    · rw [setKid_i h1] at e; exact M.N b (.inr (.inr (.inl ⟨i, hi, e⟩)))
  · exact M.N b (.inr (.inr (.inr e)))
theorem St.call {h' : List NV} {opn' : List Int} {names' : List (List UInt8 × Int)} {gv' ov' : Value} {mb' : Nat} (X : St B W0 w dg blk0 h opn names gv ov mb) (Y : St B w w' dg (Blk h gv ov mb) h' opn' names' gv' ov' mb') : St B W0 w' dg blk0 h' opn' names' gv' ov' mb' := by
  have hs := X.A.size
  refine ⟨Y.R, X.A.trans Y.A fun b hb e => ?_, fun b hb => ?_⟩
  · rcases e with e | e
    · exact .inl e
    · exact (X.N b e).elim .inr fun h => absurd hb (by omega)
  · rcases Y.N b hb with e | e
    · exact X.N b e
    · exact .inr (by omega)
theorem key_law : Keyed Tryd.prog 9 := string_keyed Tryd.underlying9
theorem zero3 (w : World) : (zeroValue 3).run Tryd.prog w = .ok (.int .i64 0) w := by kernel_rfl
theorem run_put {a : Act} {o : Oper} {m x v : Operand} {s : ByteArray} {c : Int} (X : St B W0 w dg blk0 h opn names gv ov mb) (hop : o.op = .mapUpdate 46 m x v) (hm : a.eval m = .map (some mb)) (hx : a.eval x = .string s) (hv : a.eval v = .int .i64 c) (hs : s.size ≤ maxLen) (hc : (Lit.int .i64 c).wf = true) (hn : names.length < maxLen) :
    ∃ w1, (execOp a.eval o).run Tryd.prog w = .ok .skip w1 ∧ St B W0 w1 dg blk0 h opn ((s.data.toList, c) :: names) gv ov mb ∧ w.grownBy w1 (some mb) := by
  obtain ⟨hB, n, D, hown, hle, hT⟩ := X.R.mp
  obtain ⟨w1, hr, h1, hg⟩ := hown.update key_law Tryd.underlying46 (by omega) (keyOf_string_mk Tryd.underlying9 hs) (plainElem_int Tryd.underlying3 hc)
  refine ⟨w1, ?_, ?_, hg⟩
  · unfold execOp; rw [hop]; simp only [hm, hx, hv]; go_simp
  · have own : ∀ {e size n v xs}, w.ownsRow B e size v n xs → w1.ownsRow B e size v n xs := fun {e size n v xs} O => O.kept hg (by
      cases hq : v.ownBlock with
      | none => exact .inl rfl
      | some b => exact .inr fun e => (apart_map O X.R.mp) (e.symm.trans hq.symm))
    refine ⟨⟨own X.R.gr, own X.R.op, fun i hi => own (X.R.ks i hi), X.R.ap, X.R.ao, hB, n + 1, _, h1, by simp only [List.length_cons]; omega, told_put hT _ _⟩, ?_, X.N⟩
    refine X.A.trans (S' := fun b => b = mb) ⟨hg.os, hg.tape, hg.output, hg.size, fun b hb hne => hg.block b hb fun e => hne (by injection e)⟩ fun b hb e => ?_
    subst e
    exact (X.N b (.inr (.inr (.inr rfl)))).elim .inr fun h => absurd hb (by omega)
end Dc
end Go.Proofs.YtgnmjaacnmkgnaaDoor.X
end
section
namespace Go.Proofs.Eng
open Go Go.RowKit
set_option linter.unusedSimpArgs false
set_option linter.unusedVariables false
def edgeL : List Oper → Nat → Nat → List Oper
  | [], _, _ => []
  | o :: os, 0, j => { o with after := o.after.push ⟨j, .data⟩ } :: os
  | o :: os, i + 1, j => o :: edgeL os i j
def edge (ops : Array Oper) (i j : Nat) : Array Oper := (edgeL ops.toList i j).toArray
theorem edgeL_len : ∀ (l : List Oper) (i j : Nat), (edgeL l i j).length = l.length
  | [], _, _ => rfl
  | o :: os, 0, j => rfl
  | o :: os, i + 1, j => congrArg (· + 1) (edgeL_len os i j)
theorem edgeL_get : ∀ (l : List Oper) (i j k : Nat), (edgeL l i j)[k]? = (l[k]?).map fun o => if k = i then { o with after := o.after.push ⟨j, .data⟩ } else o
  | [], _, _, _ => by simp [edgeL]
  | o :: os, 0, j, 0 => by simp [edgeL]
  | o :: os, 0, j, k + 1 => by simp [edgeL]
  | o :: os, i + 1, j, 0 => by simp [edgeL]
  | o :: os, i + 1, j, k + 1 => by simp [edgeL, edgeL_get os i j k]
variable {P : Program} {ops : Array Oper} {Q : Exit → Act → World → Prop}
theorem edge_size (i j : Nat) : (edge ops i j).size = ops.size := by unfold edge; simp [edgeL_len]
theorem edge_get (i j k : Nat) : (edge ops i j)[k]? = (ops[k]?).map fun o => if k = i then { o with after := o.after.push ⟨j, .data⟩ } else o := by
  unfold edge; rw [List.getElem?_toArray, edgeL_get, Array.getElem?_toList]
theorem edge_yielded (i j : Nat) (tmps : Array Value) : yielded (edge ops i j) tmps = yielded ops tmps := by
  funext k
  unfold yielded
  rw [edge_get]
  cases h : ops[k]? with
  | none => rfl
  | some o => by_cases hk : k = i <;> simp only [Option.map_some, Option.bind_some, hk, if_true, if_false]
theorem edge_wpOp (i j k : Nat) (K : Act → World → Prop) (a : Act) (w : World) : wpOp P (edge ops i j) Q k K a w ↔ wpOp P ops Q k K a w := by
  unfold wpOp
  rw [edge_get, edge_yielded]
  cases h : ops[k]? with
  | none => exact Iff.rfl
  | some o =>
    by_cases hk : k = i
    · simp only [Option.map_some, if_pos hk]; exact Iff.rfl
    · simp only [Option.map_some, if_neg hk]
theorem edge_ready {i j : Nat} {L : Array Bool} (hj : L.getD j false = true) : Region.ready .any (edge ops i j) L = Region.ready .any ops L := by
  unfold Region.ready
  rw [edge_size]
  refine List.filter_congr fun k _ => ?_
  rw [edge_get]
  cases h : ops[k]? with
  | none => rfl
  | some o =>
    simp only [Option.map_some, Option.getD_some]
    by_cases hk : k = i
    · rw [if_pos hk]
      show (_ && (o.after.push ⟨j, .data⟩).all _) = _
      rw [Array.all_push]
      simp only [hj, Bool.or_true, Bool.and_true]
    · rw [if_neg hk]
theorem edge_any {i j : Nat} : ∀ (fuel : Nat) (L : Array Bool) (a : Act) (w : World), L.getD j false = true → wpAny P .any (edge ops i j) Q fuel L a w → wpAny P .any ops Q fuel L a w
  | 0, L, a, w, hj, h => ⟨by rw [← edge_ready (i := i) hj]; exact h.1, h.2⟩
  | fuel + 1, L, a, w, hj, h => by
    refine ⟨fun hr => h.1 (by rw [edge_ready hj]; exact hr), fun k hk => ?_⟩
    have h1 := h.2 k (by rw [edge_ready hj]; exact hk)
    rw [edge_wpOp] at h1
    refine wpOp_mono (fun a' w' h2 => edge_any fuel _ a' w' ?_ h2) h1
    by_cases hkj : j = k
    · subst hkj
      rcases Nat.lt_or_ge j L.size with hl | hl
      · simp [Array.getD_eq_getD_getElem?, Array.getElem?_setIfInBounds, hl]
      · rw [Array.getD_eq_getD_getElem?, Array.getElem?_eq_none hl] at hj; cases hj
    · rw [Array.getD_eq_getD_getElem?, Array.getElem?_setIfInBounds_ne (Ne.symm hkj), ← Array.getD_eq_getD_getElem?]; exact hj
theorem edge_take {i j n : Nat} {oj : Oper} {x : Operand} {a : Act} {w : World} (hn : ops.size = n + 1) (hj : ops[j]? = some oj) (hs : Region.noSelect ops = true) (hf : Region.free .any ops (Array.replicate ops.size false) j = true) (hr : (Region.ready .any ops (Array.replicate ops.size false)).contains j = true)
    (hr' : (Region.ready .any (edge ops i j) (Array.replicate ops.size false)).contains j = true) (hg : oj.guard = none) (hop : oj.op = .move x)
    (hQ : ∀ c a v w, Q (.panic c) (a.put oj.dst v) w → Q (.panic c) a w)
    (h : wpAny P .any (edge ops i j) Q ops.size (Array.replicate ops.size false) a w) : wpAny P .any ops Q ops.size (Array.replicate ops.size false) a w := by
  have hlt : j < ops.size := (Array.getElem?_eq_some_iff.1 hj).1
  have hwant : Region.wanted oj (yielded ops a.tmps) = true := by unfold Region.wanted; rw [hg]
  have hc : ∀ w, (execOp (Act.eval a) oj).run P w = .ok (.value (a.eval x)) w := fun w => run_move hop rfl
  have hord : ¬ (oj.asks P a w) := by
    rintro ⟨h1, _⟩
    unfold execOp at h1
    rw [hop] at h1
    have e : Sem.events P (pure (Next.value (a.eval x))) w #[] = #[] := rfl
    have h2 : noRoomEvent ∈ Sem.events P (pure (Next.value (a.eval x))) w #[] := h1
    rw [e] at h2; simp at h2
  rw [hn] at h hf hr hr' hlt ⊢
  have h1 := h.2 j (by simpa using hr')
  rw [edge_wpOp] at h1
  refine wpAny_take hj hs hf hr (fun c a w => hQ c a _ w) (.inl ⟨hwant, hc⟩) ?_
  refine edge_any (i := i) n _ _ _ (by rw [getD_set (by simp only [Array.size_replicate]; exact hlt), if_pos rfl]) ?_
  unfold wpOp at h1
  rw [hj] at h1
  simp only [hwant, if_true] at h1
  rcases h1 with h1 | ⟨h1, _⟩
  · unfold Oper.wp at h1
    rw [hc w] at h1
    exact h1
  · exact absurd h1 hord
theorem edge_wpOps (i j : Nat) : ∀ l : List Nat, wpOps P (edge ops i j) Q l = wpOps P ops Q l
  | [] => rfl
  | k :: l => by
    funext a w
    rw [wpOps_cons, wpOps_cons, edge_wpOps i j l]
    exact propext (edge_wpOp i j k _ a w)
theorem regionDE {a : Act} {w : World} {id : Nat} (i j : Nat) {oj : Oper} {x : Operand} (D : Nat → Value → World → Prop) (k : Nat → Kind) (m c n : Nat) (hm : P.follows .mixedOrders = true) (hn : a.tmps.size = n) (hc : ops.size = m + c) (hs : shape (edge ops i j) m n = true)
    (hp : decide (0 < ops.size) = true) (hj : ops[j]? = some oj) (hop : oj.op = .move x) (hg : oj.guard = none) (hsel : Region.noSelect ops = true) (hf : Region.free .any ops (Array.replicate ops.size false) j = true) (hr : (Region.ready .any ops (Array.replicate ops.size false)).contains j = true) (hr' : (Region.ready .any (edge ops i j) (Array.replicate ops.size false)).contains j = true)
    (hQ : ∀ c a v w, Q (.panic c) (a.put oj.dst v) w → Q (.panic c) a w)
    (stable : ∀ i v w w', D i v w → Below w.heap.size w w' → D i v w') (hst2 : (∀ i j cs, k i ≠ .store j cs) ∨ ∀ i v w w', D i v w → D i v w')
    (hS : Steps P (edge ops i j) Q D k a w m 0 (edge ops i j).toList) (hE : ∀ a' w', Then (edge ops i j) m D k a w a' w' → wpOps P ops Q (List.range' m c) a' w') : (Code.region id ops true).wp P Q a w := by
  subst hn
  have hp := of_decide_eq_true hp
  obtain ⟨n', hn'⟩ : ∃ n', ops.size = n' + 1 := ⟨ops.size - 1, by omega⟩
  refine wp_region_any hm (edge_take (i := i) hn' hj hsel hf hr hr' hg hop hQ ?_)
  have hb : Below w.heap.size w { w with drawn := w.drawn + 1 } := ⟨rfl, rfl, rfl, Nat.le_refl _, fun _ _ => rfl⟩
  have hle : m ≤ (edge ops i j).size := by rw [edge_size]; omega
  have hcs : (edge ops i j).size - m = c := by rw [edge_size, hc, Nat.add_sub_cancel_left]
  have hE' : ∀ a' w', Below w.heap.size w w' → a'.defers = a.defers → a'.tmps.size = a.tmps.size → (∀ l d, l < m → dstOf (edge ops i j) l = some d → D l (a'.tmps.getD d undef) w') →
      (∀ t, (∀ l, l < m → dstOf (edge ops i j) l ≠ some t) → a'.tmps.getD t undef = a.tmps.getD t undef) → Made (edge ops i j) k m w a' w' → wpOps P (edge ops i j) Q (List.range' m ((edge ops i j).size - m)) a' w' := by
    intro a' w' h1 h2 h3 h4 h5 h6
    rw [hcs, edge_wpOps]
    exact hE a' w' ⟨h1, h2, h3, fun j d hj => h4 j d (of_decide_eq_true hj), fun t ht => h5 t (notdst ht), h6⟩
  have key := wp_free (k := k) hs hle stable hst2 hS hE' ops.size (Array.replicate ops.size false) a { w with drawn := w.drawn + 1 } ?_ (by simp [edge_size]) ⟨by simp [edge_size], fun i o _ h => ?_⟩ (fun k _ => ?_) ⟨hb, rfl, rfl, fun j d h => ?_, fun t _ => rfl, fun j d T c h => ?_, fun j j' d d' T c T' c' g h => ?_⟩
  · exact key
  · have : cnt (Array.replicate ops.size false) m = m := by
      unfold cnt
      have : ∀ k ∈ List.range m, (!(Array.replicate ops.size false).getD k false) = true := by
        intro k _
        simp [Array.getD_eq_getD_getElem?, Array.getElem?_replicate]
        split <;> rfl
      rw [List.filter_eq_self.2 this, List.length_range]
    rw [this, hcs]; omega
  all_goals
    first
    | (simp [Array.getD_eq_getD_getElem?, Array.getElem?_replicate] at h; split at h <;> simp at h)
    | (simp [Array.getD_eq_getD_getElem?, Array.getElem?_replicate]; split <;> rfl)
end Go.Proofs.Eng
namespace Go.Proofs.Eng
open Go Go.RowKit
theorem join {P : Program} {c : Code} {K : Act → World → Prop} {Q : Exit → Act → World → Prop} {a : Act} {w : World} (J : Act → World → Prop) (h : c.wp P (Exit.then J Q) a w) (hk : ∀ a w, J a w → K a w) : c.wp P (Exit.then K Q) a w :=
  Code.wp_mono (fun e a w hq => by
    cases e with
    | normal => exact hk a w hq
    | _ => exact hq) h
end Go.Proofs.Eng
end
section
namespace Go.Proofs.YtgnmjaacnmkgnaaDoor.X
open Go.RowKit Go.Shelf Go.Proofs
set_option linter.unusedVariables false
set_option linter.unusedSimpArgs false
namespace Dc
theorem ints_one (l : List Int) : ∀ u ∈ ints l, u.oneCell' = true := by
  intro u hu
  obtain ⟨x, _, rfl⟩ := List.mem_map.1 hu
  rfl
theorem ints_get1 (l : List Int) (j : Nat) (h : j < l.length) : (ints l)[j * 1]? = some (.int .i64 (l.getD j 0)) := by
  rw [Nat.mul_one]; exact ints_get l j h
end Dc
end Go.Proofs.YtgnmjaacnmkgnaaDoor.X
end
section
namespace Go.Proofs.Eng
open Go Go.RowKit
variable {P : Program} {ops : Array Oper} {Q : Exit → Act → World → Prop} {D : Nat → Value → World → Prop} {k : Nat → Kind} {a0 a : Act} {w0 w : World} {m i : Nat} {o : Oper}
theorem Steps.c {os : List Oper} (h : Duty P ops Q D k a0 w0 i o) (hs : Steps P ops Q D k a0 w0 m (i + 1) os) : Steps P ops Q D k a0 w0 m i (o :: os) := .cons (fun _ => h) hs
theorem At.d (H : At ops D a0 w0 i o a w) (j d : Nat) (hb : bound o j = true := by kernel_rfl) (hd : dstOf ops j = some d := by rfl) : D j (a.eval (.tmp d)) w := H.dep j d hb hd
theorem At.q (H : At ops D a0 w0 i o a w) (t : Nat) {v : Value} (h : a0.eval (.tmp t) = v) (hk : old ops i t = true := by kernel_rfl) : a.eval (.tmp t) = v := (H.kept t hk).trans h
theorem pv (h : ∀ (a : Act) (w : World), At ops D a0 w0 i o a w → o.wp P a w (fun a' w' => ∃ v, a' = a.put o.dst v ∧ (o.dst ≠ none → D i v w') ∧ Below w.heap.size w w') Q) (hk : k i = .plain := by rfl) (hg : o.guard = none := by rfl) : Duty P ops Q D k a0 w0 i o := plain hk hg h
end Go.Proofs.Eng
end
section
set_option linter.unusedVariables false
namespace Go.Proofs.Eng
open Go Go.RowKit
section
variable {P : Program} {ops : Array Oper} {Q : Exit → Act → World → Prop} {D : Nat → Value → World → Prop} {k : Nat → Kind} {a0 a : Act} {w0 w : World} {m i : Nat} {o : Oper}
def stv (L : List Value) : Nat → Value → World → Prop := still (L.map fun v u => u = v)
theorem rS {id n : Nat} (L : List Value) (k : Nat → Kind) (m c : Nat) (hn : a.tmps.size = n) (hS : Steps P ops Q (stv L) k a w m 0 ops.toList) (hE : ∀ a' w', Then ops m (stv L) k a w a' w' → wpOps P ops Q (List.range' m c) a' w') (hc : ops.size = m + c := by rfl) (hs : shape ops m n = true := by kernel_rfl) : (Code.region id ops false).wp P Q a w :=
  regionS (stv L) k m c n hn hc hs (still_stable _) (Or.inr (still_any _)) hS hE
theorem rD {id n : Nat} (L : List Value) (k : Nat → Kind) (m c : Nat) (hn : a.tmps.size = n) (hS : Steps P ops Q (stv L) k a w m 0 ops.toList) (hE : ∀ a' w', Then ops m (stv L) k a w a' w' → wpOps P ops Q (List.range' m c) a' w') (hm : P.follows .mixedOrders = true := by kernel_rfl) (hc : ops.size = m + c := by rfl) (hs : shape ops m n = true := by kernel_rfl) : (Code.region id ops true).wp P Q a w :=
  regionD (stv L) k m c n hm hn hc hs (still_stable _) (Or.inr (still_any _)) hS hE
theorem Then.r1 (T : Then ops m D k a0 w0 a w) {t0 : Nat} {v0 : Value} (h0 : a0.eval (.tmp t0) = v0) (k0 : (List.range m).all (fun j => dstOf ops j != some t0) = true := by kernel_rfl) : a.eval (.tmp t0) = v0 := (T.rest t0 k0).trans h0
theorem k1 {d : Nat} (hr : ∀ t, (t != d) = true → a.eval (.tmp t) = a0.eval (.tmp t)) {t0 : Nat} {v0 : Value} (h0 : a0.eval (.tmp t0) = v0) (e0 : (t0 != d) = true := by rfl) : a.eval (.tmp t0) = v0 := (hr t0 e0).trans h0
theorem Then.r2 (T : Then ops m D k a0 w0 a w) {t0 t1 : Nat} {v0 v1 : Value} (h0 : a0.eval (.tmp t0) = v0) (h1 : a0.eval (.tmp t1) = v1) (k0 : (List.range m).all (fun j => dstOf ops j != some t0) = true := by kernel_rfl) (k1 : (List.range m).all (fun j => dstOf ops j != some t1) = true := by kernel_rfl) : a.eval (.tmp t0) = v0 ∧ a.eval (.tmp t1) = v1 := ⟨(T.rest t0 k0).trans h0, (T.rest t1 k1).trans h1⟩
theorem k2 {d : Nat} (hr : ∀ t, (t != d) = true → a.eval (.tmp t) = a0.eval (.tmp t)) {t0 t1 : Nat} {v0 v1 : Value} (h0 : a0.eval (.tmp t0) = v0) (h1 : a0.eval (.tmp t1) = v1) (e0 : (t0 != d) = true := by rfl) (e1 : (t1 != d) = true := by rfl) : a.eval (.tmp t0) = v0 ∧ a.eval (.tmp t1) = v1 := ⟨(hr t0 e0).trans h0, (hr t1 e1).trans h1⟩
theorem Then.r3 (T : Then ops m D k a0 w0 a w) {t0 t1 t2 : Nat} {v0 v1 v2 : Value} (h0 : a0.eval (.tmp t0) = v0) (h1 : a0.eval (.tmp t1) = v1) (h2 : a0.eval (.tmp t2) = v2) (k0 : (List.range m).all (fun j => dstOf ops j != some t0) = true := by kernel_rfl) (k1 : (List.range m).all (fun j => dstOf ops j != some t1) = true := by kernel_rfl) (k2 : (List.range m).all (fun j => dstOf ops j != some t2) = true := by kernel_rfl) : a.eval (.tmp t0) = v0 ∧ a.eval (.tmp t1) = v1 ∧ a.eval (.tmp t2) = v2 := ⟨(T.rest t0 k0).trans h0, (T.rest t1 k1).trans h1, (T.rest t2 k2).trans h2⟩
theorem k3 {d : Nat} (hr : ∀ t, (t != d) = true → a.eval (.tmp t) = a0.eval (.tmp t)) {t0 t1 t2 : Nat} {v0 v1 v2 : Value} (h0 : a0.eval (.tmp t0) = v0) (h1 : a0.eval (.tmp t1) = v1) (h2 : a0.eval (.tmp t2) = v2) (e0 : (t0 != d) = true := by rfl) (e1 : (t1 != d) = true := by rfl) (e2 : (t2 != d) = true := by rfl) : a.eval (.tmp t0) = v0 ∧ a.eval (.tmp t1) = v1 ∧ a.eval (.tmp t2) = v2 := ⟨(hr t0 e0).trans h0, (hr t1 e1).trans h1, (hr t2 e2).trans h2⟩
theorem Then.r4 (T : Then ops m D k a0 w0 a w) {t0 t1 t2 t3 : Nat} {v0 v1 v2 v3 : Value} (h0 : a0.eval (.tmp t0) = v0) (h1 : a0.eval (.tmp t1) = v1) (h2 : a0.eval (.tmp t2) = v2) (h3 : a0.eval (.tmp t3) = v3) (k0 : (List.range m).all (fun j => dstOf ops j != some t0) = true := by kernel_rfl) (k1 : (List.range m).all (fun j => dstOf ops j != some t1) = true := by kernel_rfl) (k2 : (List.range m).all (fun j => dstOf ops j != some t2) = true := by kernel_rfl) (k3 : (List.range m).all (fun j => dstOf ops j != some t3) = true := by kernel_rfl) : a.eval (.tmp t0) = v0 ∧ a.eval (.tmp t1) = v1 ∧ a.eval (.tmp t2) = v2 ∧ a.eval (.tmp t3) = v3 := ⟨(T.rest t0 k0).trans h0, (T.rest t1 k1).trans h1, (T.rest t2 k2).trans h2, (T.rest t3 k3).trans h3⟩
theorem k4 {d : Nat} (hr : ∀ t, (t != d) = true → a.eval (.tmp t) = a0.eval (.tmp t)) {t0 t1 t2 t3 : Nat} {v0 v1 v2 v3 : Value} (h0 : a0.eval (.tmp t0) = v0) (h1 : a0.eval (.tmp t1) = v1) (h2 : a0.eval (.tmp t2) = v2) (h3 : a0.eval (.tmp t3) = v3) (e0 : (t0 != d) = true := by rfl) (e1 : (t1 != d) = true := by rfl) (e2 : (t2 != d) = true := by rfl) (e3 : (t3 != d) = true := by rfl) : a.eval (.tmp t0) = v0 ∧ a.eval (.tmp t1) = v1 ∧ a.eval (.tmp t2) = v2 ∧ a.eval (.tmp t3) = v3 := ⟨(hr t0 e0).trans h0, (hr t1 e1).trans h1, (hr t2 e2).trans h2, (hr t3 e3).trans h3⟩
theorem Then.r5 (T : Then ops m D k a0 w0 a w) {t0 t1 t2 t3 t4 : Nat} {v0 v1 v2 v3 v4 : Value} (h0 : a0.eval (.tmp t0) = v0) (h1 : a0.eval (.tmp t1) = v1) (h2 : a0.eval (.tmp t2) = v2) (h3 : a0.eval (.tmp t3) = v3) (h4 : a0.eval (.tmp t4) = v4) (k0 : (List.range m).all (fun j => dstOf ops j != some t0) = true := by kernel_rfl) (k1 : (List.range m).all (fun j => dstOf ops j != some t1) = true := by kernel_rfl) (k2 : (List.range m).all (fun j => dstOf ops j != some t2) = true := by kernel_rfl) (k3 : (List.range m).all (fun j => dstOf ops j != some t3) = true := by kernel_rfl) (k4 : (List.range m).all (fun j => dstOf ops j != some t4) = true := by kernel_rfl) : a.eval (.tmp t0) = v0 ∧ a.eval (.tmp t1) = v1 ∧ a.eval (.tmp t2) = v2 ∧ a.eval (.tmp t3) = v3 ∧ a.eval (.tmp t4) = v4 := ⟨(T.rest t0 k0).trans h0, (T.rest t1 k1).trans h1, (T.rest t2 k2).trans h2, (T.rest t3 k3).trans h3, (T.rest t4 k4).trans h4⟩
theorem k5 {d : Nat} (hr : ∀ t, (t != d) = true → a.eval (.tmp t) = a0.eval (.tmp t)) {t0 t1 t2 t3 t4 : Nat} {v0 v1 v2 v3 v4 : Value} (h0 : a0.eval (.tmp t0) = v0) (h1 : a0.eval (.tmp t1) = v1) (h2 : a0.eval (.tmp t2) = v2) (h3 : a0.eval (.tmp t3) = v3) (h4 : a0.eval (.tmp t4) = v4) (e0 : (t0 != d) = true := by rfl) (e1 : (t1 != d) = true := by rfl) (e2 : (t2 != d) = true := by rfl) (e3 : (t3 != d) = true := by rfl) (e4 : (t4 != d) = true := by rfl) : a.eval (.tmp t0) = v0 ∧ a.eval (.tmp t1) = v1 ∧ a.eval (.tmp t2) = v2 ∧ a.eval (.tmp t3) = v3 ∧ a.eval (.tmp t4) = v4 := ⟨(hr t0 e0).trans h0, (hr t1 e1).trans h1, (hr t2 e2).trans h2, (hr t3 e3).trans h3, (hr t4 e4).trans h4⟩
theorem Then.r6 (T : Then ops m D k a0 w0 a w) {t0 t1 t2 t3 t4 t5 : Nat} {v0 v1 v2 v3 v4 v5 : Value} (h0 : a0.eval (.tmp t0) = v0) (h1 : a0.eval (.tmp t1) = v1) (h2 : a0.eval (.tmp t2) = v2) (h3 : a0.eval (.tmp t3) = v3) (h4 : a0.eval (.tmp t4) = v4) (h5 : a0.eval (.tmp t5) = v5) (k0 : (List.range m).all (fun j => dstOf ops j != some t0) = true := by kernel_rfl) (k1 : (List.range m).all (fun j => dstOf ops j != some t1) = true := by kernel_rfl) (k2 : (List.range m).all (fun j => dstOf ops j != some t2) = true := by kernel_rfl) (k3 : (List.range m).all (fun j => dstOf ops j != some t3) = true := by kernel_rfl) (k4 : (List.range m).all (fun j => dstOf ops j != some t4) = true := by kernel_rfl) (k5 : (List.range m).all (fun j => dstOf ops j != some t5) = true := by kernel_rfl) : a.eval (.tmp t0) = v0 ∧ a.eval (.tmp t1) = v1 ∧ a.eval (.tmp t2) = v2 ∧ a.eval (.tmp t3) = v3 ∧ a.eval (.tmp t4) = v4 ∧ a.eval (.tmp t5) = v5 := ⟨(T.rest t0 k0).trans h0, (T.rest t1 k1).trans h1, (T.rest t2 k2).trans h2, (T.rest t3 k3).trans h3, (T.rest t4 k4).trans h4, (T.rest t5 k5).trans h5⟩
theorem k6 {d : Nat} (hr : ∀ t, (t != d) = true → a.eval (.tmp t) = a0.eval (.tmp t)) {t0 t1 t2 t3 t4 t5 : Nat} {v0 v1 v2 v3 v4 v5 : Value} (h0 : a0.eval (.tmp t0) = v0) (h1 : a0.eval (.tmp t1) = v1) (h2 : a0.eval (.tmp t2) = v2) (h3 : a0.eval (.tmp t3) = v3) (h4 : a0.eval (.tmp t4) = v4) (h5 : a0.eval (.tmp t5) = v5) (e0 : (t0 != d) = true := by rfl) (e1 : (t1 != d) = true := by rfl) (e2 : (t2 != d) = true := by rfl) (e3 : (t3 != d) = true := by rfl) (e4 : (t4 != d) = true := by rfl) (e5 : (t5 != d) = true := by rfl) : a.eval (.tmp t0) = v0 ∧ a.eval (.tmp t1) = v1 ∧ a.eval (.tmp t2) = v2 ∧ a.eval (.tmp t3) = v3 ∧ a.eval (.tmp t4) = v4 ∧ a.eval (.tmp t5) = v5 := ⟨(hr t0 e0).trans h0, (hr t1 e1).trans h1, (hr t2 e2).trans h2, (hr t3 e3).trans h3, (hr t4 e4).trans h4, (hr t5 e5).trans h5⟩
theorem Then.r7 (T : Then ops m D k a0 w0 a w) {t0 t1 t2 t3 t4 t5 t6 : Nat} {v0 v1 v2 v3 v4 v5 v6 : Value} (h0 : a0.eval (.tmp t0) = v0) (h1 : a0.eval (.tmp t1) = v1) (h2 : a0.eval (.tmp t2) = v2) (h3 : a0.eval (.tmp t3) = v3) (h4 : a0.eval (.tmp t4) = v4) (h5 : a0.eval (.tmp t5) = v5) (h6 : a0.eval (.tmp t6) = v6) (k0 : (List.range m).all (fun j => dstOf ops j != some t0) = true := by kernel_rfl) (k1 : (List.range m).all (fun j => dstOf ops j != some t1) = true := by kernel_rfl) (k2 : (List.range m).all (fun j => dstOf ops j != some t2) = true := by kernel_rfl) (k3 : (List.range m).all (fun j => dstOf ops j != some t3) = true := by kernel_rfl) (k4 : (List.range m).all (fun j => dstOf ops j != some t4) = true := by kernel_rfl) (k5 : (List.range m).all (fun j => dstOf ops j != some t5) = true := by kernel_rfl) (k6 : (List.range m).all (fun j => dstOf ops j != some t6) = true := by kernel_rfl) : a.eval (.tmp t0) = v0 ∧ a.eval (.tmp t1) = v1 ∧ a.eval (.tmp t2) = v2 ∧ a.eval (.tmp t3) = v3 ∧ a.eval (.tmp t4) = v4 ∧ a.eval (.tmp t5) = v5 ∧ a.eval (.tmp t6) = v6 := ⟨(T.rest t0 k0).trans h0, (T.rest t1 k1).trans h1, (T.rest t2 k2).trans h2, (T.rest t3 k3).trans h3, (T.rest t4 k4).trans h4, (T.rest t5 k5).trans h5, (T.rest t6 k6).trans h6⟩
theorem k7 {d : Nat} (hr : ∀ t, (t != d) = true → a.eval (.tmp t) = a0.eval (.tmp t)) {t0 t1 t2 t3 t4 t5 t6 : Nat} {v0 v1 v2 v3 v4 v5 v6 : Value} (h0 : a0.eval (.tmp t0) = v0) (h1 : a0.eval (.tmp t1) = v1) (h2 : a0.eval (.tmp t2) = v2) (h3 : a0.eval (.tmp t3) = v3) (h4 : a0.eval (.tmp t4) = v4) (h5 : a0.eval (.tmp t5) = v5) (h6 : a0.eval (.tmp t6) = v6) (e0 : (t0 != d) = true := by rfl) (e1 : (t1 != d) = true := by rfl) (e2 : (t2 != d) = true := by rfl) (e3 : (t3 != d) = true := by rfl) (e4 : (t4 != d) = true := by rfl) (e5 : (t5 != d) = true := by rfl) (e6 : (t6 != d) = true := by rfl) : a.eval (.tmp t0) = v0 ∧ a.eval (.tmp t1) = v1 ∧ a.eval (.tmp t2) = v2 ∧ a.eval (.tmp t3) = v3 ∧ a.eval (.tmp t4) = v4 ∧ a.eval (.tmp t5) = v5 ∧ a.eval (.tmp t6) = v6 := ⟨(hr t0 e0).trans h0, (hr t1 e1).trans h1, (hr t2 e2).trans h2, (hr t3 e3).trans h3, (hr t4 e4).trans h4, (hr t5 e5).trans h5, (hr t6 e6).trans h6⟩
theorem Then.r8 (T : Then ops m D k a0 w0 a w) {t0 t1 t2 t3 t4 t5 t6 t7 : Nat} {v0 v1 v2 v3 v4 v5 v6 v7 : Value} (h0 : a0.eval (.tmp t0) = v0) (h1 : a0.eval (.tmp t1) = v1) (h2 : a0.eval (.tmp t2) = v2) (h3 : a0.eval (.tmp t3) = v3) (h4 : a0.eval (.tmp t4) = v4) (h5 : a0.eval (.tmp t5) = v5) (h6 : a0.eval (.tmp t6) = v6) (h7 : a0.eval (.tmp t7) = v7) (k0 : (List.range m).all (fun j => dstOf ops j != some t0) = true := by kernel_rfl) (k1 : (List.range m).all (fun j => dstOf ops j != some t1) = true := by kernel_rfl) (k2 : (List.range m).all (fun j => dstOf ops j != some t2) = true := by kernel_rfl) (k3 : (List.range m).all (fun j => dstOf ops j != some t3) = true := by kernel_rfl) (k4 : (List.range m).all (fun j => dstOf ops j != some t4) = true := by kernel_rfl) (k5 : (List.range m).all (fun j => dstOf ops j != some t5) = true := by kernel_rfl) (k6 : (List.range m).all (fun j => dstOf ops j != some t6) = true := by kernel_rfl) (k7 : (List.range m).all (fun j => dstOf ops j != some t7) = true := by kernel_rfl) : a.eval (.tmp t0) = v0 ∧ a.eval (.tmp t1) = v1 ∧ a.eval (.tmp t2) = v2 ∧ a.eval (.tmp t3) = v3 ∧ a.eval (.tmp t4) = v4 ∧ a.eval (.tmp t5) = v5 ∧ a.eval (.tmp t6) = v6 ∧ a.eval (.tmp t7) = v7 := ⟨(T.rest t0 k0).trans h0, (T.rest t1 k1).trans h1, (T.rest t2 k2).trans h2, (T.rest t3 k3).trans h3, (T.rest t4 k4).trans h4, (T.rest t5 k5).trans h5, (T.rest t6 k6).trans h6, (T.rest t7 k7).trans h7⟩
theorem k8 {d : Nat} (hr : ∀ t, (t != d) = true → a.eval (.tmp t) = a0.eval (.tmp t)) {t0 t1 t2 t3 t4 t5 t6 t7 : Nat} {v0 v1 v2 v3 v4 v5 v6 v7 : Value} (h0 : a0.eval (.tmp t0) = v0) (h1 : a0.eval (.tmp t1) = v1) (h2 : a0.eval (.tmp t2) = v2) (h3 : a0.eval (.tmp t3) = v3) (h4 : a0.eval (.tmp t4) = v4) (h5 : a0.eval (.tmp t5) = v5) (h6 : a0.eval (.tmp t6) = v6) (h7 : a0.eval (.tmp t7) = v7) (e0 : (t0 != d) = true := by rfl) (e1 : (t1 != d) = true := by rfl) (e2 : (t2 != d) = true := by rfl) (e3 : (t3 != d) = true := by rfl) (e4 : (t4 != d) = true := by rfl) (e5 : (t5 != d) = true := by rfl) (e6 : (t6 != d) = true := by rfl) (e7 : (t7 != d) = true := by rfl) : a.eval (.tmp t0) = v0 ∧ a.eval (.tmp t1) = v1 ∧ a.eval (.tmp t2) = v2 ∧ a.eval (.tmp t3) = v3 ∧ a.eval (.tmp t4) = v4 ∧ a.eval (.tmp t5) = v5 ∧ a.eval (.tmp t6) = v6 ∧ a.eval (.tmp t7) = v7 := ⟨(hr t0 e0).trans h0, (hr t1 e1).trans h1, (hr t2 e2).trans h2, (hr t3 e3).trans h3, (hr t4 e4).trans h4, (hr t5 e5).trans h5, (hr t6 e6).trans h6, (hr t7 e7).trans h7⟩
theorem Then.r9 (T : Then ops m D k a0 w0 a w) {t0 t1 t2 t3 t4 t5 t6 t7 t8 : Nat} {v0 v1 v2 v3 v4 v5 v6 v7 v8 : Value} (h0 : a0.eval (.tmp t0) = v0) (h1 : a0.eval (.tmp t1) = v1) (h2 : a0.eval (.tmp t2) = v2) (h3 : a0.eval (.tmp t3) = v3) (h4 : a0.eval (.tmp t4) = v4) (h5 : a0.eval (.tmp t5) = v5) (h6 : a0.eval (.tmp t6) = v6) (h7 : a0.eval (.tmp t7) = v7) (h8 : a0.eval (.tmp t8) = v8) (k0 : (List.range m).all (fun j => dstOf ops j != some t0) = true := by kernel_rfl) (k1 : (List.range m).all (fun j => dstOf ops j != some t1) = true := by kernel_rfl) (k2 : (List.range m).all (fun j => dstOf ops j != some t2) = true := by kernel_rfl) (k3 : (List.range m).all (fun j => dstOf ops j != some t3) = true := by kernel_rfl) (k4 : (List.range m).all (fun j => dstOf ops j != some t4) = true := by kernel_rfl) (k5 : (List.range m).all (fun j => dstOf ops j != some t5) = true := by kernel_rfl) (k6 : (List.range m).all (fun j => dstOf ops j != some t6) = true := by kernel_rfl) (k7 : (List.range m).all (fun j => dstOf ops j != some t7) = true := by kernel_rfl) (k8 : (List.range m).all (fun j => dstOf ops j != some t8) = true := by kernel_rfl) : a.eval (.tmp t0) = v0 ∧ a.eval (.tmp t1) = v1 ∧ a.eval (.tmp t2) = v2 ∧ a.eval (.tmp t3) = v3 ∧ a.eval (.tmp t4) = v4 ∧ a.eval (.tmp t5) = v5 ∧ a.eval (.tmp t6) = v6 ∧ a.eval (.tmp t7) = v7 ∧ a.eval (.tmp t8) = v8 := ⟨(T.rest t0 k0).trans h0, (T.rest t1 k1).trans h1, (T.rest t2 k2).trans h2, (T.rest t3 k3).trans h3, (T.rest t4 k4).trans h4, (T.rest t5 k5).trans h5, (T.rest t6 k6).trans h6, (T.rest t7 k7).trans h7, (T.rest t8 k8).trans h8⟩
theorem k9 {d : Nat} (hr : ∀ t, (t != d) = true → a.eval (.tmp t) = a0.eval (.tmp t)) {t0 t1 t2 t3 t4 t5 t6 t7 t8 : Nat} {v0 v1 v2 v3 v4 v5 v6 v7 v8 : Value} (h0 : a0.eval (.tmp t0) = v0) (h1 : a0.eval (.tmp t1) = v1) (h2 : a0.eval (.tmp t2) = v2) (h3 : a0.eval (.tmp t3) = v3) (h4 : a0.eval (.tmp t4) = v4) (h5 : a0.eval (.tmp t5) = v5) (h6 : a0.eval (.tmp t6) = v6) (h7 : a0.eval (.tmp t7) = v7) (h8 : a0.eval (.tmp t8) = v8) (e0 : (t0 != d) = true := by rfl) (e1 : (t1 != d) = true := by rfl) (e2 : (t2 != d) = true := by rfl) (e3 : (t3 != d) = true := by rfl) (e4 : (t4 != d) = true := by rfl) (e5 : (t5 != d) = true := by rfl) (e6 : (t6 != d) = true := by rfl) (e7 : (t7 != d) = true := by rfl) (e8 : (t8 != d) = true := by rfl) : a.eval (.tmp t0) = v0 ∧ a.eval (.tmp t1) = v1 ∧ a.eval (.tmp t2) = v2 ∧ a.eval (.tmp t3) = v3 ∧ a.eval (.tmp t4) = v4 ∧ a.eval (.tmp t5) = v5 ∧ a.eval (.tmp t6) = v6 ∧ a.eval (.tmp t7) = v7 ∧ a.eval (.tmp t8) = v8 := ⟨(hr t0 e0).trans h0, (hr t1 e1).trans h1, (hr t2 e2).trans h2, (hr t3 e3).trans h3, (hr t4 e4).trans h4, (hr t5 e5).trans h5, (hr t6 e6).trans h6, (hr t7 e7).trans h7, (hr t8 e8).trans h8⟩
theorem Then.r10 (T : Then ops m D k a0 w0 a w) {t0 t1 t2 t3 t4 t5 t6 t7 t8 t9 : Nat} {v0 v1 v2 v3 v4 v5 v6 v7 v8 v9 : Value} (h0 : a0.eval (.tmp t0) = v0) (h1 : a0.eval (.tmp t1) = v1) (h2 : a0.eval (.tmp t2) = v2) (h3 : a0.eval (.tmp t3) = v3) (h4 : a0.eval (.tmp t4) = v4) (h5 : a0.eval (.tmp t5) = v5) (h6 : a0.eval (.tmp t6) = v6) (h7 : a0.eval (.tmp t7) = v7) (h8 : a0.eval (.tmp t8) = v8) (h9 : a0.eval (.tmp t9) = v9) (k0 : (List.range m).all (fun j => dstOf ops j != some t0) = true := by kernel_rfl) (k1 : (List.range m).all (fun j => dstOf ops j != some t1) = true := by kernel_rfl) (k2 : (List.range m).all (fun j => dstOf ops j != some t2) = true := by kernel_rfl) (k3 : (List.range m).all (fun j => dstOf ops j != some t3) = true := by kernel_rfl) (k4 : (List.range m).all (fun j => dstOf ops j != some t4) = true := by kernel_rfl) (k5 : (List.range m).all (fun j => dstOf ops j != some t5) = true := by kernel_rfl) (k6 : (List.range m).all (fun j => dstOf ops j != some t6) = true := by kernel_rfl) (k7 : (List.range m).all (fun j => dstOf ops j != some t7) = true := by kernel_rfl) (k8 : (List.range m).all (fun j => dstOf ops j != some t8) = true := by kernel_rfl) (k9 : (List.range m).all (fun j => dstOf ops j != some t9) = true := by kernel_rfl) : a.eval (.tmp t0) = v0 ∧ a.eval (.tmp t1) = v1 ∧ a.eval (.tmp t2) = v2 ∧ a.eval (.tmp t3) = v3 ∧ a.eval (.tmp t4) = v4 ∧ a.eval (.tmp t5) = v5 ∧ a.eval (.tmp t6) = v6 ∧ a.eval (.tmp t7) = v7 ∧ a.eval (.tmp t8) = v8 ∧ a.eval (.tmp t9) = v9 := ⟨(T.rest t0 k0).trans h0, (T.rest t1 k1).trans h1, (T.rest t2 k2).trans h2, (T.rest t3 k3).trans h3, (T.rest t4 k4).trans h4, (T.rest t5 k5).trans h5, (T.rest t6 k6).trans h6, (T.rest t7 k7).trans h7, (T.rest t8 k8).trans h8, (T.rest t9 k9).trans h9⟩
theorem k10 {d : Nat} (hr : ∀ t, (t != d) = true → a.eval (.tmp t) = a0.eval (.tmp t)) {t0 t1 t2 t3 t4 t5 t6 t7 t8 t9 : Nat} {v0 v1 v2 v3 v4 v5 v6 v7 v8 v9 : Value} (h0 : a0.eval (.tmp t0) = v0) (h1 : a0.eval (.tmp t1) = v1) (h2 : a0.eval (.tmp t2) = v2) (h3 : a0.eval (.tmp t3) = v3) (h4 : a0.eval (.tmp t4) = v4) (h5 : a0.eval (.tmp t5) = v5) (h6 : a0.eval (.tmp t6) = v6) (h7 : a0.eval (.tmp t7) = v7) (h8 : a0.eval (.tmp t8) = v8) (h9 : a0.eval (.tmp t9) = v9) (e0 : (t0 != d) = true := by rfl) (e1 : (t1 != d) = true := by rfl) (e2 : (t2 != d) = true := by rfl) (e3 : (t3 != d) = true := by rfl) (e4 : (t4 != d) = true := by rfl) (e5 : (t5 != d) = true := by rfl) (e6 : (t6 != d) = true := by rfl) (e7 : (t7 != d) = true := by rfl) (e8 : (t8 != d) = true := by rfl) (e9 : (t9 != d) = true := by rfl) : a.eval (.tmp t0) = v0 ∧ a.eval (.tmp t1) = v1 ∧ a.eval (.tmp t2) = v2 ∧ a.eval (.tmp t3) = v3 ∧ a.eval (.tmp t4) = v4 ∧ a.eval (.tmp t5) = v5 ∧ a.eval (.tmp t6) = v6 ∧ a.eval (.tmp t7) = v7 ∧ a.eval (.tmp t8) = v8 ∧ a.eval (.tmp t9) = v9 := ⟨(hr t0 e0).trans h0, (hr t1 e1).trans h1, (hr t2 e2).trans h2, (hr t3 e3).trans h3, (hr t4 e4).trans h4, (hr t5 e5).trans h5, (hr t6 e6).trans h6, (hr t7 e7).trans h7, (hr t8 e8).trans h8, (hr t9 e9).trans h9⟩
theorem Then.e (T : Then ops m D k a0 w0 a w) (h : a0.defers = []) : a.defers = [] := T.defers.trans h
theorem Then.z (T : Then ops m D k a0 w0 a w) {n : Nat} (h : a0.tmps.size = n) : a.tmps.size = n := T.size.trans h
theorem Then.b (T : Then ops m D k a0 w0 a w) {W : World} (h : Below W.heap.size W w0) : Below W.heap.size W w := h.trans (T.below.mono h.size)
theorem Then.x (T : Then ops m D k a0 w0 a w) {b : Nat} {c : Option Obj} (hl : b < w0.heap.size) (hk : w0.heap[b]? = c) : w.heap[b]? = c := (T.below.block _ hl).trans hk
theorem Then.l (T : Then ops m D k a0 w0 a w) {b : Nat} (hl : b < w0.heap.size) : b < w.heap.size := Nat.lt_of_lt_of_le hl T.below.size
theorem Then.f (T : Then ops m D k a0 w0 a w) {v : Value} {n size : Nat} {xs : List Value} (h : Reads w0 v n size xs) : Reads w v n size xs := h.below T.below
theorem Then.g (T : Then ops m D k a0 w0 a w) {B : Nat} {e : TypeId} {v : Value} {n size : Nat} {xs : List Value} (h : w0.ownsRow B e size v n xs) : w.ownsRow B e size v n xs := own_below h T.below
end
end Go.Proofs.Eng
namespace Go.Proofs.EngI
open Go Go.RowKit Go.Proofs.Eng
variable {P : Program} {ops : Array Oper} {Q : Exit → Act → World → Prop} {a : Act} {w : World} {i nn : Nat} {o : Oper}
theorem tv {c d n : Nat} {v : Value} {w1 : World} {os : List Oper} (ho' : ops.toList.drop i = o :: os) (hrun : (execOp a.eval o).run P w = .ok (.value v) w1) (hn : a.tmps.size = n)
    (h : ∀ a' : Act, a'.defers = a.defers → a'.tmps.size = n → a'.eval (.tmp d) = v → (∀ t, (t != d) = true → a'.eval (.tmp t) = a.eval (.tmp t)) → wpOpsIn Fence.wide nn P ops Q (List.range' (i + 1) c) a' w1) (hg : o.guard = none := by rfl) (hcalm : calm o = true := by rfl) (hd : o.dst = some d := by rfl) (hlt : decide (d < n) = true := by rfl) : wpOpsIn Fence.wide nn P ops Q (List.range' i (c + 1)) a w := tail_val free_wide ho' hg hcalm hd hrun hn hlt h
end Go.Proofs.EngI
end
section
set_option linter.unusedVariables false
namespace Go.Proofs.Eng
open Go Go.RowKit
theorem m1 {ρ : Operand → Value} {x0 : Operand} {v0 : Value} (h0 : ρ x0 = v0) : (#[x0] : Array Operand).map ρ = #[v0] := by simp only [List.map_toArray, List.map_cons, List.map_nil, h0]
theorem m2 {ρ : Operand → Value} {x0 x1 : Operand} {v0 v1 : Value} (h0 : ρ x0 = v0) (h1 : ρ x1 = v1) : (#[x0, x1] : Array Operand).map ρ = #[v0, v1] := by simp only [List.map_toArray, List.map_cons, List.map_nil, h0, h1]
theorem m3 {ρ : Operand → Value} {x0 x1 x2 : Operand} {v0 v1 v2 : Value} (h0 : ρ x0 = v0) (h1 : ρ x1 = v1) (h2 : ρ x2 = v2) : (#[x0, x1, x2] : Array Operand).map ρ = #[v0, v1, v2] := by simp only [List.map_toArray, List.map_cons, List.map_nil, h0, h1, h2]
theorem m4 {ρ : Operand → Value} {x0 x1 x2 x3 : Operand} {v0 v1 v2 v3 : Value} (h0 : ρ x0 = v0) (h1 : ρ x1 = v1) (h2 : ρ x2 = v2) (h3 : ρ x3 = v3) : (#[x0, x1, x2, x3] : Array Operand).map ρ = #[v0, v1, v2, v3] := by simp only [List.map_toArray, List.map_cons, List.map_nil, h0, h1, h2, h3]
end Go.Proofs.Eng
namespace Go.Proofs.EngI
open Go Go.RowKit Go.Proofs.Eng
variable {P : Program} {ops : Array Oper} {Q : Exit → Act → World → Prop} {a : Act} {w : World} {i nn : Nat} {o : Oper}
theorem tw {c d n : Nat} {v : Value} {w1 : World} {os : List Oper} (ho' : ops.toList.drop i = o :: os) (hrun : (execOp a.eval o).run P w = .ok (.value v) w1) (hn : a.tmps.size = n) (h0 : a.defers = [])
    (h : ∀ a' : Act, a'.defers = [] → a'.tmps.size = n → a'.eval (.tmp d) = v → (∀ t, (t != d) = true → a'.eval (.tmp t) = a.eval (.tmp t)) → wpOpsIn Fence.wide nn P ops Q (List.range' (i + 1) c) a' w1) (hg : o.guard = none := by rfl) (hcalm : calm o = true := by rfl) (hd : o.dst = some d := by rfl) (hlt : decide (d < n) = true := by rfl) : wpOpsIn Fence.wide nn P ops Q (List.range' i (c + 1)) a w := tail_val free_wide ho' hg hcalm hd hrun hn hlt fun a' e => h a' (e.trans h0)
end Go.Proofs.EngI
end
section
set_option linter.unusedVariables false
namespace Go.Proofs.Eng
open Go Go.RowKit
variable {P : Program} {ops : Array Oper} {Q : Exit → Act → World → Prop} {D : Nat → Value → World → Prop} {k : Nat → Kind} {a0 a : Act} {w0 w w1 : World} {i m : Nat} {o : Oper} {v : Value} {N : Next}
theorem pq (h : ∀ (a : Act) (w : World), At ops D a0 w0 i o a w → (execOp a.eval o).run P w = .ok (.value v) w) (hD : ∀ w, D i v w := by exact fun _ => rfl) (hk : k i = .plain := by rfl) (hg : o.guard = none := by rfl) : Duty P ops Q D k a0 w0 i o := plain hk hg fun a w H => vr (hD w) (h a w H)
theorem rv {x : Operand} (h : a.eval x = v) (hop : o.op = .move x := by rfl) : (execOp a.eval o).run P w = .ok (.value v) w := run_move hop h
theorem ra {x : Operand} (h : a.eval x = v) (hop : o.op = .assign x := by rfl) : (execOp a.eval o).run P w = .ok (.value v) w := run_assign hop h
theorem qq (t : Nat) (h : a0.eval (.tmp t) = v) (hop : o.op = .move (.tmp t) := by rfl) (hq : old ops i t = true := by kernel_rfl) (hD : ∀ w, D i v w := by exact fun _ => rfl) (hk : k i = .plain := by rfl) (hg : o.guard = none := by rfl) : Duty P ops Q D k a0 w0 i o := pq (fun a w H => run_move hop (H.q t h hq)) hD hk hg
theorem qd (j d : Nat) (hE : ∀ u w, D j u w → u = v := by exact fun _ _ h => h) (hop : o.op = .move (.tmp d) := by rfl) (hb : bound o j = true := by kernel_rfl) (hd : dstOf ops j = some d := by rfl) (hD : ∀ w, D i v w := by exact fun _ => rfl) (hk : k i = .plain := by rfl) (hg : o.guard = none := by rfl) : Duty P ops Q D k a0 w0 i o := pq (fun a w H => run_move hop (hE _ _ (H.d j d hb hd))) hD hk hg
theorem qe (j d : Nat) (hE : ∀ u w, D j u w → u = v := by exact fun _ _ h => h) (hop : o.op = .assign (.tmp d) := by rfl) (hb : bound o j = true := by kernel_rfl) (hd : dstOf ops j = some d := by rfl) (hD : ∀ w, D i v w := by exact fun _ => rfl) (hk : k i = .plain := by rfl) (hg : o.guard = none := by rfl) : Duty P ops Q D k a0 w0 i o := pq (fun a w H => run_assign hop (hE _ _ (H.d j d hb hd))) hD hk hg
theorem bb {p q : Bool} (h : q = p) : Value.bool p = Value.bool q := by rw [h]
theorem nm (x : Bool) : ∃ b : Bool, b = x := ⟨_, rfl⟩
theorem At.x (H : At ops D a0 w0 i o a w) {b : Nat} {c : Option Obj} (hl : b < w0.heap.size) (hk : w0.heap[b]? = c) : w.heap[b]? = c := (H.below.block _ hl).trans hk
theorem Then.u {L : List Value} (T : Then ops m (stv L) k a0 w0 a w) (j d : Nat) (hv : L[j]? = some v := by exact rfl) (hj : decide (j < m) = true := by rfl) (hd : dstOf ops j = some d := by rfl) : a.eval (.tmp d) = v := by
  have h := T.done j d hj hd
  unfold stv still at h
  rw [List.getD_eq_getElem?_getD, List.getElem?_map, hv] at h
  exact h
theorem Then.h (T : Then ops m D k a0 w0 a w) {n : Nat} {W : World} (h : a0.defers = []) (h1 : a0.tmps.size = n) (h2 : Below W.heap.size W w0) : a.defers = [] ∧ a.tmps.size = n ∧ Below W.heap.size W w := ⟨T.e h, T.z h1, T.b h2⟩
theorem Then.y (T : Then ops m D k a0 w0 a w) {b : Nat} {c : Option Obj} (hk : w0.heap[b]? = c) (hl : b < w0.heap.size) : w.heap[b]? = c ∧ b < w.heap.size := ⟨T.x hl hk, T.l hl⟩
theorem fb {T : TypeId} {x : Operand} {f g n : Nat} {fs : Array Field} (hu : P.underlying T = some (.struct fs)) (k : Nat) (h : a.eval x = .pointer (some ⟨g, n, none⟩)) (hop : o.op = .fieldAddr T x f := by rfl) (hf : (fs[f]?).map (fun fd => (fd.offset, ((P.info? fd.type).map (·.size)).isSome && decide ((P.info? fd.type).map (·.size) ≠ some 0))) = some (k, true) := by kernel_rfl) : (execOp a.eval o).run P w = .ok (.value (.pointer (some ⟨g, n + k, none⟩))) w := run_fieldb hop hu k hf h
theorem lb {ty T : TypeId} {x : Operand} {g n : Nat} {cs : Array Value} {u : Value} (h : a.eval x = .pointer (some ⟨g, n, none⟩)) (hk : w.heap[g]? = some (.cells cs T (0, 0))) (hop : o.op = .load ty x := by rfl) (hu : cs[n]? = some u := by rfl) (hagg : (isAgg ty).run P w = .ok false w := by kernel_rfl) : (execOp a.eval o).run P w = .ok (.value u) w := run_loadb hop h hk hu hagg
theorem g1 {want : Bool} (j d : Nat) (b : Bool) (h : (b == want) = true → ∀ (a : Act) (w : World), At ops D a0 w0 i o a w → o.wp P a w (fun a' w' => ∃ v, a' = a.put o.dst v ∧ (o.dst ≠ none → D i v w') ∧ Below w.heap.size w w') Q) (hk : k i = .plain := by rfl) (hg : o.guard = some (j, want) := by rfl) (hb : bound o j = true := by kernel_rfl) (hd : dstOf ops j = some d := by rfl) (hD : ∀ (v : Value) (w : World), D j v w → v = .bool b := by exact fun v w h => h) (hoff : (b == want) = false → ∀ w : World, D i undef w := by exact fun hG w => Go.Proofs.Eng.off hG) : Duty P ops Q D k a0 w0 i o := guarded1 hk hg hb hd hD hoff h
theorem gT {want : Bool} (j d : Nat) (h : ∀ (a : Act) (w : World), At ops D a0 w0 i o a w → o.wp P a w (fun a' w' => ∃ v, a' = a.put o.dst v ∧ (o.dst ≠ none → D i v w') ∧ Below w.heap.size w w') Q) (hk : k i = .plain := by rfl) (hg : o.guard = some (j, want) := by rfl) (hb : bound o j = true := by kernel_rfl) (hd : dstOf ops j = some d := by rfl) (hD : ∀ (v : Value) (w : World), D j v w → v = .bool want := by exact fun v w h => h) : Duty P ops Q D k a0 w0 i o := guardedT hk hg hb hd hD h
theorem o1 {x : Operand} {u : Value} (h0 : a.eval x = u) (h : a.eval x = u → (execOp a.eval o).run P w = .ok N w1 := by (intro e0; simp only [execOp, resolve, List.map_toArray, List.map_cons, List.map_nil, e0]; go_simp)) : (execOp a.eval o).run P w = .ok N w1 := h h0
theorem o2 {x y : Operand} {u u1 : Value} (h0 : a.eval x = u) (h1 : a.eval y = u1) (h : a.eval x = u → a.eval y = u1 → (execOp a.eval o).run P w = .ok N w1 := by (intro e0 e1; simp only [execOp, resolve, List.map_toArray, List.map_cons, List.map_nil, e0, e1]; go_simp)) : (execOp a.eval o).run P w = .ok N w1 := h h0 h1
theorem ok (c : Value) {x : Operand} {u : Value} (h0 : a.eval x = u) (h : a.eval x = u → a.eval (.const c) = c → (execOp a.eval o).run P w = .ok N w1 := by (intro e0 e1; simp only [execOp, resolve, List.map_toArray, List.map_cons, List.map_nil, e0, e1]; go_simp)) : (execOp a.eval o).run P w = .ok N w1 := h h0 rfl
theorem o2z {x y : Operand} {u u1 : Value} (h0 : a.eval x = u) (h1 : a.eval y = u1) (h : a.eval x = u → a.eval y = u1 → (execOp a.eval o).run P w = .ok N w1 := by (intro e0 e1; simp only [execOp, resolve, List.map_toArray, List.map_cons, List.map_nil, e0, e1]; go_simp; all_goals first | rfl | (simp; done) | (rw [Bool.eq_iff_iff]; simp; done) | omega | (split <;> first | (simp_all; done) | (split <;> simp_all; done)) | skip)) : (execOp a.eval o).run P w = .ok N w1 := h h0 h1
theorem okz (c : Value) {x : Operand} {u : Value} (h0 : a.eval x = u) (h : a.eval x = u → a.eval (.const c) = c → (execOp a.eval o).run P w = .ok N w1 := by (intro e0 e1; simp only [execOp, resolve, List.map_toArray, List.map_cons, List.map_nil, e0, e1]; go_simp; all_goals first | rfl | (simp; done) | (rw [Bool.eq_iff_iff]; simp; done) | omega | (split <;> first | (simp_all; done) | (split <;> simp_all; done)) | skip)) : (execOp a.eval o).run P w = .ok N w1 := h h0 rfl
theorem rP {id n : Nat} (L : List Value) (m c : Nat) (hn : a.tmps.size = n) (hS : Steps P ops Q (stv L) (fun _ => .plain) a w m 0 ops.toList) (hE : ∀ a' w', Then ops m (stv L) (fun _ => .plain) a w a' w' → wpOps P ops Q (List.range' m c) a' w') (hc : ops.size = m + c := by rfl) (hs : shape ops m n = true := by kernel_rfl) : (Code.region id ops false).wp P Q a w := rS L _ m c hn hS hE hc hs
end Go.Proofs.Eng
end
section
namespace Go.Proofs.YtgnmjaacnmkgnaaDoor.X
open Go.RowKit Go.Shelf Go.Proofs Go.Proofs.YtgnmjaacnmkgnaaDoorW.PrintWords Go.Proofs.YtgnmjaacnmkgnaaDoorW.PrintLast Go.Proofs.YtgnmjaacnmkgnaaDoorW.PrintMore Go.Proofs.Eng
set_option linter.unusedVariables false
set_option linter.unusedSimpArgs false
attribute [local go_sem] max2_int min2_int max_two min_two
set_option maxHeartbeats 4000000 in
set_option maxRecDepth 100000 in
theorem Dc.clone_calls (v : Value) (l : List Int) (w : World) (hx : Reads w v l.length 1 (Dc.ints l)) (hl : l.length ≤ 2000000) : Calls Tryd.prog 42 #[v] w fun e w' => ∃ v', e = .returned v' ∧ w'.ownsRow w.heap.size 3 1 v' l.length (Dc.ints l) ∧ Below w.heap.size w w' := by
 refine enter Tryd.func42 rfl fun A d0 s0 v0 => ?_
 have s0 : A.tmps.size = 8 := s0
 have y0 : A.eval (.tmp 0) = v := v0 0 (by simp)
 clear v0
 have bl0 : Below w.heap.size w w := Below.refl _ _
 refine wp_seq (rS [.slice none 0 0] (fun _ => .plain) 1 0 s0 ?_ ?_)
 ·refine .c ?_ (.nil)
  ·exact pq fun a w' H => ra (rfl : a.eval (.const (.slice none 0 0)) = .slice none 0 0)
 intro A w1 T
 have y0 := T.r1 y0
 have Fin_ := T.f hx
 have ⟨d1, s1, bl1⟩ := T.h d0 s0 bl0
 clear T
 refine tail_nil (wp_seq (wp_seq ?_))
 obtain ⟨q4, Bq4⟩ := nm (isNil v)
 refine rP [v, .bool q4] 2 0 s1 (.c (qq 0 y0) (.c (pv fun a w' H => vr (bb Bq4) (run_isnil rfl Tryd.underlying55 (H.d 0 3) (Reads.below Fin_ H.below))) .nil)) fun A w2 T => ?_
 have y0 := T.r1 y0
 have Fin_ := T.f Fin_
 have y4 := T.u 1 4
 have ⟨d2, s2, bl2⟩ := T.h d1 s1 bl1
 clear T
 refine tail_nil (wp_cond_split y4 (fun hq => ?_) (fun hq => ?_))
 ·
  have c4 := Bq4.symm.trans hq
  clear hq
  have hz := isNil_zero hx c4 rfl
  have hl0 : l = [] := List.eq_nil_of_length_eq_zero hz
  refine wp_seq (rS [.slice none 0 0] (fun _ => .plain) 1 0 s2 ?_ ?_)
  ·refine .c ?_ (.nil)
   ·exact pq fun a w' H => ra (rfl : a.eval (.const (.slice none 0 0)) = .slice none 0 0)
  intro A w4 T
  have y2 := T.u 0 2
  have d4 := T.e d2
  have bl4 := T.b bl2
  clear T
  refine tail_nil (wp_ret ?_)
  repeat (first | refine in_ret ?_ | refine then_ret ?_)
  exact ret1 rfl d4 y2 ⟨_, rfl, by rw [hl0]; exact World.ownsRow_nil _ _ _ _, bl4⟩
 have c4 := Bq4.symm.trans hq
 clear hq
 refine wp_skip (wp_seq ?_)
 refine regionT (n := 4) rfl (tail_ex rfl rfl rfl (run_build0 (B := w.heap.size) (size := 1) (z := .int .i64 0) (e := 3) rfl Tryd.underlying55 (by kernel_rfl) bl2.size) s2 rfl fun v_6 w6 A R d6 s6 y5 hr => ?_)
 obtain ⟨O_6, b_6⟩ := R
 have y0 := k1 hr y0
 have d6 := d6.trans d2
 have Fin_ := Reads.below Fin_ b_6
 have bl6 := bl2.trans (b_6.mono bl2.size)
 refine tail_val rfl rfl rfl (rv y0) s6 rfl fun A d7 s7 y6 hr => ?_
 have y5 := k1 hr y5
 have d7 := d7.trans d6
 refine tail_ex rfl rfl rfl (run_appendI (z := .int .i64 0) rfl Tryd.underlying55 (by kernel_rfl) rfl rfl y5 O_6 y6 Fin_ (Dc.ints_one _) (by simp; omega) bl6.size) s7 rfl fun v_8 w8 A R d8 s8 y7 hr => ?_
 obtain ⟨O_8, _, b_8, G_8, EO_8⟩ := R
 have d8 := d8.trans d7
 have bl8 := bl6.trans b_8
 have Oa8 : w8.ownsRow w.heap.size 3 1 v_8 l.length (Dc.ints l) := (by have O := O_8; rw [Nat.zero_add] at O; exact O)
 have Fa8 := Reads.of_own Oa8
 refine tail_val rfl rfl rfl (ra y7) s8 rfl fun A d9 s9 y2 hr => ?_
 have d9 := d9.trans d8
 refine tail_nil (wp_ret ?_)
 repeat (first | refine in_ret ?_ | refine then_ret ?_)
 exact ret1 rfl d9 y2 ⟨_, rfl, Oa8, bl8⟩
end Go.Proofs.YtgnmjaacnmkgnaaDoor.X
end
section
set_option linter.unusedVariables false
set_option linter.unusedSimpArgs false
namespace Go.Proofs.Eng
open Go Go.RowKit
variable {P : Program}
theorem own_grown {w w' : World} {B B' : Nat} {e e' : TypeId} {size n size' n' : Nat} {v v' : Value} {xs xs' : List Value} (O : w.ownsRow B e size v n xs) (G : w.grownBy w' v'.ownBlock) (O' : w.ownsRow B' e' size' v' n' xs') (hne : (e != e') = true) : w'.ownsRow B e size v n xs := by
  refine O.kept G ?_
  cases hq : v.ownBlock with
  | none => exact .inl rfl
  | some b => exact .inr (own_apart_ty O O' hne hq.symm)
theorem bl_step {W w w' : World} (h : Below W.heap.size W w) (b : Below w.heap.size w w') : Below W.heap.size W w' := h.trans (b.mono h.size)
section
variable {o : Oper} {a : Act} {w : World}
theorem run_appendM {B : Nat} {t e : TypeId} {z : Value} {size : Nat} {s x : Operand} (hop : o.op = .call { callee := .builtin .append, args := #[s, x], argTypes := #[t, t] })
    (ht : P.underlying t = some (.slice e)) (hI : (P.info? e).map (fun i => (i.size, decide (i.bytes ≤ 64), i.zero)) = some (size, true, some z)) (hzs : z.cells.size = size) (hsz : (decide (0 < size)) = true)
    {v xv : Value} {n : Nat} {xs : List Value} (hs : a.eval s = v) (O : w.ownsRow B e size v n xs) (hx : a.eval x = xv) {m : Nat} {news : List Value} (F : Reads w xv m size news) (h1 : ∀ u ∈ news, u.oneCell' = true) (h63 : n + m ≤ 2199023255488) (hB : B ≤ w.heap.size) :
    ∃ v' w', (execOp a.eval o).run P w = .ok (.value v') w' ∧ w'.ownsRow B e size v' (n + m) (xs ++ news) ∧ w'.ownsRow B e size v n xs ∧ Below B w w' ∧ w.grownBy w' v.ownBlock ∧ (v'.ownBlock = v.ownBlock ∨ v'.ownBlock = some w.heap.size) := by
  cases hq : P.info? e with
  | none => simp [hq] at hI
  | some i =>
    simp [hq] at hI
    obtain ⟨h2, h3, h4⟩ := hI
    have hb : (n + m) * i.bytes ≤ 140737488355328 := Nat.le_trans (Nat.mul_le_mul h63 h3) (by decide)
    obtain ⟨v', w', hr, h⟩ := own_appendT (P := P) (ty := o.type) ht hq h4 h2 (by omega) hzs (of_decide_eq_true hsz) O F h1 (by unfold maxLen; omega) hb hB
    refine ⟨v', w', ?_, h⟩
    unfold execOp
    simp only [hop, resolve, invoke, builtin, Sem.run_bind, Sem.run_pure, Result.andThen_ok, List.map_toArray, List.map_cons, List.map_nil, hs, hx, hr]
end
end Go.Proofs.Eng
end
section
namespace Go.Proofs.YtgnmjaacnmkgnaaDoor.X
open Go.RowKit Go.Shelf Go.Proofs Go.Maps Go.WideMaps
set_option linter.unusedVariables false
set_option linter.unusedSimpArgs false
namespace Dc
theorem last_ix (pre : List Int) (t : Int) (h : pre.length + 1 ≤ 9223372036854775807) : IntKind.i64.wrap (((pre ++ [t]).length : Int) - 1) = ((pre.length : Nat) : Int) := by
  rw [List.length_append, Eng.i64_id (by simp only [List.length_cons, List.length_nil]; omega) (by simp only [List.length_cons, List.length_nil]; omega)]; simp only [List.length_cons, List.length_nil]; omega
theorem int_top (pre : List Int) (o : Int) : (ints (pre ++ [o]))[pre.length * 1]? = some (.int .i64 o) := by
  rw [ints_snoc, Nat.mul_one, ← ints_len pre, List.getElem?_append_right (Nat.le_refl _), Nat.sub_self]; rfl
theorem kidF_top (nodes : List Nd) (pre : List Int) (o : Int) (names : List (List UInt8 × Int)) (at_ : Nat) : kidF ⟨nodes, pre ++ [o], names⟩ at_ = if odd nodes o.toNat at_ = true then (⟨nodes, pre ++ [o], names⟩, 5) else (⟨addKid nodes o.toNat at_, pre ++ [o], names⟩, 0) := by
  unfold kidF
  simp only [List.getLast?_append, List.getLast?_singleton, Option.some_or]
end Dc
end Go.Proofs.YtgnmjaacnmkgnaaDoor.X
end
