/- Words and walks that the row of EventWraps needs: printed by programs, and plain laws. -/
import Derived.Test.YtgnmjaacnmkgnaaGreatDoorM2
import Derived.Test.YtgnmjaacnmkgnaaGreatDoorM8
import Derived.Test.YtgnmjaacnmkgnaaGreatDoorM5
import Derived.Test.YtgnmjaacnmkgnaaGreatDoorProg
import Derived.Below
import Derived.Deep.Draws
import Derived.Deep.AppendLies
import Derived.Maps.AppendAt
import Derived.OwnWalk
import Derived.Laws.BytesArg
import Derived.Laws.MakeOwn
import Derived.Laws.OwnMore
import Derived.Deep.OwnRows
import Derived.Tactics
import Derived.Lib.ConvBytes
import Derived.Laws.Slices
import Derived.WalkKit
import Derived.KernelRfl
import Derived.RowKit3
import Derived.Deep.LoopGhost
import Derived.Deep.QuietTactic
import Derived.BigQuiet
import Derived.WideLaws
import Derived.Deep.DeepCutAuto
import Derived.Deep.CutBlock
import Derived.Deep.RegionHeld3
import Derived.Laws.Rows
import Derived.Lib.AppendStr
import Derived.ArgAppend
import Derived.Laws.IdiomCopy
import Derived.OrdersHeld
import Derived.Laws.BitsLemmas
import Derived.RowKit
import Derived.Test.YtgnmjaacnmkgnaaGreatDoorM1
import Derived.Laws.StructEq
namespace Go.Proofs.YtgnmjaacnmkgnaaGreatDoorW.PrintWords
end Go.Proofs.YtgnmjaacnmkgnaaGreatDoorW.PrintWords
namespace Go.Proofs.YtgnmjaacnmkgnaaGreatDoorW.PrintLast
end Go.Proofs.YtgnmjaacnmkgnaaGreatDoorW.PrintLast
namespace Go.Proofs.YtgnmjaacnmkgnaaGreatDoorW.PrintMore
end Go.Proofs.YtgnmjaacnmkgnaaGreatDoorW.PrintMore
section
namespace Go.Proofs.YtgnmjaacnmkgnaaGreatDoor.Spl
theorem lines_le : ∀ (n : Nat) (l : List UInt8), ∀ x ∈ linesF n l, x.length ≤ l.length
  | 0, l, x, h => absurd h List.not_mem_nil
  | n + 1, l, x, h => by
    rw [linesF] at h
    split at h
    · exact absurd h List.not_mem_nil
    · split at h
      · rw [List.mem_singleton.1 h]; exact Nat.le_refl _
      · rcases List.mem_cons.1 h with rfl | h
        · rw [List.length_take]; omega
        · have := lines_le n _ x h
          rw [List.length_drop] at this; omega
end Go.Proofs.YtgnmjaacnmkgnaaGreatDoor.Spl
namespace Go.Proofs.YtgnmjaacnmkgnaaGreatDoor.X
open Go.RowKit Go.Shelf Go.Proofs
attribute [local go_sem] Oper.semAt_some
set_option linter.unusedVariables false
set_option linter.unusedSimpArgs false
namespace Pri
theorem lines_calls (s : ByteArray) (w : World) : Calls Tryz.prog 34 #[.string s] w fun e w' => e = .returned (.func (.func 57) #[] #[.pointer (some ⟨w.heap.size, 0, none⟩)]) ∧ w' = w.alloc (.cells #[.string s] 9) := by
  go_enter Tryz.func34, Tryz.ntmps34
  go_wp2
  go_ret
  exact ⟨rfl, rfl⟩
def ParseOk (s : ByteArray) (x : Evt.Ev) : Prop := ∀ w, Tabs.Holds w → Calls Tryz.prog 35 #[.string s] w fun e w' => e = .returned (.agg #[.int .i64 x.kind, .string x.anchor, .string x.tag, .string x.text, .bool x.plain]) ∧ Below w.heap.size w w'
structure JP (w : World) (g bs : Nat) (PF : List UInt8 → Evt.Ev) (pre : List (List UInt8)) (W : World) : Prop where
  bel : Below w.heap.size w W
  box : ∃ v, W.heap[g]? = some (.cells #[v] 24 (0, 0)) ∧ W.ownsRow w.heap.size 29 5 v pre.length (Evt.cells (pre.map PF))
  sb : ∃ x, W.heap[bs]? = some (.cells #[x] 9 (0, 0))
theorem own_keep {W W' : World} {B : Nat} {e : TypeId} {size n : Nat} {v : Value} {xs : List Value} (h : W.ownsRow B e size v n xs) (hk : ∀ (k : Nat) (o : Obj), W.heap[k]? = some o → (∃ c f, o = Obj.cells c e f) → W'.heap[k]? = some o) : W'.ownsRow B e size v n xs := by
  refine ⟨h.1, ?_⟩
  rcases h.2 with hn | ⟨g, cap, cur, hv, hb, hg, rest⟩
  · exact .inl hn
  · exact .inr ⟨g, cap, cur, hv, hb, hk _ _ hg ⟨_, _, rfl⟩, rest⟩
theorem JP.stab {w : World} {g bs V : Nat} {PF : List UInt8 → Evt.Ev} {pre : List (List UInt8)} {W W' : World} (h : JP w g bs PF pre W) (hV : w.heap.size ≤ V) (hb : Below V W W') (hk : ∀ (k : Nat) (o : Obj), W.heap[k]? = some o → (∃ c t f, o = Obj.cells c t f) → W'.heap[k]? = some o) : JP w g bs PF pre W' := by
  obtain ⟨v, h1, h2⟩ := h.box
  obtain ⟨x, h3⟩ := h.sb
  exact ⟨h.bel.trans (hb.mono hV), ⟨v, hk _ _ h1 ⟨_, _, _, rfl⟩, own_keep h2 fun k o ho ⟨c, f, e⟩ => hk k o ho ⟨c, _, f, e⟩⟩, ⟨x, hk _ _ h3 ⟨_, _, _, rfl⟩⟩⟩
theorem JP.set {w : World} {g bs : Nat} {PF : List UInt8 → Evt.Ev} {pre : List (List UInt8)} {W : World} {y : Value} (h : JP w g bs PF pre W) (hB : w.heap.size ≤ bs) (hne : g ≠ bs) : JP w g bs PF pre (W.setCell ⟨bs, 0, none⟩ y) := by
  obtain ⟨v, h1, h2⟩ := h.box
  obtain ⟨x, h3⟩ := h.sb
  refine ⟨h.bel.setCell (p := ⟨bs, 0, none⟩) hB _, ⟨v, (Below.heap_setCell W _ _ g hne).trans h1, own_keep h2 fun k o ho ⟨c, f, e⟩ => ?_⟩, ⟨y, Spl.set_box h3⟩⟩
  refine (Below.heap_setCell W _ _ k fun e2 => ?_).trans ho
  have e2 : k = bs := e2
  rw [e2, h3] at ho
  injection ho with ho
  rw [e] at ho
  injection ho with h5 h6
  cases h6
theorem grown_keep {W W' : World} {B : Nat} {e : TypeId} {size n : Nat} {v : Value} {xs : List Value} (O : W.ownsRow B e size v n xs) (G : W.grownBy W' v.ownBlock) {k : Nat} {o : Obj} (hk : W.heap[k]? = some o) (hne : ∀ c f, o ≠ Obj.cells c e f) : W'.heap[k]? = some o := by
  refine (G.block k (Array.getElem?_eq_some_iff.1 hk).1 fun e1 => ?_).trans hk
  rcases O.2 with ⟨rfl, _⟩ | ⟨g, cap, cur, rfl, hb, hg, rest⟩
  · cases e1
  · have e2 : g = k := (Option.some.inj e1).symm
    rw [e2, hk] at hg
    exact hne _ _ (Option.some.inj hg)
theorem bytes_ext {a b : ByteArray} (h : a.toList = b.toList) : a = b := by
  rw [ByteArray.toList_eq, ByteArray.toList_eq] at h
  cases a; cases b
  exact congrArg _ (Array.ext' h)
theorem set_boxT {W : World} {B : Nat} {T : TypeId} {x y : Value} (h : W.heap[B]? = some (.cells #[x] T (0, 0))) : (W.setCell ⟨B, 0, none⟩ y).heap[B]? = some (.cells #[y] T (0, 0)) := by
  obtain ⟨hlt, he⟩ := Array.getElem?_eq_some_iff.1 h
  simp [World.setCell, hlt, Array.getElem_modify, he]
theorem abs {Fc : Fence} {n : Nat} {P : Program} {c : Code} {Q : Exit → Act → World → Prop} {a : Act} {w : World} (h : ∀ a', a' = a → c.wpIn Fc n P Q a' w) : c.wpIn Fc n P Q a w := h a rfl
theorem trim_calls (x : List UInt8) (w : World) (h : x.length ≤ 9223372036854775807) : Calls Tryz.prog 36 #[.string ⟨x.toArray⟩, .string ⟨#[10]⟩] w fun e w' => e = .returned (.string ⟨(Lib.trimSuffix x [10]).toArray⟩) ∧ Below w.heap.size w w' := by
  refine (Tryz.strings_TrimSuffix ⟨x.toArray⟩ ⟨#[10]⟩ w (by simpa [ByteArray.size] using h)).mono ?_
  rintro e w' ⟨rfl, rfl⟩
  exact ⟨rfl, Below.refl _ _⟩
theorem own_next {W : World} {B : Nat} {v : Value} {PF : List UInt8 → Evt.Ev} {pre : List (List UInt8)} {x : List UInt8} (O : W.ownsRow B 29 5 v (pre.length + 1) (Evt.cells (List.map PF pre) ++ [.int .i64 (PF x).kind, .string (PF x).anchor, .string (PF x).tag, .string (PF x).text, .bool (PF x).plain])) : W.ownsRow B 29 5 v (pre ++ [x]).length (Evt.cells (List.map PF (pre ++ [x]))) := by
  rw [List.length_append, List.map_append]
  show W.ownsRow B 29 5 v _ (List.flatMap Evt.enc _)
  rw [List.flatMap_append]
  simpa [Evt.enc] using O
theorem obj_below {W W' : World} {k : Nat} {o : Obj} (h : W.heap[k]? = some o) (hb : Below W.heap.size W W') : W'.heap[k]? = some o := (hb.block k (Array.getElem?_eq_some_iff.1 h).1).trans h
theorem obj_grown {W W' : World} {B : Nat} {e : TypeId} {size n : Nat} {v : Value} {xs : List Value} {k : Nat} {o : Obj} (h : W.heap[k]? = some o) (G : W.grownBy W' v.ownBlock) (O : W.ownsRow B e size v n xs) (hne : ∀ c f, o ≠ Obj.cells c e f) : W'.heap[k]? = some o := grown_keep O G h hne
theorem obj_sets {W W' : World} {k g : Nat} {o ob : Obj} {c : Array Value} {T : TypeId} {f : Nat × Nat} (h : W.heap[k]? = some o) (S : Eng.Sets W W' g ob) (hg : W.heap[g]? = some (.cells c T f)) (hne : ∀ c T f, o ≠ Obj.cells c T f) : W'.heap[k]? = some o :=
  (S.far k fun e => by rw [e, hg] at h; exact hne _ _ _ (Option.some.inj h).symm).trans h
def ParseRes (w : World) (s : List UInt8) (l : List Evt.Ev) (p : ByteArray) (e : Ending) (w' : World) : Prop :=
  Below w.heap.size w w' ∧ ((p = ⟨s.toArray⟩ ∧ ∃ v, e = .returned (.tuple #[v, .int .i64 0]) ∧ w'.ownsRow w.heap.size 29 5 v l.length (Evt.cells l)) ∨ (p ≠ ⟨s.toArray⟩ ∧ e = .returned (.tuple #[.slice none 0 0, .int .i64 5])))
set_option maxHeartbeats 1000000 in
set_option maxRecDepth 100000 in
theorem parse_calls (s : List UInt8) (PF : List UInt8 → Evt.Ev) (L : Nat → ByteArray) (w : World) (hT : Tabs.Holds w) (hsz : s.length ≤ 1000000)
    (hP : ∀ x ∈ Spl.linesF s.length s, ParseOk ⟨(Lib.trimSuffix x [10]).toArray⟩ (PF x)) (hln : (Spl.linesF s.length s).length ≤ 100000)
    (htx : ∀ x, (PF x).text.size ≤ 9223372036854775807)
    (hL : Evt.rightG Evt.rightE ((Spl.linesF s.length s).map PF) = true → ∀ k, k < ((Spl.linesF s.length s).map PF).length → LineOk (((Spl.linesF s.length s).map PF).getD k default) (L k)) (hbd : (catF L ((Spl.linesF s.length s).map PF).length).length ≤ 1000000000) :
    Calls Tryz.prog 21 #[.string ⟨s.toArray⟩] w fun e w' => ParseRes w s ((Spl.linesF s.length s).map PF) (printS ((Spl.linesF s.length s).map PF) L) e w' := by
  refine callsIn_wide.1 (callsIn_of_wp_marks (n := 9) Tryz.func21 rfl trivial ?_ rfl)
  simp only [Tryz.ntmps21, List.size_toArray, List.length_cons, List.length_nil, Nat.reduceAdd, Nat.reduceSub, Array.replicate_succ, Array.replicate_zero, List.push_toArray, List.append_toArray, List.nil_append, List.cons_append]
  gi_wp2
  refine ⟨trivial, ?_⟩
  refine (callsIn_wide.2 (lines_calls ⟨s.toArray⟩ _)).mono ?_
  rintro e w1 ⟨rfl, rfl⟩
  gi_wp2
  obtain ⟨V, hV⟩ : ∃ V, (w.alloc (.cells #[.slice none 0 0] 24)).alloc (.cells #[.string ⟨s.toArray⟩] 9) = V := ⟨_, rfl⟩
  have hVs : V.heap.size = w.heap.size + 2 := by rw [← hV]; simp
  have hVg : V.heap[w.heap.size]? = some (.cells #[.slice none 0 0] 24 (0, 0)) := by
    rw [← hV]
    refine (Below.heap_alloc (w.alloc _) _ w.heap.size (by simp)).trans ?_
    show (w.heap.push _)[w.heap.size]? = _
    simp
  have hVb : V.heap[w.heap.size + 1]? = some (.cells #[.string ⟨s.toArray⟩] 9 (0, 0)) := by
    rw [← hV]
    show ((w.alloc _).heap.push _)[w.heap.size + 1]? = _
    rw [Array.getElem?_push, if_pos (by simp)]
  have hVB : Below w.heap.size w V := by rw [← hV]; exact ((Below.refl _ w).alloc (Nat.le_refl _) _).alloc (by simp) _
  rw [hV]
  clear hV
  refine wpIn_wide.2 ?_
  have hlen : ∀ x ∈ Spl.linesF s.length s, x.length ≤ s.length := Spl.lines_le s.length s
  refine Eng.range_ruleB (n := 0) (m := 0) (gf := 57) (lb := #[.pointer (some ⟨w.heap.size + 1, 0, none⟩)]) (Spl.linesF s.length s) (fun x => #[.string ⟨x.toArray⟩]) (JP w w.heap.size (w.heap.size + 1) PF) rfl (Eng.enters Tryz.func57 (by kernel_rfl) rfl) (fun _ => rfl) ?_ ?_ (w.heap.size + 1) ?_ ?_ ?_ ?_ ?_
  · exact ⟨hVB, ⟨_, hVg, World.ownsRow_nil _ _ _ _⟩, ⟨_, hVb⟩⟩
  · exact fun pre W W' h hb hk => h.stab (by omega) hb hk
  · omega
  · exact fun pre W v h => h.set (by omega) (by omega)
  · intro l K hK hKset hKJ hY W hK0 hbs
    refine callsIn_wide.1 (Spl.lines_in 1 l (w.heap.size + 1) (Spl.linesF s.length s) K hKset (fun pre W h => hK _ _ _ h (Below.drew (Below.refl _ _))) hY s W hK0 (hbs.trans hVb) rfl hsz)
  · intro pre x W l a1 hpre hJ hl hsz2 hd ht
    obtain ⟨tm, df⟩ := a1
    simp only [List.zip_toArray, List.foldl_toArray, Array.foldl_toList, List.zip_cons_cons, List.zip_nil_right, List.foldl_cons, List.foldl_nil, List.setIfInBounds_toArray, List.set_cons_succ, List.set_cons_zero] at ht hd
    subst ht; subst hd
    gi_wp2
    refine ⟨Below.refl _ _, hJ, fun w2 rb hsz3 hL2 hD2 hJ2 => ?_⟩
    obtain ⟨v, hb1, hO⟩ := hJ2.box
    obtain ⟨y, hb3⟩ := hJ2.sb
    have hc1 : w2.cell? ⟨w.heap.size, 0, none⟩ = some v := by rw [Lib.cell_of_heap hb1]; rfl
    have hx : x ∈ Spl.linesF s.length s := hpre.subset (by simp)
    gi_wp2
    have hpl : pre.length < 100000 := by have := hpre.length_le; rw [List.length_append] at this; simp only [List.length_cons, List.length_nil] at this; omega
    have hPx := hP x hx
    have hxs : x.length ≤ 9223372036854775807 := by have := hlen x hx; omega
    refine abs fun act0 hact => ?_
    have h2_0 : act0.eval (.tmp 2) = .pointer (some ⟨w.heap.size, 0, none⟩) := by rw [hact]; rfl
    have h4_0 : act0.eval (.tmp 4) = .string (⟨x.toArray⟩ : ByteArray) := by rw [hact]; rfl
    have d0 : act0.defers = [] := by rw [hact]
    have s0 : act0.tmps.size = 19 := by rw [hact]; rfl
    clear hact
    have hlt0 := (Array.getElem?_eq_some_iff.1 hb1).1
    have hlt1 := (Array.getElem?_eq_some_iff.1 hb3).1
    have hneb : w.heap.size ≠ w.heap.size + 1 := by omega
    have hbl := hJ2.bel
    have Fv0 := Eng.Reads.of_own hO
    refine EngI.regionD (EngI.free_wide.inRound _) (Eng.tell [.still fun u_ => u_ = v, .still fun u_ => u_ = .string (⟨x.toArray⟩ : ByteArray), .still fun u_ => u_ = .string (⟨(Lib.trimSuffix x [10]).toArray⟩ : ByteArray), .still fun u_ => u_ = .agg #[.int .i64 ((PF x).kind), .string ((PF x).anchor), .string ((PF x).tag), .string ((PF x).text), .bool ((PF x).plain)], Eng.Tl.reads 1 5 [.int .i64 ((PF x).kind), .string ((PF x).anchor), .string ((PF x).tag), .string ((PF x).text), .bool ((PF x).plain)]]) (fun i => ([.plain, .plain, .plain, .plain, .plain] : List Eng.Kind).getD i .plain) 5 2 19 (by kernel_rfl) s0 rfl (by kernel_rfl) (Eng.tell_stable _) (Or.inl (Eng.no_stores (by kernel_rfl))) (by kernel_rfl) ?_ ?_
    · refine .cons (fun _ => ?_) (.cons (fun _ => ?_) (.cons (fun _ => ?_) (.cons (fun _ => ?_) (.cons (fun _ => ?_) (.cons (fun h => absurd h (by decide)) (.cons (fun h => absurd h (by decide)) (.nil)))))))
      · exact Eng.plain rfl rfl fun a w' H => Eng.vr (v := v) rfl (Eng.run_loadb rfl ((H.kept 2 (by kernel_rfl)).trans h2_0) ((H.below.block _ hlt0).trans hb1) rfl (by kernel_rfl))
      · exact Eng.plain rfl rfl fun a w' H => Eng.vr (v := .string (⟨x.toArray⟩ : ByteArray)) rfl (Eng.run_move rfl ((H.kept 4 (by kernel_rfl)).trans h4_0))
      · refine Eng.plain rfl rfl fun a w' H => ?_
        refine Eng.call Tryz.func36 (by kernel_rfl) (by kernel_rfl) rfl #[.string (⟨x.toArray⟩ : ByteArray), .string ⟨#[10]⟩] ?_ ?_
        · have e0 : a.eval (.tmp 9) = .string (⟨x.toArray⟩ : ByteArray) := (H.dep 1 9 (by kernel_rfl) rfl); have e1 : a.eval (.const (.string ⟨#[10]⟩)) = .string ⟨#[10]⟩ := (rfl : a.eval (.const (.string ⟨#[10]⟩)) = .string ⟨#[10]⟩); simp only [List.map_toArray, List.map_cons, List.map_nil, e0, e1]
        refine (trim_calls x _ hxs).mono ?_
        rintro e w'' ⟨rfl, hb⟩
        exact ⟨_, rfl, rfl, hb⟩
      · refine Eng.plain rfl rfl fun a w' H => ?_
        refine Eng.call Tryz.func35 (by kernel_rfl) (by kernel_rfl) rfl #[.string (⟨(Lib.trimSuffix x [10]).toArray⟩ : ByteArray)] ?_ ?_
        · have e0 : a.eval (.tmp 10) = .string (⟨(Lib.trimSuffix x [10]).toArray⟩ : ByteArray) := (H.dep 2 10 (by kernel_rfl) rfl); simp only [List.map_toArray, List.map_cons, List.map_nil, e0]
        refine (hPx _ (Tabs.below (Tabs.below hT hbl) H.below)).mono ?_
        rintro e w'' ⟨rfl, hb⟩
        exact ⟨_, rfl, rfl, hb⟩
      · refine Eng.plain rfl rfl fun a w' H => ?_
        refine Eng.val_ex (Eng.run_build1I (size := 5) (z := .agg #[.int .i64 0, .string ⟨#[]⟩, .string ⟨#[]⟩, .string ⟨#[]⟩, .bool false]) [.int .i64 ((PF x).kind), .string ((PF x).anchor), .string ((PF x).tag), .string ((PF x).text), .bool ((PF x).plain)] rfl Tryz.underlying24 (by kernel_rfl) rfl rfl rfl (by kernel_rfl) (show a.eval (.tmp 11) = .agg #[.int .i64 ((PF x).kind), .string ((PF x).anchor), .string ((PF x).tag), .string ((PF x).text), .bool ((PF x).plain)] from (H.dep 3 11 (by kernel_rfl) rfl))) fun v1 w'' R => ?_
        obtain ⟨F, hb⟩ := R
        exact ⟨hb, F⟩
    intro act1 w1 T
    have h2_1 : act1.eval (.tmp 2) = .pointer (some ⟨w.heap.size, 0, none⟩) := (T.rest 2 (by kernel_rfl)).trans h2_0
    have h4_1 : act1.eval (.tmp 4) = .string (⟨x.toArray⟩ : ByteArray) := (T.rest 4 (by kernel_rfl)).trans h4_0
    have kgB_1 := (T.below.block _ hlt0).trans hb1
    have lgB_1 := Nat.lt_of_lt_of_le hlt0 T.below.size
    have kbsB_1 := (T.below.block _ hlt1).trans hb3
    have lbsB_1 := Nat.lt_of_lt_of_le hlt1 T.below.size
    have Fv_1 := Eng.Reads.below Fv0 T.below
    have Ov_1 := Eng.own_below hO T.below
    have h8_1 : act1.eval (.tmp 8) = v := T.done 0 8 rfl rfl
    have OO12_1 := T.done 4 12 rfl rfl
    obtain ⟨v12_1, h12_1⟩ : ∃ v, act1.eval (.tmp 12) = v := ⟨_, rfl⟩
    have d1 := T.defers.trans d0
    have s1 := T.size.trans s0
    have bl1 := hbl.trans (T.below.mono hbl.size)
    have XL_1 := obj_below hL2 T.below
    have XD_1 := obj_below hD2 T.below
    have OP12_1 : Eng.Reads w1 v12_1 1 5 [.int .i64 ((PF x).kind), .string ((PF x).anchor), .string ((PF x).tag), .string ((PF x).text), .bool ((PF x).plain)] := by rw [← h12_1]; exact OO12_1
    clear OO12_1
    clear T
    refine EngI.tail_ex (EngI.free_wide.inRound _) rfl rfl rfl rfl (Eng.run_appendI (z := .agg #[.int .i64 0, .string ⟨#[]⟩, .string ⟨#[]⟩, .string ⟨#[]⟩, .bool false]) rfl Tryz.underlying24 (by kernel_rfl) rfl rfl h8_1 Ov_1 h12_1 OP12_1 (by intro u hu; simp only [List.mem_cons, List.not_mem_nil, or_false] at hu; rcases hu with rfl | rfl | rfl | rfl | rfl <;> rfl) (by omega) bl1.size) s1 rfl fun v_2 w2 act2 R d2 s2 hv hr => ?_
    obtain ⟨O_2, _, b_2, G_2, EO_2⟩ := R
    have h2_2 : act2.eval (.tmp 2) = .pointer (some ⟨w.heap.size, 0, none⟩) := (hr 2 rfl).trans h2_1
    have h4_2 : act2.eval (.tmp 4) = .string (⟨x.toArray⟩ : ByteArray) := (hr 4 rfl).trans h4_1
    have h8_2 : act2.eval (.tmp 8) = v := (hr 8 rfl).trans h8_1
    have h12_2 : act2.eval (.tmp 12) = v12_1 := (hr 12 rfl).trans h12_1
    have h13_2 : act2.eval (.tmp 13) = v_2 := hv
    have d2 := d2.trans d1
    clear hv hr
    have kgB_2 := (G_2.block _ lgB_1 (Eng.own_ne Ov_1 kgB_1 rfl)).trans kgB_1
    have lgB_2 := Nat.lt_of_lt_of_le lgB_1 G_2.size
    have kbsB_2 := (G_2.block _ lbsB_1 (Eng.own_ne Ov_1 kbsB_1 rfl)).trans kbsB_1
    have lbsB_2 := Nat.lt_of_lt_of_le lbsB_1 G_2.size
    have XL_2 := obj_grown XL_1 G_2 Ov_1 (fun _ _ e => by cases e)
    have XD_2 := obj_grown XD_1 G_2 Ov_1 (fun _ _ e => by cases e)
    have bl2 := bl1.trans b_2
    have Oa2 : w2.ownsRow w.heap.size 29 5 v_2 (pre ++ [x]).length (Evt.cells (List.map PF (pre ++ [x]))) := own_next O_2
    have Fa2 := Eng.Reads.of_own Oa2
    refine EngI.tail_set (EngI.free_wide.inRound _) (n := 0) (v := v_2) (new := #[v_2]) rfl rfl rfl rfl kgB_2 rfl ?_ fun w3 S => ?_
    · have e0 : act2.eval (.tmp 2) = .pointer (some ⟨w.heap.size, 0, none⟩) := h2_2
      have e1 : act2.eval (.tmp 13) = v_2 := h13_2
      obtain ⟨A0_, c0_, ev0_⟩ := Eng.Reads.shape Fa2
      subst ev0_
      have z0 := (Eng.cells kgB_2 (0)).trans (rfl)
      have f0 := Eng.unfrozen kgB_2 (0)
      simp only [execOp]
      rw [e0, e1]
      go_simp
    have kgB_3 := S.new
    have lgB_3 := Nat.lt_of_lt_of_eq lgB_2 S.size.symm
    have kbsB_3 := (S.far _ hneb.symm).trans kbsB_2
    have lbsB_3 := Nat.lt_of_lt_of_eq lbsB_2 S.size.symm
    have bl3 := S.below bl2 (Nat.le_refl _)
    have Oa2_3 := Eng.own_sets Oa2 S kgB_2 rfl
    have Fa2_3 := Eng.Reads.of_own Oa2_3
    have XL_3 := obj_sets XL_2 S kgB_2 (fun _ _ _ e => by cases e)
    have XD_3 := obj_sets XD_2 S kgB_2 (fun _ _ _ e => by cases e)
    clear S
    refine EngI.tail_nil ?_
    exact ⟨rfl, ⟨bl3, ⟨_, kgB_3, Oa2_3⟩, ⟨_, kbsB_3⟩⟩, by have := (Array.getElem?_eq_some_iff.1 XL_3).1; omega, XL_3, XD_3, kbsB_3.trans hb3.symm⟩
  · intro W a' hJ ht hd hD
    obtain ⟨tm, df⟩ := a'
    simp only at ht hd
    have hVlt : w.heap.size < V.heap.size := by omega
    clear hVs
    subst ht; subst hd
    obtain ⟨v, hb1, hO⟩ := hJ.box
    have hO2 : W.ownsRow w.heap.size 29 5 v ((Spl.linesF s.length s).map PF).length (Evt.cells ((Spl.linesF s.length s).map PF)) := by rw [List.length_map]; exact hO
    generalize hl : (Spl.linesF s.length s).map PF = l at hO2 hL hbd ⊢
    obtain ⟨A_, c_, ev_⟩ := Eng.Reads.shape (Eng.Reads.of_own hO2)
    subst ev_
    have hc1 : W.cell? ⟨w.heap.size, 0, none⟩ = some (.slice A_ l.length c_) := by rw [Lib.cell_of_heap hb1]; rfl
    have hPr := print_calls _ l L W (Tabs.below hT hJ.bel) (Eng.Reads.of_own hO2) (fun k hk => by subst hl; rw [List.getD_eq_getElem?_getD, List.getElem?_map]; rw [List.length_map] at hk; rw [List.getElem?_eq_getElem hk]; exact htx _) (by subst hl; rw [List.length_map]; exact hln) hL hbd
    have hlt := (Array.getElem?_eq_some_iff.1 hb1).1
    have hDl := (Array.getElem?_eq_some_iff.1 hD).1
    by_cases hp : printS l L = ⟨s.toArray⟩
    · rw [hp] at hPr
      have q1 : ((⟨s.toArray⟩ : ByteArray).toList == (⟨s.toArray⟩ : ByteArray).toList) = true := beq_self_eq_true _
      have q2 : (s == s) = true := beq_self_eq_true _
      have q3 : (s != s) = false := by rw [bne, q2]; rfl
      gi_wp2
      refine ⟨trivial, (callsIn_wide.2 hPr).mono ?_⟩
      rintro e w5 ⟨rfl, hb5⟩
      have hg5 := (hb5.block _ hlt).trans hb1
      have hc5 : w5.cell? ⟨w.heap.size, 0, none⟩ = some (.slice A_ l.length c_) := by rw [Lib.cell_of_heap hg5]; rfl
      have hf5 : w5.frozen? ⟨w.heap.size, 0, none⟩ = false := Lib.frozen_of_heap hg5 0
      have hD5 := (hb5.block _ hDl).trans hD
      have hO5 := Eng.own_below hO2 hb5
      have hB5 : Below w.heap.size w w5 := hJ.bel.trans (hb5.mono hJ.bel.size)
      have hg6 := set_boxT (y := .slice A_ l.length c_) hg5
      have hD6 := (Below.heap_setCell w5 ⟨w.heap.size, 0, none⟩ (.slice A_ l.length c_) V.heap.size (by show V.heap.size ≠ w.heap.size; omega)).trans hD5
      have fin : ∀ w7, Below V.heap.size (w5.setCell ⟨w.heap.size, 0, none⟩ (.slice A_ l.length c_)) w7 → (∀ (b : Nat) (o : Obj), (w5.setCell ⟨w.heap.size, 0, none⟩ (.slice A_ l.length c_)).heap[b]? = some o → o.isCells = true → w7.heap[b]? = some o) → ParseRes w s l (printS l L) (.returned (.tuple #[.slice A_ l.length c_, .int .i64 0])) w7 := fun w7 hb7 hk7 => by
        refine ⟨(hB5.setCell (p := ⟨w.heap.size, 0, none⟩) (Nat.le_refl _) _).trans (hb7.mono (by omega)), .inl ⟨hp, _, rfl, ?_⟩⟩
        refine own_keep hO5 fun k o ho ⟨c, f, e⟩ => hk7 k o ((Below.heap_setCell w5 _ _ k (fun e2 => ?_)).trans ho) (by rw [e]; rfl)
        have e2 : k = w.heap.size := e2
        rw [e2, hg5, e] at ho
        injection ho with ho
        injection ho with _ h6
        cases h6
      gi_wp2
      refine Eng.retB (v := .int .i64 0) rfl rfl hD6 rfl hg6 Tryz.underlying24 rfl fun w7 p7 q7 => ?_
      rw [hl]; exact fin w7 p7 q7
    · have hne : ((printS l L).toList != (⟨s.toArray⟩ : ByteArray).toList) = true := by
        rw [bne_iff_ne]; intro e; apply hp
        exact bytes_ext e
      have hne3 : ((printS l L).toList == s) = false := by rw [beq_eq_false_iff_ne]; intro e; exact hp (bytes_ext (e.trans (by rw [ByteArray.toList_eq])))
      have hne2 : ((printS l L).toList == (⟨s.toArray⟩ : ByteArray).toList) = false := by rw [beq_eq_false_iff_ne]; intro e; exact hp (bytes_ext e)
      gi_wp2
      refine ⟨trivial, (callsIn_wide.2 hPr).mono ?_⟩
      rintro e w5 ⟨rfl, hb5⟩
      have hg5 := (hb5.block _ hlt).trans hb1
      have hc5 : w5.cell? ⟨w.heap.size, 0, none⟩ = some (.slice A_ l.length c_) := by rw [Lib.cell_of_heap hg5]; rfl
      have hf5 : w5.frozen? ⟨w.heap.size, 0, none⟩ = false := Lib.frozen_of_heap hg5 0
      have hD5 := (hb5.block _ hDl).trans hD
      have hB5 : Below w.heap.size w w5 := hJ.bel.trans (hb5.mono hJ.bel.size)
      have hg6 := set_boxT (y := .slice none 0 0) hg5
      have hD6 := (Below.heap_setCell w5 ⟨w.heap.size, 0, none⟩ (.slice none 0 0) V.heap.size (by show V.heap.size ≠ w.heap.size; omega)).trans hD5
      have fin : ∀ w7, Below V.heap.size (w5.setCell ⟨w.heap.size, 0, none⟩ (.slice none 0 0)) w7 → (∀ (b : Nat) (o : Obj), (w5.setCell ⟨w.heap.size, 0, none⟩ (.slice none 0 0)).heap[b]? = some o → o.isCells = true → w7.heap[b]? = some o) → ParseRes w s l (printS l L) (.returned (.tuple #[.slice none 0 0, .int .i64 5])) w7 := fun w7 hb7 hk7 =>
        ⟨(hB5.setCell (p := ⟨w.heap.size, 0, none⟩) (Nat.le_refl _) _).trans (hb7.mono (by omega)), .inr ⟨hp, rfl⟩⟩
      gi_wp2
      refine Eng.retB (v := .int .i64 5) rfl rfl hD6 rfl hg6 Tryz.underlying24 rfl fun w7 p7 q7 => ?_
      rw [hl]; exact fin w7 p7 q7
end Pri
end Go.Proofs.YtgnmjaacnmkgnaaGreatDoor.X
end
section
namespace Go.Proofs.Eng
open Go Go.RowKit Go.Proofs
variable {P : Program} {a : Act} {w : World} {o : Oper}
theorem build_own {B : Nat} {T e : TypeId} {n size : Nat} {parts : Array (Nat × Operand)} {z : Value} {us : List Value} (vs : List (Nat × Value)) (hop : o.op = .buildSlice T n parts) (hu : P.underlying T = some (.slice e)) (hI : (P.info? e).map (fun i => (i.size, decide (i.bytes ≤ 128), i.zero)) = some (size, true, some z))
    (hp : (parts.map fun (i, x) => (i, a.eval x)).toList = vs) (hl : us.length = n * size) (hf : Instr.fill (fun i => some (i * size, size)) ((Array.range (n * size)).map (z.cells[· % z.cells.size]!)) vs = some us.toArray) (h1 : (decide (0 < n * size)) = true) (h2 : (decide (n * size < 10000)) = true) (h3 : (decide (n < 10000)) = true) (hB : B ≤ w.heap.size) :
    ∃ v w', (execOp a.eval o).run P w = .ok (.value v) w' ∧ w'.ownsRow B e size v n us ∧ Below w.heap.size w w' := by
  obtain ⟨i, hi, hs, hb, hz⟩ := info_of hI
  have h1 := of_decide_eq_true h1
  have h2 := of_decide_eq_true h2
  have h3 := of_decide_eq_true h3
  subst hs
  have hr := run_buildSlice (P := P) w T e n (parts.map fun (i, x) => (i, a.eval x)) us.toArray i z hu hi hz (by omega) (by omega) (by rw [hp]; exact hf)
  refine ⟨_, _, ?_, ⟨hl, .inr ⟨w.heap.size, n, us.toArray, rfl, hB, ?_, Nat.le_refl _, by unfold maxLen; omega, by simpa using hl, by rw [← hl]; simp⟩⟩, (Below.refl _ _).alloc (Nat.le_refl _) (.cells us.toArray e)⟩
  · unfold execOp
    rw [hop]
    simp only [Sem.run_bind, hr, Result.andThen_ok]
    rfl
  · show (w.heap.push _)[w.heap.size]? = _; simp
end Go.Proofs.Eng
namespace Go.Proofs.YtgnmjaacnmkgnaaGreatDoor.X
open Go.RowKit Go.Shelf Go.Proofs
set_option linter.unusedVariables false
set_option linter.unusedSimpArgs false
namespace Pri
def strs (l : List ByteArray) : List Value := l.map Value.string
def joinB (l : List ByteArray) : ByteArray := ⟨(Lib.join (l.map (·.data.toList)) [32]).toArray⟩
theorem join_calls {W : World} {B : Nat} {v : Value} {l : List ByteArray} (O : W.ownsRow B 9 1 v l.length (strs l)) (hne : 0 < l.length) (hn : l.length ≤ 100) (hlen : (Lib.join (l.map (·.data.toList)) [32]).length ≤ 140737488355328) : Calls Tryz.prog 51 #[v, .string ⟨#[32]⟩] W fun e w' => e = .returned (.string (joinB l)) ∧ Below W.heap.size W w' := by
  rcases O.2 with ⟨_, h0⟩ | ⟨g, cap, cur, rfl, hb, hg, hnc, hcm, hcs, htake⟩
  · omega
  · refine (Tryz.strings_Join g 0 cap l ⟨#[32]⟩ W (fun j x hj => ?_) (Array.getElem?_eq_some_iff.1 hg).1 (by omega) hnc hlen)
    have hc := O.cells (g := g) rfl j (.string x) (by unfold strs; rw [List.getElem?_map, hj]; rfl)
    have e : (⟨g, 0, none⟩ : Addr).add j = ⟨g, 0 + j, none⟩ := by
      unfold Addr.add; split <;> simp_all
    rw [e] at hc; exact hc
theorem join_len1 {a : ByteArray} {m : Nat} (h : a.size ≤ m) (hm : m ≤ 100000000) : (Lib.join ([a].map (·.data.toList)) [32]).length ≤ 140737488355328 := by
  have : (Lib.join ([a].map (·.data.toList)) [32]).length = a.size := by
    show (Lib.join [a.data.toList] [32]).length = _
    rw [Lib.join_one, Array.length_toList]; rfl
  omega
theorem join_len2 {a b : ByteArray} {m n : Nat} (h : a.size ≤ m) (h2 : b.size ≤ n) (hm : m ≤ 100000000) (hn : n ≤ 100000000) : (Lib.join ([a, b].map (·.data.toList)) [32]).length ≤ 140737488355328 := by
  have : (Lib.join ([a, b].map (·.data.toList)) [32]).length = a.size + 1 + b.size := by
    have e1 : a.data.toList.length = a.size := Array.length_toList
    have e2 : b.data.toList.length = b.size := Array.length_toList
    show (List.intercalate [32] [a.data.toList, b.data.toList]).length = _
    show (a.data.toList ++ ([32] ++ (b.data.toList ++ []))).length = _
    rw [List.length_append, List.length_append, List.append_nil, e1, e2]
    show a.size + (1 + b.size) = _
    omega
  omega
theorem colon_size {q : ByteArray} {m : Nat} (h : q.size ≤ m) : ((⟨#[58]⟩ : ByteArray) ++ q).size ≤ m + 1 := by
  rw [ByteArray.size_append]; show 1 + q.size ≤ _; omega
def lineB (x : Evt.Ev) (nm q : ByteArray) : ByteArray := if x.plain = true then joinB [nm, (⟨#[58]⟩ : ByteArray) ++ q] else if x.kind = 6 then joinB [nm, q] else joinB [nm]
end Pri
end Go.Proofs.YtgnmjaacnmkgnaaGreatDoor.X
end
section
namespace Go.Proofs.YtgnmjaacnmkgnaaGreatDoor.X
open Go.RowKit Go.Shelf Go.Proofs Go.Proofs.YtgnmjaacnmkgnaaGreatDoorW.PrintWords Go.Proofs.YtgnmjaacnmkgnaaGreatDoorW.PrintLast Go.Proofs.YtgnmjaacnmkgnaaGreatDoorW.PrintMore
set_option linter.unusedVariables false
set_option linter.unusedSimpArgs false
attribute [local go_sem] max2_int min2_int max_two min_two
set_option maxHeartbeats 4000000 in
set_option maxRecDepth 100000 in
theorem Pri.line_calls (x : Evt.Ev) (nm q : ByteArray) (w : World) (hT : Tabs.Holds w) (hnm : ∀ w, Calls Tryz.prog 48 #[.int .i64 x.kind] w fun e w' => e = .returned (.string nm) ∧ Below w.heap.size w w') (hq : ∀ w, Tabs.Holds w → Calls Tryz.prog 50 #[.string x.text] w fun e w' => e = .returned (.string q) ∧ Below w.heap.size w w') (h7 : x.kind ≠ 7) (hA : x.anchor.toList.isEmpty = true) (hG : x.tag.toList.isEmpty = true) (hz : nm.size ≤ 1000000) (hz2 : q.size ≤ 1000000) : Calls Tryz.prog 29 #[.agg #[.int .i64 x.kind, .string x.anchor, .string x.tag, .string x.text, .bool x.plain]] w fun e w' => e = .returned (.string (Pri.lineB x nm q)) ∧ Below w.heap.size w w' := by
 refine Eng.enter Tryz.func29 rfl fun act0 d0 s0 v0 => ?_
 have s0 : act0.tmps.size = 58 := s0
 have h0_0 : act0.eval (.tmp 0) = .agg #[.int .i64 x.kind, .string x.anchor, .string x.tag, .string x.text, .bool x.plain] := v0 0 (by simp)
 clear v0
 have bl0 : Below w.heap.size w w := Below.refl _ _
 refine wp_seq ?_
 refine Eng.regionS (Eng.still [fun u_ => True, fun u_ => u_ = .string ⟨#[]⟩]) (fun i => ([.alloc 29 #[.int .i64 x.kind, .string x.anchor, .string x.tag, .string x.text, .bool x.plain], .plain] : List Eng.Kind).getD i .plain) 2 0 58 s0 rfl (by kernel_rfl) (Eng.still_stable _) (Or.inr (Eng.still_any _)) ?_ ?_
 ·refine .cons (fun _ => ?_) (.cons (fun _ => ?_) (.nil))
  ·refine Eng.made rfl (by simp) rfl (fun a w' hd ho => ?_) (fun _ _ => trivial)
   exact Eng.run_box rfl ((ho 0 (by kernel_rfl)).trans h0_0)
  ·exact Eng.plain rfl rfl fun a w' H => Eng.vr rfl (Eng.run_assign rfl (rfl : a.eval (.const (.string ⟨#[]⟩)) = .string ⟨#[]⟩))
 intro act1 w1 T
 obtain ⟨g1_1, h1_1, rg1_1, lg1_1_1, kg1_1_1⟩ := T.al 0 1 _ _ rfl rfl rfl (by kernel_rfl)
 have d1 := T.defers.trans d0
 have s1 := T.size.trans s0
 have bl1 := bl0.trans (T.below.mono bl0.size)
 clear T
 refine Eng.tail_nil ?_
 first | show Code.wp Tryz.prog _ _ _ _ | skip
 refine wp_seq ?_
 refine (wpIn_wide (n := 1)).1 ?_
 refine EngI.regionT (n := 5) rfl ?_
 refine EngI.tail_val (w1 := w1) (v := .pointer (some ⟨g1_1, 0, none⟩)) EngI.free_wide rfl rfl rfl rfl ?_ s1 rfl ?_
 ·exact Eng.run_fieldb rfl Tryz.underlying29 0 (by kernel_rfl) h1_1
 intro act2 d2 s2 hv hr
 have h1_2 := (hr 1 rfl).trans h1_1
 have h4_2 : act2.eval (.tmp 4) = .pointer (some ⟨g1_1, 0, none⟩) := hv
 have d2 := d2.trans d1
 clear hv hr
 refine EngI.tail_val (w1 := w1) (v := .int .i64 x.kind) EngI.free_wide rfl rfl rfl rfl ?_ s2 rfl ?_
 ·exact Eng.run_loadb rfl h4_2 (((Below.refl _ _).block _ lg1_1_1).trans kg1_1_1) rfl (by kernel_rfl)
 intro act3 d3 s3 hv hr
 have h1_3 := (hr 1 rfl).trans h1_2
 have h5_3 : act3.eval (.tmp 5) = .int .i64 x.kind := hv
 have d3 := d3.trans d2
 clear hv hr
 refine EngI.tail_call EngI.free_wide Tryz.func48 (by kernel_rfl) (by kernel_rfl) rfl rfl rfl rfl #[.int .i64 x.kind] (by have e0 : act3.eval (.tmp 5) = .int .i64 x.kind := h5_3; simp only [List.map_toArray, List.map_cons, List.map_nil, e0]) s3 rfl (R := fun v w_ => v = .string nm ∧ Below w1.heap.size w1 w_) ((hnm _).mono ?_) fun v_4 w4 act4 R d4 s4 hv hr => ?_
 ·rintro e w_ ⟨rfl, hb⟩; exact ⟨_, rfl, rfl, hb⟩
 obtain ⟨ev_4, b_4⟩ := R
 have h1_4 := (hr 1 rfl).trans h1_3
 have h6_4 : act4.eval (.tmp 6) = .string nm := (hv.trans ev_4)
 have d4 := d4.trans d3
 clear hv hr
 have kg1_1_4 := (b_4.block _ lg1_1_1).trans kg1_1_1
 have lg1_1_4 := Nat.lt_of_lt_of_le lg1_1_1 b_4.size
 have bl4 := bl1.trans (b_4.mono bl1.size)
 refine EngI.tail_ex EngI.free_wide rfl rfl rfl rfl (Eng.build_own (B := w.heap.size) (size := 1) (z := .string ⟨#[]⟩) (us := Pri.strs [nm]) [(0, .string nm)] rfl Tryz.underlying78 (by kernel_rfl) (by have e0 : act4.eval (.tmp 6) = .string nm := h6_4; simp only [List.map_toArray, List.map_cons, List.map_nil, e0]) rfl (by kernel_rfl) rfl rfl rfl bl4.size) s4 rfl fun v_5 w5 act5 R d5 s5 hv hr => ?_
 obtain ⟨O_5, b_5⟩ := R
 have h1_5 := (hr 1 rfl).trans h1_4
 have h7_5 : act5.eval (.tmp 7) = v_5 := hv
 have d5 := d5.trans d4
 clear hv hr
 have kg1_1_5 := (b_5.block _ lg1_1_4).trans kg1_1_4
 have lg1_1_5 := Nat.lt_of_lt_of_le lg1_1_4 b_5.size
 have bl5 := bl4.trans (b_5.mono bl4.size)
 have F_5 := Eng.Reads.of_own O_5
 refine EngI.tail_val EngI.free_wide rfl rfl rfl rfl (Eng.run_assign rfl h7_5) s5 rfl fun act6 d6 s6 hv hr => ?_
 have h1_6 := (hr 1 rfl).trans h1_5
 have h3_6 : act6.eval (.tmp 3) = v_5 := hv
 have d6 := d6.trans d5
 clear hv hr
 refine EngI.tail_nil ?_
 first | show Code.wp Tryz.prog _ _ _ _ | skip
 refine wp_seq ?_
 refine wp_seq ?_
 obtain ⟨q10, Bq10⟩ : ∃ b : Bool, b = (x.kind == 7) := ⟨_, rfl⟩
 refine Eng.regionS (Eng.still [fun u_ => u_ = .pointer (some ⟨g1_1, 0, none⟩), fun u_ => u_ = .int .i64 x.kind, fun u_ => u_ = .bool q10]) (fun _ => .plain) 3 0 58 s6 rfl (by kernel_rfl) (Eng.still_stable _) (Or.inr (Eng.still_any _)) ?_ ?_
 ·refine .cons (fun _ => ?_) (.cons (fun _ => ?_) (.cons (fun _ => ?_) (.nil)))
  ·exact Eng.plain rfl rfl fun a w' H => Eng.vr rfl (Eng.run_fieldb rfl Tryz.underlying29 0 (by kernel_rfl) ((H.kept 1 (by kernel_rfl)).trans h1_6))
  ·exact Eng.plain rfl rfl fun a w' H => Eng.vr rfl (Eng.run_loadb rfl (H.dep 0 8 (by kernel_rfl) rfl) ((H.below.block _ lg1_1_5).trans kg1_1_5) rfl (by kernel_rfl))
  ·refine Eng.plain rfl rfl fun a w' H => ?_
   refine Eng.vr (v := .bool (x.kind == 7)) (by show _ = Value.bool q10; rw [Bq10]) ?_
   have e0 : a.eval (.tmp 9) = .int .i64 x.kind := (H.dep 1 9 (by kernel_rfl) rfl)
   have e1 : a.eval (.const (.int .i64 7)) = .int .i64 7 := (rfl : a.eval (.const (.int .i64 7)) = .int .i64 7)
   simp only [execOp, resolve, List.map_toArray, List.map_cons, List.map_nil, e0, e1]
   go_simp
   all_goals first | rfl | (simp; done) | (rw [Bool.eq_iff_iff]; simp; done) | omega | (split <;> first | (simp_all; done) | (split <;> simp_all; done)) | skip
 intro act7 w7 T
 have h1_7 := (T.rest 1 (by kernel_rfl)).trans h1_6
 have h3_7 := (T.rest 3 (by kernel_rfl)).trans h3_6
 have kg1_1_7 := (T.below.block _ lg1_1_5).trans kg1_1_5
 have lg1_1_7 := Nat.lt_of_lt_of_le lg1_1_5 T.below.size
 have Ol_7 := Eng.own_below O_5 T.below
 have h10_7 : act7.eval (.tmp 10) = .bool q10 := T.done 2 10 rfl rfl
 have d7 := T.defers.trans d6
 have s7 := T.size.trans s6
 have bl7 := bl5.trans (T.below.mono bl5.size)
 clear T
 refine Eng.tail_nil ?_
 first | show Code.wp Tryz.prog _ _ _ _ | skip
 have n10 : q10 = false := by
  try simp only [Bq10]
  rw [beq_eq_false_iff_ne]; exact h7
 refine wp_cond_false (h10_7.trans (by rw [n10])) ?_
 refine wp_skip ?_
 first | show Code.wp Tryz.prog _ _ _ _ | skip
 refine wp_seq ?_
 refine wp_seq ?_
 obtain ⟨q20, Bq20⟩ : ∃ b : Bool, b = (!(x.anchor.toList.isEmpty)) := ⟨_, rfl⟩
 refine Eng.regionS (Eng.still [fun u_ => u_ = .pointer (some ⟨g1_1, 1, none⟩), fun u_ => u_ = .string x.anchor, fun u_ => u_ = .bool q20]) (fun _ => .plain) 3 0 58 s7 rfl (by kernel_rfl) (Eng.still_stable _) (Or.inr (Eng.still_any _)) ?_ ?_
 ·refine .cons (fun _ => ?_) (.cons (fun _ => ?_) (.cons (fun _ => ?_) (.nil)))
  ·exact Eng.plain rfl rfl fun a w' H => Eng.vr rfl (Eng.run_fieldb rfl Tryz.underlying29 1 (by kernel_rfl) ((H.kept 1 (by kernel_rfl)).trans h1_7))
  ·exact Eng.plain rfl rfl fun a w' H => Eng.vr rfl (Eng.run_loadb rfl (H.dep 0 18 (by kernel_rfl) rfl) ((H.below.block _ lg1_1_7).trans kg1_1_7) rfl (by kernel_rfl))
  ·refine Eng.plain rfl rfl fun a w' H => ?_
   refine Eng.vr (v := .bool (!(x.anchor.toList.isEmpty))) (by show _ = Value.bool q20; rw [Bq20]) ?_
   have e0 : a.eval (.tmp 19) = .string x.anchor := (H.dep 1 19 (by kernel_rfl) rfl)
   have e1 : a.eval (.const (.string ⟨#[]⟩)) = .string ⟨#[]⟩ := (rfl : a.eval (.const (.string ⟨#[]⟩)) = .string ⟨#[]⟩)
   simp only [execOp, resolve, List.map_toArray, List.map_cons, List.map_nil, e0, e1]
   go_simp
   all_goals first | rfl | (simp; done) | (rw [Bool.eq_iff_iff]; simp; done) | omega | (split <;> first | (simp_all; done) | (split <;> simp_all; done)) | skip
 intro act8 w8 T
 have h1_8 := (T.rest 1 (by kernel_rfl)).trans h1_7
 have h3_8 := (T.rest 3 (by kernel_rfl)).trans h3_7
 have kg1_1_8 := (T.below.block _ lg1_1_7).trans kg1_1_7
 have lg1_1_8 := Nat.lt_of_lt_of_le lg1_1_7 T.below.size
 have Ol_8 := Eng.own_below Ol_7 T.below
 have h20_8 : act8.eval (.tmp 20) = .bool q20 := T.done 2 20 rfl rfl
 have d8 := T.defers.trans d7
 have s8 := T.size.trans s7
 have bl8 := bl7.trans (T.below.mono bl7.size)
 clear T
 refine Eng.tail_nil ?_
 first | show Code.wp Tryz.prog _ _ _ _ | skip
 have n20 : q20 = false := by
  try simp only [Bq20, Bq10]
  rw [hA]; rfl
 refine wp_cond_false (h20_8.trans (by rw [n20])) ?_
 refine wp_skip ?_
 first | show Code.wp Tryz.prog _ _ _ _ | skip
 refine wp_seq ?_
 refine wp_seq ?_
 obtain ⟨q29, Bq29⟩ : ∃ b : Bool, b = (!(x.tag.toList.isEmpty)) := ⟨_, rfl⟩
 refine Eng.regionS (Eng.still [fun u_ => u_ = .pointer (some ⟨g1_1, 2, none⟩), fun u_ => u_ = .string x.tag, fun u_ => u_ = .bool q29]) (fun _ => .plain) 3 0 58 s8 rfl (by kernel_rfl) (Eng.still_stable _) (Or.inr (Eng.still_any _)) ?_ ?_
 ·refine .cons (fun _ => ?_) (.cons (fun _ => ?_) (.cons (fun _ => ?_) (.nil)))
  ·exact Eng.plain rfl rfl fun a w' H => Eng.vr rfl (Eng.run_fieldb rfl Tryz.underlying29 2 (by kernel_rfl) ((H.kept 1 (by kernel_rfl)).trans h1_8))
  ·exact Eng.plain rfl rfl fun a w' H => Eng.vr rfl (Eng.run_loadb rfl (H.dep 0 27 (by kernel_rfl) rfl) ((H.below.block _ lg1_1_8).trans kg1_1_8) rfl (by kernel_rfl))
  ·refine Eng.plain rfl rfl fun a w' H => ?_
   refine Eng.vr (v := .bool (!(x.tag.toList.isEmpty))) (by show _ = Value.bool q29; rw [Bq29]) ?_
   have e0 : a.eval (.tmp 28) = .string x.tag := (H.dep 1 28 (by kernel_rfl) rfl)
   have e1 : a.eval (.const (.string ⟨#[]⟩)) = .string ⟨#[]⟩ := (rfl : a.eval (.const (.string ⟨#[]⟩)) = .string ⟨#[]⟩)
   simp only [execOp, resolve, List.map_toArray, List.map_cons, List.map_nil, e0, e1]
   go_simp
   all_goals first | rfl | (simp; done) | (rw [Bool.eq_iff_iff]; simp; done) | omega | (split <;> first | (simp_all; done) | (split <;> simp_all; done)) | skip
 intro act9 w9 T
 have h1_9 := (T.rest 1 (by kernel_rfl)).trans h1_8
 have h3_9 := (T.rest 3 (by kernel_rfl)).trans h3_8
 have kg1_1_9 := (T.below.block _ lg1_1_8).trans kg1_1_8
 have lg1_1_9 := Nat.lt_of_lt_of_le lg1_1_8 T.below.size
 have Ol_9 := Eng.own_below Ol_8 T.below
 have h29_9 : act9.eval (.tmp 29) = .bool q29 := T.done 2 29 rfl rfl
 have d9 := T.defers.trans d8
 have s9 := T.size.trans s8
 have bl9 := bl8.trans (T.below.mono bl8.size)
 clear T
 refine Eng.tail_nil ?_
 first | show Code.wp Tryz.prog _ _ _ _ | skip
 have n29 : q29 = false := by
  try simp only [Bq29, Bq20, Bq10]
  rw [hG]; rfl
 refine wp_cond_false (h29_9.trans (by rw [n29])) ?_
 refine wp_skip ?_
 first | show Code.wp Tryz.prog _ _ _ _ | skip
 refine wp_seq ?_
 refine wp_block ?_
 refine wp_seq ?_
 refine Eng.regionS (Eng.still [fun u_ => u_ = .pointer (some ⟨g1_1, 4, none⟩), fun u_ => u_ = .bool x.plain, fun u_ => u_ = .bool x.plain]) (fun _ => .plain) 3 0 58 s9 rfl (by kernel_rfl) (Eng.still_stable _) (Or.inr (Eng.still_any _)) ?_ ?_
 ·refine .cons (fun _ => ?_) (.cons (fun _ => ?_) (.cons (fun _ => ?_) (.nil)))
  ·exact Eng.plain rfl rfl fun a w' H => Eng.vr rfl (Eng.run_fieldb rfl Tryz.underlying29 4 (by kernel_rfl) ((H.kept 1 (by kernel_rfl)).trans h1_9))
  ·exact Eng.plain rfl rfl fun a w' H => Eng.vr rfl (Eng.run_loadb rfl (H.dep 0 37 (by kernel_rfl) rfl) ((H.below.block _ lg1_1_9).trans kg1_1_9) rfl (by kernel_rfl))
  ·exact Eng.plain rfl rfl fun a w' H => Eng.vr rfl (Eng.run_assign rfl (H.dep 1 38 (by kernel_rfl) rfl))
 intro act10 w10 T
 have h1_10 := (T.rest 1 (by kernel_rfl)).trans h1_9
 have h3_10 := (T.rest 3 (by kernel_rfl)).trans h3_9
 have kg1_1_10 := (T.below.block _ lg1_1_9).trans kg1_1_9
 have lg1_1_10 := Nat.lt_of_lt_of_le lg1_1_9 T.below.size
 have Ol_10 := Eng.own_below Ol_9 T.below
 have h36_10 : act10.eval (.tmp 36) = .bool x.plain := T.done 2 36 rfl rfl
 have d10 := T.defers.trans d9
 have s10 := T.size.trans s9
 have bl10 := bl9.trans (T.below.mono bl9.size)
 clear T
 refine Eng.tail_nil ?_
 first | show Code.wp Tryz.prog _ _ _ _ | skip
 refine wp_cond_split h36_10 (fun hq => ?_) (fun hq => ?_)
 ·
  have c36 := hq
  clear hq
  have hpl := c36
  refine (wpIn_wide (n := 1)).1 ?_
  refine EngI.regionT (n := 8) rfl ?_
  refine EngI.tail_val EngI.free_wide rfl rfl rfl rfl (Eng.run_move rfl h3_10) s10 rfl fun act12 d12 s12 hv hr => ?_
  have h1_12 := (hr 1 rfl).trans h1_10
  have h39_12 : act12.eval (.tmp 39) = v_5 := hv
  have d12 := d12.trans d10
  clear hv hr
  refine EngI.tail_val (w1 := w10) (v := .pointer (some ⟨g1_1, 3, none⟩)) EngI.free_wide rfl rfl rfl rfl ?_ s12 rfl ?_
  ·exact Eng.run_fieldb rfl Tryz.underlying29 3 (by kernel_rfl) h1_12
  intro act13 d13 s13 hv hr
  have h39_13 := (hr 39 rfl).trans h39_12
  have h40_13 : act13.eval (.tmp 40) = .pointer (some ⟨g1_1, 3, none⟩) := hv
  have d13 := d13.trans d12
  clear hv hr
  refine EngI.tail_val (w1 := w10) (v := .string x.text) EngI.free_wide rfl rfl rfl rfl ?_ s13 rfl ?_
  ·exact Eng.run_loadb rfl h40_13 (((Below.refl _ _).block _ lg1_1_10).trans kg1_1_10) rfl (by kernel_rfl)
  intro act14 d14 s14 hv hr
  have h39_14 := (hr 39 rfl).trans h39_13
  have h41_14 : act14.eval (.tmp 41) = .string x.text := hv
  have d14 := d14.trans d13
  clear hv hr
  refine EngI.tail_call EngI.free_wide Tryz.func50 (by kernel_rfl) (by kernel_rfl) rfl rfl rfl rfl #[.string x.text] (by have e0 : act14.eval (.tmp 41) = .string x.text := h41_14; simp only [List.map_toArray, List.map_cons, List.map_nil, e0]) s14 rfl (R := fun v w_ => v = .string q ∧ Below w10.heap.size w10 w_) ((hq _ (Tabs.below (Tabs.below hT bl10) (Below.refl _ _))).mono ?_) fun v_15 w15 act15 R d15 s15 hv hr => ?_
  ·rintro e w_ ⟨rfl, hb⟩; exact ⟨_, rfl, rfl, hb⟩
  obtain ⟨ev_15, b_15⟩ := R
  have h39_15 := (hr 39 rfl).trans h39_14
  have h42_15 : act15.eval (.tmp 42) = .string q := (hv.trans ev_15)
  have d15 := d15.trans d14
  clear hv hr
  have Ol_15 := Eng.own_below Ol_10 b_15
  have bl15 := bl10.trans (b_15.mono bl10.size)
  refine EngI.tail_val (w1 := w15) (v := .string ((⟨#[58]⟩ : ByteArray) ++ q)) EngI.free_wide rfl rfl rfl rfl ?_ s15 rfl ?_
  ·exact (Pri.run_add_str rfl (show act15.eval _ = .string ⟨#[58]⟩ from (rfl : act15.eval (.const (.string ⟨#[58]⟩)) = .string ⟨#[58]⟩)) (show act15.eval (.tmp 42) = .string q from h42_15) (by show 1 + _ ≤ _; omega)).trans (by rfl)
  intro act16 d16 s16 hv hr
  have h39_16 := (hr 39 rfl).trans h39_15
  have h43_16 : act16.eval (.tmp 43) = .string ((⟨#[58]⟩ : ByteArray) ++ q) := hv
  have d16 := d16.trans d15
  clear hv hr
  refine EngI.tail_ex EngI.free_wide rfl rfl rfl rfl (Eng.run_buildN1 (z := .string ⟨#[]⟩) [.string ((⟨#[58]⟩ : ByteArray) ++ q)] rfl Tryz.underlying78 (by kernel_rfl) rfl rfl rfl rfl (by intro v hv; have h := List.mem_singleton.1 hv; rw [h]; exact rfl) (by have e0 : act16.eval (.tmp 43) = .string ((⟨#[58]⟩ : ByteArray) ++ q) := h43_16; simp [e0])) s16 rfl fun v_17 w17 act17 R d17 s17 hv hr => ?_
  obtain ⟨F_17, b_17⟩ := R
  have h39_17 := (hr 39 rfl).trans h39_16
  have h44_17 : act17.eval (.tmp 44) = v_17 := hv
  have d17 := d17.trans d16
  clear hv hr
  have Ol_17 := Eng.own_below Ol_15 b_17
  have bl17 := bl15.trans (b_17.mono bl15.size)
  refine EngI.tail_ex EngI.free_wide rfl rfl rfl rfl (Eng.run_appendI (z := .string ⟨#[]⟩) rfl Tryz.underlying78 (by kernel_rfl) rfl rfl h39_17 Ol_17 h44_17 F_17 (by intro u hu; simp only [List.mem_cons, List.not_mem_nil, or_false] at hu; rcases hu with rfl; rfl) (by decide) bl17.size) s17 rfl fun v_18 w18 act18 R d18 s18 hv hr => ?_
  obtain ⟨O_18, _, b_18, G_18, EO_18⟩ := R
  have h45_18 : act18.eval (.tmp 45) = v_18 := hv
  have d18 := d18.trans d17
  clear hv hr
  have bl18 := bl17.trans b_18
  have Oa18 : w18.ownsRow w.heap.size 9 1 v_18 2 (Pri.strs [nm, ((⟨#[58]⟩ : ByteArray) ++ q)]) := O_18
  have Fa18 := Eng.Reads.of_own Oa18
  refine EngI.tail_val EngI.free_wide rfl rfl rfl rfl (Eng.run_assign rfl h45_18) s18 rfl fun act19 d19 s19 hv hr => ?_
  have h3_19 : act19.eval (.tmp 3) = v_18 := hv
  have d19 := d19.trans d18
  clear hv hr
  refine EngI.tail_nil ?_
  first | show Code.wp Tryz.prog _ _ _ _ | skip
  refine wp_seq ?_
  refine (wpIn_wide (n := 1)).1 ?_
  refine EngI.regionS EngI.free_wide (Eng.still [fun u_ => u_ = v_18]) (fun _ => .plain) 1 2 58 s19 rfl (by kernel_rfl) (Eng.still_stable _) (Or.inr (Eng.still_any _)) (by kernel_rfl) ?_ ?_
  ·refine .cons (fun _ => ?_) (.cons (fun h => absurd h (by decide)) (.cons (fun h => absurd h (by decide)) (.nil)))
   ·exact Eng.plain rfl rfl fun a w' H => Eng.vr rfl (Eng.run_move rfl ((H.kept 3 (by kernel_rfl)).trans h3_19))
  intro act20 w20 T
  have Oa18_20 := Eng.own_below Oa18 T.below
  have h56_20 : act20.eval (.tmp 56) = v_18 := T.done 0 56 rfl rfl
  have d20 := T.defers.trans d19
  have s20 := T.size.trans s19
  have bl20 := bl18.trans (T.below.mono bl18.size)
  clear T
  refine EngI.tail_call EngI.free_wide Tryz.func51 (by kernel_rfl) (by kernel_rfl) rfl rfl rfl rfl #[v_18, .string ⟨#[32]⟩] (by have e0 : act20.eval (.tmp 56) = v_18 := h56_20; have e1 : act20.eval (.const (.string ⟨#[32]⟩)) = .string ⟨#[32]⟩ := (rfl : act20.eval (.const (.string ⟨#[32]⟩)) = .string ⟨#[32]⟩); simp only [List.map_toArray, List.map_cons, List.map_nil, e0, e1]) s20 rfl (R := fun v w' => v = .string (Pri.joinB [nm, ((⟨#[58]⟩ : ByteArray) ++ q)]) ∧ Below w20.heap.size w20 w') ((Pri.join_calls (l := [nm, ((⟨#[58]⟩ : ByteArray) ++ q)]) Oa18_20 (Nat.zero_lt_succ _) (by show 2 ≤ 100; omega) (Pri.join_len2 hz (Pri.colon_size hz2) (by omega) (by omega))).mono ?_) fun v_21 w21 act21 R d21 s21 hv hr => ?_
  ·rintro e w1 ⟨rfl, h2⟩; exact ⟨_, rfl, rfl, h2⟩
  have h57_21 : act21.eval (.tmp 57) = v_21 := hv
  have d21 := d21.trans d20
  clear hv hr
  obtain ⟨ev_21, b_21⟩ := R
  rw [ev_21] at h57_21
  have bl21 := bl20.trans (b_21.mono bl20.size)
  refine EngI.tail_val EngI.free_wide rfl rfl rfl rfl (Eng.run_assign rfl h57_21) s21 rfl fun act22 d22 s22 hv hr => ?_
  have h2_22 : act22.eval (.tmp 2) = .string (Pri.joinB [nm, ((⟨#[58]⟩ : ByteArray) ++ q)]) := hv
  have d22 := d22.trans d21
  clear hv hr
  refine EngI.tail_nil ?_
  first | show Code.wp Tryz.prog _ _ _ _ | skip
  refine wp_ret ?_
  repeat (first | with_reducible refine Eng.in_ret ?_ | with_reducible refine Eng.then_ret ?_)
  exact Eng.ret1 rfl d22 h2_22 ⟨by unfold Pri.lineB; first | (rw [if_pos hpl]; done) | (rw [if_neg (by rw [hpl]; decide), if_pos hk6]; done) | (rw [if_neg (by rw [hpl]; decide), if_neg hk6]; done), bl21⟩
 ·
  have c36 := hq
  clear hq
  have hpl := c36
  refine wp_seq ?_
  obtain ⟨q49, Bq49⟩ : ∃ b : Bool, b = (x.kind == 6) := ⟨_, rfl⟩
  refine Eng.regionS (Eng.still [fun u_ => u_ = .pointer (some ⟨g1_1, 0, none⟩), fun u_ => u_ = .int .i64 x.kind, fun u_ => u_ = .bool q49, fun u_ => u_ = .bool q49]) (fun _ => .plain) 4 0 58 s10 rfl (by kernel_rfl) (Eng.still_stable _) (Or.inr (Eng.still_any _)) ?_ ?_
  ·refine .cons (fun _ => ?_) (.cons (fun _ => ?_) (.cons (fun _ => ?_) (.cons (fun _ => ?_) (.nil))))
   ·exact Eng.plain rfl rfl fun a w' H => Eng.vr rfl (Eng.run_fieldb rfl Tryz.underlying29 0 (by kernel_rfl) ((H.kept 1 (by kernel_rfl)).trans h1_10))
   ·exact Eng.plain rfl rfl fun a w' H => Eng.vr rfl (Eng.run_loadb rfl (H.dep 0 47 (by kernel_rfl) rfl) ((H.below.block _ lg1_1_10).trans kg1_1_10) rfl (by kernel_rfl))
   ·refine Eng.plain rfl rfl fun a w' H => ?_
    refine Eng.vr (v := .bool (x.kind == 6)) (by show _ = Value.bool q49; rw [Bq49]) ?_
    have e0 : a.eval (.tmp 48) = .int .i64 x.kind := (H.dep 1 48 (by kernel_rfl) rfl)
    have e1 : a.eval (.const (.int .i64 6)) = .int .i64 6 := (rfl : a.eval (.const (.int .i64 6)) = .int .i64 6)
    simp only [execOp, resolve, List.map_toArray, List.map_cons, List.map_nil, e0, e1]
    go_simp
    all_goals first | rfl | (simp; done) | (rw [Bool.eq_iff_iff]; simp; done) | omega | (split <;> first | (simp_all; done) | (split <;> simp_all; done)) | skip
   ·exact Eng.plain rfl rfl fun a w' H => Eng.vr rfl (Eng.run_assign rfl (H.dep 2 49 (by kernel_rfl) rfl))
  intro act24 w24 T
  have h1_24 := (T.rest 1 (by kernel_rfl)).trans h1_10
  have h3_24 := (T.rest 3 (by kernel_rfl)).trans h3_10
  have kg1_1_24 := (T.below.block _ lg1_1_10).trans kg1_1_10
  have lg1_1_24 := Nat.lt_of_lt_of_le lg1_1_10 T.below.size
  have Ol_24 := Eng.own_below Ol_10 T.below
  have h46_24 : act24.eval (.tmp 46) = .bool q49 := T.done 3 46 rfl rfl
  have d24 := T.defers.trans d10
  have s24 := T.size.trans s10
  have bl24 := bl10.trans (T.below.mono bl10.size)
  clear T
  refine Eng.tail_nil ?_
  first | show Code.wp Tryz.prog _ _ _ _ | skip
  refine wp_cond_split h46_24 (fun hq => ?_) (fun hq => ?_)
  ·
   have c46 := Bq49.symm.trans hq
   clear hq
   have hk6 : x.kind = 6 := by simpa using c46
   refine (wpIn_wide (n := 1)).1 ?_
   refine EngI.regionT (n := 7) rfl ?_
   refine EngI.tail_val EngI.free_wide rfl rfl rfl rfl (Eng.run_move rfl h3_24) s24 rfl fun act26 d26 s26 hv hr => ?_
   have h1_26 := (hr 1 rfl).trans h1_24
   have h50_26 : act26.eval (.tmp 50) = v_5 := hv
   have d26 := d26.trans d24
   clear hv hr
   refine EngI.tail_val (w1 := w24) (v := .pointer (some ⟨g1_1, 3, none⟩)) EngI.free_wide rfl rfl rfl rfl ?_ s26 rfl ?_
   ·exact Eng.run_fieldb rfl Tryz.underlying29 3 (by kernel_rfl) h1_26
   intro act27 d27 s27 hv hr
   have h50_27 := (hr 50 rfl).trans h50_26
   have h51_27 : act27.eval (.tmp 51) = .pointer (some ⟨g1_1, 3, none⟩) := hv
   have d27 := d27.trans d26
   clear hv hr
   refine EngI.tail_val (w1 := w24) (v := .string x.text) EngI.free_wide rfl rfl rfl rfl ?_ s27 rfl ?_
   ·exact Eng.run_loadb rfl h51_27 (((Below.refl _ _).block _ lg1_1_24).trans kg1_1_24) rfl (by kernel_rfl)
   intro act28 d28 s28 hv hr
   have h50_28 := (hr 50 rfl).trans h50_27
   have h52_28 : act28.eval (.tmp 52) = .string x.text := hv
   have d28 := d28.trans d27
   clear hv hr
   refine EngI.tail_call EngI.free_wide Tryz.func50 (by kernel_rfl) (by kernel_rfl) rfl rfl rfl rfl #[.string x.text] (by have e0 : act28.eval (.tmp 52) = .string x.text := h52_28; simp only [List.map_toArray, List.map_cons, List.map_nil, e0]) s28 rfl (R := fun v w_ => v = .string q ∧ Below w24.heap.size w24 w_) ((hq _ (Tabs.below (Tabs.below hT bl24) (Below.refl _ _))).mono ?_) fun v_29 w29 act29 R d29 s29 hv hr => ?_
   ·rintro e w_ ⟨rfl, hb⟩; exact ⟨_, rfl, rfl, hb⟩
   obtain ⟨ev_29, b_29⟩ := R
   have h50_29 := (hr 50 rfl).trans h50_28
   have h53_29 : act29.eval (.tmp 53) = .string q := (hv.trans ev_29)
   have d29 := d29.trans d28
   clear hv hr
   have Ol_29 := Eng.own_below Ol_24 b_29
   have bl29 := bl24.trans (b_29.mono bl24.size)
   refine EngI.tail_ex EngI.free_wide rfl rfl rfl rfl (Eng.run_buildN1 (z := .string ⟨#[]⟩) [.string q] rfl Tryz.underlying78 (by kernel_rfl) rfl rfl rfl rfl (by intro v hv; have h := List.mem_singleton.1 hv; rw [h]; exact rfl) (by have e0 : act29.eval (.tmp 53) = .string q := h53_29; simp [e0])) s29 rfl fun v_30 w30 act30 R d30 s30 hv hr => ?_
   obtain ⟨F_30, b_30⟩ := R
   have h50_30 := (hr 50 rfl).trans h50_29
   have h54_30 : act30.eval (.tmp 54) = v_30 := hv
   have d30 := d30.trans d29
   clear hv hr
   have Ol_30 := Eng.own_below Ol_29 b_30
   have bl30 := bl29.trans (b_30.mono bl29.size)
   refine EngI.tail_ex EngI.free_wide rfl rfl rfl rfl (Eng.run_appendI (z := .string ⟨#[]⟩) rfl Tryz.underlying78 (by kernel_rfl) rfl rfl h50_30 Ol_30 h54_30 F_30 (by intro u hu; simp only [List.mem_cons, List.not_mem_nil, or_false] at hu; rcases hu with rfl; rfl) (by decide) bl30.size) s30 rfl fun v_31 w31 act31 R d31 s31 hv hr => ?_
   obtain ⟨O_31, _, b_31, G_31, EO_31⟩ := R
   have h55_31 : act31.eval (.tmp 55) = v_31 := hv
   have d31 := d31.trans d30
   clear hv hr
   have bl31 := bl30.trans b_31
   have Oa31 : w31.ownsRow w.heap.size 9 1 v_31 2 (Pri.strs [nm, q]) := O_31
   have Fa31 := Eng.Reads.of_own Oa31
   refine EngI.tail_val EngI.free_wide rfl rfl rfl rfl (Eng.run_assign rfl h55_31) s31 rfl fun act32 d32 s32 hv hr => ?_
   have h3_32 : act32.eval (.tmp 3) = v_31 := hv
   have d32 := d32.trans d31
   clear hv hr
   refine EngI.tail_nil ?_
   first | show Code.wp Tryz.prog _ _ _ _ | skip
   refine wp_seq ?_
   refine (wpIn_wide (n := 1)).1 ?_
   refine EngI.regionS EngI.free_wide (Eng.still [fun u_ => u_ = v_31]) (fun _ => .plain) 1 2 58 s32 rfl (by kernel_rfl) (Eng.still_stable _) (Or.inr (Eng.still_any _)) (by kernel_rfl) ?_ ?_
   ·refine .cons (fun _ => ?_) (.cons (fun h => absurd h (by decide)) (.cons (fun h => absurd h (by decide)) (.nil)))
    ·exact Eng.plain rfl rfl fun a w' H => Eng.vr rfl (Eng.run_move rfl ((H.kept 3 (by kernel_rfl)).trans h3_32))
   intro act33 w33 T
   have Oa31_33 := Eng.own_below Oa31 T.below
   have h56_33 : act33.eval (.tmp 56) = v_31 := T.done 0 56 rfl rfl
   have d33 := T.defers.trans d32
   have s33 := T.size.trans s32
   have bl33 := bl31.trans (T.below.mono bl31.size)
   clear T
   refine EngI.tail_call EngI.free_wide Tryz.func51 (by kernel_rfl) (by kernel_rfl) rfl rfl rfl rfl #[v_31, .string ⟨#[32]⟩] (by have e0 : act33.eval (.tmp 56) = v_31 := h56_33; have e1 : act33.eval (.const (.string ⟨#[32]⟩)) = .string ⟨#[32]⟩ := (rfl : act33.eval (.const (.string ⟨#[32]⟩)) = .string ⟨#[32]⟩); simp only [List.map_toArray, List.map_cons, List.map_nil, e0, e1]) s33 rfl (R := fun v w' => v = .string (Pri.joinB [nm, q]) ∧ Below w33.heap.size w33 w') ((Pri.join_calls (l := [nm, q]) Oa31_33 (Nat.zero_lt_succ _) (by show 2 ≤ 100; omega) (Pri.join_len2 hz hz2 (by omega) (by omega))).mono ?_) fun v_34 w34 act34 R d34 s34 hv hr => ?_
   ·rintro e w1 ⟨rfl, h2⟩; exact ⟨_, rfl, rfl, h2⟩
   have h57_34 : act34.eval (.tmp 57) = v_34 := hv
   have d34 := d34.trans d33
   clear hv hr
   obtain ⟨ev_34, b_34⟩ := R
   rw [ev_34] at h57_34
   have bl34 := bl33.trans (b_34.mono bl33.size)
   refine EngI.tail_val EngI.free_wide rfl rfl rfl rfl (Eng.run_assign rfl h57_34) s34 rfl fun act35 d35 s35 hv hr => ?_
   have h2_35 : act35.eval (.tmp 2) = .string (Pri.joinB [nm, q]) := hv
   have d35 := d35.trans d34
   clear hv hr
   refine EngI.tail_nil ?_
   first | show Code.wp Tryz.prog _ _ _ _ | skip
   refine wp_ret ?_
   repeat (first | with_reducible refine Eng.in_ret ?_ | with_reducible refine Eng.then_ret ?_)
   exact Eng.ret1 rfl d35 h2_35 ⟨by unfold Pri.lineB; first | (rw [if_pos hpl]; done) | (rw [if_neg (by rw [hpl]; decide), if_pos hk6]; done) | (rw [if_neg (by rw [hpl]; decide), if_neg hk6]; done), bl34⟩
  ·
   have c46 := Bq49.symm.trans hq
   clear hq
   have hk6 : ¬ x.kind = 6 := by simpa using c46
   refine wp_skip ?_
   first | show Code.wp Tryz.prog _ _ _ _ | skip
   refine wp_seq ?_
   refine (wpIn_wide (n := 1)).1 ?_
   refine EngI.regionS EngI.free_wide (Eng.still [fun u_ => u_ = v_5]) (fun _ => .plain) 1 2 58 s24 rfl (by kernel_rfl) (Eng.still_stable _) (Or.inr (Eng.still_any _)) (by kernel_rfl) ?_ ?_
   ·refine .cons (fun _ => ?_) (.cons (fun h => absurd h (by decide)) (.cons (fun h => absurd h (by decide)) (.nil)))
    ·exact Eng.plain rfl rfl fun a w' H => Eng.vr rfl (Eng.run_move rfl ((H.kept 3 (by kernel_rfl)).trans h3_24))
   intro act37 w37 T
   have Ol_37 := Eng.own_below Ol_24 T.below
   have h56_37 : act37.eval (.tmp 56) = v_5 := T.done 0 56 rfl rfl
   have d37 := T.defers.trans d24
   have s37 := T.size.trans s24
   have bl37 := bl24.trans (T.below.mono bl24.size)
   clear T
   refine EngI.tail_call EngI.free_wide Tryz.func51 (by kernel_rfl) (by kernel_rfl) rfl rfl rfl rfl #[v_5, .string ⟨#[32]⟩] (by have e0 : act37.eval (.tmp 56) = v_5 := h56_37; have e1 : act37.eval (.const (.string ⟨#[32]⟩)) = .string ⟨#[32]⟩ := (rfl : act37.eval (.const (.string ⟨#[32]⟩)) = .string ⟨#[32]⟩); simp only [List.map_toArray, List.map_cons, List.map_nil, e0, e1]) s37 rfl (R := fun v w' => v = .string (Pri.joinB [nm]) ∧ Below w37.heap.size w37 w') ((Pri.join_calls (l := [nm]) Ol_37 (Nat.zero_lt_succ _) (by show 1 ≤ 100; omega) (Pri.join_len1 hz (by omega))).mono ?_) fun v_38 w38 act38 R d38 s38 hv hr => ?_
   ·rintro e w1 ⟨rfl, h2⟩; exact ⟨_, rfl, rfl, h2⟩
   have h57_38 : act38.eval (.tmp 57) = v_38 := hv
   have d38 := d38.trans d37
   clear hv hr
   obtain ⟨ev_38, b_38⟩ := R
   rw [ev_38] at h57_38
   have bl38 := bl37.trans (b_38.mono bl37.size)
   refine EngI.tail_val EngI.free_wide rfl rfl rfl rfl (Eng.run_assign rfl h57_38) s38 rfl fun act39 d39 s39 hv hr => ?_
   have h2_39 : act39.eval (.tmp 2) = .string (Pri.joinB [nm]) := hv
   have d39 := d39.trans d38
   clear hv hr
   refine EngI.tail_nil ?_
   first | show Code.wp Tryz.prog _ _ _ _ | skip
   refine wp_ret ?_
   repeat (first | with_reducible refine Eng.in_ret ?_ | with_reducible refine Eng.then_ret ?_)
   exact Eng.ret1 rfl d39 h2_39 ⟨by unfold Pri.lineB; first | (rw [if_pos hpl]; done) | (rw [if_neg (by rw [hpl]; decide), if_pos hk6]; done) | (rw [if_neg (by rw [hpl]; decide), if_neg hk6]; done), bl38⟩
end Go.Proofs.YtgnmjaacnmkgnaaGreatDoor.X
end
section
namespace Go.Proofs.YtgnmjaacnmkgnaaGreatDoor.Qt
open Go.RowKit Go.Proofs.YtgnmjaacnmkgnaaGreatDoorW.PrintWords Go.Proofs.YtgnmjaacnmkgnaaGreatDoorW.PrintLast Go.Proofs.YtgnmjaacnmkgnaaGreatDoorW.PrintMore
set_option linter.unusedVariables false
set_option linter.unusedSimpArgs false
def szOf : Value → Nat
  | .string s => s.size
  | _ => 0
def plainB (c : UInt8) : Bool := c != 34 && (c != 10 && c != 92)
def inner (l : List UInt8) : List UInt8 := (l.drop 1).dropLast
def unqF (s : ByteArray) : Option (ByteArray × Int) :=
  if s.size ≤ 1000000 ∧ Lib.validD s.data.toList = true ∧ s = ⟨([34] ++ inner s.data.toList ++ [34]).toArray⟩ ∧ (inner s.data.toList).all plainB = true then some (⟨(inner s.data.toList).toArray⟩, 0) else none
set_option maxHeartbeats 8000000 in
set_option maxRecDepth 100000 in
theorem unq_l (l : List UInt8) (w : World) (hT : X.Tabs.Holds w) (hsz : l.length ≤ 1000000) (hv : Lib.validD (⟨([34] ++ l ++ [34]).toArray⟩ : ByteArray).data.toList = true) (hp : ∀ c ∈ l, plainB c = true) :
    Calls Tryz.prog 61 #[.string ⟨([34] ++ l ++ [34]).toArray⟩] w fun e w' => e = .returned (.tuple #[.string ⟨l.toArray⟩, .int .i64 0]) ∧ Below w.heap.size w w' := by
  have HV2 := X.Tabs.valid ⟨([34] ++ l ++ [34]).toArray⟩ w (by simp [ByteArray.size]; omega) hT
  rw [hv] at HV2
  have HV := Aside0.mk HV2
  have HS := Aside0.mk hsz
  have HP := Aside0.mk hp
  generalize hs : (⟨([34] ++ l ++ [34]).toArray⟩ : ByteArray) = s at HV
  have hsz : s.size = l.length + 2 := by rw [← hs]; simp [ByteArray.size]
  have g0 : s.get! 0 = 34 := by rw [← hs]; simp [ByteArray.get!]
  have g1 : s.get! (l.length + 1) = 34 := by rw [← hs]; simp [ByteArray.get!]
  have hx : s.extract 1 (l.length + 1) = ⟨l.toArray⟩ := by
    rw [← hs]
    apply ByteArray.ext
    rw [ByteArray.data_extract]
    apply Array.ext'
    simp
  clear HV2 hv hp hs
  have g0' : ∀ h : 0 < s.size, s[0]'h = 34 := fun h => (get_at s 0 h).symm.trans g0
  have g1' : ∀ h : l.length + 1 < s.size, s[l.length + 1]'h = 34 := fun h => (get_at s (l.length + 1) h).symm.trans g1
  clear g0 g1
  obtain ⟨m, hm⟩ : ∃ m, m = l.length + 1 := ⟨_, rfl⟩
  rw [← hm] at g1' hx
  replace hsz : s.size = m + 1 := by omega
  have c0 : (1 : Int) ≤ (m : Int) := by omega
  have c1 : decide ((m : Int) + 1 < 2) = false := decide_eq_false (by omega)
  have c3 : (m : Int) ≤ (m : Int) + 1 := by omega
  have HM := Aside0.mk hm
  have c2 : wrap64 (m : Int) = (m : Int) := by have := HS.out; unfold wrap64; omega
  clear hm
  go_enter Tryz.func61, Tryz.ntmps61
  go_wp2_with (go_at_call 38; refine HV.out.mono ?_; rintro e w1 ⟨rfl, hb⟩)
  have hnew : Lib.IsBuilderF 54 5 w1.heap.size w1.heap.size (Lib.byteCells []) (w1.alloc (.cells #[.pointer none, .slice none 0 0] 54)) := Lib.IsBuilderF.of (Lib.fresh_isBuilder 54 5 w1)
  have HBL := Aside0.mk hnew
  have HB := Aside0.mk (show Below w1.heap.size w1 (w1.alloc (.cells #[.pointer none, .slice none 0 0] 54)) from (Below.refl _ w1).alloc (Nat.le_refl _) _)
  have HW1 := Aside0.mk hb
  clear hnew hb
  go_loopw [6] (fun v6 wr => ∃ (rest out : List UInt8), v6 = .string ⟨rest.toArray⟩ ∧ Aside0 (out ++ rest = l) ∧ Aside0 (Lib.IsBuilderF 54 5 w1.heap.size w1.heap.size (Lib.byteCells out) wr) ∧ Aside0 (Below w1.heap.size w1 wr)) (fun v6 _ => szOf v6)
  case atStart => exact ⟨l, [], rfl, ⟨rfl⟩, HBL, HB⟩
  case round =>
    clear HBL HB c2 c0 c1 c3 hx g1' g0'
    obtain ⟨rest, out, rfl, HO, HBL, HB⟩ := hrel
    have hol := HO.out
    have hll : out.length + rest.length = l.length := by rw [← hol, List.length_append]
    have hsm := HS.out
    cases rest with
    | nil =>
      rw [List.append_nil] at hol
      subst hol
      go_wp2_with fail
      refine (Tryz.Builder_String_any_f w1.heap.size w1.heap.size out wr HBL.out HB.out.size).mono ?_
      rintro e w5 ⟨rfl, hbl5, hb5⟩
      go_wp2
      go_ret2
      exact ⟨rfl, HW1.out.trans ((HB.out.trans hb5).mono HW1.out.size)⟩
    | cons c t =>
      have hc := HP.out c (by rw [← hol]; simp)
      unfold plainB at hc
      simp only [Bool.and_eq_true, bne_iff_ne] at hc
      have n34 : ((c.toNat : Int) == 34) = false := beq_eq_false_iff_ne.mpr fun e => hc.1 (UInt8.toNat_inj.1 (show c.toNat = (34 : UInt8).toNat from by show c.toNat = 34; omega))
      have n10 : ((c.toNat : Int) == 10) = false := beq_eq_false_iff_ne.mpr fun e => hc.2.1 (UInt8.toNat_inj.1 (show c.toNat = (10 : UInt8).toNat from by show c.toNat = 10; omega))
      have n92 : ((c.toNat : Int) == 92) = false := beq_eq_false_iff_ne.mpr fun e => hc.2.2 (UInt8.toNat_inj.1 (show c.toNat = (92 : UInt8).toNat from by show c.toNat = 92; omega))
      have HO2 := Aside0.mk (show (out ++ [c]) ++ t = l by rw [← hol]; simp)
      have hq1 : (⟨(c :: t).toArray⟩ : ByteArray).size = t.length + 1 := by simp [ByteArray.size]
      have hq2 : ∀ h : 0 < (⟨(c :: t).toArray⟩ : ByteArray).size, (⟨(c :: t).toArray⟩ : ByteArray)[0]'h = c := fun h => by simp [ByteArray.getElem_eq_getElem_data]
      have hq3 : (⟨(c :: t).toArray⟩ : ByteArray).extract 1 (t.length + 1) = ⟨t.toArray⟩ := by
        apply ByteArray.ext
        rw [ByteArray.data_extract]
        apply Array.ext'
        simp
      have hq4 : ((⟨(c :: t).toArray⟩ : ByteArray).toList == ([] : List UInt8)) = false := by
        rw [beq_eq_false_iff_ne]; intro e
        have := congrArg List.length e
        simp at this
      have hq5 : ((⟨(c :: t).toArray⟩ : ByteArray).toList != ([] : List UInt8)) = true := by
        rw [bne, hq4]; rfl
      have hz0 : szOf (.string (⟨(c :: t).toArray⟩ : ByteArray)) = t.length + 1 := hq1
      have HZ := Aside0.mk hz0
      clear HP hc hol HO hz0
      generalize (⟨(c :: t).toArray⟩ : ByteArray) = q at hq1 hq2 hq3 hq4 hq5 HZ
      go_wp2_with fail
      refine (Bld.byte w1.heap.size w1.heap.size (Lib.byteCells out) (c.toNat : Int) wr HBL.out (by rw [Lib.byteCells_length]; omega) HB.out.size).mono ?_
      rintro e w4 ⟨rfl, hbl4, hb4, hk4⟩
      have HB4 := Aside0.mk (HB.out.trans hb4)
      have HBL4 := Aside0.mk (show Lib.IsBuilderF 54 5 w1.heap.size w1.heap.size (Lib.byteCells (out ++ [c])) w4 by rw [Lib.byteCells_append]; exact .inr hbl4)
      clear hbl4 hb4 hk4
      go_wp2
      go_roundw
      case rel => exact ⟨t, out ++ [c], rfl, HO2, HBL4, HB4⟩
      case measure =>
        refine (?_ : szOf (.string (⟨t.toArray⟩ : ByteArray)) < szOf (.string q))
        rw [HZ.out]
        show (⟨t.toArray⟩ : ByteArray).size < t.length + 1
        simp [ByteArray.size]
end Go.Proofs.YtgnmjaacnmkgnaaGreatDoor.Qt
end
section
namespace Go.Proofs.YtgnmjaacnmkgnaaGreatDoor.Y
open Go.RowKit Go.Proofs.YtgnmjaacnmkgnaaGreatDoorW.PrintWords Go.Proofs.YtgnmjaacnmkgnaaGreatDoorW.PrintLast Go.Proofs.YtgnmjaacnmkgnaaGreatDoorW.PrintMore
attribute [local go_sem] max2_int min2_int max_two min_two
set_option linter.unusedVariables false
set_option linter.unusedSimpArgs false
def errW : Option Int → Value
  | none => .nilIface
  | some c => .iface 0 (.int .i64 c)
theorem errW_none : errW none = .nilIface := rfl
theorem errW_some (c : Int) : errW (some c) = .iface 0 (.int .i64 c) := rfl
theorem xbne_nil (l : List UInt8) : (l != []) = !l.isEmpty := by cases l <;> rfl
theorem xbeq_nil (l : List UInt8) : (l == []) = l.isEmpty := by cases l <;> rfl
end Go.Proofs.YtgnmjaacnmkgnaaGreatDoor.Y
end
section
namespace Go.Proofs.YtgnmjaacnmkgnaaGreatDoor.Y
open Go.RowKit Go.Proofs.YtgnmjaacnmkgnaaGreatDoorW.PrintWords Go.Proofs.YtgnmjaacnmkgnaaGreatDoorW.PrintLast Go.Proofs.YtgnmjaacnmkgnaaGreatDoorW.PrintMore
attribute [local go_sem] max2_int min2_int max_two min_two
set_option linter.unusedVariables false
set_option linter.unusedSimpArgs false
def event_name.tbl : List ByteArray := [⟨#[43, 100, 111, 99]⟩, ⟨#[45, 100, 111, 99]⟩, ⟨#[43, 115, 101, 113]⟩, ⟨#[45, 115, 101, 113]⟩, ⟨#[43, 109, 97, 112]⟩, ⟨#[45, 109, 97, 112]⟩, ⟨#[61, 118, 97, 108]⟩, ⟨#[61, 97, 108, 105]⟩]
def event_name.f (a0 : Int) : Option (ByteArray) := if 0 ≤ a0 ∧ a0 ≤ 7 then some (event_name.tbl.getD a0.toNat ⟨#[]⟩) else none
set_option maxHeartbeats 2000000 in
set_option maxRecDepth 100000 in
theorem event_name.calls (a0 : Int) (r : ByteArray) (w : World) (h : event_name.f a0 = some r) :
    Calls Tryz.prog 48 #[.int .i64 a0] w fun e w' => e = .returned (.string r) ∧ Below w.heap.size w w' := by
  unfold event_name.f at h
  split at h
  · rename_i hc
    obtain rfl := Option.some.inj h
    have hk : a0 = 0 ∨ a0 = 1 ∨ a0 = 2 ∨ a0 = 3 ∨ a0 = 4 ∨ a0 = 5 ∨ a0 = 6 ∨ a0 = 7 := by omega
    rcases hk with rfl | rfl | rfl | rfl | rfl | rfl | rfl | rfl
    all_goals
      go_enter Tryz.func48, Tryz.ntmps48
      go_wp2
      go_ret
      exact ⟨rfl, (Below.refl _ _).alloc (Nat.le_refl _) _⟩
  · cases h
def strings_Cut.f (a0 : ByteArray) (a1 : ByteArray) : Option (ByteArray × ByteArray × Bool) := if a1 = (⟨#[32]⟩ : ByteArray) ∧ a0.size ≤ 1000000 then some ((⟨(Spl.cutL a0.data.toList).1.toArray⟩ : ByteArray), (⟨(Spl.cutL a0.data.toList).2.1.toArray⟩ : ByteArray), (Spl.cutL a0.data.toList).2.2) else none
theorem strings_Cut.calls (a0 : ByteArray) (a1 : ByteArray) (r1 : ByteArray) (r2 : ByteArray) (r3 : Bool) (w : World) (h : strings_Cut.f a0 a1 = some (r1, r2, r3)) :
    Calls Tryz.prog 59 #[.string a0, .string a1] w fun e w' => e = .returned (.tuple #[.string r1, .string r2, .bool r3]) ∧ Drawn0 w w' := by
  unfold strings_Cut.f at h
  split at h
  · rename_i hc
    have h := Option.some.inj h
    rw [Prod.mk.injEq, Prod.mk.injEq] at h
    obtain ⟨rfl, rfl, rfl⟩ := h
    obtain ⟨rfl, hs⟩ := hc
    have e : (⟨a0.data.toList.toArray⟩ : ByteArray) = a0 := by cases a0; simp
    have hx := Spl.cut_one a0.data.toList w (by rw [Array.length_toList]; exact hs)
    rw [e] at hx
    exact hx.mono fun e w' h => ⟨h.1, by obtain ⟨n, h2⟩ := h.2; exact ⟨n, h2⟩⟩
  · cases h
def stringslite_HasPrefix.f (a0 : ByteArray) (a1 : ByteArray) : Option (Bool) := if (a0.size : Int) ≥ (a1.size : Int) then (if 0 ≤ (a1.size : Int) then (if (a1.size : Int) ≤ (a0.size : Int) then (some ((a0.extract 0 ((a1.size : Int) : Int).toNat).toList == a1.toList)) else (none)) else (none)) else (some false)
set_option maxHeartbeats 8000000 in
set_option maxRecDepth 100000 in
theorem stringslite_HasPrefix.calls (a0 : ByteArray) (a1 : ByteArray) (r : Bool) (w : World) (h : stringslite_HasPrefix.f a0 a1 = some r) :
    Calls Tryz.prog 86 #[.string a0, .string a1] w fun e w' => e = .returned (.bool r) ∧ Drawn0 w w' := by
  have H : (if (a0.size : Int) ≥ (a1.size : Int) then (if 0 ≤ (a1.size : Int) then (if (a1.size : Int) ≤ (a0.size : Int) then (some ((a0.extract 0 ((a1.size : Int) : Int).toNat).toList == a1.toList)) else (none)) else (none)) else (some false)) = some r := h
  clear h
  by_cases c3 : (a0.size : Int) ≥ (a1.size : Int)
  · rw [if_pos c3] at H
    have c3b0 : decide ((a1.size : Int) ≤ (a0.size : Int)) = true := decide_eq_true c3
    have c3b1 : decide (a1.size ≤ a0.size) = true := decide_eq_true (Int.ofNat_le.mp c3)
    clear c3
    by_cases c4 : 0 ≤ (a1.size : Int)
    · rw [if_pos c4] at H
      have c4b0 := eq_true c4
      have c4b1 : decide (0 ≤ (a1.size : Int)) = true := decide_eq_true c4
      clear c4
      by_cases c5 : (a1.size : Int) ≤ (a0.size : Int)
      · rw [if_pos c5] at H
        have c5b0 := eq_true c5
        have c5b1 : decide ((a1.size : Int) ≤ (a0.size : Int)) = true := decide_eq_true c5
        clear c5
        obtain rfl := Option.some.inj H
        go_enter Tryz.func86, Tryz.ntmps86
        go_wp2
        go_ret
        exact ⟨by first | rfl | (simp; done) | (simp [*]; done) | (simp [xbne_nil, xbeq_nil]; done), by repeat (first | exact Drawn0.refl _ | apply Drawn0.step)⟩
      · rw [if_neg c5] at H
        exact absurd H (by simp)
    · rw [if_neg c4] at H
      exact absurd H (by simp)
  · rw [if_neg c3] at H
    have c3b0 : decide ((a1.size : Int) ≤ (a0.size : Int)) = false := decide_eq_false c3
    have c3b1 : decide (a1.size ≤ a0.size) = false := decide_eq_false (fun h => c3 (Int.ofNat_le.mpr h))
    clear c3
    obtain rfl := Option.some.inj H
    go_enter Tryz.func86, Tryz.ntmps86
    go_wp2
    go_ret
    exact ⟨by first | rfl | (simp; done) | (simp [*]; done) | (simp [xbne_nil, xbeq_nil]; done), by repeat (first | exact Drawn0.refl _ | apply Drawn0.step)⟩
def strings_HasPrefix.f (a0 : ByteArray) (a1 : ByteArray) : Option (Bool) := (stringslite_HasPrefix.f a0 a1).bind fun t101 => (some t101)
set_option maxHeartbeats 8000000 in
set_option maxRecDepth 100000 in
theorem strings_HasPrefix.calls (a0 : ByteArray) (a1 : ByteArray) (r : Bool) (w : World) (h : strings_HasPrefix.f a0 a1 = some r) :
    Calls Tryz.prog 60 #[.string a0, .string a1] w fun e w' => e = .returned (.bool r) ∧ Drawn0 w w' := by
  have H : ((stringslite_HasPrefix.f a0 a1).bind fun t101 => (some t101)) = some r := h
  clear h
  replace H := Option.bind_eq_some_iff.mp H
  obtain ⟨t101, A30, H⟩ := H
  replace H : (some t101) = some r := H
  have A3 := Aside0.mk A30
  clear A30
  obtain rfl := Option.some.inj H
  go_enter Tryz.func60, Tryz.ntmps60
  go_wp2_with (first | ((with_reducible refine gate_callee (f := 86) rfl ?_); refine goesL_ (some 7) rfl rfl Tryz.func86 (by kernel_rfl) rfl #[.string a0, .string a1] rfl (by (try simp only [List.map_toArray, List.map_cons, List.map_nil]); first | done | rfl | (simp only [List.length_drop, List.length_take]; rfl)) ?_; (with_reducible refine (stringslite_HasPrefix.calls a0 a1 t101 _ A3.out).mono ?_); rintro e w' ⟨rfl, ⟨nd, rfl⟩⟩; refine ⟨_, rfl, ?_⟩))
  go_ret
  exact ⟨by first | rfl | (simp; done) | (simp [*]; done) | (simp [xbne_nil, xbeq_nil]; done), by repeat (first | exact Drawn0.refl _ | apply Drawn0.step)⟩
def scalar_Unquote.f (a0 : ByteArray) : Option (ByteArray × Int) := Qt.unqF a0
theorem scalar_Unquote.calls (a0 : ByteArray) (r1 : ByteArray) (r2 : Int) (w : World) (hT : X.Tabs.Holds w) (h : scalar_Unquote.f a0 = some (r1, r2)) :
    Calls Tryz.prog 61 #[.string a0] w fun e w' => e = .returned (.tuple #[.string r1, .int .i64 r2]) ∧ Below w.heap.size w w' := by
  unfold scalar_Unquote.f Qt.unqF at h
  split at h
  · rename_i hc
    have h := Option.some.inj h
    rw [Prod.mk.injEq] at h
    obtain ⟨rfl, rfl⟩ := h
    obtain ⟨h1, h2, h3, h4⟩ := hc
    have hl : (Qt.inner a0.data.toList).length ≤ 1000000 := by
      unfold Qt.inner
      rw [List.length_dropLast, List.length_drop, Array.length_toList]
      exact Nat.le_trans (Nat.sub_le _ _) (Nat.le_trans (Nat.sub_le _ _) h1)
    have hx := Qt.unq_l (Qt.inner a0.data.toList) w hT hl (by rw [← h3]; exact h2) (fun c hc => List.all_eq_true.1 h4 c hc)
    rw [← h3] at hx
    exact hx
  · cases h
def tag_plain.f (a0 : ByteArray) : Option (Bool) := if a0.toList = ([110, 117, 108, 108] : List UInt8) then (some true) else (if a0.toList = ([98, 111, 111, 108] : List UInt8) then (some true) else (if a0.toList = ([105, 110, 116] : List UInt8) then (some true) else (some (a0.toList == ([102, 108, 111, 97, 116] : List UInt8)))))
set_option maxHeartbeats 8000000 in
set_option maxRecDepth 100000 in
theorem tag_plain.calls (a0 : ByteArray) (r : Bool) (w : World) (h : tag_plain.f a0 = some r) :
    Calls Tryz.prog 94 #[.string a0] w fun e w' => e = .returned (.bool r) ∧ Drawn0 w w' := by
  have H : (if a0.toList = ([110, 117, 108, 108] : List UInt8) then (some true) else (if a0.toList = ([98, 111, 111, 108] : List UInt8) then (some true) else (if a0.toList = ([105, 110, 116] : List UInt8) then (some true) else (some (a0.toList == ([102, 108, 111, 97, 116] : List UInt8)))))) = some r := h
  clear h
  by_cases c2 : a0.toList = ([110, 117, 108, 108] : List UInt8)
  · rw [if_pos c2] at H
    have c2b0 : (a0.toList == ([110, 117, 108, 108] : List UInt8)) = true := beq_iff_eq.mpr c2
    have c2b1 : (a0.toList != ([110, 117, 108, 108] : List UInt8)) = false := bne_eq_false_iff_eq.mpr c2
    clear c2
    obtain rfl := Option.some.inj H
    go_enter Tryz.func94, Tryz.ntmps94
    go_wp2
    go_ret
    exact ⟨by first | rfl | (simp; done) | (simp [*]; done) | (simp [xbne_nil, xbeq_nil]; done), by repeat (first | exact Drawn0.refl _ | apply Drawn0.step)⟩
  · rw [if_neg c2] at H
    have c2b0 : (a0.toList == ([110, 117, 108, 108] : List UInt8)) = false := beq_eq_false_iff_ne.mpr c2
    have c2b1 : (a0.toList != ([110, 117, 108, 108] : List UInt8)) = true := bne_iff_ne.mpr c2
    by_cases c3 : a0.toList = ([98, 111, 111, 108] : List UInt8)
    · rw [if_pos c3] at H
      have c3b0 : (a0.toList == ([98, 111, 111, 108] : List UInt8)) = true := beq_iff_eq.mpr c3
      have c3b1 : (a0.toList != ([98, 111, 111, 108] : List UInt8)) = false := bne_eq_false_iff_eq.mpr c3
      clear c3
      obtain rfl := Option.some.inj H
      go_enter Tryz.func94, Tryz.ntmps94
      go_wp2
      go_ret
      exact ⟨by first | rfl | (simp; done) | (simp [*]; done) | (simp [xbne_nil, xbeq_nil]; done), by repeat (first | exact Drawn0.refl _ | apply Drawn0.step)⟩
    · rw [if_neg c3] at H
      have c3b0 : (a0.toList == ([98, 111, 111, 108] : List UInt8)) = false := beq_eq_false_iff_ne.mpr c3
      have c3b1 : (a0.toList != ([98, 111, 111, 108] : List UInt8)) = true := bne_iff_ne.mpr c3
      by_cases c4 : a0.toList = ([105, 110, 116] : List UInt8)
      · rw [if_pos c4] at H
        have c4b0 : (a0.toList == ([105, 110, 116] : List UInt8)) = true := beq_iff_eq.mpr c4
        have c4b1 : (a0.toList != ([105, 110, 116] : List UInt8)) = false := bne_eq_false_iff_eq.mpr c4
        clear c4
        obtain rfl := Option.some.inj H
        go_enter Tryz.func94, Tryz.ntmps94
        go_wp2
        go_ret
        exact ⟨by first | rfl | (simp; done) | (simp [*]; done) | (simp [xbne_nil, xbeq_nil]; done), by repeat (first | exact Drawn0.refl _ | apply Drawn0.step)⟩
      · rw [if_neg c4] at H
        have c4b0 : (a0.toList == ([105, 110, 116] : List UInt8)) = false := beq_eq_false_iff_ne.mpr c4
        have c4b1 : (a0.toList != ([105, 110, 116] : List UInt8)) = true := bne_iff_ne.mpr c4
        obtain rfl := Option.some.inj H
        go_enter Tryz.func94, Tryz.ntmps94
        go_wp2
        go_ret
        exact ⟨by first | rfl | (simp; done) | (simp [*]; done) | (simp [xbne_nil, xbeq_nil]; done), by repeat (first | exact Drawn0.refl _ | apply Drawn0.step)⟩
def tag_Core.f (a0 : ByteArray) : Option (Bool) := if a0.toList = ([115, 101, 113] : List UInt8) then (some true) else (if a0.toList = ([109, 97, 112] : List UInt8) then (some true) else (if a0.toList = ([115, 116, 114] : List UInt8) then (some true) else ((tag_plain.f a0).bind fun t102 => (some t102))))
set_option maxHeartbeats 8000000 in
set_option maxRecDepth 100000 in
theorem tag_Core.calls (a0 : ByteArray) (r : Bool) (w : World) (h : tag_Core.f a0 = some r) :
    Calls Tryz.prog 71 #[.string a0] w fun e w' => e = .returned (.bool r) ∧ Drawn0 w w' := by
  have H : (if a0.toList = ([115, 101, 113] : List UInt8) then (some true) else (if a0.toList = ([109, 97, 112] : List UInt8) then (some true) else (if a0.toList = ([115, 116, 114] : List UInt8) then (some true) else ((tag_plain.f a0).bind fun t102 => (some t102))))) = some r := h
  clear h
  by_cases c2 : a0.toList = ([115, 101, 113] : List UInt8)
  · rw [if_pos c2] at H
    have c2b0 : (a0.toList == ([115, 101, 113] : List UInt8)) = true := beq_iff_eq.mpr c2
    have c2b1 : (a0.toList != ([115, 101, 113] : List UInt8)) = false := bne_eq_false_iff_eq.mpr c2
    clear c2
    obtain rfl := Option.some.inj H
    go_enter Tryz.func71, Tryz.ntmps71
    go_wp2
    go_ret
    exact ⟨by first | rfl | (simp; done) | (simp [*]; done) | (simp [xbne_nil, xbeq_nil]; done), by repeat (first | exact Drawn0.refl _ | apply Drawn0.step)⟩
  · rw [if_neg c2] at H
    have c2b0 : (a0.toList == ([115, 101, 113] : List UInt8)) = false := beq_eq_false_iff_ne.mpr c2
    have c2b1 : (a0.toList != ([115, 101, 113] : List UInt8)) = true := bne_iff_ne.mpr c2
    by_cases c3 : a0.toList = ([109, 97, 112] : List UInt8)
    · rw [if_pos c3] at H
      have c3b0 : (a0.toList == ([109, 97, 112] : List UInt8)) = true := beq_iff_eq.mpr c3
      have c3b1 : (a0.toList != ([109, 97, 112] : List UInt8)) = false := bne_eq_false_iff_eq.mpr c3
      clear c3
      obtain rfl := Option.some.inj H
      go_enter Tryz.func71, Tryz.ntmps71
      go_wp2
      go_ret
      exact ⟨by first | rfl | (simp; done) | (simp [*]; done) | (simp [xbne_nil, xbeq_nil]; done), by repeat (first | exact Drawn0.refl _ | apply Drawn0.step)⟩
    · rw [if_neg c3] at H
      have c3b0 : (a0.toList == ([109, 97, 112] : List UInt8)) = false := beq_eq_false_iff_ne.mpr c3
      have c3b1 : (a0.toList != ([109, 97, 112] : List UInt8)) = true := bne_iff_ne.mpr c3
      by_cases c4 : a0.toList = ([115, 116, 114] : List UInt8)
      · rw [if_pos c4] at H
        have c4b0 : (a0.toList == ([115, 116, 114] : List UInt8)) = true := beq_iff_eq.mpr c4
        have c4b1 : (a0.toList != ([115, 116, 114] : List UInt8)) = false := bne_eq_false_iff_eq.mpr c4
        clear c4
        obtain rfl := Option.some.inj H
        go_enter Tryz.func71, Tryz.ntmps71
        go_wp2
        go_ret
        exact ⟨by first | rfl | (simp; done) | (simp [*]; done) | (simp [xbne_nil, xbeq_nil]; done), by repeat (first | exact Drawn0.refl _ | apply Drawn0.step)⟩
      · rw [if_neg c4] at H
        have c4b0 : (a0.toList == ([115, 116, 114] : List UInt8)) = false := beq_eq_false_iff_ne.mpr c4
        have c4b1 : (a0.toList != ([115, 116, 114] : List UInt8)) = true := bne_iff_ne.mpr c4
        replace H := Option.bind_eq_some_iff.mp H
        obtain ⟨t102, A50, H⟩ := H
        replace H : (some t102) = some r := H
        have A5 := Aside0.mk A50
        clear A50
        obtain rfl := Option.some.inj H
        go_enter Tryz.func71, Tryz.ntmps71
        go_wp2_with (first | ((with_reducible refine gate_callee (f := 94) rfl ?_); refine goesL_ (some 9) rfl rfl Tryz.func94 (by kernel_rfl) rfl #[.string a0] rfl (by (try simp only [List.map_toArray, List.map_cons, List.map_nil]); first | done | rfl | (simp only [List.length_drop, List.length_take]; rfl)) ?_; (with_reducible refine (tag_plain.calls a0 t102 _ A5.out).mono ?_); rintro e w' ⟨rfl, ⟨nd, rfl⟩⟩; refine ⟨_, rfl, ?_⟩))
        go_ret
        exact ⟨by first | rfl | (simp; done) | (simp [*]; done) | (simp [xbne_nil, xbeq_nil]; done), by repeat (first | exact Drawn0.refl _ | apply Drawn0.step)⟩
def stringslite_CutPrefix.f (a0 : ByteArray) (a1 : ByteArray) : Option (ByteArray × Bool) := (stringslite_HasPrefix.f a0 a1).bind fun t103 => (if t103 = true then (if 0 ≤ (a1.size : Int) then (if (a1.size : Int) ≤ (a0.size : Int) then (some (a0.extract ((a1.size : Int) : Int).toNat a0.size, true)) else (none)) else (none)) else (some (a0, false)))
set_option maxHeartbeats 8000000 in
set_option maxRecDepth 100000 in
theorem stringslite_CutPrefix.calls (a0 : ByteArray) (a1 : ByteArray) (r1 : ByteArray) (r2 : Bool) (w : World) (h : stringslite_CutPrefix.f a0 a1 = some (r1, r2)) :
    Calls Tryz.prog 110 #[.string a0, .string a1] w fun e w' => e = .returned (.tuple #[.string r1, .bool r2]) ∧ Drawn0 w w' := by
  have H : ((stringslite_HasPrefix.f a0 a1).bind fun t103 => (if t103 = true then (if 0 ≤ (a1.size : Int) then (if (a1.size : Int) ≤ (a0.size : Int) then (some (a0.extract ((a1.size : Int) : Int).toNat a0.size, true)) else (none)) else (none)) else (some (a0, false)))) = some (r1, r2) := h
  clear h
  replace H := Option.bind_eq_some_iff.mp H
  obtain ⟨t103, A30, H⟩ := H
  replace H : (if t103 = true then (if 0 ≤ (a1.size : Int) then (if (a1.size : Int) ≤ (a0.size : Int) then (some (a0.extract ((a1.size : Int) : Int).toNat a0.size, true)) else (none)) else (none)) else (some (a0, false))) = some (r1, r2) := H
  have A3 := Aside0.mk A30
  clear A30
  by_cases c4 : t103 = true
  · subst c4
    have H1 : (if 0 ≤ (a1.size : Int) then (if (a1.size : Int) ≤ (a0.size : Int) then (some (a0.extract ((a1.size : Int) : Int).toNat a0.size, true)) else (none)) else (none)) = some (r1, r2) := by rw [if_pos rfl] at H; exact H
    clear H
    have H := H1
    clear H1
    by_cases c5 : 0 ≤ (a1.size : Int)
    · rw [if_pos c5] at H
      have c5b0 := eq_true c5
      have c5b1 : decide (0 ≤ (a1.size : Int)) = true := decide_eq_true c5
      clear c5
      by_cases c6 : (a1.size : Int) ≤ (a0.size : Int)
      · rw [if_pos c6] at H
        have c6b0 := eq_true c6
        have c6b1 : decide ((a1.size : Int) ≤ (a0.size : Int)) = true := decide_eq_true c6
        clear c6
        simp only [Option.some.injEq, Prod.mk.injEq] at H
        obtain ⟨rfl, rfl⟩ := H
        go_enter Tryz.func110, Tryz.ntmps110
        go_wp2_with (first | ((with_reducible refine gate_callee (f := 86) rfl ?_); refine goesL_ (some 8) rfl rfl Tryz.func86 (by kernel_rfl) rfl #[.string a0, .string a1] rfl (by (try simp only [List.map_toArray, List.map_cons, List.map_nil]); first | done | rfl | (simp only [List.length_drop, List.length_take]; rfl)) ?_; (with_reducible refine (stringslite_HasPrefix.calls a0 a1 true _ A3.out).mono ?_); rintro e w' ⟨rfl, ⟨nd, rfl⟩⟩; refine ⟨_, rfl, ?_⟩))
        go_ret2
        exact ⟨by first | rfl | (simp; done) | (simp [*]; done) | (simp [xbne_nil, xbeq_nil]; done), by repeat (first | exact Drawn0.refl _ | apply Drawn0.step)⟩
      · rw [if_neg c6] at H
        exact absurd H (by simp)
    · rw [if_neg c5] at H
      exact absurd H (by simp)
  · replace c4 := Bool.eq_false_iff.mpr c4
    subst c4
    have H1 : (some (a0, false)) = some (r1, r2) := by rw [if_neg (show ¬ (false = true) by decide)] at H; exact H
    clear H
    have H := H1
    clear H1
    simp only [Option.some.injEq, Prod.mk.injEq] at H
    obtain ⟨rfl, rfl⟩ := H
    go_enter Tryz.func110, Tryz.ntmps110
    go_wp2_with (first | ((with_reducible refine gate_callee (f := 86) rfl ?_); refine goesL_ (some 8) rfl rfl Tryz.func86 (by kernel_rfl) rfl #[.string a0, .string a1] rfl (by (try simp only [List.map_toArray, List.map_cons, List.map_nil]); first | done | rfl | (simp only [List.length_drop, List.length_take]; rfl)) ?_; (with_reducible refine (stringslite_HasPrefix.calls a0 a1 false _ A3.out).mono ?_); rintro e w' ⟨rfl, ⟨nd, rfl⟩⟩; refine ⟨_, rfl, ?_⟩))
    go_ret2
    exact ⟨by first | rfl | (simp; done) | (simp [*]; done) | (simp [xbne_nil, xbeq_nil]; done), by repeat (first | exact Drawn0.refl _ | apply Drawn0.step)⟩
def strings_CutPrefix.f (a0 : ByteArray) (a1 : ByteArray) : Option (ByteArray × Bool) := (stringslite_CutPrefix.f a0 a1).bind fun bt104 => (some (bt104.1, bt104.2))
set_option maxHeartbeats 8000000 in
set_option maxRecDepth 100000 in
theorem strings_CutPrefix.calls (a0 : ByteArray) (a1 : ByteArray) (r1 : ByteArray) (r2 : Bool) (w : World) (h : strings_CutPrefix.f a0 a1 = some (r1, r2)) :
    Calls Tryz.prog 88 #[.string a0, .string a1] w fun e w' => e = .returned (.tuple #[.string r1, .bool r2]) ∧ Drawn0 w w' := by
  have H : ((stringslite_CutPrefix.f a0 a1).bind fun bt104 => (some (bt104.1, bt104.2))) = some (r1, r2) := h
  clear h
  replace H := Option.bind_eq_some_iff.mp H
  obtain ⟨⟨t104, t105⟩, A30, H⟩ := H
  replace H : (some (t104, t105)) = some (r1, r2) := H
  have A3 := Aside0.mk A30
  clear A30
  simp only [Option.some.injEq, Prod.mk.injEq] at H
  obtain ⟨rfl, rfl⟩ := H
  go_enter Tryz.func88, Tryz.ntmps88
  go_wp2_with (first | ((with_reducible refine gate_callee (f := 110) rfl ?_); refine goesL_ (some 8) rfl rfl Tryz.func110 (by kernel_rfl) rfl #[.string a0, .string a1] rfl (by (try simp only [List.map_toArray, List.map_cons, List.map_nil]); first | done | rfl | (simp only [List.length_drop, List.length_take]; rfl)) ?_; (with_reducible refine (stringslite_CutPrefix.calls a0 a1 t104 t105 _ A3.out).mono ?_); rintro e w' ⟨rfl, ⟨nd, rfl⟩⟩; refine ⟨_, rfl, ?_⟩))
  go_ret2
  exact ⟨by first | rfl | (simp; done) | (simp [*]; done) | (simp [xbne_nil, xbeq_nil]; done), by repeat (first | exact Drawn0.refl _ | apply Drawn0.step)⟩
def tag_own.g (t : ByteArray) (b : Bool) : Bool := b && !(t.toList == ([] : List UInt8)) && decide (t.size ≤ 40) && t.data.toList.all Own.nameByte
def tag_own.f (a0 : ByteArray) : Option (Bool) := (strings_CutPrefix.f a0 (⟨#[33]⟩ : ByteArray)).bind fun b => some (tag_own.g b.1 b.2)
set_option maxHeartbeats 2000000 in
theorem tag_own.calls (a0 : ByteArray) (r : Bool) (w : World) (h : tag_own.f a0 = some r) :
    Calls Tryz.prog 72 #[.string a0] w fun e w' => e = .returned (.bool r) ∧ Below w.heap.size w w' := by
  unfold tag_own.f at h
  obtain ⟨⟨t, b⟩, A20, H⟩ := Option.bind_eq_some_iff.mp h
  have A2 := Aside0.mk A20
  clear A20 h
  obtain rfl := Option.some.inj H
  clear H
  cases b with
  | false =>
    go_enter Tryz.func72, Tryz.ntmps72
    go_wp2_with ((go_at_call 88; (with_reducible refine (strings_CutPrefix.calls a0 (⟨#[33]⟩ : ByteArray) t false _ A2.out).mono ?_); rintro e w' ⟨rfl, ⟨nd, rfl⟩⟩))
    go_ret
    exact ⟨rfl, pw_below_drewN (Below.refl _ _) _⟩
  | true =>
    by_cases c1 : t.toList = ([] : List UInt8)
    · have c1b0 : (t.toList == ([] : List UInt8)) = true := beq_iff_eq.mpr c1
      have c1b1 : (t.toList != ([] : List UInt8)) = false := bne_eq_false_iff_eq.mpr c1
      have hg : Aside0 (tag_own.g t true = false) := ⟨by unfold tag_own.g; rw [c1b0]; rfl⟩
      clear c1
      go_enter Tryz.func72, Tryz.ntmps72
      go_wp2_with ((go_at_call 88; (with_reducible refine (strings_CutPrefix.calls a0 (⟨#[33]⟩ : ByteArray) t true _ A2.out).mono ?_); rintro e w' ⟨rfl, ⟨nd, rfl⟩⟩))
      go_ret
      exact ⟨by rw [hg.out]; rfl, pw_below_drewN (Below.refl _ _) _⟩
    · have c1b0 : (t.toList == ([] : List UInt8)) = false := beq_eq_false_iff_ne.mpr c1
      have c1b1 : (t.toList != ([] : List UInt8)) = true := bne_iff_ne.mpr c1
      by_cases c2 : t.size ≤ 40
      · have c2b0 : decide ((t.size : Int) ≤ 40) = true := decide_eq_true (by omega)
        have c2b1 : decide (t.size ≤ 40) = true := decide_eq_true c2
        have hg : Aside0 (tag_own.g t true = !decide (0 ≤ Lib.idxFunc (fun r => !Own.namedN r) true t)) := ⟨by unfold tag_own.g; rw [c1b0, c2b1, Own.contains_eq]; simp⟩
        clear c1 c2
        generalize hI : decide (0 ≤ Lib.idxFunc (fun r => !Own.namedN r) true t) = I at hg
        have hI2 := Aside0.mk hI
        clear hI
        go_enter Tryz.func72, Tryz.ntmps72
        go_wp2_with (first | (go_at_call 88; (with_reducible refine (strings_CutPrefix.calls a0 (⟨#[33]⟩ : ByteArray) t true _ A2.out).mono ?_); rintro e w' ⟨rfl, ⟨nd, rfl⟩⟩) | (go_at_call 70; (with_reducible refine (Own.contains_calls t _).mono ?_); rintro e w' ⟨rfl, hb⟩))
        go_ret
        exact ⟨by rw [hg.out, hI2.out]; rfl, (pw_below_drewN (Below.refl _ _) _).trans hb⟩
      · have c2b0 : decide ((t.size : Int) ≤ 40) = false := decide_eq_false (by omega)
        have c2b1 : decide (t.size ≤ 40) = false := decide_eq_false c2
        have hg : Aside0 (tag_own.g t true = false) := ⟨by unfold tag_own.g; rw [c1b0, c2b1]; rfl⟩
        clear c1 c2
        go_enter Tryz.func72, Tryz.ntmps72
        go_wp2_with ((go_at_call 88; (with_reducible refine (strings_CutPrefix.calls a0 (⟨#[33]⟩ : ByteArray) t true _ A2.out).mono ?_); rintro e w' ⟨rfl, ⟨nd, rfl⟩⟩))
        go_ret
        exact ⟨by rw [hg.out]; rfl, pw_below_drewN (Below.refl _ _) _⟩
end Go.Proofs.YtgnmjaacnmkgnaaGreatDoor.Y
end
