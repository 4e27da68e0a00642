/- Words and walks that the row of ComposeRight needs: printed by programs, and plain laws. -/
import Derived.Test.YtgnmjaacnmkgnaaDoorM9
import Derived.Test.YtgnmjaacnmkgnaaDoorM3
import Derived.Test.YtgnmjaacnmkgnaaDoorM7
namespace Go.Proofs.YtgnmjaacnmkgnaaDoorW.PrintWords
end Go.Proofs.YtgnmjaacnmkgnaaDoorW.PrintWords
namespace Go.Proofs.YtgnmjaacnmkgnaaDoorW.PrintLast
end Go.Proofs.YtgnmjaacnmkgnaaDoorW.PrintLast
namespace Go.Proofs.YtgnmjaacnmkgnaaDoorW.PrintMore
end Go.Proofs.YtgnmjaacnmkgnaaDoorW.PrintMore
section
namespace Go.Proofs.YtgnmjaacnmkgnaaDoor.X
open Go.RowKit Go.Shelf Go.Proofs Go.Maps Go.WideMaps
set_option linter.unusedVariables false
set_option linter.unusedSimpArgs false
namespace Dc
open Evt (takeF pop more Ev)
theorem pop_none_kind {st : List (Int × Int)} {t : Int × Int} {k : Int} {may : Int → Bool} (h : st.getLast? = some t) (hk : ¬ t.1 = k) : pop st k may = none := by
  unfold pop; rw [h]; simp only; rw [if_neg (fun e => hk e.1)]
theorem rel_end {st st' : List (Int × Int)} {opn : List Int} (h : takeF st 1 = some st') (hr : Rel st opn) : st' = [] := by
  obtain ⟨m, rest, rfl, hk, hl⟩ := hr
  rw [Evt.takeF_1] at h
  rcases last_kind (m := m) hk with ⟨rfl, _⟩ | ⟨pre, t, rfl, ht, hlast⟩
  · rw [Evt.pop_st h]; rfl
  · rw [pop_none_kind hlast (by omega)] at h; cases h
theorem rel_close {st st' : List (Int × Int)} {opn : List Int} {k : Int} {may : Int → Bool} (h : pop st k may = some st') (hk2 : k = 2 ∨ k = 4) (hr : Rel st opn) : ∃ pre o, opn = pre ++ [o] ∧ Rel st' pre := by
  obtain ⟨m, rest, rfl, hk, hl⟩ := hr
  rcases last_kind (m := m) hk with ⟨rfl, hlast⟩ | ⟨pre, t, rfl, ht, hlast⟩
  · rw [pop_none_kind hlast (by show ¬ (0 : Int) = k; omega)] at h; cases h
  · rcases List.eq_nil_or_concat opn with rfl | ⟨p, o, rfl⟩
    · simp at hl
    · rw [List.concat_eq_append] at *
      refine ⟨p, o, rfl, m, pre, ?_, fun t ht => hk t (List.mem_append_left _ ht), by simpa using hl⟩
      rw [Evt.pop_st h, ← List.cons_append, List.dropLast_concat]
theorem rel_more {st : List (Int × Int)} {opn : List Int} (hr : Rel st opn) : Rel (more st) opn := by
  obtain ⟨m, rest, rfl, hk, hl⟩ := hr
  rcases last_kind (m := m) hk with ⟨rfl, hlast⟩ | ⟨pre, t, rfl, ht, hlast⟩
  · exact ⟨_, [], rfl, hk, hl⟩
  · refine ⟨m, pre ++ [(t.1, IntKind.i64.wrap (t.2 + 1))], ?_, fun u hu => ?_, by simpa using hl⟩
    · rw [← List.cons_append, Evt.more_snoc, List.cons_append]
    · rcases List.mem_append.1 hu with hu | hu
      · exact hk u (List.mem_append_left _ hu)
      · rw [List.mem_singleton.1 hu]; exact ht
theorem rel_push {st : List (Int × Int)} {opn : List Int} {k x : Int} (hr : Rel st opn) (hk2 : k = 2 ∨ k = 4) : Rel (st ++ [(k, 0)]) (opn ++ [x]) := by
  obtain ⟨m, rest, rfl, hk, hl⟩ := hr
  refine ⟨m, rest ++ [(k, 0)], rfl, fun u hu => ?_, by simpa using hl⟩
  rcases List.mem_append.1 hu with hu | hu
  · exact hk u hu
  · rw [List.mem_singleton.1 hu]; exact hk2
theorem take_empty {k : Int} {st' : List (Int × Int)} (h : takeF [] k = some st') : k = 0 := by
  apply Classical.byContradiction
  intro h0
  by_cases h1 : k = 1
  · subst h1; rw [Evt.takeF_1] at h; cases h
  · by_cases h3 : k = 3
    · subst h3; rw [Evt.takeF_3] at h; cases h
    · by_cases h5 : k = 5
      · subst h5; rw [Evt.takeF_5] at h; cases h
      · rw [Evt.takeF_x _ _ h0 h1 h3 h5] at h; simp at h
theorem take_begin_st {st st' : List (Int × Int)} (h : takeF st 0 = some st') : st = [] ∧ st' = [(0, 0)] := by
  rw [Evt.takeF_0] at h
  split at h
  · rename_i he; injection h with h; exact ⟨by simpa using he, h.symm⟩
  · cases h
def Fin (w W : World) (f : List Nd × Value) (Bc : Nat → Prop) : Prop := ∃ h opn names ov mb, h.map (·.1) = f.1 ∧ Rep w.heap.size W h opn names f.2 ov mb ∧ ∀ b, Blk h f.2 ov mb b → ¬ Bc b
structure HS (w W : World) (dg : Nat) (gv ov mv : Value) (st : List (Int × Int)) (d : Dc) (fin : List (List Nd × Value)) (k : Nat) (live : Bool) : Prop where
  good : Good d k
  rel : st ≠ [] → Rel st d.opn
  liv : st ≠ [] → live = true
  doc : live = true → ∃ h mb, mv = .map (some mb) ∧ h.map (·.1) = d.nodes ∧ Rep w.heap.size W h d.opn d.names gv ov mb ∧ ∀ f ∈ fin, Fin w W f (Blk h gv ov mb)
  fins : ∀ f ∈ fin, Fin w W f (fun _ => False)
theorem Fin.below {w W W' : World} {f : List Nd × Value} {Bc : Nat → Prop} (h : Fin w W f Bc) (hb : Below W.heap.size W W') : Fin w W' f Bc := by
  obtain ⟨a, b, c, d, e, h1, h2, h3⟩ := h
  exact ⟨a, b, c, d, e, h1, h2.below hb, h3⟩
theorem HS.below {w W W' : World} {dg : Nat} {gv ov mv : Value} {st : List (Int × Int)} {d : Dc} {fin : List (List Nd × Value)} {k : Nat} {live : Bool} (H : HS w W dg gv ov mv st d fin k live) (hb : Below W.heap.size W W') : HS w W' dg gv ov mv st d fin k live := by
  refine ⟨H.good, H.rel, H.liv, fun hl => ?_, fun f hf => (H.fins f hf).below hb⟩
  obtain ⟨h, mb, h1, h2, h3, h4⟩ := H.doc hl
  exact ⟨h, mb, h1, h2, h3.below hb, fun f hf => (h4 f hf).below hb⟩
theorem Fin.aft {w W W' : World} {dg : Nat} {cs : Array Value} {f : List Nd × Value} {Bc : Nat → Prop} (h : Fin w W f Bc) (hk : W.heap[dg]? = some (.cells cs 64 (0, 0))) (A : Eng.Aft (fun b => b = dg ∨ Bc b) W W') {Bc' : Nat → Prop} (hN : ∀ b, Bc' b → Bc b ∨ W.heap.size ≤ b) : Fin w W' f Bc' := by
  obtain ⟨h, opn, names, ov, mb, h1, h2, h3⟩ := h
  refine ⟨h, opn, names, ov, mb, h1, h2.aft A fun b hb hb2 => ?_, fun b hb hb2 => ?_⟩
  · rcases hb with rfl | hb
    · exact h2.ne hk rfl rfl hb2
    · exact h3 b hb2 hb
  · rcases hN b hb2 with h4 | h4
    · exact h3 b hb h4
    · have := (h2.lt hb).2; omega
def Keep (W W' : World) (dg : Nat) : Prop := ∀ b cs T, W.heap[b]? = some (.cells cs T (0, 0)) → (57 != T) = true → (3 != T) = true → b ≠ dg → W'.heap[b]? = some (.cells cs T (0, 0))
theorem keep_of {B : Nat} {W W' : World} {dg mb : Nat} {h : List NV} {opn : List Int} {names : List (List UInt8 × Int)} {gv ov : Value} (R : Rep B W h opn names gv ov mb) (A : Eng.Aft (fun b => b = dg ∨ Blk h gv ov mb b) W W') : Keep W W' dg := fun b cs T hk h1 h2 hne => A.at_ hk fun hb => hb.elim hne (R.ne hk h1 h2)
theorem HS.step {w W W' : World} {dg mb : Nat} {gv ov gv' ov' : Value} {st' : List (Int × Int)} {d' : Dc} {fin : List (List Nd × Value)} {k : Nat} {h h' : List NV} (hk : W.heap[dg]? = some (.cells #[gv, ov, .map (some mb)] 64 (0, 0)))
    (hf : ∀ f ∈ fin, Fin w W f (Blk h gv ov mb)) (X : St w.heap.size W W' dg (Blk h gv ov mb) h' d'.opn d'.names gv' ov' mb) (hm : h'.map (·.1) = d'.nodes) (hg : Good d' (k + 1)) (hr : st' ≠ [] → Rel st' d'.opn) :
    HS w W' dg gv' ov' (.map (some mb)) st' d' fin (k + 1) true :=
  ⟨hg, hr, fun _ => rfl, fun _ => ⟨h', mb, rfl, hm, X.R, fun f h1 => (hf f h1).aft hk X.A X.N⟩, fun f h1 => by
    obtain ⟨a, b, c, d, e, h2, h3, _⟩ := (hf f h1).aft hk X.A X.N
    exact ⟨a, b, c, d, e, h2, h3, fun _ _ => id⟩⟩
theorem stepF_0 {d : Dc} {x : Ev} (h : x.kind = 0) : stepF d x = (⟨[], [], []⟩, false, 0) := by unfold stepF; rw [if_pos h]
theorem stepF_1 {d : Dc} {x : Ev} (h : x.kind = 1) : stepF d x = (d, !twiceF d.nodes, if twiceF d.nodes = true then 12 else 0) := by unfold stepF; rw [if_neg (by omega), if_pos h]
theorem stepF_3 {d : Dc} {x : Ev} (h : x.kind = 3 ∨ x.kind = 5) : stepF d x = (⟨d.nodes, d.opn.dropLast, d.names⟩, false, 0) := by unfold stepF; rw [if_neg (by omega), if_neg (by omega), if_pos h]
theorem stepF_7 {d : Dc} {x : Ev} (h : x.kind = 7) : stepF d x = ((aliasF d x).1, false, (aliasF d x).2) := by unfold stepF; rw [if_neg (by omega), if_neg (by omega), if_neg (by omega), if_pos h]
theorem stepF_x {d : Dc} {x : Ev} (h0 : x.kind ≠ 0) (h1 : x.kind ≠ 1) (h3 : x.kind ≠ 3) (h5 : x.kind ≠ 5) (h7 : x.kind ≠ 7) : stepF d x = ((nodeF d x).1, false, (nodeF d x).2) := by unfold stepF; rw [if_neg h0, if_neg h1, if_neg (by omega), if_neg h7]
theorem aliasF_opn (d : Dc) (x : Ev) : (aliasF d x).1.opn = d.opn ∧ (aliasF d x).1.names = d.names := by
  unfold aliasF
  split
  · exact ⟨rfl, rfl⟩
  · exact kidF_same _ _
theorem nodeF_opn {d : Dc} {x : Ev} (h : (nodeF d x).2 = 0) : (nodeF d x).1.opn = if kindN x.kind = 0 then d.opn else d.opn ++ [(d.nodes.length : Int)] := by
  unfold nodeF at h ⊢
  split
  · rename_i hl; rw [if_pos hl] at h; cases h
  · rename_i hl
    rw [if_neg hl] at h
    split
    · split
      · exact (kidF_same _ _).1
      · simp only; rw [(kidF_same _ _).1]
    · rename_i h2; rw [if_neg h2] at h; exact absurd h h2
theorem kindN_iff {k : Int} : kindN k = 0 ↔ ¬ (k = 2 ∨ k = 4) := by
  unfold kindN
  by_cases h2 : k = 2
  · simp [h2]
  · by_cases h4 : k = 4
    · simp [h4]
    · simp [h2, h4]
end Dc
end Go.Proofs.YtgnmjaacnmkgnaaDoor.X
end
section
namespace Go.Proofs.YtgnmjaacnmkgnaaDoor.X
open Go.RowKit Go.Shelf Go.Proofs Go.Maps Go.WideMaps
set_option linter.unusedVariables false
set_option linter.unusedSimpArgs false
namespace Dc
open Evt (takeF pop more Ev)
set_option maxHeartbeats 1000000 in
theorem take_all (dg : Nat) (gv ov mv : Value) (x : Ev) (st st' : List (Int × Int)) (d : Dc) (fin : List (List Nd × Value)) (k : Nat) (live : Bool) (w W0 : World) (hB : Below w.heap.size w W0) (hlo : w.heap.size ≤ dg) (hk : W0.heap[dg]? = some (.cells #[gv, ov, mv] 64 (0, 0)))
    (H : HS w W0 dg gv ov mv st d fin k live) (ht : takeF st x.kind = some st') (hsz : x.text.size ≤ 2000) (hasz : x.anchor.size ≤ maxLen) (hkk : k ≤ 100000) (hTw : x.kind = 1 → TwOK d.nodes) :
    Calls Tryd.prog 30 #[.pointer (some ⟨dg, 0, none⟩), .agg #[.int .i64 x.kind, .string x.anchor, .string x.tag, .string x.text, .bool x.plain]] W0 fun e w' =>
      e = .returned (.tuple #[.bool (stepF d x).2.1, .int .i64 (stepF d x).2.2]) ∧ Below w.heap.size w w' ∧ Keep W0 w' dg ∧
      ∃ gv' ov' mv', w'.heap[dg]? = some (.cells #[gv', ov', mv'] 64 (0, 0)) ∧ ((stepF d x).2.2 = 0 → HS w w' dg gv' ov' mv' st' (stepF d x).1 fin (k + 1) true) := by
  by_cases h0 : x.kind = 0
  · obtain ⟨rfl, rfl⟩ := take_begin_st (h0 ▸ ht)
    refine (take_begin dg gv ov mv x w W0 hB hlo hk h0).mono ?_
    rintro e w' ⟨rfl, mb, R, hbx, A, hmb⟩
    rw [stepF_0 h0]
    have A' : Eng.Aft (fun b => b = dg ∨ False) W0 w' := A.mono fun b _ e => .inl e
    have hf : ∀ f ∈ fin, Fin w w' f (Blk [] (.slice none 0 0) (.slice none 0 0) mb) := fun f hf => (H.fins f hf).aft hk A' fun b hb => .inr (blk_nil hb ▸ hmb)
    exact ⟨rfl, A.below hB (Nat.le_refl _) (fun b e => e ▸ hlo), fun b cs T h1 _ _ hne => A.at_ h1 hne, _, _, _, hbx, fun _ => ⟨Good.nil _, fun _ => ⟨0, [], rfl, fun t ht => absurd ht List.not_mem_nil, rfl⟩, fun _ => rfl, fun _ => ⟨[], mb, rfl, rfl, R, hf⟩, fun f h1 => by
      obtain ⟨a, b, c, d, e, h2, h3, _⟩ := hf f h1
      exact ⟨a, b, c, d, e, h2, h3, fun _ _ => id⟩⟩⟩
  · have hne : st ≠ [] := by rintro rfl; exact h0 (take_empty ht)
    obtain ⟨h, mb, rfl, hm, R, hf⟩ := H.doc (H.liv hne)
    have hr := H.rel hne
    have hg := H.good
    have hlen : h.length = d.nodes.length := by rw [← hm, List.length_map]
    have hkl : ∀ i, i < h.length → (h.getD i default).1.kids.length ≤ 1000000 := fun i hi => by
      have := hg.kd i (by rw [← hlen]; exact hi)
      rw [← hm, map_getD] at this; omega
    have hop : ∀ o ∈ d.opn, 0 ≤ o ∧ o.toNat < h.length := fun o ho => by rw [hlen]; exact hg.op o ho
    have hnv : ∀ s c, find d.names s = some c → 0 ≤ c ∧ c.toNat < h.length := fun s c hc => by rw [hlen]; exact hg.nm s c hc
    have hbel : ∀ {w' : World}, Eng.Aft (fun b => b = dg ∨ Blk h gv ov mb b) W0 w' → Below w.heap.size w w' := fun A => A.below hB (Nat.le_refl _) fun b hb => hb.elim (fun e => e ▸ hlo) fun e => (R.lt e).1
    by_cases h1 : x.kind = 1
    · have hst := rel_end (h1 ▸ ht) hr
      refine (take_end dg mb gv ov h d.opn d.names x w W0 hB hlo hk R h1 (hm ▸ hTw h1)).mono ?_
      rintro e w' ⟨rfl, X, hbx⟩
      rw [stepF_1 h1, hm]
      refine ⟨rfl, hbel X.A, keep_of R X.A, _, _, _, hbx, fun _ => HS.step (d' := d) hk hf X hm (hg.more (by omega)) fun hn => absurd hst hn⟩
    · by_cases h35 : x.kind = 3 ∨ x.kind = 5
      · have hp : ∃ pre o, d.opn = pre ++ [o] ∧ Rel st' pre := by
          rcases h35 with h3 | h5
          · rw [h3, Evt.takeF_3] at ht; exact rel_close ht (.inl rfl) hr
          · rw [h5, Evt.takeF_5] at ht; exact rel_close ht (.inr rfl) hr
        obtain ⟨pre, o, hopn, hr'⟩ := hp
        rw [hopn] at R
        have hd : (⟨d.nodes, d.opn.dropLast, d.names⟩ : Dc) = ⟨d.nodes, pre, d.names⟩ := by rw [hopn, List.dropLast_concat]
        have hgs := stepF_good (x := x) hg
        rw [stepF_3 h35, hd] at hgs
        rw [stepF_3 h35, hd]
        rcases h35 with h3 | h5
        · refine (take_close3 dg mb gv ov h pre o d.names x w W0 hB hlo hk R h3).mono ?_
          rintro e w' ⟨rfl, ov', X, hbx⟩
          exact ⟨rfl, hbel X.A, keep_of R X.A, _, _, _, hbx, fun _ => HS.step (d' := ⟨d.nodes, pre, d.names⟩) hk hf X hm hgs fun _ => hr'⟩
        · refine (take_close5 dg mb gv ov h pre o d.names x w W0 hB hlo hk R h5).mono ?_
          rintro e w' ⟨rfl, ov', X, hbx⟩
          exact ⟨rfl, hbel X.A, keep_of R X.A, _, _, _, hbx, fun _ => HS.step (d' := ⟨d.nodes, pre, d.names⟩) hk hf X hm hgs fun _ => hr'⟩
      · have h3 : x.kind ≠ 3 := fun e => h35 (.inl e)
        have h5 : x.kind ≠ 5 := fun e => h35 (.inr e)
        have hstp : st' = if x.kind = 2 ∨ x.kind = 4 then more st ++ [(x.kind, 0)] else more st := by
          rw [Evt.takeF_x _ _ h0 h1 h3 h5, if_neg (by simpa using hne)] at ht
          split at ht <;> (injection ht with ht; rw [← ht]) <;> rename_i hc
          · rw [if_pos hc]
          · rw [if_neg hc]
        by_cases h7 : x.kind = 7
        · have hgs := stepF_good (x := x) hg
          rw [stepF_7 h7] at hgs ⊢
          refine (take_alias dg mb gv ov h d.opn d.names x w W0 hB hlo hk R h7 hasz hnv hop hkl).mono ?_
          rintro e w' ⟨h', rfl, hm', X, hbx⟩
          have hd : (⟨h.map (·.1), d.opn, d.names⟩ : Dc) = d := by rw [hm]
          rw [hd] at hm'
          rw [hd]
          refine ⟨rfl, hbel X.A, keep_of R X.A, _, _, _, hbx, fun _ => HS.step (d' := (aliasF d x).1) hk hf ?_ hm' hgs fun _ => ?_⟩
          · rw [(aliasF_opn d x).1, (aliasF_opn d x).2]; exact X
          · rw [(aliasF_opn d x).1, hstp, if_neg (by omega)]; exact rel_more hr
        · have hgs := stepF_good (x := x) hg
          rw [stepF_x h0 h1 h3 h5 h7] at hgs ⊢
          refine (take_node dg mb gv ov h d.opn d.names x w W0 hB hlo hk R h0 h1 h3 h5 h7 hsz hasz (by have := hg.nl; omega) hop (by have := hg.ol; omega) hkl).mono ?_
          rintro e w' ⟨h', opn', names', gv', ov', rfl, hm', X, hbx⟩
          have hd : (⟨h.map (·.1), d.opn, d.names⟩ : Dc) = d := by rw [hm]
          rw [hd] at hm'
          rw [hd]
          refine ⟨rfl, hbel X.A, keep_of R X.A, _, _, _, hbx, fun he => HS.step (h' := h') (d' := (nodeF d x).1) hk hf ?_ ?_ hgs fun _ => ?_⟩
          · rw [← hm']; exact X
          · rw [← hm']
          · rw [nodeF_opn he, hstp]
            by_cases hk2 : x.kind = 2 ∨ x.kind = 4
            · rw [if_neg (fun e => kindN_iff.1 e hk2), if_pos hk2]; exact rel_push (rel_more hr) hk2
            · rw [if_pos (kindN_iff.2 hk2), if_neg hk2]; exact rel_more hr
end Dc
end Go.Proofs.YtgnmjaacnmkgnaaDoor.X
end
section
namespace Go.Proofs.YtgnmjaacnmkgnaaDoor.X
open Go.RowKit Go.Shelf Go.Proofs Go.Proofs.YtgnmjaacnmkgnaaDoorW.PrintWords Go.Proofs.YtgnmjaacnmkgnaaDoorW.PrintLast Go.Proofs.YtgnmjaacnmkgnaaDoorW.PrintMore
set_option linter.unusedVariables false
set_option linter.unusedSimpArgs false
attribute [local go_sem] max2_int min2_int max_two min_two
set_option maxHeartbeats 4000000 in
set_option maxRecDepth 100000 in
theorem Evt.depth_calls (v : Value) (l : List Evt.Ev) (w : World) (hl : Eng.Reads w v l.length 5 (Evt.cells l)) : Calls Tryd.prog 37 #[v] w fun e w' => e = .returned (.int .i64 (Evt.depths l).2) ∧ Below w.heap.size w w' := by
 have hm := Eng.Reads.len_le hl
 refine Eng.enter Tryd.func37 rfl fun act0 d0 s0 v0 => ?_
 have s0 : act0.tmps.size = 29 := s0
 have h0_0 : act0.eval (.tmp 0) = v := v0 0 (by simp)
 clear v0
 have bl0 : Below w.heap.size w w := Below.refl _ _
 refine wp_seq (Eng.rS [.int .i64 0] (fun _ => .plain) 1 0 s0 ?_ ?_)
 ·refine .c ?_ (.nil)
  ·exact Eng.pq fun a w' H => Eng.ra (rfl : a.eval (.const (.int .i64 0)) = .int .i64 0)
 intro act1 w1 T
 have h0_1 := T.r1 h0_0
 have Fl_1 := T.f hl
 have h2_1 := T.u 0 2
 have ⟨d1, s1, bl1⟩ := T.h d0 s0 bl0
 clear T
 refine Eng.tail_nil (wp_seq ?_)
 refine Eng.rS [.int .i64 0] (fun _ => .plain) 1 0 s1 ?_ ?_
 ·refine .c ?_ (.nil)
  ·exact Eng.pq fun a w' H => Eng.ra (rfl : a.eval (.const (.int .i64 0)) = .int .i64 0)
 intro act2 w2 T
 have ⟨h0_2, h2_2⟩ := T.r2 h0_1 h2_1
 have Fl_2 := T.f Fl_1
 have h3_2 := T.u 0 3
 have ⟨d2, s2, bl2⟩ := T.h d1 s1 bl1
 clear T
 refine Eng.tail_nil (wp_seq (wp_seq ?_))
 refine Eng.rP [v, .int .i64 ((l.length : Nat) : Int), .int .i64 0] 3 0 s2 (.c (Eng.qq 0 h0_2) (.c (Eng.pv fun a w' H => Eng.vr (v := .int .i64 ((l.length : Nat) : Int)) rfl (Eng.run_len_sl rfl Tryd.underlying37 (H.d 0 6) (Eng.Reads.below Fl_2 H.below))) (.c (Eng.pq fun a w' H => Eng.rv (rfl : a.eval (.const (.int .i64 0)) = .int .i64 0)) .nil))) fun act3 w3 T => ?_
 have ⟨h0_3, h2_3, h3_3⟩ := T.r3 h0_2 h2_2 h3_2
 have h6_3 := T.u 0 6
 have h7_3 := T.u 1 7
 have h8_3 := T.u 2 8
 have ⟨d3, s3, bl3⟩ := T.h d2 s2 bl2
 clear T
 refine Eng.tail_nil (wp_block ?_)
 refine Eng.loopN (fun n a w' => ∃ (k : Nat), l.length - k = n ∧ (k ≤ l.length) ∧ a.defers = [] ∧ a.tmps.size = 29 ∧ Below w.heap.size w w' ∧ a.eval (.tmp 0) = v ∧ a.eval (.tmp 2) = .int .i64 ((Evt.depths (List.take k l)).2) ∧ a.eval (.tmp 3) = .int .i64 ((Evt.depths (List.take k l)).1) ∧ a.eval (.tmp 6) = v ∧ a.eval (.tmp 7) = .int .i64 ((l.length : Nat) : Int) ∧ a.eval (.tmp 8) = .int .i64 (k : Nat)) (n0 := l.length - 0) ?_ ?_
 ·exact ⟨0, rfl, by omega, d3, s3, bl3, h0_3, (h2_3.trans (by first | rfl | (congr 1; rw [Eng.i64_id (by omega) (by omega)]; omega) | (rw [Evt.depths_take hk0]; unfold Evt.dstep; first | (rw [if_pos h24]; done) | (rw [if_neg h24, if_pos h35]; done) | (rw [if_neg h24, if_neg h35]; done)) | (simp; done))), (h3_3.trans (by first | rfl | (congr 1; rw [Eng.i64_id (by omega) (by omega)]; omega) | (rw [Evt.depths_take hk0]; unfold Evt.dstep; first | (rw [if_pos h24]; done) | (rw [if_neg h24, if_pos h35]; done) | (rw [if_neg h24, if_neg h35]; done)) | (simp; done))), h6_3, h7_3, (h8_3.trans (by first | rfl | (congr 1; rw [Eng.i64_id (by omega) (by omega)]; omega) | (rw [Evt.depths_take hk0]; unfold Evt.dstep; first | (rw [if_pos h24]; done) | (rw [if_neg h24, if_pos h35]; done) | (rw [if_neg h24, if_neg h35]; done)) | (simp; done)))⟩
 rintro n act4 w4 ⟨k, rfl, hc0_4, d4, s4, bl4, h0_4, h2_4, h3_4, h6_4, h7_4, h8_4⟩
 have Fl_4 := Eng.Reads.below hl bl4
 have hk1 := hc0_4
 refine wp_seq ?_
 obtain ⟨q9, Bq9⟩ := Eng.nm (decide ((k : Nat) < ((l.length : Nat) : Int)))
 refine Eng.rS [.bool q9] (fun _ => .plain) 1 0 s4 ?_ ?_
 ·refine .c ?_ (.nil)
  ·exact Eng.pv fun a w' H => Eng.vr (Eng.bb Bq9) (Eng.o2 (H.q 8 h8_4) (H.q 7 h7_4))
 intro act5 w5 T
 have ⟨h0_5, h2_5, h3_5, h6_5, h7_5, h8_5⟩ := T.r6 h0_4 h2_4 h3_4 h6_4 h7_4 h8_4
 have Fl_5 := T.f Fl_4
 have h9_5 := T.u 0 9
 have ⟨d5, s5, bl5⟩ := T.h d4 s4 bl4
 clear T
 refine Eng.tail_nil (wp_seq ?_)
 refine wp_cond_split h9_5 (fun hq => ?_) (fun hq => ?_)
 ·
  have c9 := Bq9.symm.trans hq
  clear hq
  have c9 := of_decide_eq_true c9
  have hk0 : k < l.length := by omega
  refine wp_skip (wp_seq ?_)
  refine wp_block (wp_seq ?_)
  refine Eng.regionS (Eng.still [fun u_ => u_ = Eng.elemPtr v (k * 5), fun u_ => u_ = .agg #[.int .i64 ((l.getD k default).kind), .string ((l.getD k default).anchor), .string ((l.getD k default).tag), .string ((l.getD k default).text), .bool ((l.getD k default).plain)], fun u_ => True, fun u_ => True]) (fun i => ([.plain, .plain, .alloc 30 #[.int .i64 0, .string ⟨#[]⟩, .string ⟨#[]⟩, .string ⟨#[]⟩, .bool false], .store 2 #[.int .i64 ((l.getD k default).kind), .string ((l.getD k default).anchor), .string ((l.getD k default).tag), .string ((l.getD k default).text), .bool ((l.getD k default).plain)]] : List Eng.Kind).getD i .plain) 4 0 29 s5 rfl (by kernel_rfl) (Eng.still_stable _) (Or.inr (Eng.still_any _)) ?_ ?_
  ·refine .c ?_ (.c ?_ (.c ?_ (.c ?_ (.nil))))
   ·exact Eng.pv fun a w' H => Eng.vr (v := Eng.elemPtr v (k * 5)) rfl (Eng.run_index_sl rfl Tryd.underlying37 (by kernel_rfl) (H.q 6 h6_5) ((H.q 8 h8_5).trans (congrArg (Value.int _) (show (k : Nat) = ((k : Nat) : Int) from by omega))) (Eng.Reads.below Fl_5 H.below) (by omega) rfl)
   ·exact Eng.pv fun a w' H => Eng.vr (v := .agg #[.int .i64 ((l.getD k default).kind), .string ((l.getD k default).anchor), .string ((l.getD k default).tag), .string ((l.getD k default).text), .bool ((l.getD k default).plain)]) rfl (Eng.run_load_els [.int .i64 ((l.getD k default).kind), .string ((l.getD k default).anchor), .string ((l.getD k default).tag), .string ((l.getD k default).text), .bool ((l.getD k default).plain)] rfl (H.d 0 10) (Eng.Reads.below Fl_5 H.below) (Evt.cells_at l k (by omega)) rfl Tryd.underlying30 rfl (by kernel_rfl))
   ·refine Eng.made rfl (by simp) rfl (fun a w' hd ho => ?_) (fun _ _ => trivial)
    simp only [execOp]
    go_simp
   refine Eng.stored [.int .i64 ((l.getD k default).kind), .string ((l.getD k default).anchor), .string ((l.getD k default).tag), .string ((l.getD k default).text), .bool ((l.getD k default).plain)] rfl rfl rfl (j := 2) (d := 5) (by kernel_rfl) rfl rfl (Eng.store_uniq (by kernel_rfl)) rfl rfl fun a w' g e hc hd ho => ?_
   have e0 : a.eval _ = .agg #[.int .i64 ((l.getD k default).kind), .string ((l.getD k default).anchor), .string ((l.getD k default).tag), .string ((l.getD k default).text), .bool ((l.getD k default).plain)] := (hd 1 11 (by kernel_rfl) rfl)
   have z0 := (Eng.cells hc 0).trans rfl
   have z1 := (Eng.cells hc 1).trans rfl
   have z2 := (Eng.cells hc 2).trans rfl
   have z3 := (Eng.cells hc 3).trans rfl
   have z4 := (Eng.cells hc 4).trans rfl
   have f0 := Eng.unfrozen hc 0
   have f1 := Eng.unfrozen hc 1
   have f2 := Eng.unfrozen hc 2
   have f3 := Eng.unfrozen hc 3
   have f4 := Eng.unfrozen hc 4
   simp only [execOp, e, e0]
   go_simp
   rfl
  intro act7 w7 T
  have ⟨h0_7, h2_7, h3_7, h6_7, h7_7, h8_7⟩ := T.r6 h0_5 h2_5 h3_5 h6_5 h7_5 h8_5
  obtain ⟨g5_7, h5_7, rg5_7, lg5_7_7, kg5_7_7⟩ := T.st 2 5 3 _ _ _ rfl rfl rfl rfl rfl
  have ⟨d7, s7, bl7⟩ := T.h d5 s5 bl5
  clear T
  refine Eng.tail_nil (wp_seq (wp_seq ?_))
  refine Eng.rP [.pointer (some ⟨g5_7, 0, none⟩), .int .i64 ((l.getD k default).kind)] 2 0 s7 (.c (Eng.pq fun a w' H => Eng.fb Tryd.underlying30 0 (H.q 5 h5_7)) (.c (Eng.pq fun a w' H => Eng.lb (H.d 0 12) (H.x lg5_7_7 kg5_7_7)) .nil)) fun act8 w8 T => ?_
  have ⟨h0_8, h2_8, h3_8, h6_8, h7_8, h8_8⟩ := T.r6 h0_7 h2_7 h3_7 h6_7 h7_7 h8_7
  have h13_8 := T.u 1 13
  have ⟨d8, s8, bl8⟩ := T.h d7 s7 bl7
  clear T
  refine Eng.tail_nil (wp_block ?_)
  refine wp_seq (wp_seq ?_)
  obtain ⟨q15, Bq15⟩ := Eng.nm (((l.getD k default).kind) == 2)
  refine Eng.rP [.bool q15, .bool q15] 2 0 s8 (.c (Eng.pv fun a w' H => Eng.vr (Eng.bb Bq15) (Eng.ok (.int .i64 2) (H.q 13 h13_8))) (.c (Eng.qe 0 15) .nil)) fun act9 w9 T => ?_
  have ⟨h0_9, h2_9, h3_9, h6_9, h7_9, h8_9, h13_9⟩ := T.r7 h0_8 h2_8 h3_8 h6_8 h7_8 h8_8 h13_8
  have h14_9 := T.u 1 14
  have ⟨d9, s9, bl9⟩ := T.h d8 s8 bl8
  clear T
  refine Eng.tail_nil (wp_cond_split h14_9 (fun hq => ?_) (fun hq => ?_))
  ·
   have kn10 := hq
   have c14 := Bq15.symm.trans hq
   clear hq
   have h24 : (l.getD k default).kind = 2 ∨ (l.getD k default).kind = 4 := Or.inl (by have h := c14; simpa using h)
   refine wp_skip (wp_cond_true (h14_9.trans (by rw [kn10])) ?_)
   refine Eng.rP [.int .i64 ((Evt.depths (List.take k l)).1), .int .i64 (IntKind.i64.wrap (((Evt.depths (List.take k l)).1) + 1)), .int .i64 (IntKind.i64.wrap (((Evt.depths (List.take k l)).1) + 1))] 3 0 s9 (.c (Eng.qq 3 h3_9) (.c (Eng.pv fun a w' H => Eng.vr (v := .int .i64 (IntKind.i64.wrap (((Evt.depths (List.take k l)).1) + 1))) rfl (Eng.ok (.int .i64 1) (H.d 0 17))) (.c (Eng.qe 1 18) .nil))) fun act11 w11 T => ?_
   have ⟨h0_11, h2_11, h6_11, h7_11, h8_11⟩ := T.r5 h0_9 h2_9 h6_9 h7_9 h8_9
   have h3_11 := T.u 2 3
   have ⟨d11, s11, bl11⟩ := T.h d9 s9 bl9
   clear T
   refine Eng.tail_nil (Eng.rP [.int .i64 ((Evt.depths (List.take k l)).2), .int .i64 (IntKind.i64.wrap (((Evt.depths (List.take k l)).1) + 1)), .int .i64 (mx ((Evt.depths (List.take k l)).2) (IntKind.i64.wrap (((Evt.depths (List.take k l)).1) + 1))), .int .i64 (mx ((Evt.depths (List.take k l)).2) (IntKind.i64.wrap (((Evt.depths (List.take k l)).1) + 1)))] 4 0 s11 (.c (Eng.qq 2 h2_11) (.c (Eng.qq 3 h3_11) (.c (Eng.pv fun a w' H => Eng.vr (v := .int .i64 (mx ((Evt.depths (List.take k l)).2) (IntKind.i64.wrap (((Evt.depths (List.take k l)).1) + 1)))) rfl (Eng.o2z (H.d 0 24) (H.d 1 25))) (.c (Eng.qe 2 26) .nil)))) fun act12 w12 T => ?_)
   have ⟨h0_12, h3_12, h6_12, h7_12, h8_12⟩ := T.r5 h0_11 h3_11 h6_11 h7_11 h8_11
   have h2_12 := T.u 3 2
   have ⟨d12, s12, bl12⟩ := T.h d11 s11 bl11
   clear T
   refine Eng.tail_nil (Eng.rP [.int .i64 (IntKind.i64.wrap ((k : Nat) + 1)), .int .i64 (IntKind.i64.wrap ((k : Nat) + 1))] 2 0 s12 (.c (Eng.pv fun a w' H => Eng.vr (v := .int .i64 (IntKind.i64.wrap ((k : Nat) + 1))) rfl (Eng.ok (.int .i64 1) (H.q 8 h8_12))) (.c (Eng.qd 0 27) .nil)) fun act13 w13 T => ?_)
   have ⟨h0_13, h2_13, h3_13, h6_13, h7_13⟩ := T.r5 h0_12 h2_12 h3_12 h6_12 h7_12
   have h8_13 := T.u 1 8
   have ⟨d13, s13, bl13⟩ := T.h d12 s12 bl12
   clear T
   exact Eng.tail_nil (⟨_, by omega, k + 1, rfl, by omega, d13, s13, bl13, h0_13, (h2_13.trans (by first | rfl | (congr 1; rw [Eng.i64_id (by omega) (by omega)]; omega) | (rw [Evt.depths_take hk0]; unfold Evt.dstep; first | (rw [if_pos h24]; done) | (rw [if_neg h24, if_pos h35]; done) | (rw [if_neg h24, if_neg h35]; done)) | (simp; done))), (h3_13.trans (by first | rfl | (congr 1; rw [Eng.i64_id (by omega) (by omega)]; omega) | (rw [Evt.depths_take hk0]; unfold Evt.dstep; first | (rw [if_pos h24]; done) | (rw [if_neg h24, if_pos h35]; done) | (rw [if_neg h24, if_neg h35]; done)) | (simp; done))), h6_13, h7_13, (h8_13.trans (by first | rfl | (congr 1; rw [Eng.i64_id (by omega) (by omega)]; omega) | (rw [Evt.depths_take hk0]; unfold Evt.dstep; first | (rw [if_pos h24]; done) | (rw [if_neg h24, if_pos h35]; done) | (rw [if_neg h24, if_neg h35]; done)) | (simp; done)))⟩)
  have c14 := Bq15.symm.trans hq
  clear hq
  have h24_1 : ¬ (l.getD k default).kind = 2 := by have h := c14; simpa using h
  obtain ⟨q16, Bq16⟩ := Eng.nm (((l.getD k default).kind) == 4)
  refine Eng.rP [.bool q16, .bool q16] 2 0 s9 (.c (Eng.pv fun a w' H => Eng.vr (Eng.bb Bq16) (Eng.ok (.int .i64 4) (H.q 13 h13_9))) (.c (Eng.qe 0 16) .nil)) fun act15 w15 T => ?_
  have ⟨h0_15, h2_15, h3_15, h6_15, h7_15, h8_15, h13_15⟩ := T.r7 h0_9 h2_9 h3_9 h6_9 h7_9 h8_9 h13_9
  have h14_15 := T.u 1 14
  have ⟨d15, s15, bl15⟩ := T.h d9 s9 bl9
  clear T
  refine Eng.tail_nil (wp_cond_split h14_15 (fun hq => ?_) (fun hq => ?_))
  ·
   have c14 := Bq16.symm.trans hq
   clear hq
   have h24 : (l.getD k default).kind = 2 ∨ (l.getD k default).kind = 4 := Or.inr (by have h := c14; simpa using h)
   refine Eng.rP [.int .i64 ((Evt.depths (List.take k l)).1), .int .i64 (IntKind.i64.wrap (((Evt.depths (List.take k l)).1) + 1)), .int .i64 (IntKind.i64.wrap (((Evt.depths (List.take k l)).1) + 1))] 3 0 s15 (.c (Eng.qq 3 h3_15) (.c (Eng.pv fun a w' H => Eng.vr (v := .int .i64 (IntKind.i64.wrap (((Evt.depths (List.take k l)).1) + 1))) rfl (Eng.ok (.int .i64 1) (H.d 0 17))) (.c (Eng.qe 1 18) .nil))) fun act17 w17 T => ?_
   have ⟨h0_17, h2_17, h6_17, h7_17, h8_17⟩ := T.r5 h0_15 h2_15 h6_15 h7_15 h8_15
   have h3_17 := T.u 2 3
   have ⟨d17, s17, bl17⟩ := T.h d15 s15 bl15
   clear T
   refine Eng.tail_nil (Eng.rP [.int .i64 ((Evt.depths (List.take k l)).2), .int .i64 (IntKind.i64.wrap (((Evt.depths (List.take k l)).1) + 1)), .int .i64 (mx ((Evt.depths (List.take k l)).2) (IntKind.i64.wrap (((Evt.depths (List.take k l)).1) + 1))), .int .i64 (mx ((Evt.depths (List.take k l)).2) (IntKind.i64.wrap (((Evt.depths (List.take k l)).1) + 1)))] 4 0 s17 (.c (Eng.qq 2 h2_17) (.c (Eng.qq 3 h3_17) (.c (Eng.pv fun a w' H => Eng.vr (v := .int .i64 (mx ((Evt.depths (List.take k l)).2) (IntKind.i64.wrap (((Evt.depths (List.take k l)).1) + 1)))) rfl (Eng.o2z (H.d 0 24) (H.d 1 25))) (.c (Eng.qe 2 26) .nil)))) fun act18 w18 T => ?_)
   have ⟨h0_18, h3_18, h6_18, h7_18, h8_18⟩ := T.r5 h0_17 h3_17 h6_17 h7_17 h8_17
   have h2_18 := T.u 3 2
   have ⟨d18, s18, bl18⟩ := T.h d17 s17 bl17
   clear T
   refine Eng.tail_nil (Eng.rP [.int .i64 (IntKind.i64.wrap ((k : Nat) + 1)), .int .i64 (IntKind.i64.wrap ((k : Nat) + 1))] 2 0 s18 (.c (Eng.pv fun a w' H => Eng.vr (v := .int .i64 (IntKind.i64.wrap ((k : Nat) + 1))) rfl (Eng.ok (.int .i64 1) (H.q 8 h8_18))) (.c (Eng.qd 0 27) .nil)) fun act19 w19 T => ?_)
   have ⟨h0_19, h2_19, h3_19, h6_19, h7_19⟩ := T.r5 h0_18 h2_18 h3_18 h6_18 h7_18
   have h8_19 := T.u 1 8
   have ⟨d19, s19, bl19⟩ := T.h d18 s18 bl18
   clear T
   exact Eng.tail_nil (⟨_, by omega, k + 1, rfl, by omega, d19, s19, bl19, h0_19, (h2_19.trans (by first | rfl | (congr 1; rw [Eng.i64_id (by omega) (by omega)]; omega) | (rw [Evt.depths_take hk0]; unfold Evt.dstep; first | (rw [if_pos h24]; done) | (rw [if_neg h24, if_pos h35]; done) | (rw [if_neg h24, if_neg h35]; done)) | (simp; done))), (h3_19.trans (by first | rfl | (congr 1; rw [Eng.i64_id (by omega) (by omega)]; omega) | (rw [Evt.depths_take hk0]; unfold Evt.dstep; first | (rw [if_pos h24]; done) | (rw [if_neg h24, if_pos h35]; done) | (rw [if_neg h24, if_neg h35]; done)) | (simp; done))), h6_19, h7_19, (h8_19.trans (by first | rfl | (congr 1; rw [Eng.i64_id (by omega) (by omega)]; omega) | (rw [Evt.depths_take hk0]; unfold Evt.dstep; first | (rw [if_pos h24]; done) | (rw [if_neg h24, if_pos h35]; done) | (rw [if_neg h24, if_neg h35]; done)) | (simp; done)))⟩)
  have c14 := Bq16.symm.trans hq
  clear hq
  have h24_2 : ¬ (l.getD k default).kind = 4 := by have h := c14; simpa using h
  have h24 : ¬ ((l.getD k default).kind = 2 ∨ (l.getD k default).kind = 4) := fun h => h.elim h24_1 h24_2
  refine wp_seq (wp_seq ?_)
  obtain ⟨q20, Bq20⟩ := Eng.nm (((l.getD k default).kind) == 3)
  refine Eng.rP [.bool q20, .bool q20] 2 0 s15 (.c (Eng.pv fun a w' H => Eng.vr (Eng.bb Bq20) (Eng.ok (.int .i64 3) (H.q 13 h13_15))) (.c (Eng.qe 0 20) .nil)) fun act21 w21 T => ?_
  have ⟨h0_21, h2_21, h3_21, h6_21, h7_21, h8_21, h13_21⟩ := T.r7 h0_15 h2_15 h3_15 h6_15 h7_15 h8_15 h13_15
  have h19_21 := T.u 1 19
  have ⟨d21, s21, bl21⟩ := T.h d15 s15 bl15
  clear T
  refine Eng.tail_nil (wp_cond_split h19_21 (fun hq => ?_) (fun hq => ?_))
  ·
   have kn22 := hq
   have c19 := Bq20.symm.trans hq
   clear hq
   have h35 : (l.getD k default).kind = 3 ∨ (l.getD k default).kind = 5 := Or.inl (by have h := c19; simpa using h)
   refine wp_skip (wp_cond_true (h19_21.trans (by rw [kn22])) ?_)
   refine Eng.rP [.int .i64 ((Evt.depths (List.take k l)).1), .int .i64 (IntKind.i64.wrap (((Evt.depths (List.take k l)).1) - 1)), .int .i64 (IntKind.i64.wrap (((Evt.depths (List.take k l)).1) - 1))] 3 0 s21 (.c (Eng.qq 3 h3_21) (.c (Eng.pv fun a w' H => Eng.vr (v := .int .i64 (IntKind.i64.wrap (((Evt.depths (List.take k l)).1) - 1))) rfl (Eng.ok (.int .i64 1) (H.d 0 22))) (.c (Eng.qe 1 23) .nil))) fun act23 w23 T => ?_
   have ⟨h0_23, h2_23, h6_23, h7_23, h8_23⟩ := T.r5 h0_21 h2_21 h6_21 h7_21 h8_21
   have h3_23 := T.u 2 3
   have ⟨d23, s23, bl23⟩ := T.h d21 s21 bl21
   clear T
   refine Eng.tail_nil (Eng.rP [.int .i64 ((Evt.depths (List.take k l)).2), .int .i64 (IntKind.i64.wrap (((Evt.depths (List.take k l)).1) - 1)), .int .i64 (mx ((Evt.depths (List.take k l)).2) (IntKind.i64.wrap (((Evt.depths (List.take k l)).1) - 1))), .int .i64 (mx ((Evt.depths (List.take k l)).2) (IntKind.i64.wrap (((Evt.depths (List.take k l)).1) - 1)))] 4 0 s23 (.c (Eng.qq 2 h2_23) (.c (Eng.qq 3 h3_23) (.c (Eng.pv fun a w' H => Eng.vr (v := .int .i64 (mx ((Evt.depths (List.take k l)).2) (IntKind.i64.wrap (((Evt.depths (List.take k l)).1) - 1)))) rfl (Eng.o2z (H.d 0 24) (H.d 1 25))) (.c (Eng.qe 2 26) .nil)))) fun act24 w24 T => ?_)
   have ⟨h0_24, h3_24, h6_24, h7_24, h8_24⟩ := T.r5 h0_23 h3_23 h6_23 h7_23 h8_23
   have h2_24 := T.u 3 2
   have ⟨d24, s24, bl24⟩ := T.h d23 s23 bl23
   clear T
   refine Eng.tail_nil (Eng.rP [.int .i64 (IntKind.i64.wrap ((k : Nat) + 1)), .int .i64 (IntKind.i64.wrap ((k : Nat) + 1))] 2 0 s24 (.c (Eng.pv fun a w' H => Eng.vr (v := .int .i64 (IntKind.i64.wrap ((k : Nat) + 1))) rfl (Eng.ok (.int .i64 1) (H.q 8 h8_24))) (.c (Eng.qd 0 27) .nil)) fun act25 w25 T => ?_)
   have ⟨h0_25, h2_25, h3_25, h6_25, h7_25⟩ := T.r5 h0_24 h2_24 h3_24 h6_24 h7_24
   have h8_25 := T.u 1 8
   have ⟨d25, s25, bl25⟩ := T.h d24 s24 bl24
   clear T
   exact Eng.tail_nil (⟨_, by omega, k + 1, rfl, by omega, d25, s25, bl25, h0_25, (h2_25.trans (by first | rfl | (congr 1; rw [Eng.i64_id (by omega) (by omega)]; omega) | (rw [Evt.depths_take hk0]; unfold Evt.dstep; first | (rw [if_pos h24]; done) | (rw [if_neg h24, if_pos h35]; done) | (rw [if_neg h24, if_neg h35]; done)) | (simp; done))), (h3_25.trans (by first | rfl | (congr 1; rw [Eng.i64_id (by omega) (by omega)]; omega) | (rw [Evt.depths_take hk0]; unfold Evt.dstep; first | (rw [if_pos h24]; done) | (rw [if_neg h24, if_pos h35]; done) | (rw [if_neg h24, if_neg h35]; done)) | (simp; done))), h6_25, h7_25, (h8_25.trans (by first | rfl | (congr 1; rw [Eng.i64_id (by omega) (by omega)]; omega) | (rw [Evt.depths_take hk0]; unfold Evt.dstep; first | (rw [if_pos h24]; done) | (rw [if_neg h24, if_pos h35]; done) | (rw [if_neg h24, if_neg h35]; done)) | (simp; done)))⟩)
  have c19 := Bq20.symm.trans hq
  clear hq
  have h35_1 : ¬ (l.getD k default).kind = 3 := by have h := c19; simpa using h
  obtain ⟨q21, Bq21⟩ := Eng.nm (((l.getD k default).kind) == 5)
  refine Eng.rP [.bool q21, .bool q21] 2 0 s21 (.c (Eng.pv fun a w' H => Eng.vr (Eng.bb Bq21) (Eng.ok (.int .i64 5) (H.q 13 h13_21))) (.c (Eng.qe 0 21) .nil)) fun act27 w27 T => ?_
  have ⟨h0_27, h2_27, h3_27, h6_27, h7_27, h8_27⟩ := T.r6 h0_21 h2_21 h3_21 h6_21 h7_21 h8_21
  have h19_27 := T.u 1 19
  have ⟨d27, s27, bl27⟩ := T.h d21 s21 bl21
  clear T
  refine Eng.tail_nil (wp_cond_split h19_27 (fun hq => ?_) (fun hq => ?_))
  ·
   have c19 := Bq21.symm.trans hq
   clear hq
   have h35 : (l.getD k default).kind = 3 ∨ (l.getD k default).kind = 5 := Or.inr (by have h := c19; simpa using h)
   refine Eng.rP [.int .i64 ((Evt.depths (List.take k l)).1), .int .i64 (IntKind.i64.wrap (((Evt.depths (List.take k l)).1) - 1)), .int .i64 (IntKind.i64.wrap (((Evt.depths (List.take k l)).1) - 1))] 3 0 s27 (.c (Eng.qq 3 h3_27) (.c (Eng.pv fun a w' H => Eng.vr (v := .int .i64 (IntKind.i64.wrap (((Evt.depths (List.take k l)).1) - 1))) rfl (Eng.ok (.int .i64 1) (H.d 0 22))) (.c (Eng.qe 1 23) .nil))) fun act29 w29 T => ?_
   have ⟨h0_29, h2_29, h6_29, h7_29, h8_29⟩ := T.r5 h0_27 h2_27 h6_27 h7_27 h8_27
   have h3_29 := T.u 2 3
   have ⟨d29, s29, bl29⟩ := T.h d27 s27 bl27
   clear T
   refine Eng.tail_nil (Eng.rP [.int .i64 ((Evt.depths (List.take k l)).2), .int .i64 (IntKind.i64.wrap (((Evt.depths (List.take k l)).1) - 1)), .int .i64 (mx ((Evt.depths (List.take k l)).2) (IntKind.i64.wrap (((Evt.depths (List.take k l)).1) - 1))), .int .i64 (mx ((Evt.depths (List.take k l)).2) (IntKind.i64.wrap (((Evt.depths (List.take k l)).1) - 1)))] 4 0 s29 (.c (Eng.qq 2 h2_29) (.c (Eng.qq 3 h3_29) (.c (Eng.pv fun a w' H => Eng.vr (v := .int .i64 (mx ((Evt.depths (List.take k l)).2) (IntKind.i64.wrap (((Evt.depths (List.take k l)).1) - 1)))) rfl (Eng.o2z (H.d 0 24) (H.d 1 25))) (.c (Eng.qe 2 26) .nil)))) fun act30 w30 T => ?_)
   have ⟨h0_30, h3_30, h6_30, h7_30, h8_30⟩ := T.r5 h0_29 h3_29 h6_29 h7_29 h8_29
   have h2_30 := T.u 3 2
   have ⟨d30, s30, bl30⟩ := T.h d29 s29 bl29
   clear T
   refine Eng.tail_nil (Eng.rP [.int .i64 (IntKind.i64.wrap ((k : Nat) + 1)), .int .i64 (IntKind.i64.wrap ((k : Nat) + 1))] 2 0 s30 (.c (Eng.pv fun a w' H => Eng.vr (v := .int .i64 (IntKind.i64.wrap ((k : Nat) + 1))) rfl (Eng.ok (.int .i64 1) (H.q 8 h8_30))) (.c (Eng.qd 0 27) .nil)) fun act31 w31 T => ?_)
   have ⟨h0_31, h2_31, h3_31, h6_31, h7_31⟩ := T.r5 h0_30 h2_30 h3_30 h6_30 h7_30
   have h8_31 := T.u 1 8
   have ⟨d31, s31, bl31⟩ := T.h d30 s30 bl30
   clear T
   exact Eng.tail_nil (⟨_, by omega, k + 1, rfl, by omega, d31, s31, bl31, h0_31, (h2_31.trans (by first | rfl | (congr 1; rw [Eng.i64_id (by omega) (by omega)]; omega) | (rw [Evt.depths_take hk0]; unfold Evt.dstep; first | (rw [if_pos h24]; done) | (rw [if_neg h24, if_pos h35]; done) | (rw [if_neg h24, if_neg h35]; done)) | (simp; done))), (h3_31.trans (by first | rfl | (congr 1; rw [Eng.i64_id (by omega) (by omega)]; omega) | (rw [Evt.depths_take hk0]; unfold Evt.dstep; first | (rw [if_pos h24]; done) | (rw [if_neg h24, if_pos h35]; done) | (rw [if_neg h24, if_neg h35]; done)) | (simp; done))), h6_31, h7_31, (h8_31.trans (by first | rfl | (congr 1; rw [Eng.i64_id (by omega) (by omega)]; omega) | (rw [Evt.depths_take hk0]; unfold Evt.dstep; first | (rw [if_pos h24]; done) | (rw [if_neg h24, if_pos h35]; done) | (rw [if_neg h24, if_neg h35]; done)) | (simp; done)))⟩)
  have c19 := Bq21.symm.trans hq
  clear hq
  have h35_2 : ¬ (l.getD k default).kind = 5 := by have h := c19; simpa using h
  have h35 : ¬ ((l.getD k default).kind = 3 ∨ (l.getD k default).kind = 5) := fun h => h.elim h35_1 h35_2
  refine wp_skip (Eng.rP [.int .i64 ((Evt.depths (List.take k l)).2), .int .i64 ((Evt.depths (List.take k l)).1), .int .i64 (mx ((Evt.depths (List.take k l)).2) ((Evt.depths (List.take k l)).1)), .int .i64 (mx ((Evt.depths (List.take k l)).2) ((Evt.depths (List.take k l)).1))] 4 0 s27 (.c (Eng.qq 2 h2_27) (.c (Eng.qq 3 h3_27) (.c (Eng.pv fun a w' H => Eng.vr (v := .int .i64 (mx ((Evt.depths (List.take k l)).2) ((Evt.depths (List.take k l)).1))) rfl (Eng.o2z (H.d 0 24) (H.d 1 25))) (.c (Eng.qe 2 26) .nil)))) fun act33 w33 T => ?_)
  have ⟨h0_33, h3_33, h6_33, h7_33, h8_33⟩ := T.r5 h0_27 h3_27 h6_27 h7_27 h8_27
  have h2_33 := T.u 3 2
  have ⟨d33, s33, bl33⟩ := T.h d27 s27 bl27
  clear T
  refine Eng.tail_nil (Eng.rP [.int .i64 (IntKind.i64.wrap ((k : Nat) + 1)), .int .i64 (IntKind.i64.wrap ((k : Nat) + 1))] 2 0 s33 (.c (Eng.pv fun a w' H => Eng.vr (v := .int .i64 (IntKind.i64.wrap ((k : Nat) + 1))) rfl (Eng.ok (.int .i64 1) (H.q 8 h8_33))) (.c (Eng.qd 0 27) .nil)) fun act34 w34 T => ?_)
  have ⟨h0_34, h2_34, h3_34, h6_34, h7_34⟩ := T.r5 h0_33 h2_33 h3_33 h6_33 h7_33
  have h8_34 := T.u 1 8
  have ⟨d34, s34, bl34⟩ := T.h d33 s33 bl33
  clear T
  exact Eng.tail_nil (⟨_, by omega, k + 1, rfl, by omega, d34, s34, bl34, h0_34, (h2_34.trans (by first | rfl | (congr 1; rw [Eng.i64_id (by omega) (by omega)]; omega) | (rw [Evt.depths_take hk0]; unfold Evt.dstep; first | (rw [if_pos h24]; done) | (rw [if_neg h24, if_pos h35]; done) | (rw [if_neg h24, if_neg h35]; done)) | (simp; done))), (h3_34.trans (by first | rfl | (congr 1; rw [Eng.i64_id (by omega) (by omega)]; omega) | (rw [Evt.depths_take hk0]; unfold Evt.dstep; first | (rw [if_pos h24]; done) | (rw [if_neg h24, if_pos h35]; done) | (rw [if_neg h24, if_neg h35]; done)) | (simp; done))), h6_34, h7_34, (h8_34.trans (by first | rfl | (congr 1; rw [Eng.i64_id (by omega) (by omega)]; omega) | (rw [Evt.depths_take hk0]; unfold Evt.dstep; first | (rw [if_pos h24]; done) | (rw [if_neg h24, if_pos h35]; done) | (rw [if_neg h24, if_neg h35]; done)) | (simp; done)))⟩)
 have c9 := Bq9.symm.trans hq
 clear hq
 have c9 := of_decide_eq_false c9
 have hke : k = l.length := by omega
 refine wp_exit (wp_seq ?_)
 refine Eng.rP [.int .i64 ((Evt.depths (List.take k l)).2), .int .i64 ((Evt.depths (List.take k l)).2)] 2 0 s5 (.c (Eng.qq 2 h2_5) (.c (Eng.qe 0 28) .nil)) fun act36 w36 T => ?_
 have h2_36 := T.u 1 2
 have d36 := T.e d5
 have bl36 := T.b bl5
 clear T
 refine Eng.tail_nil (wp_ret ?_)
 repeat (first | refine Eng.in_ret ?_ | refine Eng.then_ret ?_)
 exact Eng.ret1 rfl d36 (h2_36.trans (by rw [hke, List.take_length])) ⟨rfl, bl36⟩
end Go.Proofs.YtgnmjaacnmkgnaaDoor.X
end
section
namespace Go.Proofs.YtgnmjaacnmkgnaaDoor.X
open Go.RowKit Go.Shelf Go.Proofs Go.Proofs.YtgnmjaacnmkgnaaDoorW.PrintWords Go.Proofs.YtgnmjaacnmkgnaaDoorW.PrintLast Go.Proofs.YtgnmjaacnmkgnaaDoorW.PrintMore
set_option linter.unusedVariables false
set_option linter.unusedSimpArgs false
attribute [local go_sem] max2_int min2_int max_two min_two
set_option maxHeartbeats 4000000 in
set_option maxRecDepth 100000 in
theorem Evt.Right_calls (v : Value) (l : List Evt.Ev) (w : World) (hT : Tabs.Holds w) (hl : Eng.Reads w v l.length 5 (Evt.cells l)) (hsz : ∀ k, k < l.length → (l.getD k default).text.size ≤ 9223372036854775807) (hlen : l.length ≤ 100000) : Calls Tryd.prog 17 #[v] w fun e w' => e = .returned (.bool (Evt.rightG Evt.rightE l)) ∧ Below w.heap.size w w' := by
 have hm := Eng.Reads.len_le hl
 refine Eng.enter Tryd.func17 rfl fun A d0 s0 v0 => ?_
 have s0 : A.tmps.size = 35 := s0
 have y0 : A.eval (.tmp 0) = v := v0 0 (by simp)
 clear v0
 have bl0 : Below w.heap.size w w := Below.refl _ _
 refine wp_seq (Eng.rS [.bool false] (fun _ => .plain) 1 0 s0 ?_ ?_)
 ·refine .c ?_ (.nil)
  ·exact Eng.pq fun a w' H => Eng.ra (rfl : a.eval (.const (.bool false)) = .bool false)
 intro A w1 T
 have y0 := T.r1 y0
 have Fl_ := T.f hl
 have ⟨d1, s1, bl1⟩ := T.h d0 s0 bl0
 clear T
 refine Eng.tail_nil (wp_seq ?_)
 refine Eng.regionT (n := 3) rfl (Eng.tail_val (w1 := w1) (v := .agg #[.slice none 0 0]) rfl rfl rfl ?_ s1 rfl ?_)
 ·simp only [execOp, resolve]
  go_simp
 intro A d2 s2 y6 hr
 have y0 := Eng.k1 hr y0
 have d2 := d2.trans d1
 refine Eng.tail_ex rfl rfl rfl (Eng.box_ex (cs := #[.slice none 0 0]) rfl y6 (by rfl)) s2 rfl fun v_3 w3 A R d3 s3 y7 hr => ?_
 obtain ⟨g7_3, ev_3, rg_3, lg7_, kg7_, b_3⟩ := R
 have y0 := Eng.k1 hr y0
 have d3 := d3.trans d2
 have og7_3 : w.heap.size ≤ g7_3 := Nat.le_trans bl1.size rg_3
 have Fl_ := Eng.Reads.below Fl_ b_3
 have bl3 := bl1.trans (b_3.mono bl1.size)
 rw [ev_3] at y7
 refine Eng.tail_val rfl rfl rfl (Eng.ra y7) s3 rfl fun A d4 s4 y3 hr => ?_
 have y0 := Eng.k1 hr y0
 have d4 := d4.trans d3
 refine Eng.tail_nil (wp_seq (wp_seq ?_))
 refine Eng.rP [v, .int .i64 ((l.length : Nat) : Int), .int .i64 0] 3 0 s4 (.c (Eng.qq 0 y0) (.c (Eng.pv fun a w' H => Eng.vr (v := .int .i64 ((l.length : Nat) : Int)) rfl (Eng.run_len_sl rfl Tryd.underlying37 (H.d 0 8) (Eng.Reads.below Fl_ H.below))) (.c (Eng.pq fun a w' H => Eng.rv (rfl : a.eval (.const (.int .i64 0)) = .int .i64 0)) .nil))) fun A w5 T => ?_
 have ⟨y0, y3⟩ := T.r2 y0 y3
 have ⟨kg7_3_, lg7_3_⟩ := T.y kg7_ lg7_
 have y8 := T.u 0 8
 have y9 := T.u 1 9
 have y10 := T.u 2 10
 have ⟨d5, s5, bl5⟩ := T.h d4 s4 bl3
 clear T
 refine Eng.tail_nil (wp_block ?_)
 refine Eng.loopN (fun n a w' => ∃ (k : Nat) (o : Value) (st : List (Int × Int)), l.length - k = n ∧ (k ≤ l.length) ∧ (Evt.rightR Evt.rightE [] l = Evt.rightR Evt.rightE st (List.drop k l)) ∧ (List.length st ≤ k) ∧ (∀ t ∈ st, 0 ≤ t.1) ∧ (w'.ownsRow w.heap.size 93 2 o (List.length st) (Evt.opens st)) ∧ a.defers = [] ∧ a.tmps.size = 35 ∧ Below w.heap.size w w' ∧ a.eval (.tmp 0) = v ∧ a.eval (.tmp 3) = .pointer (some ⟨g7_3, 0, none⟩) ∧ a.eval (.tmp 8) = v ∧ a.eval (.tmp 9) = .int .i64 ((l.length : Nat) : Int) ∧ a.eval (.tmp 10) = .int .i64 (k : Nat) ∧ w'.heap[g7_3]? = some (.cells (#[o]) 77 (0, 0)) ∧ g7_3 < w'.heap.size) (n0 := l.length - 0) ?_ ?_
 ·exact ⟨0, .slice none 0 0, [], rfl, by omega, rfl, by simp, by simp, World.ownsRow_nil _ _ _ _, d5, s5, bl5, y0, y3, y8, y9, (y10.trans (by first | rfl | (congr 1; rw [Eng.i64_id (by omega) (by omega)]; omega) | (simp; done))), (kg7_3_.trans (by first | rfl | (simp; done))), lg7_3_⟩
 rintro n A w6 ⟨k, o, st, rfl, hc0_6, hc1_6, hc2_6, hc3_6, hc4_6, d6, s6, bl6, y0, y3, y8, y9, y10, kg7_3_, lg7_3_⟩
 have Fl_ := Eng.Reads.below hl bl6
 have hk1 := hc0_6
 have hinv := hc1_6
 have hlen := hc2_6
 have hpos := hc3_6
 have hgood0 : True := trivial
 have Fro_ := Eng.Reads.of_own hc4_6
 refine wp_seq ?_
 obtain ⟨q11, Bq11⟩ := Eng.nm (decide ((k : Nat) < ((l.length : Nat) : Int)))
 refine Eng.rS [.bool q11] (fun _ => .plain) 1 0 s6 ?_ ?_
 ·refine .c ?_ (.nil)
  ·exact Eng.pv fun a w' H => Eng.vr (Eng.bb Bq11) (Eng.o2 (H.q 10 y10) (H.q 9 y9))
 intro A w7 T
 have ⟨y0, y3, y8, y9, y10⟩ := T.r5 y0 y3 y8 y9 y10
 have ⟨kg7_3_, lg7_3_⟩ := T.y kg7_3_ lg7_3_
 have Fl_ := T.f Fl_
 have Fro_ := T.f Fro_
 have Oro_7 := T.g hc4_6
 have y11 := T.u 0 11
 have ⟨d7, s7, bl7⟩ := T.h d6 s6 bl6
 clear T
 refine Eng.tail_nil (wp_seq ?_)
 refine wp_cond_split y11 (fun hq => ?_) (fun hq => ?_)
 ·
  have c11 := Bq11.symm.trans hq
  clear hq
  have c11 := of_decide_eq_true c11
  have hk0 : k < l.length := by omega
  refine wp_skip (wp_seq ?_)
  refine wp_block (wp_seq ?_)
  refine Eng.regionS (Eng.still [fun u_ => u_ = Eng.elemPtr v (k * 5), fun u_ => u_ = .agg #[.int .i64 ((l.getD k default).kind), .string ((l.getD k default).anchor), .string ((l.getD k default).tag), .string ((l.getD k default).text), .bool ((l.getD k default).plain)], fun u_ => True, fun u_ => True]) (fun i => ([.plain, .plain, .alloc 30 #[.int .i64 0, .string ⟨#[]⟩, .string ⟨#[]⟩, .string ⟨#[]⟩, .bool false], .store 2 #[.int .i64 ((l.getD k default).kind), .string ((l.getD k default).anchor), .string ((l.getD k default).tag), .string ((l.getD k default).text), .bool ((l.getD k default).plain)]] : List Eng.Kind).getD i .plain) 4 0 35 s7 rfl (by kernel_rfl) (Eng.still_stable _) (Or.inr (Eng.still_any _)) ?_ ?_
  ·refine .c ?_ (.c ?_ (.c ?_ (.c ?_ (.nil))))
   ·exact Eng.pv fun a w' H => Eng.vr (v := Eng.elemPtr v (k * 5)) rfl (Eng.run_index_sl rfl Tryd.underlying37 (by kernel_rfl) (H.q 8 y8) ((H.q 10 y10).trans (congrArg (Value.int _) (show (k : Nat) = ((k : Nat) : Int) from by omega))) (Eng.Reads.below Fl_ H.below) (by omega) rfl)
   ·exact Eng.pv fun a w' H => Eng.vr (v := .agg #[.int .i64 ((l.getD k default).kind), .string ((l.getD k default).anchor), .string ((l.getD k default).tag), .string ((l.getD k default).text), .bool ((l.getD k default).plain)]) rfl (Eng.run_load_els [.int .i64 ((l.getD k default).kind), .string ((l.getD k default).anchor), .string ((l.getD k default).tag), .string ((l.getD k default).text), .bool ((l.getD k default).plain)] rfl (H.d 0 12) (Eng.Reads.below Fl_ H.below) (Evt.cells_at l k (by omega)) rfl Tryd.underlying30 rfl (by kernel_rfl))
   ·refine Eng.made rfl (by simp) rfl (fun a w' hd ho => ?_) (fun _ _ => trivial)
    simp only [execOp]
    go_simp
   refine Eng.stored [.int .i64 ((l.getD k default).kind), .string ((l.getD k default).anchor), .string ((l.getD k default).tag), .string ((l.getD k default).text), .bool ((l.getD k default).plain)] rfl rfl rfl (j := 2) (d := 5) (by kernel_rfl) rfl rfl (Eng.store_uniq (by kernel_rfl)) rfl rfl fun a w' g e hc hd ho => ?_
   have e0 : a.eval _ = .agg #[.int .i64 ((l.getD k default).kind), .string ((l.getD k default).anchor), .string ((l.getD k default).tag), .string ((l.getD k default).text), .bool ((l.getD k default).plain)] := (hd 1 13 (by kernel_rfl) rfl)
   have z0 := (Eng.cells hc 0).trans rfl
   have z1 := (Eng.cells hc 1).trans rfl
   have z2 := (Eng.cells hc 2).trans rfl
   have z3 := (Eng.cells hc 3).trans rfl
   have z4 := (Eng.cells hc 4).trans rfl
   have f0 := Eng.unfrozen hc 0
   have f1 := Eng.unfrozen hc 1
   have f2 := Eng.unfrozen hc 2
   have f3 := Eng.unfrozen hc 3
   have f4 := Eng.unfrozen hc 4
   simp only [execOp, e, e0]
   go_simp
   rfl
  intro A w9 T
  have ⟨y0, y3, y8, y9, y10⟩ := T.r5 y0 y3 y8 y9 y10
  have ⟨kg7_3_, lg7_3_⟩ := T.y kg7_3_ lg7_3_
  have Oro_9 := T.g Oro_7
  obtain ⟨g5_9, y5, rg5_9, lg5_9_, kg5_9_⟩ := T.st 2 5 3 _ _ _ rfl rfl rfl rfl rfl
  have ⟨d9, s9, bl9⟩ := T.h d7 s7 bl7
  clear T
  refine Eng.tail_nil (wp_seq ?_)
  refine (wpIn_wide (n := 1)).1 (EngI.regionT (n := 9) rfl ?_)
  refine EngI.tw rfl (Eng.run_load_all rfl y5 kg5_9_ Tryd.underlying30 rfl (by kernel_rfl)) s9 d9 fun A d10 s10 y14 hr => ?_
  have ⟨y0, y3, y5, y8, y9, y10⟩ := Eng.k6 hr y0 y3 y5 y8 y9 y10
  obtain ⟨q15, Bq15⟩ := Eng.nm (Evt.rightE (l.getD k default))
  refine EngI.tail_call EngI.free_wide Tryd.func35 (by kernel_rfl) (by kernel_rfl) rfl rfl rfl rfl #[.agg #[.int .i64 ((l.getD k default).kind), .string ((l.getD k default).anchor), .string ((l.getD k default).tag), .string ((l.getD k default).text), .bool ((l.getD k default).plain)]] (Eng.m1 y14) s10 rfl (R := fun v w_ => v = .bool (Evt.rightE (l.getD k default)) ∧ Below w9.heap.size w9 w_) ((Evt.right_calls (l.getD k default) _ (Tabs.below (Tabs.below hT bl9) (Below.refl _ _)) (hsz k hk0)).mono ?_) fun v_11 w11 A R d11 s11 hv hr => ?_
  ·rintro e w_ ⟨rfl, hb⟩; exact ⟨_, rfl, rfl, hb⟩
  obtain ⟨ev_11, b_11⟩ := R
  have ⟨y0, y3, y5, y8, y9, y10⟩ := Eng.k6 hr y0 y3 y5 y8 y9 y10
  have y15 : A.eval (.tmp 15) = .bool q15 := (hv.trans ev_11).trans (congrArg Value.bool Bq15.symm)
  have d11 := d11.trans d10
  clear hv hr
  have kg7_3_ := (b_11.block _ lg7_3_).trans kg7_3_
  have kg5_9_ := (b_11.block _ lg5_9_).trans kg5_9_
  have Oro_11 := Eng.own_below Oro_9 b_11
  have bl11 := bl9.trans (b_11.mono bl9.size)
  refine EngI.tw rfl (Eng.run_not rfl y15) s11 d11 fun A d12 s12 y16 hr => ?_
  have ⟨y0, y3, y5, y8, y9, y10⟩ := Eng.k6 hr y0 y3 y5 y8 y9 y10
  refine EngI.tw rfl (Eng.rv y16) s12 d12 fun A d13 s13 y17 hr => ?_
  have ⟨y0, y3, y5, y8, y9, y10, y16⟩ := Eng.k7 hr y0 y3 y5 y8 y9 y10 y16
  rcases Bool.eq_false_or_eq_true (!q15) with hq | hq
  ·
   have kn14 := hq
   have c17 := hq
   clear hq
   have h16_kn14 := y16.trans (congrArg Value.bool kn14)
   have h17_kn14 := y17.trans (congrArg Value.bool kn14)
   refine EngG.tail_off EngI.free_wide rfl (EngG.wanted_off (want := false) rfl rfl rfl (by rw [s13]; decide) h17_kn14) rfl s13 rfl fun A d15 s15 hr => ?_
   have y17 : A.eval (.tmp 17) = .bool true := (hr 17 rfl).trans h17_kn14
   have d15 := d15.trans d13
   refine EngG.tail_off EngI.free_wide rfl (EngG.wanted_off (want := false) rfl rfl rfl (by rw [s15]; decide) y17) rfl s15 rfl fun A d16 s16 hr => ?_
   have y17 := Eng.k1 hr y17
   have d16 := d16.trans d15
   refine EngG.tail_off EngI.free_wide rfl (EngG.wanted_off (want := false) rfl rfl rfl (by rw [s16]; decide) y17) rfl s16 rfl fun A d17 s17 hr => ?_
   have y17 := Eng.k1 hr y17
   have d17 := d17.trans d16
   refine EngG.tail_off EngI.free_wide rfl (EngG.wanted_off (want := false) rfl rfl rfl (by rw [s17]; decide) y17) rfl s17 rfl fun A d18 s18 hr => ?_
   have y17 := Eng.k1 hr y17
   have d18 := d18.trans d17
   refine EngI.tw rfl (Eng.run_pick rfl y17 (v := .bool true) (by exact (rfl : A.eval (.const (.bool true)) = .bool true))) s18 d18 fun A d19 s19 y22 hr => EngI.tail_nil (wp_cond_true y22 ?_)
   refine wp_seq (Eng.rS [.bool false] (fun _ => .plain) 1 0 s19 ?_ ?_)
   ·refine .c ?_ (.nil)
    ·exact Eng.pq fun a w' H => Eng.ra (rfl : a.eval (.const (.bool false)) = .bool false)
   intro A w20 T
   have y2 := T.u 0 2
   have d20 := T.e d19
   have bl20 := T.b bl11
   clear T
   refine Eng.tail_nil (wp_ret ?_)
   repeat (first | refine Eng.in_ret ?_ | refine Eng.then_ret ?_)
   have hno : Evt.rightE (l.getD k default) = false := by have h := c17; rw [Bq15] at h; revert h; cases Evt.rightE (l.getD k default) <;> simp
   have fin : Evt.rightG Evt.rightE l = false := by unfold Evt.rightG; rw [hinv, Evt.rightR_bad hk0 hno, Bool.false_and]
   exact Eng.ret1 rfl d20 y2 ⟨by rw [fin], bl20⟩
  have kn21 := hq
  have c17 := hq
  clear hq
  have h16_kn21 := y16.trans (congrArg Value.bool kn21)
  have h17_kn21 := y17.trans (congrArg Value.bool kn21)
  refine EngG.tail_val EngI.free_wide rfl (EngG.wanted_on (want := false) rfl rfl rfl (by rw [s13]; decide) h17_kn21) rfl rfl (Eng.rv y3) s13 rfl fun A d22 s22 y18 hr => ?_
  have ⟨y0, y3, y5, y8, y9, y10⟩ := Eng.k6 hr y0 y3 y5 y8 y9 y10
  have y17 : A.eval (.tmp 17) = .bool false := (hr 17 rfl).trans h17_kn21
  have d22 := d22.trans d13
  refine EngG.tail_val EngI.free_wide rfl (EngG.wanted_on (want := false) rfl rfl rfl (by rw [s22]; decide) y17) rfl rfl (Eng.run_load_all rfl y5 kg5_9_ Tryd.underlying30 rfl (by kernel_rfl)) s22 rfl fun A d23 s23 y19 hr => ?_
  have ⟨y0, y3, y8, y9, y10, y17, y18⟩ := Eng.k7 hr y0 y3 y8 y9 y10 y17 y18
  have d23 := d23.trans d22
  refine EngG.tail_call EngI.free_wide Tryd.func36 (by kernel_rfl) (by kernel_rfl) rfl (EngG.wanted_on (want := false) rfl rfl rfl (by rw [s23]; decide) y17) rfl rfl #[.pointer (some ⟨g7_3, 0, none⟩), .agg #[.int .i64 ((l.getD k default).kind), .string ((l.getD k default).anchor), .string ((l.getD k default).tag), .string ((l.getD k default).text), .bool ((l.getD k default).plain)]] (Eng.m2 y18 y19) s23 rfl (R := fun v w' => v = .bool (Evt.takeF st ((l.getD k default).kind)).isSome ∧ Below w.heap.size w w' ∧ ∀ st', Evt.takeF st ((l.getD k default).kind) = some st' → ∃ o', Evt.Is w.heap.size w11 g7_3 o st' w' o') ((Evt.take_calls g7_3 o (l.getD k default) st w _ bl11 og7_3 kg7_3_ Oro_11 (by omega) hpos).mono ?_) fun v_24 w24 A R d24 s24 y20 hr => ?_
  ·rintro e w1 ⟨rfl, h1, h2⟩; exact ⟨_, rfl, rfl, h1, h2⟩
  have ⟨y0, y3, y8, y9, y10, y17⟩ := Eng.k6 hr y0 y3 y8 y9 y10 y17
  have d24 := d24.trans d23
  obtain ⟨ev_24, bl24, hP24⟩ := R
  obtain ⟨q20, Bq20⟩ := Eng.nm ((Evt.takeF st ((l.getD k default).kind)).isSome)
  rw [ev_24, ← Bq20] at y20
  refine EngG.tail_val EngI.free_wide rfl (EngG.wanted_on (want := false) rfl rfl rfl (by rw [s24]; decide) y17) rfl rfl (Eng.run_not rfl y20) s24 rfl fun A d25 s25 y21 hr => ?_
  have ⟨y0, y3, y8, y9, y10, y17⟩ := Eng.k6 hr y0 y3 y8 y9 y10 y17
  have d25 := d25.trans d24
  refine EngI.tw rfl (Eng.run_pick rfl y17 (v := .bool (!q20)) (by exact y21)) s25 d25 fun A d26 s26 y22 hr => ?_
  have ⟨y0, y3, y8, y9, y10⟩ := Eng.k5 hr y0 y3 y8 y9 y10
  refine EngI.tail_nil (wp_cond_split y22 (fun hq => ?_) (fun hq => ?_))
  ·
   have c22 := hq
   clear hq
   refine wp_seq (Eng.rS [.bool false] (fun _ => .plain) 1 0 s26 ?_ ?_)
   ·refine .c ?_ (.nil)
    ·exact Eng.pq fun a w' H => Eng.ra (rfl : a.eval (.const (.bool false)) = .bool false)
   intro A w28 T
   have y2 := T.u 0 2
   have d28 := T.e d26
   have bl28 := T.b bl24
   clear T
   refine Eng.tail_nil (wp_ret ?_)
   repeat (first | refine Eng.in_ret ?_ | refine Eng.then_ret ?_)
   have hn : Evt.takeF st (l.getD k default).kind = none := by rw [← Option.not_isSome_iff_eq_none, ← Bq20]; revert c22; cases q20 <;> simp
   have fin : Evt.rightG Evt.rightE l = false := by unfold Evt.rightG; rw [hinv, Evt.rightR_none hk0 hn, Bool.false_and]
   exact Eng.ret1 rfl d28 y2 ⟨by rw [fin], bl28⟩
  have c22 := hq
  clear hq
  obtain ⟨st2, hst2⟩ := Option.isSome_iff_exists.1 (show (Evt.takeF st ((l.getD k default).kind)).isSome = true from by rw [← Bq20]; revert c22; cases q20 <;> simp)
  obtain ⟨o2, I2⟩ := hP24 st2 hst2
  have hgood := Evt.take_good hst2 hpos
  have kg7_3_ := I2.box
  have lg7_3_ := (Array.getElem?_eq_some_iff.1 kg7_3_).1
  have O2 := I2.own
  have F2 := Eng.Reads.of_own O2
  have hok : Evt.rightE (l.getD k default) = true := by have h := c17; rw [Bq15] at h; revert h; cases Evt.rightE (l.getD k default) <;> simp
  refine wp_skip (Eng.rP [.int .i64 (IntKind.i64.wrap ((k : Nat) + 1)), .int .i64 (IntKind.i64.wrap ((k : Nat) + 1))] 2 0 s26 (.c (Eng.pv fun a w' H => Eng.vr (v := .int .i64 (IntKind.i64.wrap ((k : Nat) + 1))) rfl (Eng.ok (.int .i64 1) (H.q 10 y10))) (.c (Eng.qd 0 23) .nil)) fun A w31 T => ?_)
  have ⟨y0, y3, y8, y9⟩ := T.r4 y0 y3 y8 y9
  have ⟨kg7_3_, lg7_3_⟩ := T.y kg7_3_ lg7_3_
  have Oro_31 := T.g O2
  have y10 := T.u 1 10
  have ⟨d31, s31, bl31⟩ := T.h d26 s26 bl24
  clear T
  exact Eng.tail_nil (⟨_, by omega, k + 1, o2, st2, rfl, by omega, hinv.trans (Evt.rightR_go hk0 hok hst2), by omega, hgood.1, Oro_31, d31, s31, bl31, y0, y3, y8, y9, (y10.trans (by first | rfl | (congr 1; rw [Eng.i64_id (by omega) (by omega)]; omega) | (simp; done))), (kg7_3_.trans (by first | rfl | (simp; done))), lg7_3_⟩)
 have c11 := Bq11.symm.trans hq
 clear hq
 have c11 := of_decide_eq_false c11
 have hke : k = l.length := by omega
 refine wp_exit (wp_seq ?_)
 obtain ⟨q29, Bq29⟩ := Eng.nm (((st.length : Nat) : Int) == 0)
 obtain ⟨q33, Bq33⟩ := Eng.nm (decide (((Evt.depths l).2) ≤ 40))
 obtain ⟨q34, Bq34⟩ := Eng.nm (q29 && q33)
 refine Eng.rS [.pointer (some ⟨g7_3, 0, none⟩), .pointer (some ⟨g7_3, 0, none⟩), .pointer (some ⟨g7_3, 0, none⟩), o, .int .i64 ((st.length : Nat) : Int), .bool q29, .bool q29, bif (q29 == true) then (v) else undef, bif (q29 == true) then (.int .i64 ((Evt.depths l).2)) else undef, bif (q29 == true) then (.bool q33) else undef, .bool q34, .bool q34] (fun _ => .plain) 12 0 s7 ?_ ?_
 ·refine .c ?_ (.c ?_ (.c ?_ (.c ?_ (.c ?_ (.c ?_ (.c ?_ (.c ?_ (.c ?_ (.c ?_ (.c ?_ (.c ?_ (.nil))))))))))))
  ·exact Eng.qq 3 y3
  ·exact Eng.pq fun a w' H => Eng.run_nilb rfl (H.d 0 24)
  ·exact Eng.pq fun a w' H => Eng.fb Tryd.underlying77 0 (H.d 1 25)
  ·exact Eng.pq fun a w' H => Eng.lb (H.d 2 26) (H.x lg7_3_ kg7_3_)
  ·exact Eng.pv fun a w' H => Eng.vr (v := .int .i64 ((st.length : Nat) : Int)) rfl (Eng.run_len_sl rfl Tryd.underlying75 (H.d 3 27) (Eng.Reads.below Fro_ H.below))
  ·exact Eng.pv fun a w' H => Eng.vr (Eng.bb Bq29) (Eng.ok (.int .i64 0) (H.d 4 28))
  ·exact Eng.qd 5 29
  ·exact Eng.g1 6 30 q29 fun hG a w' H => Eng.vr (Eng.off' hG rfl) (Eng.rv (H.q 0 y0))
  ·refine Eng.g1 6 30 q29 fun hG a w' H => Eng.call Tryd.func37 (by kernel_rfl) (by kernel_rfl) rfl #[v] ?_ ?_
   ·have e0 : a.eval (.tmp 31) = v := (Eng.on (H.d 7 31) hG); simp only [List.map_toArray, List.map_cons, List.map_nil, e0]
   refine (Evt.depth_calls v l _ (Eng.Reads.below Fl_ H.below)).mono ?_
   rintro e w'' ⟨rfl, hb⟩
   exact ⟨_, rfl, (Eng.off' hG rfl), hb⟩
  ·exact Eng.g1 6 30 q29 fun hG a w' H => Eng.vr (v := .bool (decide (((Evt.depths l).2) ≤ 40))) (Eng.off' hG (by rw [Bq33])) (Eng.ok (.int .i64 40) (Eng.on (H.d 8 32) hG))
  ·exact Eng.pv fun a w' H => Eng.vr (Eng.bb Bq34) (Eng.run_and rfl rfl (G := true) (H.d 6 30) (fun hb => (Eng.on (H.d 9 33) (Eng.mk1 hb))))
  exact Eng.qe 10 34
 intro A w33 T
 have y2 := T.u 11 2
 have d33 := T.e d7
 have bl33 := T.b bl7
 clear T
 refine Eng.tail_nil (wp_ret ?_)
 repeat (first | refine Eng.in_ret ?_ | refine Eng.then_ret ?_)
 have fin : q34 = Evt.rightG Evt.rightE l := by
  simp only [Bq34, Bq33, Bq29, Bq11]
  unfold Evt.rightG; rw [hinv, Evt.rightR_end hke]; cases st <;> simp; try omega
 exact Eng.ret1 rfl d33 (y2.trans (congrArg Value.bool fin)) ⟨rfl, bl33⟩
end Go.Proofs.YtgnmjaacnmkgnaaDoor.X
end
section
namespace Go.Proofs.YtgnmjaacnmkgnaaDoor.X
open Go.RowKit Go.Shelf Go.Proofs Go.Maps Go.WideMaps
set_option linter.unusedVariables false
set_option linter.unusedSimpArgs false
namespace Evt
theorem rightR_step {st : List (Int × Int)} {l : List Ev} {k : Nat} (hk : k < l.length) (h : rightR rightE st (l.drop k) = true) : ∃ st', takeF st (l.getD k default).kind = some st' ∧ rightR rightE st' (l.drop (k + 1)) = true := by
  rw [Rwt.drop_one hk, rightR, Bool.and_eq_true] at h
  cases hq : takeF st (l.getD k default).kind with
  | none => rw [hq] at h; exact absurd h.2 (by simp)
  | some st' => rw [hq] at h; exact ⟨st', rfl, h.2⟩
end Evt
namespace Dc
open Evt (takeF pop more Ev)
variable {w W W' : World} {dg : Nat} {gv ov mv : Value} {st st' : List (Int × Int)} {d : Dc} {fin : List (List Nd × Value)} {k : Nat} {live : Bool} {x : Ev} {l : List Ev}
theorem HS.start : HS w W dg gv ov mv [] ⟨[], [], []⟩ [] 0 false := ⟨Good.nil _, fun h => absurd rfl h, fun h => absurd rfl h, fun h => (by cases h), fun f hf => absurd hf List.not_mem_nil⟩
theorem twall_step (hk : k < l.length) (h : TwAll d (l.drop k)) : ((l.getD k default).kind = 1 → TwOK d.nodes) ∧ TwAll (stepF d (l.getD k default)).1 (l.drop (k + 1)) := by
  rw [Rwt.drop_one hk] at h; exact h
theorem runF_step {out : List (List Nd)} (hk : k < l.length) (he : (stepF d (l.getD k default)).2.2 = 0) : runF d out (l.drop k) = runF (stepF d (l.getD k default)).1 (if (stepF d (l.getD k default)).2.1 = true then out ++ [(stepF d (l.getD k default)).1.nodes] else out) (l.drop (k + 1)) := by
  rw [Rwt.drop_one hk, runF, if_pos he]
theorem runF_err {out : List (List Nd)} (hk : k < l.length) (he : ¬ (stepF d (l.getD k default)).2.2 = 0) : runF d out (l.drop k) = ([], (stepF d (l.getD k default)).2.2) := by
  rw [Rwt.drop_one hk, runF, if_neg he]
theorem runF_end {out : List (List Nd)} (hk : k = l.length) : runF d out (l.drop k) = (out, 0) := by
  rw [hk, List.drop_length]; rfl
theorem over_kind (h : (stepF d x).2.1 = true) : x.kind = 1 := by
  apply Classical.byContradiction
  intro h1
  unfold stepF at h
  rw [if_neg h1] at h
  split at h
  · cases h
  · split at h
    · cases h
    · split at h <;> cases h
theorem over_st (H : HS w W dg gv ov mv st d fin k live) (ht : takeF st x.kind = some st') : (stepF d x).2.1 = true → st' = [] := by
  intro h
  have h1 := over_kind h
  rw [h1] at ht
  have hne : st ≠ [] := by rintro rfl; exact absurd (take_empty ht) (by decide)
  exact rel_end ht (H.rel hne)
theorem HS.over (H : HS w W dg gv ov mv [] d fin k true) : HS w W dg gv ov mv [] d (fin ++ [(d.nodes, gv)]) k false := by
  refine ⟨H.good, fun h => absurd rfl h, fun h => absurd rfl h, fun h => (by cases h), fun f hf => ?_⟩
  rcases List.mem_append.1 hf with hf | hf
  · exact H.fins f hf
  · rw [List.mem_singleton.1 hf]
    obtain ⟨h, mb, h1, h2, h3, h4⟩ := H.doc rfl
    exact ⟨h, d.opn, d.names, ov, mb, h2, h3, fun _ _ => id⟩
theorem rep_grown {B B' : Nat} {h : List NV} {opn : List Int} {names : List (List UInt8 × Int)} {mb n : Nat} {v : Value} {xs : List Value} (R : Rep B W h opn names gv ov mb) (O : W.ownsRow B' 48 1 v n xs) (G : W.grownBy W' v.ownBlock) : Rep B W' h opn names gv ov mb :=
  R.keep fun b hb => G.block b (R.lt hb).2 fun e => by
    obtain ⟨_, _, cs, hc⟩ := Eng.ownB O e
    exact R.ne hc rfl rfl hb
theorem HS.grown {B' n : Nat} {v : Value} {xs : List Value} (H : HS w W dg gv ov mv st d fin k live) (O : W.ownsRow B' 48 1 v n xs) (G : W.grownBy W' v.ownBlock) : HS w W' dg gv ov mv st d fin k live := by
  have hf : ∀ {f Bc}, Fin w W f Bc → Fin w W' f Bc := by
    rintro f Bc ⟨a, b, c, d, e, h1, h2, h3⟩
    exact ⟨a, b, c, d, e, h1, rep_grown h2 O G, h3⟩
  refine ⟨H.good, H.rel, H.liv, fun hl => ?_, fun f h => hf (H.fins f h)⟩
  obtain ⟨h, mb, h1, h2, h3, h4⟩ := H.doc hl
  exact ⟨h, mb, h1, h2, rep_grown h3 O G, fun f hh => hf (h4 f hh)⟩
theorem pend_below {er : Int} (P : er = 0 → HS w W dg gv ov mv st d fin k live) (hb : Below W.heap.size W W') : er = 0 → HS w W' dg gv ov mv st d fin k live := fun e => (P e).below hb
theorem own_keep {B n : Nat} {v : Value} {xs : List Value} {cs : Array Value} (O : W.ownsRow B 48 1 v n xs) (K : Keep W W' dg) (hk : W.heap[dg]? = some (.cells cs 64 (0, 0))) : W'.ownsRow B 48 1 v n xs := by
  refine ⟨O.1, ?_⟩
  rcases O.2 with h2 | ⟨g, cap, cur, rfl, hg, hh, r⟩
  · exact .inl h2
  · exact .inr ⟨g, cap, cur, rfl, hg, K g cur 48 hh rfl rfl (fun e => by subst e; rw [hk] at hh; cases hh), r⟩
theorem graphsF_no (h : Evt.rightG Evt.rightE l = false) : graphsF l = ([], 5) := by unfold graphsF; rw [h]; rfl
theorem graphsF_is (h : Evt.rightG Evt.rightE l = true) : graphsF l = runF ⟨[], [], []⟩ [] l := by unfold graphsF; rw [if_pos h]
theorem rightG_R (h : Evt.rightG Evt.rightE l = true) : Evt.rightR Evt.rightE [] l = true := by unfold Evt.rightG at h; rw [Bool.and_eq_true] at h; exact h.1
theorem fin_snoc {fin : List (List Nd × Value)} {f : List Nd × Value} {B : Nat} {v : Value} (O : W.ownsRow B 48 1 v (fin.length + 1) (fin.map (·.2) ++ [f.2])) : W.ownsRow B 48 1 v (fin ++ [f]).length ((fin ++ [f]).map (·.2)) := by
  rw [List.length_append, List.map_append]; exact O
theorem fin_nil : W.ownsRow w.heap.size 48 1 (.slice none 0 0) ([] : List (List Nd × Value)).length (([] : List (List Nd × Value)).map (·.2)) := World.ownsRow_nil _ _ _ _
end Dc
end Go.Proofs.YtgnmjaacnmkgnaaDoor.X
end
section
namespace Go.Proofs.YtgnmjaacnmkgnaaDoor.X
open Go.RowKit Go.Shelf Go.Proofs Go.Maps
set_option linter.unusedVariables false
set_option linter.unusedSimpArgs false
namespace Dc
def KsO (B : Nat) (w : World) (hs : List NV) : Prop := ∀ x ∈ hs, w.ownsRow B 3 1 x.2 x.1.kids.length (ints x.1.kids)
def KsR (w : World) (hs : List NV) : Prop := ∀ x ∈ hs, Eng.Reads w x.2 x.1.kids.length 1 (ints x.1.kids)
theorem KsO.below {B : Nat} {w w' : World} {hs : List NV} (h : KsO B w hs) (b : Below w.heap.size w w') : KsO B w' hs := fun x hx => Eng.own_below (h x hx) b
theorem KsR.below {w w' : World} {hs : List NV} (h : KsR w hs) (b : Below w.heap.size w w') : KsR w' hs := fun x hx => (h x hx).below b
theorem KsO.grown {B B' : Nat} {e : TypeId} {w w' : World} {hs : List NV} {v : Value} {n size : Nat} {xs : List Value} (h : KsO B w hs) (G : w.grownBy w' v.ownBlock) (O : w.ownsRow B' e size v n xs) (hne : (3 != e) = true) : KsO B w' hs := fun x hx => Eng.own_grown (h x hx) G O hne
theorem KsO.sets {B g : Nat} {T : TypeId} {cs : Array Value} {o : Obj} {w w' : World} {hs : List NV} (h : KsO B w hs) (S : Eng.Sets w w' g o) (hg : w.heap[g]? = some (.cells cs T (0, 0))) (hne : (3 != T) = true) : KsO B w' hs := fun x hx => Eng.own_sets (h x hx) S hg hne
theorem KsO.mono {B B' : Nat} {w : World} {hs : List NV} (h : KsO B w hs) (hB : B' ≤ B) : KsO B' w hs := fun x hx => Eng.own_mono (h x hx) hB
theorem KsO.reads {B : Nat} {w : World} {hs : List NV} (h : KsO B w hs) : KsR w hs := fun x hx => Eng.Reads.of_own (h x hx)
theorem KsO.nil {B : Nat} {w : World} : KsO B w [] := fun x hx => absurd hx List.not_mem_nil
theorem KsO.snoc {B : Nat} {w : World} {hs : List NV} {x : NV} (h : KsO B w hs) (hx : w.ownsRow B 3 1 x.2 x.1.kids.length (ints x.1.kids)) : KsO B w (hs ++ [x]) := fun y hy => by
  rcases List.mem_append.1 hy with hy | hy
  · exact h y hy
  · rw [List.mem_singleton.1 hy]; exact hx
theorem KsR.at_ {w : World} {hs : List NV} (h : KsR w hs) {k : Nat} (hk : k < hs.length) : Eng.Reads w (hs.getD k default).2 (hs.getD k default).1.kids.length 1 (ints (hs.getD k default).1.kids) := by
  refine h _ ?_
  rw [List.getD_eq_getElem?_getD, List.getElem?_eq_getElem hk]; exact List.getElem_mem hk
def GR (w : World) (nd : List Nd) (v : Value) : Prop := ∃ hs : List NV, hs.map (·.1) = nd ∧ Eng.Reads w v hs.length 4 (cells hs) ∧ KsR w hs
def GO (B : Nat) (w : World) (nd : List Nd) (v : Value) : Prop := ∃ hs : List NV, hs.map (·.1) = nd ∧ w.ownsRow B 81 4 v hs.length (cells hs) ∧ KsO B w hs
theorem GR.below {w w' : World} {nd : List Nd} {v : Value} (h : GR w nd v) (b : Below w.heap.size w w') : GR w' nd v := by
  obtain ⟨hs, e, F, K⟩ := h; exact ⟨hs, e, F.below b, K.below b⟩
theorem GO.below {B : Nat} {w w' : World} {nd : List Nd} {v : Value} (h : GO B w nd v) (b : Below w.heap.size w w') : GO B w' nd v := by
  obtain ⟨hs, e, O, K⟩ := h; exact ⟨hs, e, Eng.own_below O b, K.below b⟩
theorem GO.mono {B B' : Nat} {w : World} {nd : List Nd} {v : Value} (h : GO B w nd v) (hB : B' ≤ B) : GO B' w nd v := by
  obtain ⟨hs, e, O, K⟩ := h; exact ⟨hs, e, Eng.own_mono O hB, K.mono hB⟩
theorem GO.grown {B B' : Nat} {t : TypeId} {w w' : World} {nd : List Nd} {u v : Value} {n size : Nat} {xs : List Value} (h : GO B w nd u) (G : w.grownBy w' v.ownBlock) (O : w.ownsRow B' t size v n xs) (h1 : (81 != t) = true) (h2 : (3 != t) = true) : GO B w' nd u := by
  obtain ⟨hs, e, O1, K⟩ := h; exact ⟨hs, e, Eng.own_grown O1 G O h1, K.grown G O h2⟩
theorem GO.reads {B : Nat} {w : World} {nd : List Nd} {v : Value} (h : GO B w nd v) : GR w nd v := by
  obtain ⟨hs, e, O, K⟩ := h; exact ⟨hs, e, Eng.Reads.of_own O, K.reads⟩
abbrev GV := List Nd × Value
instance : Inhabited GV := ⟨([], .slice none 0 0)⟩
def GsR (w : World) (fin : List GV) (v : Value) : Prop := Eng.Reads w v fin.length 1 (fin.map (·.2)) ∧ ∀ f ∈ fin, GR w f.1 f.2
theorem GsR.below {w w' : World} {fin : List GV} {v : Value} (h : GsR w fin v) (b : Below w.heap.size w w') : GsR w' fin v := ⟨h.1.below b, fun f hf => (h.2 f hf).below b⟩
def GsO (B : Nat) (w : World) (fin : List GV) : Prop := ∀ f ∈ fin, GO B w f.1 f.2
theorem GsO.below {B : Nat} {w w' : World} {fin : List GV} (h : GsO B w fin) (b : Below w.heap.size w w') : GsO B w' fin := fun f hf => (h f hf).below b
theorem GsO.grown {B B' : Nat} {t : TypeId} {w w' : World} {fin : List GV} {v : Value} {n size : Nat} {xs : List Value} (h : GsO B w fin) (G : w.grownBy w' v.ownBlock) (O : w.ownsRow B' t size v n xs) (h1 : (81 != t) = true) (h2 : (3 != t) = true) : GsO B w' fin := fun f hf => (h f hf).grown G O h1 h2
theorem GsO.mono {B B' : Nat} {w : World} {fin : List GV} (h : GsO B w fin) (hB : B' ≤ B) : GsO B' w fin := fun f hf => (h f hf).mono hB
theorem GsO.nil {B : Nat} {w : World} : GsO B w [] := fun x hx => absurd hx List.not_mem_nil
theorem GsO.snoc {B : Nat} {w : World} {fin : List GV} {x : GV} (h : GsO B w fin) (hx : GO B w x.1 x.2) : GsO B w (fin ++ [x]) := fun y hy => by
  rcases List.mem_append.1 hy with hy | hy
  · exact h y hy
  · rw [List.mem_singleton.1 hy]; exact hx
theorem GsO.reads {B : Nat} {w : World} {fin : List GV} {v : Value} {B' : Nat} {t : TypeId} (h : GsO B w fin) (O : w.ownsRow B' t 1 v fin.length (fin.map (·.2))) : GsR w fin v := ⟨Eng.Reads.of_own O, fun f hf => (h f hf).reads⟩
theorem map2_at (fin : List GV) (k : Nat) (hk : k < fin.length) : (fin.map (·.2))[k * 1]? = some (fin.getD k default).2 := by
  rw [Nat.mul_one, List.getElem?_map, List.getD_eq_getElem?_getD, List.getElem?_eq_getElem hk]; rfl
def NodeOne (B : Nat) (n : Nd) (v : Value) (w : World) : Prop := ∃ u, v = .agg #[.int .i64 n.kind, .string n.tag, .string n.text, u] ∧ w.ownsRow B 3 1 u n.kids.length (ints n.kids)
def Tl.node (B : Nat) (n : Nd) : Eng.Tl := .lasts (NodeOne B n) fun _ _ _ h hb => by
  obtain ⟨u, e, O⟩ := h; exact ⟨u, e, Eng.own_below O hb⟩
def RowNode (B : Nat) (n : Nd) (v : Value) (w : World) : Prop := ∃ u, w.ownsRow B 3 1 u n.kids.length (ints n.kids) ∧ Eng.Reads w v 1 4 [.int .i64 n.kind, .string n.tag, .string n.text, u]
def Tl.rowNode (B : Nat) (n : Nd) : Eng.Tl := .lasts (RowNode B n) fun _ _ _ h hb => by
  obtain ⟨u, O, F⟩ := h; exact ⟨u, Eng.own_below O hb, F.below hb⟩
theorem own_snocN {w : World} {B : Nat} {v : Value} {hs : List NV} {n : Nd} {u : Value} (O : w.ownsRow B 81 4 v (hs.length + 1) (cells hs ++ [.int .i64 n.kind, .string n.tag, .string n.text, u])) : w.ownsRow B 81 4 v (hs ++ [(n, u)]).length (cells (hs ++ [(n, u)])) := by
  have e : cells (hs ++ [(n, u)]) = cells hs ++ [.int .i64 n.kind, .string n.tag, .string n.text, u] := by
    unfold cells; rw [List.flatMap_append]; rfl
  rw [e, List.length_append]; exact O
theorem map_len {h hs : List NV} {k : Nat} (hk : k ≤ h.length) (e : hs.map (·.1) = (h.take k).map (·.1)) : hs.length = k := by
  have := congrArg List.length e
  rw [List.length_map, List.length_map, List.length_take] at this; omega
theorem map_snoc {h hs : List NV} {k : Nat} {n : Nd} {u : Value} (hk : k < h.length) (e : hs.map (·.1) = (h.take k).map (·.1)) (hn : n = (h.getD k default).1) : (hs ++ [(n, u)]).map (·.1) = (h.take (k + 1)).map (·.1) := by
  rw [Rwt.take_one hk, List.map_append, List.map_append, e, hn]; rfl
def Sml (k : Nat) (nd : List Nd) : Prop := nd.length ≤ k ∧ ∀ n ∈ nd, n.kids.length ≤ k
theorem Sml.at_ {k : Nat} {h : List NV} (hs : Sml k (h.map (·.1))) {j : Nat} (hj : j < h.length) : (h.getD j default).1.kids.length ≤ k := by
  refine hs.2 _ (List.mem_map.2 ⟨h.getD j default, ?_, rfl⟩)
  rw [List.getD_eq_getElem?_getD, List.getElem?_eq_getElem hj]; exact List.getElem_mem hj
theorem sml_at {k : Nat} {fin : List GV} (hs : ∀ f ∈ fin, Sml k f.1) {j : Nat} (hj : j < fin.length) : Sml k (fin.getD j default).1 := by
  refine hs _ ?_
  rw [List.getD_eq_getElem?_getD, List.getElem?_eq_getElem hj]; exact List.getElem_mem hj
theorem eq_at {h h2 : List NV} (e : h.map (·.1) = h2.map (·.1)) (j : Nat) : (h.getD j default).1 = (h2.getD j default).1 := by
  have := congrArg (fun l => l.getD j (default : Nd)) e
  simpa only [map_getD] using this
theorem eq_len {h h2 : List NV} (e : h.map (·.1) = h2.map (·.1)) : h.length = h2.length := by
  have := congrArg List.length e; simpa using this
end Dc
end Go.Proofs.YtgnmjaacnmkgnaaDoor.X
end
section
namespace Go.Proofs.Eng
open Go Go.RowKit
theorem out_then {K : Act → World → Prop} {Q : Exit → Act → World → Prop} {id : Nat} {a : Act} {w : World} (h : Q (.exit id) a w) : Exit.then K Q (.exit id) a w := h
theorem out_block {Q : Exit → Act → World → Prop} {id : Nat} {a : Act} {w : World} (h : Q .normal a w) : Exit.inBlock id Q (.exit id) a w := by
  show (if id = id then Q .normal a w else Q (.exit id) a w)
  rw [if_pos rfl]; exact h
end Go.Proofs.Eng
namespace Go.Proofs.EngI
open Go Go.RowKit Go.Proofs.Eng
set_option linter.unusedSimpArgs false
set_option linter.unusedVariables false
section
variable {Fc : Fence} {nn : Nat} {P : Program} {ops : Array Oper} {Q : Exit → Act → World → Prop} {i : Nat} {o : Oper} {a : Act} {w : World}
theorem tail_callv (hF : Free Fc) {c : Nat} {f : FuncId} {fn : Func} {g : Operand} {cap : Array Value} {as_ : Array Operand} {ts : Array TypeId} {R : World → Prop} {os : List Oper} (hf : P.funcs[f]? = some fn) (hname : (fn.name == "runtime.NumGoroutine") = false) (hb : fn.body.isNone = false)
    (ho' : ops.toList.drop i = o :: os) (hg : o.guard = none) (hop : o.op = .call { callee := .value g, args := as_, argTypes := ts }) (hgv : a.eval g = .func (.func f) #[] cap) (args : Array Value) (hargs : as_.map a.eval = args) {d n : Nat} (hd : o.dst = some d) (hn : a.tmps.size = n) (hlt : decide (d < n) = true)
    (hcall : Calls P f (args ++ cap) w fun e w' => ∃ v, e = .returned v ∧ R w')
    (h : ∀ (w1 : World) (a' : Act), R w1 → a'.defers = a.defers → a'.tmps.size = n → (∀ t, (t != d) = true → a'.eval (.tmp t) = a.eval (.tmp t)) → wpOpsIn Fc nn P ops Q (List.range' (i + 1) c) a' w1) : wpOpsIn Fc nn P ops Q (List.range' i (c + 1)) a w := by
  refine tail_one hF ho' hg (by unfold calm; rw [hop]) ?_
  have he := enters hf hname hb (args ++ cap) w
  have hrun : (execOp a.eval o).run P w = .ok (.enter f (args ++ cap)) w := by
    unfold execOp
    rw [hop]
    simp only [resolve, Deferred.ofValue, invoke, hgv, hargs]
    have h2 : (#[] : Array Value) ++ args ++ cap = args ++ cap := by simp
    show Sem.run P (callFunc f (#[] ++ args ++ cap)) w = _
    rw [h2]
    exact he
  unfold Oper.wp
  rw [hrun]
  refine Calls.mono hcall ?_
  rintro e w' ⟨v, rfl, hR⟩
  show wpOpsIn Fc nn P ops Q _ (a.put o.dst v) w'
  rw [hd]
  have hlt := of_decide_eq_true hlt
  have hx : ∀ d', some d = some d' → d' < a.tmps.size := fun d' e => by injection e with e; omega
  refine h w' _ hR rfl (by simp [Act.put, hn]) fun t ht => ?_
  show (a.put (some d) v).tmps.getD t undef = a.tmps.getD t undef
  rw [put_getD _ _ _ _ hx, if_neg (by intro e; injection e with e; subst e; simp at ht)]
end
end Go.Proofs.EngI
namespace Go.Proofs.YtgnmjaacnmkgnaaDoor.X
open Go.RowKit Go.Shelf Go.Proofs Go.Maps
set_option linter.unusedVariables false
set_option linter.unusedSimpArgs false
namespace Dc
theorem kept_ap {w w' : World} {B : Nat} {e : TypeId} {size n : Nat} {v v' : Value} {xs : List Value} (O : w.ownsRow B e size v n xs) (G : w.grownBy w' v'.ownBlock) (ha : Apart v v') : w'.ownsRow B e size v n xs := kept_own (e' := 0) (size' := 0) (n' := 0) (B' := 0) (xs' := []) O G ha
abbrev Ms := List Int × List Int
def cntM (s : Ms) (i : Int) : Int := IntKind.i64.wrap (s.1.getD i.toNat 0 + 1)
def markM (s : Ms) (i : Int) : Ms := (s.1.set i.toNat (cntM s i), s.2)
def outM (s : Ms) (i : Int) : Ms := (s.1.set i.toNat (cntM s i), s.2 ++ [i])
inductive Rn (nd : List Nd) : Nat → Ms → List Int → Ms → Prop
  | nil (n : Nat) (s : Ms) : Rn nd n s [] s
  | old {n : Nat} {s s' : Ms} {i : Int} {ks : List Int} (h : cntM s i > 1) (t : Rn nd n (markM s i) ks s') : Rn nd n s (i :: ks) s'
  | new {n : Nat} {s s1 s' : Ms} {i : Int} {ks : List Int} (h : ¬ cntM s i > 1) (k : Rn nd n (outM s i) (nd.getD i.toNat default).kids s1) (t : Rn nd (n + 1) s1 ks s') : Rn nd (n + 1) s (i :: ks) s'
theorem Rn.none {nd : List Nd} {n : Nat} {s s' : Ms} (h : Rn nd n s [] s') : s' = s := by cases h; rfl
theorem Rn.split {nd : List Nd} {n : Nat} {s s' : Ms} {i : Int} {ks : List Int} (h : Rn nd n s (i :: ks) s') : ∃ s1, Rn nd n s [i] s1 ∧ Rn nd n s1 ks s' := by
  cases h with
  | old h t => exact ⟨_, .old h (.nil _ _), t⟩
  | new h k t => exact ⟨_, .new h k (.nil _ _), t⟩
theorem Rn.app {nd : List Nd} {n : Nat} {s s1 s2 : Ms} {ks ls : List Int} (h : Rn nd n s ks s1) (k : Rn nd n s1 ls s2) : Rn nd n s (ks ++ ls) s2 := by
  induction h with
  | nil => exact k
  | old h t ih => exact .old h (ih k)
  | new h k' t _ ih => exact .new h k' (ih k)
theorem run_cnt {a : Act} {o : Oper} {w : World} {s : Ms} {i : Int} {T U : TypeId} {x : Operand} (hop : o.op = .binOp .add T x (.const (.int .i64 1)) U) (hx : a.eval x = .int .i64 (s.1.getD i.toNat 0)) (hu : Tryd.prog.underlying T = some (.int .i64)) : (execOp a.eval o).run Tryd.prog w = .ok (.value (.int .i64 (cntM s i))) w := by
  have e1 : a.eval (.const (.int .i64 1)) = .int .i64 1 := rfl
  unfold execOp cntM; rw [hop]; simp only [resolve, hx, e1]
  go_simp
theorem drop_int {l : List Int} {m : Nat} (h : m < l.length) : l.drop m = l.getD m 0 :: l.drop (m + 1) := Rwt.drop_one h
theorem Rn.step {nd : List Nd} {n m : Nat} {s s' : Ms} {l : List Int} (hm : m < l.length) (h : Rn nd n s (l.drop m) s') : ∃ s1, Rn nd n s [l.getD m 0] s1 ∧ Rn nd n s1 (l.drop (m + 1)) s' := by
  rw [drop_int hm] at h; exact h.split
theorem Rn.done {nd : List Nd} {n m : Nat} {s s' : Ms} {l : List Int} (hm : m = l.length) (h : Rn nd n s (l.drop m) s') : s' = s := by
  rw [hm, List.drop_length] at h; exact h.none
theorem mark_len (s : Ms) (i : Int) : (markM s i).1.length = s.1.length := List.length_set
theorem out_len (s : Ms) (i : Int) : (outM s i).1.length = s.1.length := List.length_set
theorem Rn.len {nd : List Nd} {n : Nat} {s s' : Ms} {ks : List Int} (h : Rn nd n s ks s') : s'.1.length = s.1.length := by
  induction h with
  | nil => rfl
  | old h t ih => exact ih.trans (mark_len _ _)
  | new h k t ih1 ih2 => exact ih2.trans (ih1.trans (out_len _ _))
theorem Rn.grow {nd : List Nd} {n : Nat} {s s' : Ms} {ks : List Int} (h : Rn nd n s ks s') : s.2.length ≤ s'.2.length := by
  induction h with
  | nil => exact Nat.le_refl _
  | old h t ih => exact ih
  | new h k t ih1 ih2 =>
    refine Nat.le_trans ?_ (Nat.le_trans ih1 ih2)
    show _ ≤ (_ ++ [_]).length
    rw [List.length_append]; exact Nat.le_add_right _ _
theorem Rn.room {nd : List Nd} {n : Nat} {s s' : Ms} {i : Int} {ks : List Int} (h : Rn nd n (outM s i) ks s') (hb : s'.2.length ≤ 1000000) : s.2.length ≤ 1000000 := by
  have h1 : (s.2 ++ [i]).length ≤ s'.2.length := h.grow
  rw [List.length_append] at h1; omega
def meetV (gm go gg gf : Nat) : Value := .func (.func 78) #[] #[.pointer (some ⟨gm, 0, none⟩), .pointer (some ⟨go, 0, none⟩), .pointer (some ⟨gg, 0, none⟩), .pointer (some ⟨gf, 0, none⟩)]
structure Mt (w W : World) (gm go gg gf : Nat) (mv ov gv : Value) (s : Ms) : Prop where
  b : Below w.heap.size w W
  m : W.heap[gm]? = some (.cells #[mv] 55 (0, 0))
  o : W.heap[go]? = some (.cells #[ov] 55 (0, 0))
  g : W.heap[gg]? = some (.cells #[gv] 48 (0, 0))
  f : W.heap[gf]? = some (.cells #[meetV gm go gg gf] 96 (0, 0))
  rm : W.ownsRow w.heap.size 3 1 mv s.1.length (ints s.1)
  ro : W.ownsRow w.heap.size 3 1 ov s.2.length (ints s.2)
  ap : Apart mv ov
structure Four (w : World) (gm go gg gf : Nat) : Prop where
  l1 : w.heap.size ≤ gm
  l2 : w.heap.size ≤ go
  l3 : w.heap.size ≤ gg
  l4 : w.heap.size ≤ gf
  mo : gm ≠ go
  go' : gg ≠ go
  fo : gf ≠ go
theorem ints_set (l : List Int) (i : Nat) (x : Int) : (ints l).set i (.int .i64 x) = ints (l.set i x) := by unfold ints; rw [List.map_set]
theorem own_mark {w : World} {B : Nat} {v : Value} {s : Ms} {i : Int} (O : w.ownsRow B 3 1 v s.1.length ((ints s.1).set (i.toNat * 1) (.int .i64 (cntM s i)))) : w.ownsRow B 3 1 v (markM s i).1.length (ints (markM s i).1) := by
  rw [Nat.mul_one, ints_set] at O; rw [mark_len]; exact O
theorem own_outM {w : World} {B : Nat} {v : Value} {s : Ms} {i : Int} (O : w.ownsRow B 3 1 v (s.2.length + 1) (ints s.2 ++ [.int .i64 i])) : w.ownsRow B 3 1 v (outM s i).2.length (ints (outM s i).2) := by
  show w.ownsRow B 3 1 v (s.2 ++ [i]).length (ints (s.2 ++ [i]))
  rw [ints_snoc, List.length_append]; exact O
theorem mark_at {s : Ms} {i : Int} (h : i.toNat < s.1.length) : (markM s i).1.getD i.toNat 0 = cntM s i := by
  unfold markM; simp only; rw [List.getD_eq_getElem?_getD, List.getElem?_set_self h]; rfl
end Dc
end Go.Proofs.YtgnmjaacnmkgnaaDoor.X
end
section
namespace Go.Proofs.YtgnmjaacnmkgnaaDoor.X
open Go.RowKit Go.Shelf Go.Proofs
set_option linter.unusedVariables false
set_option linter.unusedSimpArgs false
namespace Dc
def keysI (l : List Int) (m : Nat) : List Int := (List.range m).map fun i => l.getD (2 * i) 0
theorem keysI_succ (l : List Int) (m : Nat) : keysI l (m + 1) = keysI l m ++ [l.getD (2 * m) 0] := by
  unfold keysI; rw [List.range_succ, List.map_append]; rfl
theorem keysI_len (l : List Int) (m : Nat) : (keysI l m).length = m := by unfold keysI; simp
theorem keysI_cons (a b : Int) (t : List Int) (m : Nat) : keysI (a :: b :: t) (m + 1) = a :: keysI t m := by
  unfold keysI
  rw [List.range_succ_eq_map, List.map_cons, List.map_map]
  rfl
theorem keys_end : ∀ (l : List Int) (m : Nat), l.length ≤ 2 * m → 2 * m ≤ l.length + 1 → keysI l m = keysL l
  | [], m, h1, h2 => by
    simp only [List.length_nil] at h2
    obtain rfl : m = 0 := by omega
    rfl
  | [a], m, h1, h2 => by
    simp only [List.length_cons, List.length_nil] at h1 h2
    obtain rfl : m = 1 := by omega
    rfl
  | a :: b :: t, m, h1, h2 => by
    simp only [List.length_cons] at h1 h2
    obtain ⟨m, rfl⟩ : ∃ n, m = n + 1 := ⟨m - 1, by omega⟩
    rw [keysI_cons, keys_end t m (by omega) (by omega)]
    rfl
theorem own_keys {w : World} {B m : Nat} {v : Value} {l : List Int} (O : w.ownsRow B 3 1 v ((keysI l m).length + 1) (ints (keysI l m) ++ [.int .i64 (l.getD (2 * m) 0)])) : w.ownsRow B 3 1 v (keysI l (m + 1)).length (ints (keysI l (m + 1))) := by
  rw [keysI_succ, ints_snoc, List.length_append]; exact O
end Dc
end Go.Proofs.YtgnmjaacnmkgnaaDoor.X
end
