/- Words and walks that the row of EventWraps needs: printed by programs, and plain laws. -/
import Derived.Test.YtgnmjaacnmkgnaaGreatDoorM2
namespace Go.Proofs.YtgnmjaacnmkgnaaGreatDoorW.PrintWords
end Go.Proofs.YtgnmjaacnmkgnaaGreatDoorW.PrintWords
namespace Go.Proofs.YtgnmjaacnmkgnaaGreatDoorW.PrintLast
end Go.Proofs.YtgnmjaacnmkgnaaGreatDoorW.PrintLast
namespace Go.Proofs.YtgnmjaacnmkgnaaGreatDoorW.PrintMore
end Go.Proofs.YtgnmjaacnmkgnaaGreatDoorW.PrintMore
section
namespace Go.Proofs.Eng
open Go Go.RowKit
set_option linter.unusedSimpArgs false
set_option linter.unusedVariables false
structure Aft (S : Nat → Prop) (w w' : World) : Prop where
  os : w'.os = w.os
  tape : w'.tape = w.tape
  output : w'.output = w.output
  size : w.heap.size ≤ w'.heap.size
  far : ∀ b, b < w.heap.size → ¬ S b → w'.heap[b]? = w.heap[b]?
namespace Aft
variable {S S' : Nat → Prop} {w w' w1 w2 W : World}
theorem refl (S : Nat → Prop) (w : World) : Aft S w w := ⟨rfl, rfl, rfl, Nat.le_refl _, fun _ _ _ => rfl⟩
theorem step (h : Aft S W w) (hb : Below w.heap.size w w') : Aft S W w' := ⟨hb.os.trans h.os, hb.tape.trans h.tape, hb.output.trans h.output, Nat.le_trans h.size hb.size, fun b h1 h2 => (hb.block b (Nat.lt_of_lt_of_le h1 h.size)).trans (h.far b h1 h2)⟩
theorem trans (h : Aft S W w) (k : Aft S' w w') (hS : ∀ b, b < W.heap.size → S' b → S b) : Aft S W w' := ⟨k.os.trans h.os, k.tape.trans h.tape, k.output.trans h.output, Nat.le_trans h.size k.size, fun b h1 h2 => (k.far b (Nat.lt_of_lt_of_le h1 h.size) fun h3 => h2 (hS b h1 h3)).trans (h.far b h1 h2)⟩
theorem of_sets {g : Nat} {o : Obj} (s : Sets w w' g o) (hS : S g) : Aft S w w' := ⟨s.os, s.tape, s.output, by have := s.size; omega, fun b _ h => s.far b fun e => h (e ▸ hS)⟩
theorem of_grown {v : Value} (s : w.grownBy w' v.ownBlock) (hS : ∀ b, some b = v.ownBlock → S b) : Aft S w w' := ⟨s.os, s.tape, s.output, s.size, fun b hb h => s.block b hb fun e => h (hS b e)⟩
theorem sets {g : Nat} {o : Obj} (h : Aft S W w) (s : Sets w w' g o) (hS : g < W.heap.size → S g) : Aft S W w' := h.trans (S' := fun b => b = g) (of_sets s rfl) (by rintro b hb rfl; exact hS hb)
theorem grown {v : Value} (h : Aft S W w) (s : w.grownBy w' v.ownBlock) (hS : ∀ b, some b = v.ownBlock → b < W.heap.size → S b) : Aft S W w' := h.trans (S' := fun b => some b = v.ownBlock) (of_grown s fun _ => id) (fun b hb e => hS b e hb)
theorem mono (h : Aft S w w') (hS : ∀ b, b < w.heap.size → S b → S' b) : Aft S' w w' := ⟨h.os, h.tape, h.output, h.size, fun b hb k => h.far b hb fun e => k (hS b hb e)⟩
theorem below {B : Nat} (h : Aft S w w') (hb : Below B W w) (hW : B ≤ W.heap.size) (hS : ∀ b, S b → B ≤ b) : Below B W w' :=
  hb.trans ⟨h.os, h.tape, h.output, h.size, fun b hb' => h.far b (by have := hb.size; omega) fun e => by have := hS b e; omega⟩
theorem at_ {b : Nat} {o : Obj} (h : Aft S w w') (hk : w.heap[b]? = some o) (hS : ¬ S b) : w'.heap[b]? = some o := (h.far b (Array.getElem?_eq_some_iff.1 hk).1 hS).trans hk
theorem own {B : Nat} {e : TypeId} {size n : Nat} {v : Value} {xs : List Value} (h : Aft S w w') (O : w.ownsRow B e size v n xs) (hS : ∀ b, some b = v.ownBlock → ¬ S b) : w'.ownsRow B e size v n xs := by
  refine ⟨O.1, ?_⟩
  rcases O.2 with h2 | ⟨g, cap, cur, rfl, hg, hh, r⟩
  · exact .inl h2
  · exact .inr ⟨g, cap, cur, rfl, hg, h.at_ hh (hS g rfl), r⟩
end Aft
theorem ownB {w : World} {B : Nat} {e : TypeId} {size n : Nat} {v : Value} {xs : List Value} (O : w.ownsRow B e size v n xs) {b : Nat} (h : some b = v.ownBlock) : B ≤ b ∧ b < w.heap.size ∧ ∃ cs, w.heap[b]? = some (.cells cs e (0, 0)) := by
  rcases O.2 with ⟨rfl, _⟩ | ⟨g, cap, cur, rfl, hg, hh, _⟩
  · simp [Value.ownBlock] at h
  · simp [Value.ownBlock] at h; subst h
    exact ⟨hg, (Array.getElem?_eq_some_iff.1 hh).1, cur, hh⟩
def Nst (g : Nat) (o : Value) (b : Nat) : Prop := b = g ∨ some b = o.ownBlock
end Go.Proofs.Eng
namespace Go.Proofs.Eng
open Go Go.RowKit
variable {P : Program} {a : Act} {w : World} {o : Oper}
theorem box_ex {T : TypeId} {x : Operand} {v : Value} {cs : Array Value} (hop : o.op = .box T x) (h : a.eval x = v) (hc : v.cells = cs) : ∃ v' w1, (execOp a.eval o).run P w = .ok (.value v') w1 ∧ ∃ g, v' = .pointer (some ⟨g, 0, none⟩) ∧ w.heap.size ≤ g ∧ g < w1.heap.size ∧ w1.heap[g]? = some (.cells cs T (0, 0)) ∧ Below w.heap.size w w1 := by
  refine ⟨_, _, run_box hop h, w.heap.size, rfl, Nat.le_refl _, ?_, ?_, (Below.refl _ _).alloc (Nat.le_refl _) _⟩
  · show w.heap.size < (w.heap.push _).size; simp
  · show (w.heap.push _)[w.heap.size]? = _; rw [hc]; simp
theorem run_store_own {B : Nat} {e T : TypeId} {size : Nat} {v u : Value} {n j : Nat} {xs : List Value} {x y : Operand} (hop : o.op = .store T x y) (hx : a.eval x = elemPtr v j) (hy : a.eval y = u) (O : w.ownsRow B e size v n xs) (hj : j < n * size) (hsize : (P.info? T).map (·.size) = some 1) (h1 : u.oneCell' = true) :
    ∃ w1, (execOp a.eval o).run P w = .ok .skip w1 ∧ w1.ownsRow B e size v n (xs.set j u) ∧ w.grownBy w1 v.ownBlock := run_store_el hop hx hy O hj hsize h1
end Go.Proofs.Eng
namespace Go.Proofs.Eng
open Go Go.RowKit
variable {P : Program} {o : Oper} {a : Act} {w : World} {Q : Exit → Act → World → Prop} {D : Value → World → Prop}
theorem vr {v : Value} (hD : D v w) (hrun : (execOp a.eval o).run P w = .ok (.value v) w) : o.wp P a w (fun a' w' => ∃ v, a' = a.put o.dst v ∧ (o.dst ≠ none → D v w') ∧ Below w.heap.size w w') Q := val hrun (Below.refl _ _) hD
theorem run_nilb {x : Operand} {p : Addr} (hop : o.op = .nilCheck x) (h : a.eval x = .pointer (some p)) : (execOp a.eval o).run P w = .ok (.value (.pointer (some p))) w := by
  unfold execOp
  rw [hop]
  simp only [h]
  go_simp
theorem run_fieldb {T : TypeId} {x : Operand} {f g n : Nat} {fs : Array Field} (hop : o.op = .fieldAddr T x f) (hu : P.underlying T = some (.struct fs)) (k : Nat) (hf : (fs[f]?).map (fun fd => (fd.offset, ((P.info? fd.type).map (·.size)).isSome && decide ((P.info? fd.type).map (·.size) ≠ some 0))) = some (k, true)) (h : a.eval x = .pointer (some ⟨g, n, none⟩)) :
    (execOp a.eval o).run P w = .ok (.value (.pointer (some ⟨g, n + k, none⟩))) w := by
  cases hq : fs[f]? with
  | none => simp [hq] at hf
  | some fd =>
    cases hi : P.info? fd.type with
    | none => simp [hq, hi] at hf
    | some i =>
      simp [hq, hi] at hf
      obtain ⟨h1, h2⟩ := hf
      unfold execOp; rw [hop]
      simp only [h, Instr.fieldAt, Instr.sureAddr, Sem.run_bind, Sem.run_pure, Result.andThen_ok, run_underlying hu]
      simp [Sem.run_bind, Sem.run_pure, hq, fieldPlace, sizeOf, typeInfo, hi, h2, ← h1, Addr.add]
theorem run_loadb {ty T : TypeId} {x : Operand} {g n : Nat} {cs : Array Value} {u : Value} (hop : o.op = .load ty x) (h : a.eval x = .pointer (some ⟨g, n, none⟩)) (hk : w.heap[g]? = some (.cells cs T (0, 0))) (hu : cs[n]? = some u) (hagg : (isAgg ty).run P w = .ok false w) : (execOp a.eval o).run P w = .ok (.value u) w := by
  have hcell : w.cell? ⟨g, n, none⟩ = some u := (cells hk n).trans hu
  unfold execOp; rw [hop]
  simp only [h, Instr.loadAt, Instr.sureAddr, Sem.run_bind, Sem.run_pure, Result.andThen_ok, loadVar, hagg]
  simp [load, Sem.run, hcell]
end Go.Proofs.Eng
end
section
namespace Go.Proofs.YtgnmjaacnmkgnaaGreatDoor.X
open Go.RowKit Go.Shelf Go.Proofs Go.Proofs.YtgnmjaacnmkgnaaGreatDoorW.PrintWords Go.Proofs.YtgnmjaacnmkgnaaGreatDoorW.PrintLast Go.Proofs.YtgnmjaacnmkgnaaGreatDoorW.PrintMore
set_option linter.unusedVariables false
set_option linter.unusedSimpArgs false
namespace Evt
theorem opens_len (l : List (Int × Int)) : (opens l).length = l.length * 2 := Rwt.len encO_len l
theorem opens_snoc (l : List (Int × Int)) (t : Int × Int) : opens (l ++ [t]) = opens l ++ [.int .i64 t.1, .int .i64 t.2] := by unfold opens; rw [List.flatMap_append]; rfl
theorem top_0 (pre : List (Int × Int)) (t : Int × Int) : (opens (pre ++ [t]))[pre.length * 2 + 0]? = some (.int .i64 t.1) := by
  rw [opens_snoc, List.getElem?_append_right (by rw [opens_len]; omega), opens_len]; simp
theorem top_1 (pre : List (Int × Int)) (t : Int × Int) : (opens (pre ++ [t]))[pre.length * 2 + 1]? = some (.int .i64 t.2) := by
  rw [opens_snoc, List.getElem?_append_right (by rw [opens_len]; omega), opens_len]; simp
theorem last_ix (pre : List (Int × Int)) (t : Int × Int) (h : pre.length + 1 ≤ 9223372036854775807) : IntKind.i64.wrap (((pre ++ [t]).length : Int) - 1) = ((pre.length : Nat) : Int) := by
  rw [List.length_append, Eng.i64_id (by simp only [List.length_cons, List.length_nil]; omega) (by simp only [List.length_cons, List.length_nil]; omega)]; simp only [List.length_cons, List.length_nil]; omega
theorem own_popped {w : World} {B : Nat} {o : Value} {pre : List (Int × Int)} {t : Int × Int} (O : w.ownsRow B 71 2 o (pre ++ [t]).length (opens (pre ++ [t]))) : w.ownsRow B 71 2 (Eng.cutVal o 0 pre.length 2) pre.length (opens pre) := by
  have h := Eng.own_pop (n := pre.length) (by rw [List.length_append] at O; exact O)
  rw [opens_snoc, ← opens_len, List.take_left] at h; exact h
theorem own_more {w : World} {B : Nat} {o : Value} {pre : List (Int × Int)} {t : Int × Int} {m : Int} (O : w.ownsRow B 71 2 o (pre ++ [t]).length ((opens (pre ++ [t])).set (pre.length * 2 + 1) (.int .i64 m))) : w.ownsRow B 71 2 o (pre ++ [(t.1, m)]).length (opens (pre ++ [(t.1, m)])) := by
  have e : (opens (pre ++ [t])).set (pre.length * 2 + 1) (.int .i64 m) = opens (pre ++ [(t.1, m)]) := by
    rw [opens_snoc, opens_snoc, List.set_append_right _ _ (by rw [opens_len]; omega), opens_len]; simp
  rw [e] at O
  rw [List.length_append] at O ⊢; exact O
theorem own_snoc {w : World} {B : Nat} {o : Value} {pre : List (Int × Int)} {k : Int} (O : w.ownsRow B 71 2 o (pre.length + 1) (opens pre ++ [.int .i64 k, .int .i64 0])) : w.ownsRow B 71 2 o (pre ++ [(k, 0)]).length (opens (pre ++ [(k, 0)])) := by
  rw [opens_snoc, List.length_append]; exact O
theorem pop_snoc (pre : List (Int × Int)) (t : Int × Int) (k : Int) (may : Int → Bool) : pop (pre ++ [t]) k may = if t.1 = k ∧ may t.2 = true then some pre else none := by
  unfold pop; rw [List.getLast?_append]; simp
theorem more_snoc (pre : List (Int × Int)) (t : Int × Int) : more (pre ++ [t]) = pre ++ [(t.1, IntKind.i64.wrap (t.2 + 1))] := by
  unfold more; rw [List.getLast?_append]; simp
theorem takeF_0 (st : List (Int × Int)) : takeF st 0 = if st.isEmpty = true then some [(0, 0)] else none := by unfold takeF; rw [if_pos rfl]
theorem takeF_1 (st : List (Int × Int)) : takeF st 1 = pop st 0 (fun m => m == 1) := by unfold takeF; rw [if_neg (by decide), if_pos rfl]
theorem takeF_3 (st : List (Int × Int)) : takeF st 3 = pop st 2 (fun _ => true) := by unfold takeF; rw [if_neg (by decide), if_neg (by decide), if_pos rfl]
theorem takeF_5 (st : List (Int × Int)) : takeF st 5 = pop st 4 even := by unfold takeF; rw [if_neg (by decide), if_neg (by decide), if_neg (by decide), if_pos rfl]
theorem takeF_x (st : List (Int × Int)) (k : Int) (h0 : k ≠ 0) (h1 : k ≠ 1) (h3 : k ≠ 3) (h5 : k ≠ 5) : takeF st k = if st.isEmpty = true then none else if k = 2 ∨ k = 4 then some (more st ++ [(k, 0)]) else some (more st) := by
  unfold takeF; rw [if_neg h0, if_neg h1, if_neg h3, if_neg h5]
structure Is (B : Nat) (W : World) (g : Nat) (o : Value) (st : List (Int × Int)) (w' : World) (o' : Value) : Prop where
  box : w'.heap[g]? = some (.cells #[o'] 49 (0, 0))
  own : w'.ownsRow B 71 2 o' st.length (opens st)
  aft : Eng.Aft (Eng.Nst g o) W w'
end Evt
end Go.Proofs.YtgnmjaacnmkgnaaGreatDoor.X
namespace Go.Proofs.YtgnmjaacnmkgnaaGreatDoor.X
open Go.RowKit Go.Shelf Go.Proofs
namespace Evt
theorem Is.from {B g : Nat} {W0 W w' : World} {o o' : Value} {st : List (Int × Int)} (h : Eng.Aft (Eng.Nst g o) W0 W) (i : Is B W g o st w' o') : Is B W0 g o st w' o' := ⟨i.box, i.own, h.trans i.aft fun _ _ h => h⟩
theorem nst_lo {w W : World} {g : Nat} {o : Value} {n : Nat} {xs : List Value} (hlo : w.heap.size ≤ g) (O : W.ownsRow w.heap.size 71 2 o n xs) : ∀ b, Eng.Nst g o b → w.heap.size ≤ b := by
  rintro b (rfl | e)
  · exact hlo
  · exact (Eng.ownB O e).1
theorem own_sets_ne {w w' : World} {B g : Nat} {e : TypeId} {size n : Nat} {v : Value} {xs : List Value} {ob : Obj} (O : w.ownsRow B e size v n xs) (S : Eng.Sets w w' g ob) (h : ∀ b, some b = v.ownBlock → b ≠ g) : w'.ownsRow B e size v n xs :=
  (Eng.Aft.of_sets (S := fun b => b = g) S rfl).own O h
end Evt
end Go.Proofs.YtgnmjaacnmkgnaaGreatDoor.X
end
section
namespace Go.Proofs.YtgnmjaacnmkgnaaGreatDoor.X
open Go.RowKit Go.Shelf Go.Proofs Go.Proofs.YtgnmjaacnmkgnaaGreatDoorW.PrintWords Go.Proofs.YtgnmjaacnmkgnaaGreatDoorW.PrintLast Go.Proofs.YtgnmjaacnmkgnaaGreatDoorW.PrintMore
set_option linter.unusedVariables false
set_option linter.unusedSimpArgs false
attribute [local go_sem] max2_int min2_int max_two min_two
set_option maxHeartbeats 4000000 in
set_option maxRecDepth 100000 in
theorem Evt.last_nil (g : Nat) (o : Value) (B : Nat) (w : World) (hk : w.heap[g]? = some (.cells #[o] 49 (0, 0))) (hO : w.ownsRow B 71 2 o 0 (Evt.opens [])) : Calls Tryz.prog 41 #[.pointer (some ⟨g, 0, none⟩)] w fun e w' => ∃ h, e = .returned (.pointer (some ⟨h, 0, none⟩)) ∧ w.heap.size ≤ h ∧ h < w'.heap.size ∧ w'.heap[h]? = some (.cells #[.int .i64 (-1), .int .i64 0] 71 (0, 0)) ∧ Below w.heap.size w w' := by
 refine Eng.enter Tryz.func41 rfl fun act0 d0 s0 v0 => ?_
 have s0 : act0.tmps.size = 22 := s0
 have h0_0 : act0.eval (.tmp 0) = .pointer (some ⟨g, 0, none⟩) := v0 0 (by simp)
 clear v0
 have bl0 : Below w.heap.size w w := Below.refl _ _
 refine wp_seq ?_
 refine Eng.regionS (Eng.still [fun u_ => u_ = .pointer none]) (fun _ => .plain) 1 0 22 s0 rfl (by kernel_rfl) (Eng.still_stable _) (Or.inr (Eng.still_any _)) ?_ ?_
 ·refine .cons (fun _ => ?_) (.nil)
  ·exact Eng.plain rfl rfl fun a w' H => Eng.vr rfl (Eng.run_assign rfl (rfl : a.eval (.const (.pointer none)) = .pointer none))
 intro act1 w1 T
 have h0_1 := (T.rest 0 (by kernel_rfl)).trans h0_0
 have kg_1 := (T.below.block _ (Array.getElem?_eq_some_iff.1 hk).1).trans hk
 have lg_1 := Nat.lt_of_lt_of_le (Array.getElem?_eq_some_iff.1 hk).1 T.below.size
 have Fo_1 := Eng.Reads.below (Eng.Reads.of_own hO) T.below
 have d1 := T.defers.trans d0
 have s1 := T.size.trans s0
 have bl1 := bl0.trans (T.below.mono bl0.size)
 clear T
 refine Eng.tail_nil ?_
 first | show Code.wp Tryz.prog _ _ _ _ | skip
 refine wp_seq ?_
 refine wp_seq ?_
 obtain ⟨q8, Bq8⟩ : ∃ b : Bool, b = ((0 : Int) == 0) := ⟨_, rfl⟩
 refine Eng.regionS (Eng.still [fun u_ => u_ = .pointer (some ⟨g, 0, none⟩), fun u_ => u_ = .pointer (some ⟨g, 0, none⟩), fun u_ => u_ = .pointer (some ⟨g, 0, none⟩), fun u_ => u_ = o, fun u_ => u_ = .int .i64 (0 : Int), fun u_ => u_ = .bool q8]) (fun _ => .plain) 6 0 22 s1 rfl (by kernel_rfl) (Eng.still_stable _) (Or.inr (Eng.still_any _)) ?_ ?_
 ·refine .cons (fun _ => ?_) (.cons (fun _ => ?_) (.cons (fun _ => ?_) (.cons (fun _ => ?_) (.cons (fun _ => ?_) (.cons (fun _ => ?_) (.nil))))))
  ·exact Eng.plain rfl rfl fun a w' H => Eng.vr rfl (Eng.run_move rfl ((H.kept 0 (by kernel_rfl)).trans h0_1))
  ·exact Eng.plain rfl rfl fun a w' H => Eng.vr rfl (Eng.run_nilb rfl (H.dep 0 3 (by kernel_rfl) rfl))
  ·exact Eng.plain rfl rfl fun a w' H => Eng.vr rfl (Eng.run_fieldb rfl Tryz.underlying49 0 (by kernel_rfl) (H.dep 1 4 (by kernel_rfl) rfl))
  ·exact Eng.plain rfl rfl fun a w' H => Eng.vr rfl (Eng.run_loadb rfl (H.dep 2 5 (by kernel_rfl) rfl) ((H.below.block _ lg_1).trans kg_1) rfl (by kernel_rfl))
  ·exact Eng.plain rfl rfl fun a w' H => Eng.vr (v := .int .i64 (0 : Int)) rfl (Eng.run_len_sl rfl Tryz.underlying47 (show a.eval (.tmp 6) = o from (H.dep 3 6 (by kernel_rfl) rfl)) (Eng.Reads.below Fo_1 H.below))
  ·refine Eng.plain rfl rfl fun a w' H => ?_
   refine Eng.vr (v := .bool ((0 : Int) == 0)) (by show _ = Value.bool q8; rw [Bq8]) ?_
   have e0 : a.eval (.tmp 7) = .int .i64 (0 : Int) := (H.dep 4 7 (by kernel_rfl) rfl)
   have e1 : a.eval (.const (.int .i64 0)) = .int .i64 0 := (rfl : a.eval (.const (.int .i64 0)) = .int .i64 0)
   simp only [execOp, resolve, List.map_toArray, List.map_cons, List.map_nil, e0, e1]
   go_simp
   all_goals first | rfl | (simp; done) | (rw [Bool.eq_iff_iff]; simp; done) | omega | (split <;> first | (simp_all; done) | (split <;> simp_all; done)) | skip
 intro act2 w2 T
 have h8_2 : act2.eval (.tmp 8) = .bool q8 := T.done 5 8 rfl rfl
 have d2 := T.defers.trans d1
 have s2 := T.size.trans s1
 have bl2 := bl1.trans (T.below.mono bl1.size)
 clear T
 refine Eng.tail_nil ?_
 first | show Code.wp Tryz.prog _ _ _ _ | skip
 have n8 : q8 = true := by
  try simp only [Bq8]
  rfl
 refine wp_cond_true (h8_2.trans (by rw [n8])) ?_
 refine wp_seq ?_
 refine Eng.regionT (n := 3) rfl ?_
 refine Eng.tail_val (w1 := w2) (v := .agg #[.int .i64 (-1), .int .i64 0]) rfl rfl rfl ?_ s2 rfl ?_
 ·have e0 : act2.eval (.const (.int .i64 (-1))) = .int .i64 (-1) := (rfl : act2.eval (.const (.int .i64 (-1))) = .int .i64 (-1))
  simp only [execOp, resolve, List.map_toArray, List.map_cons, List.map_nil, e0]
  go_simp
  all_goals first | rfl | (simp; done) | (rw [Bool.eq_iff_iff]; simp; done) | omega | skip
 intro act3 d3 s3 hv hr
 have h9_3 : act3.eval (.tmp 9) = .agg #[.int .i64 (-1), .int .i64 0] := hv
 have d3 := d3.trans d2
 clear hv hr
 refine Eng.tail_ex rfl rfl rfl (Eng.box_ex (cs := #[.int .i64 (-1), .int .i64 0]) rfl h9_3 (by rfl)) s3 rfl fun v_4 w4 act4 R d4 s4 hv hr => ?_
 obtain ⟨g10_4, ev_4, rg_4, lg10_4, kg10_4, b_4⟩ := R
 have h10_4 : act4.eval (.tmp 10) = v_4 := hv
 have d4 := d4.trans d3
 clear hv hr
 have og10_4 : w.heap.size ≤ g10_4 := Nat.le_trans bl2.size rg_4
 have bl4 := bl2.trans (b_4.mono bl2.size)
 rw [ev_4] at h10_4
 refine Eng.tail_val rfl rfl rfl (Eng.run_assign rfl h10_4) s4 rfl fun act5 d5 s5 hv hr => ?_
 have h2_5 : act5.eval (.tmp 2) = .pointer (some ⟨g10_4, 0, none⟩) := hv
 have d5 := d5.trans d4
 clear hv hr
 refine Eng.tail_nil ?_
 first | show Code.wp Tryz.prog _ _ _ _ | skip
 refine wp_ret ?_
 repeat (first | refine Eng.in_ret ?_ | refine Eng.then_ret ?_)
 exact Eng.ret1 rfl d5 h2_5 ⟨_, rfl, og10_4, lg10_4, kg10_4, bl4⟩
set_option maxHeartbeats 4000000 in
set_option maxRecDepth 100000 in
theorem Evt.last_top (g : Nat) (o : Value) (B : Nat) (pre : List (Int × Int)) (t : Int × Int) (w : World) (hk : w.heap[g]? = some (.cells #[o] 49 (0, 0))) (hO : w.ownsRow B 71 2 o (pre ++ [t]).length (Evt.opens (pre ++ [t]))) : Calls Tryz.prog 41 #[.pointer (some ⟨g, 0, none⟩)] w fun e w' => e = .returned (Eng.elemPtr o (pre.length * 2)) ∧ Below w.heap.size w w' := by
 have hm := Eng.Reads.len_le (Eng.Reads.of_own hO)
 rw [List.length_append] at hm
 have hm1 : pre.length + 1 ≤ 9223372036854775807 := hm
 refine Eng.enter Tryz.func41 rfl fun act0 d0 s0 v0 => ?_
 have s0 : act0.tmps.size = 22 := s0
 have h0_0 : act0.eval (.tmp 0) = .pointer (some ⟨g, 0, none⟩) := v0 0 (by simp)
 clear v0
 have bl0 : Below w.heap.size w w := Below.refl _ _
 refine wp_seq ?_
 refine Eng.regionS (Eng.still [fun u_ => u_ = .pointer none]) (fun _ => .plain) 1 0 22 s0 rfl (by kernel_rfl) (Eng.still_stable _) (Or.inr (Eng.still_any _)) ?_ ?_
 ·refine .cons (fun _ => ?_) (.nil)
  ·exact Eng.plain rfl rfl fun a w' H => Eng.vr rfl (Eng.run_assign rfl (rfl : a.eval (.const (.pointer none)) = .pointer none))
 intro act1 w1 T
 have h0_1 := (T.rest 0 (by kernel_rfl)).trans h0_0
 have kg_1 := (T.below.block _ (Array.getElem?_eq_some_iff.1 hk).1).trans hk
 have lg_1 := Nat.lt_of_lt_of_le (Array.getElem?_eq_some_iff.1 hk).1 T.below.size
 have Fo_1 := Eng.Reads.below (Eng.Reads.of_own hO) T.below
 have d1 := T.defers.trans d0
 have s1 := T.size.trans s0
 have bl1 := bl0.trans (T.below.mono bl0.size)
 clear T
 refine Eng.tail_nil ?_
 first | show Code.wp Tryz.prog _ _ _ _ | skip
 refine wp_seq ?_
 refine wp_seq ?_
 obtain ⟨q8, Bq8⟩ : ∃ b : Bool, b = ((((pre ++ [t]).length : Nat) : Int) == 0) := ⟨_, rfl⟩
 refine Eng.regionS (Eng.still [fun u_ => u_ = .pointer (some ⟨g, 0, none⟩), fun u_ => u_ = .pointer (some ⟨g, 0, none⟩), fun u_ => u_ = .pointer (some ⟨g, 0, none⟩), fun u_ => u_ = o, fun u_ => u_ = .int .i64 (((pre ++ [t]).length : Nat) : Int), fun u_ => u_ = .bool q8]) (fun _ => .plain) 6 0 22 s1 rfl (by kernel_rfl) (Eng.still_stable _) (Or.inr (Eng.still_any _)) ?_ ?_
 ·refine .cons (fun _ => ?_) (.cons (fun _ => ?_) (.cons (fun _ => ?_) (.cons (fun _ => ?_) (.cons (fun _ => ?_) (.cons (fun _ => ?_) (.nil))))))
  ·exact Eng.plain rfl rfl fun a w' H => Eng.vr rfl (Eng.run_move rfl ((H.kept 0 (by kernel_rfl)).trans h0_1))
  ·exact Eng.plain rfl rfl fun a w' H => Eng.vr rfl (Eng.run_nilb rfl (H.dep 0 3 (by kernel_rfl) rfl))
  ·exact Eng.plain rfl rfl fun a w' H => Eng.vr rfl (Eng.run_fieldb rfl Tryz.underlying49 0 (by kernel_rfl) (H.dep 1 4 (by kernel_rfl) rfl))
  ·exact Eng.plain rfl rfl fun a w' H => Eng.vr rfl (Eng.run_loadb rfl (H.dep 2 5 (by kernel_rfl) rfl) ((H.below.block _ lg_1).trans kg_1) rfl (by kernel_rfl))
  ·exact Eng.plain rfl rfl fun a w' H => Eng.vr (v := .int .i64 (((pre ++ [t]).length : Nat) : Int)) rfl (Eng.run_len_sl rfl Tryz.underlying47 (show a.eval (.tmp 6) = o from (H.dep 3 6 (by kernel_rfl) rfl)) (Eng.Reads.below Fo_1 H.below))
  ·refine Eng.plain rfl rfl fun a w' H => ?_
   refine Eng.vr (v := .bool ((((pre ++ [t]).length : Nat) : Int) == 0)) (by show _ = Value.bool q8; rw [Bq8]) ?_
   have e0 : a.eval (.tmp 7) = .int .i64 (((pre ++ [t]).length : Nat) : Int) := (H.dep 4 7 (by kernel_rfl) rfl)
   have e1 : a.eval (.const (.int .i64 0)) = .int .i64 0 := (rfl : a.eval (.const (.int .i64 0)) = .int .i64 0)
   simp only [execOp, resolve, List.map_toArray, List.map_cons, List.map_nil, e0, e1]
   go_simp
   all_goals first | rfl | (simp; done) | (rw [Bool.eq_iff_iff]; simp; done) | omega | (split <;> first | (simp_all; done) | (split <;> simp_all; done)) | skip
 intro act2 w2 T
 have h0_2 := (T.rest 0 (by kernel_rfl)).trans h0_1
 have kg_2 := (T.below.block _ lg_1).trans kg_1
 have lg_2 := Nat.lt_of_lt_of_le lg_1 T.below.size
 have Fo_2 := Eng.Reads.below Fo_1 T.below
 have h8_2 : act2.eval (.tmp 8) = .bool q8 := T.done 5 8 rfl rfl
 have d2 := T.defers.trans d1
 have s2 := T.size.trans s1
 have bl2 := bl1.trans (T.below.mono bl1.size)
 clear T
 refine Eng.tail_nil ?_
 first | show Code.wp Tryz.prog _ _ _ _ | skip
 have n8 : q8 = false := by
  try simp only [Bq8]
  rw [beq_eq_false_iff_ne]; simp; omega
 refine wp_cond_false (h8_2.trans (by rw [n8])) ?_
 refine wp_skip ?_
 first | show Code.wp Tryz.prog _ _ _ _ | skip
 refine wp_seq ?_
 refine Eng.regionD (Eng.still [fun u_ => u_ = .pointer (some ⟨g, 0, none⟩), fun u_ => u_ = .pointer (some ⟨g, 0, none⟩), fun u_ => u_ = .pointer (some ⟨g, 0, none⟩), fun u_ => u_ = o, fun u_ => u_ = .pointer (some ⟨g, 0, none⟩), fun u_ => u_ = .pointer (some ⟨g, 0, none⟩), fun u_ => u_ = .pointer (some ⟨g, 0, none⟩), fun u_ => u_ = o, fun u_ => u_ = .int .i64 (((pre ++ [t]).length : Nat) : Int), fun u_ => u_ = .int .i64 (IntKind.i64.wrap ((((pre ++ [t]).length : Nat) : Int) - 1)), fun u_ => u_ = Eng.elemPtr o (pre.length * 2), fun u_ => u_ = Eng.elemPtr o (pre.length * 2)]) (fun _ => .plain) 12 0 22 (by kernel_rfl) s2 rfl (by kernel_rfl) (Eng.still_stable _) (Or.inr (Eng.still_any _)) ?_ ?_
 ·refine .cons (fun _ => ?_) (.cons (fun _ => ?_) (.cons (fun _ => ?_) (.cons (fun _ => ?_) (.cons (fun _ => ?_) (.cons (fun _ => ?_) (.cons (fun _ => ?_) (.cons (fun _ => ?_) (.cons (fun _ => ?_) (.cons (fun _ => ?_) (.cons (fun _ => ?_) (.cons (fun _ => ?_) (.nil))))))))))))
  ·exact Eng.plain rfl rfl fun a w' H => Eng.vr rfl (Eng.run_move rfl ((H.kept 0 (by kernel_rfl)).trans h0_2))
  ·exact Eng.plain rfl rfl fun a w' H => Eng.vr rfl (Eng.run_nilb rfl (H.dep 0 11 (by kernel_rfl) rfl))
  ·exact Eng.plain rfl rfl fun a w' H => Eng.vr rfl (Eng.run_fieldb rfl Tryz.underlying49 0 (by kernel_rfl) (H.dep 1 12 (by kernel_rfl) rfl))
  ·exact Eng.plain rfl rfl fun a w' H => Eng.vr rfl (Eng.run_loadb rfl (H.dep 2 13 (by kernel_rfl) rfl) ((H.below.block _ lg_2).trans kg_2) rfl (by kernel_rfl))
  ·exact Eng.plain rfl rfl fun a w' H => Eng.vr rfl (Eng.run_move rfl ((H.kept 0 (by kernel_rfl)).trans h0_2))
  ·exact Eng.plain rfl rfl fun a w' H => Eng.vr rfl (Eng.run_nilb rfl (H.dep 4 15 (by kernel_rfl) rfl))
  ·exact Eng.plain rfl rfl fun a w' H => Eng.vr rfl (Eng.run_fieldb rfl Tryz.underlying49 0 (by kernel_rfl) (H.dep 5 16 (by kernel_rfl) rfl))
  ·exact Eng.plain rfl rfl fun a w' H => Eng.vr rfl (Eng.run_loadb rfl (H.dep 6 17 (by kernel_rfl) rfl) ((H.below.block _ lg_2).trans kg_2) rfl (by kernel_rfl))
  ·exact Eng.plain rfl rfl fun a w' H => Eng.vr (v := .int .i64 (((pre ++ [t]).length : Nat) : Int)) rfl (Eng.run_len_sl rfl Tryz.underlying47 (show a.eval (.tmp 18) = o from (H.dep 7 18 (by kernel_rfl) rfl)) (Eng.Reads.below Fo_2 H.below))
  ·refine Eng.plain rfl rfl fun a w' H => ?_
   refine Eng.vr (v := .int .i64 (IntKind.i64.wrap ((((pre ++ [t]).length : Nat) : Int) - 1))) rfl ?_
   have e0 : a.eval (.tmp 19) = .int .i64 (((pre ++ [t]).length : Nat) : Int) := (H.dep 8 19 (by kernel_rfl) rfl)
   have e1 : a.eval (.const (.int .i64 1)) = .int .i64 1 := (rfl : a.eval (.const (.int .i64 1)) = .int .i64 1)
   simp only [execOp, resolve, List.map_toArray, List.map_cons, List.map_nil, e0, e1]
   go_simp
   all_goals first | rfl | (simp; done) | (rw [Bool.eq_iff_iff]; simp; done) | omega | (split <;> first | (simp_all; done) | (split <;> simp_all; done)) | skip
  ·exact Eng.plain rfl rfl fun a w' H => Eng.vr (v := Eng.elemPtr o (pre.length * 2)) rfl (Eng.run_index_sl rfl Tryz.underlying47 (by kernel_rfl) (show a.eval (.tmp 14) = o from (H.dep 3 14 (by kernel_rfl) rfl)) ((show a.eval (.tmp 20) = .int .i64 (IntKind.i64.wrap ((((pre ++ [t]).length : Nat) : Int) - 1)) from (H.dep 9 20 (by kernel_rfl) rfl)).trans (congrArg (Value.int _) (show IntKind.i64.wrap ((((pre ++ [t]).length : Nat) : Int) - 1) = ((pre.length : Nat) : Int) from by first | exact Evt.last_ix pre t hm1 | (simp; done)))) (Eng.Reads.below Fo_2 H.below) (by first | exact Evt.last_ix pre t hm1 | (simp; done)) rfl)
  ·exact Eng.plain rfl rfl fun a w' H => Eng.vr rfl (Eng.run_assign rfl (H.dep 10 21 (by kernel_rfl) rfl))
 intro act3 w3 T
 have h2_3 : act3.eval (.tmp 2) = Eng.elemPtr o (pre.length * 2) := T.done 11 2 rfl rfl
 have d3 := T.defers.trans d2
 have bl3 := bl2.trans (T.below.mono bl2.size)
 clear T
 refine Eng.tail_nil ?_
 first | show Code.wp Tryz.prog _ _ _ _ | skip
 refine wp_ret ?_
 repeat (first | refine Eng.in_ret ?_ | refine Eng.then_ret ?_)
 exact Eng.ret1 rfl d3 h2_3 ⟨rfl, bl3⟩
end Go.Proofs.YtgnmjaacnmkgnaaGreatDoor.X
end
section
namespace Go.Proofs.YtgnmjaacnmkgnaaGreatDoor.X
open Go.RowKit Go.Shelf Go.Proofs Go.Proofs.YtgnmjaacnmkgnaaGreatDoorW.PrintWords Go.Proofs.YtgnmjaacnmkgnaaGreatDoorW.PrintLast Go.Proofs.YtgnmjaacnmkgnaaGreatDoorW.PrintMore
set_option linter.unusedVariables false
set_option linter.unusedSimpArgs false
attribute [local go_sem] max2_int min2_int max_two min_two
set_option maxHeartbeats 4000000 in
set_option maxRecDepth 100000 in
theorem Evt.may69_calls (m : Int) (w : World) : Calls Tryz.prog 44 #[.int .i64 m] w fun e w' => e = .returned (.bool (m == 1)) ∧ Below w.heap.size w w' := by
 refine Eng.enter Tryz.func44 rfl fun act0 d0 s0 v0 => ?_
 have s0 : act0.tmps.size = 5 := s0
 have h0_0 : act0.eval (.tmp 0) = .int .i64 m := v0 0 (by simp)
 clear v0
 have bl0 : Below w.heap.size w w := Below.refl _ _
 refine wp_seq ?_
 refine Eng.regionS (Eng.still [fun u_ => u_ = .bool false]) (fun _ => .plain) 1 0 5 s0 rfl (by kernel_rfl) (Eng.still_stable _) (Or.inr (Eng.still_any _)) ?_ ?_
 ·refine .cons (fun _ => ?_) (.nil)
  ·exact Eng.plain rfl rfl fun a w' H => Eng.vr rfl (Eng.run_assign rfl (rfl : a.eval (.const (.bool false)) = .bool false))
 intro act1 w1 T
 have h0_1 := (T.rest 0 (by kernel_rfl)).trans h0_0
 have d1 := T.defers.trans d0
 have s1 := T.size.trans s0
 have bl1 := bl0.trans (T.below.mono bl0.size)
 clear T
 refine Eng.tail_nil ?_
 first | show Code.wp Tryz.prog _ _ _ _ | skip
 refine wp_seq ?_
 obtain ⟨q4, Bq4⟩ : ∃ b : Bool, b = (m == 1) := ⟨_, rfl⟩
 refine Eng.regionS (Eng.still [fun u_ => u_ = .int .i64 m, fun u_ => u_ = .bool q4, fun u_ => u_ = .bool q4]) (fun _ => .plain) 3 0 5 s1 rfl (by kernel_rfl) (Eng.still_stable _) (Or.inr (Eng.still_any _)) ?_ ?_
 ·refine .cons (fun _ => ?_) (.cons (fun _ => ?_) (.cons (fun _ => ?_) (.nil)))
  ·exact Eng.plain rfl rfl fun a w' H => Eng.vr rfl (Eng.run_move rfl ((H.kept 0 (by kernel_rfl)).trans h0_1))
  ·refine Eng.plain rfl rfl fun a w' H => ?_
   refine Eng.vr (v := .bool (m == 1)) (by show _ = Value.bool q4; rw [Bq4]) ?_
   have e0 : a.eval (.tmp 3) = .int .i64 m := (H.dep 0 3 (by kernel_rfl) rfl)
   have e1 : a.eval (.const (.int .i64 1)) = .int .i64 1 := (rfl : a.eval (.const (.int .i64 1)) = .int .i64 1)
   simp only [execOp, resolve, List.map_toArray, List.map_cons, List.map_nil, e0, e1]
   go_simp
   all_goals first | rfl | (simp; done) | (rw [Bool.eq_iff_iff]; simp; done) | omega | (split <;> first | (simp_all; done) | (split <;> simp_all; done)) | skip
  ·exact Eng.plain rfl rfl fun a w' H => Eng.vr rfl (Eng.run_assign rfl (H.dep 1 4 (by kernel_rfl) rfl))
 intro act2 w2 T
 have h2_2 : act2.eval (.tmp 2) = .bool q4 := T.done 2 2 rfl rfl
 have d2 := T.defers.trans d1
 have bl2 := bl1.trans (T.below.mono bl1.size)
 clear T
 refine Eng.tail_nil ?_
 first | show Code.wp Tryz.prog _ _ _ _ | skip
 refine wp_ret ?_
 repeat (first | refine Eng.in_ret ?_ | refine Eng.then_ret ?_)
 exact Eng.ret1 rfl d2 (h2_2.trans (by first | rfl | (rw [Bq4]; done) | (rw [Bq4]; rfl))) ⟨rfl, bl2⟩
set_option maxHeartbeats 4000000 in
set_option maxRecDepth 100000 in
theorem Evt.may70_calls (m : Int) (w : World) : Calls Tryz.prog 45 #[.int .i64 m] w fun e w' => e = .returned (.bool (true)) ∧ Below w.heap.size w w' := by
 refine Eng.enter Tryz.func45 rfl fun act0 d0 s0 v0 => ?_
 have s0 : act0.tmps.size = 3 := s0
 clear v0
 have bl0 : Below w.heap.size w w := Below.refl _ _
 refine wp_seq ?_
 refine Eng.regionS (Eng.still [fun u_ => u_ = .bool false]) (fun _ => .plain) 1 0 3 s0 rfl (by kernel_rfl) (Eng.still_stable _) (Or.inr (Eng.still_any _)) ?_ ?_
 ·refine .cons (fun _ => ?_) (.nil)
  ·exact Eng.plain rfl rfl fun a w' H => Eng.vr rfl (Eng.run_assign rfl (rfl : a.eval (.const (.bool false)) = .bool false))
 intro act1 w1 T
 have d1 := T.defers.trans d0
 have s1 := T.size.trans s0
 have bl1 := bl0.trans (T.below.mono bl0.size)
 clear T
 refine Eng.tail_nil ?_
 first | show Code.wp Tryz.prog _ _ _ _ | skip
 refine wp_seq ?_
 refine Eng.regionS (Eng.still [fun u_ => u_ = .bool true]) (fun _ => .plain) 1 0 3 s1 rfl (by kernel_rfl) (Eng.still_stable _) (Or.inr (Eng.still_any _)) ?_ ?_
 ·refine .cons (fun _ => ?_) (.nil)
  ·exact Eng.plain rfl rfl fun a w' H => Eng.vr rfl (Eng.run_assign rfl (rfl : a.eval (.const (.bool true)) = .bool true))
 intro act2 w2 T
 have h2_2 : act2.eval (.tmp 2) = .bool true := T.done 0 2 rfl rfl
 have d2 := T.defers.trans d1
 have bl2 := bl1.trans (T.below.mono bl1.size)
 clear T
 refine Eng.tail_nil ?_
 first | show Code.wp Tryz.prog _ _ _ _ | skip
 refine wp_ret ?_
 repeat (first | refine Eng.in_ret ?_ | refine Eng.then_ret ?_)
 exact Eng.ret1 rfl d2 (h2_2.trans (by first | rfl | (rw [id]; done) | (rw [id]; rfl))) ⟨rfl, bl2⟩
set_option maxHeartbeats 4000000 in
set_option maxRecDepth 100000 in
theorem Evt.may71_calls (m : Int) (w : World) : Calls Tryz.prog 46 #[.int .i64 m] w fun e w' => e = .returned (.bool (Evt.even m)) ∧ Below w.heap.size w w' := by
 refine Eng.enter Tryz.func46 rfl fun act0 d0 s0 v0 => ?_
 have s0 : act0.tmps.size = 6 := s0
 have h0_0 : act0.eval (.tmp 0) = .int .i64 m := v0 0 (by simp)
 clear v0
 have bl0 : Below w.heap.size w w := Below.refl _ _
 refine wp_seq ?_
 refine Eng.regionS (Eng.still [fun u_ => u_ = .bool false]) (fun _ => .plain) 1 0 6 s0 rfl (by kernel_rfl) (Eng.still_stable _) (Or.inr (Eng.still_any _)) ?_ ?_
 ·refine .cons (fun _ => ?_) (.nil)
  ·exact Eng.plain rfl rfl fun a w' H => Eng.vr rfl (Eng.run_assign rfl (rfl : a.eval (.const (.bool false)) = .bool false))
 intro act1 w1 T
 have h0_1 := (T.rest 0 (by kernel_rfl)).trans h0_0
 have d1 := T.defers.trans d0
 have s1 := T.size.trans s0
 have bl1 := bl0.trans (T.below.mono bl0.size)
 clear T
 refine Eng.tail_nil ?_
 first | show Code.wp Tryz.prog _ _ _ _ | skip
 refine wp_seq ?_
 obtain ⟨q5, Bq5⟩ : ∃ b : Bool, b = ((Int.tmod m 2) == 0) := ⟨_, rfl⟩
 refine Eng.regionS (Eng.still [fun u_ => u_ = .int .i64 m, fun u_ => u_ = .int .i64 (Int.tmod m 2), fun u_ => u_ = .bool q5, fun u_ => u_ = .bool q5]) (fun _ => .plain) 4 0 6 s1 rfl (by kernel_rfl) (Eng.still_stable _) (Or.inr (Eng.still_any _)) ?_ ?_
 ·refine .cons (fun _ => ?_) (.cons (fun _ => ?_) (.cons (fun _ => ?_) (.cons (fun _ => ?_) (.nil))))
  ·exact Eng.plain rfl rfl fun a w' H => Eng.vr rfl (Eng.run_move rfl ((H.kept 0 (by kernel_rfl)).trans h0_1))
  ·refine Eng.plain rfl rfl fun a w' H => ?_
   refine Eng.vr (v := .int .i64 (Int.tmod m 2)) rfl ?_
   have e0 : a.eval (.tmp 3) = .int .i64 m := (H.dep 0 3 (by kernel_rfl) rfl)
   have e1 : a.eval (.const (.int .i64 2)) = .int .i64 2 := (rfl : a.eval (.const (.int .i64 2)) = .int .i64 2)
   simp only [execOp, resolve, List.map_toArray, List.map_cons, List.map_nil, e0, e1]
   go_simp
   try rfl
  ·refine Eng.plain rfl rfl fun a w' H => ?_
   refine Eng.vr (v := .bool ((Int.tmod m 2) == 0)) (by show _ = Value.bool q5; rw [Bq5]) ?_
   have e0 : a.eval (.tmp 4) = .int .i64 (Int.tmod m 2) := (H.dep 1 4 (by kernel_rfl) rfl)
   have e1 : a.eval (.const (.int .i64 0)) = .int .i64 0 := (rfl : a.eval (.const (.int .i64 0)) = .int .i64 0)
   simp only [execOp, resolve, List.map_toArray, List.map_cons, List.map_nil, e0, e1]
   go_simp
   all_goals first | rfl | (simp; done) | (rw [Bool.eq_iff_iff]; simp; done) | omega | (split <;> first | (simp_all; done) | (split <;> simp_all; done)) | skip
  ·exact Eng.plain rfl rfl fun a w' H => Eng.vr rfl (Eng.run_assign rfl (H.dep 2 5 (by kernel_rfl) rfl))
 intro act2 w2 T
 have h2_2 : act2.eval (.tmp 2) = .bool q5 := T.done 3 2 rfl rfl
 have d2 := T.defers.trans d1
 have bl2 := bl1.trans (T.below.mono bl1.size)
 clear T
 refine Eng.tail_nil ?_
 first | show Code.wp Tryz.prog _ _ _ _ | skip
 refine wp_ret ?_
 repeat (first | refine Eng.in_ret ?_ | refine Eng.then_ret ?_)
 exact Eng.ret1 rfl d2 (h2_2.trans (by first | rfl | (rw [Bq5]; done) | (rw [Bq5]; rfl))) ⟨rfl, bl2⟩
end Go.Proofs.YtgnmjaacnmkgnaaGreatDoor.X
end
section
namespace Go.Proofs.YtgnmjaacnmkgnaaGreatDoor.X
open Go.RowKit Go.Shelf Go.Proofs Go.Proofs.YtgnmjaacnmkgnaaGreatDoorW.PrintWords Go.Proofs.YtgnmjaacnmkgnaaGreatDoorW.PrintLast Go.Proofs.YtgnmjaacnmkgnaaGreatDoorW.PrintMore
set_option linter.unusedVariables false
set_option linter.unusedSimpArgs false
attribute [local go_sem] max2_int min2_int max_two min_two
set_option maxHeartbeats 4000000 in
set_option maxRecDepth 100000 in
theorem Evt.pop_nilW (g : Nat) (o : Value) (k : Int) (ff : Nat) (fn : Func) (may : Int → Bool) (hff : Tryz.prog.funcs[ff]? = some fn) (hfn : (fn.name == "runtime.NumGoroutine") = false) (hfb : fn.body.isNone = false) (hmay : ∀ (m : Int) (w : World), Calls Tryz.prog ff #[.int .i64 m] w fun e w' => e = .returned (.bool (may m)) ∧ Below w.heap.size w w') (w W0 : World) (hB : Below w.heap.size w W0) (hlo : w.heap.size ≤ g) (hk : W0.heap[g]? = some (.cells #[o] 49 (0, 0))) (hO : W0.ownsRow w.heap.size 71 2 o 0 (Evt.opens [])) (hk0 : 0 ≤ k) : Calls Tryz.prog 43 #[.pointer (some ⟨g, 0, none⟩), .int .i64 k, .func (.func ff) #[] #[]] W0 fun e w' => e = .returned (.bool (Evt.pop [] k may).isSome) ∧ Below w.heap.size w w' ∧ ∀ st', Evt.pop [] k may = some st' → ∃ o', Evt.Is w.heap.size W0 g o st' w' o' := by
 refine Eng.enter Tryz.func43 rfl fun act0 d0 s0 v0 => ?_
 have s0 : act0.tmps.size = 39 := s0
 have h0_0 : act0.eval (.tmp 0) = .pointer (some ⟨g, 0, none⟩) := v0 0 (by simp)
 have h1_0 : act0.eval (.tmp 1) = .int .i64 k := v0 1 (by simp)
 have h2_0 : act0.eval (.tmp 2) = .func (.func ff) #[] #[] := v0 2 (by simp)
 clear v0
 refine wp_seq ?_
 refine Eng.regionS (Eng.still [fun u_ => u_ = .bool false]) (fun _ => .plain) 1 0 39 s0 rfl (by kernel_rfl) (Eng.still_stable _) (Or.inr (Eng.still_any _)) ?_ ?_
 ·refine .cons (fun _ => ?_) (.nil)
  ·exact Eng.plain rfl rfl fun a w' H => Eng.vr rfl (Eng.run_assign rfl (rfl : a.eval (.const (.bool false)) = .bool false))
 intro act1 w1 T
 have h0_1 := (T.rest 0 (by kernel_rfl)).trans h0_0
 have h1_1 := (T.rest 1 (by kernel_rfl)).trans h1_0
 have h2_1 := (T.rest 2 (by kernel_rfl)).trans h2_0
 have kg_1 := (T.below.block _ (Array.getElem?_eq_some_iff.1 hk).1).trans hk
 have lg_1 := Nat.lt_of_lt_of_le (Array.getElem?_eq_some_iff.1 hk).1 T.below.size
 have Oo_1 := Eng.own_below hO T.below
 have d1 := T.defers.trans d0
 have s1 := T.size.trans s0
 have bl1 := hB.trans (T.below.mono hB.size)
 have XA_1 := Eng.Aft.step (Eng.Aft.refl (Eng.Nst g o) W0) T.below
 clear T
 refine Eng.tail_nil ?_
 first | show Code.wp Tryz.prog _ _ _ _ | skip
 refine wp_seq ?_
 refine wp_seq ?_
 refine (wpIn_wide (n := 1)).1 ?_
 refine EngI.regionS EngI.free_wide (Eng.still [fun u_ => u_ = .pointer (some ⟨g, 0, none⟩)]) (fun _ => .plain) 1 2 39 s1 rfl (by kernel_rfl) (Eng.still_stable _) (Or.inr (Eng.still_any _)) (by kernel_rfl) ?_ ?_
 ·refine .cons (fun _ => ?_) (.cons (fun h => absurd h (by decide)) (.cons (fun h => absurd h (by decide)) (.nil)))
  ·exact Eng.plain rfl rfl fun a w' H => Eng.vr rfl (Eng.run_move rfl ((H.kept 0 (by kernel_rfl)).trans h0_1))
 intro act2 w2 T
 have h1_2 := (T.rest 1 (by kernel_rfl)).trans h1_1
 have h2_2 := (T.rest 2 (by kernel_rfl)).trans h2_1
 have kg_2 := (T.below.block _ lg_1).trans kg_1
 have Oo_2 := Eng.own_below Oo_1 T.below
 have h8_2 : act2.eval (.tmp 8) = .pointer (some ⟨g, 0, none⟩) := T.done 0 8 rfl rfl
 have d2 := T.defers.trans d1
 have s2 := T.size.trans s1
 have bl2 := bl1.trans (T.below.mono bl1.size)
 have XA_2 := Eng.Aft.step XA_1 T.below
 clear T
 refine EngI.tail_call EngI.free_wide Tryz.func41 (by kernel_rfl) (by kernel_rfl) rfl rfl rfl rfl #[.pointer (some ⟨g, 0, none⟩)] (by have e0 : act2.eval (.tmp 8) = .pointer (some ⟨g, 0, none⟩) := h8_2; simp only [List.map_toArray, List.map_cons, List.map_nil, e0]) s2 rfl (R := fun v w' => ∃ h, v = .pointer (some ⟨h, 0, none⟩) ∧ w2.heap.size ≤ h ∧ h < w'.heap.size ∧ w'.heap[h]? = some (.cells #[.int .i64 (-1), .int .i64 0] 71 (0, 0)) ∧ Below w2.heap.size w2 w') ((Evt.last_nil g o w.heap.size _ kg_2 Oo_2).mono ?_) fun v_3 w3 act3 R d3 s3 hv hr => ?_
 ·rintro e w1 ⟨h, rfl, h1⟩; exact ⟨_, rfl, h, rfl, h1⟩
 have h1_3 := (hr 1 rfl).trans h1_2
 have h2_3 := (hr 2 rfl).trans h2_2
 have h9_3 : act3.eval (.tmp 9) = v_3 := hv
 have d3 := d3.trans d2
 clear hv hr
 obtain ⟨h3, ev_3, rg_3, lgh3, kgh3, b_3⟩ := R
 have nw3 : W0.heap.size ≤ h3 := Nat.le_trans XA_2.size rg_3
 have bl3 := bl2.trans (b_3.mono bl2.size)
 rw [ev_3] at h9_3
 refine EngI.tail_val EngI.free_wide rfl rfl rfl rfl (Eng.run_assign rfl h9_3) s3 rfl fun act4 d4 s4 hv hr => ?_
 have h1_4 := (hr 1 rfl).trans h1_3
 have h2_4 := (hr 2 rfl).trans h2_3
 have h7_4 : act4.eval (.tmp 7) = .pointer (some ⟨h3, 0, none⟩) := hv
 have d4 := d4.trans d3
 clear hv hr
 refine EngI.tail_nil ?_
 first | show Code.wp Tryz.prog _ _ _ _ | skip
 refine wp_seq ?_
 obtain ⟨q15, Bq15⟩ : ∃ b : Bool, b = (!((-1) == k)) := ⟨_, rfl⟩
 obtain ⟨q22, Bq22⟩ : ∃ b : Bool, b = (may 0) := ⟨_, rfl⟩
 obtain ⟨q23, Bq23⟩ : ∃ b : Bool, b = (!q22) := ⟨_, rfl⟩
 obtain ⟨q24, Bq24⟩ : ∃ b : Bool, b = (q15 || q23) := ⟨_, rfl⟩
 refine Eng.regionS (Eng.still [fun u_ => u_ = .pointer (some ⟨h3, 0, none⟩), fun u_ => u_ = .pointer (some ⟨h3, 0, none⟩), fun u_ => u_ = .pointer (some ⟨h3, 0, none⟩), fun u_ => u_ = .int .i64 (-1), fun u_ => u_ = .int .i64 k, fun u_ => u_ = .bool q15, fun u_ => u_ = .bool q15, fun u_ => u_ = bif (q15 == false) then (.func (.func ff) #[] #[]) else undef, fun u_ => u_ = bif (q15 == false) then (.pointer (some ⟨h3, 0, none⟩)) else undef, fun u_ => u_ = bif (q15 == false) then (.pointer (some ⟨h3, 0, none⟩)) else undef, fun u_ => u_ = bif (q15 == false) then (.pointer (some ⟨h3, 1, none⟩)) else undef, fun u_ => u_ = bif (q15 == false) then (.int .i64 0) else undef, fun u_ => u_ = bif (q15 == false) then (.bool q22) else undef, fun u_ => u_ = bif (q15 == false) then (.bool q23) else undef, fun u_ => u_ = .bool q24]) (fun _ => .plain) 15 0 39 s4 rfl (by kernel_rfl) (Eng.still_stable _) (Or.inr (Eng.still_any _)) ?_ ?_
 ·refine .cons (fun _ => ?_) (.cons (fun _ => ?_) (.cons (fun _ => ?_) (.cons (fun _ => ?_) (.cons (fun _ => ?_) (.cons (fun _ => ?_) (.cons (fun _ => ?_) (.cons (fun _ => ?_) (.cons (fun _ => ?_) (.cons (fun _ => ?_) (.cons (fun _ => ?_) (.cons (fun _ => ?_) (.cons (fun _ => ?_) (.cons (fun _ => ?_) (.cons (fun _ => ?_) (.nil)))))))))))))))
  ·exact Eng.plain rfl rfl fun a w' H => Eng.vr rfl (Eng.run_move rfl ((H.kept 7 (by kernel_rfl)).trans h7_4))
  ·exact Eng.plain rfl rfl fun a w' H => Eng.vr rfl (Eng.run_nilb rfl (H.dep 0 10 (by kernel_rfl) rfl))
  ·exact Eng.plain rfl rfl fun a w' H => Eng.vr rfl (Eng.run_fieldb rfl Tryz.underlying71 0 (by kernel_rfl) (H.dep 1 11 (by kernel_rfl) rfl))
  ·exact Eng.plain rfl rfl fun a w' H => Eng.vr rfl (Eng.run_loadb rfl (H.dep 2 12 (by kernel_rfl) rfl) ((H.below.block _ lgh3).trans kgh3) rfl (by kernel_rfl))
  ·exact Eng.plain rfl rfl fun a w' H => Eng.vr rfl (Eng.run_move rfl ((H.kept 1 (by kernel_rfl)).trans h1_4))
  ·refine Eng.plain rfl rfl fun a w' H => ?_
   refine Eng.vr (v := .bool (!((-1) == k))) (by show _ = Value.bool q15; rw [Bq15]) ?_
   have e0 : a.eval (.tmp 13) = .int .i64 (-1) := (H.dep 3 13 (by kernel_rfl) rfl)
   have e1 : a.eval (.tmp 14) = .int .i64 k := (H.dep 4 14 (by kernel_rfl) rfl)
   simp only [execOp, resolve, List.map_toArray, List.map_cons, List.map_nil, e0, e1]
   go_simp
   all_goals first | rfl | (simp; done) | (rw [Bool.eq_iff_iff]; simp; done) | omega | (split <;> first | (simp_all; done) | (split <;> simp_all; done)) | skip
  ·exact Eng.plain rfl rfl fun a w' H => Eng.vr rfl (Eng.run_move rfl (H.dep 5 15 (by kernel_rfl) rfl))
  ·refine Eng.guarded1 (j := 6) (d := 16) (b := q15) rfl rfl (by kernel_rfl) rfl (fun v w h => h) (fun hG w => Eng.off hG) fun hG a w' H => ?_
   exact Eng.val (w1 := w') (v := .func (.func ff) #[] #[]) (Eng.run_move rfl ((H.kept 2 (by kernel_rfl)).trans h2_4)) (Below.refl _ _) (Eng.off' hG rfl)
  ·refine Eng.guarded1 (j := 6) (d := 16) (b := q15) rfl rfl (by kernel_rfl) rfl (fun v w h => h) (fun hG w => Eng.off hG) fun hG a w' H => ?_
   exact Eng.val (w1 := w') (v := .pointer (some ⟨h3, 0, none⟩)) (Eng.run_move rfl ((H.kept 7 (by kernel_rfl)).trans h7_4)) (Below.refl _ _) (Eng.off' hG rfl)
  ·refine Eng.guarded1 (j := 6) (d := 16) (b := q15) rfl rfl (by kernel_rfl) rfl (fun v w h => h) (fun hG w => Eng.off hG) fun hG a w' H => ?_
   exact Eng.val (w1 := w') (v := .pointer (some ⟨h3, 0, none⟩)) (Eng.run_nilb rfl (Eng.on (H.dep 8 18 (by kernel_rfl) rfl) hG)) (Below.refl _ _) (Eng.off' hG rfl)
  ·refine Eng.guarded1 (j := 6) (d := 16) (b := q15) rfl rfl (by kernel_rfl) rfl (fun v w h => h) (fun hG w => Eng.off hG) fun hG a w' H => ?_
   exact Eng.val (w1 := w') (v := .pointer (some ⟨h3, 1, none⟩)) (Eng.run_fieldb rfl Tryz.underlying71 1 (by kernel_rfl) (Eng.on (H.dep 9 19 (by kernel_rfl) rfl) hG)) (Below.refl _ _) (Eng.off' hG rfl)
  ·refine Eng.guarded1 (j := 6) (d := 16) (b := q15) rfl rfl (by kernel_rfl) rfl (fun v w h => h) (fun hG w => Eng.off hG) fun hG a w' H => ?_
   exact Eng.val (w1 := w') (v := .int .i64 0) (Eng.run_loadb rfl (Eng.on (H.dep 10 20 (by kernel_rfl) rfl) hG) ((H.below.block _ lgh3).trans kgh3) rfl (by kernel_rfl)) (Below.refl _ _) (Eng.off' hG rfl)
  ·refine Eng.guarded1 (j := 6) (d := 16) (b := q15) rfl rfl (by kernel_rfl) rfl (fun v w h => h) (fun hG w => Eng.off hG) fun hG a w' H => ?_
   refine Eng.callv hff hfn hfb rfl (Eng.on (H.dep 7 17 (by kernel_rfl) rfl) hG) #[.int .i64 0] ?_ ?_
   ·have e0 : a.eval (.tmp 21) = .int .i64 0 := (Eng.on (H.dep 11 21 (by kernel_rfl) rfl) hG); simp only [List.map_toArray, List.map_cons, List.map_nil, e0]
   refine (hmay 0 _).mono ?_
   rintro e w'' ⟨rfl, hb⟩
   exact ⟨_, rfl, (Eng.off' hG (by rw [Bq22])), hb⟩
  ·refine Eng.guarded1 (j := 6) (d := 16) (b := q15) rfl rfl (by kernel_rfl) rfl (fun v w h => h) (fun hG w => Eng.off hG) fun hG a w' H => ?_
   exact Eng.val (w1 := w') (v := .bool (!q22)) (Eng.run_not rfl (Eng.on (H.dep 12 22 (by kernel_rfl) rfl) hG)) (Below.refl _ _) (Eng.off' hG (by rw [Bq23]))
  ·exact Eng.plain rfl rfl fun a w' H => Eng.vr (v := .bool (q15 || q23)) (by show _ = Value.bool q24; rw [Bq24]) (Eng.run_or rfl rfl (G := true) (H.dep 6 16 (by kernel_rfl) rfl) (fun hb => (Eng.on (H.dep 13 23 (by kernel_rfl) rfl) (Eng.mk1 hb))))
 intro act5 w5 T
 have h24_5 : act5.eval (.tmp 24) = .bool q24 := T.done 14 24 rfl rfl
 have d5 := T.defers.trans d4
 have s5 := T.size.trans s4
 have bl5 := bl3.trans (T.below.mono bl3.size)
 clear T
 refine Eng.tail_nil ?_
 first | show Code.wp Tryz.prog _ _ _ _ | skip
 have n24 : q24 = true := by
  try simp only [Bq24, Bq23, Bq22, Bq15]
  rw [Bool.or_eq_true]; left; simp; omega
 refine wp_cond_true (h24_5.trans (by rw [n24])) ?_
 refine wp_seq ?_
 refine Eng.regionS (Eng.still [fun u_ => u_ = .bool false]) (fun _ => .plain) 1 0 39 s5 rfl (by kernel_rfl) (Eng.still_stable _) (Or.inr (Eng.still_any _)) ?_ ?_
 ·refine .cons (fun _ => ?_) (.nil)
  ·exact Eng.plain rfl rfl fun a w' H => Eng.vr rfl (Eng.run_assign rfl (rfl : a.eval (.const (.bool false)) = .bool false))
 intro act6 w6 T
 have h6_6 : act6.eval (.tmp 6) = .bool false := T.done 0 6 rfl rfl
 have d6 := T.defers.trans d5
 have bl6 := bl5.trans (T.below.mono bl5.size)
 clear T
 refine Eng.tail_nil ?_
 first | show Code.wp Tryz.prog _ _ _ _ | skip
 refine wp_ret ?_
 repeat (first | refine Eng.in_ret ?_ | refine Eng.then_ret ?_)
 exact Eng.ret1 rfl d6 h6_6 ⟨rfl, bl6, fun st' h => nomatch h⟩
set_option maxHeartbeats 4000000 in
set_option maxRecDepth 100000 in
theorem Evt.pop_topW (g : Nat) (o : Value) (k : Int) (pre : List (Int × Int)) (t : Int × Int) (ff : Nat) (fn : Func) (may : Int → Bool) (hff : Tryz.prog.funcs[ff]? = some fn) (hfn : (fn.name == "runtime.NumGoroutine") = false) (hfb : fn.body.isNone = false) (hmay : ∀ (m : Int) (w : World), Calls Tryz.prog ff #[.int .i64 m] w fun e w' => e = .returned (.bool (may m)) ∧ Below w.heap.size w w') (w W0 : World) (hB : Below w.heap.size w W0) (hlo : w.heap.size ≤ g) (hk : W0.heap[g]? = some (.cells #[o] 49 (0, 0))) (hO : W0.ownsRow w.heap.size 71 2 o (pre ++ [t]).length (Evt.opens (pre ++ [t]))) : Calls Tryz.prog 43 #[.pointer (some ⟨g, 0, none⟩), .int .i64 k, .func (.func ff) #[] #[]] W0 fun e w' => e = .returned (.bool (Evt.pop (pre ++ [t]) k may).isSome) ∧ Below w.heap.size w w' ∧ ∀ st', Evt.pop (pre ++ [t]) k may = some st' → ∃ o', Evt.Is w.heap.size W0 g o st' w' o' := by
 have hm := Eng.Reads.len_le (Eng.Reads.of_own hO)
 rw [List.length_append] at hm
 have hm1 : pre.length + 1 ≤ 9223372036854775807 := hm
 refine Eng.enter Tryz.func43 rfl fun act0 d0 s0 v0 => ?_
 have s0 : act0.tmps.size = 39 := s0
 have h0_0 : act0.eval (.tmp 0) = .pointer (some ⟨g, 0, none⟩) := v0 0 (by simp)
 have h1_0 : act0.eval (.tmp 1) = .int .i64 k := v0 1 (by simp)
 have h2_0 : act0.eval (.tmp 2) = .func (.func ff) #[] #[] := v0 2 (by simp)
 clear v0
 refine wp_seq ?_
 refine Eng.regionS (Eng.still [fun u_ => u_ = .bool false]) (fun _ => .plain) 1 0 39 s0 rfl (by kernel_rfl) (Eng.still_stable _) (Or.inr (Eng.still_any _)) ?_ ?_
 ·refine .cons (fun _ => ?_) (.nil)
  ·exact Eng.plain rfl rfl fun a w' H => Eng.vr rfl (Eng.run_assign rfl (rfl : a.eval (.const (.bool false)) = .bool false))
 intro act1 w1 T
 have h0_1 := (T.rest 0 (by kernel_rfl)).trans h0_0
 have h1_1 := (T.rest 1 (by kernel_rfl)).trans h1_0
 have h2_1 := (T.rest 2 (by kernel_rfl)).trans h2_0
 have kg_1 := (T.below.block _ (Array.getElem?_eq_some_iff.1 hk).1).trans hk
 have lg_1 := Nat.lt_of_lt_of_le (Array.getElem?_eq_some_iff.1 hk).1 T.below.size
 have Fo_1 := Eng.Reads.below (Eng.Reads.of_own hO) T.below
 have Oo_1 := Eng.own_below hO T.below
 have d1 := T.defers.trans d0
 have s1 := T.size.trans s0
 have bl1 := hB.trans (T.below.mono hB.size)
 have XA_1 := Eng.Aft.step (Eng.Aft.refl (Eng.Nst g o) W0) T.below
 clear T
 refine Eng.tail_nil ?_
 first | show Code.wp Tryz.prog _ _ _ _ | skip
 refine wp_seq ?_
 refine wp_seq ?_
 refine (wpIn_wide (n := 1)).1 ?_
 refine EngI.regionS EngI.free_wide (Eng.still [fun u_ => u_ = .pointer (some ⟨g, 0, none⟩)]) (fun _ => .plain) 1 2 39 s1 rfl (by kernel_rfl) (Eng.still_stable _) (Or.inr (Eng.still_any _)) (by kernel_rfl) ?_ ?_
 ·refine .cons (fun _ => ?_) (.cons (fun h => absurd h (by decide)) (.cons (fun h => absurd h (by decide)) (.nil)))
  ·exact Eng.plain rfl rfl fun a w' H => Eng.vr rfl (Eng.run_move rfl ((H.kept 0 (by kernel_rfl)).trans h0_1))
 intro act2 w2 T
 have h0_2 := (T.rest 0 (by kernel_rfl)).trans h0_1
 have h1_2 := (T.rest 1 (by kernel_rfl)).trans h1_1
 have h2_2 := (T.rest 2 (by kernel_rfl)).trans h2_1
 have kg_2 := (T.below.block _ lg_1).trans kg_1
 have lg_2 := Nat.lt_of_lt_of_le lg_1 T.below.size
 have Fo_2 := Eng.Reads.below Fo_1 T.below
 have Oo_2 := Eng.own_below Oo_1 T.below
 have h8_2 : act2.eval (.tmp 8) = .pointer (some ⟨g, 0, none⟩) := T.done 0 8 rfl rfl
 have d2 := T.defers.trans d1
 have s2 := T.size.trans s1
 have bl2 := bl1.trans (T.below.mono bl1.size)
 have XA_2 := Eng.Aft.step XA_1 T.below
 clear T
 refine EngI.tail_call EngI.free_wide Tryz.func41 (by kernel_rfl) (by kernel_rfl) rfl rfl rfl rfl #[.pointer (some ⟨g, 0, none⟩)] (by have e0 : act2.eval (.tmp 8) = .pointer (some ⟨g, 0, none⟩) := h8_2; simp only [List.map_toArray, List.map_cons, List.map_nil, e0]) s2 rfl (R := fun v w' => v = Eng.elemPtr o (pre.length * 2) ∧ Below w2.heap.size w2 w') ((Evt.last_top g o w.heap.size pre t _ kg_2 Oo_2).mono ?_) fun v_3 w3 act3 R d3 s3 hv hr => ?_
 ·rintro e w1 ⟨rfl, h1⟩; exact ⟨_, rfl, rfl, h1⟩
 have h0_3 := (hr 0 rfl).trans h0_2
 have h1_3 := (hr 1 rfl).trans h1_2
 have h2_3 := (hr 2 rfl).trans h2_2
 have h9_3 : act3.eval (.tmp 9) = v_3 := hv
 have d3 := d3.trans d2
 clear hv hr
 obtain ⟨ev_3, b_3⟩ := R
 have kg_3 := (b_3.block _ lg_2).trans kg_2
 have lg_3 := Nat.lt_of_lt_of_le lg_2 b_3.size
 have Fo_3 := Eng.Reads.below Fo_2 b_3
 have Oo_3 := Eng.own_below Oo_2 b_3
 have XA_3 := Eng.Aft.step XA_2 b_3
 have bl3 := bl2.trans (b_3.mono bl2.size)
 rw [ev_3] at h9_3
 refine EngI.tail_val EngI.free_wide rfl rfl rfl rfl (Eng.run_assign rfl h9_3) s3 rfl fun act4 d4 s4 hv hr => ?_
 have h0_4 := (hr 0 rfl).trans h0_3
 have h1_4 := (hr 1 rfl).trans h1_3
 have h2_4 := (hr 2 rfl).trans h2_3
 have h7_4 : act4.eval (.tmp 7) = Eng.elemPtr o (pre.length * 2) := hv
 have d4 := d4.trans d3
 clear hv hr
 refine EngI.tail_nil ?_
 first | show Code.wp Tryz.prog _ _ _ _ | skip
 refine wp_seq ?_
 obtain ⟨q15, Bq15⟩ : ∃ b : Bool, b = (!(t.1 == k)) := ⟨_, rfl⟩
 obtain ⟨q22, Bq22⟩ : ∃ b : Bool, b = (may t.2) := ⟨_, rfl⟩
 obtain ⟨q23, Bq23⟩ : ∃ b : Bool, b = (!q22) := ⟨_, rfl⟩
 obtain ⟨q24, Bq24⟩ : ∃ b : Bool, b = (q15 || q23) := ⟨_, rfl⟩
 refine Eng.regionS (Eng.still [fun u_ => u_ = Eng.elemPtr o (pre.length * 2), fun u_ => u_ = Eng.elemPtr o (pre.length * 2), fun u_ => u_ = Eng.elemPtr o (pre.length * 2 + 0), fun u_ => u_ = .int .i64 t.1, fun u_ => u_ = .int .i64 k, fun u_ => u_ = .bool q15, fun u_ => u_ = .bool q15, fun u_ => u_ = bif (q15 == false) then (.func (.func ff) #[] #[]) else undef, fun u_ => u_ = bif (q15 == false) then (Eng.elemPtr o (pre.length * 2)) else undef, fun u_ => u_ = bif (q15 == false) then (Eng.elemPtr o (pre.length * 2)) else undef, fun u_ => u_ = bif (q15 == false) then (Eng.elemPtr o (pre.length * 2 + 1)) else undef, fun u_ => u_ = bif (q15 == false) then (.int .i64 t.2) else undef, fun u_ => u_ = bif (q15 == false) then (.bool q22) else undef, fun u_ => u_ = bif (q15 == false) then (.bool q23) else undef, fun u_ => u_ = .bool q24]) (fun _ => .plain) 15 0 39 s4 rfl (by kernel_rfl) (Eng.still_stable _) (Or.inr (Eng.still_any _)) ?_ ?_
 ·refine .cons (fun _ => ?_) (.cons (fun _ => ?_) (.cons (fun _ => ?_) (.cons (fun _ => ?_) (.cons (fun _ => ?_) (.cons (fun _ => ?_) (.cons (fun _ => ?_) (.cons (fun _ => ?_) (.cons (fun _ => ?_) (.cons (fun _ => ?_) (.cons (fun _ => ?_) (.cons (fun _ => ?_) (.cons (fun _ => ?_) (.cons (fun _ => ?_) (.cons (fun _ => ?_) (.nil)))))))))))))))
  ·exact Eng.plain rfl rfl fun a w' H => Eng.vr rfl (Eng.run_move rfl ((H.kept 7 (by kernel_rfl)).trans h7_4))
  ·exact Eng.plain rfl rfl fun a w' H => Eng.vr (v := Eng.elemPtr o (pre.length * 2)) rfl (Eng.run_nil_el rfl (show a.eval (.tmp 10) = Eng.elemPtr o (pre.length * 2) from (H.dep 0 10 (by kernel_rfl) rfl)) (Eng.Reads.below Fo_3 H.below) (by have h_ : pre.length < (pre ++ [t]).length := (by simp); omega))
  ·exact Eng.plain rfl rfl fun a w' H => Eng.vr (v := Eng.elemPtr o (pre.length * 2 + 0)) rfl (Eng.run_field_el rfl Tryz.underlying71 0 (by kernel_rfl) (show a.eval (.tmp 11) = Eng.elemPtr o (pre.length * 2) from (H.dep 1 11 (by kernel_rfl) rfl)) (Eng.Reads.below Fo_3 H.below) (by have h_ : pre.length < (pre ++ [t]).length := (by simp); omega))
  ·exact Eng.plain rfl rfl fun a w' H => Eng.vr (v := .int .i64 t.1) rfl (Eng.run_load_el (.int .i64 t.1) rfl (show a.eval (.tmp 12) = Eng.elemPtr o (pre.length * 2 + 0) from (H.dep 2 12 (by kernel_rfl) rfl)) (Eng.Reads.below Fo_3 H.below) (Evt.top_0 pre t) (by kernel_rfl))
  ·exact Eng.plain rfl rfl fun a w' H => Eng.vr rfl (Eng.run_move rfl ((H.kept 1 (by kernel_rfl)).trans h1_4))
  ·refine Eng.plain rfl rfl fun a w' H => ?_
   refine Eng.vr (v := .bool (!(t.1 == k))) (by show _ = Value.bool q15; rw [Bq15]) ?_
   have e0 : a.eval (.tmp 13) = .int .i64 t.1 := (H.dep 3 13 (by kernel_rfl) rfl)
   have e1 : a.eval (.tmp 14) = .int .i64 k := (H.dep 4 14 (by kernel_rfl) rfl)
   simp only [execOp, resolve, List.map_toArray, List.map_cons, List.map_nil, e0, e1]
   go_simp
   all_goals first | rfl | (simp; done) | (rw [Bool.eq_iff_iff]; simp; done) | omega | (split <;> first | (simp_all; done) | (split <;> simp_all; done)) | skip
  ·exact Eng.plain rfl rfl fun a w' H => Eng.vr rfl (Eng.run_move rfl (H.dep 5 15 (by kernel_rfl) rfl))
  ·refine Eng.guarded1 (j := 6) (d := 16) (b := q15) rfl rfl (by kernel_rfl) rfl (fun v w h => h) (fun hG w => Eng.off hG) fun hG a w' H => ?_
   exact Eng.val (w1 := w') (v := .func (.func ff) #[] #[]) (Eng.run_move rfl ((H.kept 2 (by kernel_rfl)).trans h2_4)) (Below.refl _ _) (Eng.off' hG rfl)
  ·refine Eng.guarded1 (j := 6) (d := 16) (b := q15) rfl rfl (by kernel_rfl) rfl (fun v w h => h) (fun hG w => Eng.off hG) fun hG a w' H => ?_
   exact Eng.val (w1 := w') (v := Eng.elemPtr o (pre.length * 2)) (Eng.run_move rfl ((H.kept 7 (by kernel_rfl)).trans h7_4)) (Below.refl _ _) (Eng.off' hG rfl)
  ·refine Eng.guarded1 (j := 6) (d := 16) (b := q15) rfl rfl (by kernel_rfl) rfl (fun v w h => h) (fun hG w => Eng.off hG) fun hG a w' H => ?_
   refine Eng.vr (v := Eng.elemPtr o (pre.length * 2)) (Eng.off' hG rfl) ?_
   exact Eng.run_nil_el rfl (show a.eval (.tmp 18) = Eng.elemPtr o (pre.length * 2) from (Eng.on (H.dep 8 18 (by kernel_rfl) rfl) hG)) (Eng.Reads.below Fo_3 H.below) (by have h_ : pre.length < (pre ++ [t]).length := (by simp); omega)
  ·refine Eng.guarded1 (j := 6) (d := 16) (b := q15) rfl rfl (by kernel_rfl) rfl (fun v w h => h) (fun hG w => Eng.off hG) fun hG a w' H => ?_
   refine Eng.vr (v := Eng.elemPtr o (pre.length * 2 + 1)) (Eng.off' hG rfl) ?_
   exact Eng.run_field_el rfl Tryz.underlying71 1 (by kernel_rfl) (show a.eval (.tmp 19) = Eng.elemPtr o (pre.length * 2) from (Eng.on (H.dep 9 19 (by kernel_rfl) rfl) hG)) (Eng.Reads.below Fo_3 H.below) (by have h_ : pre.length < (pre ++ [t]).length := (by simp); omega)
  ·refine Eng.guarded1 (j := 6) (d := 16) (b := q15) rfl rfl (by kernel_rfl) rfl (fun v w h => h) (fun hG w => Eng.off hG) fun hG a w' H => ?_
   refine Eng.vr (v := .int .i64 t.2) (Eng.off' hG rfl) ?_
   exact Eng.run_load_el (.int .i64 t.2) rfl (show a.eval (.tmp 20) = Eng.elemPtr o (pre.length * 2 + 1) from (Eng.on (H.dep 10 20 (by kernel_rfl) rfl) hG)) (Eng.Reads.below Fo_3 H.below) (Evt.top_1 pre t) (by kernel_rfl)
  ·refine Eng.guarded1 (j := 6) (d := 16) (b := q15) rfl rfl (by kernel_rfl) rfl (fun v w h => h) (fun hG w => Eng.off hG) fun hG a w' H => ?_
   refine Eng.callv hff hfn hfb rfl (Eng.on (H.dep 7 17 (by kernel_rfl) rfl) hG) #[.int .i64 t.2] ?_ ?_
   ·have e0 : a.eval (.tmp 21) = .int .i64 t.2 := (Eng.on (H.dep 11 21 (by kernel_rfl) rfl) hG); simp only [List.map_toArray, List.map_cons, List.map_nil, e0]
   refine (hmay t.2 _).mono ?_
   rintro e w'' ⟨rfl, hb⟩
   exact ⟨_, rfl, (Eng.off' hG (by rw [Bq22])), hb⟩
  ·refine Eng.guarded1 (j := 6) (d := 16) (b := q15) rfl rfl (by kernel_rfl) rfl (fun v w h => h) (fun hG w => Eng.off hG) fun hG a w' H => ?_
   exact Eng.val (w1 := w') (v := .bool (!q22)) (Eng.run_not rfl (Eng.on (H.dep 12 22 (by kernel_rfl) rfl) hG)) (Below.refl _ _) (Eng.off' hG (by rw [Bq23]))
  ·exact Eng.plain rfl rfl fun a w' H => Eng.vr (v := .bool (q15 || q23)) (by show _ = Value.bool q24; rw [Bq24]) (Eng.run_or rfl rfl (G := true) (H.dep 6 16 (by kernel_rfl) rfl) (fun hb => (Eng.on (H.dep 13 23 (by kernel_rfl) rfl) (Eng.mk1 hb))))
 intro act5 w5 T
 have h0_5 := (T.rest 0 (by kernel_rfl)).trans h0_4
 have kg_5 := (T.below.block _ lg_3).trans kg_3
 have lg_5 := Nat.lt_of_lt_of_le lg_3 T.below.size
 have Fo_5 := Eng.Reads.below Fo_3 T.below
 have Oo_5 := Eng.own_below Oo_3 T.below
 have h24_5 : act5.eval (.tmp 24) = .bool q24 := T.done 14 24 rfl rfl
 have d5 := T.defers.trans d4
 have s5 := T.size.trans s4
 have bl5 := bl3.trans (T.below.mono bl3.size)
 have XA_5 := Eng.Aft.step XA_3 T.below
 clear T
 refine Eng.tail_nil ?_
 first | show Code.wp Tryz.prog _ _ _ _ | skip
 refine wp_cond_split h24_5 (fun hq => ?_) (fun hq => ?_)
 ·
  have c24 := Bq24.symm.trans hq
  clear hq
  have hc := c24
  refine wp_seq ?_
  refine Eng.regionS (Eng.still [fun u_ => u_ = .bool false]) (fun _ => .plain) 1 0 39 s5 rfl (by kernel_rfl) (Eng.still_stable _) (Or.inr (Eng.still_any _)) ?_ ?_
  ·refine .cons (fun _ => ?_) (.nil)
   ·exact Eng.plain rfl rfl fun a w' H => Eng.vr rfl (Eng.run_assign rfl (rfl : a.eval (.const (.bool false)) = .bool false))
  intro act7 w7 T
  have h6_7 : act7.eval (.tmp 6) = .bool false := T.done 0 6 rfl rfl
  have d7 := T.defers.trans d5
  have bl7 := bl5.trans (T.below.mono bl5.size)
  clear T
  refine Eng.tail_nil ?_
  first | show Code.wp Tryz.prog _ _ _ _ | skip
  refine wp_ret ?_
  repeat (first | refine Eng.in_ret ?_ | refine Eng.then_ret ?_)
  have hn : Evt.pop (pre ++ [t]) k may = none := by rw [Evt.pop_snoc, if_neg]; intro h; obtain ⟨h1, h2⟩ := h; revert hc; simp only [Bq24, Bq23, Bq22, Bq15]; simp [h1, h2]
  exact Eng.ret1 rfl d7 h6_7 ⟨by rw [hn]; rfl, bl7, fun st' h => by rw [hn] at h; cases h⟩
 ·
  have c24 := Bq24.symm.trans hq
  clear hq
  have hc := c24
  refine wp_skip ?_
  first | show Code.wp Tryz.prog _ _ _ _ | skip
  refine wp_seq ?_
  refine Eng.regionD (Eng.still [fun u_ => u_ = .pointer (some ⟨g, 0, none⟩), fun u_ => u_ = .pointer (some ⟨g, 0, none⟩), fun u_ => u_ = .pointer (some ⟨g, 0, none⟩), fun u_ => u_ = .pointer (some ⟨g, 0, none⟩), fun u_ => u_ = o, fun u_ => u_ = .pointer (some ⟨g, 0, none⟩), fun u_ => u_ = .pointer (some ⟨g, 0, none⟩), fun u_ => u_ = .pointer (some ⟨g, 0, none⟩), fun u_ => u_ = o, fun u_ => u_ = .int .i64 (((pre ++ [t]).length : Nat) : Int), fun u_ => u_ = .int .i64 (IntKind.i64.wrap ((((pre ++ [t]).length : Nat) : Int) - 1)), fun u_ => u_ = (Eng.cutVal o 0 pre.length 2), fun u_ => u_ = .pointer (some ⟨g, 0, none⟩), fun u_ => u_ = .pointer (some ⟨g, 0, none⟩)]) (fun _ => .plain) 14 1 39 (by kernel_rfl) s5 rfl (by kernel_rfl) (Eng.still_stable _) (Or.inr (Eng.still_any _)) ?_ ?_
  ·refine .cons (fun _ => ?_) (.cons (fun _ => ?_) (.cons (fun _ => ?_) (.cons (fun _ => ?_) (.cons (fun _ => ?_) (.cons (fun _ => ?_) (.cons (fun _ => ?_) (.cons (fun _ => ?_) (.cons (fun _ => ?_) (.cons (fun _ => ?_) (.cons (fun _ => ?_) (.cons (fun _ => ?_) (.cons (fun _ => ?_) (.cons (fun _ => ?_) (.cons (fun h => absurd h (by decide)) (.nil)))))))))))))))
   ·exact Eng.plain rfl rfl fun a w' H => Eng.vr rfl (Eng.run_move rfl ((H.kept 0 (by kernel_rfl)).trans h0_5))
   ·exact Eng.plain rfl rfl fun a w' H => Eng.vr rfl (Eng.run_move rfl ((H.kept 0 (by kernel_rfl)).trans h0_5))
   ·exact Eng.plain rfl rfl fun a w' H => Eng.vr rfl (Eng.run_nilb rfl (H.dep 1 26 (by kernel_rfl) rfl))
   ·exact Eng.plain rfl rfl fun a w' H => Eng.vr rfl (Eng.run_fieldb rfl Tryz.underlying49 0 (by kernel_rfl) (H.dep 2 27 (by kernel_rfl) rfl))
   ·exact Eng.plain rfl rfl fun a w' H => Eng.vr rfl (Eng.run_loadb rfl (H.dep 3 28 (by kernel_rfl) rfl) ((H.below.block _ lg_5).trans kg_5) rfl (by kernel_rfl))
   ·exact Eng.plain rfl rfl fun a w' H => Eng.vr rfl (Eng.run_move rfl ((H.kept 0 (by kernel_rfl)).trans h0_5))
   ·exact Eng.plain rfl rfl fun a w' H => Eng.vr rfl (Eng.run_nilb rfl (H.dep 5 30 (by kernel_rfl) rfl))
   ·exact Eng.plain rfl rfl fun a w' H => Eng.vr rfl (Eng.run_fieldb rfl Tryz.underlying49 0 (by kernel_rfl) (H.dep 6 31 (by kernel_rfl) rfl))
   ·exact Eng.plain rfl rfl fun a w' H => Eng.vr rfl (Eng.run_loadb rfl (H.dep 7 32 (by kernel_rfl) rfl) ((H.below.block _ lg_5).trans kg_5) rfl (by kernel_rfl))
   ·exact Eng.plain rfl rfl fun a w' H => Eng.vr (v := .int .i64 (((pre ++ [t]).length : Nat) : Int)) rfl (Eng.run_len_sl rfl Tryz.underlying47 (show a.eval (.tmp 33) = o from (H.dep 8 33 (by kernel_rfl) rfl)) (Eng.Reads.below Fo_5 H.below))
   ·refine Eng.plain rfl rfl fun a w' H => ?_
    refine Eng.vr (v := .int .i64 (IntKind.i64.wrap ((((pre ++ [t]).length : Nat) : Int) - 1))) rfl ?_
    have e0 : a.eval (.tmp 34) = .int .i64 (((pre ++ [t]).length : Nat) : Int) := (H.dep 9 34 (by kernel_rfl) rfl)
    have e1 : a.eval (.const (.int .i64 1)) = .int .i64 1 := (rfl : a.eval (.const (.int .i64 1)) = .int .i64 1)
    simp only [execOp, resolve, List.map_toArray, List.map_cons, List.map_nil, e0, e1]
    go_simp
    all_goals first | rfl | (simp; done) | (rw [Bool.eq_iff_iff]; simp; done) | omega | (split <;> first | (simp_all; done) | (split <;> simp_all; done)) | skip
   ·exact Eng.plain rfl rfl fun a w' H => Eng.vr (v := (Eng.cutVal o 0 pre.length 2)) rfl (Eng.run_cutv (l := 0) (h := pre.length) (size := 2) rfl Tryz.underlying47 (by kernel_rfl) (show a.eval (.tmp 29) = o from (H.dep 4 29 (by kernel_rfl) rfl)) (Eng.Reads.below Fo_5 H.below) rfl (congrArg some ((show a.eval (.tmp 35) = .int .i64 (IntKind.i64.wrap ((((pre ++ [t]).length : Nat) : Int) - 1)) from (H.dep 10 35 (by kernel_rfl) rfl)).trans (congrArg (Value.int _) (show IntKind.i64.wrap ((((pre ++ [t]).length : Nat) : Int) - 1) = ((pre.length : Nat) : Int) from by exact Evt.last_ix pre t hm1)))) (Or.inl ⟨rfl, rfl⟩) (Or.inr ⟨_, rfl⟩) (by omega) (by first | omega | (simp; done) | (simp; omega)))
   ·exact Eng.plain rfl rfl fun a w' H => Eng.vr rfl (Eng.run_nilb rfl (H.dep 0 25 (by kernel_rfl) rfl))
   ·exact Eng.plain rfl rfl fun a w' H => Eng.vr rfl (Eng.run_fieldb rfl Tryz.underlying49 0 (by kernel_rfl) (H.dep 12 37 (by kernel_rfl) rfl))
  intro act9 w9 T
  have kg_9 := (T.below.block _ lg_5).trans kg_5
  have lg_9 := Nat.lt_of_lt_of_le lg_5 T.below.size
  have Oo_9 := Eng.own_below Oo_5 T.below
  have h36_9 : act9.eval (.tmp 36) = (Eng.cutVal o 0 pre.length 2) := T.done 11 36 rfl rfl
  have h38_9 : act9.eval (.tmp 38) = .pointer (some ⟨g, 0, none⟩) := T.done 13 38 rfl rfl
  have d9 := T.defers.trans d5
  have s9 := T.size.trans s5
  have bl9 := bl5.trans (T.below.mono bl5.size)
  have XA_9 := Eng.Aft.step XA_5 T.below
  obtain ⟨cv9, hcv9⟩ : ∃ v, v = Eng.cutVal o 0 pre.length 2 := ⟨_, rfl⟩
  have Oc9 := Evt.own_popped Oo_9
  rw [← hcv9] at Oc9
  have hx9 := h36_9.trans hcv9.symm
  have Fc9 := Eng.Reads.of_own Oc9
  clear hcv9
  clear T
  refine Eng.tail_set (n := 0) (v := cv9) (new := #[cv9]) rfl rfl rfl kg_9 rfl ?_ fun w10 S => ?_
  ·have e0 : act9.eval (.tmp 38) = .pointer (some ⟨g, 0, none⟩) := h38_9
   have e1 : act9.eval (.tmp 36) = cv9 := hx9
   obtain ⟨A0_, c0_, ev0_⟩ := Eng.Reads.shape Fc9
   subst ev0_
   have z0 := (Eng.cells kg_9 (0)).trans (rfl)
   have f0 := Eng.unfrozen kg_9 (0)
   simp only [execOp]
   rw [e0, e1]
   go_simp
  have kg_10 := S.new
  have lg_10 := Nat.lt_of_lt_of_eq lg_9 S.size.symm
  have bl10 := S.below bl9 hlo
  have Opc_10 := Eng.own_sets Oc9 S kg_9 rfl
  have XA_10 := Eng.Aft.sets XA_9 S (fun _ => Or.inl rfl)
  clear S
  refine Eng.tail_nil ?_
  first | show Code.wp Tryz.prog _ _ _ _ | skip
  refine wp_seq ?_
  refine Eng.regionS (Eng.still [fun u_ => u_ = .bool true]) (fun _ => .plain) 1 0 39 s9 rfl (by kernel_rfl) (Eng.still_stable _) (Or.inr (Eng.still_any _)) ?_ ?_
  ·refine .cons (fun _ => ?_) (.nil)
   ·exact Eng.plain rfl rfl fun a w' H => Eng.vr rfl (Eng.run_assign rfl (rfl : a.eval (.const (.bool true)) = .bool true))
  intro act11 w11 T
  have kg_11 := (T.below.block _ lg_10).trans kg_10
  have Opc_11 := Eng.own_below Opc_10 T.below
  have h6_11 : act11.eval (.tmp 6) = .bool true := T.done 0 6 rfl rfl
  have d11 := T.defers.trans d9
  have bl11 := bl10.trans (T.below.mono bl10.size)
  have XA_11 := Eng.Aft.step XA_10 T.below
  clear T
  refine Eng.tail_nil ?_
  first | show Code.wp Tryz.prog _ _ _ _ | skip
  refine wp_ret ?_
  repeat (first | refine Eng.in_ret ?_ | refine Eng.then_ret ?_)
  have hn : Evt.pop (pre ++ [t]) k may = some pre := by rw [Evt.pop_snoc, if_pos]; revert hc; simp only [Bq24, Bq23, Bq22, Bq15]; simp
  exact Eng.ret1 rfl d11 h6_11 ⟨by rw [hn]; rfl, bl11, fun st' h => by rw [hn] at h; cases h; exact ⟨_, kg_11, Opc_11, XA_11⟩⟩
theorem Evt.pop69_nil (g : Nat) (o : Value) (k : Int) (w W0 : World) (hB : Below w.heap.size w W0) (hlo : w.heap.size ≤ g) (hk : W0.heap[g]? = some (.cells #[o] 49 (0, 0))) (hO : W0.ownsRow w.heap.size 71 2 o 0 (Evt.opens [])) (hk0 : 0 ≤ k) : Calls Tryz.prog 43 #[.pointer (some ⟨g, 0, none⟩), .int .i64 k, .func (.func 44) #[] #[]] W0 fun e w' => e = .returned (.bool (Evt.pop [] k (fun m => m == 1)).isSome) ∧ Below w.heap.size w w' ∧ ∀ st', Evt.pop [] k (fun m => m == 1) = some st' → ∃ o', Evt.Is w.heap.size W0 g o st' w' o' := Evt.pop_nilW g o k 44 Tryz.f44 (fun m => m == 1) Tryz.func44 (by kernel_rfl) (by kernel_rfl) (fun m w => Evt.may69_calls m w) w W0 hB hlo hk hO hk0
theorem Evt.pop69_top (g : Nat) (o : Value) (k : Int) (pre : List (Int × Int)) (t : Int × Int) (w W0 : World) (hB : Below w.heap.size w W0) (hlo : w.heap.size ≤ g) (hk : W0.heap[g]? = some (.cells #[o] 49 (0, 0))) (hO : W0.ownsRow w.heap.size 71 2 o (pre ++ [t]).length (Evt.opens (pre ++ [t]))) : Calls Tryz.prog 43 #[.pointer (some ⟨g, 0, none⟩), .int .i64 k, .func (.func 44) #[] #[]] W0 fun e w' => e = .returned (.bool (Evt.pop (pre ++ [t]) k (fun m => m == 1)).isSome) ∧ Below w.heap.size w w' ∧ ∀ st', Evt.pop (pre ++ [t]) k (fun m => m == 1) = some st' → ∃ o', Evt.Is w.heap.size W0 g o st' w' o' := Evt.pop_topW g o k pre t 44 Tryz.f44 (fun m => m == 1) Tryz.func44 (by kernel_rfl) (by kernel_rfl) (fun m w => Evt.may69_calls m w) w W0 hB hlo hk hO
theorem Evt.pop70_nil (g : Nat) (o : Value) (k : Int) (w W0 : World) (hB : Below w.heap.size w W0) (hlo : w.heap.size ≤ g) (hk : W0.heap[g]? = some (.cells #[o] 49 (0, 0))) (hO : W0.ownsRow w.heap.size 71 2 o 0 (Evt.opens [])) (hk0 : 0 ≤ k) : Calls Tryz.prog 43 #[.pointer (some ⟨g, 0, none⟩), .int .i64 k, .func (.func 45) #[] #[]] W0 fun e w' => e = .returned (.bool (Evt.pop [] k (fun _ => true)).isSome) ∧ Below w.heap.size w w' ∧ ∀ st', Evt.pop [] k (fun _ => true) = some st' → ∃ o', Evt.Is w.heap.size W0 g o st' w' o' := Evt.pop_nilW g o k 45 Tryz.f45 (fun _ => true) Tryz.func45 (by kernel_rfl) (by kernel_rfl) (fun m w => Evt.may70_calls m w) w W0 hB hlo hk hO hk0
theorem Evt.pop70_top (g : Nat) (o : Value) (k : Int) (pre : List (Int × Int)) (t : Int × Int) (w W0 : World) (hB : Below w.heap.size w W0) (hlo : w.heap.size ≤ g) (hk : W0.heap[g]? = some (.cells #[o] 49 (0, 0))) (hO : W0.ownsRow w.heap.size 71 2 o (pre ++ [t]).length (Evt.opens (pre ++ [t]))) : Calls Tryz.prog 43 #[.pointer (some ⟨g, 0, none⟩), .int .i64 k, .func (.func 45) #[] #[]] W0 fun e w' => e = .returned (.bool (Evt.pop (pre ++ [t]) k (fun _ => true)).isSome) ∧ Below w.heap.size w w' ∧ ∀ st', Evt.pop (pre ++ [t]) k (fun _ => true) = some st' → ∃ o', Evt.Is w.heap.size W0 g o st' w' o' := Evt.pop_topW g o k pre t 45 Tryz.f45 (fun _ => true) Tryz.func45 (by kernel_rfl) (by kernel_rfl) (fun m w => Evt.may70_calls m w) w W0 hB hlo hk hO
theorem Evt.pop71_nil (g : Nat) (o : Value) (k : Int) (w W0 : World) (hB : Below w.heap.size w W0) (hlo : w.heap.size ≤ g) (hk : W0.heap[g]? = some (.cells #[o] 49 (0, 0))) (hO : W0.ownsRow w.heap.size 71 2 o 0 (Evt.opens [])) (hk0 : 0 ≤ k) : Calls Tryz.prog 43 #[.pointer (some ⟨g, 0, none⟩), .int .i64 k, .func (.func 46) #[] #[]] W0 fun e w' => e = .returned (.bool (Evt.pop [] k Evt.even).isSome) ∧ Below w.heap.size w w' ∧ ∀ st', Evt.pop [] k Evt.even = some st' → ∃ o', Evt.Is w.heap.size W0 g o st' w' o' := Evt.pop_nilW g o k 46 Tryz.f46 Evt.even Tryz.func46 (by kernel_rfl) (by kernel_rfl) (fun m w => Evt.may71_calls m w) w W0 hB hlo hk hO hk0
theorem Evt.pop71_top (g : Nat) (o : Value) (k : Int) (pre : List (Int × Int)) (t : Int × Int) (w W0 : World) (hB : Below w.heap.size w W0) (hlo : w.heap.size ≤ g) (hk : W0.heap[g]? = some (.cells #[o] 49 (0, 0))) (hO : W0.ownsRow w.heap.size 71 2 o (pre ++ [t]).length (Evt.opens (pre ++ [t]))) : Calls Tryz.prog 43 #[.pointer (some ⟨g, 0, none⟩), .int .i64 k, .func (.func 46) #[] #[]] W0 fun e w' => e = .returned (.bool (Evt.pop (pre ++ [t]) k Evt.even).isSome) ∧ Below w.heap.size w w' ∧ ∀ st', Evt.pop (pre ++ [t]) k Evt.even = some st' → ∃ o', Evt.Is w.heap.size W0 g o st' w' o' := Evt.pop_topW g o k pre t 46 Tryz.f46 Evt.even Tryz.func46 (by kernel_rfl) (by kernel_rfl) (fun m w => Evt.may71_calls m w) w W0 hB hlo hk hO
end Go.Proofs.YtgnmjaacnmkgnaaGreatDoor.X
end
section
namespace Go.Proofs.YtgnmjaacnmkgnaaGreatDoor.X
open Go.RowKit Go.Shelf Go.Proofs Go.Proofs.YtgnmjaacnmkgnaaGreatDoorW.PrintWords Go.Proofs.YtgnmjaacnmkgnaaGreatDoorW.PrintLast Go.Proofs.YtgnmjaacnmkgnaaGreatDoorW.PrintMore
set_option linter.unusedVariables false
set_option linter.unusedSimpArgs false
attribute [local go_sem] max2_int min2_int max_two min_two
set_option maxHeartbeats 4000000 in
set_option maxRecDepth 100000 in
theorem Evt.push_calls (g : Nat) (o : Value) (st : List (Int × Int)) (k : Int) (w W0 : World) (hB : Below w.heap.size w W0) (hlo : w.heap.size ≤ g) (hk : W0.heap[g]? = some (.cells #[o] 49 (0, 0))) (hO : W0.ownsRow w.heap.size 71 2 o st.length (Evt.opens st)) (hst : st.length ≤ 100000) : Calls Tryz.prog 42 #[.pointer (some ⟨g, 0, none⟩), .int .i64 k] W0 fun e w' => ∃ v o', e = .returned v ∧ Evt.Is w.heap.size W0 g o (st ++ [(k, 0)]) w' o' := by
 refine Eng.enter Tryz.func42 rfl fun act0 d0 s0 v0 => ?_
 have s0 : act0.tmps.size = 15 := s0
 have h0_0 : act0.eval (.tmp 0) = .pointer (some ⟨g, 0, none⟩) := v0 0 (by simp)
 have h1_0 : act0.eval (.tmp 1) = .int .i64 k := v0 1 (by simp)
 clear v0
 refine Eng.regionT (n := 12) rfl ?_
 refine Eng.tail_val rfl rfl rfl (Eng.run_move rfl h0_0) s0 rfl fun act1 d1 s1 hv hr => ?_
 have h0_1 := (hr 0 rfl).trans h0_0
 have h1_1 := (hr 1 rfl).trans h1_0
 have h4_1 : act1.eval (.tmp 4) = .pointer (some ⟨g, 0, none⟩) := hv
 have d1 := d1.trans d0
 clear hv hr
 refine Eng.tail_val rfl rfl rfl (Eng.run_move rfl h0_1) s1 rfl fun act2 d2 s2 hv hr => ?_
 have h1_2 := (hr 1 rfl).trans h1_1
 have h4_2 := (hr 4 rfl).trans h4_1
 have h5_2 : act2.eval (.tmp 5) = .pointer (some ⟨g, 0, none⟩) := hv
 have d2 := d2.trans d1
 clear hv hr
 refine Eng.tail_val (w1 := W0) (v := .pointer (some ⟨g, 0, none⟩)) rfl rfl rfl ?_ s2 rfl ?_
 ·exact Eng.run_nilb rfl h5_2
 intro act3 d3 s3 hv hr
 have h1_3 := (hr 1 rfl).trans h1_2
 have h4_3 := (hr 4 rfl).trans h4_2
 have h6_3 : act3.eval (.tmp 6) = .pointer (some ⟨g, 0, none⟩) := hv
 have d3 := d3.trans d2
 clear hv hr
 refine Eng.tail_val (w1 := W0) (v := .pointer (some ⟨g, 0, none⟩)) rfl rfl rfl ?_ s3 rfl ?_
 ·exact Eng.run_fieldb rfl Tryz.underlying49 0 (by kernel_rfl) h6_3
 intro act4 d4 s4 hv hr
 have h1_4 := (hr 1 rfl).trans h1_3
 have h4_4 := (hr 4 rfl).trans h4_3
 have h7_4 : act4.eval (.tmp 7) = .pointer (some ⟨g, 0, none⟩) := hv
 have d4 := d4.trans d3
 clear hv hr
 refine Eng.tail_val (w1 := W0) (v := o) rfl rfl rfl ?_ s4 rfl ?_
 ·exact Eng.run_loadb rfl h7_4 (((Below.refl _ _).block _ (Array.getElem?_eq_some_iff.1 hk).1).trans hk) rfl (by kernel_rfl)
 intro act5 d5 s5 hv hr
 have h1_5 := (hr 1 rfl).trans h1_4
 have h4_5 := (hr 4 rfl).trans h4_4
 have h8_5 : act5.eval (.tmp 8) = o := hv
 have d5 := d5.trans d4
 clear hv hr
 refine Eng.tail_val rfl rfl rfl (Eng.run_move rfl h1_5) s5 rfl fun act6 d6 s6 hv hr => ?_
 have h4_6 := (hr 4 rfl).trans h4_5
 have h8_6 := (hr 8 rfl).trans h8_5
 have h9_6 : act6.eval (.tmp 9) = .int .i64 k := hv
 have d6 := d6.trans d5
 clear hv hr
 refine Eng.tail_val (w1 := W0) (v := .agg #[.int .i64 k, .int .i64 0]) rfl rfl rfl ?_ s6 rfl ?_
 ·have e0 : act6.eval (.tmp 9) = .int .i64 k := h9_6
  simp only [execOp, resolve, List.map_toArray, List.map_cons, List.map_nil, e0]
  go_simp
  all_goals first | rfl | (simp; done) | (rw [Bool.eq_iff_iff]; simp; done) | omega | skip
 intro act7 d7 s7 hv hr
 have h4_7 := (hr 4 rfl).trans h4_6
 have h8_7 := (hr 8 rfl).trans h8_6
 have h10_7 : act7.eval (.tmp 10) = .agg #[.int .i64 k, .int .i64 0] := hv
 have d7 := d7.trans d6
 clear hv hr
 refine Eng.tail_ex rfl rfl rfl (Eng.run_build1I (size := 2) (z := .agg #[.int .i64 0, .int .i64 0]) [.int .i64 k, .int .i64 0] rfl Tryz.underlying47 (by kernel_rfl) rfl rfl rfl (by kernel_rfl) (show act7.eval (.tmp 10) = .agg #[.int .i64 k, .int .i64 0] from h10_7)) s7 rfl fun v_8 w8 act8 R d8 s8 hv hr => ?_
 obtain ⟨F_8, b_8⟩ := R
 have h4_8 := (hr 4 rfl).trans h4_7
 have h8_8 := (hr 8 rfl).trans h8_7
 have h11_8 : act8.eval (.tmp 11) = v_8 := hv
 have d8 := d8.trans d7
 clear hv hr
 have kg_8 := (b_8.block _ (Array.getElem?_eq_some_iff.1 hk).1).trans hk
 have lg_8 := Nat.lt_of_lt_of_le (Array.getElem?_eq_some_iff.1 hk).1 b_8.size
 have Oo_8 := Eng.own_below hO b_8
 have XA_8 := Eng.Aft.step (Eng.Aft.refl (Eng.Nst g o) W0) b_8
 have bl8 := hB.trans (b_8.mono hB.size)
 refine Eng.tail_ex rfl rfl rfl (Eng.run_appendI (z := .agg #[.int .i64 0, .int .i64 0]) rfl Tryz.underlying47 (by kernel_rfl) rfl rfl h8_8 Oo_8 h11_8 F_8 (by intro u hu; simp only [List.mem_cons, List.not_mem_nil, or_false] at hu; rcases hu with rfl | rfl <;> rfl) (by omega) bl8.size) s8 rfl fun v_9 w9 act9 R d9 s9 hv hr => ?_
 obtain ⟨O_9, _, b_9, G_9, EO_9⟩ := R
 have h4_9 := (hr 4 rfl).trans h4_8
 have h12_9 : act9.eval (.tmp 12) = v_9 := hv
 have d9 := d9.trans d8
 clear hv hr
 have kg_9 := (G_9.block _ lg_8 (Eng.own_ne Oo_8 kg_8 rfl)).trans kg_8
 have XA_9 := Eng.Aft.grown XA_8 G_9 (fun b e _ => Or.inr e)
 have Oa9 : w9.ownsRow w.heap.size 71 2 v_9 (st ++ [(k, 0)]).length (Evt.opens (st ++ [(k, 0)])) := Evt.own_snoc O_9
 have Fa9 := Eng.Reads.of_own Oa9
 refine Eng.tail_val (w1 := w9) (v := .pointer (some ⟨g, 0, none⟩)) rfl rfl rfl ?_ s9 rfl ?_
 ·exact Eng.run_nilb rfl h4_9
 intro act10 d10 s10 hv hr
 have h12_10 := (hr 12 rfl).trans h12_9
 have h13_10 : act10.eval (.tmp 13) = .pointer (some ⟨g, 0, none⟩) := hv
 have d10 := d10.trans d9
 clear hv hr
 refine Eng.tail_val (w1 := w9) (v := .pointer (some ⟨g, 0, none⟩)) rfl rfl rfl ?_ s10 rfl ?_
 ·exact Eng.run_fieldb rfl Tryz.underlying49 0 (by kernel_rfl) h13_10
 intro act11 d11 s11 hv hr
 have h12_11 := (hr 12 rfl).trans h12_10
 have h14_11 : act11.eval (.tmp 14) = .pointer (some ⟨g, 0, none⟩) := hv
 have d11 := d11.trans d10
 clear hv hr
 refine Eng.tail_set (n := 0) (v := v_9) (new := #[v_9]) rfl rfl rfl kg_9 rfl ?_ fun w12 S => ?_
 ·have e0 : act11.eval (.tmp 14) = .pointer (some ⟨g, 0, none⟩) := h14_11
  have e1 : act11.eval (.tmp 12) = v_9 := h12_11
  obtain ⟨A0_, c0_, ev0_⟩ := Eng.Reads.shape Fa9
  subst ev0_
  have z0 := (Eng.cells kg_9 (0)).trans (rfl)
  have f0 := Eng.unfrozen kg_9 (0)
  simp only [execOp]
  rw [e0, e1]
  go_simp
 have kg_12 := S.new
 have Oa9_12 := Eng.own_sets Oa9 S kg_9 rfl
 have XA_12 := Eng.Aft.sets XA_9 S (fun _ => Or.inl rfl)
 clear S
 refine Eng.tail_nil ?_
 exact Eng.ret0 rfl d11 (fun v => ⟨v, v_9, rfl, kg_12, Oa9_12, XA_12⟩)
end Go.Proofs.YtgnmjaacnmkgnaaGreatDoor.X
end
