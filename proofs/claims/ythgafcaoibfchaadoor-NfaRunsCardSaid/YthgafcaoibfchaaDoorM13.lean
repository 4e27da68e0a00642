/- Words and walks that the row of NfaRuns needs: printed by programs, and plain laws. -/
import Derived.Test.YthgafcaoibfchaaDoorM11
import Derived.Test.YthgafcaoibfchaaDoorM12
import Derived.Test.YthgafcaoibfchaaDoorM2
import Derived.Test.YthgafcaoibfchaaDoorM3
namespace Go.Proofs.YthgafcaoibfchaaDoor.Rrn
end Go.Proofs.YthgafcaoibfchaaDoor.Rrn
namespace Go.Proofs.YthgafcaoibfchaaDoorW.PrintWords
end Go.Proofs.YthgafcaoibfchaaDoorW.PrintWords
namespace Go.Proofs.YthgafcaoibfchaaDoorW.PrintLast
end Go.Proofs.YthgafcaoibfchaaDoorW.PrintLast
namespace Go.Proofs.YthgafcaoibfchaaDoorW.PrintMore
end Go.Proofs.YthgafcaoibfchaaDoorW.PrintMore
section
namespace Go.Proofs.YthgafcaoibfchaaDoor.X
open Go Go.RowKit Go.Shelf Go.Proofs Go.Proofs.YthgafcaoibfchaaDoor.Rrn Go.Proofs.YthgafcaoibfchaaDoorW.PrintWords Go.Proofs.YthgafcaoibfchaaDoorW.PrintLast Go.Proofs.YthgafcaoibfchaaDoorW.PrintMore
set_option linter.unusedVariables false
set_option linter.unusedSimpArgs false
namespace Rvl
def il (l : List UInt8) : List Int := l.map fun b => (b.toNat : Int)
theorem il_bts (l : List UInt8) : Bts (il l) := by
  intro x hx
  obtain ⟨b, _, rfl⟩ := List.mem_map.1 hx
  have := b.toNat_lt
  exact ⟨by omega, by omega⟩
theorem il_len (l : List UInt8) : (il l).length = l.length := by simp [il]
theorem il_drop (l : List UInt8) (n : Nat) : (il l).drop n = il (l.drop n) := by simp [il]
theorem rd_il (l : List UInt8) (i : Nat) : rd (il l) (i : Int) = ((l.getD i 0).toNat : Int) := by
  unfold rd il
  rw [Int.toNat_natCast, List.getD_eq_getElem?_getD, List.getElem?_map, List.getD_eq_getElem?_getD]
  cases l[i]? <;> rfl
theorem get_l (l : List UInt8) (i : Nat) : ((⟨l.toArray⟩ : ByteArray).get! i) = l.getD i 0 := by
  show (l.toArray)[i]! = _
  rw [List.getElem!_toArray, List.getD_eq_getElem?_getD]
  rw [List.getElem!_eq_getElem?_getD]; rfl
theorem dec_l (l : List UInt8) : Lib.decodeL l = match dec1 (il l) with | some p => (p.1.toNat, p.2) | none => (65533, 1) := by
  unfold Lib.decodeL dec1
  rw [Lib.decode_at]
  simp only [get_l, Nat.zero_add]
  have hs : (⟨l.toArray⟩ : ByteArray).size - 0 = l.length := by show l.toArray.size - 0 = _; simp
  rw [hs, decN _ _ _ _ _ (l.getD 0 0).toNat_lt, il_len]
  have e := rd_il l
  have e0 := e 0; have e1 := e 1; have e2 := e 2; have e3 := e 3
  simp only [Int.natCast_zero, Int.natCast_one] at e0 e1
  rw [show ((2 : Nat) : Int) = 2 from rfl] at e2
  rw [show ((3 : Nat) : Int) = 3 from rfl] at e3
  rw [e0, e1, e2, e3]
  generalize decI _ _ _ _ _ = o
  cases o <;> rfl
theorem valid_plain : ∀ (n : Nat) (l : List UInt8), l.length ≤ n → Lib.validD l = true → ∃ q, plainL n (il l) = some q
  | n, [], _, _ => by cases n <;> exact ⟨[], rfl⟩
  | 0, b :: t, h, _ => by simp at h
  | n + 1, b :: t, h, hv => by
    rw [Lib.validD_step _ (by simp)] at hv
    have hd := dec_l (b :: t)
    cases hq : dec1 (il (b :: t)) with
    | none =>
      rw [hq] at hd
      rw [hd] at hv
      simp at hv
    | some p =>
      rw [hq] at hd
      simp only at hd
      have hle := dec1_le (il_bts (b :: t)) (by simp [il]) hq
      rw [il_len] at hle
      have hv2 : Lib.validD ((b :: t).drop p.2) = true := by
        rw [hd] at hv
        split at hv
        · cases hv
        · exact hv
      obtain ⟨q, h2⟩ := valid_plain n ((b :: t).drop p.2) (by rw [List.length_drop]; simp at h ⊢; omega) hv2
      refine ⟨p.1 :: q, ?_⟩
      have e : il (b :: t) = (b.toNat : Int) :: il t := rfl
      rw [e, plainL, ← e, hq]
      simp only [Option.bind_some]
      rw [il_drop, h2]; rfl
theorem detect_mark (c : List Int) : detect ([239, 187, 191] ++ c) = (0, 3) := by
  have h0 : rd ([239, 187, 191] ++ c) 0 = 239 := rfl
  unfold detect detect1 detect2 detect3
  simp [pre, nz, rd]
theorem mark_bts {c : List Int} (h : Bts c) : Bts ([239, 187, 191] ++ c) := by
  intro x hx
  rcases List.mem_append.1 hx with hx | hx
  · simp at hx; rcases hx with rfl | rfl | rfl <;> decide
  · exact h x hx
theorem detect_ev (c : List Int) (h : Bts c) : Rrn.Ev (fun k => Z.grilleref01_Detect.f k ([239, 187, 191] ++ c)) (0, 3) := (rdetect_eq _ (mark_bts h)).eq (detect_mark c)
theorem runes_ev (c q : List Int) (hb : Bts c) (hl : c.length ≤ 4000) (hq : plainL c.length c = some q) : Rrn.Ev (fun k => Z.grilleref01_Runes.f k ([239, 187, 191] ++ c)) (q, 0) := by
  have hlen := plainL_length _ _ _ hb hq
  have hok := plainL_ok _ _ _ hb hq
  simp only [Z.grilleref01_Runes.f]
  refine Rrn.Ev.bind (detect_ev c hb) (Rrn.Ev.pos (by decide) (Rrn.Ev.pos (by simp; omega) (Rrn.Ev.pos rfl ?_)))
  have hd : ([239, 187, 191] ++ c).drop (3 : Int).toNat = c := rfl
  simp only [hd]
  refine Rrn.Ev.bind (rplain_eq c hb (by omega)) ?_
  rw [hq]
  simp only [res, List.nil_append]
  refine (rrunes_j1 q true (by omega)).eq ?_
  show (if ∀ r ∈ q, ok r then (q, 0) else ([], 6)) = _
  rw [if_pos hok]
theorem chars_ok (s : ByteArray) (hs : s.size ≤ 4000) (hv : Lib.validD s.data.toList = true) : ∃ k l, Z.grilleref02_Chars.f k s = some (l, true) ∧ Z.grilleref01_Detect.f k ([239, 187, 191] ++ bytesOf s) = some (0, 3) := by
  have hb : bytesOf s = il s.data.toList := rfl
  have hlen : (bytesOf s).length = s.size := bytesOf_length s
  have hbts : Bts (bytesOf s) := by rw [hb]; exact il_bts _
  obtain ⟨q, hq⟩ := valid_plain (bytesOf s).length s.data.toList (by rw [hb, il_len]; exact Nat.le_refl _) hv
  rw [← hb] at hq
  obtain ⟨K, hK⟩ := runes_ev (bytesOf s) q hbts (by omega) hq
  obtain ⟨K2, hK2⟩ := detect_ev (bytesOf s) hbts
  refine ⟨max K K2, q, ?_, hK2 _ (Nat.le_max_right _ _)⟩
  unfold Z.grilleref02_Chars.f
  simp only [Option.bind_some]
  have hK' : Z.grilleref01_Runes.f (max K K2) ([239, 187, 191] ++ bytesOf s) = some (q, 0) := hK _ (Nat.le_max_left _ _)
  rw [if_pos (by simp; omega), hK']
  rfl
theorem chars_calls (s : ByteArray) (w : World) (hs : s.size ≤ 4000) (hv : Lib.validD s.data.toList = true) : Calls Tryd.prog 112 #[.string s] w fun e w' => ∃ v, e = .returned (.tuple #[v, .bool true]) ∧ Below w.heap.size w w' := by
  obtain ⟨k, l, h, hD⟩ := chars_ok s hs hv
  refine (Z.grilleref02_Chars.callsM k s l true w h hD).mono ?_
  rintro e w' ⟨v, rfl, _, hb⟩
  exact ⟨v, rfl, hb⟩
theorem fine {k : Int} {s : ByteArray} (h : Pth.right1 k s = true) : Lib.validD s.data.toList = true ∧ s.size ≤ 100 ∧ (((((decide (k < 0) || decide (k > 2)) || !true) || decide (((s.size : Nat) : Int) > 100)) || (!(k == 0) && !(s.toList.isEmpty))) = false) := by
  unfold Pth.right1 at h
  have he : s.toList.isEmpty = true → s.data.toList = [] ∧ s.size = 0 := by
    intro e
    rw [ByteArray.toList_eq, List.isEmpty_iff] at e
    refine ⟨e, ?_⟩
    have : s.data.toList.length = 0 := by rw [e]; rfl
    simpa using this
  by_cases h0 : k = 0
  · subst h0
    rw [if_pos (by rfl)] at h
    simp only [Bool.and_eq_true, decide_eq_true_eq] at h
    refine ⟨h.1, by omega, ?_⟩
    have : decide (((s.size : Nat) : Int) > 100) = false := decide_eq_false (by omega)
    rw [this]; simp
  · rw [if_neg (by simpa using h0)] at h
    have hk : k = 1 ∨ k = 2 := by
      by_cases h1 : k = 1
      · exact .inl h1
      · rw [if_neg (by simpa using h1)] at h
        by_cases h2 : k = 2
        · exact .inr h2
        · rw [if_neg (by simpa using h2)] at h; cases h
    have hs : s.toList.isEmpty = true := by
      rcases hk with rfl | rfl
      · rw [if_pos (by rfl)] at h; exact h
      · rw [if_neg (by decide), if_pos (by rfl)] at h; exact h
    obtain ⟨e1, e2⟩ := he hs
    refine ⟨by rw [e1]; rfl, by omega, ?_⟩
    rw [e2, hs]
    rcases hk with rfl | rfl <;> rfl
end Rvl
end Go.Proofs.YthgafcaoibfchaaDoor.X
end
section
namespace Go.Proofs.YthgafcaoibfchaaDoor.X
open Go Go.RowKit Go.Shelf Go.Proofs
set_option linter.unusedVariables false
namespace Nfa
theorem light_len {ps : List (List Pth.Part)} (h : Pth.heavies ps = false) : ps.length ≤ 40 := by
  unfold Pth.heavies at h
  simp only [Bool.or_eq_false_iff, decide_eq_false_iff_not] at h
  omega
theorem code_zero {ps : List (List Pth.Part)} (h : code ps = 0) : (∀ i, i < ps.length → Pth.rightB (ps.getD i []) = true) ∧ many ps ps.length ≤ 512 := by
  unfold code at h
  by_cases h1 : (ps.any fun p => !Pth.rightB p) = true
  · rw [if_pos h1] at h; omega
  · rw [if_neg h1] at h
    by_cases h2 : 512 < many ps ps.length
    · rw [if_pos h2] at h; omega
    · refine ⟨fun i hi => ?_, by omega⟩
      cases hr : Pth.rightB (ps.getD i []) with
      | true => rfl
      | false =>
        exfalso
        apply h1
        refine List.any_eq_true.2 ⟨ps[i], List.getElem_mem hi, ?_⟩
        rw [List.getD_eq_getElem?_getD, List.getElem?_eq_getElem hi] at hr
        simpa using hr
theorem right_len {p : List Pth.Part} (h : Pth.rightB p = true) : p.length ≤ 20 := by
  unfold Pth.rightB at h
  simp only [Bool.and_eq_true, decide_eq_true_eq] at h
  omega
theorem many_off {ps : List (List Pth.Part)} (h : ∀ i, i < ps.length → (ps.getD i []).length ≤ 20) (hl : ps.length ≤ 1000) : ∀ k, k ≤ ps.length → many ps k = (off ps k : Int) ∧ off ps k ≤ 21 * k
  | 0, _ => ⟨rfl, Nat.le_refl _⟩
  | k + 1, hk => by
    obtain ⟨h1, h2⟩ := many_off h hl k (by omega)
    have h3 := h k (by omega)
    have e : off ps (k + 1) = off ps k + ((ps.getD k []).length + 1) := rfl
    refine ⟨?_, by rw [e]; omega⟩
    unfold many
    rw [h1, e]
    have e1 : (((ps.getD k []).length : Nat) : Int) + 1 = (((ps.getD k []).length + 1 : Nat) : Int) := by omega
    rw [e1, wrap_nat' (by omega)]
    have e2 : ((off ps k : Nat) : Int) + (((ps.getD k []).length + 1 : Nat) : Int) = ((off ps k + ((ps.getD k []).length + 1) : Nat) : Int) := by omega
    rw [e2, wrap_nat' (by omega)]
theorem ok_of {ps : List (List Pth.Part)} (hcode : code ps = 0) (hl : ps.length ≤ 1000) : Ok ps := by
  obtain ⟨hr, hm⟩ := code_zero hcode
  have h := many_off (fun i hi => right_len (hr i hi)) hl
  refine ⟨fun k hk => (h k hk).1, ?_⟩
  have := (h ps.length (Nat.le_refl _)).1
  omega
end Nfa
end Go.Proofs.YthgafcaoibfchaaDoor.X
end
section
namespace Go.Proofs.YthgafcaoibfchaaDoor.X
open Go Go.RowKit Go.Shelf Go.Proofs
set_option linter.unusedVariables false
set_option linter.unusedSimpArgs false
namespace Nfa
theorem right_at {l : List Pth.Part} (h : Pth.rightB l = true) {k : Nat} (hk : k < l.length) : Pth.right1 (l.getD k default).1 (l.getD k default).2 = true := by
  unfold Pth.rightB at h
  rw [Bool.and_eq_true, List.all_eq_true] at h
  have e : l.getD k default = l[k] := by rw [List.getD_eq_getElem?_getD, List.getElem?_eq_getElem hk]; rfl
  rw [e]
  exact h.2 _ (List.getElem_mem hk)
theorem take_snoc (l : List Value) {k : Nat} (h : k < l.length) : l.take (k + 1) = l.take k ++ [l.getD k undef] := by
  rw [List.take_add_one, List.getD_eq_getElem?_getD, List.getElem?_eq_getElem h]; rfl
theorem many_r {ps : List (List Pth.Part)} (hok : Ok ps) {k : Nat} (hk : k < ps.length) : IntKind.i64.wrap (IntKind.i64.wrap (many ps k + ((ps.getD k []).length : Int)) + 1) = many ps (k + 1) := by
  have h1 := hok.m k (by omega)
  have h2 := hok.m (k + 1) (by omega)
  have h3 := off_mono ps (show k + 1 ≤ ps.length by omega)
  have h4 := hok.le
  have h5 : off ps (k + 1) = off ps k + ((ps.getD k []).length + 1) := rfl
  rw [h2, h1, Eng.i64_id (x := (off ps k : Int) + ((ps.getD k []).length : Int)) (by omega) (by omega), Eng.i64_id (by omega) (by omega)]
  omega
end Nfa
end Go.Proofs.YthgafcaoibfchaaDoor.X
end
section
namespace Go.Proofs.Eng
open Go Go.RowKit
set_option linter.unusedSimpArgs false
set_option linter.unusedVariables false
variable {P : Program} {o : Oper} {a : Act} {w : World}
theorem run_field_el {T : TypeId} {x : Operand} {f j : Nat} {fs : Array Field} {v : Value} {n size : Nat} {xs : List Value} (hop : o.op = .fieldAddr T x f) (hu : P.underlying T = some (.struct fs)) (k : Nat) (hf : (fs[f]?).map (fun fd => (fd.offset, ((P.info? fd.type).map (·.size)).isSome && decide ((P.info? fd.type).map (·.size) ≠ some 0))) = some (k, true)) (h : a.eval x = elemPtr v j) (F : Reads w v n size xs) (hj : j < n * size) :
    (execOp a.eval o).run P w = .ok (.value (elemPtr v (j + k))) w := by
  obtain ⟨hl, A, c, rfl, hc, hm, hx⟩ := F
  obtain ⟨ad, rfl, _⟩ := hx j _ (List.getElem?_eq_getElem (by omega))
  cases hq : fs[f]? with
  | none => simp [hq] at hf
  | some fd =>
    cases hi : P.info? fd.type with
    | none => simp [hq, hi] at hf
    | some i =>
      simp [hq, hi] at hf
      obtain ⟨h1, h2⟩ := hf
      unfold execOp; rw [hop]
      simp only [h, elemPtr, Instr.fieldAt, Instr.sureAddr, Sem.run_bind, Sem.run_pure, Result.andThen_ok, run_underlying hu]
      simp [Sem.run_bind, Sem.run_pure, hq, fieldPlace, sizeOf, typeInfo, hi, h2, ← h1, add_add]
end Go.Proofs.Eng
end
section
namespace Go.Proofs.YthgafcaoibfchaaDoor.X
open Go Go.RowKit Go.Shelf Go.Proofs
set_option linter.unusedVariables false
set_option linter.unusedSimpArgs false
theorem Pth.cell0 {l : List Pth.Part} {j : Nat} (h : j < l.length) : (Pth.cellsP l)[j * 2 + 0]? = some (.int .i64 (l.getD j default).1) := by
  have := Pth.cells_at l j h
  rw [← List.getElem?_drop, ← List.getElem?_take_of_lt (show 0 < 2 by omega), this]; rfl
theorem Pth.cell1 {l : List Pth.Part} {j : Nat} (h : j < l.length) : (Pth.cellsP l)[j * 2 + 1]? = some (.string (l.getD j default).2) := by
  have := Pth.cells_at l j h
  rw [← List.getElem?_drop, ← List.getElem?_take_of_lt (show 1 < 2 by omega), this]; rfl
namespace Nfa
def deepq (q : Pth.Part) : Bool := q.1 == 2
def fitq (q : Pth.Part) (x : ByteArray) : Bool := q.1 == 1 || q.2.toList == x.toList
def mat : List Pth.Part → List ByteArray → Bool
  | [], l => l.isEmpty
  | q :: p, [] => deepq q && mat p []
  | q :: p, x :: l => if deepq q then mat p (x :: l) || mat (q :: p) l else fitq q x && mat p l
termination_by p l => p.length + l.length
theorem mat_nil (l : List ByteArray) : mat [] l = l.isEmpty := by rw [mat]
structure Inv (p : List Pth.Part) (l : List ByteArray) (i t D r : Nat) : Prop where
  hi : i ≤ p.length
  ht : t ≤ l.length
  hD : D ≤ i
  hr : r ≤ t
  hseg : 0 < D → i + r = D + t ∧ ∀ k, D ≤ k → k < i → deep p k = false
  hm : mat p l = true ↔ (mat (p.drop i) (l.drop t) = true ∨ (0 < D ∧ ∃ j, r < j ∧ j ≤ l.length ∧ mat (p.drop D) (l.drop j) = true))
theorem Inv.done {p : List Pth.Part} {l : List ByteArray} {i t D r : Nat} (h : Inv p l i t D r) (hi : p.length ≤ i) (ht : l.length ≤ t) : mat p l = true :=
  h.hm.2 (.inl (by rw [List.drop_eq_nil_of_le hi, List.drop_eq_nil_of_le ht, mat_nil]; rfl))
end Nfa
end Go.Proofs.YthgafcaoibfchaaDoor.X
end
section
namespace Go.Proofs.YthgafcaoibfchaaDoor.X
open Go.RowKit Go.Shelf Go.Proofs Go.Proofs.YthgafcaoibfchaaDoorW.PrintWords Go.Proofs.YthgafcaoibfchaaDoorW.PrintLast Go.Proofs.YthgafcaoibfchaaDoorW.PrintMore
set_option linter.unusedVariables false
set_option linter.unusedSimpArgs false
set_option maxHeartbeats 4000000 in
set_option maxRecDepth 100000 in
theorem Nfa.rright_calls (v : Value) (l : List Pth.Part) (w : World) (hx : Eng.Reads w v l.length 2 (Pth.cellsP l)) (hr : Pth.rightB l = true) : Calls Tryd.prog 81 #[v] w fun e w' => e = .returned (.bool true) ∧ Below w.heap.size w w' := by
 have hm := Eng.Reads.len_le hx
 have hu157 := Tryd.underlying157
 refine Eng.enter Tryd.func81 rfl fun act0 d0 s0 v0 => ?_
 have s0 : act0.tmps.size = 67 := s0
 have h0_0 : act0.eval (.tmp 0) = v := v0 0 (by simp)
 clear v0
 have bl0 : Below w.heap.size w w := Below.refl _ _
 refine wp_seq ?_
 refine Eng.regionS (Eng.still [fun u_ => u_ = .bool false]) (fun _ => .plain) 1 0 67 s0 rfl (by kernel_rfl) (Eng.still_stable _) (Or.inr (Eng.still_any _)) ?_ ?_
 ·refine Eng.Steps.cons (fun _ => ?_) (Eng.Steps.nil)
  ·refine Eng.plain rfl rfl fun a w' H => ?_
   exact Eng.val (w1 := w') (v := .bool false) (Eng.run_assign rfl (rfl : a.eval (.const (.bool false)) = .bool false)) (Below.refl _ _) rfl
 intro act1 w1 T
 have h0_1 := (T.rest 0 (by kernel_rfl)).trans h0_0
 have d1 := T.defers.trans d0
 have s1 := T.size.trans s0
 have bl1 := bl0.trans (T.below.mono bl0.size)
 clear T
 refine Eng.tail_nil ?_
 refine wp_seq ?_
 refine wp_seq ?_
 refine Eng.regionS (Eng.still [fun u_ => u_ = .int .i64 0]) (fun _ => .plain) 1 0 67 s1 rfl (by kernel_rfl) (Eng.still_stable _) (Or.inr (Eng.still_any _)) ?_ ?_
 ·refine Eng.Steps.cons (fun _ => ?_) (Eng.Steps.nil)
  ·refine Eng.plain rfl rfl fun a w' H => ?_
   exact Eng.val (w1 := w') (v := .int .i64 0) (Eng.run_assign rfl (rfl : a.eval (.const (.int .i64 0)) = .int .i64 0)) (Below.refl _ _) rfl
 intro act2 w2 T
 have h0_2 := (T.rest 0 (by kernel_rfl)).trans h0_1
 have h3_2 : act2.eval (.tmp 3) = .int .i64 0 := T.done 0 3 rfl rfl
 have d2 := T.defers.trans d1
 have s2 := T.size.trans s1
 have bl2 := bl1.trans (T.below.mono bl1.size)
 clear T
 refine Eng.tail_nil ?_
 refine wp_block ?_
 refine Eng.loopN (fun n a w' => ∃ (k : Nat), l.length - k = n ∧ (k ≤ l.length) ∧ a.defers = [] ∧ a.tmps.size = 67 ∧ Below w.heap.size w w' ∧ a.eval (.tmp 0) = v ∧ a.eval (.tmp 3) = .int .i64 (k : Nat)) (n0 := l.length - 0) ?_ ?_
 ·exact ⟨0, rfl, by omega, d2, s2, bl2, h0_2, (h3_2.trans (by first | rfl | (congr 1; rw [Eng.i64_id (by omega) (by omega)]; omega) | (simp; done)))⟩
 rintro n act3 w3 ⟨k, rfl, hc0_3, d3, s3, bl3, h0_3, h3_3⟩
 have Fin_3 := Eng.Reads.below hx bl3
 have hk1 := hc0_3
 refine wp_seq ?_
 refine wp_seq ?_
 obtain ⟨q9, Bq9⟩ : ∃ b : Bool, b = (decide ((k : Nat) < ((l.length : Nat) : Int))) := ⟨_, rfl⟩
 refine Eng.regionS (Eng.still [fun u_ => u_ = .int .i64 (k : Nat), fun u_ => u_ = v, fun u_ => u_ = .int .i64 ((l.length : Nat) : Int), fun u_ => u_ = .bool q9]) (fun _ => .plain) 4 0 67 s3 rfl (by kernel_rfl) (Eng.still_stable _) (Or.inr (Eng.still_any _)) ?_ ?_
 ·refine Eng.Steps.cons (fun _ => ?_) (Eng.Steps.cons (fun _ => ?_) (Eng.Steps.cons (fun _ => ?_) (Eng.Steps.cons (fun _ => ?_) (Eng.Steps.nil))))
  ·refine Eng.plain rfl rfl fun a w' H => ?_
   exact Eng.val (w1 := w') (v := .int .i64 (k : Nat)) (Eng.run_move rfl ((H.kept 3 (by kernel_rfl)).trans h3_3)) (Below.refl _ _) rfl
  ·refine Eng.plain rfl rfl fun a w' H => ?_
   exact Eng.val (w1 := w') (v := v) (Eng.run_move rfl ((H.kept 0 (by kernel_rfl)).trans h0_3)) (Below.refl _ _) rfl
  ·refine Eng.plain rfl rfl fun a w' H => ?_
   refine Eng.val (w1 := w') (v := .int .i64 ((l.length : Nat) : Int)) ?_ (Below.refl _ _) rfl
   exact Eng.run_len_sl rfl Tryd.underlying118 (show a.eval (.tmp 7) = v from (H.dep 1 7 (by kernel_rfl) rfl)) (Eng.Reads.below Fin_3 H.below)
  ·refine Eng.plain rfl rfl fun a w' H => ?_
   refine Eng.val (w1 := w') (v := .bool (decide ((k : Nat) < ((l.length : Nat) : Int)))) ?_ (Below.refl _ _) (by show _ = Value.bool q9; rw [Bq9])
   have e0 : a.eval (.tmp 6) = .int .i64 (k : Nat) := (H.dep 0 6 (by kernel_rfl) rfl)
   have e1 : a.eval (.tmp 8) = .int .i64 ((l.length : Nat) : Int) := (H.dep 2 8 (by kernel_rfl) rfl)
   simp only [execOp, resolve, List.map_toArray, List.map_cons, List.map_nil, e0, e1]
   go_simp
 intro act4 w4 T
 have h0_4 := (T.rest 0 (by kernel_rfl)).trans h0_3
 have h3_4 := (T.rest 3 (by kernel_rfl)).trans h3_3
 have Fin_4 := Eng.Reads.below Fin_3 T.below
 have h9_4 : act4.eval (.tmp 9) = .bool q9 := T.done 3 9 rfl rfl
 have d4 := T.defers.trans d3
 have s4 := T.size.trans s3
 have bl4 := bl3.trans (T.below.mono bl3.size)
 clear T
 refine Eng.tail_nil ?_
 refine wp_cond_split h9_4 (fun hq => ?_) (fun hq => ?_)
 ·
  have c9 := Bq9.symm.trans hq
  clear hq
  have c9 := of_decide_eq_true c9
  have hk0 : k < l.length := by omega
  refine wp_skip ?_
  refine wp_seq ?_
  refine wp_block ?_
  refine wp_seq ?_
  refine (wpIn_wide (n := 1)).1 ?_
  refine EngI.regionT (n := 11) rfl ?_
  refine EngI.tail_val EngI.free_wide rfl rfl rfl rfl (Eng.run_move rfl h0_4) s4 rfl fun act6 d6 s6 hv hr => ?_
  have h0_6 := (hr 0 rfl).trans h0_4
  have h3_6 := (hr 3 rfl).trans h3_4
  have h13_6 : act6.eval (.tmp 13) = v := hv
  have d6 := d6.trans d4
  clear hv hr
  refine EngI.tail_val EngI.free_wide rfl rfl rfl rfl (Eng.run_move rfl h3_6) s6 rfl fun act7 d7 s7 hv hr => ?_
  have h0_7 := (hr 0 rfl).trans h0_6
  have h3_7 := (hr 3 rfl).trans h3_6
  have h13_7 := (hr 13 rfl).trans h13_6
  have h14_7 : act7.eval (.tmp 14) = .int .i64 (k : Nat) := hv
  have d7 := d7.trans d6
  clear hv hr
  refine EngI.tail_val (w1 := w4) (v := Eng.elemPtr v (k * 2)) EngI.free_wide rfl rfl rfl rfl ?_ s7 rfl ?_
  ·exact Eng.run_index_sl rfl Tryd.underlying118 (by kernel_rfl) (show act7.eval (.tmp 13) = v from h13_7) ((show act7.eval (.tmp 14) = .int .i64 (k : Nat) from h14_7).trans (congrArg (Value.int _) (show (k : Nat) = ((k : Nat) : Int) from by omega))) Fin_4 (by omega) rfl
  intro act8 d8 s8 hv hr
  have h0_8 := (hr 0 rfl).trans h0_7
  have h3_8 := (hr 3 rfl).trans h3_7
  have h15_8 : act8.eval (.tmp 15) = Eng.elemPtr v (k * 2) := hv
  have d8 := d8.trans d7
  clear hv hr
  refine EngI.tail_val (w1 := w4) (v := Eng.elemPtr v (k * 2 + 1)) EngI.free_wide rfl rfl rfl rfl ?_ s8 rfl ?_
  ·exact Eng.run_field_el rfl Tryd.underlying157 1 (by kernel_rfl) (show act8.eval (.tmp 15) = Eng.elemPtr v (k * 2) from h15_8) Fin_4 (by have h_ : k < l.length := (by omega); omega)
  intro act9 d9 s9 hv hr
  have h0_9 := (hr 0 rfl).trans h0_8
  have h3_9 := (hr 3 rfl).trans h3_8
  have h16_9 : act9.eval (.tmp 16) = Eng.elemPtr v (k * 2 + 1) := hv
  have d9 := d9.trans d8
  clear hv hr
  refine EngI.tail_val (w1 := w4) (v := .string ((l.getD k default).2)) EngI.free_wide rfl rfl rfl rfl ?_ s9 rfl ?_
  ·exact Eng.run_load_el (.string ((l.getD k default).2)) rfl (show act9.eval (.tmp 16) = Eng.elemPtr v (k * 2 + 1) from h16_9) Fin_4 (Pth.cell1 (l := l) (j := k) (by omega)) (by kernel_rfl)
  intro act10 d10 s10 hv hr
  have h0_10 := (hr 0 rfl).trans h0_9
  have h3_10 := (hr 3 rfl).trans h3_9
  have h17_10 : act10.eval (.tmp 17) = .string ((l.getD k default).2) := hv
  have d10 := d10.trans d9
  clear hv hr
  refine EngI.tail_call EngI.free_wide Tryd.func112 (by kernel_rfl) (by kernel_rfl) rfl rfl rfl rfl #[.string ((l.getD k default).2)] (by have e0 : act10.eval (.tmp 17) = .string ((l.getD k default).2) := h17_10; simp only [List.map_toArray, List.map_cons, List.map_nil, e0]) s10 rfl (R := fun v w' => ∃ cv, v = .tuple #[cv, .bool true] ∧ Below w4.heap.size w4 w') ((Rvl.chars_calls ((l.getD k default).2) _ (by have := (Rvl.fine (Nfa.right_at hr hk0)).2.1; omega) (Rvl.fine (Nfa.right_at hr hk0)).1).mono ?_) fun v_11 w11 act11 R d11 s11 hv hr => ?_
  ·rintro e w1 ⟨v, rfl, h1⟩; exact ⟨_, rfl, v, rfl, h1⟩
  have h0_11 := (hr 0 rfl).trans h0_10
  have h3_11 := (hr 3 rfl).trans h3_10
  have h18_11 : act11.eval (.tmp 18) = v_11 := hv
  have d11 := d11.trans d10
  clear hv hr
  obtain ⟨cv_11, hcv_11, hb11⟩ := R
  rw [hcv_11] at h18_11
  have Fin_11 := Eng.Reads.below Fin_4 hb11
  have bl11 := bl4.trans (hb11.mono bl4.size)
  refine EngI.tail_val EngI.free_wide rfl rfl rfl rfl (Eng.run_move rfl h18_11) s11 rfl fun act12 d12 s12 hv hr => ?_
  have h0_12 := (hr 0 rfl).trans h0_11
  have h3_12 := (hr 3 rfl).trans h3_11
  have h12_12 : act12.eval (.tmp 12) = .tuple #[cv_11, .bool true] := hv
  have d12 := d12.trans d11
  clear hv hr
  refine EngI.tail_val (w1 := w11) (v := cv_11) EngI.free_wide rfl rfl rfl rfl ?_ s12 rfl ?_
  ·have e0 : act12.eval (.tmp 12) = .tuple #[cv_11, .bool true] := h12_12
   simp only [execOp, resolve, List.map_toArray, List.map_cons, List.map_nil, e0]
   go_simp
  intro act13 d13 s13 hv hr
  have h0_13 := (hr 0 rfl).trans h0_12
  have h3_13 := (hr 3 rfl).trans h3_12
  have h12_13 := (hr 12 rfl).trans h12_12
  have h19_13 : act13.eval (.tmp 19) = cv_11 := hv
  have d13 := d13.trans d12
  clear hv hr
  refine EngI.tail_val (w1 := w11) (v := .bool true) EngI.free_wide rfl rfl rfl rfl ?_ s13 rfl ?_
  ·have e0 : act13.eval (.tmp 12) = .tuple #[cv_11, .bool true] := h12_13
   simp only [execOp, resolve, List.map_toArray, List.map_cons, List.map_nil, e0]
   go_simp
  intro act14 d14 s14 hv hr
  have h0_14 := (hr 0 rfl).trans h0_13
  have h3_14 := (hr 3 rfl).trans h3_13
  have h19_14 := (hr 19 rfl).trans h19_13
  have h20_14 : act14.eval (.tmp 20) = .bool true := hv
  have d14 := d14.trans d13
  clear hv hr
  refine EngI.tail_val EngI.free_wide rfl rfl rfl rfl (Eng.run_assign rfl h19_14) s14 rfl fun act15 d15 s15 hv hr => ?_
  have h0_15 := (hr 0 rfl).trans h0_14
  have h3_15 := (hr 3 rfl).trans h3_14
  have h20_15 := (hr 20 rfl).trans h20_14
  have d15 := d15.trans d14
  clear hv hr
  refine EngI.tail_val EngI.free_wide rfl rfl rfl rfl (Eng.run_assign rfl h20_15) s15 rfl fun act16 d16 s16 hv hr => ?_
  have h0_16 := (hr 0 rfl).trans h0_15
  have h3_16 := (hr 3 rfl).trans h3_15
  have h5_16 : act16.eval (.tmp 5) = .bool true := hv
  have d16 := d16.trans d15
  clear hv hr
  refine EngI.tail_nil ?_
  refine wp_seq ?_
  obtain ⟨q26, Bq26⟩ : ∃ b : Bool, b = (decide (((l.getD k default).1) < 0)) := ⟨_, rfl⟩
  obtain ⟨q33, Bq33⟩ : ∃ b : Bool, b = (decide (((l.getD k default).1) > 2)) := ⟨_, rfl⟩
  obtain ⟨q34, Bq34⟩ : ∃ b : Bool, b = (q26 || q33) := ⟨_, rfl⟩
  obtain ⟨q37, Bq37⟩ : ∃ b : Bool, b = (!true) := ⟨_, rfl⟩
  obtain ⟨q38, Bq38⟩ : ∃ b : Bool, b = (q34 || q37) := ⟨_, rfl⟩
  obtain ⟨q46, Bq46⟩ : ∃ b : Bool, b = (decide ((((l.getD k default).2).size : Int) > 100)) := ⟨_, rfl⟩
  obtain ⟨q47, Bq47⟩ : ∃ b : Bool, b = (q38 || q46) := ⟨_, rfl⟩
  obtain ⟨q54, Bq54⟩ : ∃ b : Bool, b = (!(((l.getD k default).1) == 0)) := ⟨_, rfl⟩
  obtain ⟨q61, Bq61⟩ : ∃ b : Bool, b = (!(((l.getD k default).2).toList.isEmpty)) := ⟨_, rfl⟩
  obtain ⟨q62, Bq62⟩ : ∃ b : Bool, b = (q54 && q61) := ⟨_, rfl⟩
  obtain ⟨q63, Bq63⟩ : ∃ b : Bool, b = (q47 || q62) := ⟨_, rfl⟩
  refine Eng.regionS (Eng.still [fun u_ => u_ = v, fun u_ => u_ = .int .i64 (k : Nat), fun u_ => u_ = Eng.elemPtr v (k * 2), fun u_ => u_ = Eng.elemPtr v (k * 2 + 0), fun u_ => u_ = .int .i64 ((l.getD k default).1), fun u_ => u_ = .bool q26, fun u_ => u_ = .bool q26, fun u_ => u_ = bif (q26 == false) then (v) else undef, fun u_ => u_ = bif (q26 == false) then (.int .i64 (k : Nat)) else undef, fun u_ => u_ = bif (q26 == false) then (Eng.elemPtr v (k * 2)) else undef, fun u_ => u_ = bif (q26 == false) then (Eng.elemPtr v (k * 2 + 0)) else undef, fun u_ => u_ = bif (q26 == false) then (.int .i64 ((l.getD k default).1)) else undef, fun u_ => u_ = bif (q26 == false) then (.bool q33) else undef, fun u_ => u_ = .bool q34, fun u_ => u_ = .bool q34, fun u_ => u_ = bif (q34 == false) then (.bool true) else undef, fun u_ => u_ = bif (q34 == false) then (.bool q37) else undef, fun u_ => u_ = .bool q38, fun u_ => u_ = .bool q38, fun u_ => u_ = bif (q38 == false) then (v) else undef, fun u_ => u_ = bif (q38 == false) then (.int .i64 (k : Nat)) else undef, fun u_ => u_ = bif (q38 == false) then (Eng.elemPtr v (k * 2)) else undef, fun u_ => u_ = bif (q38 == false) then (Eng.elemPtr v (k * 2 + 1)) else undef, fun u_ => u_ = bif (q38 == false) then (.string ((l.getD k default).2)) else undef, fun u_ => u_ = bif (q38 == false) then (.int .i64 (((l.getD k default).2).size : Int)) else undef, fun u_ => u_ = bif (q38 == false) then (.bool q46) else undef, fun u_ => u_ = .bool q47, fun u_ => u_ = .bool q47, fun u_ => u_ = bif (q47 == false) then (v) else undef, fun u_ => u_ = bif (q47 == false) then (.int .i64 (k : Nat)) else undef, fun u_ => u_ = bif (q47 == false) then (Eng.elemPtr v (k * 2)) else undef, fun u_ => u_ = bif (q47 == false) then (Eng.elemPtr v (k * 2 + 0)) else undef, fun u_ => u_ = bif (q47 == false) then (.int .i64 ((l.getD k default).1)) else undef, fun u_ => u_ = bif (q47 == false) then (.bool q54) else undef, fun u_ => u_ = bif (q47 == false) then (.bool q54) else undef, fun u_ => u_ = bif ((q47 == false) && (q54 == true)) then (v) else undef, fun u_ => u_ = bif ((q47 == false) && (q54 == true)) then (.int .i64 (k : Nat)) else undef, fun u_ => u_ = bif ((q47 == false) && (q54 == true)) then (Eng.elemPtr v (k * 2)) else undef, fun u_ => u_ = bif ((q47 == false) && (q54 == true)) then (Eng.elemPtr v (k * 2 + 1)) else undef, fun u_ => u_ = bif ((q47 == false) && (q54 == true)) then (.string ((l.getD k default).2)) else undef, fun u_ => u_ = bif ((q47 == false) && (q54 == true)) then (.bool q61) else undef, fun u_ => u_ = bif (q47 == false) then (.bool q62) else undef, fun u_ => u_ = .bool q63]) (fun _ => .plain) 43 0 67 s16 rfl (by kernel_rfl) (Eng.still_stable _) (Or.inr (Eng.still_any _)) ?_ ?_
  ·refine Eng.Steps.cons (fun _ => ?_) (Eng.Steps.cons (fun _ => ?_) (Eng.Steps.cons (fun _ => ?_) (Eng.Steps.cons (fun _ => ?_) (Eng.Steps.cons (fun _ => ?_) (Eng.Steps.cons (fun _ => ?_) (Eng.Steps.cons (fun _ => ?_) (Eng.Steps.cons (fun _ => ?_) (Eng.Steps.cons (fun _ => ?_) (Eng.Steps.cons (fun _ => ?_) (Eng.Steps.cons (fun _ => ?_) (Eng.Steps.cons (fun _ => ?_) (Eng.Steps.cons (fun _ => ?_) (Eng.Steps.cons (fun _ => ?_) (Eng.Steps.cons (fun _ => ?_) (Eng.Steps.cons (fun _ => ?_) (Eng.Steps.cons (fun _ => ?_) (Eng.Steps.cons (fun _ => ?_) (Eng.Steps.cons (fun _ => ?_) (Eng.Steps.cons (fun _ => ?_) (Eng.Steps.cons (fun _ => ?_) (Eng.Steps.cons (fun _ => ?_) (Eng.Steps.cons (fun _ => ?_) (Eng.Steps.cons (fun _ => ?_) (Eng.Steps.cons (fun _ => ?_) (Eng.Steps.cons (fun _ => ?_) (Eng.Steps.cons (fun _ => ?_) (Eng.Steps.cons (fun _ => ?_) (Eng.Steps.cons (fun _ => ?_) (Eng.Steps.cons (fun _ => ?_) (Eng.Steps.cons (fun _ => ?_) (Eng.Steps.cons (fun _ => ?_) (Eng.Steps.cons (fun _ => ?_) (Eng.Steps.cons (fun _ => ?_) (Eng.Steps.cons (fun _ => ?_) (Eng.Steps.cons (fun _ => ?_) (Eng.Steps.cons (fun _ => ?_) (Eng.Steps.cons (fun _ => ?_) (Eng.Steps.cons (fun _ => ?_) (Eng.Steps.cons (fun _ => ?_) (Eng.Steps.cons (fun _ => ?_) (Eng.Steps.cons (fun _ => ?_) (Eng.Steps.cons (fun _ => ?_) (Eng.Steps.nil)))))))))))))))))))))))))))))))))))))))))))
   ·refine Eng.plain rfl rfl fun a w' H => ?_
    exact Eng.val (w1 := w') (v := v) (Eng.run_move rfl ((H.kept 0 (by kernel_rfl)).trans h0_16)) (Below.refl _ _) rfl
   ·refine Eng.plain rfl rfl fun a w' H => ?_
    exact Eng.val (w1 := w') (v := .int .i64 (k : Nat)) (Eng.run_move rfl ((H.kept 3 (by kernel_rfl)).trans h3_16)) (Below.refl _ _) rfl
   ·refine Eng.plain rfl rfl fun a w' H => ?_
    refine Eng.val (w1 := w') (v := Eng.elemPtr v (k * 2)) ?_ (Below.refl _ _) rfl
    exact Eng.run_index_sl rfl Tryd.underlying118 (by kernel_rfl) (show a.eval (.tmp 21) = v from (H.dep 0 21 (by kernel_rfl) rfl)) ((show a.eval (.tmp 22) = .int .i64 (k : Nat) from (H.dep 1 22 (by kernel_rfl) rfl)).trans (congrArg (Value.int _) (show (k : Nat) = ((k : Nat) : Int) from by omega))) (Eng.Reads.below Fin_11 H.below) (by omega) rfl
   ·refine Eng.plain rfl rfl fun a w' H => ?_
    refine Eng.val (w1 := w') (v := Eng.elemPtr v (k * 2 + 0)) ?_ (Below.refl _ _) rfl
    exact Eng.run_field_el rfl Tryd.underlying157 0 (by kernel_rfl) (show a.eval (.tmp 23) = Eng.elemPtr v (k * 2) from (H.dep 2 23 (by kernel_rfl) rfl)) (Eng.Reads.below Fin_11 H.below) (by have h_ : k < l.length := (by omega); omega)
   ·refine Eng.plain rfl rfl fun a w' H => ?_
    refine Eng.val (w1 := w') (v := .int .i64 ((l.getD k default).1)) ?_ (Below.refl _ _) rfl
    exact Eng.run_load_el (.int .i64 ((l.getD k default).1)) rfl (show a.eval (.tmp 24) = Eng.elemPtr v (k * 2 + 0) from (H.dep 3 24 (by kernel_rfl) rfl)) (Eng.Reads.below Fin_11 H.below) (Pth.cell0 (l := l) (j := k) (by omega)) (by kernel_rfl)
   ·refine Eng.plain rfl rfl fun a w' H => ?_
    refine Eng.val (w1 := w') (v := .bool (decide (((l.getD k default).1) < 0))) ?_ (Below.refl _ _) (by show _ = Value.bool q26; rw [Bq26])
    have e0 : a.eval (.tmp 25) = .int .i64 ((l.getD k default).1) := (H.dep 4 25 (by kernel_rfl) rfl)
    have e1 : a.eval (.const (.int .i64 0)) = .int .i64 0 := (rfl : a.eval (.const (.int .i64 0)) = .int .i64 0)
    simp only [execOp, resolve, List.map_toArray, List.map_cons, List.map_nil, e0, e1]
    go_simp
   ·refine Eng.plain rfl rfl fun a w' H => ?_
    exact Eng.val (w1 := w') (v := .bool q26) (Eng.run_move rfl (H.dep 5 26 (by kernel_rfl) rfl)) (Below.refl _ _) rfl
   ·refine Eng.guarded1 (j := 6) (d := 27) (b := q26) rfl rfl (by kernel_rfl) rfl (fun v w h => h) (fun hG w => Eng.off hG) fun hG a w' H => ?_
    exact Eng.val (w1 := w') (v := v) (Eng.run_move rfl ((H.kept 0 (by kernel_rfl)).trans h0_16)) (Below.refl _ _) (Eng.off' hG rfl)
   ·refine Eng.guarded1 (j := 6) (d := 27) (b := q26) rfl rfl (by kernel_rfl) rfl (fun v w h => h) (fun hG w => Eng.off hG) fun hG a w' H => ?_
    exact Eng.val (w1 := w') (v := .int .i64 (k : Nat)) (Eng.run_move rfl ((H.kept 3 (by kernel_rfl)).trans h3_16)) (Below.refl _ _) (Eng.off' hG rfl)
   ·refine Eng.guarded1 (j := 6) (d := 27) (b := q26) rfl rfl (by kernel_rfl) rfl (fun v w h => h) (fun hG w => Eng.off hG) fun hG a w' H => ?_
    refine Eng.val (w1 := w') (v := Eng.elemPtr v (k * 2)) ?_ (Below.refl _ _) (Eng.off' hG rfl)
    exact Eng.run_index_sl rfl Tryd.underlying118 (by kernel_rfl) (show a.eval (.tmp 28) = v from (Eng.on (H.dep 7 28 (by kernel_rfl) rfl) hG)) ((show a.eval (.tmp 29) = .int .i64 (k : Nat) from (Eng.on (H.dep 8 29 (by kernel_rfl) rfl) hG)).trans (congrArg (Value.int _) (show (k : Nat) = ((k : Nat) : Int) from by omega))) (Eng.Reads.below Fin_11 H.below) (by omega) rfl
   ·refine Eng.guarded1 (j := 6) (d := 27) (b := q26) rfl rfl (by kernel_rfl) rfl (fun v w h => h) (fun hG w => Eng.off hG) fun hG a w' H => ?_
    refine Eng.val (w1 := w') (v := Eng.elemPtr v (k * 2 + 0)) ?_ (Below.refl _ _) (Eng.off' hG rfl)
    exact Eng.run_field_el rfl Tryd.underlying157 0 (by kernel_rfl) (show a.eval (.tmp 30) = Eng.elemPtr v (k * 2) from (Eng.on (H.dep 9 30 (by kernel_rfl) rfl) hG)) (Eng.Reads.below Fin_11 H.below) (by have h_ : k < l.length := (by omega); omega)
   ·refine Eng.guarded1 (j := 6) (d := 27) (b := q26) rfl rfl (by kernel_rfl) rfl (fun v w h => h) (fun hG w => Eng.off hG) fun hG a w' H => ?_
    refine Eng.val (w1 := w') (v := .int .i64 ((l.getD k default).1)) ?_ (Below.refl _ _) (Eng.off' hG rfl)
    exact Eng.run_load_el (.int .i64 ((l.getD k default).1)) rfl (show a.eval (.tmp 31) = Eng.elemPtr v (k * 2 + 0) from (Eng.on (H.dep 10 31 (by kernel_rfl) rfl) hG)) (Eng.Reads.below Fin_11 H.below) (Pth.cell0 (l := l) (j := k) (by omega)) (by kernel_rfl)
   ·refine Eng.guarded1 (j := 6) (d := 27) (b := q26) rfl rfl (by kernel_rfl) rfl (fun v w h => h) (fun hG w => Eng.off hG) fun hG a w' H => ?_
    refine Eng.val (w1 := w') (v := .bool (decide (((l.getD k default).1) > 2))) ?_ (Below.refl _ _) (Eng.off' hG (by rw [Bq33]))
    have e0 : a.eval (.tmp 32) = .int .i64 ((l.getD k default).1) := (Eng.on (H.dep 11 32 (by kernel_rfl) rfl) hG)
    have e1 : a.eval (.const (.int .i64 2)) = .int .i64 2 := (rfl : a.eval (.const (.int .i64 2)) = .int .i64 2)
    simp only [execOp, resolve, List.map_toArray, List.map_cons, List.map_nil, e0, e1]
    go_simp
   ·refine Eng.plain rfl rfl fun a w' H => ?_
    exact Eng.val (w1 := w') (v := .bool (q26 || q33)) (Eng.run_or rfl rfl (G := true) (H.dep 6 27 (by kernel_rfl) rfl) (fun hb => (Eng.on (H.dep 12 33 (by kernel_rfl) rfl) (Eng.mk1 hb)))) (Below.refl _ _) (by show _ = Value.bool q34; rw [Bq34])
   ·refine Eng.plain rfl rfl fun a w' H => ?_
    exact Eng.val (w1 := w') (v := .bool q34) (Eng.run_move rfl (H.dep 13 34 (by kernel_rfl) rfl)) (Below.refl _ _) rfl
   ·refine Eng.guarded1 (j := 14) (d := 35) (b := q34) rfl rfl (by kernel_rfl) rfl (fun v w h => h) (fun hG w => Eng.off hG) fun hG a w' H => ?_
    exact Eng.val (w1 := w') (v := .bool true) (Eng.run_move rfl ((H.kept 5 (by kernel_rfl)).trans h5_16)) (Below.refl _ _) (Eng.off' hG rfl)
   ·refine Eng.guarded1 (j := 14) (d := 35) (b := q34) rfl rfl (by kernel_rfl) rfl (fun v w h => h) (fun hG w => Eng.off hG) fun hG a w' H => ?_
    exact Eng.val (w1 := w') (v := .bool (!true)) (Eng.run_not rfl (Eng.on (H.dep 15 36 (by kernel_rfl) rfl) hG)) (Below.refl _ _) (Eng.off' hG (by rw [Bq37]))
   ·refine Eng.plain rfl rfl fun a w' H => ?_
    exact Eng.val (w1 := w') (v := .bool (q34 || q37)) (Eng.run_or rfl rfl (G := true) (H.dep 14 35 (by kernel_rfl) rfl) (fun hb => (Eng.on (H.dep 16 37 (by kernel_rfl) rfl) (Eng.mk1 hb)))) (Below.refl _ _) (by show _ = Value.bool q38; rw [Bq38])
   ·refine Eng.plain rfl rfl fun a w' H => ?_
    exact Eng.val (w1 := w') (v := .bool q38) (Eng.run_move rfl (H.dep 17 38 (by kernel_rfl) rfl)) (Below.refl _ _) rfl
   ·refine Eng.guarded1 (j := 18) (d := 39) (b := q38) rfl rfl (by kernel_rfl) rfl (fun v w h => h) (fun hG w => Eng.off hG) fun hG a w' H => ?_
    exact Eng.val (w1 := w') (v := v) (Eng.run_move rfl ((H.kept 0 (by kernel_rfl)).trans h0_16)) (Below.refl _ _) (Eng.off' hG rfl)
   ·refine Eng.guarded1 (j := 18) (d := 39) (b := q38) rfl rfl (by kernel_rfl) rfl (fun v w h => h) (fun hG w => Eng.off hG) fun hG a w' H => ?_
    exact Eng.val (w1 := w') (v := .int .i64 (k : Nat)) (Eng.run_move rfl ((H.kept 3 (by kernel_rfl)).trans h3_16)) (Below.refl _ _) (Eng.off' hG rfl)
   ·refine Eng.guarded1 (j := 18) (d := 39) (b := q38) rfl rfl (by kernel_rfl) rfl (fun v w h => h) (fun hG w => Eng.off hG) fun hG a w' H => ?_
    refine Eng.val (w1 := w') (v := Eng.elemPtr v (k * 2)) ?_ (Below.refl _ _) (Eng.off' hG rfl)
    exact Eng.run_index_sl rfl Tryd.underlying118 (by kernel_rfl) (show a.eval (.tmp 40) = v from (Eng.on (H.dep 19 40 (by kernel_rfl) rfl) hG)) ((show a.eval (.tmp 41) = .int .i64 (k : Nat) from (Eng.on (H.dep 20 41 (by kernel_rfl) rfl) hG)).trans (congrArg (Value.int _) (show (k : Nat) = ((k : Nat) : Int) from by omega))) (Eng.Reads.below Fin_11 H.below) (by omega) rfl
   ·refine Eng.guarded1 (j := 18) (d := 39) (b := q38) rfl rfl (by kernel_rfl) rfl (fun v w h => h) (fun hG w => Eng.off hG) fun hG a w' H => ?_
    refine Eng.val (w1 := w') (v := Eng.elemPtr v (k * 2 + 1)) ?_ (Below.refl _ _) (Eng.off' hG rfl)
    exact Eng.run_field_el rfl Tryd.underlying157 1 (by kernel_rfl) (show a.eval (.tmp 42) = Eng.elemPtr v (k * 2) from (Eng.on (H.dep 21 42 (by kernel_rfl) rfl) hG)) (Eng.Reads.below Fin_11 H.below) (by have h_ : k < l.length := (by omega); omega)
   ·refine Eng.guarded1 (j := 18) (d := 39) (b := q38) rfl rfl (by kernel_rfl) rfl (fun v w h => h) (fun hG w => Eng.off hG) fun hG a w' H => ?_
    refine Eng.val (w1 := w') (v := .string ((l.getD k default).2)) ?_ (Below.refl _ _) (Eng.off' hG rfl)
    exact Eng.run_load_el (.string ((l.getD k default).2)) rfl (show a.eval (.tmp 43) = Eng.elemPtr v (k * 2 + 1) from (Eng.on (H.dep 22 43 (by kernel_rfl) rfl) hG)) (Eng.Reads.below Fin_11 H.below) (Pth.cell1 (l := l) (j := k) (by omega)) (by kernel_rfl)
   ·refine Eng.guarded1 (j := 18) (d := 39) (b := q38) rfl rfl (by kernel_rfl) rfl (fun v w h => h) (fun hG w => Eng.off hG) fun hG a w' H => ?_
    refine Eng.val (w1 := w') (v := .int .i64 (((l.getD k default).2).size : Int)) ?_ (Below.refl _ _) (Eng.off' hG rfl)
    have e0 : a.eval (.tmp 44) = .string ((l.getD k default).2) := (Eng.on (H.dep 23 44 (by kernel_rfl) rfl) hG)
    simp only [execOp, resolve, List.map_toArray, List.map_cons, List.map_nil, e0]
    go_simp
   ·refine Eng.guarded1 (j := 18) (d := 39) (b := q38) rfl rfl (by kernel_rfl) rfl (fun v w h => h) (fun hG w => Eng.off hG) fun hG a w' H => ?_
    refine Eng.val (w1 := w') (v := .bool (decide ((((l.getD k default).2).size : Int) > 100))) ?_ (Below.refl _ _) (Eng.off' hG (by rw [Bq46]))
    have e0 : a.eval (.tmp 45) = .int .i64 (((l.getD k default).2).size : Int) := (Eng.on (H.dep 24 45 (by kernel_rfl) rfl) hG)
    have e1 : a.eval (.const (.int .i64 100)) = .int .i64 100 := (rfl : a.eval (.const (.int .i64 100)) = .int .i64 100)
    simp only [execOp, resolve, List.map_toArray, List.map_cons, List.map_nil, e0, e1]
    go_simp
   ·refine Eng.plain rfl rfl fun a w' H => ?_
    exact Eng.val (w1 := w') (v := .bool (q38 || q46)) (Eng.run_or rfl rfl (G := true) (H.dep 18 39 (by kernel_rfl) rfl) (fun hb => (Eng.on (H.dep 25 46 (by kernel_rfl) rfl) (Eng.mk1 hb)))) (Below.refl _ _) (by show _ = Value.bool q47; rw [Bq47])
   ·refine Eng.plain rfl rfl fun a w' H => ?_
    exact Eng.val (w1 := w') (v := .bool q47) (Eng.run_move rfl (H.dep 26 47 (by kernel_rfl) rfl)) (Below.refl _ _) rfl
   ·refine Eng.guarded1 (j := 27) (d := 48) (b := q47) rfl rfl (by kernel_rfl) rfl (fun v w h => h) (fun hG w => Eng.off hG) fun hG a w' H => ?_
    exact Eng.val (w1 := w') (v := v) (Eng.run_move rfl ((H.kept 0 (by kernel_rfl)).trans h0_16)) (Below.refl _ _) (Eng.off' hG rfl)
   ·refine Eng.guarded1 (j := 27) (d := 48) (b := q47) rfl rfl (by kernel_rfl) rfl (fun v w h => h) (fun hG w => Eng.off hG) fun hG a w' H => ?_
    exact Eng.val (w1 := w') (v := .int .i64 (k : Nat)) (Eng.run_move rfl ((H.kept 3 (by kernel_rfl)).trans h3_16)) (Below.refl _ _) (Eng.off' hG rfl)
   ·refine Eng.guarded1 (j := 27) (d := 48) (b := q47) rfl rfl (by kernel_rfl) rfl (fun v w h => h) (fun hG w => Eng.off hG) fun hG a w' H => ?_
    refine Eng.val (w1 := w') (v := Eng.elemPtr v (k * 2)) ?_ (Below.refl _ _) (Eng.off' hG rfl)
    exact Eng.run_index_sl rfl Tryd.underlying118 (by kernel_rfl) (show a.eval (.tmp 49) = v from (Eng.on (H.dep 28 49 (by kernel_rfl) rfl) hG)) ((show a.eval (.tmp 50) = .int .i64 (k : Nat) from (Eng.on (H.dep 29 50 (by kernel_rfl) rfl) hG)).trans (congrArg (Value.int _) (show (k : Nat) = ((k : Nat) : Int) from by omega))) (Eng.Reads.below Fin_11 H.below) (by omega) rfl
   ·refine Eng.guarded1 (j := 27) (d := 48) (b := q47) rfl rfl (by kernel_rfl) rfl (fun v w h => h) (fun hG w => Eng.off hG) fun hG a w' H => ?_
    refine Eng.val (w1 := w') (v := Eng.elemPtr v (k * 2 + 0)) ?_ (Below.refl _ _) (Eng.off' hG rfl)
    exact Eng.run_field_el rfl Tryd.underlying157 0 (by kernel_rfl) (show a.eval (.tmp 51) = Eng.elemPtr v (k * 2) from (Eng.on (H.dep 30 51 (by kernel_rfl) rfl) hG)) (Eng.Reads.below Fin_11 H.below) (by have h_ : k < l.length := (by omega); omega)
   ·refine Eng.guarded1 (j := 27) (d := 48) (b := q47) rfl rfl (by kernel_rfl) rfl (fun v w h => h) (fun hG w => Eng.off hG) fun hG a w' H => ?_
    refine Eng.val (w1 := w') (v := .int .i64 ((l.getD k default).1)) ?_ (Below.refl _ _) (Eng.off' hG rfl)
    exact Eng.run_load_el (.int .i64 ((l.getD k default).1)) rfl (show a.eval (.tmp 52) = Eng.elemPtr v (k * 2 + 0) from (Eng.on (H.dep 31 52 (by kernel_rfl) rfl) hG)) (Eng.Reads.below Fin_11 H.below) (Pth.cell0 (l := l) (j := k) (by omega)) (by kernel_rfl)
   ·refine Eng.guarded1 (j := 27) (d := 48) (b := q47) rfl rfl (by kernel_rfl) rfl (fun v w h => h) (fun hG w => Eng.off hG) fun hG a w' H => ?_
    refine Eng.val (w1 := w') (v := .bool (!(((l.getD k default).1) == 0))) ?_ (Below.refl _ _) (Eng.off' hG (by rw [Bq54]))
    have e0 : a.eval (.tmp 53) = .int .i64 ((l.getD k default).1) := (Eng.on (H.dep 32 53 (by kernel_rfl) rfl) hG)
    have e1 : a.eval (.const (.int .i64 0)) = .int .i64 0 := (rfl : a.eval (.const (.int .i64 0)) = .int .i64 0)
    simp only [execOp, resolve, List.map_toArray, List.map_cons, List.map_nil, e0, e1]
    go_simp
    all_goals first | rfl | (simp; done) | (rw [Bool.eq_iff_iff]; simp; done) | omega | (split <;> first | (simp_all; done) | (split <;> simp_all; done)) | skip
   ·refine Eng.guarded1 (j := 27) (d := 48) (b := q47) rfl rfl (by kernel_rfl) rfl (fun v w h => h) (fun hG w => Eng.off hG) fun hG a w' H => ?_
    exact Eng.val (w1 := w') (v := .bool q54) (Eng.run_move rfl (Eng.on (H.dep 33 54 (by kernel_rfl) rfl) hG)) (Below.refl _ _) (Eng.off' hG rfl)
   ·refine Eng.guarded (j := 34) (d := 55) (b := q54) (G := (q47 == false)) rfl rfl (by kernel_rfl) rfl (fun v w h => h) (fun hG w => Eng.off hG) fun hG a w' H => ?_
    exact Eng.val (w1 := w') (v := v) (Eng.run_move rfl ((H.kept 0 (by kernel_rfl)).trans h0_16)) (Below.refl _ _) (Eng.off' hG rfl)
   ·refine Eng.guarded (j := 34) (d := 55) (b := q54) (G := (q47 == false)) rfl rfl (by kernel_rfl) rfl (fun v w h => h) (fun hG w => Eng.off hG) fun hG a w' H => ?_
    exact Eng.val (w1 := w') (v := .int .i64 (k : Nat)) (Eng.run_move rfl ((H.kept 3 (by kernel_rfl)).trans h3_16)) (Below.refl _ _) (Eng.off' hG rfl)
   ·refine Eng.guarded (j := 34) (d := 55) (b := q54) (G := (q47 == false)) rfl rfl (by kernel_rfl) rfl (fun v w h => h) (fun hG w => Eng.off hG) fun hG a w' H => ?_
    refine Eng.val (w1 := w') (v := Eng.elemPtr v (k * 2)) ?_ (Below.refl _ _) (Eng.off' hG rfl)
    exact Eng.run_index_sl rfl Tryd.underlying118 (by kernel_rfl) (show a.eval (.tmp 56) = v from (Eng.on (H.dep 35 56 (by kernel_rfl) rfl) hG)) ((show a.eval (.tmp 57) = .int .i64 (k : Nat) from (Eng.on (H.dep 36 57 (by kernel_rfl) rfl) hG)).trans (congrArg (Value.int _) (show (k : Nat) = ((k : Nat) : Int) from by omega))) (Eng.Reads.below Fin_11 H.below) (by omega) rfl
   ·refine Eng.guarded (j := 34) (d := 55) (b := q54) (G := (q47 == false)) rfl rfl (by kernel_rfl) rfl (fun v w h => h) (fun hG w => Eng.off hG) fun hG a w' H => ?_
    refine Eng.val (w1 := w') (v := Eng.elemPtr v (k * 2 + 1)) ?_ (Below.refl _ _) (Eng.off' hG rfl)
    exact Eng.run_field_el rfl Tryd.underlying157 1 (by kernel_rfl) (show a.eval (.tmp 58) = Eng.elemPtr v (k * 2) from (Eng.on (H.dep 37 58 (by kernel_rfl) rfl) hG)) (Eng.Reads.below Fin_11 H.below) (by have h_ : k < l.length := (by omega); omega)
   ·refine Eng.guarded (j := 34) (d := 55) (b := q54) (G := (q47 == false)) rfl rfl (by kernel_rfl) rfl (fun v w h => h) (fun hG w => Eng.off hG) fun hG a w' H => ?_
    refine Eng.val (w1 := w') (v := .string ((l.getD k default).2)) ?_ (Below.refl _ _) (Eng.off' hG rfl)
    exact Eng.run_load_el (.string ((l.getD k default).2)) rfl (show a.eval (.tmp 59) = Eng.elemPtr v (k * 2 + 1) from (Eng.on (H.dep 38 59 (by kernel_rfl) rfl) hG)) (Eng.Reads.below Fin_11 H.below) (Pth.cell1 (l := l) (j := k) (by omega)) (by kernel_rfl)
   ·refine Eng.guarded (j := 34) (d := 55) (b := q54) (G := (q47 == false)) rfl rfl (by kernel_rfl) rfl (fun v w h => h) (fun hG w => Eng.off hG) fun hG a w' H => ?_
    refine Eng.val (w1 := w') (v := .bool (!(((l.getD k default).2).toList.isEmpty))) ?_ (Below.refl _ _) (Eng.off' hG (by rw [Bq61]))
    have e0 : a.eval (.tmp 60) = .string ((l.getD k default).2) := (Eng.on (H.dep 39 60 (by kernel_rfl) rfl) hG)
    have e1 : a.eval (.const (.string ⟨#[]⟩)) = .string ⟨#[]⟩ := (rfl : a.eval (.const (.string ⟨#[]⟩)) = .string ⟨#[]⟩)
    simp only [execOp, resolve, List.map_toArray, List.map_cons, List.map_nil, e0, e1]
    go_simp
   ·refine Eng.guarded1 (j := 27) (d := 48) (b := q47) rfl rfl (by kernel_rfl) rfl (fun v w h => h) (fun hG w => Eng.off hG) fun hG a w' H => ?_
    exact Eng.val (w1 := w') (v := .bool (q54 && q61)) (Eng.run_and rfl rfl (G := true) (Eng.on (H.dep 34 55 (by kernel_rfl) rfl) hG) (fun hb => (Eng.on (H.dep 40 61 (by kernel_rfl) rfl) (Eng.mk2 (Eng.mk1 (Eng.one2 hG)) hb)))) (Below.refl _ _) (Eng.off' hG (by rw [Bq62]))
   ·refine Eng.plain rfl rfl fun a w' H => ?_
    exact Eng.val (w1 := w') (v := .bool (q47 || q62)) (Eng.run_or rfl rfl (G := true) (H.dep 27 48 (by kernel_rfl) rfl) (fun hb => (Eng.on (H.dep 41 62 (by kernel_rfl) rfl) (Eng.mk1 hb)))) (Below.refl _ _) (by show _ = Value.bool q63; rw [Bq63])
  intro act17 w17 T
  have h0_17 := (T.rest 0 (by kernel_rfl)).trans h0_16
  have h3_17 := (T.rest 3 (by kernel_rfl)).trans h3_16
  have h63_17 : act17.eval (.tmp 63) = .bool q63 := T.done 42 63 rfl rfl
  have d17 := T.defers.trans d16
  have s17 := T.size.trans s16
  have bl17 := bl11.trans (T.below.mono bl11.size)
  clear T
  refine Eng.tail_nil ?_
  have n63 : q63 = false := by
   try simp only [Bq63, Bq62, Bq61, Bq54, Bq47, Bq46, Bq38, Bq37, Bq34, Bq33, Bq26, Bq9]
   exact (Rvl.fine (Nfa.right_at hr hk0)).2.2
  refine wp_cond_false (h63_17.trans (by rw [n63])) ?_
  refine wp_skip ?_
  refine Eng.regionS (Eng.still [fun u_ => u_ = .int .i64 (k : Nat), fun u_ => u_ = .int .i64 (IntKind.i64.wrap ((k : Nat) + 1)), fun u_ => u_ = .int .i64 (IntKind.i64.wrap ((k : Nat) + 1))]) (fun _ => .plain) 3 0 67 s17 rfl (by kernel_rfl) (Eng.still_stable _) (Or.inr (Eng.still_any _)) ?_ ?_
  ·refine Eng.Steps.cons (fun _ => ?_) (Eng.Steps.cons (fun _ => ?_) (Eng.Steps.cons (fun _ => ?_) (Eng.Steps.nil)))
   ·refine Eng.plain rfl rfl fun a w' H => ?_
    exact Eng.val (w1 := w') (v := .int .i64 (k : Nat)) (Eng.run_move rfl ((H.kept 3 (by kernel_rfl)).trans h3_17)) (Below.refl _ _) rfl
   ·refine Eng.plain rfl rfl fun a w' H => ?_
    refine Eng.val (w1 := w') (v := .int .i64 (IntKind.i64.wrap ((k : Nat) + 1))) ?_ (Below.refl _ _) rfl
    have e0 : a.eval (.tmp 10) = .int .i64 (k : Nat) := (H.dep 0 10 (by kernel_rfl) rfl)
    have e1 : a.eval (.const (.int .i64 1)) = .int .i64 1 := (rfl : a.eval (.const (.int .i64 1)) = .int .i64 1)
    simp only [execOp, resolve, List.map_toArray, List.map_cons, List.map_nil, e0, e1]
    go_simp
   ·refine Eng.plain rfl rfl fun a w' H => ?_
    exact Eng.val (w1 := w') (v := .int .i64 (IntKind.i64.wrap ((k : Nat) + 1))) (Eng.run_assign rfl (H.dep 1 11 (by kernel_rfl) rfl)) (Below.refl _ _) rfl
  intro act18 w18 T
  have h0_18 := (T.rest 0 (by kernel_rfl)).trans h0_17
  have h3_18 : act18.eval (.tmp 3) = .int .i64 (IntKind.i64.wrap ((k : Nat) + 1)) := T.done 2 3 rfl rfl
  have d18 := T.defers.trans d17
  have s18 := T.size.trans s17
  have bl18 := bl17.trans (T.below.mono bl17.size)
  clear T
  refine Eng.tail_nil ?_
  exact ⟨_, by omega, k + 1, rfl, by omega, d18, s18, bl18, h0_18, (h3_18.trans (by first | rfl | (congr 1; rw [Eng.i64_id (by omega) (by omega)]; omega) | (simp; done)))⟩
 ·
  have c9 := Bq9.symm.trans hq
  clear hq
  have c9 := of_decide_eq_false c9
  refine wp_exit ?_
  refine wp_seq ?_
  refine Eng.regionS (Eng.still [fun u_ => u_ = v, fun u_ => u_ = .int .i64 ((l.length : Nat) : Int), fun u_ => u_ = .bool true, fun u_ => u_ = .bool true]) (fun _ => .plain) 4 0 67 s4 rfl (by kernel_rfl) (Eng.still_stable _) (Or.inr (Eng.still_any _)) ?_ ?_
  ·refine Eng.Steps.cons (fun _ => ?_) (Eng.Steps.cons (fun _ => ?_) (Eng.Steps.cons (fun _ => ?_) (Eng.Steps.cons (fun _ => ?_) (Eng.Steps.nil))))
   ·refine Eng.plain rfl rfl fun a w' H => ?_
    exact Eng.val (w1 := w') (v := v) (Eng.run_move rfl ((H.kept 0 (by kernel_rfl)).trans h0_4)) (Below.refl _ _) rfl
   ·refine Eng.plain rfl rfl fun a w' H => ?_
    refine Eng.val (w1 := w') (v := .int .i64 ((l.length : Nat) : Int)) ?_ (Below.refl _ _) rfl
    exact Eng.run_len_sl rfl Tryd.underlying118 (show a.eval (.tmp 64) = v from (H.dep 0 64 (by kernel_rfl) rfl)) (Eng.Reads.below Fin_4 H.below)
   ·refine Eng.plain rfl rfl fun a w' H => ?_
    refine Eng.val (w1 := w') (v := .bool (decide (((l.length : Nat) : Int) ≤ 20))) ?_ (Below.refl _ _) (by show _ = Value.bool true; rw [show (decide (((l.length : Nat) : Int) ≤ 20)) = true from decide_eq_true (by have := Nfa.right_len hr; omega)])
    have e0 : a.eval (.tmp 65) = .int .i64 ((l.length : Nat) : Int) := (H.dep 1 65 (by kernel_rfl) rfl)
    have e1 : a.eval (.const (.int .i64 20)) = .int .i64 20 := (rfl : a.eval (.const (.int .i64 20)) = .int .i64 20)
    simp only [execOp, resolve, List.map_toArray, List.map_cons, List.map_nil, e0, e1]
    go_simp
   ·refine Eng.plain rfl rfl fun a w' H => ?_
    exact Eng.val (w1 := w') (v := .bool true) (Eng.run_assign rfl (H.dep 2 66 (by kernel_rfl) rfl)) (Below.refl _ _) rfl
  intro act20 w20 T
  have h2_20 : act20.eval (.tmp 2) = .bool true := T.done 3 2 rfl rfl
  have d20 := T.defers.trans d4
  have bl20 := bl4.trans (T.below.mono bl4.size)
  clear T
  refine Eng.tail_nil ?_
  refine wp_ret ?_
  repeat (first | refine Eng.in_ret ?_ | refine Eng.then_ret ?_)
  exact Eng.ret1 rfl d20 h2_20 ⟨rfl, bl20⟩
end Go.Proofs.YthgafcaoibfchaaDoor.X
end
