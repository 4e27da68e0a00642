/- Words and walks that the row of LatticeNamesUpto needs: printed by programs, and plain laws. -/
import Derived.Test.YthgafcaoibfchaaDoorM5
import Derived.Lib.AppendZeros
import Derived.Great.FillDense
import Derived.Test.YthgafcaoibfchaaDoorM2
section
namespace Go.Proofs.Eng
open Go Go.RowKit
set_option linter.unusedSimpArgs false
set_option linter.unusedVariables false
variable {P : Program} {o : Oper} {a : Act} {w : World}
theorem own_appendT {w : World} {B : Nat} {t ty e : TypeId} {i : TypeInfo} {z : Value} {size : Nat} (ht : P.underlying t = some (.slice e)) (hi : P.info? e = some i) (hz : i.zero = some z) (hsize : i.size = size) (hby : i.bytes ≤ 128) (hzs : z.cells.size = size) (hsz : 0 < size)
    {v : Value} {n : Nat} {xs : List Value} (O : w.ownsRow B e size v n xs) {x : Value} {m : Nat} {news : List Value} (F : Reads w x m size news) (h1 : ∀ u ∈ news, u.oneCell' = true) (h63' : n + m ≤ maxLen) (hbm : (n + m) * i.bytes ≤ 140737488355328) (hB : B ≤ w.heap.size) :
    ∃ v' w', (Builtin.append_ #[t, t] ty #[v, x]).run P w = .ok v' w' ∧ w'.ownsRow B e size v' (n + m) (xs ++ news) ∧ w'.ownsRow B e size v n xs ∧ Below B w w' ∧ w.grownBy w' v.ownBlock ∧ (v'.ownBlock = v.ownBlock ∨ v'.ownBlock = some w.heap.size) := by
  have h63'' : n + m ≤ 9223372036854775807 := by simpa [maxLen] using h63'
  obtain ⟨hl, A, c, rfl, hc, hm, hx⟩ := F
  cases A with
  | none =>
    have hm0 : m = 0 := by
      rcases Nat.eq_zero_or_pos m with h | h
      · exact h
      · have h0 : 0 < news.length := by rw [hl]; exact Nat.mul_pos h hsz
        obtain ⟨ad, e', _⟩ := hx 0 _ (List.getElem?_eq_getElem h0)
        cases e'
    subst hm0
    have hn : news = [] := List.eq_nil_of_length_eq_zero (by simpa using hl)
    subst hn
    have hs : Src P i.size t (.slice none 0 c) 0 [] w := Src.ofNil w ht c
    refine ⟨v, w, ?_, by simpa using O, O, Below.refl _ _, ⟨rfl, rfl, rfl, Nat.le_refl _, fun _ _ _ => rfl⟩, .inl rfl⟩
    rcases O.2 with ⟨rfl, rfl⟩ | ⟨g, cap, cur, rfl, hg, hh, hn, _⟩
    · exact run_append_nothing w t t ty e i ht hi none 0 0 (Nat.le_refl _) _ hs
    · exact run_append_nothing w t t ty e i ht hi _ n cap hn _ hs
  | some a =>
    have hx' : ∀ j u, news[j]? = some u → w.cell? (a.add j) = some u := fun j u h => by
      obtain ⟨ad, e', hcell⟩ := hx j u h
      injection e' with e'; subst e'; exact hcell
    obtain ⟨v', w', hr, h2, h3, h4, h5⟩ := run_append_own_at (P := P) w B t ty e i z size i.bytes ht hi hz hsize rfl hzs hsz v n xs O a m c news hl hx' h1 h63' hbm hB
    refine ⟨v', w', hr, h2, ?_, below_of_grown h3 hB (own_block O), h3, h5⟩
    subst hsize
    rcases O.2 with ⟨rfl, rfl⟩ | ⟨g, cap, cur, rfl, hbg, hg, hnc, hcm, hcs, htake⟩
    · have : xs = [] := List.eq_nil_of_length_eq_zero (by simpa using O.1)
      subst this; exact World.ownsRow_nil w' B e i.size
    · by_cases hroom : n + m ≤ cap
      · have hfit : n * i.size + news.length ≤ cur.size := by rw [hl, hcs, ← Nat.add_mul]; exact Nat.mul_le_mul_right _ hroom
        have hr' := run_append_room (P := P) w t ty e i ht hi g n cap cur hg a m c news hl hx' h1 hroom hfit
        rw [hr'] at hr
        injection hr with _ hw
        subst hw
        refine ⟨O.1, .inr ⟨g, cap, _, rfl, hbg, setRow_heap w g cur _ e _ hg, hnc, hcm, ?_, ?_⟩⟩
        · simp only [List.size_toArray, List.length_append, List.length_take, List.length_drop, Array.length_toList]
          omega
        · simp only [List.append_assoc]
          rw [List.take_append_of_le_length (by rw [List.length_take, Array.length_toList]; omega), List.take_take, Nat.min_self]
          exact htake
      · have holds : ∀ j u, xs[j]? = some u → w.cell? ((⟨g, 0, none⟩ : Addr).add j) = some u := O.cells (g := g) rfl
        have hr' := run_append_grow (P := P) w t ty e i z ht hi hz ⟨g, 0, none⟩ n cap xs O.1 holds a m c news hl hx' (by omega) (by omega) (growslice_fits (by omega) hbm)
        rw [hr'] at hr
        injection hr with _ hw
        subst hw
        refine ⟨O.1, .inr ⟨g, cap, cur, rfl, hbg, ?_, hnc, hcm, hcs, htake⟩⟩
        exact (heap_alloc_old w.drew _ (by simpa using (Array.getElem?_eq_some_iff.1 hg).1)).trans hg
theorem run_appendT {B : Nat} {t e : TypeId} {z : Value} {size : Nat} {s x : Operand} (hop : o.op = .call { callee := .builtin .append, args := #[s, x], argTypes := #[t, t] })
    (ht : P.underlying t = some (.slice e)) (hI : (P.info? e).map (fun i => (i.size, decide (i.bytes ≤ 24), i.zero)) = some (size, true, some z)) (hzs : z.cells.size = size) (hsz : (decide (0 < size)) = true)
    {v xv : Value} {n : Nat} {xs : List Value} (hs : a.eval s = v) (O : w.ownsRow B e size v n xs) (hx : a.eval x = xv) {m : Nat} {news : List Value} (F : Reads w xv m size news) (h1 : ∀ u ∈ news, u.oneCell' = true) (h63 : n + m ≤ 5864062014634) (hB : B ≤ w.heap.size) :
    ∃ v' w', (execOp a.eval o).run P w = .ok (.value v') w' ∧ w'.ownsRow B e size v' (n + m) (xs ++ news) ∧ w'.ownsRow B e size v n xs ∧ Below B w w' ∧ w.grownBy w' v.ownBlock ∧ (v'.ownBlock = v.ownBlock ∨ v'.ownBlock = some w.heap.size) := by
  cases hq : P.info? e with
  | none => simp [hq] at hI
  | some i =>
    simp [hq] at hI
    obtain ⟨h2, h3, h4⟩ := hI
    have hb : (n + m) * i.bytes ≤ 140737488355328 := Nat.le_trans (Nat.mul_le_mul h63 h3) (by decide)
    obtain ⟨v', w', hr, h⟩ := own_appendT (P := P) (ty := o.type) ht hq h4 h2 (by omega) hzs (of_decide_eq_true hsz) O F h1 (by unfold maxLen; omega) hb hB
    refine ⟨v', w', ?_, h⟩
    unfold execOp
    simp only [hop, resolve, invoke, builtin, Sem.run_bind, Sem.run_pure, Result.andThen_ok, List.map_toArray, List.map_cons, List.map_nil, hs, hx, hr]
theorem run_buildN {T e : TypeId} {n : Nat} {parts : Array (Nat × Operand)} {z : Value} {size : Nat} (vs : List Value) (hop : o.op = .buildSlice T n parts) (hu : P.underlying T = some (.slice e)) (hI : (P.info? e).map (fun i => (i.size, decide (i.bytes ≤ 128), i.zero)) = some (size, true, some z)) (hs : (decide (0 < size)) = true) (hs' : (decide (size < 1000)) = true)
    (hn : vs.length = n) (hn0 : (decide (0 < n)) = true) (hn' : (decide (n < 1000)) = true) (hz : z.cells.size = size) (h1 : ∀ v ∈ vs, v.cells.size = size) (hp : (parts.map fun (i, x) => (i, a.eval x)).toList = (vs.zipIdx 0).map fun x => (x.2, x.1)) :
    ∃ v w', (execOp a.eval o).run P w = .ok (.value v) w' ∧ Reads w' v n size (vs.flatMap fun v => v.cells.toList) ∧ Below w.heap.size w w' := by
  obtain ⟨i, hi, h2, h3, h4⟩ := info_of hI
  have hs := of_decide_eq_true hs
  have hs' := of_decide_eq_true hs'
  have hn0 := of_decide_eq_true hn0
  have hn' := of_decide_eq_true hn'
  subst h2
  have hlt : n * i.size ≤ 1000 * 1000 := Nat.mul_le_mul (by omega) (by omega)
  have hpos : 0 < n * i.size := Nat.mul_pos hn0 hs
  have hf := Great.fill_whole hs vs ((Array.range (n * i.size)).map (z.cells[· % z.cells.size]!)) h1 (by rw [Array.size_map, Array.size_range, hn])
  rw [← hp] at hf
  have hr := run_buildSlice (P := P) w T e n _ _ i z hu hi h4 (by omega) (by omega) hf
  have hlen : ∀ vs : List Value, (∀ v ∈ vs, v.cells.size = i.size) → (vs.flatMap fun v => v.cells.toList).length = vs.length * i.size := by
    intro vs
    induction vs with
    | nil => intro _; simp
    | cons v t ih =>
      intro h
      rw [List.flatMap_cons, List.length_append, ih (fun u hu => h u (List.mem_cons_of_mem _ hu)), List.length_cons, Nat.add_mul, Array.length_toList, h v List.mem_cons_self]
      omega
  refine ⟨_, _, ?_, ⟨by rw [hlen vs h1, hn], some ⟨w.heap.size, 0, none⟩, n, rfl, Nat.le_refl _, by unfold maxLen; omega, fun j u hj => ⟨_, rfl, ?_⟩⟩, (Below.refl _ _).alloc (Nat.le_refl _) (.cells (vs.flatMap fun v => v.cells.toList).toArray e)⟩
  · unfold execOp
    simp only [hop, Sem.run_bind]
    rw [hr]
    rfl
  · have hadd : (⟨w.heap.size, 0, none⟩ : Addr).add j = ⟨w.heap.size, j, none⟩ := by unfold Addr.add; split <;> simp_all
    rw [hadd]
    unfold World.cell?
    have : (w.alloc (.cells (vs.flatMap fun v => v.cells.toList).toArray e)).heap[w.heap.size]? = some (.cells (vs.flatMap fun v => v.cells.toList).toArray e) := by show (w.heap.push _)[w.heap.size]? = _; simp
    rw [this]
    simpa using hj
theorem Reads.shape {v : Value} {n size : Nat} {xs : List Value} (F : Reads w v n size xs) : ∃ A c, v = .slice A n c := by
  obtain ⟨_, A, c, rfl, _⟩ := F
  exact ⟨A, c, rfl⟩
theorem run_buildN1 {T e : TypeId} {n : Nat} {parts : Array (Nat × Operand)} {z : Value} (vs : List Value) (hop : o.op = .buildSlice T n parts) (hu : P.underlying T = some (.slice e)) (hI : (P.info? e).map (fun i => (i.size, decide (i.bytes ≤ 128), i.zero)) = some (1, true, some z))
    (hn : vs.length = n) (hn0 : (decide (0 < n)) = true) (hn' : (decide (n < 1000)) = true) (hz : z.cells.size = 1) (h1 : ∀ v ∈ vs, v.cells = #[v]) (hp : (parts.map fun (i, x) => (i, a.eval x)).toList = (vs.zipIdx 0).map fun x => (x.2, x.1)) :
    ∃ v w', (execOp a.eval o).run P w = .ok (.value v) w' ∧ Reads w' v n 1 vs ∧ Below w.heap.size w w' := by
  obtain ⟨v, w', h, F, hb⟩ := run_buildN (P := P) (a := a) (w := w) vs hop hu hI rfl rfl hn hn0 hn' hz (fun v hv => by rw [h1 v hv]; rfl) hp
  refine ⟨v, w', h, ?_, hb⟩
  have : ∀ vs : List Value, (∀ v ∈ vs, v.cells = #[v]) → (vs.flatMap fun v => v.cells.toList) = vs := by
    intro vs
    induction vs with
    | nil => intro _; rfl
    | cons u t ih => intro h; rw [List.flatMap_cons, ih (fun x hx => h x (List.mem_cons_of_mem _ hx)), h u List.mem_cons_self]; rfl
  rw [this vs h1] at F
  exact F
theorem alloc_ex {T : TypeId} {cs : Array Value} (hop : o.op = .alloc T) (hz : (zeroValue T).run P w = .ok (.agg cs) w) : ∃ v w1, (execOp a.eval o).run P w = .ok (.value v) w1 ∧ ∃ g, v = .pointer (some ⟨g, 0, none⟩) ∧ w.heap.size ≤ g ∧ g < w1.heap.size ∧ w1.heap[g]? = some (.cells cs T (0, 0)) ∧ Below w.heap.size w w1 := by
  refine ⟨_, _, run_alloc hop hz, w.heap.size, rfl, Nat.le_refl _, ?_, ?_, (Below.refl _ _).alloc (Nat.le_refl _) _⟩
  · show w.heap.size < (w.heap.push _).size; simp
  · show (w.heap.push _)[w.heap.size]? = _; simp
def Tl.reads (n size : Nat) (xs : List Value) : Tl := .lasts (fun v w => Reads w v n size xs) fun _ _ _ h hb => h.below hb
section duties
variable {ops : Array Oper} {Q : Exit → Act → World → Prop} {D : Nat → Value → World → Prop} {k : Nat → Kind} {a0 : Act} {w0 : World} {m i : Nat}
theorem guardedT {j d : Nat} {want : Bool} (hk : k i = .plain) (hg : o.guard = some (j, want)) (hb : bound o j = true) (hd : dstOf ops j = some d) (hD : ∀ (v : Value) (w : World), D j v w → v = .bool want)
    (h : ∀ (a : Act) (w : World), At ops D a0 w0 i o a w → o.wp P a w (fun a' w' => ∃ v, a' = a.put o.dst v ∧ (o.dst ≠ none → D i v w') ∧ Below w.heap.size w w') Q) : Duty P ops Q D k a0 w0 i o :=
  guarded1 (b := want) hk hg hb hd hD (fun hq => by simp at hq) (fun _ => h)
end duties
theorem retct {fn : Func} {p u : Nat} {ty T : TypeId} {g : Nat} {cs : Array Value} {d : TypeDesc} {v : Value} {R : Ending → World → Prop} (h : fn.results = #[.cell p ty, .tmp u]) (hd : a.defers = []) (e : a.eval (.tmp p) = .pointer (some ⟨g, 0, none⟩)) (hb : w.heap[g]? = some (.cells cs T (0, 0)))
    (hu : P.underlying ty = some d) (hrow : d.isRow = true) (hi : (P.info? ty).map (·.size) = some cs.size) (ev : a.eval (.tmp u) = v) (hR : R (.returned (.tuple #[.agg cs, v])) w) : bodyPost P fn R .ret a w := by
  refine ⟨hd, .tuple #[.agg cs, v], ?_, hR⟩
  subst ev
  have e' : a.tmps[p]?.getD undef = .pointer (some ⟨g, 0, none⟩) := by
    have : a.tmps.getD p undef = .pointer (some ⟨g, 0, none⟩) := e
    simpa using this
  have hr := run_loadVar_row (P := P) w g T ty cs _ d hb hu (by cases d <;> simp_all) hi
  have e2 : a.tmps[u]?.getD undef = a.eval (.tmp u) := by
    show _ = a.tmps.getD u undef
    simp
  simp [results, h, e', asAddr, hr, e2]
end Go.Proofs.Eng
end
section
namespace Go.Proofs.YthgafcaoibfchaaDoor.X
open Go Go.RowKit Go.Shelf Go.Proofs
set_option linter.unusedVariables false
set_option linter.unusedSimpArgs false
namespace Nfa
def many (ps : List (List Pth.Part)) : Nat → Int
  | 0 => 0
  | k + 1 => IntKind.i64.wrap (many ps k + IntKind.i64.wrap (((ps.getD k []).length : Int) + 1))
def begs (ps : List (List Pth.Part)) (k : Nat) : List Int := (List.range k).map (many ps)
def code (ps : List (List Pth.Part)) : Int := if (ps.any fun p => !Pth.rightB p) = true then 5 else if 512 < many ps ps.length then 4 else 0
structure Tab (B : Nat) (pv bv : Value) (ps : List (List Pth.Part)) (vs : List Value) (bs : List Int) (w : World) : Prop where
  len : vs.length = ps.length
  pp : w.ownsRow B 82 1 pv ps.length vs
  each : Pth.Each B ps vs w
  bb : w.ownsRow B 3 1 bv bs.length (ints bs)
theorem Tab.below {B : Nat} {pv bv : Value} {ps : List (List Pth.Part)} {vs : List Value} {bs : List Int} {w w' : World} (h : Tab B pv bv ps vs bs w) (hb : Below w.heap.size w w') : Tab B pv bv ps vs bs w' :=
  ⟨h.len, Eng.own_below h.pp hb, h.each.below hb, Eng.own_below h.bb hb⟩
theorem Tab.mono {B B' : Nat} {pv bv : Value} {ps : List (List Pth.Part)} {vs : List Value} {bs : List Int} {w : World} (h : Tab B pv bv ps vs bs w) (hB : B' ≤ B) : Tab B' pv bv ps vs bs w :=
  ⟨h.len, Eng.own_mono h.pp hB, ⟨h.each.len, fun i hi => Eng.own_mono (h.each.row i hi) hB⟩, Eng.own_mono h.bb hB⟩
def Slc (v : Value) : Prop := ∃ A n c, v = .slice A n c
theorem Slc.nil : Slc (.slice none 0 0) := ⟨_, _, _, rfl⟩
def Made (B : Nat) (pv bv : Value) (ps : List (List Pth.Part)) (vs : List Value) (m : Int) (w : World) : Prop := code ps = 0 → Tab B pv bv ps vs (begs ps ps.length) w ∧ m = many ps ps.length
theorem Made.below {B : Nat} {pv bv : Value} {ps : List (List Pth.Part)} {vs : List Value} {m : Int} {w w' : World} (h : Made B pv bv ps vs m w) (hb : Below w.heap.size w w') : Made B pv bv ps vs m w' := fun h0 => ⟨(h h0).1.below hb, (h h0).2⟩
theorem Made.mono {B B' : Nat} {pv bv : Value} {ps : List (List Pth.Part)} {vs : List Value} {m : Int} {w : World} (h : Made B pv bv ps vs m w) (hB : B' ≤ B) : Made B' pv bv ps vs m w := fun h0 => ⟨(h h0).1.mono hB, (h h0).2⟩
end Nfa
end Go.Proofs.YthgafcaoibfchaaDoor.X
end
section
namespace Go.Proofs.YthgafcaoibfchaaDoor.X
open Go Go.RowKit Go.Shelf Go.Proofs Go.Proofs.YthgafcaoibfchaaDoorW.PrintWords Go.Proofs.YthgafcaoibfchaaDoorW.PrintLast Go.Proofs.YthgafcaoibfchaaDoorW.PrintMore
set_option linter.unusedVariables false
set_option linter.unusedSimpArgs false
namespace Nfa
def bv (x : Int) : BitVec 64 := BitVec.ofInt 64 x
theorem wrap_nat (A : BitVec 64) : IntKind.u64.wrap (A.toNat : Int) = (A.toNat : Int) := by
  have h := A.isLt
  simp only [IntKind.wrap, IntKind.bits, IntKind.signed, Bool.false_and, Bool.false_eq_true, if_false]
  omega
theorem bits_or (x y : Int) : Go.bits .or .u64 x y = ((bv x ||| bv y).toNat : Int) := wrap_nat _
theorem bits_and (x y : Int) : Go.bits .and .u64 x y = ((bv x &&& bv y).toNat : Int) := wrap_nat _
theorem bv_cast (n : Nat) : bv (n : Int) = BitVec.ofNat 64 n := by unfold bv; rw [BitVec.ofInt_natCast]
theorem bit_and (X r : Nat) (hr : r < 64) : (Go.bits .and .u64 (shr .u64 (X : Int) (r : Int)) 1 == 1) = X.testBit r := by
  have h1 : shr .u64 (X : Int) (r : Int) = ((X / 2 ^ r : Nat) : Int) := by
    rw [← shr_eq _ hr]; simp
  rw [h1, bits_and, bv_cast, show bv 1 = BitVec.ofNat 64 1 from rfl, BitVec.toNat_and, BitVec.toNat_ofNat, BitVec.toNat_ofNat, Nat.testBit_eq_decide_div_mod_eq]
  have h2 : X / 2 ^ r % 2 ^ 64 &&& 1 % 2 ^ 64 = X / 2 ^ r % 2 := by
    rw [show 1 % 2 ^ 64 = 1 from rfl, Nat.and_one_is_mod]
    omega
  rw [h2, Bool.eq_iff_iff, beq_iff_eq, decide_eq_true_eq]
  omega
theorem bit_or (X r : Nat) (hX : X < 2 ^ 64) (hr : r < 64) : Go.bits .or .u64 (X : Int) (shl .u64 1 (r : Int)) = ((X ||| 2 ^ r : Nat) : Int) ∧ X ||| 2 ^ r < 2 ^ 64 := by
  have hp : (2 : Nat) ^ r < 2 ^ 64 := Nat.pow_lt_pow_right (by omega) hr
  have h1 : shl .u64 1 (r : Int) = ((2 ^ r : Nat) : Int) := by
    rw [← shl_eq _ hr, Int.one_mul]
    have h2 : ((2 : Int) ^ r) = ((2 ^ r : Nat) : Int) := by simp
    rw [h2]
    have hw : ∀ q : Nat, q < 2 ^ 64 → IntKind.u64.wrap (q : Int) = (q : Int) := by
      intro q hq
      simp only [IntKind.wrap, IntKind.bits, IntKind.signed, Bool.false_and, Bool.false_eq_true, if_false]
      omega
    exact hw _ hp
  have h3 : X ||| 2 ^ r < 2 ^ 64 := Nat.or_lt_two_pow hX hp
  refine ⟨?_, h3⟩
  rw [h1, bits_or, bv_cast, bv_cast, BitVec.toNat_or, BitVec.toNat_ofNat, BitVec.toNat_ofNat, Nat.mod_eq_of_lt hX, Nat.mod_eq_of_lt hp]
structure Good (s : List Int) : Prop where
  len : s.length = 8
  lo : ∀ i, i < 8 → 0 ≤ at_ s i
  hi : ∀ i, i < 8 → at_ s i < 18446744073709551616
def off (ps : List (List Pth.Part)) : Nat → Nat
  | 0 => 0
  | k + 1 => off ps k + ((ps.getD k []).length + 1)
structure Ok (ps : List (List Pth.Part)) : Prop where
  m : ∀ k, k ≤ ps.length → many ps k = (off ps k : Int)
  le : off ps ps.length ≤ 512
end Nfa
end Go.Proofs.YthgafcaoibfchaaDoor.X
end
section
namespace Go.Proofs.YthgafcaoibfchaaDoor.X
open Go Go.RowKit Go.Shelf Go.Proofs Go.Proofs.YthgafcaoibfchaaDoor.Spl Go.Proofs.YthgafcaoibfchaaDoorW.PrintWords Go.Proofs.YthgafcaoibfchaaDoorW.PrintLast Go.Proofs.YthgafcaoibfchaaDoorW.PrintMore
set_option linter.unusedVariables false
set_option linter.unusedSimpArgs false
namespace Lpr
def bl (s : ByteArray) : List UInt8 := s.data.toList
theorem bl_back (s : ByteArray) : (⟨(bl s).toArray⟩ : ByteArray) = s := by cases s; rfl
theorem bl_size (s : ByteArray) : (bl s).length = s.size := by cases s; rfl
theorem bl_inj {s t : ByteArray} (h : bl s = bl t) : s = t := by rw [← bl_back s, ← bl_back t, h]
theorem bl_app (s t : ByteArray) : bl (s ++ t) = bl s ++ bl t := by
  unfold bl
  rw [ByteArray.data_append]
  simp
def mayB (l0 l1 : List ByteArray) : Bool := decide (1 ≤ l0.length) && decide (l0.length ≤ 10) && decide (l1.length ≤ 64) && rightB [] l0 && rightB [] l1
theorem may_eq {l0 l1 : List ByteArray} (h0 : l0.length ≤ 1000000) (h1 : l1.length ≤ 1000000) (s0 : ∀ s ∈ l0, s.size ≤ maxLen) (s1 : ∀ s ∈ l1, s.size ≤ maxLen) : lattice_May.f l0 l1 = some (mayB l0 l1) := by
  have e0 : lattice_right.f l0 = some (rightB [] l0) := by
    unfold lattice_right.f
    rw [if_pos ⟨h0, List.all_eq_true.2 fun s hs => decide_eq_true (s0 s hs)⟩]
  have e1 : lattice_right.f l1 = some (rightB [] l1) := by
    unfold lattice_right.f
    rw [if_pos ⟨h1, List.all_eq_true.2 fun s hs => decide_eq_true (s1 s hs)⟩]
  unfold lattice_May.f mayB
  rw [e0, e1]
  by_cases a : 1 ≤ l0.length
  · rw [if_pos (by omega), decide_eq_true a]
    by_cases b : l0.length ≤ 10
    · rw [if_pos (by omega), decide_eq_true b]
      by_cases c : l1.length ≤ 64
      · rw [if_pos (by omega), decide_eq_true c]
        simp only [Option.bind_some, Bool.true_and]
        cases h : rightB [] l0 <;> simp
      · rw [if_neg (by omega), decide_eq_false c]; simp
    · rw [if_neg (by omega), decide_eq_false b]; simp
  · rw [if_neg (by omega), decide_eq_false a]; simp
theorem name_ok {s : ByteArray} (h : lexname.g s = true) : bl s ≠ [] ∧ s.size ≤ 40 ∧ (∀ b ∈ bl s, b ≠ 58) ∧ ∀ b ∈ bl s, b ≠ 44 := by
  unfold lexname.g at h
  simp only [Bool.and_eq_true, decide_eq_true_eq, List.all_eq_true] at h
  obtain ⟨⟨h1, h2⟩, h3⟩ := h
  refine ⟨fun e => ?_, h2, fun b hb e => ?_, fun b hb e => ?_⟩
  · have : s.toList = [] := by rw [ByteArray.toList_eq]; exact e
    rw [this] at h1; simp at h1
  · have := h3 b hb
    subst e; revert this; decide
  · have := h3 b hb
    subst e; revert this; decide
theorem right_ok : ∀ (l : List ByteArray) (pre : List (List UInt8)), rightB pre l = true → (∀ s ∈ l, lexname.g s = true ∧ bl s ∉ pre) ∧ l.Nodup
  | [], _, _ => ⟨fun s h => absurd h (by simp), List.nodup_nil⟩
  | x :: t, pre, h => by
    rw [rightB] at h
    simp only [Bool.and_eq_true, Bool.not_eq_true', decide_eq_false_iff_not] at h
    obtain ⟨⟨h1, h2⟩, h3⟩ := h
    obtain ⟨h4, h5⟩ := right_ok t _ h3
    refine ⟨fun s hs => ?_, List.nodup_cons.2 ⟨fun hx => (h4 x hx).2 (by simp [bl]), h5⟩⟩
    rcases List.mem_cons.1 hs with rfl | hs
    · exact ⟨h1, h2⟩
    · exact ⟨(h4 s hs).1, fun e => (h4 s hs).2 (List.mem_append_left _ e)⟩
theorem may_ok {l0 l1 : List ByteArray} (h : mayB l0 l1 = true) : (1 ≤ l0.length ∧ l0.length ≤ 10 ∧ l1.length ≤ 64) ∧ ((∀ s ∈ l0, lexname.g s = true) ∧ l0.Nodup) ∧ (∀ s ∈ l1, lexname.g s = true) ∧ l1.Nodup := by
  unfold mayB at h
  simp only [Bool.and_eq_true, decide_eq_true_eq] at h
  obtain ⟨⟨⟨⟨h1, h2⟩, h3⟩, h4⟩, h5⟩ := h
  exact ⟨⟨h1, h2, h3⟩, ⟨fun s hs => ((right_ok _ _ h4).1 s hs).1, (right_ok _ _ h4).2⟩, fun s hs => ((right_ok _ _ h5).1 s hs).1, (right_ok _ _ h5).2⟩
theorem ib_none (c : UInt8) : ∀ l : List UInt8, (∀ b ∈ l, b ≠ c) → Lib.indexByte l c = -1
  | [], _ => rfl
  | b :: l, h => by
    have h1 : (b == c) = false := by rw [beq_eq_false_iff_ne]; exact h b List.mem_cons_self
    rw [Lib.indexByte, h1, ib_none c l fun x hx => h x (List.mem_cons_of_mem _ hx)]
    simp
theorem ib_app (c : UInt8) (r : List UInt8) : ∀ l : List UInt8, (∀ b ∈ l, b ≠ c) → Lib.indexByte (l ++ c :: r) c = (l.length : Int)
  | [], _ => by simp [Lib.indexByte]
  | b :: l, h => by
    have h1 : (b == c) = false := by rw [beq_eq_false_iff_ne]; exact h b List.mem_cons_self
    have h2 := ib_app c r l fun x hx => h x (List.mem_cons_of_mem _ hx)
    rw [List.cons_append, Lib.indexByte, h1, h2]
    have h3 : ((l.length : Int) == -1) = false := by rw [beq_eq_false_iff_ne]; omega
    rw [h3]
    simp
theorem cut_none {l : List UInt8} (h : ∀ b ∈ l, b ≠ 58) : cutL l = (l, [], false) := by
  unfold cutL; rw [ib_none 58 l h, if_pos (by omega)]
theorem cut_app {l r : List UInt8} (h : ∀ b ∈ l, b ≠ 58) : cutL (l ++ 58 :: r) = (l, r, true) := by
  unfold cutL; rw [ib_app 58 r l h, if_neg (by omega)]
  simp
theorem join2 (x y : List UInt8) (t : List (List UInt8)) : Lib.join (x :: y :: t) [44] = x ++ 44 :: Lib.join (y :: t) [44] := by
  rw [Lib.join_cons, Lib.join_cons]
  simp [Lib.joinTail]
theorem pieces_join : ∀ (xs : List (List UInt8)) (n : Nat), xs ≠ [] → (∀ x ∈ xs, ∀ b ∈ x, b ≠ 44) → xs.length ≤ n + 1 → pieces n (Lib.join xs [44]) = xs
  | [], _, h, _, _ => absurd rfl h
  | [x], n, _, h, _ => by
    rw [Lib.join_one]
    cases n with
    | zero => rfl
    | succ n => rw [pieces, ib_none 44 x (h x List.mem_cons_self), if_pos (by omega)]
  | x :: y :: t, n, _, h, hn => by
    cases n with
    | zero => simp at hn
    | succ n =>
      have ih := pieces_join (y :: t) n (by simp) (fun z hz => h z (List.mem_cons_of_mem _ hz)) (by simpa using hn)
      rw [join2, pieces, ib_app 44 _ x (h x List.mem_cons_self), if_neg (by omega)]
      simp only [Int.toNat_natCast]
      rw [List.take_left' rfl, ← List.drop_drop, List.drop_left' rfl, List.drop_one, List.tail_cons, ih]
theorem join_len : ∀ (xs : List (List UInt8)), xs ≠ [] → xs.length ≤ (Lib.join xs [44]).length + 1
  | [], h => absurd rfl h
  | [x], _ => by simp
  | x :: y :: t, _ => by
    have := join_len (y :: t) (by simp)
    rw [join2]
    simp only [List.length_cons, List.length_append] at this ⊢
    omega
theorem join_le : ∀ (xs : List (List UInt8)), (∀ x ∈ xs, x.length ≤ 40) → (Lib.join xs [44]).length ≤ 41 * xs.length
  | [], _ => by rw [Lib.join_nil]; simp
  | [x], h => by rw [Lib.join_one]; have := h x List.mem_cons_self; simp; omega
  | x :: y :: t, h => by
    have := join_le (y :: t) fun z hz => h z (List.mem_cons_of_mem _ hz)
    have h1 := h x List.mem_cons_self
    rw [join2]
    simp only [List.length_cons, List.length_append] at this ⊢
    omega
theorem place_at {l : List ByteArray} (hn : l.Nodup) {i : Nat} (hi : i < l.length) : place l (bl (l.getD i ByteArray.empty)) = (i : Int) := by
  unfold place
  rw [bl_back]
  unfold Lib.idxOfS
  rw [Lib.idxFromS_hit _ l i 0 hi rfl, Nat.zero_add]
  intro j hj e
  rw [List.getD_eq_getElem?_getD, List.getD_eq_getElem?_getD, List.getElem?_eq_getElem (show j < l.length by omega), List.getElem?_eq_getElem hi] at e
  exact (List.pairwise_iff_getElem.1 hn j i (by omega) hi hj) e
def selN : List ByteArray → Nat → Nat → List ByteArray
  | [], _, _ => []
  | s :: t, X, i => if X.testBit i = true then s :: selN t X (i + 1) else selN t X (i + 1)
theorem selN_sub : ∀ (l : List ByteArray) (X i : Nat), ∀ s ∈ selN l X i, s ∈ l
  | [], _, _, s, h => h
  | x :: t, X, i, s, h => by
    rw [selN] at h
    split at h
    · rcases List.mem_cons.1 h with rfl | h
      · exact List.mem_cons_self
      · exact List.mem_cons_of_mem _ (selN_sub t X _ s h)
    · exact List.mem_cons_of_mem _ (selN_sub t X _ s h)
theorem selN_len : ∀ (l : List ByteArray) (X i : Nat), (selN l X i).length ≤ l.length
  | [], _, _ => Nat.le_refl _
  | x :: t, X, i => by
    have := selN_len t X (i + 1)
    rw [selN]
    split <;> simp <;> omega
theorem selN_bits : ∀ (l : List ByteArray) (X i : Nat), selN l X i = [] → ∀ j, i ≤ j → j < i + l.length → X.testBit j = false
  | [], _, _, _, j, h1, h2 => by simp at h2; omega
  | x :: t, X, i, h, j, h1, h2 => by
    rw [selN] at h
    cases hb : X.testBit i with
    | true => rw [hb, if_pos rfl] at h; cases h
    | false =>
      rw [hb, if_neg (by simp)] at h
      rcases Nat.lt_or_ge i j with hlt | hge
      · exact selN_bits t X (i + 1) h j hlt (by simp at h2; omega)
      · have : j = i := by omega
        rw [this]; exact hb
theorem bitLen_lt : ∀ (f x : Nat), x < 2 ^ f → x < 2 ^ Lib.bitLenAux f x
  | 0, x, h => h
  | f + 1, x, h => by
    rw [Lib.bitLenAux]
    split
    · rename_i h0; rw [h0]; simp
    · have h1 := bitLen_lt f (x / 2) (by rw [Nat.pow_succ] at h; omega)
      rw [Nat.add_comm, Nat.pow_succ]
      omega
theorem cats_sel (l1 : List ByteArray) (hn : l1.Nodup) (h64 : l1.length ≤ 64) (X : Nat) : ∀ (t : List ByteArray) (i Y : Nat), l1.drop i = t → Y < 2 ^ 64 → ∃ Z : Nat, catsOf l1 ((selN t X i).map bl) (Y : Int) = (Z : Int) ∧ Z < 2 ^ 64 ∧ ∀ j, Z.testBit j = (Y.testBit j || (decide (i ≤ j) && decide (j < l1.length) && X.testBit j))
  | [], i, Y, ht, hY => by
    refine ⟨Y, rfl, hY, fun j => ?_⟩
    have : l1.length ≤ i := List.drop_eq_nil_iff.1 ht
    by_cases h : i ≤ j
    · rw [decide_eq_false (show ¬ j < l1.length by omega)]; simp
    · rw [decide_eq_false h]; simp
  | s :: t, i, Y, ht, hY => by
    have hi : i < l1.length := by
      rcases Nat.lt_or_ge i l1.length with h | h
      · exact h
      · rw [List.drop_eq_nil_of_le h] at ht; cases ht
    have hs : s = l1.getD i ByteArray.empty ∧ l1.drop (i + 1) = t := by
      rw [List.drop_eq_getElem_cons hi] at ht
      injection ht with h1 h2
      rw [List.getD_eq_getElem?_getD, List.getElem?_eq_getElem hi]
      exact ⟨h1.symm, h2⟩
    have split : ∀ j, (decide (i ≤ j) && decide (j < l1.length) && X.testBit j) = ((decide (j = i) && X.testBit i) || (decide (i + 1 ≤ j) && decide (j < l1.length) && X.testBit j)) := by
      intro j
      rcases Nat.lt_trichotomy j i with h | h | h
      · rw [decide_eq_false (show ¬ i ≤ j by omega), decide_eq_false (show ¬ j = i by omega), decide_eq_false (show ¬ i + 1 ≤ j by omega)]; simp
      · subst h
        rw [decide_eq_true (Nat.le_refl j), decide_eq_true hi, decide_eq_false (show ¬ j + 1 ≤ j by omega)]; simp
      · rw [decide_eq_true (show i ≤ j by omega), decide_eq_false (show ¬ j = i by omega), decide_eq_true (show i + 1 ≤ j by omega)]; simp
    rw [selN]
    cases hb : X.testBit i with
    | true =>
      rw [if_pos rfl, List.map_cons]
      have hor := Nfa.bit_or Y i hY (by omega)
      have e : catsOf l1 (bl s :: (selN t X (i + 1)).map bl) (Y : Int) = catsOf l1 ((selN t X (i + 1)).map bl) ((Y ||| 2 ^ i : Nat) : Int) := by
        unfold catsOf
        rw [List.foldl_cons, hs.1, place_at hn hi]
        unfold orAt
        rw [if_pos (by omega), hor.1]
      rw [e]
      obtain ⟨Z, h1, h2, h3⟩ := cats_sel l1 hn h64 X t (i + 1) _ hs.2 hor.2
      refine ⟨Z, h1, h2, fun j => ?_⟩
      rw [h3, split j, Nat.testBit_or, Nat.testBit_two_pow, hb]
      have : decide (i = j) = decide (j = i) := by rw [Bool.eq_iff_iff, decide_eq_true_eq, decide_eq_true_eq]; omega
      rw [this]
      cases Y.testBit j <;> cases decide (j = i) <;> simp
    | false =>
      rw [if_neg (by simp)]
      obtain ⟨Z, h1, h2, h3⟩ := cats_sel l1 hn h64 X t (i + 1) Y hs.2 hY
      refine ⟨Z, h1, h2, fun j => ?_⟩
      rw [h3, split j, hb]; simp
def finL (lvl : List UInt8) (xs : List (List UInt8)) : List UInt8 := if xs = [] then lvl else lvl ++ 58 :: Lib.join xs [44]
def textL (l0 l1 : List ByteArray) (lv ct : Int) : List UInt8 := finL (bl (rdOf ByteArray.empty l0 lv)) ((selN l1 ct.toNat 0).map bl)
def rightL (l0 l1 : List ByteArray) (lv ct : Int) : Bool := decide (0 ≤ lv) && decide (lv < (l0.length : Int)) && decide ((Lib.bitLen ct.toNat : Int) ≤ (l1.length : Int))
def printB (l0 l1 : List ByteArray) (lv ct : Int) : List UInt8 := if (mayB l0 l1 && rightL l0 l1 lv ct) = true then textL l0 l1 lv ct else []
theorem right_eq {l0 l1 : List ByteArray} {lv ct : Int} (hc0 : 0 ≤ ct) (hc1 : ct ≤ 18446744073709551615) : lattice_Right.f lv ct (l0.length : Int) (l1.length : Int) = some (rightL l0 l1 lv ct) := by
  unfold lattice_Right.f rightL bits_Len64.f
  by_cases a : lv ≥ 0
  · rw [if_pos a, decide_eq_true (show 0 ≤ lv from a)]
    by_cases b : lv < (l0.length : Int)
    · rw [if_pos b, if_pos ⟨hc0, hc1⟩, decide_eq_true b]
      have : mx (l1.length : Int) 0 = (l1.length : Int) := by unfold mx; split <;> omega
      rw [this]; rfl
    · rw [if_neg b, decide_eq_false b]; simp
  · rw [if_neg a, decide_eq_false (show ¬ 0 ≤ lv from a)]; simp
theorem l0_run {l0 l1 : List ByteArray} {lv ct : Int} (h0 : 0 ≤ lv) (h1 : lv < (l0.length : Int)) (hc0 : 0 ≤ ct) (h64 : l1.length ≤ 64) (hsz : ∀ s ∈ l0, s.size ≤ 40) (hs1 : ∀ s ∈ l1, s.size ≤ 40) : ∀ (t : List ByteArray) (i : Nat) (acc : List ByteArray), l1.drop i = t → acc.length ≤ i → (∀ s ∈ acc, s.size ≤ 40) → i ≤ l1.length →
    ∃ k r, lattice_Print.l0 k acc l1 (l1.length : Int) (i : Int) l0 l1 lv ct = some r ∧ bl r = finL (bl (rdOf ByteArray.empty l0 lv)) ((acc ++ selN t ct.toNat i).map bl)
  | [], i, acc, ht, ha, hacc, hi => by
    have : l1.length ≤ i := List.drop_eq_nil_iff.1 ht
    rw [show selN [] ct.toNat i = [] from rfl, List.append_nil]
    have hlvl : (rdOf ByteArray.empty l0 lv).size ≤ 40 := by
      unfold rdOf
      rw [List.getD_eq_getElem?_getD, List.getElem?_eq_getElem (show lv.toNat < l0.length by omega)]
      exact hsz _ (List.getElem_mem _)
    by_cases hz : acc = []
    · refine ⟨1, rdOf ByteArray.empty l0 lv, ?_, by rw [hz]; rfl⟩
      rw [lattice_Print.l0, if_neg (by omega), if_pos hz, if_pos h0, if_pos h1]
    · have hj : (Lib.join (acc.map (·.data.toList)) [44]).length ≤ 41 * 64 := by
        refine Nat.le_trans (join_le _ fun x hx => ?_) (by rw [List.length_map]; omega)
        obtain ⟨s, hs, rfl⟩ := List.mem_map.1 hx
        have := hacc s hs
        rw [← bl_size] at this; exact this
      have hjf : strings_Join.f acc ⟨#[44]⟩ = some ⟨(Lib.join (acc.map (·.data.toList)) [44]).toArray⟩ := by
        unfold strings_Join.f
        rw [if_pos ⟨hz, by omega, by show (Lib.join (acc.map (·.data.toList)) [44]).length ≤ _; omega⟩]
      have hsum : ((rdOf ByteArray.empty l0 lv) ++ (⟨#[58]⟩ : ByteArray)).size = (rdOf ByteArray.empty l0 lv).size + 1 := by
        rw [← bl_size, bl_app, List.length_append, bl_size]; rfl
      have hjs : (⟨(Lib.join (acc.map (·.data.toList)) [44]).toArray⟩ : ByteArray).size = (Lib.join (acc.map (·.data.toList)) [44]).length := by
        show (Lib.join (acc.map (·.data.toList)) [44]).toArray.size = _; simp
      refine ⟨1, ((rdOf ByteArray.empty l0 lv) ++ (⟨#[58]⟩ : ByteArray)) ++ ⟨(Lib.join (acc.map (·.data.toList)) [44]).toArray⟩, ?_, ?_⟩
      · rw [lattice_Print.l0, if_neg (by omega), if_neg hz, if_pos h0, if_pos h1, if_pos (by omega), hjf]
        simp only [Option.bind_some]
        rw [if_pos (by rw [hsum, hjs]; omega)]
      · rw [bl_app, bl_app]
        unfold finL
        rw [if_neg (by intro e; exact hz (List.map_eq_nil_iff.1 e)), List.append_assoc]
        rfl
  | s :: t, i, acc, ht, ha, hacc, hi => by
    have hi' : i < l1.length := by
      rcases Nat.lt_or_ge i l1.length with h | h
      · exact h
      · rw [List.drop_eq_nil_of_le h] at ht; cases ht
    have hs : s = rdOf ByteArray.empty l1 (i : Int) ∧ l1.drop (i + 1) = t ∧ s ∈ l1 := by
      rw [List.drop_eq_getElem_cons hi'] at ht
      injection ht with e1 e2
      refine ⟨?_, e2, e1 ▸ List.getElem_mem _⟩
      unfold rdOf
      rw [Int.toNat_natCast, List.getD_eq_getElem?_getD, List.getElem?_eq_getElem hi']; exact e1.symm
    have hw : wrap64 ((i : Int) + 1) = ((i + 1 : Nat) : Int) := by unfold wrap64; omega
    obtain ⟨X, hX⟩ := Int.eq_ofNat_of_zero_le hc0
    have hbit : ((Go.bits .and .u64 (shr .u64 ct (i : Int)) 1) = 1) ↔ ct.toNat.testBit i = true := by
      have := Nfa.bit_and X i (by omega)
      rw [hX, Int.toNat_natCast, ← this, beq_iff_eq]
    rw [selN]
    by_cases hb : ct.toNat.testBit i = true
    · obtain ⟨k, r, h2, h3⟩ := l0_run h0 h1 hc0 h64 hsz hs1 t (i + 1) (acc ++ [s]) hs.2.1 (by simp; omega) (fun x hx => by
        rcases List.mem_append.1 hx with hx | hx
        · exact hacc x hx
        · rw [List.mem_singleton.1 hx]; exact hs1 s hs.2.2) hi'
      refine ⟨k + 1, r, ?_, ?_⟩
      · rw [lattice_Print.l0, if_pos (by omega), if_pos (by omega), if_pos (by omega), if_pos (hbit.2 hb), if_pos (by omega), hw, ← hs.1]
        exact h2
      · rw [h3, if_pos hb, List.append_assoc]; rfl
    · obtain ⟨k, r, h2, h3⟩ := l0_run h0 h1 hc0 h64 hsz hs1 t (i + 1) acc hs.2.1 (by omega) hacc hi'
      refine ⟨k + 1, r, ?_, ?_⟩
      · rw [lattice_Print.l0, if_pos (by omega), if_pos (by omega), if_pos (by omega), if_neg (fun e => hb (hbit.1 e)), hw]
        exact h2
      · rw [h3, if_neg hb]
theorem print_eq {l0 l1 : List ByteArray} {lv ct : Int} (h0 : l0.length ≤ 1000000) (h1 : l1.length ≤ 1000000) (s0 : ∀ s ∈ l0, s.size ≤ maxLen) (s1 : ∀ s ∈ l1, s.size ≤ maxLen) (hc0 : 0 ≤ ct) (hc1 : ct ≤ 18446744073709551615) : ∃ k r, lattice_Print.f k l0 l1 lv ct = some r ∧ bl r = printB l0 l1 lv ct := by
  unfold lattice_Print.f printB
  rw [may_eq h0 h1 s0 s1]
  simp only [Option.bind_some]
  cases hm : mayB l0 l1 with
  | false =>
    refine ⟨1, ⟨#[]⟩, ?_, by simp [bl]⟩
    rw [if_neg (by simp), lattice_Print.j0, if_pos rfl]
  | true =>
    simp only [if_true, right_eq hc0 hc1, Option.bind_some]
    cases hr : rightL l0 l1 lv ct with
    | false =>
      refine ⟨1, ⟨#[]⟩, ?_, by simp [bl]⟩
      rw [Bool.not_false, lattice_Print.j0, if_pos rfl]
    | true =>
      have hr' := hr
      unfold rightL at hr'
      simp only [Bool.and_eq_true, decide_eq_true_eq] at hr'
      obtain ⟨⟨a, _, c⟩, ⟨b1, _⟩, d1, _⟩ := may_ok hm
      obtain ⟨k, r, h2, h3⟩ := l0_run (ct := ct) hr'.1.1 hr'.1.2 hc0 c (fun s hs => (name_ok (b1 s hs)).2.1) (fun s hs => (name_ok (d1 s hs)).2.1) l1 0 [] rfl (Nat.le_refl _) (fun s h => absurd h (by simp)) (Nat.zero_le _)
      refine ⟨k + 1, r, ?_, h3⟩
      rw [Bool.not_true, lattice_Print.j0, if_neg (by simp)]
      exact h2
theorem back {l0 l1 : List ByteArray} {lv ct : Int} (hm : mayB l0 l1 = true) (hr : rightL l0 l1 lv ct = true) (hc0 : 0 ≤ ct) (hc1 : ct ≤ 18446744073709551615) : textL l0 l1 lv ct ≠ [] ∧ (textL l0 l1 lv ct).length ≤ 3000 ∧ ∃ a b has, cutL (textL l0 l1 lv ct) = (a, b, has) ∧ place l0 a = lv ∧ (has = false → ct = 0) ∧ (has = true → catsOf l1 (pieces b.length b) 0 = ct) := by
  obtain ⟨⟨a1, a2, a3⟩, ⟨b1, b2⟩, d1, d2⟩ := may_ok hm
  unfold rightL at hr
  simp only [Bool.and_eq_true, decide_eq_true_eq] at hr
  obtain ⟨⟨r1, r2⟩, r3⟩ := hr
  obtain ⟨X, rfl⟩ := Int.eq_ofNat_of_zero_le hc0
  obtain ⟨n, rfl⟩ := Int.eq_ofNat_of_zero_le r1
  have hn : n < l0.length := by omega
  have hX : X < 2 ^ l1.length := by
    have h1 := bitLen_lt 64 X (by omega)
    refine Nat.lt_of_lt_of_le h1 (Nat.pow_le_pow_right (by omega) ?_)
    rw [Int.toNat_natCast] at r3
    have : Lib.bitLen X ≤ l1.length := by omega
    exact this
  have hbits : ∀ j, l1.length ≤ j → X.testBit j = false := fun j hj => Nat.testBit_lt_two_pow (Nat.lt_of_lt_of_le hX (Nat.pow_le_pow_right (by omega) hj))
  have hlv : rdOf ByteArray.empty l0 (n : Int) = l0.getD n ByteArray.empty := by unfold rdOf; rw [Int.toNat_natCast]
  have hmem : l0.getD n ByteArray.empty ∈ l0 := by rw [List.getD_eq_getElem?_getD, List.getElem?_eq_getElem hn]; exact List.getElem_mem _
  obtain ⟨n1, n2, n3, n4⟩ := name_ok (b1 _ hmem)
  rw [← bl_size] at n2
  unfold textL
  rw [hlv, Int.toNat_natCast]
  have hsel : ∀ x ∈ (selN l1 X 0).map bl, x.length ≤ 40 ∧ ∀ b ∈ x, b ≠ 44 := fun x hx => by
    obtain ⟨s, hs, rfl⟩ := List.mem_map.1 hx
    obtain ⟨m1, m2, m3, m4⟩ := name_ok (d1 s (selN_sub _ _ _ s hs))
    rw [← bl_size] at m2
    exact ⟨m2, m4⟩
  by_cases hz : (selN l1 X 0).map bl = []
  · unfold finL
    rw [if_pos hz]
    refine ⟨n1, by omega, _, _, _, cut_none n3, place_at b2 hn, (fun _ => ?_), (fun h => by cases h)⟩
    have h1 := selN_bits l1 X 0 (List.map_eq_nil_iff.1 hz)
    have : X = 0 := Nat.eq_of_testBit_eq fun j => by
      rw [Nat.zero_testBit]
      rcases Nat.lt_or_ge j l1.length with h | h
      · exact h1 j (Nat.zero_le _) (by omega)
      · exact hbits j h
    rw [this]; rfl
  · unfold finL
    rw [if_neg hz]
    have hlen := selN_len l1 X 0
    have hjl := join_le _ fun x hx => (hsel x hx).1
    rw [List.length_map] at hjl
    refine ⟨by simp, by (rw [List.length_append, List.length_cons]; omega), _, _, _, cut_app n3, place_at b2 hn, (fun h => by cases h), fun _ => ?_⟩
    rw [pieces_join _ _ hz (fun x hx => (hsel x hx).2) (by have := join_len _ hz; omega)]
    obtain ⟨Z, h1, h2, h3⟩ := cats_sel l1 d2 a3 X l1 0 0 rfl (by omega)
    have e : catsOf l1 ((selN l1 X 0).map bl) 0 = (Z : Int) := h1
    rw [e]
    have : Z = X := Nat.eq_of_testBit_eq fun j => by
      rw [h3 j, Nat.zero_testBit, Bool.false_or, decide_eq_true (Nat.zero_le j), Bool.true_and]
      rcases Nat.lt_or_ge j l1.length with h | h
      · rw [decide_eq_true h, Bool.true_and]
      · rw [decide_eq_false (show ¬ j < l1.length by omega), Bool.false_and, hbits j h]
    rw [this]
end Lpr
end Go.Proofs.YthgafcaoibfchaaDoor.X
end
section
namespace Go.Proofs.YthgafcaoibfchaaDoor.X
open Go Go.RowKit Go.Shelf Go.Proofs Go.Proofs.YthgafcaoibfchaaDoor.Spl Go.Proofs.YthgafcaoibfchaaDoorW.PrintWords Go.Proofs.YthgafcaoibfchaaDoorW.PrintLast Go.Proofs.YthgafcaoibfchaaDoorW.PrintMore
set_option linter.unusedVariables false
set_option linter.unusedSimpArgs false
namespace Lpr
theorem kd {w : World} {v : Value} {l : List ByteArray} (F : Eng.Reads w v l.length 1 (Nfa.strs l)) : ∃ A c, v = .slice A l.length c ∧ Kd.C Kd.string w A l.length l ∧ l.length ≤ c := by
  have hm := Eng.Reads.len_le F
  obtain ⟨_, A, c, rfl, hc, _, hx⟩ := F
  refine ⟨A, c, rfl, ?_, hc⟩
  refine Kd.C_of_reads (d := ByteArray.empty) ⟨rfl, hm, fun h0 => ?_⟩
  obtain ⟨ad, rfl, _⟩ := hx 0 _ (by rw [← Nat.zero_mul 1]; exact Nfa.strs_at l 0 h0)
  refine ⟨ad, rfl, fun j hj => ?_⟩
  obtain ⟨ad', e, hcell⟩ := hx j _ (by rw [← Nat.mul_one j]; exact Nfa.strs_at l j hj)
  injection e with e
  subst e
  rw [hcell]
  simp [List.getD_eq_getElem?_getD, List.getElem?_eq_getElem hj]
structure Small (l : List ByteArray) : Prop where
  len : l.length ≤ 100
  sz : ∀ s ∈ l, s.size ≤ 3000
theorem Small.mx {l : List ByteArray} (h : Small l) : ∀ s ∈ l, s.size ≤ maxLen := fun s hs => by have := h.sz s hs; unfold maxLen; omega
section
variable {v0 v1 : Value} {l0 l1 : List ByteArray} {w : World} (F0 : Eng.Reads w v0 l0.length 1 (Nfa.strs l0)) (F1 : Eng.Reads w v1 l1.length 1 (Nfa.strs l1)) (S0 : Small l0) (S1 : Small l1)
include F0 F1 S0 S1
theorem may_calls : Calls Tryd.prog 31 #[.agg #[v0, v1]] w fun e w' => e = .returned (.bool (mayB l0 l1)) ∧ Below w.heap.size w w' := by
  obtain ⟨A0, c0, rfl, k0, h0⟩ := kd F0
  obtain ⟨A1, c1, rfl, k1, h1⟩ := kd F1
  exact lattice_May.calls A0 c0 l0 A1 c1 l1 _ w k0 h0 k1 h1 (may_eq (by have := S0.len; omega) (by have := S1.len; omega) S0.mx S1.mx)
theorem print_calls (lv ct : Int) (hc0 : 0 ≤ ct) (hc1 : ct ≤ 18446744073709551615) : Calls Tryd.prog 33 #[.agg #[v0, v1], .agg #[.int .i64 lv, .int .u64 ct]] w fun e w' => e = .returned (.string ⟨(printB l0 l1 lv ct).toArray⟩) ∧ Below w.heap.size w w' := by
  obtain ⟨A0, c0, rfl, k0, h0⟩ := kd F0
  obtain ⟨A1, c1, rfl, k1, h1⟩ := kd F1
  obtain ⟨k, r, h2, h3⟩ := print_eq (lv := lv) (ct := ct) (by have := S0.len; omega) (by have := S1.len; omega) S0.mx S1.mx hc0 hc1
  have h := lattice_Print.calls k A0 c0 l0 A1 c1 l1 lv ct r w k0 h0 k1 h1 h2
  rw [← h3, bl_back]
  exact h
end
theorem index_calls {v0 : Value} {l0 : List ByteArray} {w : World} (F0 : Eng.Reads w v0 l0.length 1 (Nfa.strs l0)) (S0 : Small l0) (s : ByteArray) : Calls Tryd.prog 71 #[v0, .string s] w fun e w' => e = .returned (.int .i64 (place l0 (bl s))) ∧ Below w.heap.size w w' := by
  obtain ⟨A0, c0, rfl, k0, h0⟩ := kd F0
  have h := index_any A0 c0 l0 (bl s) w k0 (by have := S0.len; omega)
  rw [bl_back] at h
  refine h.mono ?_
  rintro e w' ⟨rfl, rfl⟩
  exact ⟨rfl, Below.refl _ _⟩
theorem drewN_below (w : World) (n : Nat) : Below w.heap.size w (w.drewN n) := by
  have gen : ∀ (n : Nat) (W : World), Below w.heap.size w W → Below w.heap.size w (W.drewN n) := by
    intro n W h
    exact ⟨h.os, h.tape, h.output, h.size, h.block⟩
  exact gen n w (Below.refl _ _)
theorem cut_calls (s : ByteArray) (w : World) (hs : s.size ≤ 1000000) (h : cutL (bl s) = (bl s, [], false)) : Calls Tryd.prog 70 #[.string s, .string ⟨#[58]⟩] w fun e w' => e = .returned (.tuple #[.string s, .string ⟨#[]⟩, .bool false]) ∧ Below w.heap.size w w' := by
  have h1 := cut_one (bl s) w (by rw [bl_size]; exact hs)
  rw [h] at h1
  simp only [bl_back] at h1
  refine h1.mono ?_
  rintro e w' ⟨rfl, n, rfl⟩
  exact ⟨rfl, drewN_below w n⟩
theorem cats_range (l1 : List ByteArray) : ∀ (ps : List (List UInt8)) (c : Int), 0 ≤ c ∧ c ≤ 18446744073709551615 → 0 ≤ catsOf l1 ps c ∧ catsOf l1 ps c ≤ 18446744073709551615
  | [], c, h => h
  | x :: ps, c, h => by
    have : catsOf l1 (x :: ps) c = catsOf l1 ps (orAt c (place l1 x)) := rfl
    rw [this]
    refine cats_range l1 ps _ ?_
    unfold orAt
    split
    · rw [Nfa.bits_or]
      have := (Nfa.bv c ||| Nfa.bv (shl .u64 1 (place l1 x))).isLt
      omega
    · exact h
def parseB (l0 l1 : List ByteArray) (s : List UInt8) : Int × Int × Int :=
  if mayB l0 l1 = false then (0, 0, 2) else
  let lv := place l0 (cutL s).1
  let ct := if (cutL s).2.2 = true then catsOf l1 (pieces (cutL s).2.1.length (cutL s).2.1) 0 else 0
  if s = [] ∨ printB l0 l1 lv ct ≠ s then (0, 0, 17) else (lv, ct, 0)
theorem parse_back {l0 l1 : List ByteArray} {lv ct : Int} (hm : mayB l0 l1 = true) (hr : rightL l0 l1 lv ct = true) (hc0 : 0 ≤ ct) (hc1 : ct ≤ 18446744073709551615) : parseB l0 l1 (textL l0 l1 lv ct) = (lv, ct, 0) := by
  obtain ⟨h1, _, a, b, has, h2, h3, h4, h5⟩ := back hm hr hc0 hc1
  have hct : (if has = true then catsOf l1 (pieces b.length b) 0 else 0) = ct := by
    cases has with
    | true => rw [if_pos rfl]; exact h5 rfl
    | false => rw [if_neg (by simp)]; exact (h4 rfl).symm
  have hp : printB l0 l1 lv ct = textL l0 l1 lv ct := by unfold printB; rw [hm, hr]; rfl
  unfold parseB
  rw [if_neg (by rw [hm]; simp), h2]
  simp only
  rw [h3, hct, hp, if_neg]
  rintro (e | e)
  · exact h1 e
  · exact e rfl
theorem print_not {l0 l1 : List ByteArray} {lv ct : Int} (h : (!mayB l0 l1 || !rightL l0 l1 lv ct) = true) : printB l0 l1 lv ct = [] := by
  unfold printB
  rw [if_neg]
  cases h1 : mayB l0 l1 <;> cases h2 : rightL l0 l1 lv ct <;> simp_all
theorem print_is {l0 l1 : List ByteArray} {lv ct : Int} (hm : mayB l0 l1 = true) (hr : rightL l0 l1 lv ct = true) : printB l0 l1 lv ct = textL l0 l1 lv ct := by unfold printB; rw [hm, hr]; rfl
theorem tl (l : List UInt8) : (⟨l.toArray⟩ : ByteArray).toList = l := by rw [ByteArray.toList_eq]
theorem or_ne {s : ByteArray} {l : List UInt8} (h : (s.toList.isEmpty || !((⟨l.toArray⟩ : ByteArray).toList == s.toList)) = true) : bl s = [] ∨ l ≠ bl s := by
  rw [tl] at h
  simp only [Bool.or_eq_true, List.isEmpty_iff, Bool.not_eq_true', beq_eq_false_iff_ne, ByteArray.toList_eq] at h
  exact h
theorem not_or_ne {s : ByteArray} {l : List UInt8} (h : (s.toList.isEmpty || !((⟨l.toArray⟩ : ByteArray).toList == s.toList)) = false) : ¬ (bl s = [] ∨ l ≠ bl s) := by
  intro e
  rw [tl] at h
  simp only [Bool.or_eq_false_iff, Bool.not_eq_false', beq_iff_eq, ByteArray.toList_eq] at h
  rcases e with e | e
  · have h1 : s.data.toList = [] := e
    rw [h1] at h; simp at h
  · exact e h.2
def heavyB (l0 l1 : List ByteArray) : Bool := (l0 ++ l1).any (fun s => decide (s.size > 3000)) || (decide (l0.length > 100) || decide (l1.length > 100))
theorem light {l0 l1 : List ByteArray} (h : heavyB l0 l1 = false) : Small l0 ∧ Small l1 := by
  unfold heavyB at h
  simp only [Bool.or_eq_false_iff, decide_eq_false_iff_not, List.any_eq_false, decide_eq_true_eq] at h
  obtain ⟨h1, h2, h3⟩ := h
  exact ⟨⟨by omega, fun s hs => by have := h1 s (List.mem_append_left _ hs); omega⟩, ⟨by omega, fun s hs => by have := h1 s (List.mem_append_right _ hs); omega⟩⟩
theorem heavy_at {l0 l1 : List ByteArray} {k : Nat} (hk : k < (l0 ++ l1).length) (h : ((l0 ++ l1).getD k default).size > 3000) : heavyB l0 l1 = true := by
  unfold heavyB
  rw [Bool.or_eq_true]
  refine .inl (List.any_eq_true.2 ⟨(l0 ++ l1)[k], List.getElem_mem hk, ?_⟩)
  rw [List.getD_eq_getElem?_getD, List.getElem?_eq_getElem hk] at h
  simpa using h
theorem heavy_all {l0 l1 : List ByteArray} (h : ∀ i, i < (l0 ++ l1).length → ((l0 ++ l1).getD i default).size ≤ 3000) : heavyB l0 l1 = (decide (l0.length > 100) || decide (l1.length > 100)) := by
  unfold heavyB
  have : (l0 ++ l1).any (fun s => decide (s.size > 3000)) = false := by
    rw [List.any_eq_false]
    intro x hx
    obtain ⟨i, hi, rfl⟩ := List.getElem_of_mem hx
    have := h i hi
    rw [List.getD_eq_getElem?_getD, List.getElem?_eq_getElem hi] at this
    simpa using this
  rw [this, Bool.false_or]
theorem heavy_succ {l : List ByteArray} {k : Nat} (h : ∀ i, i < k → (l.getD i default).size ≤ 3000) (hk : (l.getD k default).size ≤ 3000) : ∀ i, i < k + 1 → (l.getD i default).size ≤ 3000 := by
  intro i hi
  rcases Nat.lt_or_ge i k with h1 | h1
  · exact h i h1
  · have : i = k := by omega
    rw [this]; exact hk
end Lpr
end Go.Proofs.YthgafcaoibfchaaDoor.X
end
