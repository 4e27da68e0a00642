/- Printed by a program of ours (wip/tools) out of the translation: each function as a plain Lean function, and a proof that the call answers so. -/
import Derived.Test.YtdbkefgdeenjoaaDoorX0
import Derived.Test.YtdbkefgdeenjoaaDoorX3
import Derived.Test.YtdbkefgdeenjoaaDoorX6
import Derived.Test.YtdbkefgdeenjoaaDoorX9
namespace Go.Proofs.YtdbkefgdeenjoaaDoor.X
open Go.RowKit Go.Proofs.YtdbkefgdeenjoaaDoorW.PrintWords Go.Proofs.YtdbkefgdeenjoaaDoorW.PrintLast Go.Proofs.YtdbkefgdeenjoaaDoorW.PrintMore
attribute [local go_sem] max2_int min2_int max_two min_two max_three min_three max_four min_four   -- for this text's walks alone
set_option linter.unusedVariables false
set_option linter.unusedSimpArgs false

/-! ### text_Encode: function 19 -/
def text_Encode.put (lb : List Int) (r size : Int) (big : Bool) : Option (List Int) :=
  if size = 1 then (if lb.length + 4 ≤ 140737488355328 then some (lb ++ Lib.encodeRuneZ r) else none)
  else if size = 2 then (if r ≥ 65536 then (text_unit.f 5 lb (wrap32 (55296 + (wrap32 (r - 65536)) / 1024)) size big).bind fun l1 => text_unit.f 5 l1 (wrap32 (56320 + Go.bits .and .i32 (wrap32 (r - 65536)) 1023)) size big else text_unit.f 5 lb r size big)
  else text_unit.f 5 lb r size big
def text_Encode.go (size : Int) (big : Bool) : List Int → List Int → Option (List Int × Int)
  | [], b => some (b, 0)
  | r :: t, b => (utf8_ValidRune.f r).bind fun m => (if m = true then (text_Encode.put b r size big).bind fun b' => text_Encode.go size big t b' else some ([], 6))
def text_Encode.f (l0 : List Int) (a1 : Int) : Option (List Int × Int) :=
  if a1 < 0 then some ([], 2) else if 4 < a1 then some ([], 2) else if l0.length ≤ 4294967296 then (text_wide.f a1).bind fun sg => (text_Encode.put [] 65279 sg.1 sg.2).bind fun b => text_Encode.go sg.1 sg.2 l0 b else none
def text_Encode.Box (w : World) (gs gb gg : Nat) (vb : Value) (size : Int) (big : Bool) : Prop :=
  w.heap[gs]? = some (.cells #[.int .i64 size] 3 (0, 0)) ∧ w.heap[gb]? = some (.cells #[vb] 22 (0, 0)) ∧ w.heap[gg]? = some (.cells #[.bool big] 4 (0, 0))
/-- A row of bytes is none of the three boxes. -/
theorem text_Encode.apart {w : World} {base gs gb gg : Nat} {P : Nat → Prop} {vb v : Value} {size : Int} {big : Bool} {l : List Int} (hx : text_Encode.Box w gs gb gg vb size big) (h : Kd.R (Kd.int .u8) 5 w base P v l) :
    Kd.R (Kd.int .u8) 5 w base (fun k => k ≠ gs ∧ k ≠ gb ∧ k ≠ gg) v l := by
  have h1 := Kd.R_types h hx.1 (by decide)
  have h2 := Kd.R_types h1 hx.2.1 (by decide)
  have h3 := Kd.R_types h2 hx.2.2 (by decide)
  exact Kd.R_mono h3 (fun k hk => ⟨hk.1.1.2, hk.1.2, hk.2⟩)
theorem text_Encode.ne {w : World} {gs gb gg : Nat} {vb : Value} {size : Int} {big : Bool} (hx : text_Encode.Box w gs gb gg vb size big) : gs ≠ gb ∧ gs ≠ gg ∧ gb ≠ gg := by
  refine ⟨?_, ?_, ?_⟩
  · rintro rfl; have := hx.1.symm.trans hx.2.1; injection this with this; injection this with _ e _; cases e
  · rintro rfl; have := hx.1.symm.trans hx.2.2; injection this with this; injection this with _ e _; cases e
  · rintro rfl; have := hx.2.1.symm.trans hx.2.2; injection this with this; injection this with _ e _; cases e
/-- The boxes behind a call that wrote the row alone. -/
theorem text_Encode.boxes {w w' : World} {gs gb gg : Nat} {vb : Value} {size : Int} {big : Bool} (hx : text_Encode.Box w gs gb gg vb size big) (hk : Kept w w' (fun k => k ≠ gs ∧ k ≠ gb ∧ k ≠ gg)) : text_Encode.Box w' gs gb gg vb size big :=
  ⟨blk_kept hx.1 hk (fun h => h.1 rfl), blk_kept hx.2.1 hk (fun h => h.2.1 rfl), blk_kept hx.2.2 hk (fun h => h.2.2 rfl)⟩
/-- .. and behind the store of the new row. -/
theorem text_Encode.stored {w : World} {gs gb gg : Nat} {vb : Value} {size : Int} {big : Bool} (hx : text_Encode.Box w gs gb gg vb size big) (v : Value) : text_Encode.Box (w.setCell ⟨gb, 0, none⟩ v) gs gb gg v size big := by
  obtain ⟨h1, h2, h3⟩ := text_Encode.ne hx
  exact ⟨blk_far hx.1 (p := ⟨gb, 0, none⟩) h1 v, blk_put hx.2.1 0 v rfl, blk_far hx.2.2 (p := ⟨gb, 0, none⟩) (fun e => h3 e.symm) v⟩
/-- What a call that appends leaves, and the store behind it. -/
theorem text_Encode.after {w0 w w' : World} {gs gb gg : Nat} {vb v' : Value} {size : Int} {big : Bool} {l : List Int} {P : Nat → Prop} (hge : w0.heap.size ≤ gb) (hx : text_Encode.Box w gs gb gg vb size big)
    (hR : Kd.R (Kd.int .u8) 5 w' w0.heap.size P v' l) (hB : Below w0.heap.size w0 w') (hk : Kept w w' (fun k => k ≠ gs ∧ k ≠ gb ∧ k ≠ gg)) :
    text_Encode.Box (w'.setCell ⟨gb, 0, none⟩ v') gs gb gg v' size big ∧ Kd.R (Kd.int .u8) 5 (w'.setCell ⟨gb, 0, none⟩ v') w0.heap.size (fun _ => True) v' l ∧ Below w0.heap.size w0 (w'.setCell ⟨gb, 0, none⟩ v') := by
  have hb := text_Encode.boxes hx hk
  refine ⟨text_Encode.stored hb v', ?_, hB.setCell (p := ⟨gb, 0, none⟩) hge _⟩
  exact Kd.R_mono (Kd.R_far (text_Encode.apart hb hR) (p := ⟨gb, 0, none⟩) (fun k hk => hk.2.1) v') (fun _ _ => trivial)
/-- utf8.AppendRune onto a row of one's own: the library's summary in this text's words. -/
theorem text_Encode.rune (P0_ : Nat → Prop) (u : Value) (l0 : List Int) (a1 : Int) (w0 w : World) (hB : Below w0.heap.size w0 w) (ho : Kd.R (Kd.int .u8) 5 w w0.heap.size P0_ u l0) (h0 : -2147483648 ≤ a1) (h1 : a1 ≤ 2147483647) (hlen : l0.length + 4 ≤ 140737488355328) :
    Calls Tryd.prog 41 #[u, .int .i32 a1] w fun e w' => ∃ v0_ : Value, e = .returned (v0_) ∧ Kd.R (Kd.int .u8) 5 w' w0.heap.size (fun _ => True) v0_ (l0 ++ Lib.encodeRuneZ a1) ∧ Below w0.heap.size w0 w' ∧ Kept w w' (fun k_ => P0_ k_) := by
  have ho1 := Kd.own_of_R ho
  have hP := ho.1
  refine (Any.utf8_AppendRune_plain Tryd.lays242 (by kernel_rfl) w0.heap.size u l0.length _ a1 h0 h1 w ho1 hlen hB.size).mono ?_
  rintro e w' ⟨v', rfl, hown, o, hg⟩
  have hbase : ∀ k, u.ownBlock = some k → w0.heap.size ≤ k := fun k hk => own_base ho1 k hk
  refine ⟨v', rfl, Kd.R_of_own ?_ (fun _ _ => trivial), ?_, ?_⟩
  · have e1 : encs (fun x => Value.int .u8 x) (l0 ++ Lib.encodeRuneZ a1) = encs (fun x => Value.int .u8 x) l0 ++ Lib.runeCells a1 := by simp [encs, Lib.runeCells]
    have e2 : (l0 ++ Lib.encodeRuneZ a1).length = l0.length + (Lib.runeCells a1).length := by simp [Lib.runeCells]
    rw [e2]
    exact e1 ▸ hown
  · exact (hB.alloc hB.size o).grown hg (by have := hB.size; rw [World.size_alloc]; omega) hbase
  · exact Kept.of_grown hg ((Kept.refl w _).alloc o) (fun k hk => .inl (hP k hk))
theorem text_Encode.slice {w : World} {base : Nat} {P : Nat → Prop} {v : Value} {l : List Int} (h : Kd.R (Kd.int .u8) 5 w base P v l) : ∃ A n c, v = .slice A n c := by
  obtain ⟨A, c, e⟩ := own_slice (Kd.own_of_R h); exact ⟨A, _, c, e⟩
set_option maxHeartbeats 4000000 in
set_option maxRecDepth 100000 in
theorem text_Encode.put_calls (gs gb gg : Nat) (vb : Value) (lb : List Int) (r size : Int) (big : Bool) (lb' : List Int) (w0 w : World) (hB : Below w0.heap.size w0 w) (hge : w0.heap.size ≤ gb) (hx : text_Encode.Box w gs gb gg vb size big)
    (ho : Kd.R (Kd.int .u8) 5 w w0.heap.size (fun _ => True) vb lb) (hr0 : -2147483648 ≤ r) (hr1 : r ≤ 2147483647) (h : text_Encode.put lb r size big = some lb') :
    Calls Tryd.prog 40 #[.int .i32 r, .pointer (some ⟨gs, 0, none⟩), .pointer (some ⟨gb, 0, none⟩), .pointer (some ⟨gg, 0, none⟩)] w fun e w' => e = .returned (.tuple #[]) ∧ ∃ vb', text_Encode.Box w' gs gb gg vb' size big ∧ Kd.R (Kd.int .u8) 5 w' w0.heap.size (fun _ => True) vb' lb' ∧ Below w0.heap.size w0 w' := by
  have hap := text_Encode.apart hx ho
  have cs : w.cell? ⟨gs, 0, none⟩ = some (.int .i64 size) := blk_cell hx.1 0
  have cb : w.cell? ⟨gb, 0, none⟩ = some vb := blk_cell hx.2.1 0
  have cg : w.cell? ⟨gg, 0, none⟩ = some (.bool big) := blk_cell hx.2.2 0
  unfold text_Encode.put at h
  by_cases h1 : size = 1
  · rw [if_pos h1] at h
    have f1 : (size == 1) = true := beq_iff_eq.mpr h1
    by_cases h4 : lb.length + 4 ≤ 140737488355328
    case neg => rw [if_neg h4] at h; cases h
    rw [if_pos h4] at h
    obtain rfl := Option.some.inj h
    have HC := text_Encode.rune _ vb lb r w0 w hB hap hr0 hr1 h4
    have S1 := Aside0.mk h1
    clear h1 h
    have HX := Aside0.mk hx
    clear hx
    go_enter Tryd.func40, Tryd.ntmps40
    go_wp2_with fail
    refine HC.mono ?_
    rintro e w' ⟨v', rfl, hR, hB', hk⟩
    have hbx := text_Encode.boxes HX.out hk
    have cb' : w'.cell? ⟨gb, 0, none⟩ = some vb := blk_cell hbx.2.1 0
    have fb' : w'.frozen? ⟨gb, 0, none⟩ = false := blk_frozen hbx.2.1 0
    have HA := Aside0.mk (text_Encode.after hge HX.out hR hB' hk)
    obtain ⟨A', n', c', rfl⟩ := text_Encode.slice hR
    clear hbx hR hB' hk
    go_wp2
    go_end0
    exact ⟨rfl, _, HA.out⟩
  · rw [if_neg h1] at h
    have f1 : (size == 1) = false := beq_eq_false_iff_ne.mpr h1
    by_cases h2 : size = 2
    · rw [if_pos h2] at h
      have f2 : (size == 2) = true := beq_iff_eq.mpr h2
      by_cases h3 : r ≥ 65536
      · rw [if_pos h3] at h
        have f3 : decide (65536 ≤ r) = true := decide_eq_true h3
        obtain ⟨l1, e1, h⟩ := Option.bind_eq_some_iff.mp h
        have HC := text_unit.calls 5 _ vb lb _ size big l1 w0 w hB hap e1
        have S1 := Aside0.mk (And.intro h1 (And.intro h2 (And.intro h3 h)))
        clear h1 h2 h3 h e1
        have HX := Aside0.mk hx
        clear hx
        go_enter Tryd.func40, Tryd.ntmps40
        go_wp2_with fail
        refine HC.mono ?_
        rintro e w' ⟨v', rfl, hR, hB', hk⟩
        have hbx := text_Encode.boxes HX.out hk
        have fb' : w'.frozen? ⟨gb, 0, none⟩ = false := blk_frozen hbx.2.1 0
        have cb' : w'.cell? ⟨gb, 0, none⟩ = some vb := blk_cell hbx.2.1 0
        have HA := text_Encode.after hge HX.out hR hB' hk
        obtain ⟨A', n', c', rfl⟩ := text_Encode.slice hR
        have dx := HA.1
        have ds : (w'.setCell ⟨gb, 0, none⟩ (.slice A' n' c')).cell? ⟨gs, 0, none⟩ = some (.int .i64 size) := blk_cell dx.1 0
        have db : (w'.setCell ⟨gb, 0, none⟩ (.slice A' n' c')).cell? ⟨gb, 0, none⟩ = some (.slice A' n' c') := blk_cell dx.2.1 0
        have dg : (w'.setCell ⟨gb, 0, none⟩ (.slice A' n' c')).cell? ⟨gg, 0, none⟩ = some (.bool big) := blk_cell dx.2.2 0
        have HD := text_unit.calls 5 _ _ l1 _ size big lb' w0 _ HA.2.2 (text_Encode.apart dx HA.2.1) S1.out.2.2.2
        have HY := Aside0.mk dx
        clear hbx hR hB' hk HA dx S1
        go_wp2_with fail
        refine HD.mono ?_
        rintro e w2 ⟨v2, rfl, hR2, hB2, hk2⟩
        have hbx2 := text_Encode.boxes HY.out hk2
        have fb2 : w2.frozen? ⟨gb, 0, none⟩ = false := blk_frozen hbx2.2.1 0
        have cb2 : w2.cell? ⟨gb, 0, none⟩ = some _ := blk_cell hbx2.2.1 0
        have HA2 := Aside0.mk (text_Encode.after hge HY.out hR2 hB2 hk2)
        obtain ⟨A2, n2, c2, rfl⟩ := text_Encode.slice hR2
        clear hbx2 hR2 hB2 hk2
        go_wp2
        go_end0
        exact ⟨rfl, _, HA2.out⟩
      · rw [if_neg h3] at h
        have f3 : decide (65536 ≤ r) = false := decide_eq_false h3
        have HC := text_unit.calls 5 _ vb lb _ size big lb' w0 w hB hap h
        have S1 := Aside0.mk (And.intro h1 (And.intro h2 h3))
        clear h1 h2 h3 h
        have HX := Aside0.mk hx
        clear hx
        go_enter Tryd.func40, Tryd.ntmps40
        go_wp2_with fail
        refine HC.mono ?_
        rintro e w' ⟨v', rfl, hR, hB', hk⟩
        have hbx := text_Encode.boxes HX.out hk
        have cb' : w'.cell? ⟨gb, 0, none⟩ = some vb := blk_cell hbx.2.1 0
        have fb' : w'.frozen? ⟨gb, 0, none⟩ = false := blk_frozen hbx.2.1 0
        have HA := Aside0.mk (text_Encode.after hge HX.out hR hB' hk)
        obtain ⟨A', n', c', rfl⟩ := text_Encode.slice hR
        clear hbx hR hB' hk
        go_wp2
        go_end0
        exact ⟨rfl, _, HA.out⟩
    · rw [if_neg h2] at h
      have f2 : (size == 2) = false := beq_eq_false_iff_ne.mpr h2
      have HC := text_unit.calls 5 _ vb lb _ size big lb' w0 w hB hap h
      have S1 := Aside0.mk (And.intro h1 h2)
      clear h1 h2 h
      have HX := Aside0.mk hx
      clear hx
      go_enter Tryd.func40, Tryd.ntmps40
      go_wp2_with fail
      refine HC.mono ?_
      rintro e w' ⟨v', rfl, hR, hB', hk⟩
      have hbx := text_Encode.boxes HX.out hk
      have cb' : w'.cell? ⟨gb, 0, none⟩ = some vb := blk_cell hbx.2.1 0
      have fb' : w'.frozen? ⟨gb, 0, none⟩ = false := blk_frozen hbx.2.1 0
      have HA := Aside0.mk (text_Encode.after hge HX.out hR hB' hk)
      obtain ⟨A', n', c', rfl⟩ := text_Encode.slice hR
      clear hbx hR hB' hk
      go_wp2
      go_end0
      exact ⟨rfl, _, HA.out⟩
theorem text_Encode.valid (a0 : Int) (h : utf8_ValidRune.f a0 = some true) : 0 ≤ a0 ∧ a0 ≤ 1114111 := by
  unfold utf8_ValidRune.f at h
  repeat' split at h
  all_goals first | omega | (simp at h)
theorem text_Encode.rd_drop (l : List Int) (i : Int) (h0 : 0 ≤ i) (h1 : i < (l.length : Int)) : l.drop i.toNat = rd l i :: l.drop (i + 1).toNat := by
  have hl : i.toNat < l.length := by omega
  rw [List.drop_eq_getElem_cons hl, show (i + 1).toNat = i.toNat + 1 from by omega]
  unfold rd
  rw [List.getD_eq_getElem?_getD, List.getElem?_eq_getElem hl]; rfl
theorem text_Encode.res (tmps : Array Value) (w : World) (a : Addr) (v : Value) (h4 : tmps.getD 4 undef = .pointer (some a)) (hc : w.cell? a = some v) : (results Tryd.f19 tmps).run Tryd.prog w = .ok (.tuple #[v, tmps.getD 5 undef]) w := by
  rw [results_cell_tmp rfl, h4]
  have a22 := Tryd.isAgg22
  simp [asAddr, Result.andThen, loadVar, a22, hc]
set_option maxHeartbeats 4000000 in
set_option maxRecDepth 100000 in
theorem text_Encode.calls (A0 : Option Addr) (c0 : Nat) (l0 : List Int) (a1 : Int) (r1 : List Int) (r2 : Int) (w : World) (hr0 : Kd.C (Kd.int .i32) w A0 l0.length l0) (_hc0 : l0.length ≤ c0) (h : text_Encode.f l0 a1 = some (r1, r2)) :
    Calls Tryd.prog 19 #[.slice A0 l0.length c0, .int .i64 a1] w fun e w' => ∃ v0_ : Value, e = .returned (.tuple #[v0_, .int .i64 r2]) ∧ Kd.R (Kd.int .u8) 5 w' w.heap.size (fun _ => True) v0_ r1 ∧ Below w.heap.size w w' := by
  unfold text_Encode.f at h
  by_cases n0 : a1 < 0
  · rw [if_pos n0] at h
    have n0b : decide (a1 < 0) = true := decide_eq_true n0
    simp only [Option.some.injEq, Prod.mk.injEq] at h
    obtain ⟨rfl, rfl⟩ := h
    clear n0
    go_enter Tryd.func19, Tryd.ntmps19
    go_wp2
    (try simp only [Exit.inBlock, Exit.then])
    refine bodyPost_ret (text_Encode.res _ _ _ (.slice none 0 0) rfl ?_) rfl ⟨_, rfl, ?_, ?_⟩
    · exact blk_cell (blk_new _ _) 0
    · exact Kd.R_of_own (own_nil _ _ _ _) (fun _ h => by cases h)
    · repeat (first | exact Below.refl _ _ | (refine Below.setCell ?_ (by simp) _) | apply below_alloc | apply below_drew1)
  rw [if_neg n0] at h
  have n0b : decide (a1 < 0) = false := decide_eq_false n0
  by_cases n4 : 4 < a1
  · rw [if_pos n4] at h
    have n4b : decide (4 < a1) = true := decide_eq_true n4
    simp only [Option.some.injEq, Prod.mk.injEq] at h
    obtain ⟨rfl, rfl⟩ := h
    clear n0 n4
    go_enter Tryd.func19, Tryd.ntmps19
    go_wp2
    (try simp only [Exit.inBlock, Exit.then])
    refine bodyPost_ret (text_Encode.res _ _ _ (.slice none 0 0) rfl ?_) rfl ⟨_, rfl, ?_, ?_⟩
    · exact blk_cell (blk_new _ _) 0
    · exact Kd.R_of_own (own_nil _ _ _ _) (fun _ h => by cases h)
    · repeat (first | exact Below.refl _ _ | (refine Below.setCell ?_ (by simp) _) | apply below_alloc | apply below_drew1)
  rw [if_neg n4] at h
  have n4b : decide (4 < a1) = false := decide_eq_false n4
  by_cases hlen : l0.length ≤ 4294967296
  case neg => rw [if_neg hlen] at h; cases h
  rw [if_pos hlen] at h
  obtain ⟨⟨size, big⟩, hw, h⟩ := Option.bind_eq_some_iff.mp h
  obtain ⟨b0, hp, h⟩ := Option.bind_eq_some_iff.mp h
  simp only at hp h
  have HC := text_wide.calls a1 size big
  have HR0 := Aside0.mk hr0
  have HL := Aside0.mk hlen
  have HG := Aside0.mk h
  have HP := Aside0.mk hp
  have HW := Aside0.mk hw
  clear hr0 hlen h hp hw n0 n4
  go_enter Tryd.func19, Tryd.ntmps19
  go_wp2_with fail
  refine (HC _ HW.out).mono ?_
  rintro e w' ⟨rfl, ⟨nd, rfl⟩⟩
  go_wp2_with fail
  have hbx0 : text_Encode.Box ((((w.alloc (.cells #[.slice none 0 0] 22)).drewN nd).alloc (.cells #[.int .i64 size] 3)).alloc (.cells #[.bool big] 4)) (w.heap.size + 1) w.heap.size (w.heap.size + 1 + 1) (.slice none 0 0) size big := by
    have z1 : ((w.alloc (.cells #[.slice none 0 0] 22)).drewN nd).heap.size = w.heap.size + 1 := World.size_alloc _ _
    have z2 : (((w.alloc (.cells #[.slice none 0 0] 22)).drewN nd).alloc (.cells #[.int .i64 size] 3)).heap.size = w.heap.size + 1 + 1 := by rw [World.size_alloc, z1]
    have n1 := blk_new ((w.alloc (.cells #[.slice none 0 0] 22)).drewN nd) (.cells #[.int .i64 size] 3)
    have n2 := blk_new (((w.alloc (.cells #[.slice none 0 0] 22)).drewN nd).alloc (.cells #[.int .i64 size] 3)) (.cells #[.bool big] 4)
    rw [z1] at n1
    rw [z2] at n2
    exact ⟨blk_alloc n1 _, blk_alloc (blk_alloc (blk_drewN (blk_new w _) nd) _) _, n2⟩
  have hB0 : Below w.heap.size w ((((w.alloc (.cells #[.slice none 0 0] 22)).drewN nd).alloc (.cells #[.int .i64 size] 3)).alloc (.cells #[.bool big] 4)) := by
    repeat (first | exact Below.refl _ _ | apply below_alloc | apply pw_below_drewN)
  refine (text_Encode.put_calls _ _ _ _ [] 65279 size big b0 w _ hB0 (Nat.le_refl _) hbx0 (Kd.R_of_own (own_nil _ _ _ _) (fun _ h => by cases h)) (by decide) (by decide) HP.out).mono ?_
  rintro e w1 ⟨rfl, vb1, hbx1, hR1, hB1⟩
  have HX1 := Aside0.mk hbx1
  have HR1 := Aside0.mk hR1
  have HB1 := Aside0.mk hB1
  clear hbx0 hB0 hbx1 hR1 hB1 HP HW HC h
  go_wp2
  go_loopw [27] (fun v27 wr => ∃ (i : Int) (out : List Int) (vb : Value), v27 = .int .i64 i ∧ Aside0 (0 ≤ i ∧ i ≤ (l0.length : Int)) ∧ Aside0 (text_Encode.go size big (l0.drop i.toNat) out = some (r1, r2)) ∧ Aside0 (text_Encode.Box wr (w.heap.size + 1) w.heap.size (w.heap.size + 1 + 1) vb size big) ∧ Aside0 (Kd.R (Kd.int .u8) 5 wr w.heap.size (fun _ => True) vb out) ∧ Aside0 (Below w.heap.size w wr)) (fun v27 _ => l0.length - (intOf v27).toNat)
  case atStart => exact ⟨0, b0, vb1, rfl, ⟨by omega⟩, HG, HX1, HR1, HB1⟩
  case round =>
    obtain ⟨i, out, vb, rfl, HI, HA, HX, HR, HB⟩ := hrel
    by_cases c2 : i < (l0.length : Int)
    · have c2b0 : decide (i < (l0.length : Int)) = true := decide_eq_true c2
      have hd := text_Encode.rd_drop l0 i HI.out.1 c2
      have H := HA.out
      rw [hd] at H
      clear HA hd
      simp only [text_Encode.go] at H
      obtain ⟨m, A20, H⟩ := Option.bind_eq_some_iff.mp H
      have A2 := Aside0.mk A20
      clear A20
      have p4 := HI.out.1
      obtain ⟨ad4, e4, hx4⟩ := Kd.at_int HR0.out i p4 c2
      cases e4
      replace hx4 := (HB.out.cell (World.block_lt_of_cell? w _ hx4)).trans hx4
      have hn1 : Aside0 (wrap64 (i + 1) = i + 1) := ⟨by have := HL.out; unfold wrap64; omega⟩
      have p4b : (0 ≤ i) = True := eq_true p4
      have q4b : (i < (l0.length : Int)) = True := eq_true c2
      have HI2 := Aside0.mk c2
      clear p4
      cases m with
      | false =>
        rw [if_neg (by decide)] at H
        simp only [Option.some.injEq, Prod.mk.injEq] at H
        obtain ⟨rfl, rfl⟩ := H
        have fb : wr.frozen? ⟨w.heap.size, 0, none⟩ = false := blk_frozen HX.out.2.1 0
        have cb : wr.cell? ⟨w.heap.size, 0, none⟩ = some vb := blk_cell HX.out.2.1 0
        go_wp2_with (go_at_call 35; (with_reducible refine (utf8_ValidRune.calls _ false _ A2.out).mono ?_); rintro e w' ⟨rfl, ⟨nd, rfl⟩⟩)
        (try simp only [Exit.inBlock, Exit.then])
        refine bodyPost_ret (text_Encode.res _ _ _ (.slice none 0 0) rfl ?_) rfl ⟨_, rfl, ?_, ?_⟩
        · exact blk_cell (text_Encode.stored (w := wr.drewN nd) HX.out (.slice none 0 0)).2.1 0
        · exact Kd.R_of_own (own_nil _ _ _ _) (fun _ h => by cases h)
        · exact (pw_below_drewN HB.out _).setCell (p := ⟨w.heap.size, 0, none⟩) (Nat.le_refl _) _
      | true =>
        rw [if_pos rfl] at H
        obtain ⟨b1, hp1, H⟩ := Option.bind_eq_some_iff.mp H
        have H' := Aside0.mk H
        have HP1 := Aside0.mk hp1
        clear H hp1
        have hv := Aside0.mk (text_Encode.valid _ A2.out)
        go_wp2_with (go_at_call 35; (with_reducible refine (utf8_ValidRune.calls _ true _ A2.out).mono ?_); rintro e w' ⟨rfl, ⟨nd, rfl⟩⟩)
        refine (text_Encode.put_calls _ _ _ vb out _ size big b1 w (wr.drewN nd) (pw_below_drewN HB.out _) (Nat.le_refl _) HX.out (Kd.R_drewN HR.out _) (by have := hv.out; omega) (by have := hv.out; omega) HP1.out).mono ?_
        rintro e w2 ⟨rfl, vb2, hbx2, hR2, hB2⟩
        have HX2 := Aside0.mk hbx2
        have HR2 := Aside0.mk hR2
        have HB2 := Aside0.mk hB2
        clear hbx2 hR2 hB2
        go_wp2
        go_roundw
        case rel => exact ⟨wrap64 (i + 1), b1, vb2, rfl, ⟨by rw [hn1.out]; have := HI.out; have := HI2.out; omega⟩, by rw [hn1.out]; exact H', HX2, HR2, HB2⟩
        case measure => simp only [intOf]; rw [hn1.out]; have := HI.out; have := HI2.out; omega
    · have c2b0 : decide (i < (l0.length : Int)) = false := decide_eq_false c2
      have H := HA.out
      rw [List.drop_eq_nil_of_le (by have := HI.out; omega)] at H
      simp only [text_Encode.go, Option.some.injEq, Prod.mk.injEq] at H
      obtain ⟨rfl, rfl⟩ := H
      have fb : wr.frozen? ⟨w.heap.size, 0, none⟩ = false := blk_frozen HX.out.2.1 0
      have cb : wr.cell? ⟨w.heap.size, 0, none⟩ = some vb := blk_cell HX.out.2.1 0
      obtain ⟨A', n', c', rfl⟩ := text_Encode.slice HR.out
      clear HA c2
      go_wp2
      (try simp only [Exit.inBlock, Exit.then])
      have HF := text_Encode.after (w' := wr) (Nat.le_refl _) HX.out HR.out HB.out (Kept.refl _ _)
      refine bodyPost_ret (text_Encode.res _ _ _ _ rfl ?_) rfl ⟨_, rfl, HF.2.1, HF.2.2⟩
      exact blk_cell HF.1.2.1 0

end Go.Proofs.YtdbkefgdeenjoaaDoor.X
