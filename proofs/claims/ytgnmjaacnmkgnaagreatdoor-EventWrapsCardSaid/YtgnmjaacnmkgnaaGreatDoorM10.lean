/- Words and walks that the row of EventWraps needs: printed by programs, and plain laws. -/
import Derived.Test.YtgnmjaacnmkgnaaGreatDoorM9
import Derived.Test.YtgnmjaacnmkgnaaGreatDoorM3
import Derived.Test.YtgnmjaacnmkgnaaGreatDoorM5
namespace Go.Proofs.YtgnmjaacnmkgnaaGreatDoorW.PrintWords
end Go.Proofs.YtgnmjaacnmkgnaaGreatDoorW.PrintWords
namespace Go.Proofs.YtgnmjaacnmkgnaaGreatDoorW.PrintLast
end Go.Proofs.YtgnmjaacnmkgnaaGreatDoorW.PrintLast
namespace Go.Proofs.YtgnmjaacnmkgnaaGreatDoorW.PrintMore
end Go.Proofs.YtgnmjaacnmkgnaaGreatDoorW.PrintMore
section
namespace Go.Proofs.YtgnmjaacnmkgnaaGreatDoor.Y
open Go.RowKit Go.Proofs.YtgnmjaacnmkgnaaGreatDoorW.PrintWords Go.Proofs.YtgnmjaacnmkgnaaGreatDoorW.PrintLast Go.Proofs.YtgnmjaacnmkgnaaGreatDoorW.PrintMore
attribute [local go_sem] max2_int min2_int max_two min_two
set_option linter.unusedVariables false
set_option linter.unusedSimpArgs false
def tag_Read.f (a0 : ByteArray) : Option (ByteArray × Int) := (strings_CutPrefix.f a0 (⟨#[33, 33]⟩ : ByteArray)).bind fun bt106 => (if bt106.2 = true then ((tag_Core.f bt106.1).bind fun t108 => (if t108 = true then (some (bt106.1, 0)) else (some ((⟨#[]⟩ : ByteArray), 14)))) else ((tag_own.f bt106.1).bind fun t109 => (if t109 = true then (some (bt106.1, 0)) else (some ((⟨#[]⟩ : ByteArray), 14)))))
set_option maxHeartbeats 8000000 in
set_option maxRecDepth 100000 in
theorem tag_Read.calls (a0 : ByteArray) (r1 : ByteArray) (r2 : Int) (w : World) (h : tag_Read.f a0 = some (r1, r2)) :
    Calls Tryz.prog 62 #[.string a0] w fun e w' => e = .returned (.tuple #[.string r1, .int .i64 r2]) ∧ Below w.heap.size w w' := by
  have HB := Aside0.mk (Below.refl w.heap.size w)
  have H : ((strings_CutPrefix.f a0 (⟨#[33, 33]⟩ : ByteArray)).bind fun bt106 => (if bt106.2 = true then ((tag_Core.f bt106.1).bind fun t108 => (if t108 = true then (some (bt106.1, 0)) else (some ((⟨#[]⟩ : ByteArray), 14)))) else ((tag_own.f bt106.1).bind fun t109 => (if t109 = true then (some (bt106.1, 0)) else (some ((⟨#[]⟩ : ByteArray), 14)))))) = some (r1, r2) := h
  clear h
  replace H := Option.bind_eq_some_iff.mp H
  obtain ⟨⟨t106, t107⟩, A20, H⟩ := H
  replace H : (if t107 = true then ((tag_Core.f t106).bind fun t108 => (if t108 = true then (some (t106, 0)) else (some ((⟨#[]⟩ : ByteArray), 14)))) else ((tag_own.f t106).bind fun t109 => (if t109 = true then (some (t106, 0)) else (some ((⟨#[]⟩ : ByteArray), 14))))) = some (r1, r2) := H
  have A2 := Aside0.mk A20
  clear A20
  by_cases c3 : t107 = true
  · subst c3
    have H1 : ((tag_Core.f t106).bind fun t108 => (if t108 = true then (some (t106, 0)) else (some ((⟨#[]⟩ : ByteArray), 14)))) = some (r1, r2) := by rw [if_pos rfl] at H; exact H
    clear H
    have H := H1
    clear H1
    replace H := Option.bind_eq_some_iff.mp H
    obtain ⟨t108, A40, H⟩ := H
    replace H : (if t108 = true then (some (t106, 0)) else (some ((⟨#[]⟩ : ByteArray), 14))) = some (r1, r2) := H
    have A4 := Aside0.mk A40
    clear A40
    by_cases c5 : t108 = true
    · subst c5
      have H1 : (some (t106, 0)) = some (r1, r2) := by rw [if_pos rfl] at H; exact H
      clear H
      have H := H1
      clear H1
      simp only [Option.some.injEq, Prod.mk.injEq] at H
      obtain ⟨rfl, rfl⟩ := H
      go_enter Tryz.func62, Tryz.ntmps62
      go_wp2_with (first | ((with_reducible refine gate_callee (f := 88) rfl ?_); refine goesL_ (some 8) rfl rfl Tryz.func88 (by kernel_rfl) rfl #[.string a0, .string (⟨#[33, 33]⟩ : ByteArray)] rfl (by (try simp only [List.map_toArray, List.map_cons, List.map_nil]); first | done | rfl | (simp only [List.length_drop, List.length_take]; rfl)) ?_; (with_reducible refine (strings_CutPrefix.calls a0 (⟨#[33, 33]⟩ : ByteArray) t106 true _ A2.out).mono ?_); rintro e w' ⟨rfl, ⟨nd, rfl⟩⟩; refine ⟨_, rfl, ?_⟩) | (go_at_call 71; (with_reducible refine (tag_Core.calls t106 true _ A4.out).mono ?_); rintro e w' ⟨rfl, ⟨nd, rfl⟩⟩))
      go_ret2
      exact ⟨by first | rfl | (simp [errW_none, errW_some] <;> rfl) | (simp [*, errW_none, errW_some] <;> rfl), by repeat (first | (with_reducible first | exact HB.out | apply below_alloc | apply pw_below_drewN | apply below_drew1) | exact HB.out)⟩
    · replace c5 := Bool.eq_false_iff.mpr c5
      subst c5
      have H1 : (some ((⟨#[]⟩ : ByteArray), 14)) = some (r1, r2) := by rw [if_neg (show ¬ (false = true) by decide)] at H; exact H
      clear H
      have H := H1
      clear H1
      simp only [Option.some.injEq, Prod.mk.injEq] at H
      obtain ⟨rfl, rfl⟩ := H
      go_enter Tryz.func62, Tryz.ntmps62
      go_wp2_with (first | ((with_reducible refine gate_callee (f := 88) rfl ?_); refine goesL_ (some 8) rfl rfl Tryz.func88 (by kernel_rfl) rfl #[.string a0, .string (⟨#[33, 33]⟩ : ByteArray)] rfl (by (try simp only [List.map_toArray, List.map_cons, List.map_nil]); first | done | rfl | (simp only [List.length_drop, List.length_take]; rfl)) ?_; (with_reducible refine (strings_CutPrefix.calls a0 (⟨#[33, 33]⟩ : ByteArray) t106 true _ A2.out).mono ?_); rintro e w' ⟨rfl, ⟨nd, rfl⟩⟩; refine ⟨_, rfl, ?_⟩) | (go_at_call 71; (with_reducible refine (tag_Core.calls t106 false _ A4.out).mono ?_); rintro e w' ⟨rfl, ⟨nd, rfl⟩⟩))
      go_ret2
      exact ⟨by first | rfl | (simp [errW_none, errW_some] <;> rfl) | (simp [*, errW_none, errW_some] <;> rfl), by repeat (first | (with_reducible first | exact HB.out | apply below_alloc | apply pw_below_drewN | apply below_drew1) | exact HB.out)⟩
  · replace c3 := Bool.eq_false_iff.mpr c3
    subst c3
    have H1 : ((tag_own.f t106).bind fun t109 => (if t109 = true then (some (t106, 0)) else (some ((⟨#[]⟩ : ByteArray), 14)))) = some (r1, r2) := by rw [if_neg (show ¬ (false = true) by decide)] at H; exact H
    clear H
    have H := H1
    clear H1
    replace H := Option.bind_eq_some_iff.mp H
    obtain ⟨t109, A60, H⟩ := H
    replace H : (if t109 = true then (some (t106, 0)) else (some ((⟨#[]⟩ : ByteArray), 14))) = some (r1, r2) := H
    have A6 := Aside0.mk A60
    clear A60
    by_cases c7 : t109 = true
    · subst c7
      have H1 : (some (t106, 0)) = some (r1, r2) := by rw [if_pos rfl] at H; exact H
      clear H
      have H := H1
      clear H1
      simp only [Option.some.injEq, Prod.mk.injEq] at H
      obtain ⟨rfl, rfl⟩ := H
      go_enter Tryz.func62, Tryz.ntmps62
      go_wp2_with (first | ((with_reducible refine gate_callee (f := 88) rfl ?_); refine goesL_ (some 8) rfl rfl Tryz.func88 (by kernel_rfl) rfl #[.string a0, .string (⟨#[33, 33]⟩ : ByteArray)] rfl (by (try simp only [List.map_toArray, List.map_cons, List.map_nil]); first | done | rfl | (simp only [List.length_drop, List.length_take]; rfl)) ?_; (with_reducible refine (strings_CutPrefix.calls a0 (⟨#[33, 33]⟩ : ByteArray) t106 false _ A2.out).mono ?_); rintro e w' ⟨rfl, ⟨nd, rfl⟩⟩; refine ⟨_, rfl, ?_⟩) | (go_at_call 72; (with_reducible refine (tag_own.calls t106 true _ A6.out).mono ?_); rintro e w8 ⟨rfl, hb⟩; have n0_ := Aside0.mk (below_step (by repeat (first | (with_reducible first | exact HB.out | apply below_alloc | apply pw_below_drewN | apply below_drew1) | exact HB.out)) hb); clear HB; have HB := n0_; clear n0_; (try clear hb); (try clear hb2); (try clear hk); (try clear hi)))
      go_ret2
      exact ⟨by first | rfl | (simp [errW_none, errW_some] <;> rfl) | (simp [*, errW_none, errW_some] <;> rfl), by repeat (first | (with_reducible first | exact HB.out | apply below_alloc | apply pw_below_drewN | apply below_drew1) | exact HB.out)⟩
    · replace c7 := Bool.eq_false_iff.mpr c7
      subst c7
      have H1 : (some ((⟨#[]⟩ : ByteArray), 14)) = some (r1, r2) := by rw [if_neg (show ¬ (false = true) by decide)] at H; exact H
      clear H
      have H := H1
      clear H1
      simp only [Option.some.injEq, Prod.mk.injEq] at H
      obtain ⟨rfl, rfl⟩ := H
      go_enter Tryz.func62, Tryz.ntmps62
      go_wp2_with (first | ((with_reducible refine gate_callee (f := 88) rfl ?_); refine goesL_ (some 8) rfl rfl Tryz.func88 (by kernel_rfl) rfl #[.string a0, .string (⟨#[33, 33]⟩ : ByteArray)] rfl (by (try simp only [List.map_toArray, List.map_cons, List.map_nil]); first | done | rfl | (simp only [List.length_drop, List.length_take]; rfl)) ?_; (with_reducible refine (strings_CutPrefix.calls a0 (⟨#[33, 33]⟩ : ByteArray) t106 false _ A2.out).mono ?_); rintro e w' ⟨rfl, ⟨nd, rfl⟩⟩; refine ⟨_, rfl, ?_⟩) | (go_at_call 72; (with_reducible refine (tag_own.calls t106 false _ A6.out).mono ?_); rintro e w9 ⟨rfl, hb⟩; have n0_ := Aside0.mk (below_step (by repeat (first | (with_reducible first | exact HB.out | apply below_alloc | apply pw_below_drewN | apply below_drew1) | exact HB.out)) hb); clear HB; have HB := n0_; clear n0_; (try clear hb); (try clear hb2); (try clear hk); (try clear hi)))
      go_ret2
      exact ⟨by first | rfl | (simp [errW_none, errW_some] <;> rfl) | (simp [*, errW_none, errW_some] <;> rfl), by repeat (first | (with_reducible first | exact HB.out | apply below_alloc | apply pw_below_drewN | apply below_drew1) | exact HB.out)⟩
end Go.Proofs.YtgnmjaacnmkgnaaGreatDoor.Y
end
section
namespace Go.Proofs.YtgnmjaacnmkgnaaGreatDoor.Y
open Go.RowKit Go.Proofs.YtgnmjaacnmkgnaaGreatDoorW.PrintWords Go.Proofs.YtgnmjaacnmkgnaaGreatDoorW.PrintLast Go.Proofs.YtgnmjaacnmkgnaaGreatDoorW.PrintMore
attribute [local go_sem] max2_int min2_int max_two min_two
set_option linter.unusedVariables false
set_option linter.unusedSimpArgs false
mutual
def event_parse.l0 : Nat → ByteArray → ByteArray → Int → Int → ByteArray → ByteArray → ByteArray → Bool → Option (Int × ByteArray × ByteArray × ByteArray × Bool)
  | 0, _, _, _, _, _, _, _, _ => none
  | k + 1, x3, x4, x6, x111000, x111001, x111002, x111003, x111004 => if x6 ≤ 7 then ((event_name.f x6).bind fun t114 => (if t114.toList = x3.toList then (event_parse.l0 k x3 x4 (wrap64 (x6 + 1)) x6 x111001 x111002 x111003 x111004) else (event_parse.l0 k x3 x4 (wrap64 (x6 + 1)) x111000 x111001 x111002 x111003 x111004))) else (event_parse.l1 k x4 x111000 x111001 x111002 x111003 x111004)
def event_parse.l1 : Nat → ByteArray → Int → ByteArray → ByteArray → ByteArray → Bool → Option (Int × ByteArray × ByteArray × ByteArray × Bool)
  | 0, _, _, _, _, _, _ => none
  | k + 1, x4, x111000, x111001, x111002, x111003, x111004 => if x4.toList = ([] : List UInt8) then (some (x111000, x111001, x111002, x111003, x111004)) else ((strings_Cut.f x4 (⟨#[32]⟩ : ByteArray)).bind fun bt115 => ((strings_HasPrefix.f bt115.1 (⟨#[38]⟩ : ByteArray)).bind fun t118 => (if t118 = true then (event_parse.j2 k x4 bt115.1 bt115.2.1 true x111000 x111001 x111002 x111003 x111004) else ((strings_HasPrefix.f bt115.1 (⟨#[42]⟩ : ByteArray)).bind fun t119 => (event_parse.j2 k x4 bt115.1 bt115.2.1 t119 x111000 x111001 x111002 x111003 x111004)))))
def event_parse.j2 : Nat → ByteArray → ByteArray → ByteArray → Bool → Int → ByteArray → ByteArray → ByteArray → Bool → Option (Int × ByteArray × ByteArray × ByteArray × Bool)
  | 0, _, _, _, _, _, _, _, _, _ => none
  | k + 1, x4, x7, x8, x35, x111000, x111001, x111002, x111003, x111004 => if x35 = true then (if 1 ≤ (x7.size : Int) then (event_parse.l1 k x8 x111000 (x7.extract 1 x7.size) x111002 x111003 x111004) else (none)) else ((strings_HasPrefix.f x7 (⟨#[58]⟩ : ByteArray)).bind fun t120 => (if t120 = true then (if 1 ≤ (x4.size : Int) then ((scalar_Unquote.f (x4.extract 1 x4.size)).bind fun bt121 => (some (x111000, x111001, x111002, bt121.1, true))) else (none)) else ((strings_HasPrefix.f x7 (⟨#[34]⟩ : ByteArray)).bind fun t123 => (if t123 = true then ((scalar_Unquote.f x4).bind fun bt124 => (some (x111000, x111001, x111002, bt124.1, x111004))) else ((tag_Read.f x7).bind fun bt126 => (event_parse.l1 k x8 x111000 x111001 bt126.1 x111003 x111004))))))
end
def event_parse.f (k : Nat) (a0 : ByteArray) : Option (Int × ByteArray × ByteArray × ByteArray × Bool) := (strings_Cut.f a0 (⟨#[32]⟩ : ByteArray)).bind fun bt111 => (event_parse.l0 k bt111.1 bt111.2.1 0 (-1) (⟨#[]⟩ : ByteArray) (⟨#[]⟩ : ByteArray) (⟨#[]⟩ : ByteArray) false)
set_option maxHeartbeats 8000000 in
set_option maxRecDepth 100000 in
theorem event_parse.calls (k : Nat) (a0 : ByteArray) (r1 : Int) (r2 : ByteArray) (r3 : ByteArray) (r4 : ByteArray) (r5 : Bool) (w : World) (hT : X.Tabs.Holds w) (h : event_parse.f k a0 = some (r1, r2, r3, r4, r5)) :
    Calls Tryz.prog 35 #[.string a0] w fun e w' => e = .returned (.agg #[.int .i64 r1, .string r2, .string r3, .string r4, .bool r5]) ∧ Below w.heap.size w w' := by
  have hu29 := Tryz.underlying29
  have HT := Aside0.mk hT
  clear hT
  have HB := Aside0.mk (Below.refl w.heap.size w)
  have H : ((strings_Cut.f a0 (⟨#[32]⟩ : ByteArray)).bind fun bt111 => (event_parse.l0 k bt111.1 bt111.2.1 0 (-1) (⟨#[]⟩ : ByteArray) (⟨#[]⟩ : ByteArray) (⟨#[]⟩ : ByteArray) false)) = some (r1, r2, r3, r4, r5) := h
  clear h
  replace H := Option.bind_eq_some_iff.mp H
  obtain ⟨⟨t111, t112, t113⟩, A20, H⟩ := H
  replace H : (event_parse.l0 k t111 t112 0 (-1) (⟨#[]⟩ : ByteArray) (⟨#[]⟩ : ByteArray) (⟨#[]⟩ : ByteArray) false) = some (r1, r2, r3, r4, r5) := H
  have A2 := Aside0.mk A20
  clear A20
  have H' := Aside0.mk H
  clear H
  go_enter Tryz.func35, Tryz.ntmps35
  go_wp2_with (first | ((with_reducible refine gate_dst (N := 2) rfl ?_); refine box_event ?hg (N := 2) ?hd (cs := #[.int .i64 0, .string (⟨#[]⟩ : ByteArray), .string (⟨#[]⟩ : ByteArray), .string (⟨#[]⟩ : ByteArray), .bool false]) (t := 29) ?hr ?_; (case hd => rfl); (case hg => rfl); (case hr => first | (go_simp; done) | (go_simp; rfl)); intro gb110 hg w3 hbox hb; have n0_ := Aside0.mk (below_step (by repeat (first | (with_reducible first | exact HB.out | apply below_alloc | apply pw_below_drewN | apply below_drew1) | exact HB.out)) hb); have n1_ := Aside0.mk (hbox); have n2_ := Aside0.mk ((by rw [hg]; exact (below_size (by repeat (first | (with_reducible first | exact HB.out | apply below_alloc | apply pw_below_drewN | apply below_drew1) | exact HB.out))) : w.heap.size ≤ gb110)); have n3_ := Aside0.mk ((by rw [hg]; exact (below_size (by repeat (first | (with_reducible first | exact HB.out | apply below_alloc | apply pw_below_drewN | apply below_drew1) | exact HB.out))) : w.heap.size ≤ gb110)); clear HB; have HB := n0_; have BK110 := n1_; have GW110 := n2_; have GE110 := n3_; clear n0_ n1_ n2_ n3_; clear hb hbox hg; have hcz4_0 : w3.cell? ⟨gb110, 0, none⟩ = some (.int .i64 0) := (blk_cell BK110.out 0).trans rfl; have hcz4_1 : w3.cell? ⟨gb110, 1, none⟩ = some (.string (⟨#[]⟩ : ByteArray)) := (blk_cell BK110.out 1).trans rfl; have hcz4_2 : w3.cell? ⟨gb110, 2, none⟩ = some (.string (⟨#[]⟩ : ByteArray)) := (blk_cell BK110.out 2).trans rfl; have hcz4_3 : w3.cell? ⟨gb110, 3, none⟩ = some (.string (⟨#[]⟩ : ByteArray)) := (blk_cell BK110.out 3).trans rfl; have hcz4_4 : w3.cell? ⟨gb110, 4, none⟩ = some (.bool false) := (blk_cell BK110.out 4).trans rfl; have hfz4_0 := blk_frozen BK110.out 0; have hfz4_1 := blk_frozen BK110.out 1; have hfz4_2 := blk_frozen BK110.out 2; have hfz4_3 := blk_frozen BK110.out 3; have hfz4_4 := blk_frozen BK110.out 4) | ((with_reducible refine gate_callee (f := 59) rfl ?_); refine goesL_ (some 13) rfl rfl Tryz.func59 (by kernel_rfl) rfl #[.string a0, .string (⟨#[32]⟩ : ByteArray)] rfl (by (try simp only [List.map_toArray, List.map_cons, List.map_nil]); first | done | rfl | (simp only [List.length_drop, List.length_take]; rfl)) ?_; (with_reducible refine (strings_Cut.calls a0 (⟨#[32]⟩ : ByteArray) t111 t112 t113 _ A2.out).mono ?_); rintro e w' ⟨rfl, ⟨nd, rfl⟩⟩; refine ⟨_, rfl, ?_⟩))
  go_loopg [6] k (fun kq v6 w' => ∃ (x6_1 : Int) (x111000_1 : Int), v6 = .int .i64 x6_1 ∧ Aside0 (event_parse.l0 kq t111 t112 x6_1 x111000_1 (⟨#[]⟩ : ByteArray) (⟨#[]⟩ : ByteArray) (⟨#[]⟩ : ByteArray) false = some (r1, r2, r3, r4, r5)) ∧ Aside0 (kq ≤ k) ∧ Aside0 (w'.heap[gb110]? = some (.cells #[.int .i64 x111000_1, .string (⟨#[]⟩ : ByteArray), .string (⟨#[]⟩ : ByteArray), .string (⟨#[]⟩ : ByteArray), .bool false] 29 (0, 0))) ∧ Aside0 (Below w.heap.size w w'))
  case atStart => exact ⟨(0), ((-1)), (by first | rfl | (simp; done) | (simp [*]; done) | (simp [xbne_nil, xbeq_nil]; done)), H', ⟨Nat.le_refl _⟩, ⟨by (with_reducible repeat (first | refine blk_drewN ?_ _ | refine blk_drew ?_ | refine blk_alloc ?_ _)); refine blk_put (cs := #[.int .i64 0, .string (⟨#[]⟩ : ByteArray), .string (⟨#[]⟩ : ByteArray), .string (⟨#[]⟩ : ByteArray), .bool false]) ?_ 0 _ rfl; (with_reducible repeat (first | refine blk_drewN ?_ _ | refine blk_drew ?_ | refine blk_alloc ?_ _)); exact BK110.out⟩, ⟨by repeat (first | (with_reducible first | exact HB.out | apply below_alloc | apply pw_below_drewN | apply below_drew1 | refine below_set ?_ GE110.out) | exact HB.out)⟩⟩
  case round =>
    clear H'
    try clear p2
    try clear c3
    try clear hcz4_0
    try clear hcz4_1
    try clear hcz4_2
    try clear hcz4_3
    try clear hcz4_4
    try clear hfz4_0
    try clear hfz4_1
    try clear hfz4_2
    try clear hfz4_3
    try clear hfz4_4
    obtain ⟨x6_1, x111000_1, rfl, HA, HK1, BK110, HB⟩ := hrel
    cases gk with
    | zero => exact absurd HA.out (by simp [event_parse.l0])
    | succ k1 =>
      have H := HA.out
      clear HA
      simp only [event_parse.l0] at H
      by_cases c5 : x6_1 ≤ 7
      · rw [if_pos c5] at H
        have c5b0 : decide (x6_1 ≤ 7) = true := decide_eq_true c5
        clear c5
        replace H := Option.bind_eq_some_iff.mp H
        obtain ⟨t114, A60, H⟩ := H
        replace H : (if t114.toList = t111.toList then (event_parse.l0 k1 t111 t112 (wrap64 (x6_1 + 1)) x6_1 (⟨#[]⟩ : ByteArray) (⟨#[]⟩ : ByteArray) (⟨#[]⟩ : ByteArray) false) else (event_parse.l0 k1 t111 t112 (wrap64 (x6_1 + 1)) x111000_1 (⟨#[]⟩ : ByteArray) (⟨#[]⟩ : ByteArray) (⟨#[]⟩ : ByteArray) false)) = some (r1, r2, r3, r4, r5) := H
        have A6 := Aside0.mk A60
        clear A60
        by_cases c7 : t114.toList = t111.toList
        · rw [if_pos c7] at H
          have c7b0 : (t114.toList == t111.toList) = true := beq_iff_eq.mpr c7
          have c7b1 : (t114.toList != t111.toList) = false := bne_eq_false_iff_eq.mpr c7
          clear c7
          have H' := Aside0.mk H
          clear H
          go_wp2_with (first | ((with_reducible refine gate_callee (f := 48) rfl ?_); refine goesL_ (some 22) rfl rfl Tryz.func48 (by kernel_rfl) rfl #[.int .i64 x6_1] rfl (by (try simp only [List.map_toArray, List.map_cons, List.map_nil]); first | done | rfl | (simp only [List.length_drop, List.length_take]; rfl)) ?_; (with_reducible refine (event_name.calls x6_1 t114 _ A6.out).mono ?_); rintro e w8 ⟨rfl, hb⟩; refine ⟨_, rfl, ?_⟩; have n0_ := Aside0.mk (blk_below (g := gb110) (o := .cells #[.int .i64 x111000_1, .string (⟨#[]⟩ : ByteArray), .string (⟨#[]⟩ : ByteArray), .string (⟨#[]⟩ : ByteArray), .bool false] 29 (0, 0)) (by (with_reducible repeat (first | refine blk_drewN ?_ _ | refine blk_drew ?_ | refine blk_alloc ?_ _)); exact BK110.out) hb); have n1_ := Aside0.mk (below_step (by repeat (first | (with_reducible first | exact HB.out | apply below_alloc | apply pw_below_drewN | apply below_drew1 | refine below_set ?_ GE110.out) | exact HB.out)) hb); clear BK110; clear HB; have BK110 := n0_; have HB := n1_; clear n0_ n1_; (try clear hb); (try clear hb2); (try clear hk); (try clear hi); have hcz9_0 : w8.cell? ⟨gb110, 0, none⟩ = some (.int .i64 x111000_1) := (blk_cell BK110.out 0).trans rfl; have hcz9_1 : w8.cell? ⟨gb110, 1, none⟩ = some (.string (⟨#[]⟩ : ByteArray)) := (blk_cell BK110.out 1).trans rfl; have hcz9_2 : w8.cell? ⟨gb110, 2, none⟩ = some (.string (⟨#[]⟩ : ByteArray)) := (blk_cell BK110.out 2).trans rfl; have hcz9_3 : w8.cell? ⟨gb110, 3, none⟩ = some (.string (⟨#[]⟩ : ByteArray)) := (blk_cell BK110.out 3).trans rfl; have hcz9_4 : w8.cell? ⟨gb110, 4, none⟩ = some (.bool false) := (blk_cell BK110.out 4).trans rfl; have hfz9_0 := blk_frozen BK110.out 0; have hfz9_1 := blk_frozen BK110.out 1; have hfz9_2 := blk_frozen BK110.out 2; have hfz9_3 := blk_frozen BK110.out 3; have hfz9_4 := blk_frozen BK110.out 4))
          go_roundg k1
          case measure => have := HK1.out; omega
          case rel => exact ⟨(wrap64 (x6_1 + 1)), (x6_1), (by first | rfl | (simp; done) | (simp [*]; done) | (simp [xbne_nil, xbeq_nil]; done)), H', ⟨by have := HK1.out; omega⟩, ⟨by (with_reducible repeat (first | refine blk_drewN ?_ _ | refine blk_drew ?_ | refine blk_alloc ?_ _)); refine blk_put (cs := #[.int .i64 x111000_1, .string (⟨#[]⟩ : ByteArray), .string (⟨#[]⟩ : ByteArray), .string (⟨#[]⟩ : ByteArray), .bool false]) ?_ 0 _ rfl; (with_reducible repeat (first | refine blk_drewN ?_ _ | refine blk_drew ?_ | refine blk_alloc ?_ _)); exact BK110.out⟩, ⟨by repeat (first | (with_reducible first | exact HB.out | apply below_alloc | apply pw_below_drewN | apply below_drew1 | refine below_set ?_ GE110.out) | exact HB.out)⟩⟩
        · rw [if_neg c7] at H
          have c7b0 : (t114.toList == t111.toList) = false := beq_eq_false_iff_ne.mpr c7
          have c7b1 : (t114.toList != t111.toList) = true := bne_iff_ne.mpr c7
          have H' := Aside0.mk H
          clear H
          go_wp2_with (first | ((with_reducible refine gate_callee (f := 48) rfl ?_); refine goesL_ (some 22) rfl rfl Tryz.func48 (by kernel_rfl) rfl #[.int .i64 x6_1] rfl (by (try simp only [List.map_toArray, List.map_cons, List.map_nil]); first | done | rfl | (simp only [List.length_drop, List.length_take]; rfl)) ?_; (with_reducible refine (event_name.calls x6_1 t114 _ A6.out).mono ?_); rintro e w10 ⟨rfl, hb⟩; refine ⟨_, rfl, ?_⟩; have n0_ := Aside0.mk (blk_below (g := gb110) (o := .cells #[.int .i64 x111000_1, .string (⟨#[]⟩ : ByteArray), .string (⟨#[]⟩ : ByteArray), .string (⟨#[]⟩ : ByteArray), .bool false] 29 (0, 0)) (by (with_reducible repeat (first | refine blk_drewN ?_ _ | refine blk_drew ?_ | refine blk_alloc ?_ _)); exact BK110.out) hb); have n1_ := Aside0.mk (below_step (by repeat (first | (with_reducible first | exact HB.out | apply below_alloc | apply pw_below_drewN | apply below_drew1 | refine below_set ?_ GE110.out) | exact HB.out)) hb); clear BK110; clear HB; have BK110 := n0_; have HB := n1_; clear n0_ n1_; (try clear hb); (try clear hb2); (try clear hk); (try clear hi)))
          go_roundg k1
          case measure => have := HK1.out; omega
          case rel => exact ⟨(wrap64 (x6_1 + 1)), (x111000_1), (by first | rfl | (simp; done) | (simp [*]; done) | (simp [xbne_nil, xbeq_nil]; done)), H', ⟨by have := HK1.out; omega⟩, ⟨by (with_reducible repeat (first | refine blk_drewN ?_ _ | refine blk_drew ?_ | refine blk_alloc ?_ _)); exact BK110.out⟩, ⟨by repeat (first | (with_reducible first | exact HB.out | apply below_alloc | apply pw_below_drewN | apply below_drew1 | refine below_set ?_ GE110.out) | exact HB.out)⟩⟩
      · rw [if_neg c5] at H
        have c5b0 : decide (x6_1 ≤ 7) = false := decide_eq_false c5
        clear c5
        have H' := Aside0.mk H
        clear H
        go_wp2
        go_loopg [4] k1 (fun kq v4 w' => ∃ (x4_2 : ByteArray) (x111000_2 : Int) (x111001_2 : ByteArray) (x111002_2 : ByteArray) (x111003_2 : ByteArray) (x111004_2 : Bool), v4 = .string x4_2 ∧ Aside0 (event_parse.l1 kq x4_2 x111000_2 x111001_2 x111002_2 x111003_2 x111004_2 = some (r1, r2, r3, r4, r5)) ∧ Aside0 (kq ≤ k1) ∧ Aside0 (w'.heap[gb110]? = some (.cells #[.int .i64 x111000_2, .string x111001_2, .string x111002_2, .string x111003_2, .bool x111004_2] 29 (0, 0))) ∧ Aside0 (Below w.heap.size w w'))
        case atStart => exact ⟨(t112), (x111000_1), ((⟨#[]⟩ : ByteArray)), ((⟨#[]⟩ : ByteArray)), ((⟨#[]⟩ : ByteArray)), (false), (by first | rfl | (simp; done) | (simp [*]; done) | (simp [xbne_nil, xbeq_nil]; done)), H', ⟨Nat.le_refl _⟩, ⟨by (with_reducible repeat (first | refine blk_drewN ?_ _ | refine blk_drew ?_ | refine blk_alloc ?_ _)); exact BK110.out⟩, ⟨by repeat (first | (with_reducible first | exact HB.out | apply below_alloc | apply pw_below_drewN | apply below_drew1 | refine below_set ?_ GE110.out) | exact HB.out)⟩⟩
        case round =>
          clear H'
          try clear p2
          try clear c3
          try clear c4
          try clear c5
          try clear c5b0
          try clear p6
          try clear c7
          try clear c7b0
          try clear c7b1
          try clear hcz4_0
          try clear hcz4_1
          try clear hcz4_2
          try clear hcz4_3
          try clear hcz4_4
          try clear hcz9_0
          try clear hcz9_1
          try clear hcz9_2
          try clear hcz9_3
          try clear hcz9_4
          try clear hfz4_0
          try clear hfz4_1
          try clear hfz4_2
          try clear hfz4_3
          try clear hfz4_4
          try clear hfz9_0
          try clear hfz9_1
          try clear hfz9_2
          try clear hfz9_3
          try clear hfz9_4
          try clear p2
          obtain ⟨x4_2, x111000_2, x111001_2, x111002_2, x111003_2, x111004_2, rfl, HA, HK2, BK110, HB⟩ := hrel
          cases gk with
          | zero => exact absurd HA.out (by simp [event_parse.l1])
          | succ k2 =>
            have H := HA.out
            clear HA
            simp only [event_parse.l1] at H
            by_cases c11 : x4_2.toList = ([] : List UInt8)
            · rw [if_pos c11] at H
              have c11b0 : (x4_2.toList == ([] : List UInt8)) = true := beq_iff_eq.mpr c11
              have c11b1 : (x4_2.toList != ([] : List UInt8)) = false := bne_eq_false_iff_eq.mpr c11
              clear c11
              simp only [Option.some.injEq, Prod.mk.injEq] at H
              obtain ⟨rfl, rfl, rfl, rfl, rfl⟩ := H
              have hcz12_0 : wr.cell? ⟨gb110, 0, none⟩ = some (.int .i64 x111000_2) := (blk_cell BK110.out 0).trans rfl
              have hcz12_1 : wr.cell? ⟨gb110, 1, none⟩ = some (.string x111001_2) := (blk_cell BK110.out 1).trans rfl
              have hcz12_2 : wr.cell? ⟨gb110, 2, none⟩ = some (.string x111002_2) := (blk_cell BK110.out 2).trans rfl
              have hcz12_3 : wr.cell? ⟨gb110, 3, none⟩ = some (.string x111003_2) := (blk_cell BK110.out 3).trans rfl
              have hcz12_4 : wr.cell? ⟨gb110, 4, none⟩ = some (.bool x111004_2) := (blk_cell BK110.out 4).trans rfl
              have hfz12_0 := blk_frozen BK110.out 0
              have hfz12_1 := blk_frozen BK110.out 1
              have hfz12_2 := blk_frozen BK110.out 2
              have hfz12_3 := blk_frozen BK110.out 3
              have hfz12_4 := blk_frozen BK110.out 4
              go_wp2
              refine bodyPost_ret (results_cell_row rfl _ _ gb110 29 #[.int .i64 x111000_2, .string x111001_2, .string x111002_2, .string x111003_2, .bool x111004_2] (0, 0) _ rfl (by (with_reducible repeat (first | refine blk_drewN ?_ _ | refine blk_drew ?_ | refine blk_alloc ?_ _)); refine blk_put (cs := #[.int .i64 x111000_2, .string x111001_2, .string x111002_2, .string x111003_2, .bool x111004_2]) ?_ 4 _ rfl; (with_reducible repeat (first | refine blk_drewN ?_ _ | refine blk_drew ?_ | refine blk_alloc ?_ _)); refine blk_put (cs := #[.int .i64 x111000_2, .string x111001_2, .string x111002_2, .string x111003_2, .bool x111004_2]) ?_ 3 _ rfl; (with_reducible repeat (first | refine blk_drewN ?_ _ | refine blk_drew ?_ | refine blk_alloc ?_ _)); refine blk_put (cs := #[.int .i64 x111000_2, .string x111001_2, .string x111002_2, .string x111003_2, .bool x111004_2]) ?_ 2 _ rfl; (with_reducible repeat (first | refine blk_drewN ?_ _ | refine blk_drew ?_ | refine blk_alloc ?_ _)); refine blk_put (cs := #[.int .i64 x111000_2, .string x111001_2, .string x111002_2, .string x111003_2, .bool x111004_2]) ?_ 1 _ rfl; (with_reducible repeat (first | refine blk_drewN ?_ _ | refine blk_drew ?_ | refine blk_alloc ?_ _)); refine blk_put (cs := #[.int .i64 x111000_2, .string x111001_2, .string x111002_2, .string x111003_2, .bool x111004_2]) ?_ 0 _ rfl; (with_reducible repeat (first | refine blk_drewN ?_ _ | refine blk_drew ?_ | refine blk_alloc ?_ _)); exact BK110.out) Tryz.underlying29 rfl (by kernel_rfl)) rfl ?_
              exact ⟨by first | rfl | (simp [errW_none, errW_some] <;> rfl) | (simp [*, errW_none, errW_some] <;> rfl), by repeat (first | (with_reducible first | exact HB.out | apply below_alloc | apply pw_below_drewN | apply below_drew1 | refine below_set ?_ GE110.out) | exact HB.out)⟩
            · rw [if_neg c11] at H
              have c11b0 : (x4_2.toList == ([] : List UInt8)) = false := beq_eq_false_iff_ne.mpr c11
              have c11b1 : (x4_2.toList != ([] : List UInt8)) = true := bne_iff_ne.mpr c11
              replace H := Option.bind_eq_some_iff.mp H
              obtain ⟨⟨t115, t116, t117⟩, A130, H⟩ := H
              replace H : ((strings_HasPrefix.f t115 (⟨#[38]⟩ : ByteArray)).bind fun t118 => (if t118 = true then (event_parse.j2 k2 x4_2 t115 t116 true x111000_2 x111001_2 x111002_2 x111003_2 x111004_2) else ((strings_HasPrefix.f t115 (⟨#[42]⟩ : ByteArray)).bind fun t119 => (event_parse.j2 k2 x4_2 t115 t116 t119 x111000_2 x111001_2 x111002_2 x111003_2 x111004_2)))) = some (r1, r2, r3, r4, r5) := H
              have A13 := Aside0.mk A130
              clear A130
              have HC14 := Aside0.mk H
              clear H
              go_upto_region 10 with (first | ((with_reducible refine gate_callee (f := 59) rfl ?_); refine goesL_ (some 31) rfl rfl Tryz.func59 (by kernel_rfl) rfl #[.string x4_2, .string (⟨#[32]⟩ : ByteArray)] rfl (by (try simp only [List.map_toArray, List.map_cons, List.map_nil]); first | done | rfl | (simp only [List.length_drop, List.length_take]; rfl)) ?_; (with_reducible refine (strings_Cut.calls x4_2 (⟨#[32]⟩ : ByteArray) t115 t116 t117 _ A13.out).mono ?_); rintro e w' ⟨rfl, ⟨nd, rfl⟩⟩; refine ⟨_, rfl, ?_⟩))
              (try simp only [Act.put, List.setIfInBounds_toArray, List.set_cons_zero, List.set_cons_succ])
              go_cut [35] (fun v35 wc => ∃ (kq : Nat) (x35_13 : Bool), v35 = .bool x35_13 ∧ Aside0 (event_parse.j2 kq x4_2 t115 t116 x35_13 x111000_2 x111001_2 x111002_2 x111003_2 x111004_2 = some (r1, r2, r3, r4, r5)) ∧ Aside0 (kq ≤ k2) ∧ Aside0 (wc.heap[gb110]? = some (.cells #[.int .i64 x111000_2, .string x111001_2, .string x111002_2, .string x111003_2, .bool x111004_2] 29 (0, 0))) ∧ Aside0 (Below w.heap.size w wc))
              case first =>
                have H := HC14.out
                clear HC14
                replace H := Option.bind_eq_some_iff.mp H
                obtain ⟨t118, A150, H⟩ := H
                replace H : (if t118 = true then (event_parse.j2 k2 x4_2 t115 t116 true x111000_2 x111001_2 x111002_2 x111003_2 x111004_2) else ((strings_HasPrefix.f t115 (⟨#[42]⟩ : ByteArray)).bind fun t119 => (event_parse.j2 k2 x4_2 t115 t116 t119 x111000_2 x111001_2 x111002_2 x111003_2 x111004_2))) = some (r1, r2, r3, r4, r5) := H
                have A15 := Aside0.mk A150
                clear A150
                by_cases c16 : t118 = true
                · subst c16
                  have H1 : (event_parse.j2 k2 x4_2 t115 t116 true x111000_2 x111001_2 x111002_2 x111003_2 x111004_2) = some (r1, r2, r3, r4, r5) := by rw [if_pos rfl] at H; exact H
                  clear H
                  have H := H1
                  clear H1
                  have H' := Aside0.mk H
                  clear H
                  go_wp2_with (first | ((with_reducible refine gate_callee (f := 60) rfl ?_); refine goesL_ (some 37) rfl rfl Tryz.func60 (by kernel_rfl) rfl #[.string t115, .string (⟨#[38]⟩ : ByteArray)] rfl (by (try simp only [List.map_toArray, List.map_cons, List.map_nil]); first | done | rfl | (simp only [List.length_drop, List.length_take]; rfl)) ?_; (with_reducible refine (strings_HasPrefix.calls t115 (⟨#[38]⟩ : ByteArray) true _ A15.out).mono ?_); rintro e w' ⟨rfl, ⟨nd, rfl⟩⟩; refine ⟨_, rfl, ?_⟩))
                  go_meet
                  case rel => exact ⟨_, (true), (by first | rfl | (simp; done) | (simp [*]; done) | (simp [xbne_nil, xbeq_nil]; done)), H', ⟨by have := HK1.out; have := HK2.out; first | omega | exact Nat.le_refl _⟩, ⟨by (with_reducible repeat (first | refine blk_drewN ?_ _ | refine blk_drew ?_ | refine blk_alloc ?_ _)); exact BK110.out⟩, ⟨by repeat (first | (with_reducible first | exact HB.out | apply below_alloc | apply pw_below_drewN | apply below_drew1 | refine below_set ?_ GE110.out) | exact HB.out)⟩⟩
                · replace c16 := Bool.eq_false_iff.mpr c16
                  subst c16
                  have H1 : ((strings_HasPrefix.f t115 (⟨#[42]⟩ : ByteArray)).bind fun t119 => (event_parse.j2 k2 x4_2 t115 t116 t119 x111000_2 x111001_2 x111002_2 x111003_2 x111004_2)) = some (r1, r2, r3, r4, r5) := by rw [if_neg (show ¬ (false = true) by decide)] at H; exact H
                  clear H
                  have H := H1
                  clear H1
                  replace H := Option.bind_eq_some_iff.mp H
                  obtain ⟨t119, A170, H⟩ := H
                  replace H : (event_parse.j2 k2 x4_2 t115 t116 t119 x111000_2 x111001_2 x111002_2 x111003_2 x111004_2) = some (r1, r2, r3, r4, r5) := H
                  have A17 := Aside0.mk A170
                  clear A170
                  have H' := Aside0.mk H
                  clear H
                  go_wp2_with (first | ((with_reducible refine gate_callee (f := 60) rfl ?_); refine goesL_ (some 37) rfl rfl Tryz.func60 (by kernel_rfl) rfl #[.string t115, .string (⟨#[38]⟩ : ByteArray)] rfl (by (try simp only [List.map_toArray, List.map_cons, List.map_nil]); first | done | rfl | (simp only [List.length_drop, List.length_take]; rfl)) ?_; (with_reducible refine (strings_HasPrefix.calls t115 (⟨#[38]⟩ : ByteArray) false _ A15.out).mono ?_); rintro e w' ⟨rfl, ⟨nd, rfl⟩⟩; refine ⟨_, rfl, ?_⟩) | (go_at_call 60; (with_reducible refine (strings_HasPrefix.calls t115 (⟨#[42]⟩ : ByteArray) t119 _ A17.out).mono ?_); rintro e w' ⟨rfl, ⟨nd, rfl⟩⟩))
                  go_meet
                  case rel => exact ⟨_, (t119), (by first | rfl | (simp; done) | (simp [*]; done) | (simp [xbne_nil, xbeq_nil]; done)), H', ⟨by have := HK1.out; have := HK2.out; first | omega | exact Nat.le_refl _⟩, ⟨by (with_reducible repeat (first | refine blk_drewN ?_ _ | refine blk_drew ?_ | refine blk_alloc ?_ _)); exact BK110.out⟩, ⟨by repeat (first | (with_reducible first | exact HB.out | apply below_alloc | apply pw_below_drewN | apply below_drew1 | refine below_set ?_ GE110.out) | exact HB.out)⟩⟩
              case rest =>
                clear HC14
                try clear c1
                try clear p2
                try clear c3
                try clear c4
                try clear c5
                try clear c5b0
                try clear c6
                try clear p6
                try clear c7
                try clear c7b0
                try clear c7b1
                try clear c11
                try clear c11b0
                try clear c11b1
                try clear c16
                try clear hcz12_0
                try clear hcz12_1
                try clear hcz12_2
                try clear hcz12_3
                try clear hcz12_4
                try clear hcz4_0
                try clear hcz4_1
                try clear hcz4_2
                try clear hcz4_3
                try clear hcz4_4
                try clear hcz9_0
                try clear hcz9_1
                try clear hcz9_2
                try clear hcz9_3
                try clear hcz9_4
                try clear hfz12_0
                try clear hfz12_1
                try clear hfz12_2
                try clear hfz12_3
                try clear hfz12_4
                try clear hfz4_0
                try clear hfz4_1
                try clear hfz4_2
                try clear hfz4_3
                try clear hfz4_4
                try clear hfz9_0
                try clear hfz9_1
                try clear hfz9_2
                try clear hfz9_3
                try clear hfz9_4
                try clear p2
                try clear p6
                obtain ⟨kq, x35_13, rfl, HA, HJ13, BK110, HB⟩ := hcut
                cases kq with
                | zero => exact absurd HA.out (by simp [event_parse.j2])
                | succ kj13 =>
                  have H := HA.out
                  clear HA
                  simp only [event_parse.j2] at H
                  by_cases c18 : x35_13 = true
                  · subst c18
                    have H1 : (if 1 ≤ (t115.size : Int) then (event_parse.l1 kj13 t116 x111000_2 (t115.extract 1 t115.size) x111002_2 x111003_2 x111004_2) else (none)) = some (r1, r2, r3, r4, r5) := by rw [if_pos rfl] at H; exact H
                    clear H
                    have H := H1
                    clear H1
                    by_cases c19 : 1 ≤ (t115.size : Int)
                    · rw [if_pos c19] at H
                      have c19b0 := eq_true c19
                      have c19b1 : decide (1 ≤ (t115.size : Int)) = true := decide_eq_true c19
                      clear c19
                      have H' := Aside0.mk H
                      clear H
                      have hcz20_0 : wc.cell? ⟨gb110, 0, none⟩ = some (.int .i64 x111000_2) := (blk_cell BK110.out 0).trans rfl
                      have hcz20_1 : wc.cell? ⟨gb110, 1, none⟩ = some (.string x111001_2) := (blk_cell BK110.out 1).trans rfl
                      have hcz20_2 : wc.cell? ⟨gb110, 2, none⟩ = some (.string x111002_2) := (blk_cell BK110.out 2).trans rfl
                      have hcz20_3 : wc.cell? ⟨gb110, 3, none⟩ = some (.string x111003_2) := (blk_cell BK110.out 3).trans rfl
                      have hcz20_4 : wc.cell? ⟨gb110, 4, none⟩ = some (.bool x111004_2) := (blk_cell BK110.out 4).trans rfl
                      have hfz20_0 := blk_frozen BK110.out 0
                      have hfz20_1 := blk_frozen BK110.out 1
                      have hfz20_2 := blk_frozen BK110.out 2
                      have hfz20_3 := blk_frozen BK110.out 3
                      have hfz20_4 := blk_frozen BK110.out 4
                      go_wp2
                      go_roundg kj13
                      case measure => have := HK1.out; have := HK2.out; have := HJ13.out; omega
                      case rel => exact ⟨(t116), (x111000_2), (t115.extract 1 t115.size), (x111002_2), (x111003_2), (x111004_2), (by first | rfl | (simp; done) | (simp [*]; done) | (simp [xbne_nil, xbeq_nil]; done)), H', ⟨by have := HK1.out; have := HK2.out; have := HJ13.out; omega⟩, ⟨by (with_reducible repeat (first | refine blk_drewN ?_ _ | refine blk_drew ?_ | refine blk_alloc ?_ _)); refine blk_put (cs := #[.int .i64 x111000_2, .string x111001_2, .string x111002_2, .string x111003_2, .bool x111004_2]) ?_ 1 _ rfl; (with_reducible repeat (first | refine blk_drewN ?_ _ | refine blk_drew ?_ | refine blk_alloc ?_ _)); exact BK110.out⟩, ⟨by repeat (first | (with_reducible first | exact HB.out | apply below_alloc | apply pw_below_drewN | apply below_drew1 | refine below_set ?_ GE110.out) | exact HB.out)⟩⟩
                    · rw [if_neg c19] at H
                      exact absurd H (by simp)
                  · replace c18 := Bool.eq_false_iff.mpr c18
                    subst c18
                    have H1 : ((strings_HasPrefix.f t115 (⟨#[58]⟩ : ByteArray)).bind fun t120 => (if t120 = true then (if 1 ≤ (x4_2.size : Int) then ((scalar_Unquote.f (x4_2.extract 1 x4_2.size)).bind fun bt121 => (some (x111000_2, x111001_2, x111002_2, bt121.1, true))) else (none)) else ((strings_HasPrefix.f t115 (⟨#[34]⟩ : ByteArray)).bind fun t123 => (if t123 = true then ((scalar_Unquote.f x4_2).bind fun bt124 => (some (x111000_2, x111001_2, x111002_2, bt124.1, x111004_2))) else ((tag_Read.f t115).bind fun bt126 => (event_parse.l1 kj13 t116 x111000_2 x111001_2 bt126.1 x111003_2 x111004_2)))))) = some (r1, r2, r3, r4, r5) := by rw [if_neg (show ¬ (false = true) by decide)] at H; exact H
                    clear H
                    have H := H1
                    clear H1
                    replace H := Option.bind_eq_some_iff.mp H
                    obtain ⟨t120, A210, H⟩ := H
                    replace H : (if t120 = true then (if 1 ≤ (x4_2.size : Int) then ((scalar_Unquote.f (x4_2.extract 1 x4_2.size)).bind fun bt121 => (some (x111000_2, x111001_2, x111002_2, bt121.1, true))) else (none)) else ((strings_HasPrefix.f t115 (⟨#[34]⟩ : ByteArray)).bind fun t123 => (if t123 = true then ((scalar_Unquote.f x4_2).bind fun bt124 => (some (x111000_2, x111001_2, x111002_2, bt124.1, x111004_2))) else ((tag_Read.f t115).bind fun bt126 => (event_parse.l1 kj13 t116 x111000_2 x111001_2 bt126.1 x111003_2 x111004_2))))) = some (r1, r2, r3, r4, r5) := H
                    have A21 := Aside0.mk A210
                    clear A210
                    by_cases c22 : t120 = true
                    · subst c22
                      have H1 : (if 1 ≤ (x4_2.size : Int) then ((scalar_Unquote.f (x4_2.extract 1 x4_2.size)).bind fun bt121 => (some (x111000_2, x111001_2, x111002_2, bt121.1, true))) else (none)) = some (r1, r2, r3, r4, r5) := by rw [if_pos rfl] at H; exact H
                      clear H
                      have H := H1
                      clear H1
                      by_cases c23 : 1 ≤ (x4_2.size : Int)
                      · rw [if_pos c23] at H
                        have c23b0 := eq_true c23
                        have c23b1 : decide (1 ≤ (x4_2.size : Int)) = true := decide_eq_true c23
                        clear c23
                        replace H := Option.bind_eq_some_iff.mp H
                        obtain ⟨⟨t121, t122⟩, A240, H⟩ := H
                        replace H : (some (x111000_2, x111001_2, x111002_2, t121, true)) = some (r1, r2, r3, r4, r5) := H
                        have A24 := Aside0.mk A240
                        clear A240
                        simp only [Option.some.injEq, Prod.mk.injEq] at H
                        obtain ⟨rfl, rfl, rfl, rfl, rfl⟩ := H
                        go_wp2_with (first | ((with_reducible refine gate_callee (f := 60) rfl ?_); refine goesL_ (some 44) rfl rfl Tryz.func60 (by kernel_rfl) rfl #[.string t115, .string (⟨#[58]⟩ : ByteArray)] rfl (by (try simp only [List.map_toArray, List.map_cons, List.map_nil]); first | done | rfl | (simp only [List.length_drop, List.length_take]; rfl)) ?_; (with_reducible refine (strings_HasPrefix.calls t115 (⟨#[58]⟩ : ByteArray) true _ A21.out).mono ?_); rintro e w' ⟨rfl, ⟨nd, rfl⟩⟩; refine ⟨_, rfl, ?_⟩; (try (rw [drewN_self wc]; generalize hq_ : World.drewN wc _ = wc; have n0_ : Aside0 (wc.heap[gb110]? = some (.cells #[.int .i64 x111000_2, .string x111001_2, .string x111002_2, .string x111003_2, .bool x111004_2] 29 (0, 0))) := ⟨by rw [← hq_]; exact (by (with_reducible repeat (first | refine blk_drewN ?_ _ | refine blk_drew ?_ | refine blk_alloc ?_ _)); exact BK110.out)⟩; have n1_ : Aside0 (Below w.heap.size w wc) := ⟨by rw [← hq_]; exact (by repeat (first | (with_reducible first | exact HB.out | apply below_alloc | apply pw_below_drewN | apply below_drew1 | refine below_set ?_ GE110.out) | exact HB.out))⟩; clear BK110 HB hq_; have BK110 := n0_; have HB := n1_; clear n0_ n1_)); have hcz25_0 : wc.cell? ⟨gb110, 0, none⟩ = some (.int .i64 x111000_2) := (blk_cell BK110.out 0).trans rfl; have hcz25_1 : wc.cell? ⟨gb110, 1, none⟩ = some (.string x111001_2) := (blk_cell BK110.out 1).trans rfl; have hcz25_2 : wc.cell? ⟨gb110, 2, none⟩ = some (.string x111002_2) := (blk_cell BK110.out 2).trans rfl; have hcz25_3 : wc.cell? ⟨gb110, 3, none⟩ = some (.string x111003_2) := (blk_cell BK110.out 3).trans rfl; have hcz25_4 : wc.cell? ⟨gb110, 4, none⟩ = some (.bool x111004_2) := (blk_cell BK110.out 4).trans rfl; have hfz25_0 := blk_frozen BK110.out 0; have hfz25_1 := blk_frozen BK110.out 1; have hfz25_2 := blk_frozen BK110.out 2; have hfz25_3 := blk_frozen BK110.out 3; have hfz25_4 := blk_frozen BK110.out 4) | ((with_reducible refine gate_callee (f := 61) rfl ?_); refine goesL_ (some 56) rfl rfl Tryz.func61 (by kernel_rfl) rfl #[.string (x4_2.extract 1 x4_2.size)] rfl (by (try simp only [List.map_toArray, List.map_cons, List.map_nil]); first | done | rfl | (simp only [List.length_drop, List.length_take]; rfl)) ?_; (with_reducible refine (scalar_Unquote.calls (x4_2.extract 1 x4_2.size) t121 t122 _ ?side1 A24.out).mono ?_); (case side1 => exact X.Tabs.below HT.out (by repeat (first | (with_reducible first | exact HB.out | apply below_alloc | apply pw_below_drewN | apply below_drew1 | refine below_set ?_ GE110.out) | exact HB.out))); rintro e w26 ⟨rfl, hb⟩; refine ⟨_, rfl, ?_⟩; have n0_ := Aside0.mk (blk_below (g := gb110) (o := .cells #[.int .i64 x111000_2, .string x111001_2, .string x111002_2, .string x111003_2, .bool true] 29 (0, 0)) (by (with_reducible repeat (first | refine blk_drewN ?_ _ | refine blk_drew ?_ | refine blk_alloc ?_ _)); refine blk_put (cs := #[.int .i64 x111000_2, .string x111001_2, .string x111002_2, .string x111003_2, .bool x111004_2]) ?_ 4 _ rfl; (with_reducible repeat (first | refine blk_drewN ?_ _ | refine blk_drew ?_ | refine blk_alloc ?_ _)); exact BK110.out) hb); have n1_ := Aside0.mk (below_step (by repeat (first | (with_reducible first | exact HB.out | apply below_alloc | apply pw_below_drewN | apply below_drew1 | refine below_set ?_ GE110.out) | exact HB.out)) hb); clear BK110; clear HB; have BK110 := n0_; have HB := n1_; clear n0_ n1_; (try clear hb); (try clear hb2); (try clear hk); (try clear hi); have hcz27_0 : w26.cell? ⟨gb110, 0, none⟩ = some (.int .i64 x111000_2) := (blk_cell BK110.out 0).trans rfl; have hcz27_1 : w26.cell? ⟨gb110, 1, none⟩ = some (.string x111001_2) := (blk_cell BK110.out 1).trans rfl; have hcz27_2 : w26.cell? ⟨gb110, 2, none⟩ = some (.string x111002_2) := (blk_cell BK110.out 2).trans rfl; have hcz27_3 : w26.cell? ⟨gb110, 3, none⟩ = some (.string x111003_2) := (blk_cell BK110.out 3).trans rfl; have hcz27_4 : w26.cell? ⟨gb110, 4, none⟩ = some (.bool true) := (blk_cell BK110.out 4).trans rfl; have hfz27_0 := blk_frozen BK110.out 0; have hfz27_1 := blk_frozen BK110.out 1; have hfz27_2 := blk_frozen BK110.out 2; have hfz27_3 := blk_frozen BK110.out 3; have hfz27_4 := blk_frozen BK110.out 4))
                        refine bodyPost_ret (results_cell_row rfl _ _ gb110 29 #[.int .i64 x111000_2, .string x111001_2, .string x111002_2, .string t121, .bool true] (0, 0) _ rfl (by (with_reducible repeat (first | refine blk_drewN ?_ _ | refine blk_drew ?_ | refine blk_alloc ?_ _)); refine blk_put (cs := #[.int .i64 x111000_2, .string x111001_2, .string x111002_2, .string t121, .bool true]) ?_ 4 _ rfl; (with_reducible repeat (first | refine blk_drewN ?_ _ | refine blk_drew ?_ | refine blk_alloc ?_ _)); refine blk_put (cs := #[.int .i64 x111000_2, .string x111001_2, .string x111002_2, .string t121, .bool true]) ?_ 3 _ rfl; (with_reducible repeat (first | refine blk_drewN ?_ _ | refine blk_drew ?_ | refine blk_alloc ?_ _)); refine blk_put (cs := #[.int .i64 x111000_2, .string x111001_2, .string x111002_2, .string t121, .bool true]) ?_ 2 _ rfl; (with_reducible repeat (first | refine blk_drewN ?_ _ | refine blk_drew ?_ | refine blk_alloc ?_ _)); refine blk_put (cs := #[.int .i64 x111000_2, .string x111001_2, .string x111002_2, .string t121, .bool true]) ?_ 1 _ rfl; (with_reducible repeat (first | refine blk_drewN ?_ _ | refine blk_drew ?_ | refine blk_alloc ?_ _)); refine blk_put (cs := #[.int .i64 x111000_2, .string x111001_2, .string x111002_2, .string t121, .bool true]) ?_ 0 _ rfl; (with_reducible repeat (first | refine blk_drewN ?_ _ | refine blk_drew ?_ | refine blk_alloc ?_ _)); refine blk_put (cs := #[.int .i64 x111000_2, .string x111001_2, .string x111002_2, .string x111003_2, .bool true]) ?_ 3 _ rfl; (with_reducible repeat (first | refine blk_drewN ?_ _ | refine blk_drew ?_ | refine blk_alloc ?_ _)); exact BK110.out) Tryz.underlying29 rfl (by kernel_rfl)) rfl ?_
                        exact ⟨by first | rfl | (simp [errW_none, errW_some] <;> rfl) | (simp [*, errW_none, errW_some] <;> rfl), by repeat (first | (with_reducible first | exact HB.out | apply below_alloc | apply pw_below_drewN | apply below_drew1 | refine below_set ?_ GE110.out) | exact HB.out)⟩
                      · rw [if_neg c23] at H
                        exact absurd H (by simp)
                    · replace c22 := Bool.eq_false_iff.mpr c22
                      subst c22
                      have H1 : ((strings_HasPrefix.f t115 (⟨#[34]⟩ : ByteArray)).bind fun t123 => (if t123 = true then ((scalar_Unquote.f x4_2).bind fun bt124 => (some (x111000_2, x111001_2, x111002_2, bt124.1, x111004_2))) else ((tag_Read.f t115).bind fun bt126 => (event_parse.l1 kj13 t116 x111000_2 x111001_2 bt126.1 x111003_2 x111004_2)))) = some (r1, r2, r3, r4, r5) := by rw [if_neg (show ¬ (false = true) by decide)] at H; exact H
                      clear H
                      have H := H1
                      clear H1
                      replace H := Option.bind_eq_some_iff.mp H
                      obtain ⟨t123, A280, H⟩ := H
                      replace H : (if t123 = true then ((scalar_Unquote.f x4_2).bind fun bt124 => (some (x111000_2, x111001_2, x111002_2, bt124.1, x111004_2))) else ((tag_Read.f t115).bind fun bt126 => (event_parse.l1 kj13 t116 x111000_2 x111001_2 bt126.1 x111003_2 x111004_2))) = some (r1, r2, r3, r4, r5) := H
                      have A28 := Aside0.mk A280
                      clear A280
                      by_cases c29 : t123 = true
                      · subst c29
                        have H1 : ((scalar_Unquote.f x4_2).bind fun bt124 => (some (x111000_2, x111001_2, x111002_2, bt124.1, x111004_2))) = some (r1, r2, r3, r4, r5) := by rw [if_pos rfl] at H; exact H
                        clear H
                        have H := H1
                        clear H1
                        replace H := Option.bind_eq_some_iff.mp H
                        obtain ⟨⟨t124, t125⟩, A300, H⟩ := H
                        replace H : (some (x111000_2, x111001_2, x111002_2, t124, x111004_2)) = some (r1, r2, r3, r4, r5) := H
                        have A30 := Aside0.mk A300
                        clear A300
                        simp only [Option.some.injEq, Prod.mk.injEq] at H
                        obtain ⟨rfl, rfl, rfl, rfl, rfl⟩ := H
                        go_wp2_with (first | ((with_reducible refine gate_callee (f := 60) rfl ?_); refine goesL_ (some 44) rfl rfl Tryz.func60 (by kernel_rfl) rfl #[.string t115, .string (⟨#[58]⟩ : ByteArray)] rfl (by (try simp only [List.map_toArray, List.map_cons, List.map_nil]); first | done | rfl | (simp only [List.length_drop, List.length_take]; rfl)) ?_; (with_reducible refine (strings_HasPrefix.calls t115 (⟨#[58]⟩ : ByteArray) false _ A21.out).mono ?_); rintro e w' ⟨rfl, ⟨nd, rfl⟩⟩; refine ⟨_, rfl, ?_⟩; (try (rw [drewN_self wc]; generalize hq_ : World.drewN wc _ = wc; have n0_ : Aside0 (wc.heap[gb110]? = some (.cells #[.int .i64 x111000_2, .string x111001_2, .string x111002_2, .string x111003_2, .bool x111004_2] 29 (0, 0))) := ⟨by rw [← hq_]; exact (by (with_reducible repeat (first | refine blk_drewN ?_ _ | refine blk_drew ?_ | refine blk_alloc ?_ _)); exact BK110.out)⟩; have n1_ : Aside0 (Below w.heap.size w wc) := ⟨by rw [← hq_]; exact (by repeat (first | (with_reducible first | exact HB.out | apply below_alloc | apply pw_below_drewN | apply below_drew1 | refine below_set ?_ GE110.out) | exact HB.out))⟩; clear BK110 HB hq_; have BK110 := n0_; have HB := n1_; clear n0_ n1_))) | ((with_reducible refine gate_callee (f := 60) rfl ?_); refine goesL_ (some 47) rfl rfl Tryz.func60 (by kernel_rfl) rfl #[.string t115, .string (⟨#[34]⟩ : ByteArray)] rfl (by (try simp only [List.map_toArray, List.map_cons, List.map_nil]); first | done | rfl | (simp only [List.length_drop, List.length_take]; rfl)) ?_; (with_reducible refine (strings_HasPrefix.calls t115 (⟨#[34]⟩ : ByteArray) true _ A28.out).mono ?_); rintro e w' ⟨rfl, ⟨nd, rfl⟩⟩; refine ⟨_, rfl, ?_⟩; (try (rw [drewN_self wc]; generalize hq_ : World.drewN wc _ = wc; have n0_ : Aside0 (wc.heap[gb110]? = some (.cells #[.int .i64 x111000_2, .string x111001_2, .string x111002_2, .string x111003_2, .bool x111004_2] 29 (0, 0))) := ⟨by rw [← hq_]; exact (by (with_reducible repeat (first | refine blk_drewN ?_ _ | refine blk_drew ?_ | refine blk_alloc ?_ _)); exact BK110.out)⟩; have n1_ : Aside0 (Below w.heap.size w wc) := ⟨by rw [← hq_]; exact (by repeat (first | (with_reducible first | exact HB.out | apply below_alloc | apply pw_below_drewN | apply below_drew1 | refine below_set ?_ GE110.out) | exact HB.out))⟩; clear BK110 HB hq_; have BK110 := n0_; have HB := n1_; clear n0_ n1_))) | ((with_reducible refine gate_callee (f := 61) rfl ?_); refine goesL_ (some 56) rfl rfl Tryz.func61 (by kernel_rfl) rfl #[.string x4_2] rfl (by (try simp only [List.map_toArray, List.map_cons, List.map_nil]); first | done | rfl | (simp only [List.length_drop, List.length_take]; rfl)) ?_; (with_reducible refine (scalar_Unquote.calls x4_2 t124 t125 _ ?side1 A30.out).mono ?_); (case side1 => exact X.Tabs.below HT.out (by repeat (first | (with_reducible first | exact HB.out | apply below_alloc | apply pw_below_drewN | apply below_drew1 | refine below_set ?_ GE110.out) | exact HB.out))); rintro e w31 ⟨rfl, hb⟩; refine ⟨_, rfl, ?_⟩; have n0_ := Aside0.mk (blk_below (g := gb110) (o := .cells #[.int .i64 x111000_2, .string x111001_2, .string x111002_2, .string x111003_2, .bool x111004_2] 29 (0, 0)) (by (with_reducible repeat (first | refine blk_drewN ?_ _ | refine blk_drew ?_ | refine blk_alloc ?_ _)); exact BK110.out) hb); have n1_ := Aside0.mk (below_step (by repeat (first | (with_reducible first | exact HB.out | apply below_alloc | apply pw_below_drewN | apply below_drew1 | refine below_set ?_ GE110.out) | exact HB.out)) hb); clear BK110; clear HB; have BK110 := n0_; have HB := n1_; clear n0_ n1_; (try clear hb); (try clear hb2); (try clear hk); (try clear hi); have hcz32_0 : w31.cell? ⟨gb110, 0, none⟩ = some (.int .i64 x111000_2) := (blk_cell BK110.out 0).trans rfl; have hcz32_1 : w31.cell? ⟨gb110, 1, none⟩ = some (.string x111001_2) := (blk_cell BK110.out 1).trans rfl; have hcz32_2 : w31.cell? ⟨gb110, 2, none⟩ = some (.string x111002_2) := (blk_cell BK110.out 2).trans rfl; have hcz32_3 : w31.cell? ⟨gb110, 3, none⟩ = some (.string x111003_2) := (blk_cell BK110.out 3).trans rfl; have hcz32_4 : w31.cell? ⟨gb110, 4, none⟩ = some (.bool x111004_2) := (blk_cell BK110.out 4).trans rfl; have hfz32_0 := blk_frozen BK110.out 0; have hfz32_1 := blk_frozen BK110.out 1; have hfz32_2 := blk_frozen BK110.out 2; have hfz32_3 := blk_frozen BK110.out 3; have hfz32_4 := blk_frozen BK110.out 4))
                        refine bodyPost_ret (results_cell_row rfl _ _ gb110 29 #[.int .i64 x111000_2, .string x111001_2, .string x111002_2, .string t124, .bool x111004_2] (0, 0) _ rfl (by (with_reducible repeat (first | refine blk_drewN ?_ _ | refine blk_drew ?_ | refine blk_alloc ?_ _)); refine blk_put (cs := #[.int .i64 x111000_2, .string x111001_2, .string x111002_2, .string t124, .bool x111004_2]) ?_ 4 _ rfl; (with_reducible repeat (first | refine blk_drewN ?_ _ | refine blk_drew ?_ | refine blk_alloc ?_ _)); refine blk_put (cs := #[.int .i64 x111000_2, .string x111001_2, .string x111002_2, .string t124, .bool x111004_2]) ?_ 3 _ rfl; (with_reducible repeat (first | refine blk_drewN ?_ _ | refine blk_drew ?_ | refine blk_alloc ?_ _)); refine blk_put (cs := #[.int .i64 x111000_2, .string x111001_2, .string x111002_2, .string t124, .bool x111004_2]) ?_ 2 _ rfl; (with_reducible repeat (first | refine blk_drewN ?_ _ | refine blk_drew ?_ | refine blk_alloc ?_ _)); refine blk_put (cs := #[.int .i64 x111000_2, .string x111001_2, .string x111002_2, .string t124, .bool x111004_2]) ?_ 1 _ rfl; (with_reducible repeat (first | refine blk_drewN ?_ _ | refine blk_drew ?_ | refine blk_alloc ?_ _)); refine blk_put (cs := #[.int .i64 x111000_2, .string x111001_2, .string x111002_2, .string t124, .bool x111004_2]) ?_ 0 _ rfl; (with_reducible repeat (first | refine blk_drewN ?_ _ | refine blk_drew ?_ | refine blk_alloc ?_ _)); refine blk_put (cs := #[.int .i64 x111000_2, .string x111001_2, .string x111002_2, .string x111003_2, .bool x111004_2]) ?_ 3 _ rfl; (with_reducible repeat (first | refine blk_drewN ?_ _ | refine blk_drew ?_ | refine blk_alloc ?_ _)); exact BK110.out) Tryz.underlying29 rfl (by kernel_rfl)) rfl ?_
                        exact ⟨by first | rfl | (simp [errW_none, errW_some] <;> rfl) | (simp [*, errW_none, errW_some] <;> rfl), by repeat (first | (with_reducible first | exact HB.out | apply below_alloc | apply pw_below_drewN | apply below_drew1 | refine below_set ?_ GE110.out) | exact HB.out)⟩
                      · replace c29 := Bool.eq_false_iff.mpr c29
                        subst c29
                        have H1 : ((tag_Read.f t115).bind fun bt126 => (event_parse.l1 kj13 t116 x111000_2 x111001_2 bt126.1 x111003_2 x111004_2)) = some (r1, r2, r3, r4, r5) := by rw [if_neg (show ¬ (false = true) by decide)] at H; exact H
                        clear H
                        have H := H1
                        clear H1
                        replace H := Option.bind_eq_some_iff.mp H
                        obtain ⟨⟨t126, t127⟩, A330, H⟩ := H
                        replace H : (event_parse.l1 kj13 t116 x111000_2 x111001_2 t126 x111003_2 x111004_2) = some (r1, r2, r3, r4, r5) := H
                        have A33 := Aside0.mk A330
                        clear A330
                        have H' := Aside0.mk H
                        clear H
                        go_wp2_with (first | ((with_reducible refine gate_callee (f := 60) rfl ?_); refine goesL_ (some 44) rfl rfl Tryz.func60 (by kernel_rfl) rfl #[.string t115, .string (⟨#[58]⟩ : ByteArray)] rfl (by (try simp only [List.map_toArray, List.map_cons, List.map_nil]); first | done | rfl | (simp only [List.length_drop, List.length_take]; rfl)) ?_; (with_reducible refine (strings_HasPrefix.calls t115 (⟨#[58]⟩ : ByteArray) false _ A21.out).mono ?_); rintro e w' ⟨rfl, ⟨nd, rfl⟩⟩; refine ⟨_, rfl, ?_⟩; (try (rw [drewN_self wc]; generalize hq_ : World.drewN wc _ = wc; have n0_ : Aside0 (wc.heap[gb110]? = some (.cells #[.int .i64 x111000_2, .string x111001_2, .string x111002_2, .string x111003_2, .bool x111004_2] 29 (0, 0))) := ⟨by rw [← hq_]; exact (by (with_reducible repeat (first | refine blk_drewN ?_ _ | refine blk_drew ?_ | refine blk_alloc ?_ _)); exact BK110.out)⟩; have n1_ : Aside0 (Below w.heap.size w wc) := ⟨by rw [← hq_]; exact (by repeat (first | (with_reducible first | exact HB.out | apply below_alloc | apply pw_below_drewN | apply below_drew1 | refine below_set ?_ GE110.out) | exact HB.out))⟩; clear BK110 HB hq_; have BK110 := n0_; have HB := n1_; clear n0_ n1_))) | ((with_reducible refine gate_callee (f := 60) rfl ?_); refine goesL_ (some 47) rfl rfl Tryz.func60 (by kernel_rfl) rfl #[.string t115, .string (⟨#[34]⟩ : ByteArray)] rfl (by (try simp only [List.map_toArray, List.map_cons, List.map_nil]); first | done | rfl | (simp only [List.length_drop, List.length_take]; rfl)) ?_; (with_reducible refine (strings_HasPrefix.calls t115 (⟨#[34]⟩ : ByteArray) false _ A28.out).mono ?_); rintro e w' ⟨rfl, ⟨nd, rfl⟩⟩; refine ⟨_, rfl, ?_⟩; (try (rw [drewN_self wc]; generalize hq_ : World.drewN wc _ = wc; have n0_ : Aside0 (wc.heap[gb110]? = some (.cells #[.int .i64 x111000_2, .string x111001_2, .string x111002_2, .string x111003_2, .bool x111004_2] 29 (0, 0))) := ⟨by rw [← hq_]; exact (by (with_reducible repeat (first | refine blk_drewN ?_ _ | refine blk_drew ?_ | refine blk_alloc ?_ _)); exact BK110.out)⟩; have n1_ : Aside0 (Below w.heap.size w wc) := ⟨by rw [← hq_]; exact (by repeat (first | (with_reducible first | exact HB.out | apply below_alloc | apply pw_below_drewN | apply below_drew1 | refine below_set ?_ GE110.out) | exact HB.out))⟩; clear BK110 HB hq_; have BK110 := n0_; have HB := n1_; clear n0_ n1_))) | ((with_reducible refine gate_callee (f := 62) rfl ?_); refine goesL_ (some 63) rfl rfl Tryz.func62 (by kernel_rfl) rfl #[.string t115] rfl (by (try simp only [List.map_toArray, List.map_cons, List.map_nil]); first | done | rfl | (simp only [List.length_drop, List.length_take]; rfl)) ?_; (with_reducible refine (tag_Read.calls t115 t126 t127 _ A33.out).mono ?_); rintro e w34 ⟨rfl, hb⟩; refine ⟨_, rfl, ?_⟩; have n0_ := Aside0.mk (blk_below (g := gb110) (o := .cells #[.int .i64 x111000_2, .string x111001_2, .string x111002_2, .string x111003_2, .bool x111004_2] 29 (0, 0)) (by (with_reducible repeat (first | refine blk_drewN ?_ _ | refine blk_drew ?_ | refine blk_alloc ?_ _)); exact BK110.out) hb); have n1_ := Aside0.mk (below_step (by repeat (first | (with_reducible first | exact HB.out | apply below_alloc | apply pw_below_drewN | apply below_drew1 | refine below_set ?_ GE110.out) | exact HB.out)) hb); clear BK110; clear HB; have BK110 := n0_; have HB := n1_; clear n0_ n1_; (try clear hb); (try clear hb2); (try clear hk); (try clear hi); have hcz35_0 : w34.cell? ⟨gb110, 0, none⟩ = some (.int .i64 x111000_2) := (blk_cell BK110.out 0).trans rfl; have hcz35_1 : w34.cell? ⟨gb110, 1, none⟩ = some (.string x111001_2) := (blk_cell BK110.out 1).trans rfl; have hcz35_2 : w34.cell? ⟨gb110, 2, none⟩ = some (.string x111002_2) := (blk_cell BK110.out 2).trans rfl; have hcz35_3 : w34.cell? ⟨gb110, 3, none⟩ = some (.string x111003_2) := (blk_cell BK110.out 3).trans rfl; have hcz35_4 : w34.cell? ⟨gb110, 4, none⟩ = some (.bool x111004_2) := (blk_cell BK110.out 4).trans rfl; have hfz35_0 := blk_frozen BK110.out 0; have hfz35_1 := blk_frozen BK110.out 1; have hfz35_2 := blk_frozen BK110.out 2; have hfz35_3 := blk_frozen BK110.out 3; have hfz35_4 := blk_frozen BK110.out 4))
                        go_roundg kj13
                        case measure => have := HK1.out; have := HK2.out; have := HJ13.out; omega
                        case rel => exact ⟨(t116), (x111000_2), (x111001_2), (t126), (x111003_2), (x111004_2), (by first | rfl | (simp; done) | (simp [*]; done) | (simp [xbne_nil, xbeq_nil]; done)), H', ⟨by have := HK1.out; have := HK2.out; have := HJ13.out; omega⟩, ⟨by (with_reducible repeat (first | refine blk_drewN ?_ _ | refine blk_drew ?_ | refine blk_alloc ?_ _)); refine blk_put (cs := #[.int .i64 x111000_2, .string x111001_2, .string x111002_2, .string x111003_2, .bool x111004_2]) ?_ 2 _ rfl; (with_reducible repeat (first | refine blk_drewN ?_ _ | refine blk_drew ?_ | refine blk_alloc ?_ _)); exact BK110.out⟩, ⟨by repeat (first | (with_reducible first | exact HB.out | apply below_alloc | apply pw_below_drewN | apply below_drew1 | refine below_set ?_ GE110.out) | exact HB.out)⟩⟩
end Go.Proofs.YtgnmjaacnmkgnaaGreatDoor.Y
end
section
namespace Go.Proofs.YtgnmjaacnmkgnaaGreatDoor.X
open Go.RowKit Go.Shelf Go.Proofs
set_option linter.unusedVariables false
set_option linter.unusedSimpArgs false
namespace Zal
open Evt (Ev)
def evB : Ev := ⟨0, ⟨#[]⟩, ⟨#[]⟩, ⟨#[]⟩, false⟩
def evA : Ev := ⟨6, ⟨#[]⟩, ⟨#[]⟩, ⟨#[97]⟩, true⟩
def evE : Ev := ⟨1, ⟨#[]⟩, ⟨#[]⟩, ⟨#[]⟩, false⟩
def l1 : List Ev := [evB, evA, evE]
def l2 : List Ev := [evB, evE]
def tB : List UInt8 := [43, 100, 111, 99]
def tA : List UInt8 := [61, 118, 97, 108, 32, 58, 34, 97, 34]
def tE : List UInt8 := [45, 100, 111, 99]
def s1 : List UInt8 := [43, 100, 111, 99, 10, 61, 118, 97, 108, 32, 58, 34, 97, 34, 10, 45, 100, 111, 99, 10]
def s2 : List UInt8 := [43, 100, 111, 99, 10, 45, 100, 111, 99, 10]
theorem lines1 : Spl.linesF s1.length s1 = [tB ++ [10], tA ++ [10], tE ++ [10]] := by decide +kernel
theorem lines2 : Spl.linesF s2.length s2 = [tB ++ [10], tE ++ [10]] := by decide +kernel
def PF (x : List UInt8) : Ev := if x = tB ++ [10] then evB else if x = tA ++ [10] then evA else evE
theorem name_ok (k : Int) (nm : ByteArray) (h : Y.event_name.f k = some nm) (w : World) : Calls Tryz.prog 48 #[.int .i64 k] w fun e w' => e = .returned (.string nm) ∧ Below w.heap.size w w' := Y.event_name.calls k nm w h
theorem quote_ok (s q : ByteArray) (h : Qt.quoteF s = some q) (w : World) (hT : Tabs.Holds w) : Calls Tryz.prog 50 #[.string s] w fun e w' => e = .returned (.string q) ∧ Below w.heap.size w w' := Qt.quote_calls s q w hT h
theorem quote_a : Qt.quoteF ⟨#[97]⟩ = some ⟨#[34, 97, 34]⟩ := by decide +kernel
theorem quote_0 : Qt.quoteF ⟨#[]⟩ = some ⟨#[34, 34]⟩ := by decide +kernel
theorem empty_ok : (⟨#[]⟩ : ByteArray).toList.isEmpty = true := by decide +kernel
theorem joinB_1 (a : ByteArray) : Pri.joinB [a] = a := by
  unfold Pri.joinB
  show (⟨(Lib.join [a.data.toList] [32]).toArray⟩ : ByteArray) = a
  rw [Lib.join_one]
theorem line_B : Pri.LineOk evB ⟨tB.toArray⟩ := fun w hT => by
  have h := Pri.line_calls evB ⟨tB.toArray⟩ ⟨#[34, 34]⟩ w hT (name_ok 0 _ rfl) (quote_ok _ _ quote_0) (by decide) empty_ok empty_ok (by decide) (by decide)
  rw [show Pri.lineB evB ⟨tB.toArray⟩ ⟨#[34, 34]⟩ = ⟨tB.toArray⟩ from joinB_1 _] at h; exact h
theorem line_E : Pri.LineOk evE ⟨tE.toArray⟩ := fun w hT => by
  have h := Pri.line_calls evE ⟨tE.toArray⟩ ⟨#[34, 34]⟩ w hT (name_ok 1 _ rfl) (quote_ok _ _ quote_0) (by decide) empty_ok empty_ok (by decide) (by decide)
  rw [show Pri.lineB evE ⟨tE.toArray⟩ ⟨#[34, 34]⟩ = ⟨tE.toArray⟩ from joinB_1 _] at h; exact h
theorem line_A : Pri.LineOk evA ⟨tA.toArray⟩ := fun w hT => by
  have h := Pri.line_calls evA ⟨#[61, 118, 97, 108]⟩ ⟨#[34, 97, 34]⟩ w hT (name_ok 6 _ rfl) (quote_ok _ _ quote_a) (by decide) empty_ok empty_ok (by decide) (by decide)
  rw [show Pri.lineB evA ⟨#[61, 118, 97, 108]⟩ ⟨#[34, 97, 34]⟩ = ⟨tA.toArray⟩ from rfl] at h; exact h
theorem right1 : Evt.rightG Evt.rightE l1 = true := by decide +kernel
theorem right2 : Evt.rightG Evt.rightE l2 = false := by decide +kernel
theorem right3 : Evt.rightG Evt.rightE [evA, evE] = false := by decide +kernel
def L (k : Nat) : ByteArray := if k = 0 then ⟨tB.toArray⟩ else if k = 1 then ⟨tA.toArray⟩ else ⟨tE.toArray⟩
theorem print1 : Pri.printS l1 L = ⟨s1.toArray⟩ := by unfold Pri.printS; rw [if_pos right1]; rfl
theorem print2 : Pri.printS l2 L = ⟨#[]⟩ := by unfold Pri.printS; rw [if_neg (by rw [right2]; decide)]
theorem lines_ok1 : ∀ k, k < l1.length → Pri.LineOk (l1.getD k default) (L k) := fun k hk => by
  match k, hk with
  | 0, _ => exact line_B
  | 1, _ => exact line_A
  | 2, _ => exact line_E
theorem parse_ok (s : ByteArray) (x : Ev) (h : Y.event_parse.f 60 s = some (x.kind, x.anchor, x.tag, x.text, x.plain)) : Pri.ParseOk s x := fun w hT => Y.event_parse.calls 60 s _ _ _ _ _ w hT h
theorem parse_B : Pri.ParseOk ⟨tB.toArray⟩ evB := parse_ok _ _ (by decide +kernel)
theorem parse_A : Pri.ParseOk ⟨tA.toArray⟩ evA := parse_ok _ _ (by decide +kernel)
theorem parse_E : Pri.ParseOk ⟨tE.toArray⟩ evE := parse_ok _ _ (by decide +kernel)
theorem pf_small (x : List UInt8) : (PF x).text.size ≤ 9223372036854775807 := by
  unfold PF; split
  · decide
  · split <;> decide
theorem trimB : Lib.trimSuffix (tB ++ [10]) [10] = tB := by decide +kernel
theorem trimA : Lib.trimSuffix (tA ++ [10]) [10] = tA := by decide +kernel
theorem trimE : Lib.trimSuffix (tE ++ [10]) [10] = tE := by decide +kernel
theorem pfB : PF (tB ++ [10]) = evB := rfl
theorem pfA : PF (tA ++ [10]) = evA := rfl
theorem pfE : PF (tE ++ [10]) = evE := rfl
theorem parse1 (w : World) (hT : Tabs.Holds w) : Calls Tryz.prog 21 #[.string ⟨s1.toArray⟩] w fun e w' => ∃ v, e = .returned (.tuple #[v, .int .i64 0]) ∧ w'.ownsRow w.heap.size 29 5 v 3 (Evt.cells l1) ∧ Below w.heap.size w w' := by
  have hm : (Spl.linesF s1.length s1).map PF = l1 := by rw [lines1]; rfl
  have h := Pri.parse_calls s1 PF L w hT (by decide) (fun x hx => by
    rw [lines1] at hx
    simp only [List.mem_cons, List.not_mem_nil, or_false] at hx
    rcases hx with rfl | rfl | rfl
    · rw [trimB, pfB]; exact parse_B
    · rw [trimA, pfA]; exact parse_A
    · rw [trimE, pfE]; exact parse_E) (by rw [lines1]; decide) pf_small (by rw [hm]; exact fun _ => lines_ok1) (by rw [hm]; decide)
  rw [hm] at h
  refine h.mono ?_
  rintro e w' ⟨hb, ⟨_, v, rfl, hO⟩ | ⟨hne, _⟩⟩
  · exact ⟨v, rfl, hO, hb⟩
  · exact absurd print1 hne
theorem parse2 (w : World) (hT : Tabs.Holds w) : Calls Tryz.prog 21 #[.string ⟨s2.toArray⟩] w fun e w' => e = .returned (.tuple #[.slice none 0 0, .int .i64 5]) ∧ Below w.heap.size w w' := by
  have hm : (Spl.linesF s2.length s2).map PF = l2 := by rw [lines2]; rfl
  have h := Pri.parse_calls s2 PF L w hT (by decide) (fun x hx => by
    rw [lines2] at hx
    simp only [List.mem_cons, List.not_mem_nil, or_false] at hx
    rcases hx with rfl | rfl
    · rw [trimB, pfB]; exact parse_B
    · rw [trimE, pfE]; exact parse_E) (by rw [lines2]; decide) pf_small (by rw [hm]; intro hr; rw [right2] at hr; cases hr) (by rw [hm]; decide)
  rw [hm] at h
  refine h.mono ?_
  rintro e w' ⟨hb, ⟨he, _⟩ | ⟨_, rfl⟩⟩
  · rw [print2] at he; exact absurd (congrArg ByteArray.size he) (by decide)
  · exact ⟨rfl, hb⟩
theorem print_ok (v : Value) (w : World) (hT : Tabs.Holds w) (hl : Eng.Reads w v 3 5 (Evt.cells l1)) : Calls Tryz.prog 16 #[v] w fun e w' => e = .returned (.string ⟨s1.toArray⟩) ∧ Below w.heap.size w w' := by
  have h := Pri.print_calls v l1 L w hT hl (fun k hk => by
    match k, hk with
    | 0, _ => decide
    | 1, _ => decide
    | 2, _ => decide) (by decide) (fun _ => lines_ok1) (by decide)
  rw [print1] at h; exact h
end Zal
end Go.Proofs.YtgnmjaacnmkgnaaGreatDoor.X
end
section
namespace Go.Proofs.YtgnmjaacnmkgnaaGreatDoor.X
open Go.RowKit Go.Shelf Go.Proofs
set_option linter.unusedVariables false
set_option linter.unusedSimpArgs false
namespace Evt
theorem own_take {w : World} {B k : Nat} {v : Value} {l : List Ev} (hk : k < l.length) (O : w.ownsRow B 29 5 v ((l.take k).length + 1) (cells (l.take k) ++ enc (l.getD k default))) : w.ownsRow B 29 5 v (l.take (k + 1)).length (cells (l.take (k + 1))) := by
  rw [Rwt.take_one hk, List.length_append]
  show w.ownsRow B 29 5 v _ (List.flatMap enc (l.take k ++ [l.getD k default]))
  rw [List.flatMap_append]
  simpa using O
end Evt
end Go.Proofs.YtgnmjaacnmkgnaaGreatDoor.X
end
section
namespace Go.Proofs.YtgnmjaacnmkgnaaGreatDoor.X
open Go.RowKit Go.Shelf Go.Proofs
set_option linter.unusedVariables false
set_option linter.unusedSimpArgs false
namespace Evt
def cntP (p : Ev → Bool) (l : List Ev) : Nat := l.countP p
theorem cntP_is {p : Ev → Bool} {l : List Ev} {k : Nat} (hk : k < l.length) (h : p (l.getD k default) = true) : cntP p (l.take (k + 1)) = cntP p (l.take k) + 1 := by
  unfold cntP; rw [Rwt.take_one hk, List.countP_append, List.countP_cons, h]; rfl
theorem cntP_not {p : Ev → Bool} {l : List Ev} {k : Nat} (hk : k < l.length) (h : p (l.getD k default) = false) : cntP p (l.take (k + 1)) = cntP p (l.take k) := by
  unfold cntP; rw [Rwt.take_one hk, List.countP_append, List.countP_cons, h]; simp
theorem cntP_le (p : Ev → Bool) (l : List Ev) (k : Nat) : cntP p (l.take k) ≤ k := by
  unfold cntP
  have h1 := List.countP_le_length (p := p) (l := l.take k)
  have h2 := List.length_take_le k l
  omega
theorem cntP_end {p : Ev → Bool} {l : List Ev} {k : Nat} (h : k = l.length) : cntP p (l.take k) = cntP p l := by rw [h, List.take_length]
def isTold (x : Ev) : Bool := isNode x.kind || x.kind == 7
end Evt
end Go.Proofs.YtgnmjaacnmkgnaaGreatDoor.X
end
section
namespace Go.Proofs.Eng
open Go Go.RowKit
theorem join {P : Program} {c : Code} {K : Act → World → Prop} {Q : Exit → Act → World → Prop} {a : Act} {w : World} (J : Act → World → Prop) (h : c.wp P (Exit.then J Q) a w) (hk : ∀ a w, J a w → K a w) : c.wp P (Exit.then K Q) a w :=
  Code.wp_mono (fun e a w hq => by
    cases e with
    | normal => exact hk a w hq
    | _ => exact hq) h
end Go.Proofs.Eng
end
