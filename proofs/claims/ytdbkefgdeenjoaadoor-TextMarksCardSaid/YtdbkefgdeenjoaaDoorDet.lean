/- What text.Detect tells, in plain lists. -/
import Derived.Test.YtdbkefgdeenjoaaDoorEv
import Derived.Test.YtdbkefgdeenjoaaDoorX2
namespace Go.Proofs.YtdbkefgdeenjoaaDoor.Plain
set_option linter.unusedVariables false
set_option linter.unusedSimpArgs false
open Go.RowKit Go.Proofs.YtdbkefgdeenjoaaDoor.X Go.Proofs.YtdbkefgdeenjoaaDoorW.PrintWords Go.Proofs.YtdbkefgdeenjoaaDoorW.PrintLast Go.Proofs.YtdbkefgdeenjoaaDoorW.PrintMore
def pre : List Int → List Int → Bool
  | [], _ => true
  | _ :: _, [] => false
  | x :: r, y :: b => y == x && pre r b
theorem w64' (n : Nat) (h : n < 4611686018427387904) : wrap64 ((n : Int) + 1) = ((n + 1 : Nat) : Int) := by unfold wrap64; omega
theorem rd_nat (l : List Int) (i : Nat) (h : i < l.length) : rd l (i : Int) = l[i] := by
  unfold rd
  rw [List.getD_eq_getElem?_getD, show ((i : Int)).toNat = i from by omega, List.getElem?_eq_getElem h]
  rfl
theorem drop_nat (l : List Int) (i : Nat) (h : i < l.length) : l.drop i = rd l (i : Int) :: l.drop (i + 1) := by
  rw [rd_nat l i h]; exact List.drop_eq_getElem_cons h
theorem at_eq (b : List Int) (i : Nat) : text_at.f b (i : Int) = some (if i < b.length then (rd b (i : Int), true) else (0, false)) := by
  unfold text_at.f
  by_cases h : i < b.length
  · rw [if_neg (by omega), if_pos (by omega), if_pos (by omega), if_pos h]
  · rw [if_pos (by omega), if_neg h]
theorem begins_loop (b row : List Int) (hl : row.length < 4611686018427387904) : ∀ (n i : Nat), i + n = row.length → Ev (fun k => text_begins.l0 k b row (row.length : Int) (i : Int)) (pre (row.drop i) (b.drop i))
  | 0, i, h => by
    refine Ev.succ ?_
    simp only [text_begins.l0]
    refine Ev.neg (by omega) ?_
    rw [List.drop_eq_nil_of_le (by omega)]
    exact Ev.val _
  | n + 1, i, h => by
    refine Ev.succ ?_
    simp only [text_begins.l0]
    refine Ev.pos (by omega) (Ev.pos (by omega) (Ev.pos (by omega) ?_))
    rw [at_eq]
    simp only [Option.bind_some]
    rw [drop_nat row i (by omega)]
    by_cases hb : i < b.length
    · rw [if_pos hb, drop_nat b i hb]
      refine Ev.pos rfl ?_
      by_cases he : rd b (i : Int) = rd row (i : Int)
      · refine Ev.pos he ?_
        rw [w64' i (by omega)]
        refine (begins_loop b row hl n (i + 1) (by omega)).eq ?_
        simp [pre, he]
      · refine Ev.neg he ?_
        refine (Ev.val _).eq ?_
        simp [pre, he]
    · have hd : b.drop i = [] := List.drop_eq_nil_of_le (by omega)
      rw [if_neg hb, hd]
      refine Ev.neg (by simp) ?_
      exact (Ev.val false).eq rfl
theorem begins_eq (b row : List Int) (hl : row.length < 4611686018427387904) : Ev (fun k => text_begins.f k b row) (pre row b) := by
  simp only [text_begins.f]
  exact (begins_loop b row hl row.length 0 (by omega)).eq (by simp)
def nz (b : List Int) (i : Nat) : Bool := decide (i < b.length) && rd b (i : Int) != 0
theorem some_eq (b : List Int) (i : Nat) : text_some.f b (i : Int) = some (nz b i) := by
  unfold text_some.f nz
  rw [at_eq]
  by_cases h : i < b.length <;> simp [h]
def detect3 (b : List Int) : Int × Int := if (nz b 0 && pre [0] (b.drop 1)) = true then (1, 0) else if pre [239, 187, 191] b = true then (0, 3) else (0, 0)
def detect2 (b : List Int) : Int × Int := if (pre [0] b && nz b 1) = true then (2, 0) else if pre [255, 254] b = true then (1, 2) else detect3 b
def detect1 (b : List Int) : Int × Int := if (nz b 0 && pre [0, 0, 0] (b.drop 1)) = true then (3, 0) else if pre [254, 255] b = true then (2, 2) else detect2 b
def detect (b : List Int) : Int × Int := if pre [0, 0, 254, 255] b = true then (4, 4) else if (pre [0, 0, 0] b && nz b 3) = true then (4, 0) else if pre [255, 254, 0, 0] b = true then (3, 4) else detect1 b
theorem j3_eq (b : List Int) (x : Bool) : Ev (fun k => text_Detect.j3 k b 0 x) (if x = true then (1, 0) else if pre [239, 187, 191] b = true then (0, 3) else (0, 0)) := by
  refine Ev.succ ?_
  simp only [text_Detect.j3]
  refine Ev.ite (fun _ => Ev.val _) (fun _ => ?_)
  refine Ev.bind (begins_eq _ _ (by decide)) ?_
  exact Ev.ite (fun _ => Ev.val _) (fun _ => Ev.val _)
theorem j2_eq (b : List Int) (x : Bool) : Ev (fun k => text_Detect.j2 k b 0 x) (if x = true then (2, 0) else if pre [255, 254] b = true then (1, 2) else detect3 b) := by
  refine Ev.succ ?_
  simp only [text_Detect.j2]
  refine Ev.ite (fun _ => Ev.val _) (fun _ => ?_)
  refine Ev.bind (begins_eq _ _ (by decide)) ?_
  refine Ev.ite (fun _ => Ev.val _) (fun _ => ?_)
  rw [show text_some.f b 0 = some (nz b 0) from some_eq b 0]
  simp only [Option.bind_some]
  unfold detect3
  by_cases h0 : nz b 0 = true
  · refine Ev.pos h0 ?_
    by_cases h1 : (b.length : Int) > 1
    · refine Ev.pos h1 (Ev.pos (by omega) (Ev.bind (begins_eq _ _ (by decide)) ?_))
      exact (j3_eq b _).eq (by simp [h0])
    · refine Ev.neg h1 ((j3_eq b _).eq ?_)
      rw [List.drop_eq_nil_of_le (by omega)]
      simp [pre]
  · refine Ev.neg h0 ((j3_eq b _).eq ?_)
    simp [h0]
theorem j1_eq (b : List Int) (x : Bool) : Ev (fun k => text_Detect.j1 k b 0 x) (if x = true then (3, 0) else if pre [254, 255] b = true then (2, 2) else detect2 b) := by
  refine Ev.succ ?_
  simp only [text_Detect.j1]
  refine Ev.ite (fun _ => Ev.val _) (fun _ => ?_)
  refine Ev.bind (begins_eq _ _ (by decide)) ?_
  refine Ev.ite (fun _ => Ev.val _) (fun _ => ?_)
  refine Ev.bind (begins_eq _ _ (by decide)) ?_
  rw [show text_some.f b 1 = some (nz b 1) from some_eq b 1]
  simp only [Option.bind_some]
  unfold detect2
  by_cases h0 : pre [0] b = true
  · refine Ev.pos h0 ((j2_eq b _).eq ?_)
    simp [h0]
  · refine Ev.neg h0 ((j2_eq b _).eq ?_)
    simp [h0]
theorem j0_eq (b : List Int) (x : Bool) : Ev (fun k => text_Detect.j0 k b 0 x) (if x = true then (4, 0) else if pre [255, 254, 0, 0] b = true then (3, 4) else detect1 b) := by
  refine Ev.succ ?_
  simp only [text_Detect.j0]
  refine Ev.ite (fun _ => Ev.val _) (fun _ => ?_)
  refine Ev.bind (begins_eq _ _ (by decide)) ?_
  refine Ev.ite (fun _ => Ev.val _) (fun _ => ?_)
  rw [show text_some.f b 0 = some (nz b 0) from some_eq b 0]
  simp only [Option.bind_some]
  unfold detect1
  by_cases h0 : nz b 0 = true
  · refine Ev.pos h0 ?_
    by_cases h1 : (b.length : Int) > 3
    · refine Ev.pos h1 (Ev.pos (by omega) (Ev.bind (begins_eq _ _ (by decide)) ?_))
      exact (j1_eq b _).eq (by simp [h0])
    · refine Ev.neg h1 ((j1_eq b _).eq ?_)
      have : pre [0, 0, 0] (b.drop 1) = false := by
        match b, h1 with
        | [], _ => rfl
        | [_], _ => rfl
        | [_, _], _ => simp [pre]
        | [_, _, _], _ => simp [pre]
        | _ :: _ :: _ :: _ :: _, h1 => exact absurd (by simp only [List.length_cons]; omega) h1
      rw [this]
      simp
  · refine Ev.neg h0 ((j1_eq b _).eq ?_)
    simp [h0]
theorem detect_eq (b : List Int) : Ev (fun k => text_Detect.f k b) (detect b) := by
  simp only [text_Detect.f]
  refine Ev.bind (begins_eq _ _ (by decide)) ?_
  unfold detect
  refine Ev.ite (fun _ => Ev.val _) (fun _ => ?_)
  refine Ev.bind (begins_eq _ _ (by decide)) ?_
  rw [show text_some.f b 3 = some (nz b 3) from some_eq b 3]
  simp only [Option.bind_some]
  by_cases h0 : pre [0, 0, 0] b = true
  · refine Ev.pos h0 ((j0_eq b _).eq ?_)
    simp [h0]
  · refine Ev.neg h0 ((j0_eq b _).eq ?_)
    simp [h0]
end Go.Proofs.YtdbkefgdeenjoaaDoor.Plain
