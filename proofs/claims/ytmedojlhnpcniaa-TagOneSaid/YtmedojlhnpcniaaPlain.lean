/- Plain: what kind a text is, told in two ways on lists of bytes: they agree. No condition. -/
import Derived.Test.YtmedojlhnpcniaaBytes
namespace Go.Proofs.Ytmedojlhnpcniaa.Plain
open Go.Proofs.Ytmedojlhnpcniaa.Bytes

/-- A digit's value. -/
def val (c : UInt8) : Int := if 97 ≤ c.toNat ∧ c.toNat ≤ 102 then c.toNat - 87 else if 65 ≤ c.toNat ∧ c.toNat ≤ 70 then c.toNat - 55 else if 48 ≤ c.toNat ∧ c.toNat ≤ 57 then c.toNat - 48 else 16
def dig (b : Int) (c : UInt8) : Bool := decide (val c < b)
def sgn (l : List UInt8) : List UInt8 := match l with
  | [] => []
  | c :: t => if c = 43 ∨ c = 45 then t else c :: t
def ten : List UInt8 := [48, 49, 50, 51, 52, 53, 54, 55, 56, 57]
def eight : List UInt8 := [48, 49, 50, 51, 52, 53, 54, 55]
def hex : List UInt8 := [48, 49, 50, 51, 52, 53, 54, 55, 56, 57, 97, 98, 99, 100, 101, 102, 65, 66, 67, 68, 69, 70]
theorem dig10 (c : UInt8) : dig 10 c = ten.contains c := all_u8 (p := fun c => dig 10 c = ten.contains c) (by decide +kernel) c
theorem dig8 (c : UInt8) : dig 8 c = eight.contains c := all_u8 (p := fun c => dig 8 c = eight.contains c) (by decide +kernel) c
theorem dig16 (c : UInt8) : dig 16 c = hex.contains c := all_u8 (p := fun c => dig 16 c = hex.contains c) (by decide +kernel) c

/-- Bytes of some, one at least. -/
def only (l of : List UInt8) : Bool := l.all of.contains && !l.isEmpty
def alld (b : Int) (l : List UInt8) : Bool := l.all (dig b) && !l.isEmpty
theorem alld10 (l : List UInt8) : alld 10 l = only l ten := by unfold alld only; congr 2; funext c; exact dig10 c
theorem alld8 (l : List UInt8) : alld 8 l = only l eight := by unfold alld only; congr 2; funext c; exact dig8 c
theorem alld16 (l : List UInt8) : alld 16 l = only l hex := by unfold alld only; congr 2; funext c; exact dig16 c

def pre (p l : List UInt8) : Bool := p.isPrefixOf l
def whole (l : List UInt8) : Bool := if pre [48, 111] l then alld 8 (l.drop 2) else if pre [48, 120] l then alld 16 (l.drop 2) else alld 10 (sgn l)
def whole2 (l : List UInt8) : Bool := if only (sgn l) ten then true else if pre [48, 111] l then only (l.drop 2) eight else if pre [48, 120] l then only (l.drop 2) hex else false

theorem whole_eq (l : List UInt8) : whole l = whole2 l := by
  unfold whole whole2
  by_cases h1 : pre [48, 111] l = true
  · have h2 : only (sgn l) ten = false := by
      cases l with
      | nil => rfl
      | cons a t => cases t with
        | nil => simp [pre] at h1
        | cons b t =>
          simp [pre] at h1; obtain ⟨rfl, rfl⟩ := h1
          rfl
    rw [if_pos h1, if_neg (by simp [h2]), if_pos h1, alld8]
  · rw [if_neg h1, if_neg h1]
    by_cases h3 : pre [48, 120] l = true
    · have h2 : only (sgn l) ten = false := by
        cases l with
        | nil => rfl
        | cons a t => cases t with
          | nil => simp [pre] at h3
          | cons b t =>
            simp [pre] at h3; obtain ⟨rfl, rfl⟩ := h3
            rfl
      rw [if_pos h3, if_pos h3, if_neg (by simp [h2]), alld16]
    · rw [if_neg h3, if_neg h3, alld10]
      cases only (sgn l) ten <;> rfl

def isE (c : UInt8) : Bool := c == 101 || c == 69
/-- What stands behind the digits ahead. -/
def tail2 (many : Nat) (r : List UInt8) : Bool := if many = 0 then false else match r with
  | [] => true
  | c :: u => isE c && alld 10 (sgn u)
def real (l : List UInt8) : Bool :=
  let t := sgn l
  let a := t.takeWhile (dig 10)
  match t.dropWhile (dig 10) with
  | [] => tail2 a.length []
  | c :: u => if c = 46 then tail2 (a.length + (u.takeWhile (dig 10)).length) (u.dropWhile (dig 10)) else tail2 a.length (c :: u)
def fraction (m : List UInt8) : Bool := match m.dropWhile (fun c => !(c == 46)) with
  | [] => only m ten
  | _ :: behind => if (m.takeWhile (fun c => !(c == 46))) = [] then only behind ten else only (m.takeWhile (fun c => !(c == 46))) ten && (behind.isEmpty || only behind ten)
def float2 (l : List UInt8) : Bool := match (sgn l).dropWhile (fun c => !isE c) with
  | [] => fraction (sgn l)
  | _ :: v => only (sgn v) ten && fraction ((sgn l).takeWhile (fun c => !isE c))

theorem dig_e (c : UInt8) (h : dig 10 c = true) : isE c = false ∧ (c == 46) = false :=
  all_u8 (p := fun c => dig 10 c = true → isE c = false ∧ (c == 46) = false) (by decide +kernel) c h

theorem split_at (p : UInt8 → Bool) (l : List UInt8) : l = l.takeWhile p ++ l.dropWhile p ∧ (∀ c ∈ l.takeWhile p, p c = true) ∧ ∀ c u, l.dropWhile p = c :: u → p c = false := by
  refine ⟨(List.takeWhile_append_dropWhile).symm, ?_, ?_⟩
  · intro c hc; induction l with
    | nil => simp at hc
    | cons a t ih =>
      rw [List.takeWhile_cons] at hc
      split at hc
      · rcases List.mem_cons.mp hc with rfl | h
        · assumption
        · exact ih h
      · simp at hc
  · intro c u h; induction l with
    | nil => simp at h
    | cons a t ih =>
      rw [List.dropWhile_cons] at h
      split at h
      · exact ih h
      · rename_i hn; injection h with h1 h2; subst h1; exact Bool.eq_false_iff.mpr hn

theorem tw_app (p : UInt8 → Bool) (a b : List UInt8) (h : ∀ c ∈ a, p c = true) : (a ++ b).takeWhile p = a ++ b.takeWhile p := by
  induction a with
  | nil => rfl
  | cons c t ih => rw [List.cons_append, List.takeWhile_cons, if_pos (h c (by simp)), ih (fun c hc => h c (by simp [hc]))]; rfl
theorem dw_app (p : UInt8 → Bool) (a b : List UInt8) (h : ∀ c ∈ a, p c = true) : (a ++ b).dropWhile p = b.dropWhile p := by
  induction a with
  | nil => rfl
  | cons c t ih => rw [List.cons_append, List.dropWhile_cons, if_pos (h c (by simp)), ih (fun c hc => h c (by simp [hc]))]

theorem all_dig (a : List UInt8) (h : ∀ c ∈ a, dig 10 c = true) : a.all ten.contains = true := by
  rw [List.all_eq_true]; intro c hc; rw [← dig10]; exact h c hc
theorem not_ten (c : UInt8) (h : dig 10 c = false) : ten.contains c = false := by rw [← dig10]; exact h

theorem real_eq (l : List UInt8) : real l = float2 l := by
  unfold real float2
  generalize sgn l = t
  obtain ⟨ht, ha, hr⟩ := split_at (dig 10) t
  simp only []
  generalize t.takeWhile (dig 10) = a at *
  generalize t.dropWhile (dig 10) = r at *
  subst ht
  have haE : ∀ c ∈ a, (fun c => !isE c) c = true := fun c hc => by simp [(dig_e c (ha c hc)).1]
  have haD : ∀ c ∈ a, (fun c : UInt8 => !(c == 46)) c = true := fun c hc => by simp only [(dig_e c (ha c hc)).2]; rfl
  have haA := all_dig a ha
  rw [tw_app _ _ _ haE, dw_app _ _ _ haE]
  cases r with
  | nil =>
    simp only [List.dropWhile_nil, List.append_nil]
    unfold fraction
    rw [show a.dropWhile (fun c => !(c == 46)) = [] from by have := dw_app _ a [] haD; rw [List.append_nil] at this; exact this]
    unfold tail2 only
    rw [haA]
    cases a <;> simp
  | cons c u =>
    have hc := hr c u rfl
    by_cases h46 : c = 46
    · subst h46
      dsimp only
      rw [if_pos rfl]
      have e1 : (fun c => !isE c) (46 : UInt8) = true := by decide
      rw [List.takeWhile_cons, List.dropWhile_cons, if_pos e1, if_pos e1]
      obtain ⟨hu, hb, hr'⟩ := split_at (dig 10) u
      generalize u.takeWhile (dig 10) = b at *
      generalize u.dropWhile (dig 10) = r' at *
      subst hu
      have hbE : ∀ c ∈ b, (fun c => !isE c) c = true := fun c hc => by simp [(dig_e c (hb c hc)).1]
      have hbA := all_dig b hb
      rw [tw_app _ _ _ hbE, dw_app _ _ _ hbE]
      have frac : ∀ w, fraction (a ++ 46 :: w) = (if a = [] then only w ten else (w.isEmpty || only w ten)) := by
        intro w
        unfold fraction
        rw [tw_app _ _ _ haD, dw_app _ _ _ haD]
        have e2 : (fun c : UInt8 => !(c == 46)) 46 = false := by decide
        rw [List.takeWhile_cons, List.dropWhile_cons, if_neg (by decide), if_neg (by decide)]
        simp only [List.append_nil]
        by_cases hn : a = []
        · simp [hn]
        · have : only a ten = true := by unfold only; rw [haA]; simpa using hn
          simp [hn, this]
      cases r' with
      | nil =>
        simp only [List.dropWhile_nil, List.append_nil]
        rw [frac]
        unfold tail2 only
        rw [hbA]
        cases a <;> cases b <;> simp
      | cons c' v =>
        have hc' := hr' c' v rfl
        by_cases hE : isE c' = true
        · rw [List.takeWhile_cons, List.dropWhile_cons, if_neg (by simp [hE]), if_neg (by simp [hE])]
          simp only [List.append_nil]
          rw [frac]
          unfold tail2
          simp only [hE, Bool.true_and]
          rw [alld10]
          have : only b ten = !b.isEmpty := by unfold only; rw [hbA]; rfl
          rw [this]
          cases a <;> cases b <;> simp
        · have hE' : isE c' = false := by simpa using hE
          have hbad : ∀ w, only (b ++ c' :: w) ten = false := by
            intro w; unfold only; rw [List.all_append, List.all_cons, not_ten c' hc']; simp
          have hne : ∀ w, (b ++ c' :: w).isEmpty = false := by intro w; cases b <;> rfl
          have hfr : ∀ w, fraction (a ++ 46 :: (b ++ c' :: w)) = false := by
            intro w; rw [frac, hbad, hne]; simp
          rw [List.takeWhile_cons, List.dropWhile_cons, if_pos (by simp [hE']), if_pos (by simp [hE'])]
          rw [show (tail2 (a.length + b.length) (c' :: v)) = false from by unfold tail2; simp [hE']]
          cases hd : v.dropWhile (fun c => !isE c) with
          | nil => exact (hfr v).symm
          | cons _ _ => dsimp only; rw [hfr]; simp
    · dsimp only
      rw [if_neg h46]
      by_cases hE : isE c = true
      · rw [List.takeWhile_cons, List.dropWhile_cons, if_neg (by simp [hE]), if_neg (by simp [hE])]
        simp only [List.append_nil]
        unfold fraction
        rw [show a.dropWhile (fun c => !(c == 46)) = [] from by have := dw_app _ a [] haD; rw [List.append_nil] at this; exact this]
        unfold tail2
        simp only [hE, Bool.true_and]
        rw [alld10]
        have : only a ten = !a.isEmpty := by unfold only; rw [haA]; rfl
        rw [this]
        cases a <;> simp
      · have hE' : isE c = false := by simpa using hE
        have hbad : ∀ w, only (a ++ c :: w) ten = false := by
          intro w; unfold only; rw [List.all_append, List.all_cons, not_ten c hc]; simp
        have hfr : ∀ w, fraction (a ++ c :: w) = false := by
          intro w
          unfold fraction
          rw [tw_app _ _ _ haD, dw_app _ _ _ haD]
          have e2 : (fun c : UInt8 => !(c == 46)) c = true := by simp [h46]
          rw [List.takeWhile_cons, List.dropWhile_cons, if_pos e2, if_pos e2]
          cases hd : w.dropWhile (fun c => !(c == 46)) with
          | nil => simp only []; exact hbad w
          | cons _ _ =>
            simp only []
            rw [if_neg (by simp), hbad]
            simp
        rw [List.takeWhile_cons, List.dropWhile_cons, if_pos (by simp [hE']), if_pos (by simp [hE'])]
        rw [show (tail2 a.length (c :: u)) = false from by unfold tail2; simp [hE']]
        cases hd : u.dropWhile (fun c => !isE c) with
        | nil => exact (hfr u).symm
        | cons _ _ => dsimp only; rw [hfr]; simp
end Go.Proofs.Ytmedojlhnpcniaa.Plain
