/- Words and walks that the row of TextTells needs: printed by programs, and plain laws. -/
import Derived.Test.YtdbkefgdeenjoaaDoorM5
import Derived.Test.YtdbkefgdeenjoaaDoorM6
import Derived.Test.YtdbkefgdeenjoaaDoorM7
import Derived.Test.YtdbkefgdeenjoaaDoorM8
import Derived.Test.YtdbkefgdeenjoaaDoorM9
import Derived.Test.YtdbkefgdeenjoaaDoorM11
import Derived.Test.YtdbkefgdeenjoaaDoorM10
import Derived.Test.YtdbkefgdeenjoaaDoorM0
import Derived.Test.YtdbkefgdeenjoaaDoorRows
import Derived.Lib.LaidU8T
import Derived.PinnedBridge
import Derived.SizedLaws
import Derived.ChangeSlices
section
namespace Go.Proofs.YtdbkefgdeenjoaaDoor.Plain
set_option linter.unusedVariables false
set_option linter.unusedSimpArgs false
open Go.RowKit Go.Proofs.YtdbkefgdeenjoaaDoor.X Go.Proofs.YtdbkefgdeenjoaaDoorW.PrintWords Go.Proofs.YtdbkefgdeenjoaaDoorW.PrintLast Go.Proofs.YtdbkefgdeenjoaaDoorW.PrintMore
def fit : List Int → List Int → Bool
  | [], _ => true
  | _ :: _, [] => false
  | x :: r, y :: b => (if x = 256 then decide (y ≠ 0) else decide (y = x)) && fit r b
theorem fits_loop (b row : List Int) (hb : Bts b) (hl : row.length ≤ b.length) (hr : row.length ≤ 4294967296) (hw : ∀ x ∈ row, x ≤ 256) : ∀ (n i : Nat), i + n = row.length → Ev (fun k => grilleref01_fits.l0 k b row (i : Int)) (fit (row.drop i) (b.drop i))
  | 0, i, h => by
    refine Ev.succ ?_
    simp only [grilleref01_fits.l0]
    refine Ev.neg (by omega) ((Ev.val _).eq ?_)
    rw [List.drop_eq_nil_of_le (by omega)]
    rfl
  | n + 1, i, h => by
    refine Ev.succ ?_
    simp only [grilleref01_fits.l0]
    have hx := hw _ (rd_mem row i (by omega))
    obtain ⟨b0, b1⟩ := hb _ (rd_mem b i (by omega))
    have ih := fits_loop b row hb hl hr hw n (i + 1) (by omega)
    rw [← w64' i (by omega)] at ih
    rw [drop_nat row i (by omega), drop_nat b i (by omega), fit, w64 (rd b (i : Int)) (by omega) (by omega)]
    refine Ev.pos (by omega) (Ev.pos (by omega) ?_)
    by_cases h256 : rd row (i : Int) = 256
    · rw [if_pos h256]
      refine Ev.pos h256 (Ev.pos (by omega) ?_)
      by_cases hz : rd b (i : Int) = 0
      · exact Ev.pos hz ((Ev.val _).eq (by simp [hz]))
      · exact Ev.neg hz (Ev.neg (by omega) (ih.eq (by simp [hz])))
    · rw [if_neg h256]
      refine Ev.neg h256 (Ev.pos (by omega) (Ev.pos (by omega) ?_))
      by_cases hz : rd b (i : Int) = rd row (i : Int)
      · exact Ev.pos hz (ih.eq (by simp [hz]))
      · exact Ev.neg hz ((Ev.val _).eq (by simp [hz]))
theorem fit_short : ∀ (row b : List Int), b.length < row.length → fit row b = false
  | [], _, h => by simp at h
  | _ :: _, [], _ => rfl
  | x :: r, y :: b, h => by
    rw [fit, fit_short r b (by simp at h; omega), Bool.and_false]
theorem fits_eq (b row : List Int) (hb : Bts b) (hr : row.length ≤ 4294967296) (hw : ∀ x ∈ row, x ≤ 256) : Ev (fun k => grilleref01_fits.f k b row) (fit row b) := by
  simp only [grilleref01_fits.f]
  by_cases h : (b.length : Int) < (row.length : Int)
  · refine Ev.pos h ((Ev.val _).eq ?_)
    rw [fit_short row b (by omega)]
  · exact Ev.neg h (fits_loop b row hb (by omega) hr hw row.length 0 (by omega))
def rdetect (b : List Int) : Int × Int :=
  if fit [0, 0, 254, 255] b = true then (4, 4) else if fit [0, 0, 0, 256] b = true then (4, 0) else if fit [255, 254, 0, 0] b = true then (3, 4) else if fit [256, 0, 0, 0] b = true then (3, 0)
  else if fit [254, 255] b = true then (2, 2) else if fit [0, 256] b = true then (2, 0) else if fit [255, 254] b = true then (1, 2) else if fit [256, 0] b = true then (1, 0) else if fit [239, 187, 191] b = true then (0, 3) else (0, 0)
theorem fit_pre : ∀ (row b : List Int), (∀ x ∈ row, x ≠ 256) → fit row b = pre row b
  | [], _, _ => by simp [fit, pre]
  | _ :: _, [], _ => by simp [fit, pre]
  | x :: r, y :: b, h => by
    rw [fit, pre, if_neg (h x List.mem_cons_self), fit_pre r b (fun z hz => h z (List.mem_cons_of_mem _ hz))]
    congr 1
theorem fit_a (b : List Int) : fit [0, 0, 0, 256] b = (pre [0, 0, 0] b && nz b 3) := by
  match b with
  | [] => rfl
  | [_] => simp [fit, pre]
  | [_, _] => simp [fit, pre]
  | [_, _, _] => simp [fit, pre, nz]
  | x :: y :: z :: u :: t =>
    simp only [fit, pre, nz, rd]
    by_cases hu : u = 0 <;> by_cases hx : x = 0 <;> by_cases hy : y = 0 <;> by_cases hz : z = 0 <;> simp [hu, hx, hy, hz]
theorem fit_b (b : List Int) : fit [256, 0, 0, 0] b = (nz b 0 && pre [0, 0, 0] (b.drop 1)) := by
  match b with
  | [] => rfl
  | x :: t =>
    have e := fit_pre [0, 0, 0] t (by decide)
    rw [fit, e]
    simp only [nz, rd]
    by_cases hx : x = 0 <;> simp [hx]
theorem fit_c (b : List Int) : fit [0, 256] b = (pre [0] b && nz b 1) := by
  match b with
  | [] => rfl
  | [_] => simp [fit, pre, nz]
  | x :: u :: t =>
    simp only [fit, pre, nz, rd]
    by_cases hu : u = 0 <;> by_cases hx : x = 0 <;> simp [hu, hx]
theorem fit_d (b : List Int) : fit [256, 0] b = (nz b 0 && pre [0] (b.drop 1)) := by
  match b with
  | [] => rfl
  | x :: t =>
    have e := fit_pre [0] t (by decide)
    rw [fit, e]
    simp only [nz, rd]
    by_cases hx : x = 0 <;> simp [hx]
theorem rdetect_same (b : List Int) : rdetect b = detect b := by
  unfold rdetect detect detect1 detect2 detect3
  rw [fit_a, fit_b, fit_c, fit_d, fit_pre [0, 0, 254, 255] b (by decide), fit_pre [255, 254, 0, 0] b (by decide), fit_pre [254, 255] b (by decide), fit_pre [255, 254] b (by decide), fit_pre [239, 187, 191] b (by decide)]
theorem rdetect_eq (b : List Int) (hb : Bts b) : Ev (fun k => grilleref01_Detect.f k b) (detect b) := by
  rw [← rdetect_same]
  simp only [grilleref01_Detect.f]
  unfold rdetect
  have go (row : List Int) (hr : row.length ≤ 4294967296) (hw : ∀ x ∈ row, x ≤ 256) {g : Nat → Option (Int × Int)} {p q : Int × Int} (h : Ev g q) : Ev (fun k => (grilleref01_fits.f k b row).bind fun t => if t = true then some p else g k) (if fit row b = true then p else q) :=
    Ev.bind (fits_eq b row hb hr hw) (Ev.ite (fun _ => Ev.val _) (fun _ => h))
  refine go _ (by decide) (by decide) ?_
  refine go _ (by decide) (by decide) ?_
  refine go _ (by decide) (by decide) ?_
  refine go _ (by decide) (by decide) ?_
  refine go _ (by decide) (by decide) ?_
  refine go _ (by decide) (by decide) ?_
  refine go _ (by decide) (by decide) ?_
  refine go _ (by decide) (by decide) ?_
  exact go _ (by decide) (by decide) (Ev.val _)
theorem enc_len (r : Int) (h : ok r) : ((Lib.encodeRuneZ r).length : Int) = if r < 128 then 1 else if r < 2048 then 2 else if r < 65536 then 3 else 4 := by
  obtain ⟨h0, h1, h2⟩ := h
  by_cases a : r < 128
  · rw [if_pos a, Lib.encodeRuneZ_one h0 (by omega)]; rfl
  rw [if_neg a]
  by_cases b : r < 2048
  · rw [if_pos b, Lib.encodeRuneZ_two (by omega) (by omega)]; rfl
  rw [if_neg b]
  by_cases c : r < 65536
  · rw [if_pos c, Lib.encodeRuneZ_three (by omega)]; rfl
  · rw [if_neg c, Lib.encodeRuneZ_four (by omega) h1]; rfl
theorem enc_low (r : Int) (h : ok r) : (r < 128 → ((Lib.encodeRuneZ r).length : Int) = 1) ∧ (128 ≤ r → r < 2048 → ((Lib.encodeRuneZ r).length : Int) = 2) ∧ (2048 ≤ r → r < 65536 → ((Lib.encodeRuneZ r).length : Int) = 3) := by
  rw [enc_len r h]
  refine ⟨fun a => if_pos a, fun a b => ?_, fun a b => ?_⟩
  · rw [if_neg (by omega), if_pos b]
  · rw [if_neg (by omega), if_neg (by omega), if_pos b]
def lead (c : Int) : Int × Int := if c < 128 then (1, c) else if 192 ≤ c ∧ c < 224 then (2, c - 192) else if 224 ≤ c ∧ c < 240 then (3, c - 224) else if 240 ≤ c ∧ c < 248 then (4, c - 240) else (0, 0)
theorem lead_eq (c : Int) (h0 : 0 ≤ c) (h1 : c < 256) : Ev (fun k => grilleref01_lead.f k c) (lead c) := by
  have jt : Ev (fun k => grilleref01_lead.j1 k c (decide (224 ≤ c ∧ c < 240))) (if 224 ≤ c ∧ c < 240 then (3, c - 224) else if 240 ≤ c ∧ c < 248 then (4, c - 240) else (0, 0)) := by
    refine Ev.succ ?_
    simp only [grilleref01_lead.j1]
    rw [w64 (c - 224) (by omega) (by omega), w64 (c - 240) (by omega) (by omega)]
    by_cases h : 224 ≤ c ∧ c < 240
    · rw [if_pos h]
      exact Ev.pos (decide_eq_true h) (Ev.val _)
    · rw [if_neg h]
      refine Ev.neg (by simpa using h) ?_
      by_cases h' : c ≥ 240
      · refine Ev.pos h' ?_
        by_cases h'' : c < 248
        · rw [if_pos (show 240 ≤ c ∧ c < 248 from ⟨h', h''⟩)]; exact Ev.pos h'' (Ev.val _)
        · rw [if_neg (show ¬ (240 ≤ c ∧ c < 248) by omega)]; exact Ev.neg h'' (Ev.val _)
      · rw [if_neg (show ¬ (240 ≤ c ∧ c < 248) by omega)]; exact Ev.neg h' (Ev.val _)
  have jz : Ev (fun k => grilleref01_lead.j0 k c (decide (192 ≤ c ∧ c < 224))) (if 192 ≤ c ∧ c < 224 then (2, c - 192) else if 224 ≤ c ∧ c < 240 then (3, c - 224) else if 240 ≤ c ∧ c < 248 then (4, c - 240) else (0, 0)) := by
    refine Ev.succ ?_
    simp only [grilleref01_lead.j0]
    rw [w64 (c - 192) (by omega) (by omega)]
    by_cases h : 192 ≤ c ∧ c < 224
    · rw [if_pos h]
      exact Ev.pos (decide_eq_true h) (Ev.val _)
    · rw [if_neg h]
      refine Ev.neg (by simpa using h) ?_
      by_cases h' : c ≥ 224
      · refine Ev.pos h' ?_
        rw [show decide (c < 240) = decide (224 ≤ c ∧ c < 240) from decide_eq_decide.mpr (by omega)]
        exact jt
      · refine Ev.neg h' ?_
        rw [show decide (224 ≤ c ∧ c < 240) = false from decide_eq_false (by omega)] at jt
        exact jt
  simp only [grilleref01_lead.f]
  unfold lead
  by_cases h : c < 128
  · rw [if_pos h]; exact Ev.pos h (Ev.val _)
  rw [if_neg h]
  refine Ev.neg h ?_
  by_cases h' : c ≥ 192
  · refine Ev.pos h' ?_
    rw [show decide (c < 224) = decide (192 ≤ c ∧ c < 224) from decide_eq_decide.mpr (by omega)]
    exact jz
  · refine Ev.neg h' ?_
    rw [show decide (192 ≤ c ∧ c < 224) = false from decide_eq_false (by omega)] at jz
    exact jz
theorem rp_step (b out : List Int) (w : Int) (r : Int) (i : Nat) (v : List Int × Bool) (hb : Bts b) (hi : (i : Int) < w) (hl : i < b.length) (h4 : i ≤ 4) (h0 : 0 ≤ r) (h1 : r ≤ 1099511627776)
    (h : rd b (i : Int) / 64 = 2 → Ev (fun k => grilleref01_plain.l1 k b out w (r * 64 + rd b (i : Int) - 128) ((i + 1 : Nat) : Int)) v) (h' : ¬ rd b (i : Int) / 64 = 2 → v = ([], false)) : Ev (fun k => grilleref01_plain.l1 k b out w r (i : Int)) v := by
  obtain ⟨b0, b1⟩ := hb _ (rd_mem b i hl)
  refine Ev.succ ?_
  simp only [grilleref01_plain.l1]
  refine Ev.pos hi (Ev.pos (by omega) (Ev.pos (by omega) ?_))
  by_cases c : rd b (i : Int) < 128
  · rw [h' (by omega)]
    exact Ev.pos c (Ev.val _)
  refine Ev.neg c ?_
  by_cases d : rd b (i : Int) > 191
  · rw [h' (by omega)]
    exact Ev.pos d (Ev.val _)
  refine Ev.neg d ?_
  rw [w64 (r * 64) (by omega) (by omega), w64 (rd b (i : Int)) (by omega) (by omega), w64 (r * 64 + rd b (i : Int)) (by omega) (by omega), w64 (r * 64 + rd b (i : Int) - 128) (by omega) (by omega), w64' i (by omega)]
  exact h (by omega)
theorem rp_end (b out : List Int) (w : Nat) (r : Int) (v : List Int × Bool) (hw : w ≤ b.length) (ho : out.length ≤ 4294967296)
    (h : ok r → ((Lib.encodeRuneZ r).length : Int) = (w : Int) → Ev (fun k => grilleref01_plain.l0 k (b.drop w) (out ++ [r])) v) (h' : ¬ (ok r ∧ ((Lib.encodeRuneZ r).length : Int) = (w : Int)) → v = ([], false)) : Ev (fun k => grilleref01_plain.l1 k b out (w : Int) r (w : Int)) v := by
  refine Ev.succ ?_
  simp only [grilleref01_plain.l1]
  refine Ev.neg (by omega) ?_
  refine Ev.bind (Ev.one (char_eq r)) ?_
  by_cases hk : ok r
  · refine Ev.pos (by simp [hk]) ?_
    refine Ev.bind (Ev.one (bytes_eq r hk)) ?_
    by_cases hl : ((Lib.encodeRuneZ r).length : Int) = (w : Int)
    · refine Ev.pos hl (Ev.pos (by omega) (Ev.pos (by omega) (Ev.pos (by omega) ?_)))
      rw [Int.toNat_natCast]
      exact h hk hl
    · rw [h' (fun e => hl e.2)]
      exact Ev.neg hl (Ev.val _)
  · rw [h' (fun e => hk e.1)]
    exact Ev.neg (by simp [hk]) (Ev.val _)
set_option maxHeartbeats 2000000 in
theorem rplain_loop : ∀ (n : Nat) (b out : List Int), b.length ≤ n → Bts b → out.length + b.length ≤ 4294967296 → Ev (fun k => grilleref01_plain.l0 k b out) (res out (plainL n b))
  | n, [], out, _, _, _ => by
    refine Ev.succ ?_
    simp only [grilleref01_plain.l0]
    refine Ev.neg (by simp) ((Ev.val _).eq ?_)
    cases n <;> simp [plainL, res]
  | 0, _ :: _, out, h, _, _ => by simp at h
  | n + 1, a :: t, out, h, hb, ho => by
    obtain ⟨b, eb⟩ : ∃ b, a :: t = b := ⟨_, rfl⟩
    have hun : plainL (n + 1) (a :: t) = (dec1 (a :: t)).bind fun p => (plainL n ((a :: t).drop p.2)).map (p.1 :: ·) := rfl
    have hpos : 0 < b.length := by rw [← eb]; simp
    have rec_ (w : Nat) (r : Int) (h1 : 1 ≤ w) : Ev (fun k => grilleref01_plain.l0 k (b.drop w) (out ++ [r])) (res out ((plainL n (b.drop w)).map (r :: ·))) := by
      rw [← res_map]
      have hl : b.length ≤ n + 1 := by rw [← eb]; exact h
      have ho' : out.length + b.length ≤ 4294967296 := by rw [← eb]; exact ho
      exact rplain_loop n _ _ (by rw [List.length_drop]; omega) (bts_drop (eb ▸ hb) w) (by rw [List.length_append, List.length_drop]; simp; omega)
    rw [eb] at h hb ho hun ⊢
    rw [hun]
    clear hun eb
    obtain ⟨a0, a1⟩ : 0 ≤ rd b 0 ∧ rd b 0 < 256 := rd_bts hb 0
    obtain ⟨c0, c1⟩ : 0 ≤ rd b 1 ∧ rd b 1 < 256 := rd_bts hb 1
    obtain ⟨d0, d1⟩ : 0 ≤ rd b 2 ∧ rd b 2 < 256 := rd_bts hb 2
    obtain ⟨e0, e1⟩ : 0 ≤ rd b 3 ∧ rd b 3 < 256 := rd_bts hb 3
    refine Ev.succ ?_
    simp only [grilleref01_plain.l0]
    rw [w64 (rd b 0) (by omega) (by omega)]
    refine Ev.pos (by omega) (Ev.pos (by omega) (Ev.bind (lead_eq (rd b 0) a0 a1) ?_))
    have bad (w r : Int) (is : Bool) (hv : dec1 b = none) (hi : is = true) : Ev (fun k => grilleref01_plain.j1 k b out w r is) (res out ((dec1 b).bind fun p => (plainL n (b.drop p.2)).map (p.1 :: ·))) := by
      rw [hv]
      refine Ev.succ ?_
      simp only [grilleref01_plain.j1]
      exact Ev.pos hi (Ev.val _)
    have run (w r : Int) (is : Bool) (hi : is = false) {v} (hv : Ev (fun k => grilleref01_plain.l1 k b out w r 1) v) : Ev (fun k => grilleref01_plain.j1 k b out w r is) v := by
      refine Ev.succ ?_
      simp only [grilleref01_plain.j1]
      exact Ev.neg (by simp [hi]) hv
    by_cases q1 : rd b 0 < 128
    · have hl : lead (rd b 0) = (1, rd b 0) := by unfold lead; rw [if_pos q1]
      rw [hl]
      refine Ev.neg (by simp) ?_
      show Ev (fun k => grilleref01_plain.j1 k b out 1 (rd b 0) (decide ((1 : Int) > (b.length : Int)))) _
      refine run _ _ _ (decide_eq_false (by omega)) ?_
      have hd : dec1 b = some (rd b 0, 1) := by unfold dec1 decI; rw [if_pos q1]
      rw [hd]
      refine rp_end b out 1 _ _ (by omega) (by omega) (fun _ _ => rec_ 1 _ (by omega)) (fun hn => (hn ⟨⟨a0, by omega, by omega⟩, ?_⟩).elim)
      rw [enc_len _ ⟨a0, by omega, by omega⟩, if_pos q1]; rfl
    by_cases q2 : 192 ≤ rd b 0 ∧ rd b 0 < 224
    · have hl : lead (rd b 0) = (2, rd b 0 - 192) := by unfold lead; rw [if_neg q1, if_pos q2]
      rw [hl]
      refine Ev.neg (by simp) ?_
      show Ev (fun k => grilleref01_plain.j1 k b out 2 (rd b 0 - 192) (decide ((2 : Int) > (b.length : Int)))) _
      by_cases g : (2 : Int) > (b.length : Int)
      · refine bad _ _ _ ?_ (decide_eq_true g)
        unfold dec1 decI
        rw [if_neg q1, if_neg (by omega), if_neg (by omega), if_neg (by omega)]
      refine run _ _ _ (decide_eq_false g) ?_
      refine rp_step b out 2 _ 1 _ hb (by decide) (by omega) (by decide) (by omega) (by omega) (fun g1 => ?_) (fun g1 => ?_)
      · have f1 : rd b ((1 : Nat) : Int) = rd b 1 := rfl
        rw [f1] at g1 ⊢
        refine rp_end b out 2 _ _ (by omega) (by omega) (fun hk hn => ?_) (fun hn => ?_)
        · have hq := enc_low _ hk
          have hd : dec1 b = some ((rd b 0 - 192) * 64 + rd b 1 - 128, 2) := by
            unfold dec1 decI
            have e : rd b 0 % 32 * 64 + rd b 1 % 64 = (rd b 0 - 192) * 64 + rd b 1 - 128 := by omega
            rw [if_neg q1, if_pos ⟨by omega, by omega, g1⟩, e, if_pos]
            omega
          rw [hd]
          exact rec_ 2 _ (by omega)
        · have hd : dec1 b = none := by
            unfold dec1 decI
            have e : rd b 0 % 32 * 64 + rd b 1 % 64 = (rd b 0 - 192) * 64 + rd b 1 - 128 := by omega
            rw [if_neg q1, if_pos ⟨by omega, by omega, g1⟩, e, if_neg]
            intro hg
            have hk : ok ((rd b 0 - 192) * 64 + rd b 1 - 128) := by rw [← e]; unfold ok; omega
            refine hn ⟨hk, ?_⟩
            rw [enc_len _ hk, if_neg (by omega), if_pos (by omega)]; rfl
          rw [hd]; rfl
      · have hd : dec1 b = none := by
          unfold dec1 decI
          rw [if_neg q1, if_neg (fun z => g1 z.2.2), if_neg (by omega), if_neg (by omega)]
        rw [hd]; rfl
    by_cases q3 : 224 ≤ rd b 0 ∧ rd b 0 < 240
    · have hl : lead (rd b 0) = (3, rd b 0 - 224) := by unfold lead; rw [if_neg q1, if_neg q2, if_pos q3]
      rw [hl]
      refine Ev.neg (by simp) ?_
      show Ev (fun k => grilleref01_plain.j1 k b out 3 (rd b 0 - 224) (decide ((3 : Int) > (b.length : Int)))) _
      by_cases g : (3 : Int) > (b.length : Int)
      · refine bad _ _ _ ?_ (decide_eq_true g)
        unfold dec1 decI
        rw [if_neg q1, if_neg (by omega), if_neg (by omega), if_neg (by omega)]
      refine run _ _ _ (decide_eq_false g) ?_
      refine rp_step b out 3 _ 1 _ hb (by decide) (by omega) (by decide) (by omega) (by omega) (fun g1 => ?_) (fun g1 => ?_)
      · have f1 : rd b ((1 : Nat) : Int) = rd b 1 := rfl
        rw [f1] at g1 ⊢
        refine rp_step b out 3 _ 2 _ hb (by decide) (by omega) (by decide) (by omega) (by omega) (fun g2 => ?_) (fun g2 => ?_)
        · have f2 : rd b ((2 : Nat) : Int) = rd b 2 := rfl
          rw [f2] at g2 ⊢
          have e : rd b 0 % 16 * 4096 + rd b 1 % 64 * 64 + rd b 2 % 64 = ((rd b 0 - 224) * 64 + rd b 1 - 128) * 64 + rd b 2 - 128 := by omega
          refine rp_end b out 3 _ _ (by omega) (by omega) (fun hk hn => ?_) (fun hn => ?_)
          · have hq := enc_low _ hk
            have hd : dec1 b = some (((rd b 0 - 224) * 64 + rd b 1 - 128) * 64 + rd b 2 - 128, 3) := by
              unfold dec1 decI
              rw [if_neg q1, if_neg (by omega), if_pos ⟨by omega, ⟨by omega, g1⟩, by omega, g2⟩, e, if_pos ⟨by omega, hk⟩]
            rw [hd]
            exact rec_ 3 _ (by omega)
          · have hd : dec1 b = none := by
              unfold dec1 decI
              rw [if_neg q1, if_neg (by omega), if_pos ⟨by omega, ⟨by omega, g1⟩, by omega, g2⟩, e, if_neg]
              intro hg
              refine hn ⟨hg.2, ?_⟩
              rw [enc_len _ hg.2, if_neg (by omega), if_neg (by omega), if_pos (by omega)]; rfl
            rw [hd]; rfl
        · have hd : dec1 b = none := by
            unfold dec1 decI
            rw [if_neg q1, if_neg (by omega), if_neg (fun z => g2 z.2.2.2), if_neg (by omega)]
          rw [hd]; rfl
      · have hd : dec1 b = none := by
          unfold dec1 decI
          rw [if_neg q1, if_neg (by omega), if_neg (fun z => g1 z.2.1.2), if_neg (by omega)]
        rw [hd]; rfl
    by_cases q4 : 240 ≤ rd b 0 ∧ rd b 0 < 248
    · have hl : lead (rd b 0) = (4, rd b 0 - 240) := by unfold lead; rw [if_neg q1, if_neg q2, if_neg q3, if_pos q4]
      rw [hl]
      refine Ev.neg (by simp) ?_
      show Ev (fun k => grilleref01_plain.j1 k b out 4 (rd b 0 - 240) (decide ((4 : Int) > (b.length : Int)))) _
      by_cases g : (4 : Int) > (b.length : Int)
      · refine bad _ _ _ ?_ (decide_eq_true g)
        unfold dec1 decI
        rw [if_neg q1, if_neg (by omega), if_neg (by omega), if_neg (by omega)]
      refine run _ _ _ (decide_eq_false g) ?_
      refine rp_step b out 4 _ 1 _ hb (by decide) (by omega) (by decide) (by omega) (by omega) (fun g1 => ?_) (fun g1 => ?_)
      · have f1 : rd b ((1 : Nat) : Int) = rd b 1 := rfl
        rw [f1] at g1 ⊢
        refine rp_step b out 4 _ 2 _ hb (by decide) (by omega) (by decide) (by omega) (by omega) (fun g2 => ?_) (fun g2 => ?_)
        · have f2 : rd b ((2 : Nat) : Int) = rd b 2 := rfl
          rw [f2] at g2 ⊢
          refine rp_step b out 4 _ 3 _ hb (by decide) (by omega) (by decide) (by omega) (by omega) (fun g3 => ?_) (fun g3 => ?_)
          · have f3 : rd b ((3 : Nat) : Int) = rd b 3 := rfl
            rw [f3] at g3 ⊢
            have e : rd b 0 % 8 * 262144 + rd b 1 % 64 * 4096 + rd b 2 % 64 * 64 + rd b 3 % 64 = (((rd b 0 - 240) * 64 + rd b 1 - 128) * 64 + rd b 2 - 128) * 64 + rd b 3 - 128 := by omega
            refine rp_end b out 4 _ _ (by omega) (by omega) (fun hk hn => ?_) (fun hn => ?_)
            · have hq := enc_low _ hk
              have hd : dec1 b = some ((((rd b 0 - 240) * 64 + rd b 1 - 128) * 64 + rd b 2 - 128) * 64 + rd b 3 - 128, 4) := by
                unfold dec1 decI
                rw [if_neg q1, if_neg (by omega), if_neg (by omega), if_pos ⟨by omega, ⟨by omega, g1⟩, ⟨by omega, g2⟩, by omega, g3⟩, e, if_pos ⟨by omega, hk⟩]
              rw [hd]
              exact rec_ 4 _ (by omega)
            · have hd : dec1 b = none := by
                unfold dec1 decI
                rw [if_neg q1, if_neg (by omega), if_neg (by omega), if_pos ⟨by omega, ⟨by omega, g1⟩, ⟨by omega, g2⟩, by omega, g3⟩, e, if_neg]
                intro hg
                refine hn ⟨hg.2, ?_⟩
                rw [enc_len _ hg.2, if_neg (by omega), if_neg (by omega), if_neg (by omega)]; rfl
              rw [hd]; rfl
          · have hd : dec1 b = none := by
              unfold dec1 decI
              rw [if_neg q1, if_neg (by omega), if_neg (by omega), if_neg (fun z => g3 z.2.2.2.2)]
            rw [hd]; rfl
        · have hd : dec1 b = none := by
            unfold dec1 decI
            rw [if_neg q1, if_neg (by omega), if_neg (by omega), if_neg (fun z => g2 z.2.2.1.2)]
          rw [hd]; rfl
      · have hd : dec1 b = none := by
          unfold dec1 decI
          rw [if_neg q1, if_neg (by omega), if_neg (by omega), if_neg (fun z => g1 z.2.1.2)]
        rw [hd]; rfl
    · have hl : lead (rd b 0) = (0, 0) := by unfold lead; rw [if_neg q1, if_neg q2, if_neg q3, if_neg q4]
      rw [hl]
      refine Ev.pos rfl (bad _ _ _ ?_ rfl)
      unfold dec1 decI
      rw [if_neg q1, if_neg (by omega), if_neg (by omega), if_neg (by omega)]
theorem rplain_eq (b : List Int) (hb : Bts b) (hl : b.length ≤ 4294967296) : Ev (fun k => grilleref01_plain.f k b) (res [] (plainL b.length b)) := by
  simp only [grilleref01_plain.f]
  exact rplain_loop b.length b [] (by omega) hb (by simpa using hl)
theorem ru_step (b out : List Int) (size : Nat) (big : Bool) (i j : Nat) (acc : Int) (v : List Int × Bool) (hb : Bts b) (hj : j < size) (h4 : size ≤ 4) (hi : i + size ≤ b.length) (hl : b.length ≤ 4294967296) (h0 : 0 ≤ acc) (h1 : acc ≤ 1099511627776)
    (h : Ev (fun k => grilleref01_units.l1 k b (size : Int) big out (i : Int) (acc * 256 + rd b ((if big = true then i + j else i + size - 1 - j : Nat) : Int)) ((j + 1 : Nat) : Int)) v) : Ev (fun k => grilleref01_units.l1 k b (size : Int) big out (i : Int) acc (j : Int)) v := by
  refine Ev.succ ?_
  simp only [grilleref01_units.l1]
  refine Ev.pos (by omega) ?_
  rw [w64' j (by omega), w64 (acc * 256) (by omega) (by omega)]
  cases big
  · have e : wrap64 (wrap64 (wrap64 ((i : Int) + (size : Int)) - 1) - (j : Int)) = ((i + size - 1 - j : Nat) : Int) := by
      rw [w64 ((i : Int) + (size : Int)) (by omega) (by omega), w64 (((i : Int) + (size : Int)) - 1) (by omega) (by omega), w64 _ (by omega) (by omega)]; omega
    obtain ⟨c0, c1⟩ := hb _ (rd_mem b (i + size - 1 - j) (by omega))
    rw [e]
    refine Ev.neg (by decide) (Ev.pos (by omega) (Ev.pos (by omega) ?_))
    rw [w64 (rd b _) (by omega) (by omega), w64 _ (by omega) (by omega)]
    exact h
  · have e : wrap64 ((i : Int) + (j : Int)) = ((i + j : Nat) : Int) := by
      rw [w64 _ (by omega) (by omega)]; omega
    obtain ⟨c0, c1⟩ := hb _ (rd_mem b (i + j) (by omega))
    rw [e]
    refine Ev.pos rfl (Ev.pos (by omega) (Ev.pos (by omega) ?_))
    rw [w64 (rd b _) (by omega) (by omega), w64 _ (by omega) (by omega)]
    exact h
theorem ru_end (b out : List Int) (size : Nat) (big : Bool) (i : Nat) (acc : Int) (v : List Int × Bool) (hl : i + size ≤ 4294967296) (ho : out.length ≤ 4294967296)
    (h : Ev (fun k => grilleref01_units.l0 k b (size : Int) big (out ++ [acc]) ((i + size : Nat) : Int)) v) : Ev (fun k => grilleref01_units.l1 k b (size : Int) big out (i : Int) acc (size : Int)) v := by
  refine Ev.succ ?_
  simp only [grilleref01_units.l1]
  refine Ev.neg (by omega) (Ev.pos (by omega) ?_)
  rw [w64 _ (by omega) (by omega), show (i : Int) + (size : Int) = ((i + size : Nat) : Int) by omega]
  exact h
theorem runits2 (b : List Int) (big : Bool) (hb : Bts b) (hl : b.length ≤ 4294967296) : ∀ (n i : Nat) (out : List Int), i + 2 * n = b.length → out.length ≤ i → Ev (fun k => grilleref01_units.l0 k b 2 big out (i : Int)) (out ++ us2 big (b.drop i), true)
  | 0, i, out, h, ho => by
    refine Ev.succ ?_
    simp only [grilleref01_units.l0]
    refine Ev.neg (by omega) ((Ev.val _).eq ?_)
    rw [List.drop_eq_nil_of_le (by omega)]
    simp [us2]
  | n + 1, i, out, h, ho => by
    refine Ev.succ ?_
    simp only [grilleref01_units.l0]
    refine Ev.pos (by omega) ?_
    refine ru_step b out 2 big i 0 0 _ hb (by decide) (by decide) (by omega) hl (by decide) (by decide) ?_
    refine ru_step b out 2 big i 1 _ _ hb (by decide) (by decide) (by omega) hl (by have := rd_bts hb (if big = true then i + 0 else i + 2 - 1 - 0); omega) (by have := rd_bts hb (if big = true then i + 0 else i + 2 - 1 - 0); omega) ?_
    refine ru_end b out 2 big i _ _ (by omega) (by omega) ?_
    refine (runits2 b big hb hl n (i + 2) _ (by omega) (by simp; omega)).eq ?_
    rw [drop_nat b i (by omega), drop_nat b (i + 1) (by omega)]
    cases big
    · simp [us2]; omega
    · simp [us2]
theorem runits4 (b : List Int) (big : Bool) (hb : Bts b) (hl : b.length ≤ 4294967296) : ∀ (n i : Nat) (out : List Int), i + 4 * n = b.length → out.length ≤ i → Ev (fun k => grilleref01_units.l0 k b 4 big out (i : Int)) (out ++ us4 big (b.drop i), true)
  | 0, i, out, h, ho => by
    refine Ev.succ ?_
    simp only [grilleref01_units.l0]
    refine Ev.neg (by omega) ((Ev.val _).eq ?_)
    rw [List.drop_eq_nil_of_le (by omega)]
    simp [us4]
  | n + 1, i, out, h, ho => by
    refine Ev.succ ?_
    simp only [grilleref01_units.l0]
    refine Ev.pos (by omega) ?_
    refine ru_step b out 4 big i 0 0 _ hb (by decide) (by decide) (by omega) hl (by decide) (by decide) ?_
    refine ru_step b out 4 big i 1 _ _ hb (by decide) (by decide) (by omega) hl (by have := rd_bts hb (if big = true then i + 0 else i + 4 - 1 - 0); omega) (by have := rd_bts hb (if big = true then i + 0 else i + 4 - 1 - 0); omega) ?_
    refine ru_step b out 4 big i 2 _ _ hb (by decide) (by decide) (by omega) hl (by have := rd_bts hb (if big = true then i + 0 else i + 4 - 1 - 0); have := rd_bts hb (if big = true then i + 1 else i + 4 - 1 - 1); omega) (by have := rd_bts hb (if big = true then i + 0 else i + 4 - 1 - 0); have := rd_bts hb (if big = true then i + 1 else i + 4 - 1 - 1); omega) ?_
    refine ru_step b out 4 big i 3 _ _ hb (by decide) (by decide) (by omega) hl (by have := rd_bts hb (if big = true then i + 0 else i + 4 - 1 - 0); have := rd_bts hb (if big = true then i + 1 else i + 4 - 1 - 1); have := rd_bts hb (if big = true then i + 2 else i + 4 - 1 - 2); omega) (by have := rd_bts hb (if big = true then i + 0 else i + 4 - 1 - 0); have := rd_bts hb (if big = true then i + 1 else i + 4 - 1 - 1); have := rd_bts hb (if big = true then i + 2 else i + 4 - 1 - 2); omega) ?_
    refine ru_end b out 4 big i _ _ (by omega) (by omega) ?_
    refine (runits4 b big hb hl n (i + 4) _ (by omega) (by simp; omega)).eq ?_
    rw [drop_nat b i (by omega), drop_nat b (i + 1) (by omega), drop_nat b (i + 2) (by omega), drop_nat b (i + 3) (by omega)]
    cases big
    · simp [us4]; omega
    · simp [us4]
theorem runits_eq (size : Int) (big : Bool) (b : List Int) (hs : size = 2 ∨ size = 4) (hl : b.length ≤ 4294967296) (hb : Bts b) :
    Ev (fun k => grilleref01_units.f k b size big) (if (b.length : Int) % size = 0 then (us size big b, true) else ([], false)) := by
  simp only [grilleref01_units.f]
  rcases hs with rfl | rfl
  · refine Ev.neg (by decide) (Ev.ite (fun h => ?_) (fun _ => Ev.val _))
    exact (runits2 b big hb hl (b.length / 2) 0 [] (by omega) (by simp)).eq (by simp [us])
  · refine Ev.neg (by decide) (Ev.ite (fun h => ?_) (fun _ => Ev.val _))
    exact (runits4 b big hb hl (b.length / 4) 0 [] (by omega) (by simp)).eq (by simp [us])
theorem rpairs_loop (l : List Int) (hl : l.length ≤ 4294967296) (hw : ∀ x ∈ l, 0 ≤ x ∧ x < 65536) : ∀ (n i : Nat) (out : List Int), l.length ≤ i + n → i ≤ l.length → out.length ≤ i → Ev (fun k => grilleref01_pairs.l0 k l out (i : Int)) (res out (prs (l.drop i))) := by
  intro n
  induction n with
  | zero =>
    intro i out h hi ho
    refine Ev.succ ?_
    simp only [grilleref01_pairs.l0]
    refine Ev.neg (by omega) ((Ev.val _).eq ?_)
    rw [List.drop_eq_nil_of_le (by omega)]
    simp [prs, res]
  | succ n ih =>
    intro i out h hi ho
    refine Ev.succ ?_
    simp only [grilleref01_pairs.l0]
    by_cases hlt : i < l.length
    case neg =>
      refine Ev.neg (by omega) ((Ev.val _).eq ?_)
      rw [List.drop_eq_nil_of_le (by omega)]
      simp [prs, res]
    obtain ⟨a, ea⟩ : ∃ a, rd l (i : Int) = a := ⟨_, rfl⟩
    have hc := hw _ (rd_mem l i hlt)
    rw [ea] at hc
    have hd : l.drop i = a :: l.drop (i + 1) := by rw [← ea]; exact drop_nat l i hlt
    have ei : wrap64 ((i : Int) + 1) = ((i + 1 : Nat) : Int) := w64' i (by omega)
    rw [hd, ea]
    have j2 : ¬ (56320 ≤ a ∧ a ≤ 57343) → Ev (fun k => grilleref01_pairs.j2 k l out (i : Int) a (decide (55296 ≤ a ∧ a ≤ 56319))) (res out (prs (a :: l.drop (i + 1)))) := by
      intro hs
      refine Ev.succ ?_
      simp only [grilleref01_pairs.j2]
      rw [ei]
      by_cases hg : 55296 ≤ a ∧ a ≤ 56319
      · refine Ev.pos (decide_eq_true hg) ?_
        by_cases hn : i + 1 < l.length
        · refine Ev.neg (by omega) (Ev.pos (by omega) (Ev.pos (by omega) ?_))
          have hm := hw _ (rd_mem l (i + 1) hn)
          have hdd := drop_nat l (i + 1) hn
          generalize rd l ((i + 1 : Nat) : Int) = m at hm hdd ⊢
          rw [hdd]
          by_cases m1 : m < 56320
          · refine Ev.pos m1 ((Ev.val _).eq ?_)
            rw [prs_alone _ _ _ (by omega) (by omega)]; rfl
          refine Ev.neg m1 ?_
          by_cases m2 : m > 57343
          · refine Ev.pos m2 ((Ev.val _).eq ?_)
            rw [prs_alone _ _ _ (by omega) (by omega)]; rfl
          refine Ev.neg m2 (Ev.pos (by omega) ?_)
          rw [w64 (a - 55296) (by omega) (by omega), w64 ((a - 55296) * 1024) (by omega) (by omega), w64 (65536 + (a - 55296) * 1024) (by omega) (by omega), w64 (65536 + (a - 55296) * 1024 + m) (by omega) (by omega), w64 (65536 + (a - 55296) * 1024 + m - 56320) (by omega) (by omega), w64' (i + 1) (by omega)]
          refine (ih (i + 1 + 1) _ (by omega) (by omega) (by simp; omega)).eq ?_
          rw [prs_pair _ _ _ (by omega) (by omega), res_map, show 65536 + (a - 55296) * 1024 + m - 56320 = 65536 + (a - 55296) * 1024 + (m - 56320) by omega]
        · refine Ev.pos (by omega) ((Ev.val _).eq ?_)
          rw [List.drop_eq_nil_of_le (by omega), prs_last a (by omega)]; rfl
      · refine Ev.neg (by simpa using hg) (Ev.pos (by omega) ?_)
        refine (ih (i + 1) _ (by omega) (by omega) (by simp; omega)).eq ?_
        rw [prs_other a _ (by omega), res_map]
    have j1 : Ev (fun k => grilleref01_pairs.j1 k l out (i : Int) a (decide (56320 ≤ a ∧ a ≤ 57343))) (res out (prs (a :: l.drop (i + 1)))) := by
      refine Ev.succ ?_
      simp only [grilleref01_pairs.j1]
      by_cases hs : 56320 ≤ a ∧ a ≤ 57343
      · refine Ev.pos (decide_eq_true hs) ((Ev.val _).eq ?_)
        rw [prs_second a _ (by omega)]; rfl
      · have hj := j2 hs
        refine Ev.neg (by simpa using hs) ?_
        by_cases hg : a ≥ 55296
        · refine Ev.pos hg ?_
          rw [show decide (a ≤ 56319) = decide (55296 ≤ a ∧ a ≤ 56319) from decide_eq_decide.mpr (by omega)]
          exact hj
        · refine Ev.neg hg ?_
          rw [show decide (55296 ≤ a ∧ a ≤ 56319) = false from decide_eq_false (by omega)] at hj
          exact hj
    refine Ev.pos (by omega) (Ev.pos (by omega) ?_)
    by_cases hs : a ≥ 56320
    · refine Ev.pos hs ?_
      rw [show decide (a ≤ 57343) = decide (56320 ≤ a ∧ a ≤ 57343) from decide_eq_decide.mpr (by omega)]
      exact j1
    · refine Ev.neg hs ?_
      rw [show decide (56320 ≤ a ∧ a ≤ 57343) = false from decide_eq_false (by omega)] at j1
      exact j1
theorem rpairs_eq (l : List Int) (hl : l.length ≤ 4294967296) (hw : ∀ x ∈ l, 0 ≤ x ∧ x < 65536) : Ev (fun k => grilleref01_pairs.f k l) (res [] (prs l)) := by
  simp only [grilleref01_pairs.f]
  exact rpairs_loop l hl hw l.length 0 [] (by omega) (by omega) (by simp)
theorem rrunes_loop (l : List Int) (hl : l.length ≤ 4294967296) : ∀ (n i : Nat), i + n = l.length → Ev (fun k => grilleref01_Runes.l0 k l (i : Int)) (if ∀ r ∈ l.drop i, ok r then (l, 0) else ([], 6))
  | 0, i, h => by
    refine Ev.succ ?_
    simp only [grilleref01_Runes.l0]
    refine Ev.neg (by omega) ((Ev.val _).eq ?_)
    rw [List.drop_eq_nil_of_le (by omega)]
    simp
  | n + 1, i, h => by
    refine Ev.succ ?_
    simp only [grilleref01_Runes.l0]
    refine Ev.pos (by omega) (Ev.pos (by omega) ?_)
    refine Ev.bind (Ev.one (char_eq _)) ?_
    have hd := drop_nat l i (by omega)
    by_cases hk : ok (rd l (i : Int))
    · refine Ev.pos (by simp [hk]) ?_
      rw [w64' i (by omega)]
      refine (rrunes_loop l hl n (i + 1) (by omega)).eq ?_
      have e : (∀ x ∈ l.drop i, ok x) ↔ ∀ x ∈ l.drop (i + 1), ok x := by rw [hd]; simp [hk]
      simp only [e]
    · refine Ev.neg (by simp [hk]) ((Ev.val _).eq ?_)
      rw [if_neg]
      intro hq
      exact hk (hq _ (by rw [hd]; exact List.mem_cons_self))
theorem rrunes_j1 (l : List Int) (is : Bool) (hl : l.length ≤ 4294967296) : Ev (fun k => grilleref01_Runes.j1 k l is) (okAll (if is = true then some l else none)) := by
  refine Ev.succ ?_
  simp only [grilleref01_Runes.j1]
  cases is
  · exact Ev.neg (by decide) ((Ev.val _).eq rfl)
  · refine Ev.pos rfl ((rrunes_loop l hl l.length 0 (by omega)).eq ?_)
    simp [okAll]
theorem detect_code (b : List Int) : 0 ≤ (detect b).1 ∧ (detect b).1 ≤ 4 := by
  unfold detect detect1 detect2 detect3
  repeat' split
  all_goals simp
theorem rrunes_eq (b : List Int) (hb : Bts b) (hl : b.length ≤ 4294967296) : Ev (fun k => grilleref01_Runes.f k b) (runes b) := by
  obtain ⟨h0, h1⟩ := detect_le b
  obtain ⟨k0, k1⟩ := detect_code b
  simp only [grilleref01_Runes.f]
  refine Ev.bind (rdetect_eq b hb) (Ev.pos h0 (Ev.pos h1 ?_))
  unfold runes runesOf
  have hlen : (b.drop (detect b).2.toNat).length ≤ 4294967296 := by rw [List.length_drop]; omega
  have hbd : Bts (b.drop (detect b).2.toNat) := bts_drop hb _
  generalize (detect b).1 = code at k0 k1
  generalize b.drop (detect b).2.toNat = c at hlen hbd
  have two (big : Bool) (hbig : (code == 2) = big) : Ev (fun k => grilleref01_Runes.j0 k c code true) (okAll (if (c.length : Int) % 2 = 0 then prs (us2 big c) else none)) := by
    refine Ev.succ ?_
    simp only [grilleref01_Runes.j0]
    rw [hbig]
    refine Ev.pos (by decide) (Ev.bind (runits_eq 2 big c (.inl rfl) hlen hbd) ?_)
    by_cases hm : (c.length : Int) % 2 = 0
    · rw [if_pos hm, if_pos hm]
      have e2 : us 2 big c = us2 big c := by simp [us]
      rw [e2]
      have hu := us2_length big c
      refine Ev.bind (rpairs_eq (us2 big c) (by omega) (us2_mem _ _ hbd)) ?_
      cases hp : prs (us2 big c) with
      | none => exact Ev.neg (by simp [res]) (rrunes_j1 [] false (by simp))
      | some q =>
        have hq := prs_length _ _ hp
        refine Ev.pos (by simp [res]) ?_
        simp only [res, List.nil_append]
        exact rrunes_j1 q true (by omega)
    · rw [if_neg hm, if_neg hm]
      refine Ev.bind (rpairs_eq [] (by simp) (by simp)) ?_
      refine Ev.pos (by simp [res, prs]) ?_
      simp only [res, prs, List.nil_append]
      exact rrunes_j1 [] false (by simp)
  have four (big : Bool) (hbig : (code == 4) = big) : Ev (fun k => grilleref01_Runes.j0 k c code false) (okAll (if (c.length : Int) % 4 = 0 then some (us4 big c) else none)) := by
    refine Ev.succ ?_
    simp only [grilleref01_Runes.j0]
    rw [hbig]
    refine Ev.neg (by decide) (Ev.bind (runits_eq 4 big c (.inr rfl) hlen hbd) ?_)
    by_cases hm : (c.length : Int) % 4 = 0
    · rw [if_pos hm, if_pos hm]
      have e2 : us 4 big c = us4 big c := by simp [us]
      rw [e2]
      have hu := us4_length big c
      exact rrunes_j1 (us4 big c) true (by omega)
    · rw [if_neg hm, if_neg hm]
      exact rrunes_j1 [] false (by simp)
  have hc : code = 0 ∨ code = 1 ∨ code = 2 ∨ code = 3 ∨ code = 4 := by omega
  rcases hc with rfl | rfl | rfl | rfl | rfl
  · refine Ev.pos rfl (Ev.bind (rplain_eq c hbd hlen) ?_)
    rw [if_pos (by decide)]
    cases hp : plainL c.length c with
    | none => exact rrunes_j1 [] false (by simp)
    | some l =>
      have hq := plainL_length _ _ _ hbd hp
      simp only [res, List.nil_append]
      exact rrunes_j1 l true (by omega)
  · rw [if_neg (by decide), if_pos (by decide)]
    exact Ev.neg (by decide) (Ev.pos rfl (two false rfl))
  · rw [if_neg (by decide), if_pos (by decide)]
    exact Ev.neg (by decide) (Ev.neg (by decide) (two true rfl))
  · rw [if_neg (by decide), if_neg (by decide)]
    exact Ev.neg (by decide) (Ev.neg (by decide) (four false rfl))
  · rw [if_neg (by decide), if_neg (by decide)]
    exact Ev.neg (by decide) (Ev.neg (by decide) (four true rfl))
theorem rdecoded_eq (b : List Int) (hb : Bts b) (hl : b.length ≤ 2000) : Ev (fun k => grilleref01_Decode.f k b) (decoded b) := by
  simp only [grilleref01_Decode.f]
  refine Ev.bind (rrunes_eq b hb (by omega)) ?_
  unfold decoded
  refine Ev.ite (fun h => ?_) (fun _ => Ev.val _)
  refine Ev.bind (rclean_eq _ (by have := runes_length b hb; omega) (ok_i32 (runes_ok b))) ?_
  exact Ev.val _
end Go.Proofs.YtdbkefgdeenjoaaDoor.Plain
end
section
namespace Go.Proofs.YtdbkefgdeenjoaaDoor.Plain
set_option linter.unusedVariables false
set_option linter.unusedSimpArgs false
open Go.RowKit Go.Proofs.YtdbkefgdeenjoaaDoor.X Go.Proofs.YtdbkefgdeenjoaaDoorW.PrintWords Go.Proofs.YtdbkefgdeenjoaaDoorW.PrintLast
theorem wf8 {l : List Int} (hw : ∀ x ∈ l, (Lit.int .u8 x).wf = true) : Bts l := by
  intro x hx
  have h1 := hw x hx
  simp [Lit.wf, IntKind.min, IntKind.max, IntKind.bits, IntKind.signed] at h1
  omega
theorem textTells : grillelaw01_TextTells.Pure := by
  intro l0 hm hy hw
  refine Ev.ex (g := fun k => grillelaw01_TextTells.f k l0) ?_
  have hb := wf8 hw
  simp only [grillelaw01_TextTells.f, grillelaw01_alive.f, Option.bind_some]
  refine Ev.pos (by simp) ?_
  by_cases hl : (l0.length : Int) > 2000
  · exact Ev.pos hl (Ev.val _)
  refine Ev.neg hl ?_
  have h4 : l0.length ≤ 4294967296 := by omega
  have hr := runes_length l0 hb
  refine Ev.bind (detect_eq l0) (Ev.bind (rdetect_eq l0 hb) (Ev.bind (runes_eq l0 hb h4) (Ev.bind (rrunes_eq l0 hb h4) (Ev.bind (decoded_eq l0 hb h4) (Ev.bind (rdecoded_eq l0 hb (by omega)) ?_)))))
  refine Ev.pos rfl (Ev.pos rfl (Ev.bind (ours_eq _ (by omega) (ok_i32 (runes_ok l0))) (Ev.bind (same_eq _ (by omega)) ?_)))
  exact Ev.pos rfl (Ev.pos rfl (Ev.pos rfl ((Ev.val _).eq (by simp))))
end Go.Proofs.YtdbkefgdeenjoaaDoor.Plain
namespace Go.Proofs.YtdbkefgdeenjoaaDoor.Pure
theorem TextTells : X.grillelaw01_TextTells.Pure := Plain.textTells
end Go.Proofs.YtdbkefgdeenjoaaDoor.Pure
end
section
namespace Go.Proofs.YtdbkefgdeenjoaaDoor.Tabs
set_option linter.unusedVariables false
set_option linter.unusedSimpArgs false
open Go.Shelf Go.Lib
def ren : Ren := ⟨fun n => n, fun | 5 => 5 | 119 => 95 | 138 => 97 | 139 => 98 | n => n, fun | 3 => 0 | 4 => 1 | n => n⟩
theorem accept : (Rows.laid_unicode_utf8_acceptRanges : DataW Unit) = acceptData := by kernel_rfl
theorem of_laid {w : World} {l : List (String × DataW Unit)} (h : laidMet Tryd.prog l w) (h3 : ("unicode/utf8.first", Rows.laid_unicode_utf8_first) ∈ l) (h4 : ("unicode/utf8.acceptRanges", Rows.laid_unicode_utf8_acceptRanges) ∈ l) : Holds w := by
  have ht : Utf8Tabs 0 1 w := utf8Tabs_of_readsT (ρ := ren) ⟨Tryd.underlying5, Tryd.underlying95, Tryd.underlying97, Tryd.underlying98⟩ ⟨by kernel_rfl, by kernel_rfl, by kernel_rfl, by kernel_rfl, by kernel_rfl, by kernel_rfl, by kernel_rfl⟩
    (Pinned.utf8First_eq ▸ laidMet.reads h h3) (accept ▸ laidMet.reads h h4)
  refine ⟨ht, ?_⟩
  have := World.block_lt_of_cell? w _ (ht.2 0 (by decide)).1
  exact this
end Go.Proofs.YtdbkefgdeenjoaaDoor.Tabs
end
section
namespace Go.Proofs.YtdbkefgdeenjoaaDoorW.PrintWords
open Go.ChangeShapes Go.WideShapes
theorem sized_ints {H : Type} {enc : TypeId × Value → H} {P : Program} {W : World} {base : Nat} {spare : Nat → Bool} {held : Bool} {t e : TypeId} {k : IntKind} {a : Option Addr} {len cap : Nat} {d : DataW H} {ps : List MemPlace} {ts : List TypeId} {ds : List (DataW H)} {j : Nat}
    (hsz : (DataW.weightsEach P ts ds).all (· ≤ reachBytes) = true) (ht : ts[j]? = some t) (hd : ds[j]? = some d) (hu : P.underlying t = some (.slice e)) (he : P.underlying e = some (.int k)) (hc : P.cellsOf e = 1) {B : Nat} (hB : P.bytesOf e = B)
    (h : DataW.Trod enc P W base spare held t (.slice a len cap) d ps) : len * B ≤ 140737488351232 := by
  obtain ⟨fuel, hf⟩ := h
  rcases open_ints hu he hc hf with ⟨hcs, _⟩ | ⟨x, l, c, zs, hcs, _, hl, _, hz, hx, _, _⟩
  · simp [Value.cells] at hcs
    obtain ⟨rfl, rfl, rfl⟩ := hcs
    simp
  · simp [Value.cells] at hcs
    obtain ⟨rfl, rfl, rfl⟩ := hcs
    obtain ⟨hx, _⟩ := Prod.mk.inj hx
    subst hx
    have z := sized_slice hsz ht hd hu
    rw [hB] at z
    have hl2 : len ≤ zs.length := by
      rw [hz]
      split
      · exact hl
      · exact Nat.le_refl _
    have h1 : (lits (H := H) k (zs.take len)).length + (lits (H := H) k (zs.drop len)).length = zs.length := by
      simp [lits]
      omega
    rw [h1] at z
    exact Nat.le_trans (Nat.mul_le_mul_right _ hl2) z
end Go.Proofs.YtdbkefgdeenjoaaDoorW.PrintWords
end
