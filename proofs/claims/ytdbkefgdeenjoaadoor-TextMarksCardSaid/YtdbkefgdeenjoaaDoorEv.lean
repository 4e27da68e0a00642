/- Functions with rounds: 'with enough rounds it tells v'. Plain Lean: no program in sight. -/
import Derived.Test.YtdbkefgdeenjoaaDoorX0
namespace Go.Proofs.YtdbkefgdeenjoaaDoor.Plain
set_option linter.unusedVariables false
set_option linter.unusedSimpArgs false
variable {α β : Type}
def Ev (g : Nat → Option α) (v : α) : Prop := ∃ K, ∀ k, K ≤ k → g k = some v
theorem Ev.ex {g : Nat → Option α} {v : α} (h : Ev g v) : ∃ k, g k = some v := let ⟨K, hk⟩ := h; ⟨K, hk K (Nat.le_refl _)⟩
theorem Ev.all {g : Nat → Option α} {v : α} (h : ∀ k, g k = some v) : Ev g v := ⟨0, fun k _ => h k⟩
theorem Ev.val (v : α) : Ev (fun _ => some v) v := ⟨0, fun _ _ => rfl⟩
theorem Ev.eq {g : Nat → Option α} {v u : α} (h : Ev g v) (e : v = u) : Ev g u := e ▸ h
theorem Ev.congr {f g : Nat → Option α} {v : α} (h : Ev g v) (e : ∀ k, f k = g k) : Ev f v := let ⟨K, hk⟩ := h; ⟨K, fun k hK => (e k).trans (hk k hK)⟩
theorem Ev.one {c : Option α} {v : α} (h : c = some v) : Ev (fun _ => c) v := ⟨0, fun _ _ => h⟩
theorem Ev.succ {g : Nat → Option α} {v : α} (h : Ev (fun k => g (k + 1)) v) : Ev g v := by
  obtain ⟨K, hk⟩ := h
  refine ⟨K + 1, fun k hK => ?_⟩
  obtain ⟨m, rfl⟩ : ∃ m, k = m + 1 := ⟨k - 1, by omega⟩
  exact hk m (by omega)
theorem Ev.bind {f : Nat → Option α} {g : Nat → α → Option β} {a : α} {b : β} (hf : Ev f a) (hg : Ev (fun k => g k a) b) : Ev (fun k => (f k).bind (g k)) b := by
  obtain ⟨K, hk⟩ := hf
  obtain ⟨L, hl⟩ := hg
  refine ⟨max K L, fun k h => ?_⟩
  show (f k).bind (g k) = _
  rw [hk k (by omega)]
  exact hl k (by omega)
theorem Ev.pos {c : Prop} [Decidable c] {f g : Nat → Option α} {v : α} (hc : c) (h : Ev f v) : Ev (fun k => if c then f k else g k) v := h.congr (fun k => if_pos hc)
theorem Ev.neg {c : Prop} [Decidable c] {f g : Nat → Option α} {v : α} (hc : ¬ c) (h : Ev g v) : Ev (fun k => if c then f k else g k) v := h.congr (fun k => if_neg hc)
theorem Ev.ite {c : Prop} [Decidable c] {f g : Nat → Option α} {v u : α} (h : c → Ev f v) (h' : ¬ c → Ev g u) : Ev (fun k => if c then f k else g k) (if c then v else u) := by
  by_cases hc : c
  · rw [if_pos hc]; exact Ev.pos hc (h hc)
  · rw [if_neg hc]; exact Ev.neg hc (h' hc)
end Go.Proofs.YtdbkefgdeenjoaaDoor.Plain
