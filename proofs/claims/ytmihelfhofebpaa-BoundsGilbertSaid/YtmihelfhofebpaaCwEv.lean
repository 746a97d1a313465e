/- From some number of rounds on: how the answers of printed functions are put together. -/
namespace Cw

/-- from some number of rounds on, g answers r -/
def Evt {α : Type} (g : Nat → Option α) (r : α) : Prop := ∃ K, ∀ k, K ≤ k → g k = some r

theorem Evt.now {α : Type} (r : α) : Evt (fun _ => some r) r := ⟨0, fun _ _ => rfl⟩
theorem Evt.now' {α : Type} {r r' : α} (h : r' = r) : Evt (fun _ => some r') r := h ▸ Evt.now r'
theorem Evt.rounds {α : Type} {g : Nat → Option α} {r : α} (h : Evt g r) : ∃ k, g k = some r := by
  obtain ⟨K, h⟩ := h
  exact ⟨K, h K (Nat.le_refl _)⟩
theorem Evt.bind {α β : Type} {g : Nat → Option α} {f : Nat → α → Option β} {a : α} {r : β} (h : Evt g a) (k : Evt (fun n => f n a) r) : Evt (fun n => (g n).bind (f n)) r := by
  obtain ⟨K, h⟩ := h
  obtain ⟨K', k⟩ := k
  refine ⟨max K K', fun n hn => ?_⟩
  have h1 := h n (by omega)
  have h2 := k n (by omega)
  simp only [h1, Option.bind_some]
  exact h2
theorem Evt.step {α : Type} {g f : Nat → Option α} {r : α} (h : ∀ k, g (k + 1) = f k) (k : Evt f r) : Evt g r := by
  obtain ⟨K, k⟩ := k
  refine ⟨K + 1, fun n hn => ?_⟩
  obtain ⟨m, rfl⟩ : ∃ m, n = m + 1 := ⟨n - 1, by omega⟩
  rw [h]
  exact k m (by omega)
theorem Evt.congr {α : Type} {g f : Nat → Option α} {r : α} (h : ∀ k, g k = f k) (k : Evt f r) : Evt g r := by
  obtain ⟨K, k⟩ := k
  exact ⟨K, fun n hn => (h n).trans (k n hn)⟩
theorem Evt.pos {α : Type} {c : Prop} [Decidable c] {A B : Nat → Option α} {r : α} (h : c) (H : Evt A r) : Evt (fun k => if c then A k else B k) r :=
  Evt.congr (fun _ => if_pos h) H
theorem Evt.neg {α : Type} {c : Prop} [Decidable c] {A B : Nat → Option α} {r : α} (h : ¬ c) (H : Evt B r) : Evt (fun k => if c then A k else B k) r :=
  Evt.congr (fun _ => if_neg h) H
theorem Evt.fixed {α : Type} {o : Option α} {r : α} (h : o = some r) : Evt (fun _ => o) r := ⟨0, fun _ _ => h⟩
theorem Evt.bind0 {α β : Type} {o : Option α} {f : Nat → α → Option β} {a : α} {r : β} (h : o = some a) (k : Evt (fun n => f n a) r) : Evt (fun n => o.bind (f n)) r :=
  Evt.bind (Evt.fixed h) k
theorem Evt.eq {α : Type} {g : Nat → Option α} {r r' : α} (h : Evt g r) (e : r = r') : Evt g r' := e ▸ h
theorem Evt.uniq {α : Type} {g : Nat → Option α} {r r' : α} (h : Evt g r) (k : Evt g r') : r = r' := by
  obtain ⟨K, h⟩ := h
  obtain ⟨K', k⟩ := k
  have h1 := h (max K K') (by omega)
  have h2 := k (max K K') (by omega)
  rw [h1] at h2
  exact Option.some.inj h2
end Cw
