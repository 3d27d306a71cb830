/-
  A trace in two parts; in plain Lean.
-/
import Derived.Test.YtlbmjajjldfigaaGreatCore8
import Derived.Test.YtlbmjajjldfigaaGreatLaws2
namespace Go.Proofs.YtlbmjajjldfigaaGreat
open Go
set_option linter.unusedVariables false
set_option linter.unusedSimpArgs false

theorem traceGo_shift : ∀ (l : List Surf) (i k : Int) (r : Ray), traceGo l (i + k) r = ((traceGo l i r).1, (traceGo l i r).2.1 + k, (traceGo l i r).2.2)
  | [], i, k, r => rfl
  | s :: l, i, k, r => by
    simp only [traceGo]
    split
    · rfl
    · have := traceGo_shift l (i + 1) k (stepOf s r).1
      rw [show i + k + 1 = i + 1 + k by omega]
      exact this
theorem traceGo_append : ∀ (l m : List Surf) (i : Int) (r : Ray), traceGo (l ++ m) i r = if (traceGo l i r).1 = 1 then traceGo m (i + l.length) (traceGo l i r).2.2 else traceGo l i r
  | [], m, i, r => by simp [traceGo]
  | s :: l, m, i, r => by
    simp only [List.cons_append, traceGo]
    split
    · rename_i h
      rfl
    · rw [traceGo_append l m (i + 1)]
      have : i + 1 + (l.length : Int) = i + ((s :: l).length : Int) := by simp; omega
      rw [this]
theorem trace_parts (l : List Surf) (k : Nat) (hk : k ≤ l.length) (r : Ray) :
    ((traceOf (l.take k) r).1 ≠ 1 → traceOf l r = traceOf (l.take k) r) ∧
    ((traceOf (l.take k) r).1 = 1 → traceOf l r = ((traceOf (l.drop k) (traceOf (l.take k) r).2.2).1, (traceOf (l.drop k) (traceOf (l.take k) r).2.2).2.1 + k, (traceOf (l.drop k) (traceOf (l.take k) r).2.2).2.2)) := by
  have h := traceGo_append (l.take k) (l.drop k) 0 r
  rw [List.take_append_drop, List.length_take, Nat.min_eq_left hk] at h
  unfold traceOf
  constructor
  · intro c
    rw [h, if_neg c]
  · intro c
    rw [h, if_pos c]
    exact traceGo_shift _ _ _ _
theorem trace_one (s : Surf) (r : Ray) : (traceOf [s] r).1 = (stepOf s r).2 ∧ (traceOf [s] r).2.2 = (stepOf s r).1 := by
  unfold traceOf
  simp only [traceGo]
  split
  · exact ⟨rfl, rfl⟩
  · rename_i h
    exact ⟨(Classical.not_not.1 h).symm, rfl⟩
theorem single_of {l : List Surf} (h : ((l.length : Int) == 1) = true) : ∃ s, l = [s] := by
  have h1 : (l.length : Int) = 1 := beq_iff_eq.1 h
  cases l with
  | nil => simp at h1
  | cons s m =>
    cases m with
    | nil => exact ⟨s, rfl⟩
    | cons t m => simp at h1; omega
theorem trace_at : ∀ (l : List Surf) (i : Int) (r : Ray), i ≤ (traceGo l i r).2.1 ∧ (traceGo l i r).2.1 ≤ i + l.length
  | [], i, r => by simp [traceGo]
  | s :: l, i, r => by
    simp only [traceGo]
    split
    · dsimp only
      simp
      omega
    · have := trace_at l (i + 1) (stepOf s r).1
      simp only [List.length_cons]
      omega
end Go.Proofs.YtlbmjajjldfigaaGreat
