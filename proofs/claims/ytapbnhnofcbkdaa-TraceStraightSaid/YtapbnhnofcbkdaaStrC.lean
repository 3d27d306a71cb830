/-
  The law of straight rays, ahead of the code; in plain Lean.
-/
import Derived.Test.YtapbnhnofcbkdaaStrB
namespace Go.Proofs.Ytapbnhnofcbkdaa
open Go
set_option linter.unusedVariables false
set_option linter.unusedSimpArgs false

instance (a : Iv) (n d : Int) : Decidable (Cr a n d) := by unfold Cr; infer_instance
def dirV (up : Bool) (p q : Int) : V := if up = true then V.unit ⟨Iv.point 0, Iv.whole p, Iv.whole (4 * q)⟩ else V.unit ⟨Iv.whole p, Iv.point 0, Iv.whole (4 * q)⟩
def lenV (p q : Int) : Int := (⟨Iv.whole p, Iv.point 0, Iv.whole (4 * q)⟩ : V).len2.root.lo
def waysV : List (Int × Int) := [(3, 4), (8, 6), (5, 12)]
theorem dir_all : ∀ a ∈ waysV, ∀ up : Bool, Cr (dirV up a.1 a.2).x ((if up = true then 0 else a.1) * 4294967296) (lenV a.1 a.2) ∧ Cr (dirV up a.1 a.2).y ((if up = true then a.1 else 0) * 4294967296) (lenV a.1 a.2) ∧
    Cr (dirV up a.1 a.2).z (4 * a.2 * 4294967296) (lenV a.1 a.2) := by decide +kernel
def wayV (m n : Int) : Int × Int := (m * m - n * n, 2 * m * n)
theorem way_all : ∀ m : Fin 2, ∀ n : Fin 2, n.1 < m.1 + 1 → wayV (2 + (m.1 : Int)) (1 + (n.1 : Int)) ∈ waysV := by decide +kernel
def rayV (up : Bool) (x y p q : Int) : Ray := ⟨⟨Iv.whole x, Iv.whole y, Iv.point 0⟩, dirV up p q⟩
theorem ring1 (x q p z : Int) : x * 65536 * (4 * q) + p * (z * 65536) = (x * 4 * q + p * z) * 65536 := by
  rw [Int.add_mul, Int.mul_assoc p z]
  congr 1
  ac_rfl
def goesV (up : Bool) (x y p q z : Int) (T : Iv × Iv × Int) : Prop :=
  (T.2.2 = 1 → T.1.right = true ∧ T.2.1.right = true ∧
    (T.1.lo * (4 * q) ≤ (x * 4 * q + (if up = true then 0 else p) * z) * 65536 ∧ (x * 4 * q + (if up = true then 0 else p) * z) * 65536 ≤ T.1.hi * (4 * q)) ∧
    (T.2.1.lo * (4 * q) ≤ (y * 4 * q + (if up = true then p else 0) * z) * 65536 ∧ (y * 4 * q + (if up = true then p else 0) * z) * 65536 ≤ T.2.1.hi * (4 * q))) ∧
  (¬ T.2.2 = 1 → T.1 = Iv.none ∧ T.2.1 = Iv.none)
theorem straight_says (l : List Int) (up : Bool) (x y z : Int) {p q : Int} (hw : (p, q) ∈ waysV) : goesV up x y p q z (throughOf (straightOf l).2 (rayV up x y p q) (Iv.whole z)) := by
  have hq : 0 < q := by
    simp only [waysV, List.mem_cons, List.mem_nil_iff, or_false, Prod.mk.injEq] at hw
    omega
  obtain ⟨h1, h2, h3⟩ := dir_all (p, q) hw up
  have hD : 0 < 4 * q := by omega
  have on : OnLine (rayV up x y p q) (if up = true then 0 else p) (if up = true then p else 0) (4 * q) (lenV p q) (x * 65536 * (4 * q)) (y * 65536 * (4 * q)) 0 :=
    ⟨h1, h2, h3, cr_congr (cr_whole x) hD (by rw [Int.mul_one]), cr_congr (cr_whole y) hD (by rw [Int.mul_one]), cr_point 0⟩
  have := through_air hD (straight_air l) on z
  rw [ring1, ring1] at this
  exact this
end Go.Proofs.Ytapbnhnofcbkdaa
