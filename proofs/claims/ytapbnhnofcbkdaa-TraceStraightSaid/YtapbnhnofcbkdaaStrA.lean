/-
  Planes of air: a ray that has a line goes on with it; in plain Lean.
-/
import Derived.Test.YtapbnhnofcbkdaaRatC
import Derived.Test.YtapbnhnofcbkdaaCore9
namespace Go.Proofs.Ytapbnhnofcbkdaa
open Go
set_option linter.unusedVariables false
set_option linter.unusedSimpArgs false

/-- A plane of air at Z. -/
def Air (s : Surf) (Z : Int) : Prop := s.bent = false ∧ s.curve = Iv.point 0 ∧ s.conic = Iv.point 65536 ∧ s.ratio = Iv.point 65536 ∧ s.at_ = Iv.point Z
/-- The ray has a line: its place at Z, its way by a length L. -/
structure OnLine (r : Ray) (p p2 D L X Y Z : Int) : Prop where
  dx : Cr r.d.x (p * 4294967296) L
  dy : Cr r.d.y (p2 * 4294967296) L
  dz : Cr r.d.z (D * 4294967296) L
  ox : Cr r.o.x X D
  oy : Cr r.o.y Y D
  oz : Cr r.o.z Z 1
theorem cr_zero_mul {a b : Iv} {m e : Int} (ha : Cr a 0 1) (hb : Cr b m e) : Cr (a.mul b) 0 1 := cr_congr (cr_mul ha hb) (by decide) (by rw [Int.zero_mul, Int.zero_mul, Int.zero_mul])
theorem cr_mul_zero {a b : Iv} {m e : Int} (hb : Cr b m e) (ha : Cr a 0 1) : Cr (b.mul a) 0 1 := cr_congr (cr_mul hb ha) (by decide) (by rw [Int.mul_zero, Int.zero_mul, Int.zero_mul])
theorem cr_add_zero {a b : Iv} {m e : Int} (hb : Cr b m e) (ha : Cr a 0 1) : Cr (b.add a) m e := cr_congr (cr_add hb ha) hb.1 (by rw [Int.zero_mul, Int.mul_one, Int.mul_one, Int.add_zero])
theorem cr_zero_add {a b : Iv} {m e : Int} (ha : Cr a 0 1) (hb : Cr b m e) : Cr (a.add b) m e := cr_congr (cr_add ha hb) hb.1 (by rw [Int.zero_mul, Int.mul_one, Int.one_mul, Int.zero_add])
theorem cr_zero_sub {a b : Iv} {m e : Int} (ha : Cr a 0 1) (hb : Cr b m e) : Cr (a.sub b) (-m) e := cr_zero_add ha (cr_neg hb)
theorem cr_neg_zero {a : Iv} (ha : Cr a 0 1) : Cr a.neg 0 1 := cr_neg ha
theorem cr_sub_zero {a b : Iv} {m e : Int} (hb : Cr b m e) (ha : Cr a 0 1) : Cr (b.sub a) m e := cr_add_zero hb (cr_neg_zero ha)
theorem cr_one_mul {a b : Iv} {m e : Int} (ha : Cr a 65536 1) (hb : Cr b m e) : Cr (a.mul b) m e := cr_congr (cr_mul ha hb) hb.1 (by rw [Int.one_mul, Int.mul_comm 65536 m, Int.mul_assoc, Int.mul_comm 65536 e])
theorem cr_mul_one {a b : Iv} {m e : Int} (hb : Cr b m e) (ha : Cr a 65536 1) : Cr (b.mul a) m e := cr_congr (cr_mul hb ha) hb.1 (by rw [Int.mul_one, Int.mul_assoc, Int.mul_comm 65536 e])
theorem cr_sqr_zero {a : Iv} (ha : Cr a 0 1) : Cr a.sqr 0 1 := cr_congr (cr_sqr ha) (by decide) (by simp)
theorem cr_sqr_one {a : Iv} (ha : Cr a 65536 1) : Cr a.sqr 65536 1 := cr_congr (cr_sqr ha) (by decide) (by decide)
/-- Across a plane: along the axis. -/
theorem normal_air {s : Surf} {Z : Int} (hs : Air s Z) {p : V} {n d m e k f : Int} (hx : Cr p.x n d) (hy : Cr p.y m e) (hz : Cr p.z k f) :
    Cr (normalFlat s p).x 0 1 ∧ Cr (normalFlat s p).y 0 1 ∧ Cr (normalFlat s p).z 65536 1 := by
  have c0 : Cr s.curve 0 1 := by rw [hs.2.1]; exact cr_point 0
  have k1 : Cr s.conic 65536 1 := by rw [hs.2.2.1]; exact cr_point 65536
  have x0 := cr_neg_zero (cr_zero_mul c0 hx)
  have y0 := cr_neg_zero (cr_zero_mul c0 hy)
  have z1 : Cr ((Iv.point 65536).sub (s.curve.mul (s.conic.mul p.z))) 65536 1 := cr_sub_zero (cr_point 65536) (cr_zero_mul c0 (cr_one_mul k1 hz))
  have l : Cr (((s.curve.mul p.x).neg.sqr.add (s.curve.mul p.y).neg.sqr).add ((Iv.point 65536).sub (s.curve.mul (s.conic.mul p.z))).sqr) 65536 1 :=
    cr_zero_add (cr_add_zero (cr_sqr_zero x0) (cr_sqr_zero y0)) (cr_sqr_one z1)
  have r : Cr (((s.curve.mul p.x).neg.sqr.add (s.curve.mul p.y).neg.sqr).add ((Iv.point 65536).sub (s.curve.mul (s.conic.mul p.z))).sqr).root 65536 1 :=
    cr_root (by decide) (by decide) (cr_congr l (by decide) (by decide))
  exact ⟨cr_congr (cr_div x0 r (by decide)) (by decide) (by decide), cr_congr (cr_div y0 r (by decide)) (by decide) (by decide), cr_congr (cr_div z1 r (by decide)) (by decide) (by decide)⟩
/-- A way that bends by a ratio of one goes on. -/
theorem bend_air {d n : V} {ratio : Iv} {A B G L : Int} (hG : 0 ≤ G) (dx : Cr d.x A L) (dy : Cr d.y B L) (dz : Cr d.z G L) (nx : Cr n.x 0 1) (ny : Cr n.y 0 1) (nz : Cr n.z 65536 1) (hr : Cr ratio 65536 1)
    (h : (bend d n ratio).2 = 1) : Cr (bend d n ratio).1.x A L ∧ Cr (bend d n ratio).1.y B L ∧ Cr (bend d n ratio).1.z G L := by
  have c : Cr (d.dot n) G L := cr_zero_add (cr_add_zero (cr_mul_zero dx nx) (cr_mul_zero dy ny)) (cr_mul_one dz nz)
  have c2 := cr_sqr c
  have k0 : Cr ((Iv.point 65536).sub (d.dot n).sqr) (65536 * (L * L * 65536) - G * G) (L * L * 65536) := cr_congr (cr_sub (cr_point 65536) c2) c2.1 (by rw [Int.mul_one, Int.one_mul])
  have k1 := cr_one_mul (cr_sqr_one hr) k0
  have k2 : Cr ((Iv.point 65536).sub (ratio.sqr.mul ((Iv.point 65536).sub (d.dot n).sqr))) (G * G) (L * L * 65536) := cr_congr (cr_sub (cr_point 65536) k1) c2.1 (by
    rw [Int.mul_one, Int.one_mul]
    congr 1
    omega)
  have k3 := cr_root hG c.1 k2
  have k4 : Cr (((Iv.point 65536).sub (ratio.sqr.mul ((Iv.point 65536).sub (d.dot n).sqr))).root.sub (ratio.mul (d.dot n))) 0 1 :=
    cr_congr (cr_sub k3 (cr_one_mul hr c)) (by decide) (by rw [Int.sub_self, Int.zero_mul, Int.zero_mul])
  unfold bend at h ⊢
  split at h
  · cases h
  · split at h
    · cases h
    · split at h
      · cases h
      · split at h
        · cases h
        · split at h
          · rename_i h1 h2 h3 h4 h5
            rw [if_neg h1, if_neg h2, if_neg h3, if_neg h4, if_pos h5]
            exact ⟨cr_add_zero (cr_mul_one dx hr) (cr_mul_zero nx k4), cr_add_zero (cr_mul_one dy hr) (cr_mul_zero ny k4), cr_add_zero (cr_mul_one dz hr) (cr_mul_zero nz k4)⟩
          · cases h
end Go.Proofs.Ytapbnhnofcbkdaa
