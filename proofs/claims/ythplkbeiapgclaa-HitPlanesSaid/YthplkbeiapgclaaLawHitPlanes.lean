/-
  A ray of whole numbers meets a plane where it does: the call returns true for every six numbers.
-/
import Derived.Test.YthplkbeiapgclaaRows
import Derived.Test.YthplkbeiapgclaaK1
import Derived.Test.YthplkbeiapgclaaPlane
import Derived.ProofKit
import Derived.OpenShut
import Derived.ShutString
import Derived.ChangeOld
import Derived.SizedLaws
namespace Go.Proofs.Ythplkbeiapgclaa.hitPlanes
open Go.ChangeShapes Go.WideShapes Go.ChangeAt Go.RowKit Ev
set_option linter.unusedVariables false
set_option linter.unusedSimpArgs false
set_option maxRecDepth 100000
theorem br_t {ρ : Type} {b : Bool} {t e : Tr ρ} {r : ρ} (h : b = true) (ht : t.den = some r) : (Tr.br b t e).den = some r := by subst h; exact ht
theorem bi {ρ α : Type} {x : α} {k : α → Tr ρ} {r : ρ} (y : α) (hx : x = y) (h : (k y).den = some r) : (Tr.bind x k).den = some r := by subst hx; exact h
theorem wr {n : Int} (h : -9223372036854775808 ≤ n ∧ n ≤ 9223372036854775807) : IntKind.i64.wrap n = n := IntWalk.i64_in n (by omega)
theorem calls (a0 : Int) (a1 : Int) (a2 : Int) (a3 : Int) (a4 : Int) (a5 : Int) (w0 : (Lit.int .i64 a0).wf = true) (w1 : (Lit.int .i64 a1).wf = true) (w2 : (Lit.int .i64 a2).wf = true) (w3 : (Lit.int .i64 a3).wf = true) (w4 : (Lit.int .i64 a4).wf = true) (w5 : (Lit.int .i64 a5).wf = true) : Plain Try.prog 5 [cInt.enc a0, cInt.enc a1, cInt.enc a2, cInt.enc a3, cInt.enc a4, cInt.enc a5] (cBool.enc true) :=
  plain_of_tree (n := 200) e_meniscuslaw15_HitPlanes Try.func5 (args := [cInt.av a0, cInt.av a1, cInt.av a2, cInt.av a3, cInt.av a4, cInt.av a5]) (by simp only [AV.vals, Cod.av_val]) (Nat.le_of_ble_eq_true (by kernel_rfl)) LFn.nil cBool (by
    rw [t_meniscuslaw15_HitPlanes]
    have px := pick_bd a0 (m := 41) (by decide)
    have py := pick_bd a1 (m := 41) (by decide)
    have pz := pick_bd a2 (m := 50) (by decide)
    have pu := pick_bd a3 (m := 9) (by decide)
    have pv := pick_bd a4 (m := 9) (by decide)
    have pw := pick_bd a5 (m := 9) (by decide)
    obtain ⟨X, hX⟩ : ∃ X, X = pick a0 41 - 20 := ⟨_, rfl⟩
    obtain ⟨Y, hY⟩ : ∃ X, X = pick a1 41 - 20 := ⟨_, rfl⟩
    obtain ⟨Z, hZ⟩ : ∃ X, X = 1 + pick a2 50 := ⟨_, rfl⟩
    obtain ⟨U, hU⟩ : ∃ X, X = pick a3 9 - 4 := ⟨_, rfl⟩
    obtain ⟨V, hV⟩ : ∃ X, X = pick a4 9 - 4 := ⟨_, rfl⟩
    obtain ⟨W, hW⟩ : ∃ X, X = 1 + pick a5 9 := ⟨_, rfl⟩
    have eX : IntKind.i64.wrap (pick a0 41 - 20) = X := by rw [wr (by omega), hX]
    have eY : IntKind.i64.wrap (pick a1 41 - 20) = Y := by rw [wr (by omega), hY]
    have eZ : IntKind.i64.wrap (1 + pick a2 50) = Z := by rw [wr (by omega), hZ]
    have eU : IntKind.i64.wrap (pick a3 9 - 4) = U := by rw [wr (by omega), hU]
    have eV : IntKind.i64.wrap (pick a4 9 - 4) = V := by rw [wr (by omega), hV]
    have eW : IntKind.i64.wrap (1 + pick a5 9) = W := by rw [wr (by omega), hW]
    refine br_t rfl (bi _ rfl (br_t rfl (bi _ rfl (br_t rfl (bi _ rfl (br_t rfl (bi _ rfl (br_t rfl (bi _ rfl (br_t rfl (bi _ rfl ?_)))))))))))
    simp only [eX, eY, eZ, eU, eV, eW]
    obtain ⟨q, p, ⟨g1, g2⟩, ⟨g3, g4, g5⟩, hh⟩ := plane_hit (x := X) (y := Y) (z := Z) (u := U) (v := V) (w := W) (by omega) (by omega) (by omega) (by omega) (by omega) (by omega)
    have bX : -20 ≤ X ∧ X ≤ 20 := by omega
    have bY : -20 ≤ Y ∧ Y ≤ 20 := by omega
    have bZ : 1 ≤ Z ∧ Z ≤ 50 := by omega
    have bU : -4 ≤ U ∧ U ≤ 4 := by omega
    have bV : -4 ≤ V ∧ V ≤ 4 := by omega
    have bW : 1 ≤ W ∧ W ≤ 9 := by omega
    clear hX hY hZ hU hV hW eX eY eZ eU eV eW px py pz pu pv pw
    refine bi _ (whole_pt (by omega)) (bi _ (whole_pt (by omega)) (bi _ point0 (bi _ rfl (bi _ (whole_pt (by omega)) (bi _ (whole_pt (by omega)) (bi _ (whole_pt (by omega)) (bi _ rfl (bi _ (whole_pt (by omega)) (bi _ rfl (br_t rfl (bi _ hh (bi _ rfl (br_t rfl (br_t rfl ?_))))))))))))))
    have w1 : IntKind.i64.wrap (Z * 65536) = Z * 65536 := wr (by omega)
    have pq := prod_bd (a := q) (b := W) (A := 6553601) (B := 9) (by omega) (by omega) (by omega) (by omega)
    have pp := prod_bd (a := p) (b := W) (A := 6553601) (B := 9) (by omega) (by omega) (by omega) (by omega)
    have w2 : IntKind.i64.wrap (q * W) = q * W := wr (by omega)
    have w3 : IntKind.i64.wrap (p * W) = p * W := wr (by omega)
    have place : ∀ (x u : Int), -20 ≤ x ∧ x ≤ 20 → -4 ≤ u ∧ u ≤ 4 →
        IntKind.i64.wrap ((x * 65536 + min (u * q) (u * p)) * W) ≤ IntKind.i64.wrap (IntKind.i64.wrap (IntKind.i64.wrap (x * W) + IntKind.i64.wrap (u * Z)) * 65536) ∧
        IntKind.i64.wrap ((x * 65536 + max (u * q) (u * p)) * W) ≥ IntKind.i64.wrap (IntKind.i64.wrap (IntKind.i64.wrap (x * W) + IntKind.i64.wrap (u * Z)) * 65536) := by
      intro x u hx hu
      have b1 := prod_bd (a := x) (b := W) (A := 20) (B := 9) (by omega) (by omega) (by omega) (by omega)
      have b2 := prod_bd (a := u) (b := Z) (A := 4) (B := 50) (by omega) (by omega) (by omega) (by omega)
      have b3 := prod_bd (a := u) (b := q) (A := 4) (B := 6553601) (by omega) (by omega) (by omega) (by omega)
      have b4 := prod_bd (a := u) (b := p) (A := 4) (B := 6553601) (by omega) (by omega) (by omega) (by omega)
      have b5 := prod_bd (a := x * 65536 + min (u * q) (u * p)) (b := W) (A := 99999999) (B := 9) (by omega) (by omega) (by omega) (by omega)
      have b6 := prod_bd (a := x * 65536 + max (u * q) (u * p)) (b := W) (A := 99999999) (B := 9) (by omega) (by omega) (by omega) (by omega)
      rw [wr (n := x * W) (by omega), wr (n := u * Z) (by omega), wr (n := x * W + u * Z) (by omega), wr (n := (x * W + u * Z) * 65536) (by omega), wr (n := (x * 65536 + min (u * q) (u * p)) * W) (by omega), wr (n := (x * 65536 + max (u * q) (u * p)) * W) (by omega)]
      have e0 : x * 65536 * W = x * W * 65536 := by rw [Int.mul_assoc, Int.mul_comm 65536, ← Int.mul_assoc]
      have e1 : u * q * W = u * (q * W) := Int.mul_assoc _ _ _
      have e2 : u * p * W = u * (p * W) := Int.mul_assoc _ _ _
      have e3 : u * (Z * 65536) = u * Z * 65536 := by rw [Int.mul_assoc]
      have m1 : (u * q) * W ≤ u * Z * 65536 ∧ u * Z * 65536 ≤ (u * p) * W ∨ (u * p) * W ≤ u * Z * 65536 ∧ u * Z * 65536 ≤ (u * q) * W := by
        rw [e1, e2, ← e3]
        rcases Int.le_total 0 u with h | h
        · exact .inl ⟨Int.mul_le_mul_of_nonneg_left g1 h, Int.mul_le_mul_of_nonneg_left g2 h⟩
        · exact .inr ⟨Int.mul_le_mul_of_nonpos_left h g2, Int.mul_le_mul_of_nonpos_left h g1⟩
      have n1 : min (u * q) (u * p) * W ≤ (u * q) * W ∧ min (u * q) (u * p) * W ≤ (u * p) * W := ⟨Int.mul_le_mul_of_nonneg_right (by omega) (by omega), Int.mul_le_mul_of_nonneg_right (by omega) (by omega)⟩
      have n2 : (u * q) * W ≤ max (u * q) (u * p) * W ∧ (u * p) * W ≤ max (u * q) (u * p) * W := ⟨Int.mul_le_mul_of_nonneg_right (by omega) (by omega), Int.mul_le_mul_of_nonneg_right (by omega) (by omega)⟩
      rw [Int.add_mul, Int.add_mul, Int.add_mul, e0]
      constructor <;> omega
    have pX := place X U bX bU
    have pY := place Y V bY bV
    have hz1 : Iv.has ⟨-Z * 65536 + W * q, -Z * 65536 + W * p, false⟩ 0 = true := by
      have c1 : W * q = q * W := Int.mul_comm _ _
      have c2 : W * p = p * W := Int.mul_comm _ _
      have : (⟨-Z * 65536 + W * q, -Z * 65536 + W * p, false⟩ : Iv).right = true := right_mk (by omega)
      simp [Iv.has, this]
      omega
    refine br_t (decide_eq_true (by simp only [w1, w2]; exact g1)) (br_t (decide_eq_true (by simp only [w1, w3]; exact g2)) (br_t (decide_eq_true pX.1) (br_t (decide_eq_true pX.2) (br_t (decide_eq_true pY.1) (br_t (decide_eq_true pY.2) (bi _ hz1 (br_t rfl (bi true (right_mk (by omega)) rfl)))))))))
theorem own : ownKnob Try.prog.godebug = none := by kernel_rfl
theorem lifted (os : Os) (started : os.Started) (H : Type) (enc : TypeId × Value → H) :
    ReturnsInHanded {} Try.checked os 5 .any (Rows.hitPlanesSpec.pre6 enc Try.prog Try.f5 Rows.hitPlanesRow.domain false) (Rows.hitPlanesSpec.post enc Try.prog Try.f5 false true false false) := by
  refine returnsInHanded_of_change_sized (C := Try.checked) own started (by kernel_rfl) Try.func5
    (ChangeSpec.witness6 (enc := enc) (C := Try.checked) false ⟨#[], #[.int .i64 0, .int .i64 0, .int .i64 0, .int .i64 0, .int .i64 0, .int .i64 0], []⟩ 8 (by kernel_rfl) (by kernel_rfl) (by kernel_rfl) (by kernel_rfl)) ?_
  intro W base args ds gs before hval0 hW hcnd hsz0 _
  have hsz : (DataW.weightsEach Try.prog (Try.f5.params.toList ++ Rows.hitPlanesSpec.plain.varTypes Try.prog) (ds ++ gs)).all (· ≤ reachBytes) = true := hsz0
  have hval : ∀ (j : Nat) t v, Try.f5.params[j]? = some t → args[j]? = some v → Value.okWide Try.prog W .any base t v := hval0
  have hW' := hW
  obtain ⟨p, q, hA0, hV, rfl, hfz, hnd⟩ := hW
  have hA : DataW.TrodAll enc Try.prog W 0 (fun _ => true) true Try.f5.params.toList args.toList ds p := hA0
  rw [Try.params5] at hA hval hsz
  obtain ⟨v0, vs0, d0, ds0, p0, q0, hargs, rfl, rfl, h0, r0⟩ := trodAll_cons hA
  obtain ⟨v1, vs1, d1, ds1, p1, q1, rfl, rfl, rfl, h1, r1⟩ := trodAll_cons r0
  obtain ⟨v2, vs2, d2, ds2, p2, q2, rfl, rfl, rfl, h2, r2⟩ := trodAll_cons r1
  obtain ⟨v3, vs3, d3, ds3, p3, q3, rfl, rfl, rfl, h3, r3⟩ := trodAll_cons r2
  obtain ⟨v4, vs4, d4, ds4, p4, q4, rfl, rfl, rfl, h4, r4⟩ := trodAll_cons r3
  obtain ⟨v5, vs5, d5, ds5, p5, q5, rfl, rfl, rfl, h5, r5⟩ := trodAll_cons r4
  obtain ⟨rfl, rfl, rfl⟩ := trodAll_nil r5
  obtain rfl : args = #[v0, v1, v2, v3, v4, v5] := by cases args; simp_all
  obtain ⟨rfl, rfl⟩ := trodVars_none hV
  obtain ⟨a0, rfl, rfl, rfl, w0⟩ := open_int Try.underlying3 (hval 0 3 v0 rfl rfl) h0
  obtain ⟨a1, rfl, rfl, rfl, w1⟩ := open_int Try.underlying3 (hval 1 3 v1 rfl rfl) h1
  obtain ⟨a2, rfl, rfl, rfl, w2⟩ := open_int Try.underlying3 (hval 2 3 v2 rfl rfl) h2
  obtain ⟨a3, rfl, rfl, rfl, w3⟩ := open_int Try.underlying3 (hval 3 3 v3 rfl rfl) h3
  obtain ⟨a4, rfl, rfl, rfl, w4⟩ := open_int Try.underlying3 (hval 4 3 v4 rfl rfl) h4
  obtain ⟨a5, rfl, rfl, rfl, w5⟩ := open_int Try.underlying3 (hval 5 3 v5 rfl rfl) h5
  clear hA0 hval0 hsz0 hsz
  refine (calls a0 a1 a2 a3 a4 a5 w0 w1 w2 w3 w4 w5 W).mono fun e W' ⟨he, bel⟩ => ?_
  subst he
  exact ⟨_, rfl, _, _, _, [], _, [], hW', trodAll_mk1 (shut_bool Try.underlying4 _), (trodAll_cons_mk (shut_int Try.underlying3 w0) (trodAll_cons_mk (shut_int Try.underlying3 w1) (trodAll_cons_mk (shut_int Try.underlying3 w2) (trodAll_cons_mk (shut_int Try.underlying3 w3) (trodAll_cons_mk (shut_int Try.underlying3 w4) (trodAll_cons_mk (shut_int Try.underlying3 w5) trodAll_mk0)))))), rfl, bel.frame _, fun h => by cases h⟩
theorem over : Rows.hitPlanesRow.holds Try.pinned (OpenSpec.ofChange Rows.hitPlanesSpec) :=
  OpenClaim.holds_of_wide 5 Try.f5 rfl rfl rfl rfl rfl rfl rfl ⟨rfl, rfl, rfl, rfl, rfl⟩ rfl rfl rfl rfl rfl (by kernel_rfl) Try.func5 (by kernel_rfl)
    (of_decide_eq_true (by kernel_rfl)) (by unfold Func.isWrapper; first | (rw [if_pos (by decide +kernel)]; kernel_rfl) | (rw [if_neg (by decide +kernel)]; exact ⟨rfl, rfl⟩))
    (fun os started H enc _ => lifted os started H enc)
end Go.Proofs.Ythplkbeiapgclaa.hitPlanes
namespace Go.Proofs.Ythplkbeiapgclaa
theorem hitPlanes_holds : Rows.HitPlanesSaid := hitPlanes.over
#print axioms hitPlanes_holds
end Go.Proofs.Ythplkbeiapgclaa
