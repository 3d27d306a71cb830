/-
  Where the faces of the statements' systems are, at most; in plain Lean.
-/
import Derived.Test.YtlbmjajjldfigaaGreatSysF
namespace Go.Proofs.YtlbmjajjldfigaaGreat
open Go
set_option linter.unusedVariables false
set_option linter.unusedSimpArgs false

theorem buildSurf_at {one at_ index wave : Iv} {g : List Glass} {f : Face} : (buildSurf one at_ index wave g f).1.at_ = at_ := by
  unfold buildSurf
  split <;> rfl
theorem buildRun_at {x : LensV} {g : List Glass} {wave : Iv} (hg : Ev.lenOk g = true) (hl : x.2.length ≤ 101) (hf : ∀ f ∈ x.2, FaceR f) (hb : ivIn (decIv x.1.2) 0 5242880 = true) :
    ∀ s ∈ (buildRun x g wave).2, s.at_.hi ≤ 4718592 + (x.2.length : Int) * 524288 := by
  obtain ⟨y, hy, hp⟩ := iter_total (step := buildStep) (fun z => z.2.2.2.2.2.2.2.2.2.2.1 = x.2 ∧ z.2.2.2.2.2.2.2.2.2.1 = g ∧ 0 ≤ z.1.1 ∧ z.1.1 ≤ (x.2.length : Int) ∧ (z.2.2.2.2.2.2.2.2.2.2.2.1.length : Int) = z.1.1 ∧
      (z.2.2.2.2.2.2.1.right = true ∧ 0 ≤ z.2.2.2.2.2.2.1.lo ∧ z.2.2.2.2.2.2.1.hi ≤ 5242880 + z.1.1 * 524288) ∧ (∀ s ∈ z.2.2.2.2.2.2.2.2.2.2.2.1, s.at_.hi ≤ 4718592 + (x.2.length : Int) * 524288))
    (fun y => ∀ s ∈ y.2.2.2.1, s.at_.hi ≤ 4718592 + (x.2.length : Int) * 524288) buildM (by
    rintro ⟨⟨i, _⟩, ⟨p, _, wave, one, op', at_, ix, op2, g', l', s, s2, _⟩⟩ ⟨h0, h1, h2, h3, h4, ⟨h7, h8, h9⟩, h10⟩
    dsimp only at h0 h1 h2 h3 h4 h7 h8 h9 h10
    subst h0; subst h1
    simp only [buildStep]
    by_cases hi : i < (x.2.length : Int)
    · have hge : x.2[i.toNat]? = some (x.2[i.toNat]'(by omega)) := List.getElem?_eq_getElem (by omega)
      have hm : x.2[i.toNat]'(by omega) ∈ x.2 := List.getElem_mem _
      have hw : IntKind.i64.wrap (i + 1) = i + 1 := wr (by omega)
      rw [if_pos hi, if_pos ⟨h2, hi⟩, hge, hw]
      dsimp only
      rw [if_pos hg, if_pos (lenOk_iff.2 (by simp; omega))]
      generalize x.2[i.toNat]'(by omega) = f at hm
      have hth := ivIn_iff.1 (hf f hm).th
      have b1 := right_bd h7
      have b2 := right_bd hth.1
      have hadd := add_right_eq h7 hth.1 (by omega)
      refine .inr ⟨_, rfl, ⟨rfl, rfl, by dsimp only; omega, by dsimp only; omega, by simp; omega, ?_, ?_⟩, by simp only [buildM]; omega⟩
      · dsimp only
        rw [hadd]
        exact ⟨right_mk' (by omega), by dsimp only; omega, by dsimp only; omega⟩
      · intro q hq
        rcases List.mem_append.1 hq with hq | hq
        · exact h10 q hq
        · rw [List.mem_singleton.1 hq, buildSurf_at]; omega
    · rw [if_neg hi]; exact .inl ⟨_, rfl, h10⟩)
    ((0, ()), (x.1, (), wave, Iv.point 65536, decIv (x.2[0]?.getD Face.nil).aperture, decIv x.1.2, Iv.point 65536, ⟨0, 0, false⟩, g, x.2, [], [], ()))
    ⟨rfl, rfl, by simp, by simp, by simp, ⟨(ivIn_iff.1 hb).1, (ivIn_iff.1 hb).2.1, by have := (ivIn_iff.1 hb).2.2; dsimp only; omega⟩, (fun _ h => by cases h)⟩
  have hy' : runBy buildStep buildM ((0, ()), (x.1, (), wave, Iv.point 65536, decIv (x.2[0]?.getD Face.nil).aperture, decIv x.1.2, Iv.point 65536, ⟨0, 0, false⟩, g, x.2, [], [], ())) = some y := hy
  simp only [buildRun, hy']
  exact hp
theorem systemOf_at (back : Int) (l : List RawFace) (raw : List Int) {most : Int} (h : mostOk most = true) : ∀ f ∈ (systemOf back l raw most false).2, f.at_.hi ≤ 5242880 + most * 524288 := by
  have hg := glassesOf_ok raw
  have hpre : lensPre most (glassesOf raw) = true := by simp only [lensPre, hg, Bool.and_true]; exact h
  obtain ⟨f1, f2, f3⟩ := lensOf_faces (back := back) (l := l) hpre
  have hok := (lensOf_ok (back := back) (l := l) hpre).2.2
  have hback : ivIn (decIv (lensOf back l (glassesOf raw) most).1.2) 0 5242880 = true := by
    rw [f2]
    have := ivIn_iff.1 (of_fin (P := fun k => ivIn (decIv (decOf (200 + k) 1)) 1310720 5242880 = true) (n := pick back 600) back_all (pick_bd back (by decide)).1 (pick_bd back (by decide)).2)
    exact ivIn_iff.2 ⟨this.1, by omega, this.2.2⟩
  have hr := buildRun_at (wave := lineAt (pick back 3)) (glassesOk_len hg) hok f1 hback
  have hl : ∀ s ∈ (buildRun (lensOf back l (glassesOf raw) most) (glassesOf raw) (lineAt (pick back 3))).2, s.at_.hi ≤ 5242880 + most * 524288 := by
    intro s hs
    have := hr s hs
    omega
  unfold systemOf
  rw [if_neg (by simp)]
  unfold build
  split
  · split
    · exact hl
    · intro f hf; cases hf
  · intro f hf; cases hf
end Go.Proofs.YtlbmjajjldfigaaGreat
