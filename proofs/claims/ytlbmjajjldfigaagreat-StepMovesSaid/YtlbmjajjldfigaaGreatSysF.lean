/-
  What is so of every face of the statements' systems; in plain Lean.
-/
import Derived.Test.YtlbmjajjldfigaaGreatCore8
namespace Go.Proofs.YtlbmjajjldfigaaGreat
open Go
set_option linter.unusedVariables false
set_option linter.unusedSimpArgs false

def ivIn (a : Iv) (lo hi : Int) : Bool := a.right && (decide (lo ≤ a.lo) && decide (a.hi ≤ hi))
theorem ivIn_iff {a : Iv} {lo hi : Int} : ivIn a lo hi = true ↔ a.right = true ∧ lo ≤ a.lo ∧ a.hi ≤ hi := by simp [ivIn]
def apOk (d : Dec) : Bool := ivIn (decIv d) 196608 648808 && ivIn (decIv d).sqr 589824 6423200
def thOk (d : Dec) : Bool := ivIn (decIv d) 0 524288
def raOk (d : Dec) : Bool := d.c == 0 || (ivIn ((Iv.point 65536).div (decIv d)) 624 4370 || ivIn ((Iv.point 65536).div (decIv d)) (-4370) (-624))
def coOk (d : Dec) : Bool := ivIn ((Iv.point 65536).add (decIv d)) (-32768) 157287
def a4Ok (d : Dec) : Bool := ivIn (decIv d) (-131072) 131072
def a6Ok (d : Dec) : Bool := ivIn (decIv d) (-1310720) 1310720
structure FaceR (f : Face) : Prop where
  ap : apOk f.aperture = true
  th : thOk f.thick = true
  ra : raOk f.radius = true
  co : coOk f.conic = true
  a4 : a4Ok f.a4 = true
  a6 : a6Ok f.a6 = true
  st : f.stop = true → f.radius = ⟨0, 0⟩ ∧ f.conic = ⟨0, 0⟩ ∧ f.a4 = ⟨0, 0⟩ ∧ f.a6 = ⟨0, 0⟩
theorem ap_all : ∀ k : Fin 70, apOk (decOf (30 + (k.1 : Int)) 1) = true := by decide +kernel
theorem th_all : ∀ k : Fin 80, thOk (decOf (k.1 : Int) 1) = true := by decide +kernel
theorem ra_all : ∀ k : Fin 900, raOk (decOf (150 + (k.1 : Int)) 1) = true := by decide +kernel
theorem ra_all2 : ∀ k : Fin 900, raOk (decOf (-150 - (k.1 : Int)) 1) = true := by decide +kernel
theorem co_all : ∀ k : Fin 30, coOk (decOf ((k.1 : Int) - 15) 1) = true := by decide +kernel
theorem a4_all : ∀ k : Fin 400, a4Ok (decOf ((k.1 : Int) - 200) 2) = true := by decide +kernel
theorem a6_all : ∀ k : Fin 400, a6Ok (decOf ((k.1 : Int) - 200) 1) = true := by decide +kernel
theorem back_all : ∀ k : Fin 600, ivIn (decIv (decOf (200 + (k.1 : Int)) 1)) 1310720 5242880 = true := by decide +kernel
theorem of_fin {m : Nat} {P : Int → Prop} (h : ∀ k : Fin m, P (k.1 : Int)) {n : Int} (h0 : 0 ≤ n) (h1 : n < m) : P n := by
  have := h ⟨n.toNat, by omega⟩
  rwa [show ((n.toNat : Nat) : Int) = n by omega] at this
theorem apP (n : Int) : apOk (decOf (30 + pick n 70) 1) = true := of_fin (P := fun k => apOk (decOf (30 + k) 1) = true) ap_all (pick_bd n (by decide)).1 (pick_bd n (by decide)).2
theorem thP (n : Int) : thOk (decOf (pick n 80) 1) = true := of_fin (P := fun k => thOk (decOf k 1) = true) th_all (pick_bd n (by decide)).1 (pick_bd n (by decide)).2
theorem raP (n : Int) : raOk (radiusOf n) = true := by
  unfold radiusOf
  split
  · split
    · exact of_fin (P := fun k => raOk (decOf (-150 - k) 1) = true) ra_all2 (pick_bd n (by decide)).1 (pick_bd n (by decide)).2
    · exact of_fin (P := fun k => raOk (decOf (150 + k) 1) = true) ra_all (pick_bd n (by decide)).1 (pick_bd n (by decide)).2
  · rfl
theorem coP (n : Int) : coOk (conicOf n) = true := by
  unfold conicOf
  split
  · exact of_fin (P := fun k => coOk (decOf (k - 15) 1) = true) co_all (pick_bd _ (by decide)).1 (pick_bd _ (by decide)).2
  · decide +kernel
theorem a4P (n : Int) : a4Ok (a4Of n) = true := by
  unfold a4Of
  split
  · exact of_fin (P := fun k => a4Ok (decOf (k - 200) 2) = true) a4_all (pick_bd _ (by decide)).1 (pick_bd _ (by decide)).2
  · decide +kernel
theorem a6P (n : Int) : a6Ok (a6Of n) = true := by
  unfold a6Of
  split
  · exact of_fin (P := fun k => a6Ok (decOf (k - 200) 1) = true) a6_all (pick_bd _ (by decide)).1 (pick_bd _ (by decide)).2
  · decide +kernel
theorem zero_ok : raOk ⟨0, 0⟩ = true ∧ coOk ⟨0, 0⟩ = true ∧ a4Ok ⟨0, 0⟩ = true ∧ a6Ok ⟨0, 0⟩ = true := by decide +kernel
theorem faceR_of (f : RawFace) (i : Int) (g : List Glass) : FaceR (faceOf f i g) := by
  obtain ⟨z1, z2, z3, z4⟩ := zero_ok
  unfold faceOf
  split
  · exact ⟨apP _, thP _, z1, z2, z3, z4, fun _ => ⟨rfl, rfl, rfl, rfl⟩⟩
  · exact ⟨apP _, thP _, raP _, coP _, a4P _, a6P _, fun h => by cases h⟩
theorem faceR_crown : FaceR crownFace := ⟨by decide +kernel, by decide +kernel, by decide +kernel, by decide +kernel, by decide +kernel, by decide +kernel, fun h => by cases h⟩
theorem faceR_plain {f : Face} (h : FaceR f) : FaceR (plainFace f) :=
  ⟨h.ap, h.th, h.ra, h.co, zero_ok.2.2.1, zero_ok.2.2.2, fun e => ⟨(h.st e).1, (h.st e).2.1, rfl, rfl⟩⟩
theorem lensRaw_faces {back most : Int} {l : List RawFace} {g : List Glass} (h : lensPre most g = true) : ∀ f ∈ lensRaw back l g most, FaceR f := by
  simp only [lensPre, Bool.and_eq_true, decide_eq_true_eq] at h
  obtain ⟨hm, hg⟩ := h
  obtain ⟨y, hy, hp⟩ := iter_total (step := lensStep) (fun x => x.1.1 = most ∧ x.2.2.2.2.2.2.1 = g ∧ (x.2.2.2.2.2.2.2.1.length : Int) = x.1.2.1 ∧ (∀ f ∈ x.2.2.2.2.2.2.2.1, FaceR f) ∧ x.1.2.1 ≤ 100) (fun y => ∀ f ∈ y.2.2.2.2.2.1, FaceR f) lensM (by
    rintro ⟨⟨m, i, _⟩, ⟨p', _, z, _, l', g', o, zl, _⟩⟩ ⟨h0, h2, h4, h5, h6⟩
    dsimp only at h0 h2 h4 h5 h6
    subst h0; subst h2
    simp only [lensStep]
    by_cases hi : i < (l'.length : Int) ∧ (o.length : Int) < m
    · have hge : l'[i.toNat]? = some (l'[i.toNat]'(by omega)) := List.getElem?_eq_getElem (by omega)
      have hw : IntKind.i64.wrap (i + 1) = i + 1 := wr (by omega)
      rw [if_pos hi, if_pos (by omega), hge, hw]
      dsimp only
      rw [if_pos hg, if_pos (lenOk_iff.2 (by simp; omega))]
      refine .inr ⟨_, rfl, ⟨rfl, rfl, by simp; omega, ?_, by dsimp only; omega⟩, by simp only [lensM, List.length_append, List.length_cons, List.length_nil]; omega⟩
      intro f hf
      rcases List.mem_append.1 hf with hf | hf
      · exact h5 f hf
      · rw [List.mem_singleton.1 hf]; exact faceR_of _ _ _
    · rw [if_neg hi]; exact .inl ⟨_, rfl, h5⟩)
    ((most, 0, ()), (lensHead back, (), (sEmpty, ⟨0, 0⟩), (), l, g, [], [], ())) ⟨rfl, rfl, rfl, (fun _ h => by cases h), by dsimp only; omega⟩
  have hy' : runBy lensStep lensM ((most, 0, ()), (lensHead back, (), (sEmpty, ⟨0, 0⟩), (), l, g, [], [], ())) = some y := hy
  simp only [lensRaw, hy']
  exact hp
theorem lensRaw_len {back most : Int} {l : List RawFace} {g : List Glass} (h : lensPre most g = true) : ((lensRaw back l g most).length : Int) ≤ most := by
  simp only [lensPre, Bool.and_eq_true, decide_eq_true_eq] at h
  obtain ⟨hm, hg⟩ := h
  obtain ⟨y, hy, hp⟩ := iter_total (step := lensStep) (fun x => x.1.1 = most ∧ x.2.2.2.2.2.2.1 = g ∧ (x.2.2.2.2.2.2.2.1.length : Int) = x.1.2.1 ∧ (x.2.2.2.2.2.2.2.1.length : Int) ≤ most ∧ x.1.2.1 ≤ 100) (fun y => (y.2.2.2.2.2.1.length : Int) ≤ most) lensM (by
    rintro ⟨⟨m, i, _⟩, ⟨p', _, z, _, l', g', o, zl, _⟩⟩ ⟨h0, h2, h4, h5, h6⟩
    dsimp only at h0 h2 h4 h5 h6
    subst h0; subst h2
    simp only [lensStep]
    by_cases hi : i < (l'.length : Int) ∧ (o.length : Int) < m
    · have hge : l'[i.toNat]? = some (l'[i.toNat]'(by omega)) := List.getElem?_eq_getElem (by omega)
      have hw : IntKind.i64.wrap (i + 1) = i + 1 := wr (by omega)
      rw [if_pos hi, if_pos (by omega), hge, hw]
      dsimp only
      rw [if_pos hg, if_pos (lenOk_iff.2 (by simp; omega))]
      exact .inr ⟨_, rfl, ⟨rfl, rfl, by simp; omega, by simp; omega, by dsimp only; omega⟩, by simp only [lensM, List.length_append, List.length_cons, List.length_nil]; omega⟩
    · rw [if_neg hi]; exact .inl ⟨_, rfl, h5⟩)
    ((most, 0, ()), (lensHead back, (), (sEmpty, ⟨0, 0⟩), (), l, g, [], [], ())) ⟨rfl, rfl, rfl, by simp; omega, by dsimp only; omega⟩
  have hy' : runBy lensStep lensM ((most, 0, ()), (lensHead back, (), (sEmpty, ⟨0, 0⟩), (), l, g, [], [], ())) = some y := hy
  simp only [lensRaw, hy']
  exact hp
theorem lensOf_faces {back most : Int} {l : List RawFace} {g : List Glass} (h : lensPre most g = true) :
    (∀ f ∈ (lensOf back l g most).2, FaceR f) ∧ (lensOf back l g most).1.2 = decOf (200 + pick back 600) 1 ∧ ((lensOf back l g most).2.length : Int) ≤ most + 1 := by
  have h1 := lensRaw_faces (back := back) (l := l) h
  have h3 := lensRaw_len (back := back) (l := l) h
  have h2 : ∀ f ∈ lensRaw back l g most ++ [crownFace], FaceR f := by
    intro f hf
    rcases List.mem_append.1 hf with hf | hf
    · exact h1 f hf
    · rw [List.mem_singleton.1 hf]; exact faceR_crown
  have h4 : ((lensRaw back l g most ++ [crownFace]).length : Int) ≤ most + 1 := by simp; omega
  unfold lensOf
  split
  · exact ⟨h2, rfl, h4⟩
  · split
    · exact ⟨h1, rfl, by dsimp only; omega⟩
    · exact ⟨h2, rfl, h4⟩

/-- What is so of a face in numbers. -/
structure SurfR (s : Surf) : Prop where
  at0 : 0 ≤ s.at_.lo
  at1 : s.at_.hi ≤ 60000000
  o2 : ivIn s.open2 589824 6423200 = true
  cu : s.curve = Iv.point 0 ∨ ivIn s.curve 624 4370 = true ∨ ivIn s.curve (-4370) (-624) = true
  co : ivIn s.conic (-32768) 157287 = true
  a4 : ivIn s.a4 (-131072) 131072 = true
  a6 : ivIn s.a6 (-1310720) 1310720 = true
  st : s.stop = true → s.curve = Iv.point 0 ∧ s.conic = Iv.point 65536 ∧ s.bent = false
  be : s.bent = false → s.a4 = Iv.point 0 ∧ s.a6 = Iv.point 0
theorem decZero_eq {d : Dec} (h : decZero d = true) : d = ⟨0, 0⟩ := by
  obtain ⟨c, s⟩ := d
  simp [decZero] at h
  rw [h.1, h.2]
theorem decIv0 : decIv ⟨0, 0⟩ = Iv.point 0 := by decide +kernel
theorem one_conic0 : (Iv.point 65536).add (decIv ⟨0, 0⟩) = Iv.point 65536 := by decide +kernel
theorem buildSurf_R {at_ index wave : Iv} {g : List Glass} {f : Face} (h : FaceR f) (h0 : 0 ≤ at_.lo) (h1 : at_.hi ≤ 60000000) : SurfR (buildSurf (Iv.point 65536) at_ index wave g f).1 := by
  have hap := h.ap
  have hra := h.ra
  simp only [apOk, Bool.and_eq_true] at hap
  simp only [raOk, Bool.or_eq_true, beq_iff_eq] at hra
  have cu : (if f.radius.c = 0 then Iv.point 0 else (Iv.point 65536).div (decIv f.radius)) = Iv.point 0 ∨ ivIn (if f.radius.c = 0 then Iv.point 0 else (Iv.point 65536).div (decIv f.radius)) 624 4370 = true ∨ ivIn (if f.radius.c = 0 then Iv.point 0 else (Iv.point 65536).div (decIv f.radius)) (-4370) (-624) = true := by
    by_cases c : f.radius.c = 0
    · rw [if_pos c]; exact .inl rfl
    · rw [if_neg c]; exact .inr (hra.resolve_left c)
  have be : ((!decZero f.a4 || !decZero f.a6) = false) → decIv f.a4 = Iv.point 0 ∧ decIv f.a6 = Iv.point 0 := by
    intro e
    simp only [Bool.or_eq_false_iff, Bool.not_eq_false'] at e
    rw [decZero_eq e.1, decZero_eq e.2]; exact ⟨decIv0, decIv0⟩
  unfold buildSurf
  split
  · rename_i hs
    obtain ⟨s1, s2, s3, s4⟩ := h.st hs
    exact ⟨h0, h1, hap.2, cu, h.co, h.a4, h.a6, (fun _ => ⟨by rw [s1]; rfl, by rw [s2]; exact one_conic0, by rw [s3, s4]; rfl⟩), be⟩
  · exact ⟨h0, h1, hap.2, cu, h.co, h.a4, h.a6, (fun e => by cases e), be⟩
theorem add_right_eq {a b : Iv} (ha : a.right = true) (hb : b.right = true) (h : -1073741824 ≤ a.lo + b.lo ∧ a.hi + b.hi ≤ 1073741824) : a.add b = ⟨a.lo + b.lo, a.hi + b.hi, false⟩ := by
  have b1 := right_bd ha
  have b2 := right_bd hb
  unfold Iv.add Iv.both
  rw [ha, hb]
  exact of_eq ⟨⟨numIn_iff.2 (by omega), numIn_iff.2 (by omega)⟩, by omega⟩
theorem right_mk' {a b : Int} (h : -1073741824 ≤ a ∧ a ≤ b ∧ b ≤ 1073741824) : (⟨a, b, false⟩ : Iv).right = true := right_iff.2 ⟨rfl, h.1, h.2.1, h.2.2⟩
/-- Flat where its face is. -/
def flatAs (l : List Face) (s : List Surf) : Prop := (∀ f ∈ l, f.a4 = ⟨0, 0⟩ ∧ f.a6 = ⟨0, 0⟩) → ∀ x ∈ s, x.bent = false
theorem buildRun_R {x : LensV} {g : List Glass} {wave : Iv} (hg : Ev.lenOk g = true) (hl : x.2.length ≤ 101) (hf : ∀ f ∈ x.2, FaceR f) (hb : ivIn (decIv x.1.2) 0 5242880 = true) :
    (∀ s ∈ (buildRun x g wave).2, SurfR s) ∧ flatAs x.2 (buildRun x g wave).2 ∧ (buildRun x g wave).2.length = x.2.length ∧ (buildRun x g wave).1 = decIv (x.2[0]?.getD Face.nil).aperture := by
  obtain ⟨y, hy, hp⟩ := iter_total (step := buildStep) (fun z => z.2.2.2.2.2.2.2.2.2.2.1 = x.2 ∧ z.2.2.2.2.2.2.2.2.2.1 = g ∧ 0 ≤ z.1.1 ∧ z.1.1 ≤ (x.2.length : Int) ∧ (z.2.2.2.2.2.2.2.2.2.2.2.1.length : Int) = z.1.1 ∧ z.2.2.2.2.2.1 = decIv (x.2[0]?.getD Face.nil).aperture ∧ z.2.2.2.2.1 = Iv.point 65536 ∧
      (z.2.2.2.2.2.2.1.right = true ∧ 0 ≤ z.2.2.2.2.2.2.1.lo ∧ z.2.2.2.2.2.2.1.hi ≤ 5242880 + z.1.1 * 524288) ∧ (∀ s ∈ z.2.2.2.2.2.2.2.2.2.2.2.1, SurfR s) ∧ flatAs x.2 z.2.2.2.2.2.2.2.2.2.2.2.1)
    (fun y => (∀ s ∈ y.2.2.2.1, SurfR s) ∧ flatAs x.2 y.2.2.2.1 ∧ y.2.2.2.1.length = x.2.length ∧ y.2.1 = decIv (x.2[0]?.getD Face.nil).aperture) buildM (by
    rintro ⟨⟨i, _⟩, ⟨p, _, wave, one, op', at_, ix, op2, g', l', s, s2, _⟩⟩ ⟨h0, h1, h2, h3, h4, h5, h6, ⟨h7, h8, h9⟩, h10, h11⟩
    dsimp only at h0 h1 h2 h3 h4 h5 h6 h7 h8 h9 h10 h11
    subst h0; subst h1; subst h5; subst h6
    simp only [buildStep]
    by_cases hi : i < (x.2.length : Int)
    · have hge : x.2[i.toNat]? = some (x.2[i.toNat]'(by omega)) := List.getElem?_eq_getElem (by omega)
      have hm : x.2[i.toNat]'(by omega) ∈ x.2 := List.getElem_mem _
      have hw : IntKind.i64.wrap (i + 1) = i + 1 := wr (by omega)
      rw [if_pos hi, if_pos ⟨h2, hi⟩, hge, hw]
      dsimp only
      rw [if_pos hg, if_pos (lenOk_iff.2 (by simp; omega))]
      generalize x.2[i.toNat]'(by omega) = f at hm
      have hF := hf f hm
      have hth := ivIn_iff.1 hF.th
      have b1 := right_bd h7
      have b2 := right_bd hth.1
      have hadd := add_right_eq h7 hth.1 (by omega)
      refine .inr ⟨_, rfl, ⟨rfl, rfl, by dsimp only; omega, by dsimp only; omega, by simp; omega, rfl, rfl, ?_, ?_, ?_⟩, by simp only [buildM]; omega⟩
      · dsimp only
        rw [hadd]
        exact ⟨right_mk' (by omega), by dsimp only; omega, by dsimp only; omega⟩
      · intro q hq
        rcases List.mem_append.1 hq with hq | hq
        · exact h10 q hq
        · rw [List.mem_singleton.1 hq]; exact buildSurf_R hF h8 (by omega)
      · intro hz q hq
        rcases List.mem_append.1 hq with hq | hq
        · exact h11 hz q hq
        · rw [List.mem_singleton.1 hq]
          obtain ⟨e1, e2⟩ := hz f hm
          unfold buildSurf
          split <;> simp only [e1, e2] <;> rfl
    · rw [if_neg hi]; exact .inl ⟨_, rfl, h10, h11, by dsimp only; omega, rfl⟩)
    ((0, ()), (x.1, (), wave, Iv.point 65536, decIv (x.2[0]?.getD Face.nil).aperture, decIv x.1.2, Iv.point 65536, ⟨0, 0, false⟩, g, x.2, [], [], ()))
    ⟨rfl, rfl, by simp, by simp, by simp, rfl, rfl, ⟨(ivIn_iff.1 hb).1, (ivIn_iff.1 hb).2.1, by have := (ivIn_iff.1 hb).2.2; dsimp only; omega⟩, (fun _ h => by cases h), (fun _ _ h => by cases h)⟩
  have hy' : runBy buildStep buildM ((0, ()), (x.1, (), wave, Iv.point 65536, decIv (x.2[0]?.getD Face.nil).aperture, decIv x.1.2, Iv.point 65536, ⟨0, 0, false⟩, g, x.2, [], [], ())) = some y := hy
  simp only [buildRun, hy']
  exact hp
theorem rs_all {o : Iv} {l : List Surf} (hl : l.length ≤ 1048576) (h : rightSystem o l = true) : (∀ s ∈ l, surfRight s = true) ∧ o.right = true := by
  obtain ⟨y, hy, hp⟩ := iter_total (step := rsStep) (fun x => x.2.2.1 = l ∧ x.2.1 = o ∧ 0 ≤ x.1.1 ∧ x.1.1 ≤ (l.length : Int) ∧ ∀ s ∈ l.take x.1.1.toNat, surfRight s = true)
    (fun y => (match y with | .inl y => y.2.1.right | .inr y => y.1.1) = true → (∀ s ∈ l, surfRight s = true) ∧ o.right = true) rsM (by
    rintro ⟨⟨i, _⟩, ⟨o', l', _⟩⟩ ⟨h0, h1, h2, h3, h4⟩
    dsimp only at h0 h1 h2 h3 h4
    subst h0; subst h1
    simp only [rsStep]
    by_cases hi : i < (l'.length : Int)
    · have hge : l'[i.toNat]? = some (l'[i.toNat]'(by omega)) := List.getElem?_eq_getElem (by omega)
      have hw : IntKind.i64.wrap (i + 1) = i + 1 := wr (by omega)
      rw [if_pos hi, if_pos ⟨h2, hi⟩, hge, hw]
      dsimp only
      by_cases hc : surfRight (l'[i.toNat]'(by omega)) = true
      · rw [if_pos hc]
        refine .inr ⟨_, rfl, ⟨rfl, rfl, by dsimp only; omega, by dsimp only; omega, ?_⟩, by simp only [rsM]; omega⟩
        dsimp only
        rw [show (i + 1).toNat = i.toNat + 1 by omega, List.take_succ_eq_append_getElem (by omega)]
        intro s hs
        rcases List.mem_append.1 hs with hs | hs
        · exact h4 s hs
        · rw [List.mem_singleton.1 hs]; exact hc
      · rw [if_neg hc]; exact .inl ⟨_, rfl, fun h => by cases h⟩
    · rw [if_neg hi]
      refine .inl ⟨_, rfl, fun h => ⟨fun s hs => h4 s ?_, h⟩⟩
      rw [List.take_of_length_le (by omega)]; exact hs)
    ((0, ()), (o, l, ())) ⟨rfl, rfl, by simp, by simp, fun _ h => by simp at h⟩
  have hy' : runBy rsStep rsM ((0, ()), (o, l, ())) = some y := hy
  unfold rightSystem at h
  rw [hy'] at h
  refine hp ?_
  rcases y with y | y
  · exact h
  · exact h
/-- What is so of a system. -/
structure SysR (s : SysV) (most : Int) (plain : Bool) : Prop where
  surfs : ∀ f ∈ s.2, SurfR f ∧ surfRight f = true
  len : (s.2.length : Int) ≤ most + 1
  opens : s.2 ≠ [] → ivIn s.1 196608 648808 = true
  flat : plain = true → ∀ f ∈ s.2, f.bent = false
  nil : s.2 = [] → s.1 = ⟨0, 0, false⟩
theorem systemOf_R (back : Int) (l : List RawFace) (raw : List Int) {most : Int} (plain : Bool) (h : mostOk most = true) : SysR (systemOf back l raw most plain) most plain := by
  have hg := glassesOf_ok raw
  have hpre : lensPre most (glassesOf raw) = true := by simp only [lensPre, hg, Bool.and_true]; exact h
  obtain ⟨f1, f2, f3⟩ := lensOf_faces (back := back) (l := l) hpre
  have hok := (lensOf_ok (back := back) (l := l) hpre).2.2
  unfold systemOf
  have key : ∀ x : LensV, (∀ f ∈ x.2, FaceR f) → x.1.2 = decOf (200 + pick back 600) 1 → (x.2.length : Int) ≤ most + 1 → x.2.length ≤ 101 → lensOk x (glassesOf raw) = true → (plain = true → ∀ f ∈ x.2, f.a4 = ⟨0, 0⟩ ∧ f.a6 = ⟨0, 0⟩) →
      SysR (build x (glassesOf raw) (lineAt (pick back 3))).1 most plain := by
    intro x hx hb hlen hlen2 hlo hpl
    have nilR : SysR ((⟨0, 0, false⟩, []) : SysV) most plain := ⟨fun _ h => (by cases h), (by have := h; simp [mostOk] at this; simp; omega), fun h => absurd rfl h, fun _ _ h => (by cases h), fun _ => rfl⟩
    have hback : ivIn (decIv x.1.2) 0 5242880 = true := by
      rw [hb]
      have := ivIn_iff.1 (of_fin (P := fun k => ivIn (decIv (decOf (200 + k) 1)) 1310720 5242880 = true) (n := pick back 600) back_all (pick_bd back (by decide)).1 (pick_bd back (by decide)).2)
      exact ivIn_iff.2 ⟨this.1, by omega, this.2.2⟩
    obtain ⟨b1, b2, b3, b4⟩ := buildRun_R (wave := lineAt (pick back 3)) (glassesOk_len hg) hlen2 hx hback
    unfold build
    split
    · rename_i hrl
      split
      · rename_i hr
        obtain ⟨r1, r2⟩ := rs_all (by omega) hr
        refine ⟨fun f hf => ⟨b1 f hf, r1 f hf⟩, by dsimp only; omega, fun hne => ?_, fun hp => b2 (hpl hp), fun hn => ?_⟩
        · dsimp only at hne ⊢
          rw [b4]
          obtain ⟨a, t, ht⟩ : ∃ a t, x.2 = a :: t := by
            cases hx2 : x.2 with
            | nil => exact absurd (List.eq_nil_of_length_eq_zero (by rw [b3, hx2]; rfl)) hne
            | cons a t => exact ⟨a, t, rfl⟩
          rw [ht]
          have := (hx a (by rw [ht]; exact List.mem_cons_self)).ap
          simp only [apOk, Bool.and_eq_true] at this
          exact this.1
        · dsimp only at hn
          have hz : x.2.length = 0 := by rw [← b3, hn]; rfl
          exact absurd (List.eq_nil_of_length_eq_zero hz) (rightLens_some hlo hrl).1
      · exact nilR
    · exact nilR
  split
  · rename_i hp
    refine key _ ?_ f2 (by simp only [plainLens, List.length_map]; exact f3) (by simp only [plainLens, List.length_map]; exact hok) (lensOk_of (plainLens_ok (lensOf_ok (back := back) (l := l) hpre)) hg) ?_
    · intro f hf
      obtain ⟨q, hq, rfl⟩ := List.mem_map.1 hf
      exact faceR_plain (f1 q hq)
    · intro _ f hf
      obtain ⟨q, hq, rfl⟩ := List.mem_map.1 hf
      exact ⟨rfl, rfl⟩
  · rename_i hp
    exact key _ f1 f2 f3 hok (lensOk_of (lensOf_ok (back := back) (l := l) hpre) hg) (fun h => absurd h hp)
end Go.Proofs.YtlbmjajjldfigaaGreat
