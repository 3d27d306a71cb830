/-
  Raw glasses, faces and lenses as the statements' helpers make them; in plain Lean.
-/
import Derived.Test.YtlbmjajjldfigaaGreatCore6
namespace Go.Proofs.YtlbmjajjldfigaaGreat
open Go

/-! A lens without its terms -/
def plainFace (f : Face) : Face := ⟨f.stop, f.radius, f.aperture, f.thick, f.conic, ⟨0, 0⟩, ⟨0, 0⟩, f.glass⟩
abbrev PlainX := (Int × Unit) × ((Str × Dec) × Unit × (Str × Dec) × Unit × List Face × List Face × List Face × Unit)
def plainStep : PlainX → Option (PlainX ⊕ (Unit × ((Str × Dec) × Unit × (Str × Dec) × Unit × List Face × List Face × List Face × Unit)))
  | ((i, _), (p, _, z, _, o, l, zl, _)) =>
    if i < (l.length : Int) then
      if 0 ≤ i ∧ i < (l.length : Int) then
        match l[i.toNat]? with
        | some f => if Ev.lenOk (o ++ [plainFace f]) = true then some (.inl ((IntKind.i64.wrap (i + 1), ()), (p, (), z, (), o ++ [plainFace f], l, zl, ()))) else none
        | none => none
      else none
    else some (.inr ((), (p, (), z, (), o, l, zl, ())))
def plainM (x : PlainX) : Nat := (x.2.2.2.2.2.2.1.length : Int).toNat - x.1.1.toNat
def sEmpty : Str := ⟨#[]⟩
theorem plain_run (p : Str × Dec) (l : List Face) (h : l.length ≤ 1000) : runBy plainStep plainM ((0, ()), (p, (), (sEmpty, ⟨0, 0⟩), (), [], l, [], ())) = some ((), (p, (), (sEmpty, ⟨0, 0⟩), (), l.map plainFace, l, [], ())) := by
  obtain ⟨y, hy, hp⟩ := iter_total (step := plainStep) (fun x => ∃ i : Nat, i ≤ l.length ∧ x = ((((i : Nat) : Int), ()), (p, (), (sEmpty, ⟨0, 0⟩), (), (l.take i).map plainFace, l, [], ())))
    (fun y => y = ((), (p, (), (sEmpty, ⟨0, 0⟩), (), l.map plainFace, l, [], ()))) plainM (by
      rintro x ⟨i, hi, rfl⟩
      simp only [plainStep]
      by_cases hlt : i < l.length
      · have hge : l[((i : Nat) : Int).toNat]? = some (l[i]'hlt) := by simp [List.getElem?_eq_getElem hlt]
        have hw : IntKind.i64.wrap ((i : Int) + 1) = ((i + 1 : Nat) : Int) := by rw [wr (by omega)]; omega
        have ht : (l.take i).map plainFace ++ [plainFace (l[i]'hlt)] = (l.take (i + 1)).map plainFace := by
          rw [show l.take (i + 1) = l.take i ++ [l[i]'hlt] from by rw [List.take_add_one, List.getElem?_eq_getElem hlt]; rfl, List.map_append]; rfl
        rw [if_pos (by omega), if_pos (by omega), hge, hw]
        dsimp only
        rw [ht, if_pos (lenOk_iff.2 (by simp; omega))]
        exact .inr ⟨_, rfl, ⟨i + 1, by omega, rfl⟩, by simp only [plainM]; omega⟩
      · rw [if_neg (by omega), List.take_of_length_le (by omega)]
        exact .inl ⟨_, rfl, rfl⟩) ((0, ()), (p, (), (sEmpty, ⟨0, 0⟩), (), [], l, [], ())) ⟨0, Nat.zero_le _, rfl⟩
  rw [← hp]; exact hy

/-! Glasses -/
def sG : Str := ⟨#[103]⟩
def sX : Str := ⟨#[120]⟩
def sCrown : Str := ⟨#[99, 114, 111, 119, 110]⟩
def sFlint : Str := ⟨#[102, 108, 105, 110, 116]⟩
def crown : Glass := ⟨sCrown, decOf 103961 5, decOf 23179 5, decOf 101047 5, decOf 600 5, decOf 2002 5, decOf 1035607 4⟩
def flint : Glass := ⟨sFlint, decOf 173760 5, decOf 31375 5, decOf 189878 5, decOf 1319 5, decOf 6231 5, decOf 1552363 4⟩
def glassOf (i v : Int) : Glass :=
  ⟨sG ++ dig 6 i, decOf (pick v 200000) 5, decOf (pick (dv v 7) 50000) 5, ⟨0, 0⟩, decOf (pick (dv v 11) 3000) 5, decOf (pick (dv v 13) 9000) 5, decOf (pick (dv v 17) 200000 - 1000) 3⟩
def glassesStep : (Int × Unit) × (List Int × List Glass × Unit) → Option (((Int × Unit) × (List Int × List Glass × Unit)) ⊕ (Unit × (List Glass × Unit)))
  | ((i, _), (l, o, _)) =>
    if i < (l.length : Int) ∧ i < 3 then
      if 0 ≤ i then
        match l[i.toNat]? with
        | some v => if Ev.lenOk (o ++ [glassOf i v]) = true then some (.inl ((IntKind.i64.wrap (i + 1), ()), (l, o ++ [glassOf i v], ()))) else none
        | none => none
      else none
    else some (.inr ((), (o, ())))
def glassesM (x : (Int × Unit) × (List Int × List Glass × Unit)) : Nat := 3 - x.1.1.toNat
def glassesOf (l : List Int) : List Glass := match runBy glassesStep glassesM ((0, ()), (l, [crown, flint], ())) with | some y => y.2.1 | none => []
def glassesOk (g : List Glass) : Bool := namesOk g && decide (g.length ≤ 100)

/-! Faces -/
def glassName (g : List Glass) (k : Int) : Str := if k < (g.length : Int) then (g[k.toNat]?.getD Glass.nil).name else sAir
def radiusOf (r : Int) : Dec := if 0 < pick r 7 then (if pick (dv r 7) 2 = 0 then decOf (-150 - pick r 900) 1 else decOf (150 + pick r 900) 1) else ⟨0, 0⟩
def conicOf (k : Int) : Dec := if pick k 6 = 3 then decOf (pick (dv k 6) 30 - 15) 1 else ⟨0, 0⟩
def a4Of (k : Int) : Dec := if pick k 6 = 4 ∨ pick k 6 = 5 then decOf (pick (dv k 6) 400 - 200) 2 else ⟨0, 0⟩
def a6Of (k : Int) : Dec := if pick k 6 = 5 then decOf (pick (dv k 12) 400 - 200) 1 else ⟨0, 0⟩
def faceOf (f : RawFace) (i : Int) (g : List Glass) : Face :=
  if pick f.kind 6 = 5 ∧ 0 < i then ⟨true, ⟨0, 0⟩, decOf (30 + pick f.a 70) 1, decOf (pick f.t 80) 1, ⟨0, 0⟩, ⟨0, 0⟩, ⟨0, 0⟩, ⟨#[]⟩⟩
  else ⟨false, radiusOf f.r, decOf (30 + pick f.a 70) 1, decOf (pick f.t 80) 1, conicOf f.k, a4Of f.k, a6Of f.k, glassName g (pick f.g ((g.length : Int) + 2))⟩
abbrev LensX := (Int × Int × Unit) × ((Str × Dec) × Unit × (Str × Dec) × Unit × List RawFace × List Glass × List Face × List Face × Unit)
def lensStep : LensX → Option (LensX ⊕ (Unit × ((Str × Dec) × Unit × (Str × Dec) × Unit × List Face × List Face × Unit)))
  | ((most, i, _), (p, _, z, _, l, g, o, zl, _)) =>
    if i < (l.length : Int) ∧ (o.length : Int) < most then
      if 0 ≤ i ∧ i < (l.length : Int) then
        match l[i.toNat]? with
        | some f => if glassesOk g = true then (if Ev.lenOk (o ++ [faceOf f i g]) = true then some (.inl ((most, IntKind.i64.wrap (i + 1), ()), (p, (), z, (), l, g, o ++ [faceOf f i g], zl, ()))) else none) else none
        | none => none
      else none
    else some (.inr ((), (p, (), z, (), o, zl, ())))
def lensM (x : LensX) : Nat := x.1.1.toNat - x.2.2.2.2.2.2.2.1.length

theorem namesOk_get {g : List Glass} (h : namesOk g = true) (k : Nat) : wd (g[k]?.getD Glass.nil).name = true := by
  cases hk : g[k]? with
  | none => rfl
  | some x => exact List.all_eq_true.1 h _ (List.mem_of_getElem? hk)
theorem faceOf_wd {g : List Glass} (h : namesOk g = true) (f : RawFace) (i : Int) : wd (faceOf f i g).glass = true := by
  unfold faceOf
  split
  · rfl
  · dsimp only
    unfold glassName
    split
    · exact namesOk_get h _
    · rfl
theorem facesOk_snoc {l : List Face} {f : Face} (h : facesOk l = true) (hf : wd f.glass = true) : facesOk (l ++ [f]) = true := by
  simp only [facesOk, List.all_append, List.all_cons, List.all_nil, Bool.and_true] at *
  rw [h, hf]; rfl
theorem lens_total (most : Int) (p z : Str × Dec) (l : List RawFace) (g : List Glass) (zl : List Face) (hm : 0 ≤ most ∧ most ≤ 100) (hg : glassesOk g = true) :
    ∃ y, runBy lensStep lensM ((most, 0, ()), (p, (), z, (), l, g, [], zl, ())) = some y ∧ (y.2.1 = p ∧ facesOk y.2.2.2.2.2.1 = true ∧ y.2.2.2.2.2.1.length ≤ 100) := by
  have hg' := hg
  simp only [glassesOk, Bool.and_eq_true] at hg'
  refine iter_total (step := lensStep) (fun x => x.1.1 = most ∧ x.2.1 = p ∧ x.2.2.2.2.2.2.1 = g ∧ x.2.2.2.2.2.1 = l ∧ (x.2.2.2.2.2.2.2.1.length : Int) = x.1.2.1 ∧ facesOk x.2.2.2.2.2.2.2.1 = true ∧ x.1.2.1 ≤ 100) _ lensM ?_
    ((most, 0, ()), (p, (), z, (), l, g, [], zl, ())) ⟨rfl, rfl, rfl, rfl, rfl, rfl, by dsimp only; omega⟩
  rintro ⟨⟨m, i, _⟩, ⟨p', _, z, _, l', g', o, zl, _⟩⟩ ⟨h0, h1, h2, h3, h4, h5, h6⟩
  dsimp only at h0 h1 h2 h3 h4 h5 h6
  subst h0; subst h1; subst h2; subst h3
  simp only [lensStep]
  by_cases hi : i < (l'.length : Int) ∧ (o.length : Int) < m
  · have hge : l'[i.toNat]? = some (l'[i.toNat]'(by omega)) := List.getElem?_eq_getElem (by omega)
    have hw : IntKind.i64.wrap (i + 1) = i + 1 := wr (by omega)
    rw [if_pos hi, if_pos (by omega), hge, hw]
    dsimp only
    rw [if_pos hg, if_pos (lenOk_iff.2 (by simp; omega))]
    exact .inr ⟨_, rfl, ⟨rfl, rfl, rfl, rfl, by simp; omega, facesOk_snoc h5 (faceOf_wd hg'.1 _ _), by dsimp only; omega⟩, by simp only [lensM, List.length_append, List.length_cons, List.length_nil]; omega⟩
  · rw [if_neg hi]; exact .inl ⟨_, rfl, rfl, h5, by dsimp only; omega⟩
def crownFace : Face := ⟨false, decOf 40 0, decOf 8 0, decOf 3 0, ⟨0, 0⟩, ⟨0, 0⟩, ⟨0, 0⟩, sCrown⟩
def lensHead (back : Int) : Str × Dec := (sX ++ dig 6 (pick back 100), decOf (200 + pick back 600) 1)
def lensRaw (back : Int) (l : List RawFace) (g : List Glass) (most : Int) : List Face :=
  match runBy lensStep lensM ((most, 0, ()), (lensHead back, (), (sEmpty, ⟨0, 0⟩), (), l, g, [], [], ())) with | some y => y.2.2.2.2.2.1 | none => []
def lensOf (back : Int) (l : List RawFace) (g : List Glass) (most : Int) : LensV :=
  if (lensRaw back l g most).length = 0 then (lensHead back, lensRaw back l g most ++ [crownFace])
  else if someFace (lensRaw back l g most) = true then (lensHead back, lensRaw back l g most)
  else (lensHead back, lensRaw back l g most ++ [crownFace])
def lensPre (most : Int) (g : List Glass) : Bool := decide (0 ≤ most ∧ most ≤ 100) && glassesOk g
theorem lensRaw_ok {back most : Int} {l : List RawFace} {g : List Glass} (h : lensPre most g = true) : facesOk (lensRaw back l g most) = true ∧ (lensRaw back l g most).length ≤ 100 := by
  simp only [lensPre, Bool.and_eq_true, decide_eq_true_eq] at h
  obtain ⟨y, hy, _, h1, h2⟩ := lens_total most (lensHead back) (sEmpty, ⟨0, 0⟩) l g [] h.1 h.2
  simp only [lensRaw, hy]; exact ⟨h1, h2⟩
theorem lensHead_wd (back : Int) : wd (lensHead back).1 = true := by
  have := dig_size 6 (pick back 100)
  simp only [wd, lensHead, decide_eq_true_eq, ByteArray.size_append, show sX.size = 1 from rfl]
  omega
theorem lensOf_ok {back most : Int} {l : List RawFace} {g : List Glass} (h : lensPre most g = true) : wd (lensOf back l g most).1.1 = true ∧ facesOk (lensOf back l g most).2 = true ∧ (lensOf back l g most).2.length ≤ 101 := by
  obtain ⟨h1, h2⟩ := lensRaw_ok (back := back) (l := l) h
  have h3 := facesOk_snoc (f := crownFace) h1 rfl
  have h4 : (lensRaw back l g most ++ [crownFace]).length ≤ 101 := by simp; omega
  unfold lensOf
  split
  · exact ⟨lensHead_wd back, h3, h4⟩
  · split
    · exact ⟨lensHead_wd back, h1, by dsimp only; omega⟩
    · exact ⟨lensHead_wd back, h3, h4⟩
theorem glassOf_wd {i v : Int} : wd (glassOf i v).name = true := by
  have := dig_size 6 i
  simp only [wd, glassOf, decide_eq_true_eq, ByteArray.size_append, show sG.size = 1 from rfl]
  omega
theorem glasses_total (l : List Int) : ∃ y, runBy glassesStep glassesM ((0, ()), (l, [crown, flint], ())) = some y ∧ glassesOk y.2.1 = true := by
  refine iter_total (step := glassesStep) (fun x => x.2.1 = l ∧ 0 ≤ x.1.1 ∧ x.1.1 ≤ 3 ∧ namesOk x.2.2.1 = true ∧ (x.2.2.1.length : Int) = x.1.1 + 2) _ glassesM ?_ ((0, ()), (l, [crown, flint], ())) ⟨rfl, by dsimp only; omega, by dsimp only; omega, rfl, rfl⟩
  rintro ⟨⟨i, _⟩, ⟨l', o, _⟩⟩ ⟨h0, h1, h2, h3, h4⟩
  dsimp only at h0 h1 h2 h3 h4
  subst h0
  simp only [glassesStep]
  by_cases hi : i < (l'.length : Int) ∧ i < 3
  · have hge : l'[i.toNat]? = some (l'[i.toNat]'(by omega)) := List.getElem?_eq_getElem (by omega)
    have hw : IntKind.i64.wrap (i + 1) = i + 1 := wr (by omega)
    rw [if_pos hi, if_pos h1, hge, hw]
    dsimp only
    rw [if_pos (lenOk_iff.2 (by simp; omega))]
    refine .inr ⟨_, rfl, ⟨rfl, by dsimp only; omega, by dsimp only; omega, ?_, by simp; omega⟩, by simp only [glassesM]; omega⟩
    simp only [namesOk, List.all_append, List.all_cons, List.all_nil, Bool.and_true] at *
    rw [h3, glassOf_wd]; rfl
  · rw [if_neg hi]
    refine .inl ⟨_, rfl, ?_⟩
    simp only [glassesOk, h3, Bool.true_and, decide_eq_true_eq]; omega
theorem glassesOf_ok (l : List Int) : glassesOk (glassesOf l) = true := by
  obtain ⟨y, hy, h⟩ := glasses_total l
  simp only [glassesOf, hy]; exact h

/-! Systems -/
def plainLens (x : LensV) : LensV := (x.1, x.2.map plainFace)
def systemOf (back : Int) (l : List RawFace) (raw : List Int) (most : Int) (plain : Bool) : SysV :=
  (build (if plain = true then plainLens (lensOf back l (glassesOf raw) most) else lensOf back l (glassesOf raw) most) (glassesOf raw) (lineAt (pick back 3))).1
def mostOk (most : Int) : Bool := decide (0 ≤ most ∧ most ≤ 100)
theorem glassesOk_len {g : List Glass} (h : glassesOk g = true) : Ev.lenOk g = true := by
  simp only [glassesOk, Bool.and_eq_true, decide_eq_true_eq] at h
  exact lenOk_iff.2 (by omega)
theorem plainLens_ok {x : LensV} (h : wd x.1.1 = true ∧ facesOk x.2 = true ∧ x.2.length ≤ 101) : wd (plainLens x).1.1 = true ∧ facesOk (plainLens x).2 = true ∧ (plainLens x).2.length ≤ 101 := by
  refine ⟨h.1, ?_, by simp [plainLens]; exact h.2.2⟩
  simp only [plainLens, facesOk, List.all_map]
  exact h.2.1
theorem lensOk_of {x : LensV} {g : List Glass} (h : wd x.1.1 = true ∧ facesOk x.2 = true ∧ x.2.length ≤ 101) (hg : glassesOk g = true) : lensOk x g = true := by
  simp only [lensOk, h.1, h.2.1, glassesOk_len hg, Bool.true_and, Bool.and_true]
  exact lenOk_iff.2 (by omega)
theorem build_len {x : LensV} {g : List Glass} {wave : Iv} (h : wd x.1.1 = true ∧ facesOk x.2 = true ∧ x.2.length ≤ 101) (hg : glassesOk g = true) : (build x g wave).1.2.length ≤ 1000 := by
  unfold build
  split
  · split
    · exact buildRun_len (glassesOk_len hg) (by omega)
    · simp
  · simp
theorem systemOf_len {back most : Int} {l : List RawFace} {raw : List Int} {plain : Bool} (h : mostOk most = true) : (systemOf back l raw most plain).2.length ≤ 1000 := by
  have hg := glassesOf_ok raw
  have hl := lensOf_ok (back := back) (l := l) (most := most) (g := glassesOf raw) (by simp only [lensPre, hg, Bool.and_true]; exact h)
  unfold systemOf
  split
  · exact build_len (plainLens_ok hl) hg
  · exact build_len hl hg
end Go.Proofs.YtlbmjajjldfigaaGreat
