/-
  Lenses of raw faces, and the systems that are built of them: what the document's chapters 12 and 13 come to; in plain Lean.
-/
import Derived.Test.YtlbmjajjldfigaaGreatCore5
namespace Go.Proofs.YtlbmjajjldfigaaGreat
open Go

def wd (s : Str) : Bool := decide (s.size ≤ 1000)
abbrev LensV := (Str × Dec) × List Face
def Face.nil : Face := ⟨false, ⟨0, 0⟩, ⟨0, 0⟩, ⟨0, 0⟩, ⟨0, 0⟩, ⟨0, 0⟩, ⟨0, 0⟩, ⟨#[]⟩⟩
def facesOk (l : List Face) : Bool := l.all fun f => wd f.glass
def namesOk (g : List Glass) : Bool := g.all fun x => wd x.name

theorem printable_right {d : Dec} (h : printable d = true) : rightDec d = true := by
  cases hr : rightDec d
  · simp [printable, printDec, hr, Ev.strEq] at h
  · rfl

/-! A face that is right -/
def rightFace (f : Face) (g : List Glass) : Bool :=
  if printable f.aperture = true ∧ 0 < f.aperture.c ∧ printable f.thick = true ∧ 0 ≤ f.thick.c then
    if f.stop = true then decZero f.radius && (decZero f.conic && (decZero f.a4 && (decZero f.a6 && Ev.strEq f.glass ⟨#[]⟩)))
    else printable f.radius && (printable f.conic && (printable f.a4 && (printable f.a6 && (isWord f.glass && (((findGlass g f.glass).2 || Ev.strEq f.glass sAir) && (f.radius.c == 0 || !decLess (decSize f.radius) f.aperture))))))
  else false

/-! Is one no stop? -/
def someStep : (Int × Unit) × (List Face × Unit) → Option (((Int × Unit) × (List Face × Unit)) ⊕ ((Unit × Unit) ⊕ ((Bool × Unit) × Unit)))
  | ((i, _), (l, _)) =>
    if i < (l.length : Int) then
      if 0 ≤ i ∧ i < (l.length : Int) then
        match l[i.toNat]? with
        | some f => if f.stop = true then some (.inl ((IntKind.i64.wrap (i + 1), ()), (l, ()))) else some (.inr (.inr ((true, ()), ())))
        | none => none
      else none
    else some (.inr (.inl ((), ())))
def someM (x : (Int × Unit) × (List Face × Unit)) : Nat := (x.2.1.length : Int).toNat - x.1.1.toNat
theorem some_total (l : List Face) (h : l.length ≤ 1048576) : ∃ y, runBy someStep someM ((0, ()), (l, ())) = some y ∧ True := by
  refine iter_total (step := someStep) (fun x => x.2.1.length ≤ 1048576 ∧ 0 ≤ x.1.1 ∧ x.1.1 ≤ (x.2.1.length : Int)) _ someM ?_ ((0, ()), (l, ())) ⟨h, by simp, by simp⟩
  rintro ⟨⟨i, _⟩, ⟨l, _⟩⟩ ⟨h1, h2, h3⟩
  dsimp only at h1 h2 h3
  simp only [someStep]
  by_cases hi : i < (l.length : Int)
  · have hg : l[i.toNat]? = some (l[i.toNat]'(by omega)) := List.getElem?_eq_getElem (by omega)
    have hw : IntKind.i64.wrap (i + 1) = i + 1 := wr (by omega)
    rw [if_pos hi, if_pos ⟨h2, hi⟩, hg, hw]
    dsimp only
    split
    · exact .inr ⟨_, rfl, ⟨h1, by dsimp only; omega, by dsimp only; omega⟩, by simp only [someM]; omega⟩
    · exact .inl ⟨_, rfl, trivial⟩
  · rw [if_neg hi]; exact .inl ⟨_, rfl, trivial⟩
def someFace (l : List Face) : Bool := match runBy someStep someM ((0, ()), (l, ())) with | some (.inr y) => y.1.1 | _ => false

/-! A lens that is right -/
def rlStep : (Bool × Int × Unit) × ((Str × Dec) × Unit × List Glass × List Face × Unit) → Option (((Bool × Int × Unit) × ((Str × Dec) × Unit × List Glass × List Face × Unit)) ⊕ (((Bool × Unit) × Unit) ⊕ ((Bool × Unit) × Unit)))
  | ((b, i, _), (p, _, g, l, _)) =>
    if i < (l.length : Int) then
      if 0 ≤ i ∧ i < (l.length : Int) then
        match l[i.toNat]? with
        | some f =>
          if (Ev.lenOk g && wd f.glass) = true then
            if rightFace f g = true then some (.inl (((b || !f.stop), IntKind.i64.wrap (i + 1), ()), (p, (), g, l, ()))) else some (.inr (.inr ((false, ()), ())))
          else none
        | none => none
      else none
    else some (.inr (.inl ((b, ()), ())))
def rlM (x : (Bool × Int × Unit) × ((Str × Dec) × Unit × List Glass × List Face × Unit)) : Nat := (x.2.2.2.2.1.length : Int).toNat - x.1.2.1.toNat
theorem rl_total (p : Str × Dec) (g : List Glass) (l : List Face) (hg : Ev.lenOk g = true) (hl : facesOk l = true) (h : l.length ≤ 1048576) :
    ∃ y, runBy rlStep rlM ((false, 0, ()), (p, (), g, l, ())) = some y ∧ (match y with | .inl y => y.1.1 = true → l ≠ [] | .inr y => y.1.1 = false) := by
  refine iter_total (step := rlStep) (fun x => x.2.2.2.2.1 = l ∧ x.2.2.2.1 = g ∧ 0 ≤ x.1.2.1 ∧ x.1.2.1 ≤ (l.length : Int) ∧ (x.1.1 = true → l ≠ [])) _ rlM ?_ ((false, 0, ()), (p, (), g, l, ())) ⟨rfl, rfl, by simp, by simp, by simp⟩
  rintro ⟨⟨b, i, _⟩, ⟨p, _, g', l', _⟩⟩ ⟨h0, h1, h2, h3, h4⟩
  dsimp only at h0 h1 h2 h3 h4
  subst h0; subst h1
  simp only [rlStep]
  by_cases hi : i < (l'.length : Int)
  · have hge : l'[i.toNat]? = some (l'[i.toNat]'(by omega)) := List.getElem?_eq_getElem (by omega)
    have hw : IntKind.i64.wrap (i + 1) = i + 1 := wr (by omega)
    have hf : wd (l'[i.toNat]'(by omega)).glass = true := by
      have := List.all_eq_true.1 hl _ (List.getElem_mem (l := l') (n := i.toNat) (by omega))
      exact this
    rw [if_pos hi, if_pos ⟨h2, hi⟩, hge, hw]
    dsimp only
    rw [if_pos (by rw [hg, hf]; rfl)]
    split
    · exact .inr ⟨_, rfl, ⟨rfl, rfl, by dsimp only; omega, by dsimp only; omega, fun _ => by intro e; rw [e] at hi; simp at hi; omega⟩, by simp only [rlM]; omega⟩
    · exact .inl ⟨_, rfl, rfl⟩
  · rw [if_neg hi]; exact .inl ⟨_, rfl, h4⟩
def rightLens (x : LensV) (g : List Glass) : Bool :=
  if isWord x.1.1 = true ∧ printable x.1.2 = true ∧ 0 < x.1.2.c ∧ (x.2.length : Int) ≤ 12 then
    match runBy rlStep rlM ((false, 0, ()), (x.1, (), g, x.2, ())) with
    | some (.inl y) => y.1.1
    | some (.inr y) => y.1.1
    | none => false
  else false
def lensOk (x : LensV) (g : List Glass) : Bool := wd x.1.1 && (facesOk x.2 && (Ev.lenOk x.2 && Ev.lenOk g))
theorem rightLens_some {x : LensV} {g : List Glass} (h : lensOk x g = true) (hr : rightLens x g = true) : x.2 ≠ [] ∧ x.2.length ≤ 12 := by
  simp only [lensOk, Bool.and_eq_true] at h
  obtain ⟨_, h2, h3, h4⟩ := h
  obtain ⟨y, hy, hp⟩ := rl_total x.1 g x.2 h4 h2 (lenOk_iff.1 h3)
  simp only [rightLens, hy] at hr
  split at hr
  · rename_i hh
    rcases y with y | y
    · exact ⟨hp hr, by omega⟩
    · have hr : y.1.1 = true := hr
      have hp : y.1.1 = false := hp
      rw [hp] at hr; cases hr
  · cases hr

/-! A system whose numbers are -/
def surfRight (s : Surf) : Bool := s.curve.right && (s.conic.right && (s.a4.right && (s.a6.right && (s.at_.right && (s.open2.right && s.ratio.right)))))
def rsStep : (Int × Unit) × (Iv × List Surf × Unit) → Option (((Int × Unit) × (Iv × List Surf × Unit)) ⊕ ((Unit × (Iv × List Surf × Unit)) ⊕ ((Bool × Unit) × Unit)))
  | ((i, _), (o, l, _)) =>
    if i < (l.length : Int) then
      if 0 ≤ i ∧ i < (l.length : Int) then
        match l[i.toNat]? with
        | some s => if surfRight s = true then some (.inl ((IntKind.i64.wrap (i + 1), ()), (o, l, ()))) else some (.inr (.inr ((false, ()), ())))
        | none => none
      else none
    else some (.inr (.inl ((), (o, l, ()))))
def rsM (x : (Int × Unit) × (Iv × List Surf × Unit)) : Nat := (x.2.2.1.length : Int).toNat - x.1.1.toNat
theorem rs_total (o : Iv) (l : List Surf) (h : l.length ≤ 1048576) : ∃ y, runBy rsStep rsM ((0, ()), (o, l, ())) = some y ∧ True := by
  refine iter_total (step := rsStep) (fun x => x.2.2.1.length ≤ 1048576 ∧ 0 ≤ x.1.1 ∧ x.1.1 ≤ (x.2.2.1.length : Int)) _ rsM ?_ ((0, ()), (o, l, ())) ⟨h, by simp, by simp⟩
  rintro ⟨⟨i, _⟩, ⟨o, l, _⟩⟩ ⟨h1, h2, h3⟩
  dsimp only at h1 h2 h3
  simp only [rsStep]
  by_cases hi : i < (l.length : Int)
  · have hg : l[i.toNat]? = some (l[i.toNat]'(by omega)) := List.getElem?_eq_getElem (by omega)
    have hw : IntKind.i64.wrap (i + 1) = i + 1 := wr (by omega)
    rw [if_pos hi, if_pos ⟨h2, hi⟩, hg, hw]
    dsimp only
    split
    · exact .inr ⟨_, rfl, ⟨h1, by dsimp only; omega, by dsimp only; omega⟩, by simp only [rsM]; omega⟩
    · exact .inl ⟨_, rfl, trivial⟩
  · rw [if_neg hi]; exact .inl ⟨_, rfl, trivial⟩
def rightSystem (o : Iv) (l : List Surf) : Bool := match runBy rsStep rsM ((0, ()), (o, l, ())) with | some (.inl y) => y.2.1.right | some (.inr y) => y.1.1 | none => false

/-! Built of a lens -/
def buildSurf (one at_ index wave : Iv) (g : List Glass) (f : Face) : Surf × Iv :=
  if f.stop = true then (⟨true, !decZero f.a4 || !decZero f.a6, if f.radius.c = 0 then Iv.point 0 else one.div (decIv f.radius), one.add (decIv f.conic), decIv f.a4, decIv f.a6, at_, (decIv f.aperture).sqr, one⟩, index)
  else (fun b : Iv => ((⟨false, !decZero f.a4 || !decZero f.a6, if f.radius.c = 0 then Iv.point 0 else one.div (decIv f.radius), one.add (decIv f.conic), decIv f.a4, decIv f.a6, at_, (decIv f.aperture).sqr, index.div b⟩ : Surf), b))
    (if Ev.strEq f.glass sAir = true then one else Go.Proofs.YtlbmjajjldfigaaGreat.index (findGlass g f.glass).1 wave)
abbrev BuildX := (Int × Unit) × ((Str × Dec) × Unit × Iv × Iv × Iv × Iv × Iv × Iv × List Glass × List Face × List Surf × List Surf × Unit)
abbrev BuildY := Unit × (Iv × Iv × List Surf × List Surf × Unit)
def buildStep : BuildX → Option (BuildX ⊕ BuildY)
  | ((i, _), (p, _, wave, one, op, at_, ix, op2, g, l, s, s2, _)) =>
    if i < (l.length : Int) then
      if 0 ≤ i ∧ i < (l.length : Int) then
        match l[i.toNat]? with
        | some f =>
          if Ev.lenOk g = true then
            if Ev.lenOk (s ++ [(buildSurf one at_ ix wave g f).1]) = true then
              some (.inl ((IntKind.i64.wrap (i + 1), ()), (p, (), wave, one, op, at_.add (decIv f.thick), (buildSurf one at_ ix wave g f).2, op2, g, l, s ++ [(buildSurf one at_ ix wave g f).1], s2, ())))
            else none
          else none
        | none => none
      else none
    else some (.inr ((), (op, op2, s, s2, ())))
def buildM (x : BuildX) : Nat := (x.2.2.2.2.2.2.2.2.2.2.1.length : Int).toNat - x.1.1.toNat
theorem build_total (p : Str × Dec) (wave one op at_ ix op2 : Iv) (g : List Glass) (l : List Face) (s2 : List Surf) (hg : Ev.lenOk g = true) (h : l.length ≤ 1000) :
    ∃ y, runBy buildStep buildM ((0, ()), (p, (), wave, one, op, at_, ix, op2, g, l, [], s2, ())) = some y ∧ (y.2.2.2.1.length ≤ 1000 ∧ y.2.1 = op) := by
  refine iter_total (step := buildStep) (fun x => x.2.2.2.2.2.2.2.2.2.2.1 = l ∧ x.2.2.2.2.2.2.2.2.2.1 = g ∧ 0 ≤ x.1.1 ∧ x.1.1 ≤ (l.length : Int) ∧ (x.2.2.2.2.2.2.2.2.2.2.2.1.length : Int) = x.1.1 ∧ x.2.2.2.2.2.1 = op) _ buildM ?_
    ((0, ()), (p, (), wave, one, op, at_, ix, op2, g, l, [], s2, ())) ⟨rfl, rfl, by simp, by simp, by simp, rfl⟩
  rintro ⟨⟨i, _⟩, ⟨p, _, wave, one, op', at_, ix, op2, g', l', s, s2, _⟩⟩ ⟨h0, h1, h2, h3, h4, h5⟩
  dsimp only at h0 h1 h2 h3 h4 h5
  subst h0; subst h1; subst h5
  simp only [buildStep]
  by_cases hi : i < (l'.length : Int)
  · have hge : l'[i.toNat]? = some (l'[i.toNat]'(by omega)) := List.getElem?_eq_getElem (by omega)
    have hw : IntKind.i64.wrap (i + 1) = i + 1 := wr (by omega)
    rw [if_pos hi, if_pos ⟨h2, hi⟩, hge, hw]
    dsimp only
    rw [if_pos hg, if_pos (lenOk_iff.2 (by simp; omega))]
    exact .inr ⟨_, rfl, ⟨rfl, rfl, by dsimp only; omega, by dsimp only; omega, by simp; omega, rfl⟩, by simp only [buildM]; omega⟩
  · rw [if_neg hi]; exact .inl ⟨_, rfl, by dsimp only; omega, rfl⟩
abbrev SysV := Iv × List Surf
def buildRun (x : LensV) (g : List Glass) (wave : Iv) : SysV :=
  match runBy buildStep buildM ((0, ()), (x.1, (), wave, Iv.point 65536, decIv (x.2[0]?.getD Face.nil).aperture, decIv x.1.2, Iv.point 65536, ⟨0, 0, false⟩, g, x.2, [], [], ())) with
  | some y => (y.2.1, y.2.2.2.1)
  | none => (⟨0, 0, false⟩, [])
def build (x : LensV) (g : List Glass) (wave : Iv) : SysV × Int :=
  if rightLens x g = true then
    if rightSystem (buildRun x g wave).1 (buildRun x g wave).2 = true then (buildRun x g wave, 0) else ((⟨0, 0, false⟩, []), 6)
  else ((⟨0, 0, false⟩, []), 1)
theorem buildRun_len {x : LensV} {g : List Glass} {wave : Iv} (hg : Ev.lenOk g = true) (h : x.2.length ≤ 1000) : (buildRun x g wave).2.length ≤ 1000 := by
  obtain ⟨y, hy, h1, _⟩ := build_total x.1 wave (Iv.point 65536) (decIv (x.2[0]?.getD Face.nil).aperture) (decIv x.1.2) (Iv.point 65536) ⟨0, 0, false⟩ g x.2 [] hg h
  simp only [buildRun, hy]; exact h1
end Go.Proofs.YtlbmjajjldfigaaGreat
