/-
  How numbers, truths, intervals, places, rays and faces lie in values.
-/
import Derived.Test.YtlbmjajjldfigaaGreatEvFour
import Derived.Test.YtlbmjajjldfigaaGreatClean
namespace Go.Proofs.YtlbmjajjldfigaaGreat.Ev
open Go Go.RowKit

/-- A struct. -/
def CC.agg {α : Type} (c : CC α) {n : Nat} (hc : c.Ok n) : Cod α where
  enc x := .agg (c.enc x).toArray
  dec a := match a with
    | .agg cs => match c.dec cs with
      | some (x, []) => some x
      | _ => none
    | _ => none
  ok := by
    intro a x h N
    split at h
    · rename_i cs
      split at h
      · rename_i y hy
        simp at h; subst h
        obtain ⟨p, rfl, hp⟩ := hc.2 _ _ _ hy
        simp [AV.val, hp N]
      · cases h
    · cases h

def cInt : Cod Int where
  enc n := .int .i64 n
  dec a := match a with
    | .c (.k n) => some n
    | .c (.v (.int .i64 n)) => some n
    | _ => none
  ok := by
    intro a x h N
    split at h <;> simp at h <;> subst h <;> rfl
def cByte : Cod Int where
  enc n := .int .u8 n
  dec a := match a with
    | .c (.v (.int .u8 n)) => some n
    | _ => none
  ok := by
    intro a x h N
    split at h <;> simp at h <;> subst h <;> rfl
def cBool : Cod Bool where
  enc n := .bool n
  dec a := match a with
    | .c (.b n) => some n
    | .c (.v (.bool n)) => some n
    | _ => none
  ok := by
    intro a x h N
    split at h <;> simp at h <;> subst h <;> rfl
def cIv : Cod Iv := ccIv.agg ccIv_ok
def cV : Cod V := ccV.agg ccV_ok
def cRay : Cod Ray := ccRay.agg ccRay_ok
def cSurf : Cod Surf := ccSurf.agg ccSurf_ok
def cDec : Cod Dec := ccDec.agg ccDec_ok
def cFace : Cod Face := ccFace.agg ccFace_ok
def cGlass : Cod Glass := ccGlass.agg ccGlass_ok
def cRawFace : Cod RawFace := ccRawFace.agg ccRawFace_ok
def cRawRay : Cod RawRay := ccRawRay.agg ccRawRay_ok
def cPair : Cod Pair := ccPair.agg ccPair_ok
def cQuad : Cod Quad := ccQuad.agg ccQuad_ok
def cStr : Cod ByteArray where
  enc n := .string n
  dec a := match a with
    | .c (.v (.string n)) => some n
    | _ => none
  ok := by
    intro a x h N
    split at h <;> simp at h <;> subst h <;> rfl

/-- One function. -/
def cFn (f : FuncId) : Cod Unit where
  enc _ := .func (.func f) #[] #[]
  dec a := match a with
    | .clo g [] => match Nat.beq f g with | true => some () | false => none
    | _ => none
  ok := by
    intro a x h N
    split at h
    · split at h
      · rename_i hb
        have := Nat.eq_of_beq_eq_true hb
        subst this; rfl
      · cases h
    · cases h

/-- No function. -/
def cNilFn : Cod Unit where
  enc _ := .nilFunc
  dec a := match a with
    | .c (.v .nilFunc) => some ()
    | _ => none
  ok := by
    intro a x h N
    split at h
    · rfl
    · cases h

/-- Two results; three. -/
def cTwo {α β : Type} (c : Cod α) (d : Cod β) : Cod (α × β) where
  enc x := .tuple #[c.enc x.1, d.enc x.2]
  dec a := match a with
    | .tup2 x y => match c.dec x with
      | some x => match d.dec y with
        | some y => some (x, y)
        | none => none
      | none => none
    | _ => none
  ok := by
    intro a x h N
    split at h
    · split at h
      · rename_i u hu
        split at h
        · rename_i v hv
          simp at h; subst h
          simp [AV.val, c.ok hu N, d.ok hv N]
        · cases h
      · cases h
    · cases h
def cThree {α β γ : Type} (c : Cod α) (d : Cod β) (e : Cod γ) : Cod (α × β × γ) where
  enc x := .tuple #[c.enc x.1, d.enc x.2.1, e.enc x.2.2]
  dec a := match a with
    | .tup3 x y z => match c.dec x with
      | some x => match d.dec y with
        | some y => match e.dec z with
          | some z => some (x, y, z)
          | none => none
        | none => none
      | none => none
    | _ => none
  ok := by
    intro a x h N
    split at h
    · split at h
      · rename_i u hu
        split at h
        · rename_i v hv
          split at h
          · rename_i t ht
            simp at h; subst h
            simp [AV.val, c.ok hu N, d.ok hv N, e.ok ht N]
          · cases h
        · cases h
      · cases h
    · cases h

/-- An argument as the evaluator takes it. -/
def Cod.av {α : Type} (c : Cod α) (x : α) : AV := AV.ofVal1 (c.enc x)
theorem Cod.av_val {α : Type} (c : Cod α) (x : α) (N : List Nm) : (c.av x).val N = some (c.enc x) := ofVal1_val N _
end Go.Proofs.YtlbmjajjldfigaaGreat.Ev
