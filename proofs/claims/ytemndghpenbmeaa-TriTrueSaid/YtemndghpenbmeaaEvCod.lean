/-
  How numbers, truths, intervals, places, rays and faces lie in values.
-/
import Derived.Test.YtemndghpenbmeaaEvFour
import Derived.Test.YtemndghpenbmeaaClean
namespace Go.Proofs.Ytemndghpenbmeaa.Ev
open Go Go.RowKit

/-- Data in a run of cells. -/
structure CC (α : Type) where
  enc : α → List Value
  dec : List CV → Option (α × List CV)
  ok : ∀ {l x r}, dec l = some (x, r) → ∃ p, l = p ++ r ∧ ∀ N, CV.vals N p = some (enc x)

def ccInt : CC Int where
  enc n := [.int .i64 n]
  dec l := match l with
    | .k n :: r => some (n, r)
    | .v (.int .i64 n) :: r => some (n, r)
    | _ => none
  ok := by
    intro l x r h
    split at h
    · simp at h; obtain ⟨rfl, rfl⟩ := h; exact ⟨[_], rfl, fun N => rfl⟩
    · simp at h; obtain ⟨rfl, rfl⟩ := h; exact ⟨[_], rfl, fun N => rfl⟩
    · cases h

def ccBool : CC Bool where
  enc n := [.bool n]
  dec l := match l with
    | .b n :: r => some (n, r)
    | .v (.bool n) :: r => some (n, r)
    | _ => none
  ok := by
    intro l x r h
    split at h
    · simp at h; obtain ⟨rfl, rfl⟩ := h; exact ⟨[_], rfl, fun N => rfl⟩
    · simp at h; obtain ⟨rfl, rfl⟩ := h; exact ⟨[_], rfl, fun N => rfl⟩
    · cases h

def CC.seq {α β γ : Type} (c : CC α) (d : CC β) (f : α → β → γ) (p : γ → α) (q : γ → β) (hp : ∀ x y, p (f x y) = x) (hq : ∀ x y, q (f x y) = y) : CC γ where
  enc z := c.enc (p z) ++ d.enc (q z)
  dec l := match c.dec l with
    | some (x, l') => match d.dec l' with
      | some (y, r) => some (f x y, r)
      | none => none
    | none => none
  ok := by
    intro l z r h
    split at h
    · rename_i x l' hx
      split at h
      · rename_i y r' hy
        simp at h; obtain ⟨rfl, rfl⟩ := h
        obtain ⟨p1, rfl, h1⟩ := c.ok hx
        obtain ⟨p2, rfl, h2⟩ := d.ok hy
        exact ⟨p1 ++ p2, by rw [List.append_assoc], fun N => by rw [hp, hq]; exact cvs_append (h1 N) (h2 N)⟩
      · cases h
    · cases h

def ccTwo {α β : Type} (c : CC α) (d : CC β) : CC (α × β) := c.seq d (fun a b => (a, b)) Prod.fst Prod.snd (fun _ _ => rfl) (fun _ _ => rfl)
def ccIv : CC Iv := ccInt.seq (ccTwo ccInt ccBool) (fun a b => ⟨a, b.1, b.2⟩) Iv.lo (fun z => (z.hi, z.no)) (fun _ _ => rfl) (fun _ _ => rfl)
def ccV : CC V := ccIv.seq (ccTwo ccIv ccIv) (fun a b => ⟨a, b.1, b.2⟩) V.x (fun z => (z.y, z.z)) (fun _ _ => rfl) (fun _ _ => rfl)
def ccRay : CC Ray := ccV.seq ccV Ray.mk Ray.o Ray.d (fun _ _ => rfl) (fun _ _ => rfl)
def ccSurf : CC Surf := (ccTwo ccBool ccBool).seq (ccTwo ccIv (ccTwo ccIv (ccTwo ccIv (ccTwo ccIv (ccTwo ccIv (ccTwo ccIv ccIv)))))) (fun a b => ⟨a.1, a.2, b.1, b.2.1, b.2.2.1, b.2.2.2.1, b.2.2.2.2.1, b.2.2.2.2.2.1, b.2.2.2.2.2.2⟩)
  (fun s => (s.stop, s.bent)) (fun s => (s.curve, s.conic, s.a4, s.a6, s.at_, s.open2, s.ratio)) (fun _ _ => rfl) (fun _ _ => rfl)

/-- A struct. -/
def CC.agg {α : Type} (c : CC α) : Cod α where
  enc x := .agg (c.enc x).toArray
  dec a := match a with
    | .agg cs => match c.dec cs with
      | some (x, []) => some x
      | _ => none
    | _ => none
  ok := by
    intro a x h N
    split at h
    · rename_i cs
      split at h
      · rename_i y hy
        simp at h; subst h
        obtain ⟨p, rfl, hp⟩ := c.ok hy
        simp [AV.val, hp N]
      · cases h
    · cases h

def cInt : Cod Int where
  enc n := .int .i64 n
  dec a := match a with
    | .c (.k n) => some n
    | .c (.v (.int .i64 n)) => some n
    | _ => none
  ok := by
    intro a x h N
    split at h <;> simp at h <;> subst h <;> rfl
def cBool : Cod Bool where
  enc n := .bool n
  dec a := match a with
    | .c (.b n) => some n
    | .c (.v (.bool n)) => some n
    | _ => none
  ok := by
    intro a x h N
    split at h <;> simp at h <;> subst h <;> rfl
def cIv : Cod Iv := ccIv.agg
def cV : Cod V := ccV.agg
def cRay : Cod Ray := ccRay.agg
def cSurf : Cod Surf := ccSurf.agg

/-- Two results; three. -/
def cTwo {α β : Type} (c : Cod α) (d : Cod β) : Cod (α × β) where
  enc x := .tuple #[c.enc x.1, d.enc x.2]
  dec a := match a with
    | .tup2 x y => match c.dec x with
      | some x => match d.dec y with
        | some y => some (x, y)
        | none => none
      | none => none
    | _ => none
  ok := by
    intro a x h N
    split at h
    · split at h
      · rename_i u hu
        split at h
        · rename_i v hv
          simp at h; subst h
          simp [AV.val, c.ok hu N, d.ok hv N]
        · cases h
      · cases h
    · cases h
def cThree {α β γ : Type} (c : Cod α) (d : Cod β) (e : Cod γ) : Cod (α × β × γ) where
  enc x := .tuple #[c.enc x.1, d.enc x.2.1, e.enc x.2.2]
  dec a := match a with
    | .tup3 x y z => match c.dec x with
      | some x => match d.dec y with
        | some y => match e.dec z with
          | some z => some (x, y, z)
          | none => none
        | none => none
      | none => none
    | _ => none
  ok := by
    intro a x h N
    split at h
    · split at h
      · rename_i u hu
        split at h
        · rename_i v hv
          split at h
          · rename_i t ht
            simp at h; subst h
            simp [AV.val, c.ok hu N, d.ok hv N, e.ok ht N]
          · cases h
        · cases h
      · cases h
    · cases h

/-- An argument as the evaluator takes it. -/
def Cod.av {α : Type} (c : Cod α) (x : α) : AV := AV.ofVal1 (c.enc x)
theorem Cod.av_val {α : Type} (c : Cod α) (x : α) (N : List Nm) : (c.av x).val N = some (c.enc x) := ofVal1_val N _
end Go.Proofs.Ytemndghpenbmeaa.Ev
