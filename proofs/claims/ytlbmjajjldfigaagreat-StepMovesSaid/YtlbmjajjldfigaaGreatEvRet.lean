/-
  Contracts of calls whose results hold lists of their own.
-/
import Derived.Test.YtlbmjajjldfigaaGreatEvCall
namespace Go.Proofs.YtlbmjajjldfigaaGreat.Ev
open Go Go.RowKit
universe u

def glue : List AV → AV
  | [a] => a
  | [a, b] => .tup2 a b
  | [a, b, c] => .tup3 a b c
  | _ => .c (.v undef)
def glueV : List Value → Value
  | [a] => a
  | l => .tuple l.toArray
theorem parts_val {N : List Nm} {x : AV} {u : Value} (h : x.val N = some u) : ∃ vs, AV.vals N (parts x) = some vs ∧ glueV vs = u := by
  cases x with
  | c x => exact ⟨[u], by simp only [parts, AV.vals, h], rfl⟩
  | agg l => exact ⟨[u], by simp only [parts, AV.vals, h], rfl⟩
  | clo f l => exact ⟨[u], by simp only [parts, AV.vals, h], rfl⟩
  | tup2 a b =>
    simp only [AV.val] at h
    split at h
    · rename_i x hx
      split at h
      · rename_i y hy
        simp at h; subst h
        exact ⟨[x, y], by simp only [parts, AV.vals, hx, hy], rfl⟩
      · cases h
    · cases h
  | tup3 a b d =>
    simp only [AV.val] at h
    split at h
    · rename_i x hx
      split at h
      · rename_i y hy
        split at h
        · rename_i z hz
          simp at h; subst h
          exact ⟨[x, y, z], by simp only [parts, AV.vals, hx, hy, hz], rfl⟩
        · cases h
      · cases h
    · cases h
theorem parts_length (x : AV) : 0 < (parts x).length ∧ (parts x).length ≤ 3 := by cases x <;> simp [parts]
theorem glue_val {N : List Nm} : ∀ {l : List AV} {vs : List Value}, AV.vals N l = some vs → 0 < l.length → l.length ≤ 3 → (glue l).val N = some (glueV vs)
  | [], vs, h, h1, h2 => by simp at h1
  | [a], vs, h, h1, h2 => by
    simp only [AV.vals] at h
    split at h
    · rename_i x hx; simp at h; subst h; exact hx
    · cases h
  | [a, b], vs, h, h1, h2 => by
    simp only [AV.vals] at h
    cases ha : a.val N with
    | none => simp [ha] at h
    | some x =>
      cases hb : b.val N with
      | none => simp [ha, hb] at h
      | some y => simp [ha, hb] at h; subst h; simp only [glue, AV.val, ha, hb, glueV]
  | [a, b, c], vs, h, h1, h2 => by
    simp only [AV.vals] at h
    cases ha : a.val N with
    | none => simp [ha] at h
    | some x =>
      cases hb : b.val N with
      | none => simp [ha, hb] at h
      | some y =>
        cases hc : c.val N with
        | none => simp [ha, hb, hc] at h
        | some z => simp [ha, hb, hc] at h; subst h; simp only [glue, AV.val, ha, hb, hc, glueV]
  | _ :: _ :: _ :: _ :: _, vs, h, h1, h2 => by simp at h2

/-- A result that bears rows. -/
def resS {Y : Type} (cr : SC Y) (y : Y) : AV := glue ((cr.enc y).tmps.map Prod.snd)

theorem calls_of_treeR {P : Program} {E : Env} {LE : Laws} {N : List Nm} {w : World} (hE : EnvOK P E) {f : FuncId} {fn : Func} (hf : P.funcs[f]? = some fn) {args : List AV} {vs : List Value} (hv : AV.vals N args = some vs) (hlen : args.length ≤ fn.ntmps) (hL : LFn P LE fn)
    {M : List Row} (hM : RelM w.heap.size w N M w) {Y : Type} (cr : SC Y) (hts : cr.ts = List.range cr.ts.length) {n : Nat} {y : Y} (h : (evFnR P E LE n fn args M cr.ts cr.dec).den = some y) :
    Calls P f vs.toArray w fun e w' => ∃ N' v, (resS cr y).val N' = some v ∧ e = .returned v ∧ RelM w.heap.size w N' (cr.enc y).mem w' := by
  unfold evFnR at h
  split at h
  · rename_i c hc
    refine calls_of_wp hf hc ?_
    refine (ev_sound (B := w.heap.size) (w0 := w) hE n).1 c (hL c hc) (start_rel hv hlen hM) h ?_
    intro e N' s' a' w' hR h'
    unfold endR at h'
    split at h'
    · rename_i hok
      split at h'
      · rename_i x hx
        split at h'
        · rename_i hb
          have hb := Nat.eq_of_beq_eq_true hb
          split at h'
          · rename_i s1 hs1
            split at h'
            · rename_i y' hy'
              simp [Tr.den] at h'; subst h'
              obtain ⟨u, h1, h2⟩ := resV_sound hR hx
              obtain ⟨us, k1, k2⟩ := parts_val h1
              have hR1 := start_rel (n := (parts x).length) k1 (Nat.le_refl _) hR.m
              obtain ⟨N2, hR2⟩ := norm_sound hs1 hR1
              have hF := cr.ok hy'
              have hR3 := hF.rel hR2
              have hk : (cr.enc y').tmps.map Prod.fst = List.range' 0 (cr.enc y').tmps.length := by
                rw [← all2_keys hF.t, norm_keys hs1, hts, List.range_eq_range']
                have := congrArg List.length (all2_keys hF.t)
                rw [norm_keys hs1] at this
                simp at this
                simp [this]
              have hl : (cr.enc y').tmps.length = (parts x).length := by
                have := congrArg List.length (all2_keys hF.t)
                rw [norm_keys hs1] at this
                simp at this; omega
              obtain ⟨ws, g1, g2, g3⟩ := vals_of_look (cr.enc y').tmps 0 hk hR3.t.look
              have hvl := avs_length k1
              have : ws = us := by
                apply List.ext_getElem?
                intro i
                rcases Nat.lt_or_ge i (parts x).length with hi | hi
                · rw [g3 i (by omega)]
                  rw [Nat.zero_add, Array.getElem?_append_left (by simp; omega)]
                  simp
                · rw [List.getElem?_eq_none (by omega), List.getElem?_eq_none (by omega)]
              subst this
              have hpl := parts_length x
              have hg := glue_val g1 (by rw [List.length_map, hl]; exact hpl.1) (by rw [List.length_map, hl]; exact hpl.2)
              rw [k2] at hg
              have done : a'.defers = [] ∧ ∃ v, (results fn a'.tmps).run P w' = .ok v w' ∧ ∃ N' v', (resS cr y').val N' = some v' ∧ Ending.returned v = .returned v' ∧ RelM w.heap.size w N' (cr.enc y').mem w' :=
                ⟨hR.t.defers, u, h2, N2, u, hg, rfl, hR3.m⟩
              cases e <;> first | exact done | simp at hok
            · simp [Tr.den] at h'
          · simp [Tr.den] at h'
        · simp [Tr.den] at h'
      · simp [Tr.den] at h'
    · simp [Tr.den] at h'
  · simp [Tr.den] at h

/-- A contract on calls made plain, whose result bears lists. -/
def FR {X Y : Type} (c : SC X) (cr : SC Y) (q : X → Bool) (g : X → Y) : List AV → List Row → Option CallR := fun args M =>
  match Nat.beq args.length c.ts.length with
  | true => match norm c.ts { n := args.length, tmps := argTmps 0 args, mem := weakM M } with
    | some s => match c.dec s with
      | some x => some (.rows (q x) Y (g x) (fun n y => (resS cr y).shift n) (fun y => (cr.enc y).mem))
      | none => none
    | none => none
  | false => none

def PlainR {X Y : Type} (P : Program) (f : FuncId) (c : SC X) (cr : SC Y) (q : X → Bool) (g : X → Y) : Prop :=
  ∀ x, q x = true → ∀ (N : List Nm) (w : World) (vs : List Value), RelM w.heap.size w N (c.enc x).mem w → AV.vals N ((c.enc x).tmps.map Prod.snd) = some vs →
    Calls P f vs.toArray w fun e w' => ∃ N' v, (resS cr (g x)).val N' = some v ∧ e = .returned v ∧ RelM w.heap.size w N' (cr.enc (g x)).mem w'

theorem specR {X Y : Type} {P : Program} {f : FuncId} {c : SC X} {cr : SC Y} {q : X → Bool} {g : X → Y} (hts : c.ts = List.range c.ts.length) (hg : ∀ y, growsB (cr.enc y).mem = true)
    (hc : ∀ vs w, (callFunc f vs).run P w = .ok (.enter f vs) w) (h : PlainR P f c cr q g) : Spec P f (FR c cr q g) := by
  refine ⟨hc, ?_, ?_, ?_⟩
  · intro args M α x val he
    unfold FR at he
    split at he
    · split at he
      · split at he
        · simp at he
        · cases he
      · cases he
    · cases he
  · intro args M α x val he
    unfold FR at he
    split at he
    · split at he
      · split at he
        · simp at he
        · cases he
      · cases he
    · cases he
  · intro args M α y av rows he
    unfold FR at he
    split at he
    · rename_i hlen
      have hlen := Nat.eq_of_beq_eq_true hlen
      split at he
      · rename_i s hs
        split at he
        · rename_i z hz
          simp at he
          obtain ⟨hq, rfl, he1, he2, he3⟩ := he
          cases he1; cases he2; cases he3
          refine ⟨hg _, fun B w0 N w vs hM hv => ?_⟩
          have hR := start_rel (n := args.length) hv (Nat.le_refl _) hM.weak
          obtain ⟨N', hR'⟩ := norm_sound hs hR
          have hF := c.ok hz
          have hk : (c.enc z).tmps.map Prod.fst = List.range' 0 (c.enc z).tmps.length := by
            rw [← all2_keys hF.t, norm_keys hs, hts, List.range_eq_range']
            have := congrArg List.length (all2_keys hF.t)
            rw [norm_keys hs] at this
            simp at this
            simp [this]
          have hl : (c.enc z).tmps.length = args.length := by
            have := congrArg List.length (all2_keys hF.t)
            rw [norm_keys hs] at this
            simp at this; omega
          have hR2 := hF.rel hR'
          obtain ⟨us, g1, g2, g3⟩ := vals_of_look (c.enc z).tmps 0 hk hR2.t.look
          have hvl := avs_length hv
          have : us = vs := by
            apply List.ext_getElem?
            intro i
            rcases Nat.lt_or_ge i args.length with hi | hi
            · rw [g3 i (by omega)]
              rw [Nat.zero_add, Array.getElem?_append_left (by simp; omega)]
              simp
            · rw [List.getElem?_eq_none (by omega), List.getElem?_eq_none (by omega)]
          subst this
          refine (h z hq N' w us hR2.m g1).mono ?_
          rintro e w' ⟨N2, v, e1, rfl, e3⟩
          exact ⟨N2, v, fun N0 => by rw [AV.shift_val]; exact e1, rfl, e3⟩
        · cases he
      · cases he
    · cases he
end Go.Proofs.YtlbmjajjldfigaaGreat.Ev
