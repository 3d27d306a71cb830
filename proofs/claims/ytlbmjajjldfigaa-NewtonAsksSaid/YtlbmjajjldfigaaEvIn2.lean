/-
  A callee's body that has loops, run in the caller's rows: a loop's law keeps the rows that it finds.
-/
import Derived.Test.YtlbmjajjldfigaaEvInl
import Derived.Test.YtlbmjajjldfigaaEvLoop
namespace Go.Proofs.Ytlbmjajjldfigaa.Ev
open Go Go.RowKit
universe u

/-! A state cut down to its first rows -/
def CV.below (m : Nat) : CV → Bool
  | .own i _ => Nat.blt i m
  | .el i _ _ _ => Nat.blt i m
  | .sl i => Nat.blt i m
  | _ => true
def CV.belows (m : Nat) : List CV → Bool
  | [] => true
  | x :: r => match x.below m with | true => CV.belows m r | false => false
def AV.belowB (m : Nat) : AV → Bool
  | .c x => x.below m
  | .agg l => CV.belows m l
  | .clo _ l => CV.belows m l
  | .tup2 a b => match a.belowB m with | true => b.belowB m | false => false
  | .tup3 a b d => match a.belowB m with | true => (match b.belowB m with | true => d.belowB m | false => false) | false => false
def keepT (m : Nat) (l : List (Nat × AV)) : List Nat → Option (List (Nat × AV))
  | [] => some []
  | t :: r => match look l t with
    | some x => match x.belowB m with
      | true => match keepT m l r with
        | some q => some ((t, x) :: q)
        | none => none
      | false => none
    | none => none
def Row.belowB (m : Nat) : Row → Bool
  | .box cs => CV.belows m cs
  | .ro cs => CV.belows m cs
  | _ => true
def rowsBelow (m : Nat) : List Row → Bool
  | [] => true
  | x :: r => match x.belowB m with | true => rowsBelow m r | false => false
def keepS (m : Nat) (ts : List Nat) (s : St) : Option St :=
  match takeN m s.mem with
  | some M => match rowsBelow m M with
    | true => match keepT m s.tmps ts with
      | some T => some { n := s.n, tmps := T, mem := M }
      | none => none
    | false => none
  | none => none

section
variable {N : List Nm} {m : Nat}
theorem take_nth {i : Nat} (h : i < m) : nth (N.take m) i = nth N i := by rw [nth_eq, nth_eq, List.getElem?_take_of_lt h]
theorem below_val : ∀ {x : CV} {v : Value}, x.below m = true → x.val N = some v → x.val (N.take m) = some v
  | .v _, _, _, h => h
  | .k _, _, _, h => h
  | .b _, _, _, h => h
  | .own i off, v, hb, h => by
    have : i < m := by simpa [CV.below] using hb
    simp only [CV.val] at *
    rw [take_nth this]; exact h
  | .el i e sz off, v, hb, h => by
    have : i < m := by simpa [CV.below] using hb
    simp only [CV.val] at *
    rw [take_nth this]; exact h
  | .sl i, v, hb, h => by
    have : i < m := by simpa [CV.below] using hb
    simp only [CV.val] at *
    rw [take_nth this]; exact h
theorem belows_val : ∀ {l : List CV} {vs : List Value}, CV.belows m l = true → CV.vals N l = some vs → CV.vals (N.take m) l = some vs
  | [], _, _, h => h
  | y :: r, vs, hb, h => by
    simp only [CV.belows] at hb
    split at hb
    · rename_i h1
      simp only [CV.vals] at *
      split at h
      · rename_i x hx
        rw [below_val h1 hx]
        split at h
        · rename_i q hq; simp [belows_val hb hq]; simpa using h
        · cases h
      · cases h
    · cases hb
theorem belowB_val : ∀ {x : AV} {v : Value}, x.belowB m = true → x.val N = some v → x.val (N.take m) = some v
  | .c x, _, hb, h => below_val (x := x) hb h
  | .agg cs, v, hb, h => by
    simp only [AV.val] at *
    split at h
    · rename_i l hl; rw [belows_val hb hl]; exact h
    · cases h
  | .clo f cs, v, hb, h => by
    simp only [AV.val] at *
    split at h
    · rename_i l hl; rw [belows_val hb hl]; exact h
    · cases h
  | .tup2 a b, v, hb, h => by
    simp only [AV.belowB] at hb
    split at hb
    · rename_i h1
      simp only [AV.val] at *
      split at h
      · rename_i x hx
        rw [belowB_val h1 hx]
        split at h
        · rename_i y hy; rw [belowB_val hb hy]; exact h
        · cases h
      · cases h
    · cases hb
  | .tup3 a b d, v, hb, h => by
    simp only [AV.belowB] at hb
    split at hb
    · rename_i h1
      split at hb
      · rename_i h2
        simp only [AV.val] at *
        split at h
        · rename_i x hx
          rw [belowB_val h1 hx]
          split at h
          · rename_i y hy
            rw [belowB_val h2 hy]
            split at h
            · rename_i z hz; rw [belowB_val hb hz]; exact h
            · cases h
          · cases h
        · cases h
      · cases hb
    · cases hb
theorem keepT_look {l : List (Nat × AV)} : ∀ {ts : List Nat} {q : List (Nat × AV)}, keepT m l ts = some q → ∀ t x, look q t = some x → look l t = some x ∧ x.belowB m = true
  | [], q, h, t, x, hx => by simp [keepT] at h; subst h; simp [look] at hx
  | u :: r, q, h, t, x, hx => by
    simp only [keepT] at h
    split at h
    · rename_i y hy
      split at h
      · rename_i hb
        split at h
        · rename_i q' hq
          simp at h; subst h
          rw [look_cons] at hx
          split at hx
          · rename_i e
            simp at hx; subst hx; subst e
            exact ⟨hy, hb⟩
          · exact keepT_look hq t x hx
        · cases h
      · cases h
    · cases h
theorem rowsBelow_nth : ∀ {M : List Row}, rowsBelow m M = true → ∀ i r, nth M i = some r → r.belowB m = true
  | [], _, i, r, h => by simp [nth] at h
  | x :: q, hb, i, r, h => by
    simp only [rowsBelow] at hb
    split at hb
    · rename_i h1
      cases i with
      | zero => simp [nth] at h; subst h; exact h1
      | succ i => exact rowsBelow_nth hb i r (by simpa [nth] using h)
    · cases hb
theorem keep_sound {B : Nat} {w0 : World} {ts : List Nat} {s s' : St} {a : Act} {w : World} (h : keepS m ts s = some s') (hR : Rel B w0 N s a w) : Rel B w0 (N.take m) s' a w := by
  unfold keepS at h
  split at h
  · rename_i M hM
    split at h
    · rename_i hb
      split at h
      · rename_i T hT
        simp only [Option.some.injEq] at h; subst h
        obtain ⟨rfl, hlen⟩ := takeN_eq _ _ _ hM
        have lt : ∀ i r, nth (s.mem.take m) i = some r → i < m ∧ nth s.mem i = some r := by
          intro i r hi
          have := nth_lt hi
          rw [List.length_take] at this
          have hm : i < m := by omega
          refine ⟨hm, ?_⟩
          rw [nth_eq, List.getElem?_take_of_lt hm] at hi
          rw [nth_eq]; exact hi
        have hblk : ∀ i r, i < m → blkOf (N.take m) i r = blkOf N i r := by
          intro i r hi
          cases r <;> simp only [blkOf, take_nth hi]
        refine ⟨⟨hR.m.below, hR.m.base, ?_, ?_, ?_⟩, hR.t.defers, hR.t.size, ?_⟩
        · dsimp only
          rw [List.length_take, List.length_take, hR.m.len]
        · intro i r hi
          obtain ⟨h1, h2⟩ := lt i r hi
          have ho := hR.m.row i r h2
          have hbr := rowsBelow_nth hb i r hi
          cases r with
          | box cs =>
            obtain ⟨b, T', vs, f1, f2, f3, f4⟩ := ho
            exact ⟨b, T', vs, by rw [take_nth h1]; exact f1, f2, belows_val hbr f3, f4⟩
          | ro cs =>
            obtain ⟨b, T', vs, f1, f3, f4⟩ := ho
            exact ⟨b, T', vs, by rw [take_nth h1]; exact f1, belows_val hbr f3, f4⟩
          | list L =>
            obtain ⟨a', n, cap, f1, f2⟩ := ho
            exact ⟨a', n, cap, by rw [take_nth h1]; exact f1, f2⟩
          | grow L e =>
            obtain ⟨a', n, cap, f1, f2⟩ := ho
            exact ⟨a', n, cap, by rw [take_nth h1]; exact f1, f2⟩
          | nilr =>
            show nth (N.take m) i = some (.sv none 0 0)
            rw [take_nth h1]; exact ho
          | dead => trivial
        · intro i j r q b hi hj hij hw hb1 hb2
          obtain ⟨h1, h2⟩ := lt i r hi
          obtain ⟨h3, h4⟩ := lt j q hj
          rw [hblk i r h1] at hb1
          rw [hblk j q h3] at hb2
          exact hR.m.sep i j r q b h2 h4 hij hw hb1 hb2
        · intro t x hx
          obtain ⟨h1, h2⟩ := keepT_look hT t x hx
          obtain ⟨v, h3, h4⟩ := hR.t.look t x h1
          exact ⟨v, belowB_val h2 h3, h4⟩
      · cases h
    · cases h
  · cases h
end

section
variable {ρ : Type} (P : Program) (E : Env) (LE : Laws)
/-- Code, in a scope that jumps may go back to ('sc'); loops keep the rows that they find. -/
def evI (n : Nat) (sc : Option Code) (c : Code) (s : St) (k : Exit → St → Tr ρ) : Tr ρ :=
  match n with
  | 0 => .fail
  | n + 1 => match sc with
    | some body => evI n none c s fun e s => match e with
      | .goto l => match findLabel body l with
        | some rest => evI n (some body) rest s k
        | none => k (.goto l) s
      | e => k e s
    | none => match c with
      | .skip => k .normal s
      | .label _ => k .normal s
      | .region _ ops false => evOps P E ops.toList ops.toList s (k .normal)
      | .region _ ops true => match P.follows .mixedOrders with
        | true => evOpsD P E ops.toList (takeL (cutAt ops.toList) ops.toList) s.mem.length { s with mem := s.mem ++ deads (freshN (takeL (cutAt ops.toList) ops.toList)) } [] fun s' acc =>
          match checkD s.n s.mem.length (s.mem ++ deads (freshN (takeL (cutAt ops.toList) ops.toList))) ops.toList acc with
          | true => match tailB ops.toList (cutAt ops.toList) (dropN (cutAt ops.toList) ops.toList) with
            | true => evOps P E ops.toList (dropN (cutAt ops.toList) ops.toList) s' (k .normal)
            | false => .fail
          | false => .fail
        | false => .fail
      | .seq a b => evI n none a s fun e s => match e with
        | .normal => evI n none b s k
        | e => k e s
      | .cond c t e => condK s c (fun s => evI n none t s k) (fun s => evI n none e s k)
      | .block id b => evI n none b s fun e s => match e with
        | .exit j => match Nat.beq j id with
          | true => k .normal s
          | false => k (.exit j) s
        | e => k e s
      | .loop b => match lawOf LE b with
        | some R => match keepS s.mem.length R.ts s with
          | some s1 => match R.dec s1 with
            | some x => .get (R.run x) fun y => R.outK ρ y k
            | none => .fail
          | none => .fail
        | none => evI n none b s fun e s => match e with
          | .normal => evI n none (.loop b) s k
          | e => k e s
      | .scope b => evI n (some b) b s k
      | .exit i => k (.exit i) s
      | .ret => k .ret s
      | .goto l => k (.goto l) s
      | _ => .fail

/-- A callee's body, run in the caller's rows, its loops by laws. -/
def inlI (n : Nat) (fn : Func) (args : List AV) (M : List Row) : Tr (AV × List Row) :=
  match fn.body with
  | some c => match Nat.ble args.length fn.ntmps with
    | true => evI P E LE n none c { n := fn.ntmps, tmps := argTmps 0 args, mem := M } (endT P fn)
    | false => .fail
  | none => .fail
end

section
variable {P : Program} {E : Env} {LE : Laws} {ρ : Type} {r : ρ} {B : Nat} {w0 : World}
/-- What a loop's law asks of a loop that keeps the rows it finds. -/
def LOKN (P : Program) (R : LoopR) (b : Code) : Prop :=
  ∀ s x y, R.dec s = some x → R.run x = some y → ∀ (B : Nat) (w0 : World) (N : List Nm) (a : Act) (w : World), Rel B w0 N s a w →
    (Code.loop b).wp P (fun e a' w' => e = (R.out y).1 ∧ ∃ N', NLe N N' ∧ Rel B w0 N' (R.out y).2 a' w') a w
def LAllN (P : Program) (LE : Laws) (c : Code) : Prop := ∀ b ∈ loops c, ∀ i R, keyOf b = some i → LE i = some R → LOKN P R b
theorem LAllN.sub {c d : Code} (h : LAllN P LE c) (hs : ∀ b ∈ loops d, b ∈ loops c) : LAllN P LE d := fun b hb => h b (hs b hb)
theorem evI_le (hE : EnvOK P E) : ∀ (n : Nat),
    (∀ (c : Code), LAllN P LE c → ∀ {N : List Nm} {s : St} {a : Act} {w : World} {k : Exit → St → Tr ρ} {Q : Exit → Act → World → Prop}, Rel B w0 N s a w → (evI P E LE n none c s k).den = some r → PostN N B w0 r k Q → c.wp P Q a w) ∧
    (∀ (c b : Code), LAllN P LE c → LAllN P LE b → ∀ {N : List Nm} {s : St} {a : Act} {w : World} {k : Exit → St → Tr ρ} {Q : Exit → Act → World → Prop}, Rel B w0 N s a w → (evI P E LE n (some b) c s k).den = some r → PostN N B w0 r k Q → jumps P b Q n c a w) ∧
    (∀ (b : Code), LAllN P LE b → lawOf LE b = none → ∀ {N : List Nm} {s : St} {a : Act} {w : World} {k : Exit → St → Tr ρ} {Q : Exit → Act → World → Prop}, Rel B w0 N s a w → (evI P E LE n none (.loop b) s k).den = some r → PostN N B w0 r k Q → Code.rounds P b Q n a w)
  | 0 => ⟨fun c _ N s a w k Q hR h _ => by simp [evI, Tr.den] at h, fun c b _ _ N s a w k Q hR h _ => by simp [evI, Tr.den] at h, fun b _ _ N s a w k Q hR h _ => by simp [evI, Tr.den] at h⟩
  | n + 1 => by
    obtain ⟨ih1, ih2, ih3⟩ := evI_le hE n
    have loops : ∀ (b : Code), LAllN P LE b → lawOf LE b = none → ∀ {N : List Nm} {s : St} {a : Act} {w : World} {k : Exit → St → Tr ρ} {Q : Exit → Act → World → Prop}, Rel B w0 N s a w → (evI P E LE (n + 1) none (.loop b) s k).den = some r → PostN N B w0 r k Q → Code.rounds P b Q (n + 1) a w := by
      intro b hL hno N s a w k Q hR h hk
      simp only [evI, hno] at h
      rw [rounds_succ]
      refine ih1 b hL hR h ?_
      intro e N' s' a' w' hle hR' h'
      cases e with
      | normal => exact ih3 b hL hno hR' h' (hk.le hle)
      | exit i => exact hk _ _ _ _ _ hle hR' h'
      | goto l => exact hk _ _ _ _ _ hle hR' h'
      | ret => exact hk _ _ _ _ _ hle hR' h'
      | panic ch => exact hk _ _ _ _ _ hle hR' h'
      | outgrown => exact hk _ _ _ _ _ hle hR' h'
    refine ⟨?_, ?_, loops⟩
    · intro c hL N s a w k Q hR h hk
      cases c with
      | skip => exact wp_skip (hk _ _ _ _ _ (NLe.refl _) hR (by simpa only [evI] using h))
      | label l => exact wp_label (hk _ _ _ _ _ (NLe.refl _) hR (by simpa only [evI] using h))
      | exit i => exact wp_exit (hk _ _ _ _ _ (NLe.refl _) hR (by simpa only [evI] using h))
      | ret => exact wp_ret (hk _ _ _ _ _ (NLe.refl _) hR (by simpa only [evI] using h))
      | goto l => exact wp_goto (hk _ _ _ _ _ (NLe.refl _) hR (by simpa only [evI] using h))
      | refuse why => simp [evI, Tr.den] at h
      | rangeFunc f ps x y => simp [evI, Tr.den] at h
      | region id ops draw =>
        cases draw with
        | false =>
          simp only [evI] at h
          exact wp_region_list (ops_sound hE _ hR h fun N' s' a' w' hle hR' h' => hk _ _ _ _ _ hle hR' h')
        | true =>
          simp only [evI] at h
          split at h
          · rename_i hm
            exact draw_sound hE hm hR h fun N' s' a' w' hle hR' h' => hk _ _ _ _ _ hle hR' h'
          · simp [Tr.den] at h
      | seq x y =>
        simp only [evI] at h
        refine wp_seq (ih1 x (hL.sub fun b' hb => by simp [Ev.loops, hb]) hR h ?_)
        intro e N' s' a' w' hle hR' h'
        cases e with
        | normal => exact ih1 y (hL.sub fun b' hb => by simp [Ev.loops, hb]) hR' h' (hk.le hle)
        | exit i => exact hk _ _ _ _ _ hle hR' h'
        | goto l => exact hk _ _ _ _ _ hle hR' h'
        | ret => exact hk _ _ _ _ _ hle hR' h'
        | panic ch => exact hk _ _ _ _ _ hle hR' h'
        | outgrown => exact hk _ _ _ _ _ hle hR' h'
      | cond c x y =>
        simp only [evI] at h
        rcases cond_sound hR.t h with ⟨hc, s', e1, e2, e3⟩ | ⟨hc, s', e1, e2, e3⟩
        · exact wp_cond_true hc (ih1 x (hL.sub fun b' hb => by simp [Ev.loops, hb]) ⟨by rw [e1]; exact hR.m, e2⟩ e3 hk)
        · exact wp_cond_false hc (ih1 y (hL.sub fun b' hb => by simp [Ev.loops, hb]) ⟨by rw [e1]; exact hR.m, e2⟩ e3 hk)
      | block id b =>
        simp only [evI] at h
        refine wp_block (ih1 b (hL.sub fun b' hb => by simpa [Ev.loops] using hb) hR h ?_)
        intro e N' s' a' w' hle hR' h'
        cases e with
        | normal => exact hk _ _ _ _ _ hle hR' h'
        | exit j =>
          simp only [Exit.inBlock]
          by_cases hj : j = id
          · subst hj
            simp only [Nat.beq_refl] at h'
            simp only [if_true]
            exact hk _ _ _ _ _ hle hR' h'
          · have : Nat.beq j id = false := by
              cases hb : Nat.beq j id with
              | false => rfl
              | true => exact absurd (Nat.eq_of_beq_eq_true hb) hj
            simp only [this] at h'
            simp only [hj, if_false]
            exact hk _ _ _ _ _ hle hR' h'
        | goto l => exact hk _ _ _ _ _ hle hR' h'
        | ret => exact hk _ _ _ _ _ hle hR' h'
        | panic ch => exact hk _ _ _ _ _ hle hR' h'
        | outgrown => exact hk _ _ _ _ _ hle hR' h'
      | loop b =>
        cases hlaw : lawOf LE b with
        | none => exact wp_loop_rounds (n + 1) (loops b (hL.sub fun b' hb => by simp [Ev.loops, hb]) hlaw hR h hk)
        | some R =>
          simp only [evI, hlaw] at h
          split at h
          · rename_i s1 hs1
            split at h
            · rename_i x hx
              unfold Tr.den at h
              split at h
              · rename_i y hy
                rw [R.outK_den] at h
                have hR1 := keep_sound hs1 hR
                have eN : N.take s.mem.length = N := by rw [← hR.m.len, List.take_length]
                rw [eN] at hR1
                obtain ⟨i, hi, hli⟩ := lawOf_spec hlaw
                refine Code.wp_mono ?_ (hL b (by simp [Ev.loops]) i R hi hli s1 x y hx hy B w0 N a w hR1)
                rintro e a' w' ⟨rfl, N', hle, hR'⟩
                exact hk _ _ _ _ _ hle hR' h
              · cases h
            · simp [Tr.den] at h
          · simp [Tr.den] at h
      | scope b =>
        simp only [evI] at h
        exact wp_scope_n n (ih2 b b (hL.sub fun b' hb => by simpa [Ev.loops] using hb) (hL.sub fun b' hb => by simpa [Ev.loops] using hb) hR h hk)
    · intro c b hL hLb N s a w k Q hR h hk
      simp only [evI] at h
      simp only [jumps]
      refine ih1 c hL hR h ?_
      intro e N' s' a' w' hle hR' h'
      cases e with
      | normal => exact hk _ _ _ _ _ hle hR' h'
      | exit i => exact hk _ _ _ _ _ hle hR' h'
      | goto l =>
        dsimp only at h'
        split at h'
        · rename_i rest hf
          dsimp only
          rw [hf]
          exact ih2 rest b (hLb.sub (loops_find hf)) hLb hR' h' (hk.le hle)
        · rename_i hf
          dsimp only
          rw [hf]
          exact hk _ _ _ _ _ hle hR' h'
      | ret => exact hk _ _ _ _ _ hle hR' h'
      | panic ch => exact hk _ _ _ _ _ hle hR' h'
      | outgrown => exact hk _ _ _ _ _ hle hR' h'


/-- What a round's end is read as. -/
def backI {X Y : Type} (m : Nat) (c : SC X) (o : OC Y) (e : Exit) (s : St) : Tr (X ⊕ Y) :=
  match e with
  | .normal => match keepS m c.ts s with
    | some s1 => match c.dec s1 with
      | some x => .ret (.inl x)
      | none => .fail
    | none => .fail
  | e => match o.us e with
    | some l => match keepS m l s with
      | some s1 => match o.dec e s1 with
        | some y => .ret (.inr y)
        | none => .fail
      | none => .fail
    | none => .fail
theorem loopN_ok (hE : EnvOK P E) {b : Code} (hL : LAllN P LE b) {X Y : Type} {c : SC X} {o : OC Y} {m : Nat} (hm : ∀ x, Nat.beq (c.enc x).mem.length m = true)
    (step : X → Option (X ⊕ Y)) {n : Nat} (hstep : ∀ x z, step x = some z → (evI P E LE n none b (c.enc x) (backI m c o)).den = some z)
    {run : X → Option Y} (hrun : ∀ x y, run x = some y → ∃ k, iter step k x = some y) : LOKN P (LoopR.of c o run) b := by
  intro s x y hd hr B w0 N a w hR
  change Y at y
  change X at x
  replace hR := (c.ok hd).rel hR
  obtain ⟨k, hk⟩ := hrun x y hr
  clear hr hd
  refine wp_loop_rounds k ?_
  have go : ∀ (k : Nat) (x : X) (N0 N : List Nm) (a : Act) (w : World), NLe N0 N → N0.length = m → iter step k x = some y → Rel B w0 N (c.enc x) a w →
      Code.rounds P b (fun e a' w' => e = ((LoopR.of c o run).out y).1 ∧ ∃ N', NLe N0 N' ∧ Rel B w0 N' ((LoopR.of c o run).out y).2 a' w') k a w := by
    intro k
    induction k with
    | zero => intro x N0 N a w _ _ hk _; simp [iter] at hk
    | succ k ih =>
      intro x N0 N a w h0 h0m hk hR
      rw [rounds_succ]
      simp only [iter] at hk
      cases hs : step x with
      | none => rw [hs] at hk; cases hk
      | some z =>
        rw [hs] at hk
        refine (evI_le (B := B) (w0 := w0) hE n).1 b hL hR (hstep x z hs) ?_
        intro e N' s' a' w' hle hR' h'
        have keepN : NLe N0 (N'.take m) := by
          intro i q hi hq
          have hlt := nth_lt hi
          rw [take_nth (by omega)]
          exact (h0.trans hle) i q hi hq
        by_cases he : e = .normal
        · subst he
          unfold backI at h'
          dsimp only at h'
          split at h'
          · rename_i s1 hs1
            split at h'
            · rename_i x' hx'
              simp [Tr.den] at h'; subst h'
              have hR1 := keep_sound hs1 hR'
              exact ih _ N0 _ _ _ keepN h0m hk ((c.ok hx').rel hR1)
            · simp [Tr.den] at h'
          · simp [Tr.den] at h'
        · have leave : backI m c o e s' = (match o.us e with
            | some l => match keepS m l s' with
              | some s1 => match o.dec e s1 with
                | some y => .ret (.inr y)
                | none => .fail
              | none => .fail
            | none => .fail) := by
            cases e <;> first | exact absurd rfl he | rfl
          rw [leave] at h'
          split at h'
          · split at h'
            · rename_i s1 hs1
              split at h'
              · rename_i y' hy'
                simp [Tr.den] at h'; subst h'
                cases hk
                have hR1 := keep_sound hs1 hR'
                obtain ⟨e1, e2⟩ := o.ok hy'
                have := e2.rel hR1
                cases e <;> first | exact absurd rfl he | exact ⟨e1, _, keepN, this⟩
              · simp [Tr.den] at h'
            · simp [Tr.den] at h'
          · simp [Tr.den] at h'
  exact go k x N N a w (NLe.refl N) (by rw [hR.m.len]; exact Nat.eq_of_beq_eq_true (hm x)) hk hR

theorem inlI_sound (hE : EnvOK P E) {f : FuncId} {fn : Func} (hL : ∀ c, fn.body = some c → LAllN P LE c) (hf : P.funcs[f]? = some fn) {n : Nat} {args : List AV} {M : List Row} {y : AV × List Row} (h : (inlI P E LE n fn args M).den = some y) {N : List Nm} {w : World} {vs : List Value} (hM : RelM B w0 N M w) (hv : AV.vals N args = some vs) :
    Calls P f vs.toArray w fun e w' => ∃ N' v, NLe N N' ∧ y.1.val N' = some v ∧ e = .returned v ∧ RelM B w0 N' y.2 w' := by
  unfold inlI at h
  split at h
  · rename_i c hc
    split at h
    · rename_i hlen
      refine calls_of_wp hf hc ?_
      refine (evI_le hE n).1 c (hL c hc) (start_rel hv (Nat.le_of_ble_eq_true hlen) hM) h ?_
      intro e N' s' a' w' hle hR h'
      exact endT_sound hle hR h'
    · simp [Tr.den] at h
  · simp [Tr.den] at h
end
def LFnN (P : Program) (LE : Laws) (fn : Func) : Prop := ∀ c, fn.body = some c → LAllN P LE c
theorem LFnN.nil {P : Program} {fn : Func} : LFnN P Laws.nil fn := fun c _ b _ i R _ h => by cases h
theorem LFnN.add {P : Program} {LE : Laws} {fn : Func} {i : Nat} {R : LoopR} (h1 : Nat.beq ((loopsFn fn).filter (keyIs i)).length 1 = true) (hR : LOKN P R (loopAt fn i)) (h : LFnN P LE fn) : LFnN P (Laws.add i R LE) fn := by
  intro c hc b hb j R' hj hl
  unfold Laws.add at hl
  split at hl
  · rename_i hij
    have := Nat.eq_of_beq_eq_true hij
    subst this
    simp at hl; subst hl
    simp only [loopsFn, hc] at h1
    have := find_unique (keyIs i) (loops c) b h1 hb (by simp [keyIs, hj])
    have hl : loopAt fn i = b := by
      unfold loopAt
      simp only [hc]
      change (match (loops c).find? (keyIs i) with | some b => b | none => .skip) = b
      rw [this]
    rw [← hl]; exact hR
  · exact h c hc b hb j R' hj hl
theorem LFnN.at {P : Program} {LE : Laws} {fn : Func} (h : LFnN P LE fn) (i : Nat) : LAllN P LE (loopAt fn i) := by
  unfold loopAt
  split
  · rename_i c hc
    split
    · rename_i b hb
      exact (h c hc).sub (loops_trans (List.mem_of_find?_eq_some hb))
    · intro b hb; simp [loops] at hb
  · intro b hb; simp [loops] at hb
theorem EnvOK.addI {P : Program} {E E' : Env} {LE : Laws} {f : FuncId} {fn : Func} {n : Nat} (hE' : EnvOK P E') (hL : LFnN P LE fn) (hf : P.funcs[f]? = some fn) (hc : ∀ vs w, (callFunc f vs).run P w = .ok (.enter f vs) w) (hE : EnvOK P E) :
    EnvOK P (Env.addT f (inlI P E' LE n fn) E) := by
  have cases' : ∀ {g a M q}, Env.addT f (inlI P E' LE n fn) E g a M = some q → (f = g ∧ q = .tree (inlI P E' LE n fn a M)) ∨ E g a M = some q := by
    intro g a M q h
    unfold Env.addT at h
    split at h
    · rename_i hb; cases h; exact .inl ⟨Nat.eq_of_beq_eq_true hb, rfl⟩
    · exact .inr h
  refine ⟨?_, ?_, ?_, ?_, ?_⟩
  · intro g a M q h
    rcases cases' h with ⟨rfl, _⟩ | h
    · exact hc
    · exact hE.call _ _ _ _ h
  · intro g a M α x val h
    rcases cases' h with ⟨_, h⟩ | h
    · cases h
    · exact hE.pure _ _ _ _ _ _ h
  · intro g a M α x val h
    rcases cases' h with ⟨_, h⟩ | h
    · cases h
    · exact hE.pre _ _ _ _ _ _ h
  · intro g a M α x av rows h
    rcases cases' h with ⟨_, h⟩ | h
    · cases h
    · exact hE.rows _ _ _ _ _ _ _ h
  · intro g a M T h y hy B w0 N w vs hM hv
    rcases cases' h with ⟨hfg, h2⟩ | h2
    · subst hfg
      injection h2 with h3
      subst h3
      exact inlI_sound hE' hL hf hy hM hv
    · exact hE.tree _ _ _ _ h2 y hy B w0 N w vs hM hv
end Go.Proofs.Ytlbmjajjldfigaa.Ev
