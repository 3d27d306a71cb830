/-
  slices.Backward's own function, walked: every element, from the last to the first.
-/
import Derived.Test.YtlbmjajjldfigaaGreatEvRange
import Derived.Test.YtlbmjajjldfigaaGreatEvCod
import Derived.Test.YtlbmjajjldfigaaGreatCore2
import Derived.Test.YtlbmjajjldfigaaGreatK0
namespace Go.Proofs.YtlbmjajjldfigaaGreat
open Go Go.RowKit Ev
set_option maxRecDepth 100000

/-- Two rows, of which none is stored into: a slice's box, and the slice. -/
theorem relM_back {W : World} {Bs n cap : Nat} {ad : Option Addr} {T : TypeId} {L : Lst} (h1 : W.heap[Bs]? = some (.cells #[.slice ad n cap] T (0, 0))) (h2 : ListAt W (.slice ad n cap) L) :
    RelM W.heap.size W [.blk Bs, .sv ad n cap] [.ro [.sl 1], .list L] W := by
  refine ⟨BelowO.refl _ _, Nat.le_refl _, rfl, ?_, ?_⟩
  · intro i r hi
    match i, hi with
    | 0, hi => simp [nth] at hi; subst hi; exact ⟨Bs, T, [.slice ad n cap], rfl, rfl, h1⟩
    | 1, hi => simp [nth] at hi; subst hi; exact ⟨ad, n, cap, rfl, h2⟩
    | i + 2, hi => simp [nth] at hi
  · intro i j r q b hi hj hij hw
    match i, hi with
    | 0, hi => simp [nth] at hi; subst hi; simp [Row.writable] at hw
    | 1, hi => simp [nth] at hi; subst hi; simp [Row.writable] at hw
    | i + 2, hi => simp [nth] at hi

noncomputable abbrev bkC : Code := bodyOf Tryz.f155
theorem bk_eq : bkC = .seq (.region 0 (regOps 0 bkC) false) (.block 0 (.loop (.seq (.seq (.region 1 (regOps 1 bkC) false) (.cond (.tmp 8) .skip (.exit 0)))
    (.seq (.block 1 (.seq (.region 3 (regOps 3 bkC) false) (.cond (.tmp 18) .ret .skip))) (.region 2 (regOps 2 bkC) false))))) := by kernel_rfl
theorem bk_split : (regOps 3 bkC).toList = (regOps 3 bkC).toList.take 6 ++
    [{ dst := some 17, op := .call { callee := .value (.tmp 11), args := #[.tmp 12, .tmp 16], argTypes := #[3, 27] }, type := 4, pos := "iter.go:29",
       after := #[{ on := 0, ground := .data }, { on := 1, ground := .data }, { on := 5, ground := .data }], guard := none },
     { dst := some 18, op := .unOp .not 4 (.tmp 17), type := 4, pos := "iter.go:29", after := #[{ on := 6, ground := .data }], guard := none }] := by kernel_rfl

def bkRows : RD (Unit × List Iv × Unit) := rRoSl 1 ccNil ccNil_ok (rL_iv rNil)
def bk0 := sc 19 [0, 1] (tVal 0 (tOwn 1 0 tNil)) bkRows
def bk1 := sc 19 [0, 1, 3] (tVal 0 (tOwn 1 0 (tCod 3 cInt tNil))) bkRows
def bk2 := sc 19 [0, 1, 3, 8] (tVal 0 (tOwn 1 0 (tCod 3 cInt (tCod 8 cBool tNil)))) bkRows
def bk3 := sc 19 [0, 1, 3, 11, 12, 16] (tVal 0 (tOwn 1 0 (tCod 3 cInt (tVal 11 (tCod 12 cInt (tCod 16 cIv tNil)))))) bkRows
def bk4 := sc 19 [17] (tCod 17 cBool tNil) rNil
def bk5 := sc 19 [18] (tCod 18 cBool tNil) rNil

abbrev yv (y : Nat) : Value := .func (.yield y) #[] #[]
theorem bk_t0 (y : Nat) (l : List Iv) : evOps Tryz.prog Env.nil (regOps 0 bkC).toList (regOps 0 bkC).toList (bk0.enc ((yv y, ()), ((), (l, ())))) (retK bk1) =
    .ret ((yv y, (IntKind.i64.wrap ((l.length : Int) - 1), ())), ((), (l, ()))) := by kernel_rfl
theorem bk_t1 (y : Nat) (i : Int) (l : List Iv) : evOps Tryz.prog Env.nil (regOps 1 bkC).toList (regOps 1 bkC).toList (bk1.enc ((yv y, (i, ())), ((), (l, ())))) (retK bk2) =
    .ret ((yv y, (i, (decide (0 ≤ i), ()))), ((), (l, ()))) := by kernel_rfl
theorem bk_t2 (y : Nat) (i : Int) (l : List Iv) : evOps Tryz.prog Env.nil (regOps 2 bkC).toList (regOps 2 bkC).toList (bk1.enc ((yv y, (i, ())), ((), (l, ())))) (retK bk1) =
    .ret ((yv y, (IntKind.i64.wrap (i - 1), ())), ((), (l, ()))) := by kernel_rfl
theorem bk_t3 (y : Nat) (i : Int) (l : List Iv) : evOps Tryz.prog Env.nil (regOps 3 bkC).toList ((regOps 3 bkC).toList.take 6) (bk1.enc ((yv y, (i, ())), ((), (l, ())))) (retK bk3) =
    .br (decide (0 ≤ i ∧ i < (l.length : Int))) (.get l[i.toNat]? fun x => .ret ((yv y, (i, (yv y, (i, (x, ()))))), ((), (l, ())))) .fail := by kernel_rfl
theorem bk_t4 (x : Bool) : evOps Tryz.prog Env.nil (regOps 3 bkC).toList [{ dst := some 18, op := .unOp .not 4 (.tmp 17), type := 4, pos := "iter.go:29", after := #[{ on := 6, ground := .data }], guard := none }] (bk4.enc ((x, ()), ())) (retK bk5) =
    .ret ((!x, ()), ()) := by kernel_rfl

structure BkF (ln Bs : Nat) (i : Int) (a : Act) : Prop where
  d : a.defers = []
  n : a.tmps.size = 19
  t0 : a.tmps[0]? = some (.func (.yield ln) #[] #[])
  t1 : a.tmps[1]? = some (.pointer (some ⟨Bs, 0, none⟩))
  t3 : a.tmps[3]? = some (.int .i64 i)
theorem BkF.rel {ln Bs n cap : Nat} {ad : Option Addr} {T : TypeId} {l : List Iv} {i : Int} {a : Act} {W : World} (h : BkF ln Bs i a) (h1 : W.heap[Bs]? = some (.cells #[.slice ad n cap] T (0, 0))) (h2 : ListAt W (.slice ad n cap) ⟨.iv, l⟩) :
    Rel W.heap.size W [.blk Bs, .sv ad n cap] (bk1.enc ((.func (.yield ln) #[] #[], (i, ())), ((), (l, ())))) a W := by
  refine ⟨relM_back h1 h2, h.d, h.n, ?_⟩
  intro t x hx
  change Ev.look [(0, .c (.v (.func (.yield ln) #[] #[]))), (1, .c (.own 0 0)), (3, .c (.v (.int .i64 i)))] t = some x at hx
  rw [look_cons, look_cons, look_cons] at hx
  split at hx
  · rename_i e; simp at hx; subst hx; subst e; exact ⟨_, rfl, h.t0⟩
  · split at hx
    · rename_i e; simp at hx; subst hx; subst e; exact ⟨_, rfl, h.t1⟩
    · split at hx
      · rename_i e; simp at hx; subst hx; subst e; exact ⟨_, rfl, h.t3⟩
      · simp [Ev.look] at hx
theorem grown_of_below {w w' : World} (h : Below w.heap.size w w') : w.grownBy w' none := ⟨h.os, h.tape, h.output, h.size, fun k hk _ => h.block k hk⟩

def upto {α : Type} (f : Nat → α) (k : Nat) : List α := (List.range k).map f
theorem upto_succ {α : Type} (f : Nat → α) (k : Nat) : upto f (k + 1) = upto f k ++ [f k] := by simp [upto, List.range_succ]
theorem upto_length {α : Type} (f : Nat → α) (k : Nat) : (upto f k).length = k := by simp [upto]
def rev (l : List Iv) (k : Nat) : Int × Iv := ((l.length : Int) - 1 - k, atI l (l.length - 1 - k))
def bkIx (a : Act) : Nat := match (a.tmps[3]? : Option Value) with | some (Value.int _ i) => (i + 1).toNat | _ => 0

theorem yield_run {ρ : Operand → Value} {ln : Nat} {x y : Value} {nx : Next} {w : World} (e11 : ρ (.tmp 11) = yv ln) (e12 : ρ (.tmp 12) = x) (e16 : ρ (.tmp 16) = y) (hy : (Instr.yield ln #[x, y]).run Tryz.prog w = .ok nx w) :
    (execOp ρ { dst := some 17, op := .call { callee := .value (.tmp 11), args := #[.tmp 12, .tmp 16], argTypes := #[3, 27] }, type := 4, pos := "iter.go:29", after := #[{ on := 0, ground := .data }, { on := 1, ground := .data }, { on := 5, ground := .data }], guard := none }).run Tryz.prog w = .ok nx w := by
  simp [execOp, resolve, e11, e12, e16, Deferred.ofValue, invoke, go_sem]
  exact hy

theorem bk_calls (PP : World → Prop) (Bs : Nat) (l : List Iv) (hPP : ∀ W, PP W → ∃ ad n cap T, W.heap[Bs]? = some (.cells #[.slice ad n cap] T (0, 0)) ∧ ListAt W (.slice ad n cap) ⟨.iv, l⟩)
    (hPb : ∀ W W', PP W → Below W.heap.size W W' → PP W') (hl : l.length ≤ 1048576) (n ln : Nat) (J Jx : List (Int × Iv) → World → Prop) (hJ : ∀ p W W', J p W → Below W.heap.size W W' → J p W')
    (hJx : ∀ p W W', Jx p W → Below W.heap.size W W' → Jx p W')
    (hY : ∀ pre x W1, J pre W1 → pre.length < l.length → YieldAt (wideR none) (n - 1) Tryz.prog ln #[.int .i64 x.1, cIv.enc x.2] W1 fun e W' =>
      (e = .returned (.bool true) ∧ J (pre ++ [x]) W' ∧ (PP W1 → PP W')) ∨ (e = .returned (.bool false) ∧ Jx (pre ++ [x]) W'))
    (W : World) (hW : PP W) (h0 : J [] W) :
    CallsIn (wideR none) n Tryz.prog 155 (#[.func (.yield ln) #[] #[]] ++ #[.pointer (some ⟨Bs, 0, none⟩)]) W fun e W' => (∃ v, e = .returned v) ∧ ((∃ xs, xs = upto (rev l) l.length ∧ J xs W') ∨ (∃ pre, True ∧ Jx pre W')) := by
  refine callsIn_of_wp (F := wideR none) Tryz.func155 (show Tryz.f155.body = some bkC by kernel_rfl) trivial ?_ rfl
  rw [bk_eq]
  obtain ⟨ad, sn, cap, T, hb, hla⟩ := hPP W hW
  have hR0 : Rel W.heap.size W [.blk Bs, .sv ad sn cap] (bk0.enc ((.func (.yield ln) #[] #[], ()), ((), (l, ())))) { tmps := [.func (.yield ln) #[] #[], .pointer (some ⟨Bs, 0, none⟩)].toArray ++ Array.replicate (19 - 2) undef, defers := [] } W :=
    start_rel (args := [.c (.v (.func (.yield ln) #[] #[])), .c (.own 0 0)]) (vs := [.func (.yield ln) #[] #[], .pointer (some ⟨Bs, 0, none⟩)]) (n := 19) rfl (by simp) (relM_back hb hla)
  refine wpIn_seq (region_to EnvOK.nil bk1 hR0 (by rw [bk_t0]; rfl) (by kernel_rfl) ?_)
  intro N1 a1 w1 hR1 hs1
  have hw1 : Below W.heap.size W w1 := hR1.m.below.toBelow
  have e0 : IntKind.i64.wrap ((l.length : Int) - 1) = (l.length : Int) - 1 := wr (by omega)
  have hF1 : BkF ln Bs ((l.length : Int) - 1 - (0 : Nat)) a1 := by
    refine ⟨hR1.t.defers, hR1.t.size, (hs1.at (t := 0) (by kernel_rfl)).trans (by simp), (hs1.at (t := 1) (by kernel_rfl)).trans (by simp), ?_⟩
    obtain ⟨v, h1, h2⟩ := hR1.t.look 3 (.c (.v (.int .i64 (IntKind.i64.wrap ((l.length : Int) - 1))))) rfl
    simp only [AV.val, CV.val, e0, Option.some.injEq] at h1
    rw [h2, ← h1]; simp
  refine wpIn_block ?_
  refine wpIn_loop (fun a w => ∃ k : Nat, k ≤ l.length ∧ BkF ln Bs ((l.length : Int) - 1 - k) a ∧ PP w ∧ J (upto (rev l) k) w) (fun a _ => bkIx a) ⟨0, Nat.zero_le _, hF1, hPb _ _ hW hw1, hJ _ _ _ h0 hw1⟩ ?_
  rintro a w ⟨k, hk, hF, hP, hJk⟩
  obtain ⟨ad, sn, cap, T, hb, hla⟩ := hPP w hP
  refine wpIn_seq (wpIn_seq (region_to EnvOK.nil bk2 (hF.rel hb hla) (by rw [bk_t1]; rfl) (by kernel_rfl) ?_))
  intro N2 a2 w2 hR2 hs2
  have hw2 : Below w.heap.size w w2 := hR2.m.below.toBelow
  have hF2 : BkF ln Bs ((l.length : Int) - 1 - k) a2 := ⟨hR2.t.defers, hR2.t.size, (hs2.at (by kernel_rfl)).trans hF.t0, (hs2.at (by kernel_rfl)).trans hF.t1, (hs2.at (by kernel_rfl)).trans hF.t3⟩
  obtain ⟨v8, h8, h8'⟩ := hR2.t.look 8 (.c (.v (.bool (decide (0 ≤ (l.length : Int) - 1 - k))))) rfl
  simp only [AV.val, CV.val, Option.some.injEq] at h8
  replace hP := hPb _ _ hP hw2
  replace hJk := hJ _ _ _ hJk hw2
  refine wpIn_cond_split (t := decide (0 ≤ (l.length : Int) - 1 - k)) (by simp [Act.eval, h8', ← h8]) ?_ ?_
  · intro ht
    have hlt : k < l.length := by simp at ht; omega
    refine wpIn_skip (wpIn_seq (wpIn_block (wpIn_seq (wpIn_region_list ?_))))
    rw [bk_split]
    obtain ⟨ad2, sn2, cap2, T2, hb2, hla2⟩ := hPP w2 hP
    have hi : 0 ≤ (l.length : Int) - 1 - k ∧ (l.length : Int) - 1 - k < (l.length : Int) := by omega
    have hg : l[((l.length : Int) - 1 - k).toNat]? = some (rev l k).2 := by
      rw [show ((l.length : Int) - 1 - k).toNat = l.length - 1 - k by omega, get_atI (by omega)]; rfl
    refine ops_to EnvOK.nil bk3 (x := ((yv ln, ((l.length : Int) - 1 - k, (yv ln, ((l.length : Int) - 1 - k, ((rev l k).2, ()))))), ((), (l, ())))) ((regOps 3 bkC).toList.take 6) _ (hF2.rel hb2 hla2)
      (by rw [bk_t3, den_br, if_pos (by simp; omega), hg]; rfl) (by kernel_rfl) ?_
    intro N3 a3 w3 hR3 hs3
    have hw3 : Below w2.heap.size w2 w3 := hR3.m.below.toBelow
    have hF3 : BkF ln Bs ((l.length : Int) - 1 - k) a3 := ⟨hR3.t.defers, hR3.t.size, (hs3.at (by kernel_rfl)).trans hF2.t0, (hs3.at (by kernel_rfl)).trans hF2.t1, (hs3.at (by kernel_rfl)).trans hF2.t3⟩
    obtain ⟨v11, p1, q11⟩ := hR3.t.look 11 (.c (.v (yv ln))) rfl
    obtain ⟨v12, p2, q12⟩ := hR3.t.look 12 (.c (.v (.int .i64 ((l.length : Int) - 1 - k)))) rfl
    obtain ⟨v16, p3, q16⟩ := hR3.t.look 16 (AV.ofVal1 (cIv.enc (rev l k).2)) rfl
    rw [ofVal1_val] at p3
    simp only [AV.val, CV.val, Option.some.injEq] at p1 p2 p3
    obtain ⟨fn, tmps, assign, body, hy, hRd⟩ := hY (upto (rev l) k) (rev l k) w3 (hJ _ _ _ hJk hw3) (by rw [upto_length]; exact hlt)
    rw [wpListIn, if_pos (show Region.wanted _ _ = true from rfl)]
    refine ⟨fun _ _ => trivial, ?_⟩
    have e11 : a3.eval (.tmp 11) = yv ln := by simp [Act.eval, q11, ← p1]
    have e12 : a3.eval (.tmp 12) = .int .i64 ((l.length : Int) - 1 - k) := by simp [Act.eval, q12, ← p2]
    have e16 : a3.eval (.tmp 16) = cIv.enc (rev l k).2 := by simp [Act.eval, q16, ← p3]
    rw [Oper.semAt_eq _ _ _ (by intro c hc; cases hc)]
    have hrun := yield_run e11 e12 e16 hy
    rw [hrun]
    refine ⟨fun h => by simp [wideR, Fence.wide] at h, hRd.mono ?_⟩
    have hp : ∀ (x : Bool) (w4 : World) (Q : Exit → Act → World → Prop), (∀ a' w', Below w4.heap.size w4 w' → BkF ln Bs ((l.length : Int) - 1 - k) a' → a'.eval (.tmp 18) = .bool (!x) → Q .normal a' w') →
        wpListIn (wideR none) n Tryz.prog (regOps 3 bkC) Q [{ dst := some 18, op := .unOp .not 4 (.tmp 17), type := 4, pos := "iter.go:29", after := #[{ on := 6, ground := .data }], guard := none }] (a3.put (some 17) (.bool x)) w4 := by
      intro x w4 Q hQ
      have hF4 : BkF ln Bs ((l.length : Int) - 1 - k) (a3.put (some 17) (.bool x)) := ⟨hF3.d, by simp [Act.put, hF3.n], (put_other (by simp)).trans hF3.t0, (put_other (by simp)).trans hF3.t1, (put_other (by simp)).trans hF3.t3⟩
      have hR4 : Rel w4.heap.size w4 [] (bk4.enc ((x, ()), ())) (a3.put (some 17) (.bool x)) w4 := by
        refine ⟨relM_start w4, hF4.d, hF4.n, fun t y ht => ?_⟩
        change Ev.look [(17, .c (.v (.bool x)))] t = some y at ht
        rw [look_cons] at ht
        split at ht
        · rename_i e; simp at ht; subst ht; subst e; exact ⟨_, rfl, by simp [Act.put, hF3.n]⟩
        · simp [Ev.look] at ht
      have := ops_to (ro := none) (n := n) (Q := Q) (x := ((!x, ()), ())) EnvOK.nil bk5 (ops := regOps 3 bkC) [{ dst := some 18, op := .unOp .not 4 (.tmp 17), type := 4, pos := "iter.go:29", after := #[{ on := 6, ground := .data }], guard := none }] [] hR4 (by rw [bk_t4]; rfl) (by kernel_rfl) (fun N' a' w' hR' hs' => wpListIn_nil (hQ a' w' hR'.m.below.toBelow
        ⟨hR'.t.defers, hR'.t.size, (hs'.at (by kernel_rfl)).trans hF4.t0, (hs'.at (by kernel_rfl)).trans hF4.t1, (hs'.at (by kernel_rfl)).trans hF4.t3⟩ (by
          obtain ⟨v, p4, q4⟩ := hR'.t.look 18 (.c (.v (.bool (!x)))) rfl
          simp only [AV.val, CV.val, Option.some.injEq] at p4
          simp [Act.eval, q4, ← p4])))
      rwa [List.append_nil] at this
    rintro e w4 (⟨rfl, hJ4, hP4⟩ | ⟨rfl, hJx4⟩)
    · refine hp true w4 _ fun a5 w5 hw5 hF5 h18 => ?_
      refine wpIn_cond_false h18 (wpIn_skip ?_)
      have hP5 : PP w5 := hPb _ _ (hP4 (hPb _ _ hP hw3)) hw5
      obtain ⟨ad5, sn5, cap5, T5, hb5, hla5⟩ := hPP w5 hP5
      refine region_to EnvOK.nil bk1 (hF5.rel hb5 hla5) (by rw [bk_t2]; rfl) (by kernel_rfl) ?_
      intro N6 a6 w6 hR6 hs6
      have hw6 : Below w5.heap.size w5 w6 := hR6.m.below.toBelow
      have e6 : IntKind.i64.wrap ((l.length : Int) - 1 - k - 1) = (l.length : Int) - 1 - k - 1 := wr (by omega)
      have t36 : a6.tmps[3]? = some (.int .i64 ((l.length : Int) - 1 - (k + 1 : Nat))) := by
        obtain ⟨v, p4, q4⟩ := hR6.t.look 3 (.c (.v (.int .i64 (IntKind.i64.wrap ((l.length : Int) - 1 - k - 1))))) rfl
        simp only [AV.val, CV.val, e6, Option.some.injEq] at p4
        rw [q4, ← p4, show (l.length : Int) - 1 - (k + 1 : Nat) = (l.length : Int) - 1 - k - 1 by omega]
      refine ⟨⟨k + 1, hlt, ⟨hR6.t.defers, hR6.t.size, (hs6.at (by kernel_rfl)).trans hF5.t0, (hs6.at (by kernel_rfl)).trans hF5.t1, t36⟩, hPb _ _ hP5 hw6, ?_⟩, ?_⟩
      · rw [upto_succ]; exact hJ _ _ _ (hJ _ _ _ hJ4 hw5) hw6
      · simp only [bkIx, t36, hF.t3]; omega
    · refine hp false w4 _ fun a5 w5 hw5 hF5 h18 => ?_
      refine wpIn_cond_true h18 (wpIn_ret ?_)
      exact ⟨hF5.d, _, results_none (by kernel_rfl) _ _ _, ⟨_, rfl⟩, .inr ⟨_, trivial, hJx _ _ _ hJx4 hw5⟩⟩
  · intro ht
    have hlt : k = l.length := by simp at ht; omega
    subst hlt
    refine wpIn_exit ?_
    refine ⟨hF2.d, _, results_none (by kernel_rfl) _ _ _, ⟨_, rfl⟩, .inl ⟨_, rfl, hJk⟩⟩
end Go.Proofs.YtlbmjajjldfigaaGreat
