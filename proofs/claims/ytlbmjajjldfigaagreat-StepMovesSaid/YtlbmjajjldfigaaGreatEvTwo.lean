/-
  The evaluator's operations are sound, continued: parts laid together, tests, calls; regions in the text's order and in whatever order.
-/
import Derived.Test.YtlbmjajjldfigaaGreatEvOne
namespace Go.Proofs.YtlbmjajjldfigaaGreat.Ev
open Go Go.RowKit
universe u

theorem setFold : ∀ (vs : List Value) (k off : Nat) (arr : Array Value), off + k + vs.length ≤ arr.size →
    (vs.zipIdx k).foldl (fun (cs : Array Value) (x : Value × Nat) => cs.setIfInBounds (off + x.2) x.1) arr = (arr.toList.take (off + k) ++ vs ++ arr.toList.drop (off + k + vs.length)).toArray
  | [], k, off, arr, h => by simp
  | v :: r, k, off, arr, h => by
    simp only [List.length_cons] at h
    have hk : off + k < arr.size := by omega
    simp only [List.zipIdx_cons, List.foldl_cons]
    rw [setFold r (k + 1) off (arr.setIfInBounds (off + k) v) (by simp; omega)]
    apply Array.ext'
    simp only [Array.toList_setIfInBounds]
    apply List.ext_getElem?
    intro j
    have hlen : arr.toList.length = arr.size := by simp
    simp only [List.getElem?_append, List.length_append, List.length_take, List.length_set, hlen, List.getElem?_take, List.getElem?_drop, List.getElem?_set, List.length_cons]
    have m1 : min (off + (k + 1)) arr.size = off + (k + 1) := by omega
    have m2 : min (off + k) arr.size = off + k := by omega
    rw [m1, m2]
    rcases Nat.lt_trichotomy j (off + k) with hj | hj | hj
    · have c1 : j < off + (k + 1) + r.length := by omega
      have c2 : j < off + (k + 1) := by omega
      have c3 : ¬ off + k = j := by omega
      have c4 : j < off + k + (r.length + 1) := by omega
      simp [c1, c2, c3, c4, hj]
    · subst hj
      have c1 : off + k < off + (k + 1) + r.length := by omega
      have c2 : off + k < off + (k + 1) := by omega
      have c4 : off + k < off + k + (r.length + 1) := by omega
      simp [c1, c2, c4, hk]
    · by_cases hj2 : j < off + (k + 1) + r.length
      · have c2 : ¬ j < off + (k + 1) := by omega
        have c4 : j < off + k + (r.length + 1) := by omega
        have c5 : ¬ j < off + k := by omega
        simp only [hj2, c2, c4, c5, if_true, if_false]
        obtain ⟨m, rfl⟩ : ∃ m, j = off + k + 1 + m := ⟨j - (off + k + 1), by omega⟩
        have e1 : off + k + 1 + m - (off + (k + 1)) = m := by omega
        have e2 : off + k + 1 + m - (off + k) = m + 1 := by omega
        rw [e1, e2]; simp
      · have c4 : ¬ j < off + k + (r.length + 1) := by omega
        simp only [hj2, c4, if_false]
        have c3 : ¬ off + k = off + (k + 1) + r.length + (j - (off + (k + 1) + r.length)) := by omega
        simp only [c3, if_false]
        congr 1
        omega

section
variable {P : Program} {E : Env} {ρ : Type} {r : ρ} {B : Nat} {w0 : World} {N : List Nm} {s : St} {a : Act}

theorem cells_spec {x : AV} {cs : List CV} {v : Value} (h : x.cells = some cs) (hv : x.val N = some v) : ∃ vs, CV.vals N cs = some vs ∧ v.cells.toList = vs := by
  cases x with
  | c x =>
    unfold AV.cells at h
    split at h
    · cases h
    · rename_i y h1 h2
      cases h2
      simp at h; subst h
      simp only [AV.val] at hv
      refine ⟨[v], by simp [CV.vals, hv], ?_⟩
      cases v <;> try rfl
      rename_i cs
      exfalso
      cases x with
      | v z => simp [CV.val] at hv; subst hv; exact h1 _ rfl
      | k n => simp [CV.val] at hv
      | b n => simp [CV.val] at hv
      | own i off => simp only [CV.val] at hv; split at hv <;> simp at hv
      | el i e sz off => simp only [CV.val] at hv; split at hv <;> simp at hv
      | sl i => simp only [CV.val] at hv; split at hv <;> simp at hv
    · rename_i h2; cases h2
    · cases h
  | agg l =>
    simp [AV.cells] at h; subst h
    simp only [AV.val] at hv
    split at hv
    · rename_i q hq; simp at hv; subst hv; exact ⟨q, hq, rfl⟩
    · cases hv
  | tup2 a b => simp [AV.cells] at h
  | tup3 a b d => simp [AV.cells] at h
  | clo f l => simp [AV.cells] at h

theorem buildA_sound (hT : RelT N s a) (place : Nat → Option (Nat × Nat)) (place' : Nat → Option (Nat × Nat)) (hp : ∀ i x, place i = some x → place' i = some x) :
    ∀ (parts : List (Nat × Operand)) (cs q : List CV) (vs : List Value), buildA place s cs parts = some q → CV.vals N cs = some vs →
    ∃ us, CV.vals N q = some us ∧ Instr.fill place' vs.toArray (parts.map fun (x : Nat × Operand) => (x.1, a.eval x.2)) = some us.toArray
  | [], cs, q, vs, h, hv => by simp [buildA] at h; subst h; exact ⟨vs, hv, by simp [Instr.fill]⟩
  | (i, x) :: r, cs, q, vs, h, hv => by
    simp only [buildA] at h
    split at h
    · rename_i off n hpl
      split at h
      · rename_i y hy
        split at h
        · rename_i xs hxs
          split at h
          · rename_i hn
            have hn' : n = xs.length := Nat.eq_of_beq_eq_true hn
            split at h
            · rename_i cs' hcs'
              obtain ⟨us0, h1, h2⟩ := cells_spec hxs (opnd_val hT hy)
              obtain ⟨rfl, hlen⟩ := overlay_eq _ _ _ _ hcs'
              have hvs' := cvs_append (cvs_append (cvs_take off hv) h1) (cvs_drop (off + xs.length) hv)
              obtain ⟨us, e1, e2⟩ := buildA_sound hT place place' hp r _ q _ h hvs'
              refine ⟨us, e1, ?_⟩
              have l1 := cvs_length h1
              have l2 := cvs_length hv
              have hcs : (a.eval x).cells.size = n := by
                have : (a.eval x).cells.toList.length = us0.length := by rw [h2]
                simp at this; omega
              simp only [List.map_cons, Instr.fill, hp _ _ hpl]
              have c1 : ¬ ((a.eval x).cells.size ≠ n ∨ off + (a.eval x).cells.size > vs.toArray.size) := by
                simp [hcs]; omega
              have hcond : (decide ((a.eval x).cells.size ≠ n) || decide (off + (a.eval x).cells.size > vs.toArray.size)) = false := by
                simp [hcs]; omega
              simp only [hcond, Bool.false_eq_true, if_false]
              rw [← e2]
              congr 1
              rw [← Array.foldl_toList, Array.toList_zipIdx, h2]
              rw [setFold us0 0 off vs.toArray (by simp; omega)]
              simp [← l1]
            · cases h
          · cases h
        · cases h
      · cases h
    · cases h

theorem places_run : ∀ {fs : List Field} {pl : List (Nat × Nat)}, places P fs = some pl → ∀ w,
    (fs.mapM (m := Sem) fun f => do pure (f.offset, ← sizeOf f.type)).run P w = .ok pl w
  | [], pl, h, w => by simp [places] at h; subst h; simp
  | f :: r, pl, h, w => by
    simp only [places] at h
    split at h
    · rename_i n hn
      split at h
      · rename_i l hl
        simp at h; subst h
        simp only [List.mapM_cons, Sem.run_bind, sizeT_run hn, Result.andThen_ok, Sem.run_pure, places_run hl w]
      · cases h
    · cases h

theorem build_sound (hT : RelT N s a) {t : TypeId} {parts : Array (Nat × Operand)} {y : AV} (h : evBuild P s t parts.toList = some y) :
    ∃ v, y.val N = some v ∧ ∀ w, (Instr.build t (parts.map fun (x : Nat × Operand) => (x.1, a.eval x.2))).run P w = .ok v w := by
  unfold evBuild at h
  split at h
  · rename_i z hz
    split at h
    · rename_i fs hu
      split at h
      · rename_i pl hpl
        split at h
        · rename_i cs hcs
          simp at h; subst h
          obtain ⟨us, h1, h2⟩ := buildA_sound hT (nth pl) (pl.toArray[·]?) (fun i x hx => by rw [nth_eq] at hx; simpa using hx) _ _ _ _ hcs (cvs_mapV z)
          refine ⟨.agg us.toArray, by simp [AV.val, h1], fun w => ?_⟩
          obtain ⟨zv, e1, e2⟩ := zeroT_run hz w
          have hm : (fs.mapM (m := Sem) fun f => do pure (f.offset, ← sizeOf f.type)).run P w = .ok pl.toArray w := by
            rw [Array.mapM_eq_mapM_toList]
            simp only [Sem.run_map, places_run hpl w, Result.andThen_ok]
          have e3 : zv.cells = z.toArray := by rw [← e2]
          simp only [Instr.build, Sem.run_bind, e1, Result.andThen_ok, run_underlying hu, hm, Array.toList_map, e3, h2, Sem.run_pure]
        · cases h
      · cases h
    · rename_i n e hu
      split at h
      · rename_i m hm
        split at h
        · rename_i cs hcs
          simp at h; subst h
          obtain ⟨us, h1, h2⟩ := buildA_sound hT (fun i => some (i * m, m)) (fun i => some (i * m, m)) (fun i x hx => hx) _ _ _ _ hcs (cvs_mapV z)
          refine ⟨.agg us.toArray, by simp [AV.val, h1], fun w => ?_⟩
          obtain ⟨zv, e1, e2⟩ := zeroT_run hz w
          have e3 : zv.cells = z.toArray := by rw [← e2]
          simp only [Instr.build, Sem.run_bind, e1, Result.andThen_ok, run_underlying hu, sizeT_run hm, Array.toList_map, e3, h2, Sem.run_pure]
        · cases h
      · cases h
    · cases h
  · cases h

theorem pick_sound {c x y : Option AV} {k : AV → Tr ρ} (h : (evPick c x y k).den = some r) :
    ∃ z, (k z).den = some r ∧ ∀ N vc vx vy, (∀ z, c = some z → z.val N = some vc) → (∀ z, x = some z → z.val N = some vx) → (∀ z, y = some z → z.val N = some vy) →
      ∃ b, vc = .bool b ∧ z.val N = some (if b then vx else vy) := by
  unfold evPick at h
  split at h
  · split at h
    · refine ⟨_, h, fun N vc vx vy hc hx hy => ?_⟩
      have := hc _ rfl; simp [AV.val, CV.val] at this; subst this; exact ⟨true, rfl, by simpa using hx _ rfl⟩
    · cases h
  · split at h
    · refine ⟨_, h, fun N vc vx vy hc hx hy => ?_⟩
      have := hc _ rfl; simp [AV.val, CV.val] at this; subst this; exact ⟨false, rfl, by simpa using hy _ rfl⟩
    · cases h
  · rename_i b
    cases b <;> simp only [Tr.den] at h
    · split at h
      · refine ⟨_, h, fun N vc vx vy hc hx hy => ?_⟩
        have := hc _ rfl; simp [AV.val, CV.val] at this; subst this; exact ⟨false, rfl, by simpa using hy _ rfl⟩
      · cases h
    · split at h
      · refine ⟨_, h, fun N vc vx vy hc hx hy => ?_⟩
        have := hc _ rfl; simp [AV.val, CV.val] at this; subst this; exact ⟨true, rfl, by simpa using hx _ rfl⟩
      · cases h
  · cases h

/-- What is asked of the callees' contracts. -/
structure EnvOK (P : Program) (E : Env) : Prop where
  call : ∀ f args M q, E f args M = some q → ∀ vs w, (callFunc f vs).run P w = .ok (.enter f vs) w
  pure : ∀ f args M α x val, E f args M = some (.pure α x val) → ∀ B w0 N w vs, RelM B w0 N M w → AV.vals N args = some vs →
    Calls P f vs.toArray w fun e w' => e = .returned (val x) ∧ Below w.heap.size w w'
  pre : ∀ f args M α x val, E f args M = some (.pre true α x val) → ∀ B w0 N w vs, RelM B w0 N M w → AV.vals N args = some vs →
    Calls P f vs.toArray w fun e w' => e = .returned (val x) ∧ Below w.heap.size w w'
  rows : ∀ f args M α x av rows, E f args M = some (.rows true α x av rows) → growsB (rows x) = true ∧ ∀ B w0 N w vs, RelM B w0 N M w → AV.vals N args = some vs →
    Calls P f vs.toArray w fun e w' => ∃ N2 v, (∀ N0 : List Nm, (av N0.length x).val (N0 ++ N2) = some v) ∧ e = .returned v ∧ RelM w.heap.size w N2 (rows x) w'
  tree : ∀ f args M T, E f args M = some (.tree T) → ∀ y, T.den = some y → ∀ B w0 N w vs, RelM B w0 N M w → AV.vals N args = some vs →
    Calls P f vs.toArray w fun e w' => ∃ N' v, NLe N N' ∧ y.1.val N' = some v ∧ e = .returned v ∧ RelM B w0 N' y.2 w'

theorem andK_den {α ρ : Type} {k : α → Tr ρ} {r : ρ} : ∀ {T : Tr α}, (T.andK k).den = some r → ∃ y, T.den = some y ∧ (k y).den = some r
  | .ret y, h => ⟨y, rfl, h⟩
  | .fail, h => by cases h
  | .br b t e, h => by
    cases b
    · exact andK_den (T := e) h
    · exact andK_den (T := t) h
  | .bind x f, h => andK_den (T := f x) h
  | .get o f, h => by
    cases o with
    | none => cases h
    | some x => exact andK_den (T := f x) h
  | .sum x f g, h => by
    cases x with
    | inl x => exact andK_den (T := f x) h
    | inr x => exact andK_den (T := g x) h

theorem avs_append {l m : List AV} {x y : List Value} (h : AV.vals N l = some x) (k : AV.vals N m = some y) : AV.vals N (l ++ m) = some (x ++ y) := by
  induction l generalizing x with
  | nil => simp [AV.vals] at h; subst h; simpa using k
  | cons c r ih =>
    simp only [AV.vals] at h
    split at h
    · rename_i v hv
      split at h
      · rename_i q hq; simp at h; subst h; simp [AV.vals, hv, ih hq]
      · cases h
    · cases h
theorem avs_caps : ∀ {l : List CV} {x : List Value}, CV.vals N l = some x → AV.vals N (l.map AV.c) = some x
  | [], x, h => h
  | c :: r, x, h => by
    simp only [CV.vals] at h
    split at h
    · rename_i v hv
      split at h
      · rename_i q hq; simp at h; subst h; simp [AV.vals, AV.val, hv, avs_caps hq]
      · cases h
    · cases h

theorem callee_sound {N : List Nm} {a : Act} (hT : RelT N s a) {f : Operand} {g : FuncId} {caps : List AV} (h : callee s f = some (g, caps)) :
    ∃ cv, AV.vals N caps = some cv ∧ a.eval f = .func (.func g) #[] cv.toArray := by
  unfold callee at h
  split at h
  · simp at h; obtain ⟨rfl, rfl⟩ := h; exact ⟨[], rfl, rfl⟩
  · split at h
    · rename_i f' cs hl
      simp at h; obtain ⟨rfl, rfl⟩ := h
      obtain ⟨v, h1, h2⟩ := hT.look _ _ hl
      simp only [AV.val] at h1
      split at h1
      · rename_i l hl'
        simp at h1; subst h1
        exact ⟨l, avs_caps hl', by simp [Act.eval, h2]⟩
      · cases h1
    · cases h
  · cases h

theorem call_run (hT : RelT N s a) (hE : EnvOK P E) {f : Operand} {g : FuncId} {caps l : List AV} {args : Array Operand} {q : CallR} (h : callee s f = some (g, caps)) (ha : opnds s args.toList = some l) {M : List Row} (hq : E g (l ++ caps) M = some q)
    (o : Oper) (at_ : Array TypeId) (ho : o.op = .call { callee := .value f, args := args, argTypes := at_ }) :
    ∃ vs, AV.vals N (l ++ caps) = some vs ∧ ∀ w, (execOp a.eval o).run P w = .ok (.enter g vs.toArray) w := by
  obtain ⟨cv, h1, h2⟩ := callee_sound hT h
  refine ⟨_, avs_append (opnds_val hT ha) h1, fun w => ?_⟩
  have hc := hE.call _ _ _ _ hq (((args.toList.map a.eval) ++ cv).toArray) w
  have he : (args.map a.eval) ++ cv.toArray = ((args.toList.map a.eval) ++ cv).toArray := by
    apply Array.ext'; simp
  simp only [execOp, ho, resolve, h2, Deferred.ofValue, Sem.run_bind, Sem.run_pure, Result.andThen_ok, invoke, Array.empty_append, he, hc]

theorem find_trunc {fn : Func} (h : fn.name = "math.archTrunc") (h2 : fn.origin = "") : Extern.find fn = some (Extern.MathFloor.toIntegral "math.archTrunc" .zero) ∧ Extern.findNext fn = none := by
  unfold Extern.find Extern.findNext
  rw [h, h2]
  exact ⟨by rfl, by rfl⟩
theorem trunc_run {f : FuncId} {args : List AV} {o : Option Nat} {n : Nat} {vs : List Value} (h : extF P f args = some o) (ho : o = some n) (hv : AV.vals N args = some vs) (w : World) : (callFunc f vs.toArray).run P w = .ok (.value (.float .f64 n)) w := by
  unfold extF at h
  split at h
  · rename_i ht
    unfold isTrunc at ht
    split at ht
    · rename_i fn hf
      simp only [Bool.and_eq_true, beq_iff_eq] at ht
      obtain ⟨hb, hn, hor⟩ := ht
      split at h
      · rename_i b
        simp at h; subst h
        simp [AV.vals, AV.val, CV.val] at hv; subst hv
        obtain ⟨e1, e2⟩ := find_trunc hn hor
        rw [run_callFunc_extern hf (by rw [hn]; decide) hb e2 e1]
        have key : Extern.MathFloor.toIntegral "math.archTrunc" .zero #[.float .f64 b] = (match FloatKind.f64.decode b with
            | .nan s t =>
              if FloatKind.f64.format.quiet t = t then pure (.float .f64 b) else do
              let kept ← choose (.extern "math.Floor,Ceil,Trunc,RoundToEven.signallingNaN kept" 2)
              pure (.float .f64 (if kept == 1 then b else FloatKind.f64.encode (.nan s (FloatKind.f64.format.quiet t))))
            | d => pure (.float .f64 (FloatKind.f64.encode (d.integral .zero)))) := rfl
        rw [key]
        unfold fTrunc at ho
        split at ho
        · cases ho
        · rename_i s hd
          simp at ho; subst ho
          rw [hd]; rfl
        · rename_i s m e hd
          simp at ho; subst ho
          rw [hd]; rfl
      · cases h
    · cases ht
  · cases h
theorem ext_run (hT : RelT N s a) {f : Operand} {g : FuncId} {caps l : List AV} {args : Array Operand} {q : Option Nat} {n : Nat} (h : callee s f = some (g, caps)) (ha : opnds s args.toList = some l) (hq : extF P g (l ++ caps) = some q) (hn : q = some n)
    (o : Oper) (at_ : Array TypeId) (ho : o.op = .call { callee := .value f, args := args, argTypes := at_ }) : ∀ w, (execOp a.eval o).run P w = .ok (.value (.float .f64 n)) w := by
  intro w
  obtain ⟨cv, h1, h2⟩ := callee_sound hT h
  have hc := trunc_run hq hn (avs_append (opnds_val hT ha) h1) w
  have he : (args.map a.eval) ++ cv.toArray = ((args.toList.map a.eval) ++ cv).toArray := by
    apply Array.ext'; simp
  simp only [execOp, ho, resolve, h2, Deferred.ofValue, Sem.run_bind, Sem.run_pure, Result.andThen_ok, invoke, Array.empty_append, he, hc]
theorem avInt_val {x : AV} {n : Int} (h : avInt x = some n) : x.val N = some (.int .i64 n) := by
  unfold avInt at h
  split at h <;> simp at h <;> subst h <;> rfl

theorem index_sound {t : TypeId} {x ix y : AV} {vx vi : Value} (h : indexA P t x ix = some y) (hx : x.val N = some vx) (hi : ix.val N = some vi) :
    ∃ v, y.val N = some v ∧ ∀ w, (Instr.index t vx vi).run P w = .ok v w := by
  unfold indexA at h
  split at h
  · rename_i cs n
    simp only [AV.val, CV.val, Option.some.injEq] at hi; subst hi
    split at h
    · rename_i len e hu
      split at h
      · rename_i hd
        have hd' := of_decide_eq_true hd
        split at h
        · rename_i z hz
          simp only [AV.val] at hx
          split at hx
          · rename_i vs hvs
            simp at hx; subst hx
            obtain ⟨v, e1, e2⟩ := part_sound h hvs
            refine ⟨v, e1, fun w => ?_⟩
            simp only [Instr.index, asIntOf, Sem.run_bind, Sem.run_pure, Result.andThen_ok, run_underlying hu]
            rw [if_pos hd']
            simp only [Sem.run_bind, sizeT_run hz, Result.andThen_ok, e2]
          · cases hx
        · cases h
      · cases h
    · cases h
  · cases h

theorem indexAddr_sound {M : List Row} {t : TypeId} {x ix : AV} {k : AV → Tr ρ} (h : (indexAddrK P M t x ix k).den = some r) :
    ∃ y, (k y).den = some r ∧ ∀ (B : Nat) (w0 : World) (N : List Nm) (w1 : World), RelM B w0 N M w1 → ∀ vx vi, x.val N = some vx → ix.val N = some vi → ∃ v, y.val N = some v ∧ ∀ w, (Instr.indexAt t vx vi).run P w = .ok v w := by
  unfold indexAddrK at h
  split at h
  · rename_i i n hn
    split at h
    · rename_i L hL
      split at h
      · rename_i e hu
        split at h
        · rename_i z hz
          split at h
          · rename_i hsz
            unfold Tr.den at h
            split at h
            · rename_i hd
              have hd' := of_decide_eq_true hd
              refine ⟨_, h, fun B w0 N w1 hM vx vi hx hi => ?_⟩
              rw [avInt_val hn] at hi; cases hi
              obtain ⟨a, m, cap, hnn, hl⟩ := lst_at hM hL
              simp only [AV.val, CV.val, hnn] at hx
              simp at hx; subst hx
              rcases hl with ⟨he, h0⟩ | ⟨a2, cap2, he, hsp, _, _⟩
              · rw [h0] at hd'; simp at hd'; omega
              · cases he
                refine ⟨.pointer (some ⟨a2.block, a2.off + n.toNat * z + 0, none⟩), by simp only [AV.val, CV.val, hnn], fun w => ?_⟩
                simp only [Instr.indexAt, asIntOf, Sem.run_bind, Sem.run_pure, Result.andThen_ok, run_underlying hu]
                rw [if_pos hd']
                simp [sizeT_run hz, addr_add (hsp (by intro h0; rw [h0] at hd'; simp at hd'; omega))]
            · simp [Tr.den] at h
          · simp [Tr.den] at h
        · simp [Tr.den] at h
      · simp [Tr.den] at h
    · simp [Tr.den] at h
  · split at h
    · rename_i q hq
      unfold indexAddrA at hq
      split at hq
      · rename_i i off n _
        split at hq
        · rename_i len e hu
          split at hq
          · rename_i hd
            have hd' := of_decide_eq_true hd
            split at hq
            · rename_i z hz
              simp at hq; subst hq
              refine ⟨_, h, fun B w0 N w1 hM vx vi hx hi => ?_⟩
              simp only [AV.val, CV.val, Option.some.injEq] at hi; subst hi
              simp only [AV.val, CV.val] at hx
              split at hx
              · rename_i bk hb
                simp at hx; subst hx
                refine ⟨.pointer (some ⟨bk, off + n.toNat * z, none⟩), by simp only [AV.val, CV.val, hb], fun w => ?_⟩
                simp only [Instr.indexAt, asIntOf, Sem.run_bind, Sem.run_pure, Result.andThen_ok, run_underlying hu, Instr.sureAddr]
                rw [if_pos hd']
                simp [sizeT_run hz, addr_add]
              · cases hx
            · cases hq
          · cases hq
        · cases hq
      · cases hq
    · simp [Tr.den] at h

theorem caps_val : ∀ {l : List AV} {cs : List CV} {vs : List Value}, capsOf l = some cs → AV.vals N l = some vs → CV.vals N cs = some vs
  | [], cs, vs, h, hv => by simp [capsOf] at h; subst h; simp [AV.vals] at hv; subst hv; rfl
  | .c x :: q, cs, vs, h, hv => by
    simp only [capsOf] at h
    split at h
    · rename_i l hl
      simp at h; subst h
      simp only [AV.vals, AV.val] at hv
      split at hv
      · rename_i v hv1
        split at hv
        · rename_i u hu
          simp at hv; subst hv
          simp [CV.vals, hv1, caps_val hl hu]
        · cases hv
      · cases hv
    · cases h
  | .agg _ :: _, _, _, h, _ => by simp [capsOf] at h
  | .tup2 _ _ :: _, _, _, h, _ => by simp [capsOf] at h
  | .tup3 _ _ _ :: _, _, _, h, _ => by simp [capsOf] at h
  | .clo _ _ :: _, _, _, h, _ => by simp [capsOf] at h

theorem avplains_val : ∀ {l : List AV} {vs : List Value}, AV.plains l = some vs → AV.vals N l = some vs
  | [], _, h => h
  | y :: q, vs, h => by
    simp only [AV.plains] at h
    split at h
    · rename_i v hv
      split at h
      · rename_i u hu; simp at h; subst h; simp [AV.vals, avplain_val hv, avplains_val hu]
      · cases h
    · cases h

theorem max2_run (a b : Int) (w : World) : (Builtin.max2 (.int .i64 a) (.int .i64 b)).run P w = .ok (.int .i64 (max a b)) w := by
  simp only [Builtin.max2, Sem.run_pure, Int.max_def]
  congr 2
  split <;> split <;> omega
theorem min2_run (a b : Int) (w : World) : (Builtin.min2 (.int .i64 a) (.int .i64 b)).run P w = .ok (.int .i64 (min a b)) w := by
  simp only [Builtin.min2, Sem.run_pure, Int.min_def]
  congr 2
  split <;> split <;> omega

/-- What a built-in call comes to. -/
def builtinV (b : Builtin) (ts : Array TypeId) (t : TypeId) (consts : Array Bool) (vs : Array Value) : Sem Next := builtin b ts t consts vs

theorem builtin_sound {b : Builtin} {ts : Array TypeId} {t : TypeId} {l : List AV} {y : AV} {vs : List Value} (h : evBuiltin P b ts t l = some y) (hv : AV.vals N l = some vs) (consts : Array Bool) :
    ∃ v, y.val N = some v ∧ ∀ w, (builtin b ts t consts vs.toArray).run P w = .ok (.value v) w := by
  have two : ∀ {x z : AV} {a c : Int}, avInt x = some a → avInt z = some c → AV.vals N [x, z] = some vs → vs = [.int .i64 a, .int .i64 c] := by
    intro x z a c h1 h2 h3
    simp [AV.vals, avInt_val h1, avInt_val h2] at h3; exact h3.symm
  unfold evBuiltin at h
  split at h
  · split at h
    · rename_i a ha
      split at h
      · rename_i c hc
        simp at h; subst h
        rw [two ha hc hv]
        exact ⟨_, rfl, fun w => by simp [builtin, Builtin.max_, max2_run]⟩
      · cases h
    · cases h
  · split at h
    · rename_i a ha
      split at h
      · rename_i c hc
        simp at h; subst h
        rw [two ha hc hv]
        exact ⟨_, rfl, fun w => by simp [builtin, Builtin.min_, min2_run]⟩
      · cases h
    · cases h
  · split at h
    · rename_i a ha
      split at h
      · rename_i c hc
        split at h
        · rename_i d hd
          simp at h; subst h
          simp [AV.vals, avInt_val ha, avInt_val hc, avInt_val hd] at hv; subst hv
          exact ⟨_, rfl, fun w => by simp [builtin, Builtin.max_, max2_run]⟩
        · cases h
      · cases h
    · cases h
  · split at h
    · rename_i a ha
      split at h
      · rename_i c hc
        split at h
        · rename_i d hd
          split at h
          · rename_i e he
            simp at h; subst h
            simp [AV.vals, avInt_val ha, avInt_val hc, avInt_val hd, avInt_val he] at hv; subst hv
            exact ⟨_, rfl, fun w => by simp [builtin, Builtin.max_, max2_run]⟩
          · cases h
        · cases h
      · cases h
    · cases h
  · cases h
  · split at h
    · rename_i us hus
      rw [avplains_val hus] at hv; cases hv
      split at h
      · split at h
        · rename_i v hp; simp at h; subst h
          exact ⟨v, ofVal_val N v, fun w => by simp [builtin, pureRun_sound hp w]⟩
        · cases h
      · split at h
        · rename_i v hp; simp at h; subst h
          exact ⟨v, ofVal_val N v, fun w => by simp [builtin, pureRun_sound hp w]⟩
        · cases h
      · split at h
        · rename_i v hp; simp at h; subst h
          exact ⟨v, ofVal_val N v, fun w => by simp [builtin, pureRun_sound hp w]⟩
        · cases h
      · cases h
    · cases h

theorem len_sound {w1 : World} {M : List Row} (hM : RelM B w0 N M w1) {b : Builtin} {ts : Array TypeId} {t : TypeId} {l : List AV} {y : AV} {vs : List Value} (h : lenK P M b ts.toList l = some y) (hv : AV.vals N l = some vs) (consts : Array Bool) :
    ∃ v, y.val N = some v ∧ ∀ w, (builtin b ts t consts vs.toArray).run P w = .ok (.value v) w := by
  unfold lenK at h
  split at h
  · rename_i i t' hts
    split at h
    · rename_i e hu
      split at h
      · rename_i L hL
        simp at h; subst h
        obtain ⟨a, n, cap, hn, hl⟩ := lst_at hM hL
        simp [AV.vals, AV.val, CV.val, hn] at hv; subst hv
        have hts' : ts = #[t'] := by apply Array.ext'; simpa using hts
        refine ⟨_, rfl, fun w => ?_⟩
        have hlen : n = L.l.length := by
          rcases hl with ⟨he, h0⟩ | ⟨a2, c2, he, _⟩
          · cases he; simp [h0]
          · cases he; rfl
        simp [builtin, Builtin.len_, hts', run_underlying hu, goInt, hlen]
      · split at h
        · rename_i hL
          simp at h; subst h
          have hn : nth N i = some (.sv none 0 0) := hM.row i _ hL
          simp [AV.vals, AV.val, CV.val, hn] at hv; subst hv
          have hts' : ts = #[t'] := by apply Array.ext'; simpa using hts
          refine ⟨_, rfl, fun w => ?_⟩
          simp [builtin, Builtin.len_, hts', run_underlying hu, goInt]
        · cases h
    · cases h
  · rename_i t' hts
    split at h
    · rename_i e hu
      simp at h; subst h
      simp [AV.vals, AV.val, CV.val] at hv; subst hv
      have hts' : ts = #[t'] := by apply Array.ext'; simpa using hts
      refine ⟨_, rfl, fun w => ?_⟩
      simp [builtin, Builtin.len_, hts', run_underlying hu, goInt]
    · cases h
  · rename_i s t' hts
    split at h
    · rename_i hu
      simp at h; subst h
      simp [AV.vals, AV.val, CV.val] at hv; subst hv
      have hts' : ts = #[t'] := by apply Array.ext'; simpa using hts
      refine ⟨_, rfl, fun w => ?_⟩
      simp [builtin, Builtin.len_, hts', run_underlying hu, goInt]
    · cases h
  · cases h

theorem binS_sound {op : BinOp} {t : TypeId} {xo yo : Operand} {x y : AV} {k : AV → Tr ρ} (h : (evBinS P op t xo yo x y k).den = some r) :
    ∃ z, (k z).den = some r ∧ ∀ N vx vy, x.val N = some vx → y.val N = some vy → ∃ v, z.val N = some v ∧ ∀ w, (binV op t xo yo vx vy).run P w = .ok v w := by
  unfold evBinS at h
  split at h
  · rename_i a b hs
    have hxy : x = .c (.v (.string a)) ∧ y = .c (.v (.string b)) := by
      unfold strsOf at hs
      split at hs
      · split at hs
        · simp at hs; exact ⟨by rw [hs.1], by rw [hs.2]⟩
        · cases hs
      · cases hs
    obtain ⟨rfl, rfl⟩ := hxy
    split at h
    · unfold Tr.den at h
      split at h
      · rename_i hok
        have hok := of_decide_eq_true hok
        refine ⟨_, h, fun N vx vy hx hy => ⟨_, rfl, fun w => ?_⟩⟩
        simp only [AV.val, CV.val, Option.some.injEq] at hx hy; subst hx; subst hy
        have h2 := run_string_add_sum (P := P) (w := w) a b (by omega)
        simp only [binV, Sem.run_bind, eqGuard, binOp_string_add]
        simp [h2]
      · cases h
    · refine ⟨_, h, fun N vx vy hx hy => ⟨_, rfl, fun w => ?_⟩⟩
      simp only [AV.val, CV.val, Option.some.injEq] at hx hy; subst hx; subst hy
      simp only [binV, Sem.run_bind, eqGuard, binOp_string_eql]
      simp [strEq, ByteArray.toList_eq]
    · refine ⟨_, h, fun N vx vy hx hy => ⟨_, rfl, fun w => ?_⟩⟩
      simp only [AV.val, CV.val, Option.some.injEq] at hx hy; subst hx; subst hy
      simp only [binV, Sem.run_bind, eqGuard, binOp_string_neq]
      simp [strEq, ByteArray.toList_eq]
    · cases h
  · exact bin_sound h
theorem binV_plain {op : BinOp} {t : TypeId} {xo yo : Operand} {u v : Value} {w : World} (h : (eqGuard op t xo yo u v).run P w = .ok () w) {z : Value} (h2 : (binOp op t u v).run P w = .ok z w) : (binV op t xo yo u v).run P w = .ok z w := by
  simp [binV, h, h2]
theorem eqGuard_float (op : BinOp) (t : TypeId) (xo yo : Operand) (a b : Nat) (w : World) : (eqGuard op t xo yo (.float .f64 a) (.float .f64 b)).run P w = .ok () w := by
  cases op <;> simp [eqGuard]
theorem eqGuard_complex (op : BinOp) (t : TypeId) (xo yo : Operand) (a b c d : Nat) (w : World) : (eqGuard op t xo yo (.complex .f64 a b) (.complex .f64 c d)).run P w = .ok () w := by
  cases op <;> simp [eqGuard]
theorem fCmp_run {op : BinOp} {a b : Nat} {r : Bool} (h : fCmp op a b = some r) (t : TypeId) (w : World) : (binOp op t (.float .f64 a) (.float .f64 b)).run P w = .ok (.bool r) w := by
  cases op <;> simp [fCmp] at h <;> subst h <;> simp [binOp, Op.floatCmp, fOrd]
theorem binF_sound {op : BinOp} {t : TypeId} {xo yo : Operand} {x y : AV} {k : AV → Tr ρ} (h : (evBinF P op t xo yo x y k).den = some r) :
    ∃ z, (k z).den = some r ∧ ∀ N vx vy, x.val N = some vx → y.val N = some vy → ∃ v, z.val N = some v ∧ ∀ w, (binV op t xo yo vx vy).run P w = .ok v w := by
  unfold evBinF at h
  split at h
  · rename_i a b hs
    have hxy : x = .c (.v (.float .f64 a)) ∧ y = .c (.v (.float .f64 b)) := by
      unfold fltsOf at hs
      split at hs
      · split at hs
        · simp at hs; exact ⟨by rw [hs.1], by rw [hs.2]⟩
        · cases hs
      · cases hs
    obtain ⟨rfl, rfl⟩ := hxy
    split at h
    · rename_i c hc
      refine ⟨_, h, fun N vx vy hx hy => ⟨_, rfl, fun w => ?_⟩⟩
      simp only [AV.val, CV.val, Option.some.injEq] at hx hy; subst hx; subst hy
      exact binV_plain (eqGuard_float _ _ _ _ _ _ _) (fCmp_run hc t w)
    · unfold Tr.den at h
      split at h
      · rename_i c hc
        refine ⟨_, h, fun N vx vy hx hy => ⟨_, rfl, fun w => ?_⟩⟩
        simp only [AV.val, CV.val, Option.some.injEq] at hx hy; subst hx; subst hy
        exact binV_plain (eqGuard_float _ _ _ _ _ _ _) (run_float_arith w op t .f64 a b c hc)
      · cases h
  · split at h
    · rename_i a b c d hs
      have hxy : x = .c (.v (.complex .f64 a b)) ∧ y = .c (.v (.complex .f64 c d)) := by
        unfold cplxOf at hs
        split at hs
        · split at hs
          · simp at hs; obtain ⟨⟨h1, h2⟩, h3, h4⟩ := hs; exact ⟨by rw [h1, h2], by rw [h3, h4]⟩
          · cases hs
        · cases hs
      obtain ⟨rfl, rfl⟩ := hxy
      split at h
      · unfold Tr.den at h
        split at h
        · rename_i q hq
          refine ⟨_, h, fun N vx vy hx hy => ⟨_, rfl, fun w => ?_⟩⟩
          simp only [AV.val, CV.val, Option.some.injEq] at hx hy; subst hx; subst hy
          exact binV_plain (eqGuard_complex _ _ _ _ _ _ _ _ _) (run_complex_sum w .add (.inl rfl) t .f64 a b c d q.1 q.2 hq)
        · cases h
      · unfold Tr.den at h
        split at h
        · rename_i q hq
          refine ⟨_, h, fun N vx vy hx hy => ⟨_, rfl, fun w => ?_⟩⟩
          simp only [AV.val, CV.val, Option.some.injEq] at hx hy; subst hx; subst hy
          exact binV_plain (eqGuard_complex _ _ _ _ _ _ _ _ _) (run_complex_sum w .sub (.inr rfl) t .f64 a b c d q.1 q.2 hq)
        · cases h
      · unfold Tr.den at h
        split at h
        · rename_i q hq
          refine ⟨_, h, fun N vx vy hx hy => ⟨_, rfl, fun w => ?_⟩⟩
          simp only [AV.val, CV.val, Option.some.injEq] at hx hy; subst hx; subst hy
          exact binV_plain (eqGuard_complex _ _ _ _ _ _ _ _ _) (run_complex_mul w t a b c d q.1 q.2 hq)
        · cases h
      · refine ⟨_, h, fun N vx vy hx hy => ⟨_, rfl, fun w => ?_⟩⟩
        simp only [AV.val, CV.val, Option.some.injEq] at hx hy; subst hx; subst hy
        exact binV_plain (eqGuard_complex _ _ _ _ _ _ _ _ _) (by simp [binOp, Op.complexOp, Op.Complex.cmp, Op.floatCmp, cEq, fEq, Op.floatEq, asBool])
      · refine ⟨_, h, fun N vx vy hx hy => ⟨_, rfl, fun w => ?_⟩⟩
        simp only [AV.val, CV.val, Option.some.injEq] at hx hy; subst hx; subst hy
        exact binV_plain (eqGuard_complex _ _ _ _ _ _ _ _ _) (by simp [binOp, Op.complexOp, Op.Complex.cmp, Op.floatCmp, cEq, fEq, Op.floatEq, asBool])
      · cases h
    · exact binS_sound h
theorem cvtF_inl {src dst : TypeId} {a : AV} {b : Nat} (h : cvtF P src dst a = some (.inl b)) (N : List Nm) : ∃ v, a.val N = some v ∧ ∀ w, (convert src dst v).run P w = .ok (.float .f64 b) w := by
  unfold cvtF at h
  split at h
  · rename_i us hs
    split at h
    · rename_i hd
      split at h
      · rename_i n hn
        simp at h; subst h
        refine ⟨.int .i64 n, avInt_val hn, fun w => ?_⟩
        cases us <;> simp [convert, run_underlying hs, run_underlying hd, Conv.intToFloat, fInt]
      · cases h
    · split at h
      · simp at h
      · cases h
    · cases h
  · cases h
theorem cvtF_inr {src dst : TypeId} {a : AV} {b : Nat} {n : Int} (h : cvtF P src dst a = some (.inr b)) (hn : fTo b = some n) (N : List Nm) : ∃ v, a.val N = some v ∧ ∀ w, (convert src dst v).run P w = .ok (.int .i64 n) w := by
  unfold cvtF at h
  split at h
  · rename_i us hs
    split at h
    · split at h
      · simp at h
      · cases h
    · rename_i hd
      split at h
      · rename_i c
        simp at h; subst h
        exact ⟨_, rfl, fun w => run_convert_float_int w src dst .f64 .i64 c n (by rw [hs]; rfl) hd hn⟩
      · cases h
    · cases h
  · cases h
theorem mmF_sound {b : Builtin} {l : List AV} {o : Option Nat} {n : Nat} (h : mmF b l = some o) (ho : o = some n) {vs : List Value} (hv : AV.vals N l = some vs) (ts : Array TypeId) (t : TypeId) (consts : Array Bool) :
    ∀ w, (builtin b ts t consts vs.toArray).run P w = .ok (.value (.float .f64 n)) w := by
  unfold mmF at h
  split at h
  · rename_i x y
    simp at h; subst h
    simp [AV.vals, AV.val, CV.val] at hv; subst hv
    intro w
    unfold fMax at ho
    split at ho <;> (try cases ho) <;> rename_i hc <;> (unfold fOrd at hc) <;> simp [builtin, Builtin.max_, Builtin.max2, hc]
  · rename_i x y
    simp at h; subst h
    simp [AV.vals, AV.val, CV.val] at hv; subst hv
    intro w
    unfold fMin at ho
    split at ho <;> (try cases ho) <;> rename_i hc <;> (unfold fOrd at hc) <;> simp [builtin, Builtin.min_, Builtin.min2, hc]
  · cases h
theorem avInt_c {x : AV} {n : Int} (h : avInt x = some n) (N : List Nm) : x.val N = some (.int .i64 n) := by
  unfold avInt at h
  split at h
  · simp at h; subst h; rfl
  · simp at h; subst h; rfl
  · cases h
theorem indexK_sound {t : TypeId} {x ix : AV} {k : AV → Tr ρ} (h : (indexK P t x ix k).den = some r) :
    ∃ z, (k z).den = some r ∧ ∀ N vx vi, x.val N = some vx → ix.val N = some vi → ∃ v, z.val N = some v ∧ ∀ w, (Instr.index t vx vi).run P w = .ok v w := by
  unfold indexK at h
  split at h
  · rename_i s n hs
    unfold strIx at hs
    split at hs
    · split at hs
      · rename_i n' hn
        split at hs
        · rename_i hu
          simp at hs
          obtain ⟨rfl, rfl⟩ := hs
          unfold Tr.den at h
          split at h
          · rename_i hd
            have hd := of_decide_eq_true hd
            unfold Tr.den at h
            split at h
            · rename_i c hc
              refine ⟨_, h, fun N vx vi hx hi => ⟨_, rfl, fun w => ?_⟩⟩
              rw [avInt_c hn] at hi
              simp only [AV.val, CV.val, Option.some.injEq] at hx hi; subst hx; subst hi
              simp only [Instr.index, asIntOf, Sem.run_bind, Sem.run_pure, Result.andThen_ok, run_underlying hu]
              rw [if_pos hd, hc]
              simp
            · cases h
          · cases h
        · cases hs
      · cases hs
    · cases hs
  · split at h
    · rename_i z hz
      exact ⟨z, h, fun N vx vi hx hi => index_sound hz hx hi⟩
    · cases h
theorem bytesStr_sound {M : List Row} {N : List Nm} {src dst : TypeId} {x : AV} {u : ByteArray} {w : World} {v : Value} (h : bytesStr P M src dst x = some u) (hM : RelM B w0 N M w) (hx : x.val N = some v) :
    (convert src dst v).run P w = .ok (.string u) w := by
  unfold bytesStr at h
  split at h
  · rename_i i
    split at h
    · rename_i e hs
      split at h
      · rename_i he
        split at h
        · rename_i hd
          split at h
          · rename_i y l hL
            simp at h; subst h
            obtain ⟨a, n, cap, hn, hl⟩ := lst_at hM hL
            simp only [AV.val, CV.val, hn, Option.some.injEq] at hx
            subst hx
            rcases hl with ⟨_, h0⟩ | ⟨ad, cap', he', hsp, _, hc, _⟩
            · cases h0
            · cases he'
              have hsp := hsp (by simp)
              obtain ⟨b, off, sp⟩ := ad
              simp only at hsp; subst hsp
              refine run_convert_bytes_arg w src e hs he b off _ cap (y :: l) rfl (fun i hi => ?_) dst hd
              have hlt : (y :: l)[i]? = some ((y :: l)[i]'hi) := List.getElem?_eq_getElem hi
              have := hc i _ hlt 0 (.int .u8 ((y :: l)[i]'hi)) rfl
              simp only [Kd.sz, Nat.mul_one, Nat.add_zero] at this
              refine this.trans ?_
              have key : ∀ (q : List Int) (hq : i < q.length), some (Value.int .u8 (q[i]'hq)) = some (Value.int .u8 (q.getD i 0)) := by
                intro q hq
                rw [List.getD_eq_getElem?_getD, List.getElem?_eq_getElem hq]; rfl
              exact key (y :: l) hi
          · cases h
        · cases h
      · cases h
    · cases h
  · cases h
theorem quiet_uni (hE : EnvOK P E) {o : Oper} {k : AV → Tr ρ} (h : (evQuiet P E s o.op o.type k).den = some r) :
    ∃ y, (k y).den = some r ∧ ∀ (B : Nat) (w0 : World) (N : List Nm) (a : Act) (w : World), RelM B w0 N s.mem w → RelT N s a → ∃ v, y.val N = some v ∧ o.quietAt P a (fun w' => Below w.heap.size w w') w v := by
  have val : ∀ {y : AV}, (k y).den = some r → (∀ (B : Nat) (w0 : World) (N : List Nm) (a : Act) (w : World), RelM B w0 N s.mem w → RelT N s a → ∃ v, y.val N = some v ∧ (execOp a.eval o).run P w = .ok (.value v) w) →
      ∃ y, (k y).den = some r ∧ ∀ (B : Nat) (w0 : World) (N : List Nm) (a : Act) (w : World), RelM B w0 N s.mem w → RelT N s a → ∃ v, y.val N = some v ∧ o.quietAt P a (fun w' => Below w.heap.size w w') w v := by
    intro y h1 h3
    refine ⟨y, h1, fun B w0 N a w hM hT => ?_⟩
    obtain ⟨v, h4, h5⟩ := h3 B w0 N a w hM hT
    exact ⟨v, h4, by simp [Oper.quietAt, h5, Oper.quietUpon]⟩
  unfold evQuiet at h
  split at h
  · rename_i x ho
    split at h
    · rename_i y hy; exact val h fun B w0 N a w hM hT => ⟨_, opnd_val hT hy, by simp [execOp, ho]⟩
    · cases h
  · rename_i x ho
    split at h
    · rename_i y hy; exact val h fun B w0 N a w hM hT => ⟨_, opnd_val hT hy, by simp [execOp, ho]⟩
    · cases h
  · rename_i c x y ho
    obtain ⟨z, h2, h0⟩ := pick_sound h
    refine val h2 fun B w0 N a w hM hT => ?_
    obtain ⟨b, h1, h3⟩ := h0 N (a.eval c) (a.eval x) (a.eval y) (fun z hz => opnd_val hT hz) (fun z hz => opnd_val hT hz) (fun z hz => opnd_val hT hz)
    exact ⟨_, h3, by simp [execOp, ho, h1, asBool]⟩
  · rename_i t x ho
    split at h
    · rename_i y hy
      obtain ⟨z, h1, h0⟩ := loadK_sound h
      refine val h1 fun B w0 N a w hM hT => ?_
      obtain ⟨v, h2, h3⟩ := h0 B w0 N w hM _ (opnd_val hT hy)
      exact ⟨v, h2, by simp [execOp, ho, h3]⟩
    · cases h
  · rename_i t x f ho
    split at h
    · rename_i y hy
      split at h
      · rename_i z hz
        refine val h fun B w0 N a w hM hT => ?_
        obtain ⟨v, h1, h2⟩ := fieldAddr_sound hz (opnd_val hT hy)
        exact ⟨v, h1, by simp [execOp, ho, h2 w]⟩
      · cases h
    · cases h
  · rename_i t x f ho
    split at h
    · rename_i y hy
      split at h
      · rename_i z hz
        refine val h fun B w0 N a w hM hT => ?_
        obtain ⟨v, h1, h2⟩ := field_sound hz (opnd_val hT hy)
        exact ⟨v, h1, by simp [execOp, ho, h2 w]⟩
      · cases h
    · cases h
  · rename_i t x ho
    split at h
    · rename_i y hy
      split at h
      · rename_i z hz
        refine val h fun B w0 N a w hM hT => ?_
        obtain ⟨v, h1, h2⟩ := not_sound (P := P) hz (opnd_val hT hy)
        exact ⟨v, h1, by simp [execOp, ho, h2 w]⟩
      · cases h
    · cases h
  · rename_i t x ho
    split at h
    · rename_i y hy
      split at h
      · rename_i v hp
        split at h
        · rename_i q hq
          refine val h fun B w0 N a w hM hT => ?_
          have := avplain_val (N := N) hp
          rw [opnd_val hT hy] at this; cases this
          exact ⟨q, ofVal_val N q, by simp [execOp, ho, pureRun_sound hq w]⟩
        · cases h
      · cases h
    · cases h
  · rename_i src dst x ho
    split at h
    · rename_i y hy
      split at h
      · rename_i b hb
        refine val h fun B w0 N a w hM hT => ?_
        obtain ⟨v, e1, e2⟩ := cvtF_inl hb N
        rw [opnd_val hT hy] at e1; cases e1
        exact ⟨_, rfl, by simp [execOp, ho, e2 w]⟩
      · rename_i b hb
        unfold Tr.den at h
        split at h
        · rename_i n hn
          refine val h fun B w0 N a w hM hT => ?_
          obtain ⟨v, e1, e2⟩ := cvtF_inr hb hn N
          rw [opnd_val hT hy] at e1; cases e1
          exact ⟨_, rfl, by simp [execOp, ho, e2 w]⟩
        · cases h
      · split at h
        · rename_i u hu
          refine val h fun B w0 N a w hM hT => ?_
          exact ⟨.string u, rfl, by simp [execOp, ho, bytesStr_sound hu hM (opnd_val hT hy)]⟩
        · split at h
          · rename_i v hp
            split at h
            · rename_i q hq
              refine val h fun B w0 N a w hM hT => ?_
              have := avplain_val (N := N) hp
              rw [opnd_val hT hy] at this; cases this
              exact ⟨q, ofVal_val N q, by simp [execOp, ho, pureRun_sound hq w]⟩
            · cases h
          · cases h
    · cases h
  · rename_i t x ix ho
    split at h
    · rename_i x' hx
      split at h
      · rename_i y' hy
        obtain ⟨z, h1, h0⟩ := indexK_sound h
        refine val h1 fun B w0 N a w hM hT => ?_
        obtain ⟨v, h1, h2⟩ := h0 N _ _ (opnd_val hT hx) (opnd_val hT hy)
        exact ⟨v, h1, by simp [execOp, ho, h2 w]⟩
      · cases h
    · cases h
  · rename_i t x ix ho
    split at h
    · rename_i x' hx
      split at h
      · rename_i y' hy
        obtain ⟨z, h1, h0⟩ := indexAddr_sound h
        refine val h1 fun B w0 N a w hM hT => ?_
        obtain ⟨v, h2, h3⟩ := h0 B w0 N w hM _ _ (opnd_val hT hx) (opnd_val hT hy)
        exact ⟨v, h2, by simp [execOp, ho, h3 w]⟩
      · cases h
    · cases h
  · rename_i f first captured ho
    split at h
    · rename_i hf
      split at h
      · rename_i l hl
        split at h
        · rename_i cs hcs
          refine val h fun B w0 N a w hM hT => ?_
          have hc := caps_val hcs (opnds_val hT hl)
          refine ⟨.func (.func f) #[] (captured.toList.map a.eval).toArray, by simp only [AV.val, hc], ?_⟩
          have h1 : first = #[] := by apply Array.ext'; simpa using hf
          have h2 : captured.map a.eval = (captured.toList.map a.eval).toArray := by apply Array.ext'; simp
          simp [execOp, ho, Instr.makeFunc, h1, h2]
        · cases h
      · cases h
    · cases h
  · rename_i x ho
    split at h
    · rename_i f cs hx
      refine val h fun B w0 N a w hM hT => ?_
      have hv := opnd_val hT hx
      refine ⟨_, hv, ?_⟩
      simp only [AV.val] at hv
      split at hv
      · simp at hv; simp [execOp, ho, ← hv]
      · cases hv
    · rename_i i off hx
      refine val h fun B w0 N a w hM hT => ?_
      have hv := opnd_val hT hx
      refine ⟨_, hv, ?_⟩
      simp only [AV.val, CV.val] at hv
      split at hv
      · simp at hv; simp [execOp, ho, ← hv]
      · cases hv
    · rename_i i e z off hx
      refine val h fun B w0 N a w hM hT => ?_
      have hv := opnd_val hT hx
      refine ⟨_, hv, ?_⟩
      simp only [AV.val, CV.val] at hv
      split at hv
      · simp at hv; simp [execOp, ho, ← hv]
      · cases hv
    · cases h
  · rename_i op t x y t' ho
    split at h
    · rename_i x' hx
      split at h
      · rename_i y' hy
        obtain ⟨z, h1, h0⟩ := binF_sound h
        refine val h1 fun B w0 N a w hM hT => ?_
        obtain ⟨v, h2, h3⟩ := h0 N _ _ (opnd_val hT hx) (opnd_val hT hy)
        refine ⟨v, h2, ?_⟩
        have := h3 w
        simp only [binV, Sem.run_bind] at this
        simp only [execOp, ho, Sem.run_bind, this, Result.andThen_ok, Sem.run_pure]
      · cases h
    · cases h
  · rename_i t parts ho
    split at h
    · rename_i y hy
      refine val h fun B w0 N a w hM hT => ?_
      obtain ⟨v, h1, h2⟩ := build_sound hT hy
      refine ⟨v, h1, ?_⟩
      have := h2 w
      simp only [execOp, ho]
      simp only [Sem.run_bind, this, Result.andThen_ok, Sem.run_pure]
    · cases h
  · rename_i x i ho
    split at h
    · rename_i p q hx
      split at h
      · refine val h fun B w0 N a w hM hT => ?_
        have hv := opnd_val hT hx
        simp only [AV.val] at hv
        split at hv
        · rename_i vp hp
          split at hv
          · simp at hv; exact ⟨vp, hp, by simp [execOp, ho, ← hv, Instr.extract]⟩
          · cases hv
        · cases hv
      · refine val h fun B w0 N a w hM hT => ?_
        have hv := opnd_val hT hx
        simp only [AV.val] at hv
        split at hv
        · split at hv
          · rename_i vq hq; simp at hv; exact ⟨vq, hq, by simp [execOp, ho, ← hv, Instr.extract]⟩
          · cases hv
        · cases hv
      · cases h
    · rename_i p q z hx
      have key : ∀ (N : List Nm) (a : Act), RelT N s a → ∃ vp vq vz, p.val N = some vp ∧ q.val N = some vq ∧ z.val N = some vz ∧ a.eval x = .tuple #[vp, vq, vz] := by
        intro N a hT
        have hv := opnd_val hT hx
        simp only [AV.val] at hv
        split at hv
        · rename_i vp hp
          split at hv
          · rename_i vq hq
            split at hv
            · rename_i vz hz
              simp at hv; exact ⟨vp, vq, vz, hp, hq, hz, hv.symm⟩
            · cases hv
          · cases hv
        · cases hv
      split at h
      · refine val h fun B w0 N a w hM hT => ?_
        obtain ⟨vp, vq, vz, h1, h2, h3, h4⟩ := key N a hT
        exact ⟨vp, h1, by simp [execOp, ho, h4, Instr.extract]⟩
      · refine val h fun B w0 N a w hM hT => ?_
        obtain ⟨vp, vq, vz, h1, h2, h3, h4⟩ := key N a hT
        exact ⟨vq, h2, by simp [execOp, ho, h4, Instr.extract]⟩
      · refine val h fun B w0 N a w hM hT => ?_
        obtain ⟨vp, vq, vz, h1, h2, h3, h4⟩ := key N a hT
        exact ⟨vz, h3, by simp [execOp, ho, h4, Instr.extract]⟩
      · cases h
    · cases h
  · rename_i f args at_ ho
    split at h
    · rename_i g caps hg
      split at h
      · rename_i l hl
        unfold callK at h
        split at h
        · rename_i α x vf hq
          unfold Tr.den at h
          dsimp only at h
          refine ⟨_, h, fun B w0 N a w hM hT => ⟨vf x, ofVal_val N _, ?_⟩⟩
          obtain ⟨vs, h1, h2⟩ := call_run hT hE hg hl hq o at_ ho
          simp only [Oper.quietAt, h2 w, Oper.quietUpon]
          exact ⟨trivial, hE.pure _ _ _ _ _ _ hq B w0 N w vs hM h1⟩
        · rename_i b α x vf hq
          cases b
          · unfold Tr.den at h; unfold Tr.den at h; cases h
          unfold Tr.den at h
          dsimp only at h
          unfold Tr.den at h
          dsimp only at h
          refine ⟨_, h, fun B w0 N a w hM hT => ⟨vf x, ofVal_val N _, ?_⟩⟩
          obtain ⟨vs, h1, h2⟩ := call_run hT hE hg hl hq o at_ ho
          simp only [Oper.quietAt, h2 w, Oper.quietUpon]
          exact ⟨trivial, hE.pre _ _ _ _ _ _ hq B w0 N w vs hM h1⟩
        · cases h
        · cases h
        · split at h
          · rename_i q hq
            unfold Tr.den at h
            split at h
            · rename_i n hn
              refine val h fun B w0 N a w hM hT => ?_
              exact ⟨_, rfl, ext_run hT hg hl hq rfl o at_ ho w⟩
            · cases h
          · cases h
      · cases h
    · cases h
  · rename_i b args at_ ho
    split at h
    · rename_i l hl
      split at h
      · rename_i y hy
        refine val h fun B w0 N a w hM hT => ?_
        have hvs := opnds_val hT hl
        have hargs : args.map a.eval = (args.toList.map a.eval).toArray := by apply Array.ext'; simp
        obtain ⟨v, h1, h2⟩ := len_sound (t := o.type) hM hy hvs (args.map fun | .const _ => true | _ => false)
        refine ⟨v, h1, ?_⟩
        simp only [execOp, ho, resolve, Sem.run_bind, Sem.run_pure, Result.andThen_ok, invoke, hargs]
        exact h2 w
      · split at h
        · rename_i q hq
          unfold Tr.den at h
          split at h
          · rename_i n hn
            refine val h fun B w0 N a w hM hT => ?_
            have hvs := opnds_val hT hl
            have hargs : args.map a.eval = (args.toList.map a.eval).toArray := by apply Array.ext'; simp
            refine ⟨_, rfl, ?_⟩
            simp only [execOp, ho, resolve, Sem.run_bind, Sem.run_pure, Result.andThen_ok, invoke, hargs]
            exact mmF_sound hq rfl hvs _ _ _ w
          · cases h
        · split at h
          · rename_i y hy
            refine val h fun B w0 N a w hM hT => ?_
            have hvs := opnds_val hT hl
            have hargs : args.map a.eval = (args.toList.map a.eval).toArray := by apply Array.ext'; simp
            obtain ⟨v, h1, h2⟩ := builtin_sound hy hvs (args.map fun | .const _ => true | _ => false)
            refine ⟨v, h1, ?_⟩
            simp only [execOp, ho, resolve, Sem.run_bind, Sem.run_pure, Result.andThen_ok, invoke, hargs]
            exact h2 w
          · cases h
    · cases h
  · cases h
theorem quiet_sound (hE : EnvOK P E) {w : World} (hM : RelM B w0 N s.mem w) (hT : RelT N s a) {o : Oper} {k : AV → Tr ρ} (h : (evQuiet P E s o.op o.type k).den = some r) :
    ∃ y v, (k y).den = some r ∧ y.val N = some v ∧ o.quietAt P a (RelM B w0 N s.mem) w v := by
  obtain ⟨y, h1, h2⟩ := quiet_uni hE h
  obtain ⟨v, h3, h4⟩ := h2 B w0 N a w hM hT
  refine ⟨y, v, h1, h3, ?_⟩
  unfold Oper.quietAt at *
  generalize (execOp a.eval o).run P w = res at *
  cases res with
  | ok n w' =>
    cases n <;> simp only [Oper.quietUpon] at h4 ⊢
    case value => exact h4
    case skip => exact h4
    case enter => exact ⟨h4.1, h4.2.mono fun e w'' ⟨e1, e2⟩ => ⟨e1, hM.keep e2⟩⟩
  | halt x w' => simp only [Oper.quietUpon] at h4
end
end Go.Proofs.YtlbmjajjldfigaaGreat.Ev
