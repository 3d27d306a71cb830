/-
  The evaluator's operations are sound: those that leave the world alone, and those that make a box or store into one.
-/
import Derived.Test.YtlbmjajjldfigaaGreatEvRel
import Derived.Laws.StructEq
namespace Go.Proofs.YtlbmjajjldfigaaGreat.Ev
open Go Go.RowKit
universe u

theorem pureRun_sound {α : Type} {P : Program} : ∀ {s : Sem α} {a : α}, pureRun P s = some a → ∀ w, s.run P w = .ok a w
  | .pure a, b, h, w => by simp [pureRun] at h; subst h; rfl
  | .program k, b, h, w => by simp only [pureRun] at h; exact pureRun_sound (s := k P) h w
  | .load .., _, h, _ => by simp [pureRun] at h
  | .store .., _, h, _ => by simp [pureRun] at h
  | .new .., _, h, _ => by simp [pureRun] at h
  | .shape .., _, h, _ => by simp [pureRun] at h
  | .freeze .., _, h, _ => by simp [pureRun] at h
  | .frozen .., _, h, _ => by simp [pureRun] at h
  | .getObj .., _, h, _ => by simp [pureRun] at h
  | .setObj .., _, h, _ => by simp [pureRun] at h
  | .choose .., _, h, _ => by simp [pureRun] at h
  | .sys .., _, h, _ => by simp [pureRun] at h
  | .mark .., _, h, _ => by simp [pureRun] at h
  | .halt .., _, h, _ => by simp [pureRun] at h

/-! ### The frame -/

structure RelT (N : List Nm) (s : St) (a : Act) : Prop where
  defers : a.defers = []
  size : a.tmps.size = s.n
  look : ∀ t x, look s.tmps t = some x → ∃ v, x.val N = some v ∧ a.tmps[t]? = some v

theorem look_cons (d : Nat) (x : AV) (l : List (Nat × AV)) (t : Nat) : Ev.look ((d, x) :: l) t = if d = t then some x else Ev.look l t := by
  simp only [Ev.look]
  by_cases h : d = t
  · subst h; simp
  · have : Nat.beq d t = false := by
      cases hb : Nat.beq d t with
      | false => rfl
      | true => exact absurd (Nat.eq_of_beq_eq_true hb) h
    simp [this, h]

theorem RelT.put {N : List Nm} {s : St} {a : Act} (h : RelT N s a) {d : Nat} (hd : d < s.n) {x : AV} {v : Value} (hx : x.val N = some v) : RelT N (s.put d x) (a.put (some d) v) where
  defers := h.defers
  size := by simp [Act.put, St.put, h.size]
  look := by
    intro t y hy
    simp only [St.put, look_cons] at hy
    by_cases e : d = t
    · subst e
      simp at hy; subst hy
      exact ⟨v, hx, by simp [Act.put, h.size, hd]⟩
    · simp [e] at hy
      obtain ⟨u, h1, h2⟩ := h.look t y hy
      exact ⟨u, h1, by simp [Act.put, e, h2]⟩

theorem RelT.same {N : List Nm} {s : St} {a : Act} (h : RelT N s a) {d : Nat} {x : AV} {v : Value} (hx : x.val N = some v) (hv : a.tmps[d]? = some v) : RelT N (s.put d x) a where
  defers := h.defers
  size := h.size
  look := by
    intro t y hy
    simp only [St.put, look_cons] at hy
    by_cases e : d = t
    · subst e; simp at hy; subst hy; exact ⟨v, hx, hv⟩
    · simp [e] at hy; exact h.look t y hy

theorem RelT.mono {N N' : List Nm} {s s' : St} {a : Act} (h : RelT N s a) (hN : NLe N N') (ht : s'.tmps = s.tmps) (hn : s'.n = s.n) : RelT N' s' a where
  defers := h.defers
  size := h.size.trans hn.symm
  look := fun t x hx => by
    rw [ht] at hx
    obtain ⟨v, h1, h2⟩ := h.look t x hx
    exact ⟨v, av_mono hN h1, h2⟩

theorem cst_val (N : List Nm) (x : Value) : (cst x).val N = some x := by
  unfold cst
  split
  · rfl
  · rfl
  · rename_i cs
    simp [AV.val, cvs_mapV]
  · rfl

theorem opnd_val {N : List Nm} {s : St} {a : Act} (h : RelT N s a) {x : Operand} {y : AV} (hx : opnd s x = some y) : y.val N = some (a.eval x) := by
  cases x with
  | tmp t =>
    obtain ⟨v, h1, h2⟩ := h.look t y hx
    simp [Act.eval, h1, h2]
  | const v => simp [opnd] at hx; subst hx; simp [cst_val, Act.eval]
  | global g => simp [opnd] at hx
  | func f => simp [opnd] at hx; subst hx; simp [AV.val, CV.vals, Act.eval]

theorem opnds_val {N : List Nm} {s : St} {a : Act} (h : RelT N s a) : ∀ {l : List Operand} {ys : List AV}, opnds s l = some ys → AV.vals N ys = some (l.map a.eval)
  | [], ys, hx => by simp [opnds] at hx; subst hx; rfl
  | x :: r, ys, hx => by
    simp only [opnds] at hx
    split at hx
    · rename_i y hy
      split at hx
      · rename_i q hq
        simp at hx; subst hx
        simp [AV.vals, opnd_val h hy, opnds_val h hq]
      · cases hx
    · cases hx

theorem plain_val {N : List Nm} {c : CV} {v : Value} (h : c.plain = some v) : c.val N = some v := by
  cases c <;> simp [CV.plain] at h <;> simp [CV.val, h]
theorem plains_val {N : List Nm} : ∀ {l : List CV} {vs : List Value}, CV.plains l = some vs → CV.vals N l = some vs
  | [], _, h => h
  | c :: r, vs, h => by
    simp only [CV.plains] at h
    split at h
    · rename_i x hx
      split at h
      · rename_i q hq; simp at h; subst h; simp [CV.vals, plain_val hx, plains_val hq]
      · cases h
    · cases h
theorem avplain_val {N : List Nm} {x : AV} {v : Value} (h : x.plain = some v) : x.val N = some v := by
  cases x with
  | c y => exact plain_val h
  | agg cs =>
    simp only [AV.plain] at h
    split at h
    · rename_i l hl; simp at h; subst h; simp [AV.val, plains_val hl]
    · cases h
  | clo f caps =>
    cases caps with
    | nil => simp [AV.plain] at h; subst h; simp [AV.val, CV.vals]
    | cons a b => simp [AV.plain] at h
  | tup2 a b => simp [AV.plain] at h
  | tup3 a b d => simp [AV.plain] at h

theorem ofVal1_val (N : List Nm) (x : Value) : (AV.ofVal1 x).val N = some x := by
  unfold AV.ofVal1
  split
  · simp [AV.val, cvs_mapV]
  · rfl
  · rfl
theorem ofVal_val (N : List Nm) (x : Value) : (AV.ofVal x).val N = some x := by
  unfold AV.ofVal
  split
  · simp [AV.val, cvs_mapV]
  · simp [AV.val, ofVal1_val]
  · simp [AV.val, ofVal1_val]
  · rfl

/-! ### Types -/

section
variable {P : Program}
theorem isAggT_run {t : TypeId} {b : Bool} (h : isAggT P t = some b) (w : World) : (isAgg t).run P w = .ok b w := by
  unfold isAggT at h
  split at h
  · rename_i hu; simp at h; subst h; simp [isAgg, run_underlying hu]
  · rename_i hu; simp at h; subst h; simp [isAgg, run_underlying hu]
  · rename_i d h1 h2 hu
    simp at h; subst h
    simp only [isAgg, Sem.run_bind, run_underlying hu, Result.andThen_ok]
    cases d <;> first | rfl | exact (h1 _ rfl).elim | exact (h2 _ _ rfl).elim
  · cases h
theorem sizeT_run {t : TypeId} {n : Nat} (h : sizeT P t = some n) (w : World) : (sizeOf t).run P w = .ok n w := by
  unfold sizeT at h
  split at h
  · rename_i i hi; simp at h; subst h; simp [sizeOf, typeInfo, hi]
  · cases h
theorem zeroT_run {t : TypeId} {z : List Value} (h : zeroT P t = some z) (w : World) : ∃ v, (zeroValue t).run P w = .ok v w ∧ v.cells.toList = z := by
  unfold zeroT at h
  split at h
  · rename_i i hi
    split at h
    · rename_i v hv; simp at h; exact ⟨v, by simp [zeroValue, typeInfo, hi, hv], h⟩
    · cases h
  · cases h
end

/-! ### Reading -/

/-- The cells from an address on. -/
def CellsAt (w : World) (b off : Nat) (vs : List Value) : Prop := ∀ j v, vs[j]? = some v → w.cell? ⟨b, off + j, none⟩ = some v

theorem readCells_sound {P : Program} {N : List Nm} {t : TypeId} {cs : List CV} {off : Nat} {x : AV} {vs : List Value} (h : readCells P t cs off = some x) (hv : CV.vals N cs = some vs) :
    ∃ v, x.val N = some v ∧ ∀ w b o, CellsAt w b o vs → (loadVar t ⟨b, o + off, none⟩).run P w = .ok v w := by
  unfold readCells at h
  split at h
  · rename_i ha
    split at h
    · rename_i n hn
      split at h
      · rename_i l hl
        simp at h; subst h
        rw [dropN_eq] at hl
        obtain ⟨rfl, hlen⟩ := takeN_eq _ _ _ hl
        have hvl := cvs_take n (cvs_drop off hv)
        refine ⟨.agg ((vs.drop off).take n).toArray, by simp [AV.val, hvl], fun w b o hc => ?_⟩
        have hlen' : ((vs.drop off).take n).length = n := by
          have := cvs_length hv
          simp at hlen ⊢; omega
        have hr := run_loadCells_list (P := P) w ⟨b, o + off, none⟩ ((vs.drop off).take n) (fun j v hj => by
          rw [addr_add rfl]
          have : vs[off + j]? = some v := by
            rw [List.getElem?_take] at hj
            split at hj
            · simpa [List.getElem?_drop] using hj
            · cases hj
          have := hc (off + j) v this
          simpa [Nat.add_assoc] using this)
        rw [hlen'] at hr
        simp [loadVar, isAggT_run ha, sizeT_run hn, hr]
      · cases h
    · cases h
  · rename_i ha
    split at h
    · rename_i y hy
      simp at h; subst h
      obtain ⟨v, h1, h2⟩ := cvs_nth hv hy
      refine ⟨v, h1, fun w b o hc => ?_⟩
      have := hc off v h2
      simp [loadVar, isAggT_run ha, this]
    · cases h
  · cases h

theorem box_cells {w : World} {b : Nat} {vs : List Value} {T : TypeId} (h : w.heap[b]? = some (.cells vs.toArray T (0, 0))) : CellsAt w b 0 vs := by
  intro j v hj
  simp [World.cell?, h, hj]

section
variable {P : Program} {E : Env} {ρ : Type} {r : ρ} {B : Nat} {w0 : World} {N : List Nm} {s : St} {a : Act}

/-- A value in every world of ours. -/
def ValIn (P : Program) (C : World → Prop) (m : Sem Value) (v : Value) : Prop := ∀ w, C w → m.run P w = .ok v w

theorem flatMap_get {α β : Type} (f : α → List β) (n : Nat) (hf : ∀ x, (f x).length = n) : ∀ (l : List α) (k : Nat) (x : α) (j : Nat) (u : β), l[k]? = some x → (f x)[j]? = some u → (l.flatMap f)[k * n + j]? = some u
  | [], k, x, j, u, h, _ => by simp at h
  | y :: r, 0, x, j, u, h, hj => by
    simp at h; subst h
    have hlt : j < (f y).length := (List.getElem?_eq_some_iff.1 hj).1
    simp [List.flatMap_cons, List.getElem?_append_left hlt, hj]
  | y :: r, k + 1, x, j, u, h, hj => by
    have ih := flatMap_get f n hf r k x j u (by simpa using h) hj
    have hge : (f y).length ≤ (k + 1) * n + j := by rw [hf, Nat.add_mul]; omega
    rw [List.flatMap_cons, List.getElem?_append_right hge, hf, ← ih]
    congr 1
    rw [Nat.add_mul]; omega

/-- What is known of a list's place. -/
theorem lst_at {M : List Row} {w : World} (hw : RelM B w0 N M w) {i : Nat} {L : Lst} (h : lstOf M i = some L) :
    ∃ a n cap, nth N i = some (.sv a n cap) ∧ ListAt w (.slice a n cap) L := by
  unfold lstOf at h
  split at h
  · rename_i L' hm; simp at h; subst h; exact hw.row i _ hm
  · rename_i L' e hm
    simp at h; subst h
    obtain ⟨a, n, cap, hn, hl⟩ := hw.row i _ hm
    refine ⟨a, n, cap, hn, ?_⟩
    rcases hl.2 with ⟨he, h0⟩ | ⟨g, cap', cur, he, hg, hh, hr⟩
    · exact .inl ⟨he, List.eq_nil_of_length_eq_zero h0⟩
    · refine .inr ⟨⟨g, 0, none⟩, cap', he, fun _ => rfl, fun _ => (Array.getElem?_eq_some_iff.1 hh).1, fun k x hk j u hj => ?_, hr.1⟩
      have hc := hl.cells (g := g) (by rw [he]; rfl) (k * L'.k.sz + j) u (flatMap_get _ _ L'.k.ok.1 _ _ _ _ _ hk hj)
      rw [addr_add rfl] at hc
      simpa [Nat.add_assoc] using hc
  · cases h

theorem loadK_sound {t : TypeId} {x : AV} {k : AV → Tr ρ} (h : (loadK P s t x k).den = some r) :
    ∃ y, (k y).den = some r ∧ ∀ (B : Nat) (w0 : World) (N : List Nm) (w : World), RelM B w0 N s.mem w → ∀ vx, x.val N = some vx → ∃ v, y.val N = some v ∧ (Instr.loadAt t vx).run P w = .ok v w := by
  unfold loadK at h
  split at h
  · rename_i i off
    split at h
    · rename_i cs hm
      split at h
      · rename_i y hy
        refine ⟨y, h, fun B w0 N w hM vx hx => ?_⟩
        simp only [AV.val, CV.val] at hx
        split at hx
        · rename_i bk hb
          simp at hx; subst hx
          obtain ⟨_, _, vs, hn, _, hvs, hh⟩ := hM.row i _ hm
          rw [hb] at hn; cases hn
          obtain ⟨v, h1, h2⟩ := readCells_sound hy hvs
          have := h2 w bk 0 (box_cells hh)
          exact ⟨v, h1, by simpa [Instr.loadAt, Instr.sureAddr] using this⟩
        · cases hx
      · cases h
    · rename_i cs hm
      split at h
      · rename_i y hy
        refine ⟨y, h, fun B w0 N w hM vx hx => ?_⟩
        simp only [AV.val, CV.val] at hx
        split at hx
        · rename_i bk hb
          simp at hx; subst hx
          obtain ⟨_, _, vs, hn, hvs, hh⟩ := hM.row i _ hm
          rw [hb] at hn; cases hn
          obtain ⟨v, h1, h2⟩ := readCells_sound hy hvs
          have := h2 w bk 0 (box_cells hh)
          exact ⟨v, h1, by simpa [Instr.loadAt, Instr.sureAddr] using this⟩
        · cases hx
      · cases h
    · cases h
  · rename_i i e sz off
    split at h
    · rename_i L hL
      split at h
      · rename_i hsz
        have hsz' : sz = L.k.sz := Nat.eq_of_beq_eq_true hsz
        unfold Tr.den at h
        split at h
        · rename_i z hz
          dsimp only at h
          split at h
          · rename_i y hy
            refine ⟨y, h, fun B w0 N w hM vx hx => ?_⟩
            simp only [AV.val, CV.val] at hx
            split at hx
            · rename_i ad n cap hb
              simp at hx; subst hx
              obtain ⟨v, h1, h2⟩ := readCells_sound hy (cvs_mapV (N := N) (L.k.cc.enc z))
              obtain ⟨a', n', cap', hn, hl⟩ := lst_at hM hL
              rw [hb] at hn; cases hn
              rcases hl with ⟨he, _⟩ | ⟨a2, cap2, he, _, _, hc⟩
              · cases he
              · cases he
                have := h2 w ad.block (ad.off + e * sz) (fun j u hj => by
                  have := hc.1 e z hz j u hj
                  rw [hsz']; exact this)
                exact ⟨v, h1, by simpa [Instr.loadAt, Instr.sureAddr] using this⟩
            · cases hx
          · cases h
        · cases h
      · cases h
    · cases h
  · cases h

theorem fieldT_spec {t ft : TypeId} {f o : Nat} (h : fieldT P t f = some (o, ft)) : ∃ fs fd n, P.underlying t = some (.struct fs) ∧ fs[f]? = some fd ∧ fd.offset = o ∧ fd.type = ft ∧ sizeT P ft = some (n + 1) := by
  unfold fieldT at h
  split at h
  · rename_i fs hu
    split at h
    · rename_i x hx
      split at h
      · rename_i n hn; simp at h; exact ⟨fs, x, n, hu, hx, h.1, h.2, h.2 ▸ hn⟩
      · cases h
    · cases h
  · cases h

theorem fieldAddr_sound {t : TypeId} {x y : AV} {f : Nat} {vx : Value} (h : fieldAddrA P t x f = some y) (hx : x.val N = some vx) :
    ∃ v, y.val N = some v ∧ ∀ w, (Instr.fieldAt t vx f).run P w = .ok v w := by
  unfold fieldAddrA at h
  split at h
  · rename_i o ft hf
    obtain ⟨fs, fd, n, h1, h2, h3, h4, h5⟩ := fieldT_spec hf
    subst h3
    subst h4
    have key : ∀ (ad : Addr), ad.spot = none → ∀ w, (Instr.fieldAt t (.pointer (some ad)) f).run P w = .ok (.pointer (some ⟨ad.block, ad.off + fd.offset, none⟩)) w := by
      intro ad hs w
      simp [Instr.fieldAt, run_underlying h1, h2, Instr.sureAddr, fieldPlace, sizeT_run h5, addr_add hs]
    split at h
    · rename_i i off
      simp at h; subst h
      simp only [AV.val, CV.val] at hx ⊢
      split at hx
      · rename_i bk hb
        simp at hx; subst hx
        exact ⟨_, rfl, fun w => key _ rfl w⟩
      · cases hx
    · rename_i i e sz off
      simp at h; subst h
      simp only [AV.val, CV.val] at hx ⊢
      split at hx
      · rename_i ad n cap hb
        simp at hx; subst hx
        exact ⟨_, rfl, fun w => by rw [key _ rfl w]; simp [Nat.add_assoc]⟩
      · cases hx
    · cases h
  · cases h

theorem part_sound {t : TypeId} {cs : List CV} {o : Nat} {y : AV} {vs : List Value} (h : readCells P t cs o = some y) (hv : CV.vals N cs = some vs) :
    ∃ v, y.val N = some v ∧ ∀ w, (part t vs.toArray o).run P w = .ok v w := by
  unfold readCells at h
  split at h
  · rename_i ha
    split at h
    · rename_i n hn
      split at h
      · rename_i l hl
        simp at h; subst h
        rw [dropN_eq] at hl
        obtain ⟨rfl, hlen⟩ := takeN_eq _ _ _ hl
        refine ⟨.agg ((vs.drop o).take n).toArray, by simp [AV.val, cvs_take n (cvs_drop o hv)], fun w => ?_⟩
        simp only [part, Sem.run_bind, isAggT_run ha, sizeT_run hn, Result.andThen_ok, if_true, Sem.run_pure]
        congr 2
        apply Array.ext'
        simp [List.take_drop]
      · cases h
    · cases h
  · rename_i ha
    split at h
    · rename_i c hc
      simp at h; subst h
      obtain ⟨v, h1, h2⟩ := cvs_nth hv hc
      exact ⟨v, h1, fun w => by simp [part, isAggT_run ha, h2]⟩
    · cases h
  · cases h

theorem field_sound {t : TypeId} {x y : AV} {f : Nat} {vx : Value} (h : fieldA P t x f = some y) (hx : x.val N = some vx) :
    ∃ v, y.val N = some v ∧ ∀ w, (Instr.field t vx f).run P w = .ok v w := by
  unfold fieldA at h
  split at h
  · rename_i o ft hf
    obtain ⟨fs, fd, n, h1, h2, h3, h4, h5⟩ := fieldT_spec hf
    subst h3
    subst h4
    split at h
    · rename_i cs
      simp only [AV.val] at hx
      split at hx
      · rename_i vs hvs
        simp at hx; subst hx
        obtain ⟨v, e1, e2⟩ := part_sound h hvs
        exact ⟨v, e1, fun w => by simp [Instr.field, run_underlying h1, h2, asAgg, e2]⟩
      · cases hx
    · cases h
  · cases h

/-! ### Numbers and truths -/

theorem eqGuard_int (op : BinOp) (t : TypeId) (xo yo : Operand) (a b : Int) (w : World) : (eqGuard op t xo yo (.int .i64 a) (.int .i64 b)).run P w = .ok () w := by
  unfold eqGuard
  cases op <;> rfl

theorem binOp_int_cmp {op : BinOp} {a b : Int} {c : Bool} (h : cmpB op a b = some c) (t : TypeId) (w : World) : (binOp op t (.int .i64 a) (.int .i64 b)).run P w = .ok (.bool c) w := by
  cases op <;> simp [cmpB] at h <;> subst h <;> simp [binOp, Op.intCmp]
theorem binOp_int_arith {op : BinOp} {a b c : Int} (h : arithB op a b = some c) (t : TypeId) (w : World) : (binOp op t (.int .i64 a) (.int .i64 b)).run P w = .ok (.int .i64 c) w := by
  cases op <;> simp [arithB] at h <;> subst h <;> simp [binOp, Op.intArith]

theorem eqFs_sound {rec : TypeId → AV → AV → Option Bool} {e : Nat} (hrec : ∀ t x y r, rec t x y = some r → ∀ N vx vy, x.val N = some vx → y.val N = some vy → ∀ w, (Op.equalIn e t vx vy).run P w = .ok r w) {xs ys : List CV} :
    ∀ {l : List Field} {r : Bool}, eqFs P rec xs ys l = some r → ∀ N vx vy, CV.vals N xs = some vx → CV.vals N ys = some vy → ∀ w, (Op.eqFields e vx.toArray vy.toArray l).run P w = .ok r w
  | [], r, h, N, vx, vy, hx, hy, w => by simp [eqFs] at h; subst h; simp [Op.eqFields]
  | [f], r, h, N, vx, vy, hx, hy, w => by
    simp only [eqFs] at h
    split at h
    · cases h
    · rename_i hn
      split at h
      · rename_i x h1
        split at h
        · rename_i y h2
          obtain ⟨u, a1, a2⟩ := part_sound h1 hx
          obtain ⟨v, b1, b2⟩ := part_sound h2 hy
          have := hrec _ _ _ _ h N u v a1 b1 w
          have hn' : f.name ≠ "_" := by simpa using hn
          simp only [Op.eqFields, if_pos hn', Sem.run_bind, a2, b2, this, Result.andThen_ok]
          cases r <;> simp
        · cases h
      · cases h
  | f :: g :: l, r, h, N, vx, vy, hx, hy, w => by
    rw [eqFs] at h
    · split at h
      · cases h
      · rename_i hn
        split at h
        · rename_i x h1
          split at h
          · rename_i y h2
            split at h
            · rename_i b hb
              split at h
              · rename_i c hc
                simp at h; subst h
                obtain ⟨u, a1, a2⟩ := part_sound h1 hx
                obtain ⟨v, b1, b2⟩ := part_sound h2 hy
                have e1 := hrec _ _ _ _ hb N u v a1 b1 w
                have e2 := eqFs_sound hrec hc N vx vy hx hy w
                have hn' : f.name ≠ "_" := by simpa using hn
                rw [Op.eqFields]
                simp only [if_pos hn', Sem.run_bind, a2, b2, e1, Result.andThen_ok]
                cases b
                · simp
                · simpa using e2
              · cases h
            · cases h
          · cases h
        · cases h
    · simp

/-- Equality of arrays, one element after the other. -/
def eqElems (d : Nat) (e : TypeId) (z : Nat) (xs ys : Array Value) : Nat → Nat → Sem Bool
  | _, 0 => pure true
  | i, n + 1 => do
    let a ← part e xs (i * z)
    let b ← part e ys (i * z)
    let r ← Op.equalIn d e a b
    if (!r) = true then pure false else eqElems d e z xs ys (i + 1) n
theorem run_equalIn_array (d : Nat) (t e : TypeId) (len z : Nat) (xs ys : Array Value) (ht : P.underlying t = some (.array len e)) (hz : ∀ w, (sizeOf e).run P w = .ok z w) (w : World) :
    (Op.equalIn (d + 1) t (.agg xs) (.agg ys)).run P w = (eqElems d e z xs ys 0 len).run P w := by
  simp only [Op.equalIn, Sem.run_bind, run_underlying ht, Result.andThen_ok, hz]
  rw [Std.Legacy.Range.forIn_eq_forIn_range']
  have hs : (Std.Legacy.Range.mk 0 len 1 (by decide)).size = len := by simp [Std.Legacy.Range.size]
  rw [hs]
  show _ = (eqElems d e z xs ys 0 len).run P w
  generalize hi : (0 : Nat) = i
  clear hs hi ht
  induction len generalizing w i with
  | zero => simp [eqElems]
  | succ n ih =>
    simp only [List.range'_succ, List.forIn_cons, eqElems, Sem.run_bind]
    generalize (part e xs (i * z)).run P w = r1
    cases r1 with
    | ok a w1 =>
      simp only [Result.andThen_ok]
      generalize (part e ys (i * z)).run P w1 = r2
      cases r2 with
      | ok b w2 =>
        simp only [Result.andThen_ok]
        generalize (Op.equalIn d e a b).run P w2 = r3
        cases r3 with
        | ok r w3 =>
          cases r
          · simp only [Result.andThen_ok, Bool.not_false, if_true, Sem.run_pure]
          · simp only [Result.andThen_ok, Bool.not_true, Bool.false_eq_true, if_false, Sem.run_pure]
            exact ih w3 (i + 1)
        | halt x w3 => simp [Result.andThen]
      | halt x w2 => simp [Result.andThen]
    | halt x w1 => simp [Result.andThen]
theorem eqArr_sound {rec : TypeId → AV → AV → Option Bool} {e : Nat} (hrec : ∀ t x y r, rec t x y = some r → ∀ N vx vy, x.val N = some vx → y.val N = some vy → ∀ w, (Op.equalIn e t vx vy).run P w = .ok r w) {xs ys : List CV} {el : TypeId} {z : Nat} :
    ∀ {n i : Nat} {r : Bool}, eqArr P rec el z xs ys i n = some r → ∀ N vx vy, CV.vals N xs = some vx → CV.vals N ys = some vy → ∀ w, (eqElems e el z vx.toArray vy.toArray i n).run P w = .ok r w
  | 0, i, r, h, N, vx, vy, hx, hy, w => by simp [eqArr] at h; subst h; simp [eqElems]
  | n + 1, i, r, h, N, vx, vy, hx, hy, w => by
    rw [eqArr] at h
    split at h
    · rename_i x h1
      split at h
      · rename_i y h2
        split at h
        · rename_i b hb
          split at h
          · rename_i c hc
            simp at h; subst h
            obtain ⟨u, a1, a2⟩ := part_sound h1 hx
            obtain ⟨v, b1, b2⟩ := part_sound h2 hy
            have e1 := hrec _ _ _ _ hb N u v a1 b1 w
            have e2 := eqArr_sound hrec hc N vx vy hx hy w
            rw [eqElems]
            simp only [Sem.run_bind, a2, b2, e1, Result.andThen_ok]
            cases b
            · simp
            · simpa using e2
          · cases h
        · cases h
      · cases h
    · cases h
theorem eqA_sound : ∀ {d : Nat} {t : TypeId} {x y : AV} {r : Bool}, eqA P d t x y = some r → ∀ e, d ≤ e → ∀ N vx vy, x.val N = some vx → y.val N = some vy → ∀ w, (Op.equalIn e t vx vy).run P w = .ok r w
  | 0, t, x, y, r, h, _, _, _, _, _, _, _, _ => by simp [eqA] at h
  | d + 1, t, x, y, r, h, e, he, N, vx, vy, hx, hy, w => by
    obtain ⟨e, rfl⟩ : ∃ k, e = k + 1 := ⟨e - 1, by omega⟩
    simp only [eqA] at h
    split at h
    · rename_i xs ys
      split at h
      · rename_i fs hu
        split at h
        · cases h
        · rename_i hp
          simp only [AV.val] at hx hy
          split at hx
          · rename_i lx hlx
            split at hy
            · rename_i ly hly
              simp at hx hy; subst hx; subst hy
              have hf : P.fieldsOf t = fs := by simp [Program.fieldsOf, hu]
              rw [run_equalIn_struct (P := P) w e t lx.toArray ly.toArray (by rw [hf]; exact hu) hp, hf]
              exact eqFs_sound (e := e) (fun t x y r h N vx vy hx hy w => eqA_sound h e (by omega) N vx vy hx hy w) h N lx ly hlx hly w
            · cases hy
          · cases hx
      · rename_i n el hu
        split at h
        · rename_i z hz
          simp only [AV.val] at hx hy
          split at hx
          · rename_i lx hlx
            split at hy
            · rename_i ly hly
              simp at hx hy; subst hx; subst hy
              rw [run_equalIn_array e t el n z lx.toArray ly.toArray hu (fun w => sizeT_run hz w) w]
              exact eqArr_sound (e := e) (fun t x y r h N vx vy hx hy w => eqA_sound h e (by omega) N vx vy hx hy w) h N lx ly hlx hly w
            · cases hy
          · cases hx
        · cases h
      · cases h
    · rename_i x y
      split at h
      · rename_i u hu
        split at h
        · rename_i v hv
          have e1 : x.val N = some u := plain_val hu
          have e2 : y.val N = some v := plain_val hv
          simp only [AV.val] at hx hy
          rw [e1] at hx; rw [e2] at hy
          cases hx; cases hy
          split at h
          · rename_i ht; simp at h; subst h
            simp [Op.equalIn, run_underlying ht]
          · rename_i ht; simp at h; subst h
            simp [Op.equalIn, run_underlying ht]
          · rename_i ht; simp at h; subst h
            simp [Op.equalIn, run_underlying ht]
          · rename_i ht; simp at h; subst h
            simp [Op.equalIn, run_underlying ht, cEq, fEq]
          · cases h
        · cases h
      · cases h
    · cases h

/-- What the guarded operation says. -/
def binV (op : BinOp) (t : TypeId) (xo yo : Operand) (vx vy : Value) : Sem Value := do eqGuard op t xo yo vx vy; binOp op t vx vy

theorem binV_int {op : BinOp} {t : TypeId} {xo yo : Operand} {a b : Int} {v : Value} {w : World} (h : (binOp op t (.int .i64 a) (.int .i64 b)).run P w = .ok v w) :
    (binV op t xo yo (.int .i64 a) (.int .i64 b)).run P w = .ok v w := by
  simp [binV, eqGuard_int, h]

theorem binInt_sound {op : BinOp} {a b : Int} {k : AV → Tr ρ} (h : (binInt op a b k).den = some r) (t : TypeId) (xo yo : Operand) :
    ∃ y v, (k y).den = some r ∧ (∀ N, y.val N = some v) ∧ ∀ w, (binV op t xo yo (.int .i64 a) (.int .i64 b)).run P w = .ok v w := by
  unfold binInt at h
  split at h
  · rename_i c hc
    exact ⟨_, .bool c, h, fun _ => rfl, fun w => binV_int (binOp_int_cmp hc t w)⟩
  · split at h
    · rename_i c hc
      exact ⟨_, .int .i64 c, h, fun _ => rfl, fun w => binV_int (binOp_int_arith hc t w)⟩
    · have nz : ∀ {c : Bool} {T F : Tr ρ}, (Tr.br c T F).den = some r → F = .fail → c = true ∧ T.den = some r := by
        intro c T F h hF; subst hF; cases c <;> simp [Tr.den] at h; exact ⟨rfl, h⟩
      split at h
      · obtain ⟨hb, h⟩ := nz h rfl
        have hb' : b ≠ 0 := by simpa using hb
        exact ⟨_, _, h, fun _ => rfl, fun w => binV_int (by simp [binOp, Op.intDiv, hb'])⟩
      · obtain ⟨hb, h⟩ := nz h rfl
        have hb' : b ≠ 0 := by simpa using hb
        exact ⟨_, _, h, fun _ => rfl, fun w => binV_int (by simp [binOp, Op.intDiv, hb'])⟩
      · obtain ⟨hb, h⟩ := nz h rfl
        have hb' : ¬ b < 0 := by simp at hb; omega
        exact ⟨_, _, h, fun _ => rfl, fun w => binV_int (by simp [binOp, Op.shift, hb', IntKind.bits])⟩
      · obtain ⟨hb, h⟩ := nz h rfl
        have hb' : ¬ b < 0 := by simp at hb; omega
        exact ⟨_, _, h, fun _ => rfl, fun w => binV_int (by simp [binOp, Op.shift, hb', IntKind.bits])⟩
      · exact ⟨_, _, h, fun _ => rfl, fun w => binV_int (by simp only [binOp]; rfl)⟩
      · exact ⟨_, _, h, fun _ => rfl, fun w => binV_int (by simp only [binOp]; rfl)⟩
      · cases h

theorem binU_sound {op : BinOp} {a b : Int} {k : AV → Tr ρ} (h : (binU op a b k).den = some r) (t : TypeId) (xo yo : Operand) :
    ∃ y v, (k y).den = some r ∧ (∀ N, y.val N = some v) ∧ ∀ w, (binV op t xo yo (.int .i64 a) (.int .u64 b)).run P w = .ok v w := by
  have nz : ∀ {c : Bool} {T F : Tr ρ}, (Tr.br c T F).den = some r → F = .fail → c = true ∧ T.den = some r := by
    intro c T F h hF; subst hF; cases c <;> simp [Tr.den] at h; exact ⟨rfl, h⟩
  unfold binU at h
  split at h
  · obtain ⟨hb, h⟩ := nz h rfl
    have hb' : ¬ b < 0 := by simp at hb; omega
    exact ⟨_, _, h, fun _ => rfl, fun w => by simp [binV, eqGuard, binOp, Op.shift, hb', IntKind.bits]⟩
  · obtain ⟨hb, h⟩ := nz h rfl
    have hb' : ¬ b < 0 := by simp at hb; omega
    exact ⟨_, _, h, fun _ => rfl, fun w => by simp [binV, eqGuard, binOp, Op.shift, hb', IntKind.bits]⟩
  · cases h

theorem binIntK_sound {op : BinOp} {a b : Int} {k : AV → Tr ρ} (h : (binIntK op a b k).den = some r) (t : TypeId) (xo yo : Operand) :
    ∃ y v, (k y).den = some r ∧ (∀ N, y.val N = some v) ∧ ∀ w, (binV op t xo yo (.int .i64 a) (.int .i64 b)).run P w = .ok v w := by
  unfold binIntK at h
  split at h
  · split at h
    · rename_i hb
      have hb' : b ≠ 0 := by simpa using hb
      exact ⟨_, _, h, fun _ => rfl, fun w => binV_int (by simp [binOp, Op.intDiv, hb'])⟩
    · cases h
  · split at h
    · rename_i hb
      have hb' : b ≠ 0 := by simpa using hb
      exact ⟨_, _, h, fun _ => rfl, fun w => binV_int (by simp [binOp, Op.intDiv, hb'])⟩
    · cases h
  · split at h
    · rename_i hb
      have hb' : ¬ b < 0 := by simp at hb; omega
      exact ⟨_, _, h, fun _ => rfl, fun w => binV_int (by simp [binOp, Op.shift, hb', IntKind.bits])⟩
    · cases h
  · split at h
    · rename_i hb
      have hb' : ¬ b < 0 := by simp at hb; omega
      exact ⟨_, _, h, fun _ => rfl, fun w => binV_int (by simp [binOp, Op.shift, hb', IntKind.bits])⟩
    · cases h
  · exact binInt_sound h t xo yo

theorem bin_sound {op : BinOp} {t : TypeId} {xo yo : Operand} {x y : AV} {k : AV → Tr ρ} (h : (evBin P op t xo yo x y k).den = some r) :
    ∃ z, (k z).den = some r ∧ ∀ N vx vy, x.val N = some vx → y.val N = some vy → ∃ v, z.val N = some v ∧ ∀ w, (binV op t xo yo vx vy).run P w = .ok v w := by
  have fin : ∀ {a b : Int}, (∃ z v, (k z).den = some r ∧ (∀ N, z.val N = some v) ∧ ∀ w, (binV op t xo yo (.int .i64 a) (.int .i64 b)).run P w = .ok v w) →
      (∀ N, x.val N = some (.int .i64 a)) → (∀ N, y.val N = some (.int .i64 b)) →
      ∃ z, (k z).den = some r ∧ ∀ N vx vy, x.val N = some vx → y.val N = some vy → ∃ v, z.val N = some v ∧ ∀ w, (binV op t xo yo vx vy).run P w = .ok v w := by
    intro a b ⟨z, v, h1, h2, h3⟩ hx hy
    refine ⟨z, h1, fun N vx vy ex ey => ⟨v, h2 N, ?_⟩⟩
    rw [hx N] at ex; rw [hy N] at ey; cases ex; cases ey
    exact h3
  unfold evBin at h
  split at h
  · rename_i a b
    refine fin (a := a) (b := b) ?_ (fun _ => rfl) (fun _ => rfl)
    split at h
    · rename_i c hc
      unfold binKK at hc
      split at hc
      · rename_i b' hb'; simp at hc; subst hc; exact ⟨_, .bool b', h, fun _ => rfl, fun w => binV_int (binOp_int_cmp hb' t w)⟩
      · split at hc
        · rename_i n hn; simp at hc; subst hc; exact ⟨_, .int .i64 n, h, fun _ => rfl, fun w => binV_int (binOp_int_arith hn t w)⟩
        · split at hc
          · split at hc
            · rename_i hb
              have hb' : b ≠ 0 := by simpa using hb
              simp at hc; subst hc
              exact ⟨_, _, h, fun _ => rfl, fun w => binV_int (by simp [binOp, Op.intDiv, hb'])⟩
            · cases hc
          · split at hc
            · rename_i hb
              have hb' : b ≠ 0 := by simpa using hb
              simp at hc; subst hc
              exact ⟨_, _, h, fun _ => rfl, fun w => binV_int (by simp [binOp, Op.intDiv, hb'])⟩
            · cases hc
          · split at hc
            · rename_i hb
              have hb' : ¬ b < 0 := by simp at hb; omega
              simp at hc; subst hc
              exact ⟨_, _, h, fun _ => rfl, fun w => binV_int (by simp [binOp, Op.shift, hb', IntKind.bits])⟩
            · cases hc
          · split at hc
            · rename_i hb
              have hb' : ¬ b < 0 := by simp at hb; omega
              simp at hc; subst hc
              exact ⟨_, _, h, fun _ => rfl, fun w => binV_int (by simp [binOp, Op.shift, hb', IntKind.bits])⟩
            · cases hc
          · cases hc
    · exact binIntK_sound h t xo yo
  · exact fin (binIntK_sound h t xo yo) (fun _ => rfl) (fun _ => rfl)
  · exact fin (binInt_sound h t xo yo) (fun _ => rfl) (fun _ => rfl)
  · exact fin (binInt_sound h t xo yo) (fun _ => rfl) (fun _ => rfl)
  · obtain ⟨z, v, h1, h2, h3⟩ := binU_sound h t xo yo
    refine ⟨z, h1, fun N vx vy ex ey => ⟨v, h2 N, ?_⟩⟩
    simp only [AV.val, CV.val, Option.some.injEq] at ex ey; subst ex; subst ey
    exact h3
  · obtain ⟨z, v, h1, h2, h3⟩ := binU_sound h t xo yo
    refine ⟨z, h1, fun N vx vy ex ey => ⟨v, h2 N, ?_⟩⟩
    simp only [AV.val, CV.val, Option.some.injEq] at ex ey; subst ex; subst ey
    exact h3
  · rename_i f caps
    split at h
    · rename_i hu
      have clo : ∀ {N : List Nm} {v : Value}, (AV.clo f caps).val N = some v → ∃ a, v = .func (.func f) #[] a := by
        intro N v hv
        simp only [AV.val] at hv
        split at hv
        · simp at hv; exact ⟨_, hv.symm⟩
        · cases hv
      have gen : ∀ (d : Nat) (a : Array Value) (w : World), (Op.equalIn (d + 1) t (.func (.func f) #[] a) .nilFunc).run P w = .ok false w := by
        intro d a w
        simp [Op.equalIn, run_underlying hu]
      have he : ∀ (a : Array Value) (w : World), (Op.equal t (.func (.func f) #[] a) .nilFunc).run P w = .ok false w := fun a w => gen 9999 a w
      split at h
      · refine ⟨_, h, fun N vx vy hx hy => ⟨_, rfl, fun w => ?_⟩⟩
        obtain ⟨a, rfl⟩ := clo hx
        simp [AV.val, CV.val] at hy; subst hy
        simp [binV, eqGuard, binOp, he]
      · refine ⟨_, h, fun N vx vy hx hy => ⟨_, rfl, fun w => ?_⟩⟩
        obtain ⟨a, rfl⟩ := clo hx
        simp [AV.val, CV.val] at hy; subst hy
        simp [binV, eqGuard, binOp, he]
      · simp [Tr.den] at h
    · simp [Tr.den] at h
  · rename_i xs ys
    split at h
    · simp [Tr.den] at h
    · rename_i hg
      split at h
      · rename_i q hq
        have agg : ∀ {N : List Nm} {cs : List CV} {v : Value}, (AV.agg cs).val N = some v → ∃ a, v = .agg a := by
          intro N cs v hv
          simp only [AV.val] at hv
          split at hv
          · simp at hv; exact ⟨_, hv.symm⟩
          · cases hv
        split at h
        · refine ⟨_, h, fun N vx vy hx hy => ⟨_, rfl, fun w => ?_⟩⟩
          have he := eqA_sound hq Op.maxDepth (by decide) N vx vy hx hy w
          obtain ⟨ax, rfl⟩ := agg hx
          obtain ⟨ay, rfl⟩ := agg hy
          simp [binV, eqGuard, hg, binOp, Op.equal, he]
        · refine ⟨_, h, fun N vx vy hx hy => ⟨_, rfl, fun w => ?_⟩⟩
          have he := eqA_sound hq Op.maxDepth (by decide) N vx vy hx hy w
          obtain ⟨ax, rfl⟩ := agg hx
          obtain ⟨ay, rfl⟩ := agg hy
          simp [binV, eqGuard, hg, binOp, Op.equal, he]
        · simp [Tr.den] at h
      · simp [Tr.den] at h
  · split at h
    · rename_i x' hx'
      split at h
      · rename_i y' hy'
        split at h
        · rename_i q hq
          refine ⟨_, h, fun N vx vy hx hy => ⟨q, ofVal_val N q, ?_⟩⟩
          rw [avplain_val hx'] at hx; rw [avplain_val hy'] at hy
          cases hx; cases hy
          exact fun w => pureRun_sound hq w
        · cases h
      · cases h
    · cases h

theorem not_sound {x y : AV} {vx : Value} (h : evNot x = some y) (hx : x.val N = some vx) : ∃ v, y.val N = some v ∧ ∀ w, (Op.unary .not vx).run P w = .ok v w := by
  unfold evNot at h
  split at h
  · simp at h; subst h; simp [AV.val, CV.val] at hx; subst hx; exact ⟨_, rfl, fun w => by simp [Op.unary]⟩
  · simp at h; subst h; simp [AV.val, CV.val] at hx; subst hx; exact ⟨_, rfl, fun w => by simp [Op.unary]⟩
  · cases h
end
end Go.Proofs.YtlbmjajjldfigaaGreat.Ev
