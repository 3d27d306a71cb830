/-
  poly.Horner, walked: a loop over a function whose rounds store into a box.
-/
import Derived.Test.YtlbmjajjldfigaaGreatHornerR
namespace Go.Proofs.YtlbmjajjldfigaaGreat
open Go Go.RowKit Ev
set_option maxRecDepth 100000

noncomputable abbrev hoC : Code := bodyOf Tryz.f131
def sq1 : Code → Code | .seq x _ => x | c => c
def sq2 : Code → Code | .seq _ y => y | c => c
noncomputable abbrev hoC1 : Code := sq1 (sq2 hoC)
noncomputable abbrev hoC4 : Code := sq1 (sq2 (sq2 (sq2 hoC)))
theorem ho_eq : hoC = .seq (.region 0 (regOps 0 hoC) false) (.seq hoC1 (.seq (.region 3 (regOps 3 hoC) false) (.seq hoC4 (.seq (.seq (.region 6 (regOps 6 hoC) false)
    (.block 0 (.rangeFunc (.tmp 27) #[28, 29] (.region 7 (regOps 7 hoC) false) (.block 1 (.region 8 (regOps 8 hoC) true))))) (.seq (.region 9 (regOps 9 hoC) false) .ret))))) := by kernel_rfl
def hoE : Env := Env.add 21 (F1 cInt cIv Iv.point) (Env.add 14 (F1 cIv cBool Iv.right) (Env.add 49 (F0 cIv Iv.none) (Env.add 95 (F2 cIv cIv cIv Iv.mul) (Env.add 20 (F2 cIv cIv cIv Iv.add) Env.nil))))
theorem hoE_ok : EnvOK Tryz.prog hoE := EnvOK.add s_iv_Point (EnvOK.add s_iv_Right (EnvOK.add s_iv_None (EnvOK.add s_iv_Mul (EnvOK.add s_iv_Add EnvOK.nil))))

def rI {X : Type} (d : RD X) : RD (Iv × X) := rBox ccIv ccIv_ok d
def rJ {X : Type} (d : RD X) : RD (Iv × X) := rRo ccIv ccIv_ok d
def hnE := sc 2 [0, 1] (tSl 0 0 (tCod 1 cIv tNil)) (rL_iv rNil)
def hnA := sc 36 [0, 3, 4] (tSl 0 0 (tOwn 3 1 (tOwn 4 2 tNil))) (rL_iv (rI (rI rNil)))
def hnB := sc 36 [0, 3, 4, 5] (tSl 0 0 (tOwn 3 1 (tOwn 4 2 (tOwn 5 3 tNil)))) (rL_iv (rI (rI (rI rNil))))
def hnC := sc 36 [3, 4, 5, 26] (tOwn 3 0 (tOwn 4 1 (tOwn 5 2 (tSl 26 3 tNil)))) (rI (rI (rI (rL_iv rNil))))
def hnR := sc 36 [4] (tOwn 4 0 tNil) (rI rNil)
/- a round: what comes; the box of the loop's variable; the body -/
def hn7 := sc 36 [29] (tCod 29 cIv tNil) rNil
def hn8 := sc 36 [7] (tOwn 7 0 tNil) (rI rNil)
def hnD := sc 36 [3, 4, 5, 7, 27] (tOwn 3 0 (tOwn 4 1 (tOwn 5 2 (tOwn 7 3 (tClo 27 155 [4] tNil))))) (rJ (rJ (rI (rJ (rRoSl 5 ccNil ccNil_ok (rL_iv rNil))))))
/- behind the loop -/
def hn9 := sc 36 [4, 5] (tOwn 4 0 (tOwn 5 1 tNil)) (rI (rJ rNil))
/- slices.Backward -/
def hnK := sc 4 [2] (tClo 2 155 [0] tNil) (rBoxSl 1 ccNil ccNil_ok (rL_iv rNil))
def hnS (x : Iv) (l : List Iv) : St := { n := 36, tmps := argTmps 0 ((hnE.enc ((x, ()), (l, ()))).tmps.map Prod.snd), mem := (hnE.enc ((x, ()), (l, ()))).mem }
def hnT (l : List Iv) : St := { n := 4, tmps := argTmps 0 [.c (.sl 0)], mem := [.list ⟨.iv, l⟩] }
noncomputable abbrev baC : Code := bodyOf Tryz.f150

theorem mixed : Tryz.prog.follows .mixedOrders = true := by kernel_rfl
theorem ho_t0 (x : Iv) (l : List Iv) : evOps Tryz.prog hoE (regOps 0 hoC).toList (regOps 0 hoC).toList (hnS x l) (retK hnA) = .ret ((), (l, (x, (⟨0, 0, false⟩, ())))) := by kernel_rfl
theorem ho_t1 (x r : Iv) (l : List Iv) : ev Tryz.prog hoE Laws.nil 200 none hoC1 (hnA.enc ((), (l, (x, (r, ()))))) (backK hnA (ocRet hnR)) =
    .br ((l.length : Int) == 0) (.bind (Iv.point 0) fun y => .ret (.inr ((), (y, ())))) (.ret (.inl ((), (l, (x, (r, ())))))) := by kernel_rfl
theorem ho_t3 (x r : Iv) (l : List Iv) : evOps Tryz.prog hoE (regOps 3 hoC).toList (regOps 3 hoC).toList (hnA.enc ((), (l, (x, (r, ()))))) (retK hnB) =
    .br (decide (0 ≤ IntKind.i64.wrap ((l.length : Int) - 1) ∧ IntKind.i64.wrap ((l.length : Int) - 1) < (l.length : Int))) (.get l[(IntKind.i64.wrap ((l.length : Int) - 1)).toNat]? fun y => .ret ((), (l, (x, (r, (y, ())))))) .fail := by kernel_rfl
theorem ho_t4 (x r s : Iv) (l : List Iv) : ev Tryz.prog hoE Laws.nil 200 none hoC4 (hnB.enc ((), (l, (x, (r, (s, ())))))) (backK hnB (ocRet hnR)) =
    .bind s.right fun y => .br (!y) (.bind Iv.none fun z => .ret (.inl ((), (l, (x, (r, (z, ()))))))) (.ret (.inl ((), (l, (x, (r, (s, ()))))))) := by kernel_rfl
theorem ho_t6 (x r s : Iv) (l : List Iv) : evOps Tryz.prog hoE (regOps 6 hoC).toList ((regOps 6 hoC).toList.take 5) (hnB.enc ((), (l, (x, (r, (s, ())))))) (retK hnC) =
    .br (decide ((0 : Int) ≤ 0 ∧ 0 ≤ IntKind.i64.wrap ((l.length : Int) - 1) ∧ IntKind.i64.wrap ((l.length : Int) - 1) ≤ (l.length : Int))) (.ret ((), (x, (r, (s, (((l.take (IntKind.i64.wrap ((l.length : Int) - 1)).toNat).drop (Int.toNat 0)), ())))))) .fail := by kernel_rfl
theorem ho_t7 (y : Iv) : evOps Tryz.prog hoE (regOps 7 hoC).toList (regOps 7 hoC).toList (hn7.enc ((y, ()), ())) (retK hn8) = .ret ((), (y, ())) := by kernel_rfl
theorem ho_t8 (x r s y : Iv) (l : List Iv) : drawnT Tryz.prog hoE (regOps 8 hoC) (hnD.enc ((), (x, (r, (s, (y, ((), (l, ())))))))) (retK hnD) =
    .bind (s.mul x) fun u => .bind (u.add y) fun v => .ret ((), (x, (r, (v, (y, ((), (l, ()))))))) := by kernel_rfl
theorem ho_t9 (r s : Iv) : evOps Tryz.prog hoE (regOps 9 hoC).toList (regOps 9 hoC).toList (hn9.enc ((), (r, (s, ())))) (retK hn9) = .ret ((), (s, (s, ()))) := by kernel_rfl

/-! ### slices.Backward -/

def hk1 := sc 4 [0, 1] (tSl 0 0 (tOwn 1 1 tNil)) (rL_iv (rBoxSl 0 ccNil ccNil_ok rNil))
def hk2 := sc 4 [0, 2] (tSl 0 0 (tClo 2 155 [1] tNil)) (rL_iv (rBoxSl 0 ccNil ccNil_ok rNil))
theorem ba_eq : baC = .seq (.region 0 (regOps 0 baC) false) (.seq (.region 1 (regOps 1 baC) false) .ret) := by kernel_rfl
theorem ba_t0 (l : List Iv) : evOps Tryz.prog Env.nil (regOps 0 baC).toList (regOps 0 baC).toList (hnT l) (retK hk1) = .ret ((), (l, ((), ()))) := by kernel_rfl
theorem ba_t1 (l : List Iv) : evOps Tryz.prog Env.nil (regOps 1 baC).toList (regOps 1 baC).toList (hk1.enc ((), (l, ((), ())))) (retK hk2) = .ret ((), (l, ((), ()))) := by kernel_rfl

theorem relM_list {w : World} {ad : Option Addr} {n cap : Nat} {L : Lst} (h : ListAt w (.slice ad n cap) L) : RelM w.heap.size w [.sv ad n cap] [.list L] w := by
  refine ⟨BelowO.refl _ _, Nat.le_refl _, rfl, ?_, ?_⟩
  · intro i r hi
    match i, hi with
    | 0, hi => simp [nth] at hi; subst hi; exact ⟨ad, n, cap, rfl, h⟩
    | i + 1, hi => simp [nth] at hi
  · intro i j r q b hi hj hij hw
    match i, hi with
    | 0, hi => simp [nth] at hi; subst hi; simp [Row.writable] at hw
    | i + 1, hi => simp [nth] at hi

theorem back_calls {w : World} {ad : Option Addr} {n cap : Nat} {l : List Iv} (h : ListAt w (.slice ad n cap) ⟨.iv, l⟩) {m : Nat} :
    CallsIn (wideR none) m Tryz.prog 150 #[.slice ad n cap] w fun e w' => ∃ b T, e = .returned (.func (.func 155) #[] #[.pointer (some ⟨b, 0, none⟩)]) ∧ Below w.heap.size w w' ∧ w.heap.size ≤ b ∧ w'.heap[b]? = some (.cells #[.slice ad n cap] T (0, 0)) := by
  refine callsIn_of_wp (F := wideR none) Tryz.func150 (show Tryz.f150.body = some baC by kernel_rfl) trivial ?_ rfl
  rw [ba_eq]
  have hR0 : Rel w.heap.size w [.sv ad n cap] (hnT l) { tmps := [Value.slice ad n cap].toArray ++ Array.replicate (4 - 1) undef, defers := [] } w :=
    start_rel (args := [.c (.sl 0)]) (vs := [.slice ad n cap]) (n := 4) rfl (by simp) (relM_list h)
  refine wpIn_seq (region_to EnvOK.nil hk1 hR0 (by rw [ba_t0]; rfl) (by kernel_rfl) ?_)
  intro N1 a1 w1 hR1 hs1
  refine wpIn_seq (region_to EnvOK.nil hk2 hR1 (by rw [ba_t1]; rfl) (by kernel_rfl) ?_)
  intro N2 a2 w2 hR2 hs2
  have t0 : a2.tmps[0]? = some (.slice ad n cap) := ((hs2.at (by kernel_rfl)).trans (hs1.at (by kernel_rfl))).trans (by simp)
  refine wpIn_ret ?_
  obtain ⟨v0, p0, q0⟩ := hR2.t.look 0 (.c (.sl 0)) rfl
  obtain ⟨v2, p2, q2⟩ := hR2.t.look 2 (.clo 155 [.own 1 0]) rfl
  obtain ⟨ad1, n1, cap1, e1, _⟩ := hR2.m.row 0 (.list ⟨.iv, l⟩) rfl
  obtain ⟨b, T, vs, e2, e3, e4, e5⟩ := hR2.m.row 1 (.box [.sl 0]) rfl
  simp only [AV.val, CV.val, CV.vals, e1, e2, Option.some.injEq] at p0 p2 e4
  rw [t0] at q0
  simp only [Option.some.injEq] at q0
  refine ⟨hR2.t.defers, _, results_tmp (t := 2) (by kernel_rfl) _ _ _, b, T, ?_, hR2.m.below.toBelow, e3, ?_⟩
  · have : a2.tmps.getD 2 undef = v2 := by
      rw [Array.getD_eq_getD_getElem?, q2]; rfl
    rw [this, ← p2]
  · rw [e5, ← e4, p0, ← q0]

/-! ### What lies between two rounds -/

structure HnW (B : Nat) (w0 : World) (x r s : Iv) (l : List Iv) (b3 b4 b5 Bs : Nat) (W : World) : Prop where
  bel : Below B w0 W
  hB : B ≤ W.heap.size
  c3 : ∃ T, W.heap[b3]? = some (.cells (ccIv.enc x).toArray T (0, 0))
  c4 : ∃ T, W.heap[b4]? = some (.cells (ccIv.enc r).toArray T (0, 0))
  c5 : ∃ T, W.heap[b5]? = some (.cells (ccIv.enc s).toArray T (0, 0))
  cs : ∃ ad n cap T, W.heap[Bs]? = some (.cells #[.slice ad n cap] T (0, 0)) ∧ ListAt W (.slice ad n cap) ⟨.iv, l⟩ ∧ (l ≠ [] → (Value.slice ad n cap).ownBlock ≠ some b5)
  d3 : b3 ≠ b5
  d4 : b4 ≠ b5
  ds : Bs ≠ b5
  g4 : B ≤ b4
  g5 : B ≤ b5
theorem HnW.grown {B : Nat} {w0 : World} {x r s : Iv} {l : List Iv} {b3 b4 b5 Bs : Nat} {W W' : World} {row : Option Nat} (h : HnW B w0 x r s l b3 b4 b5 Bs W) (hg : W.grownBy W' row)
    (hr : ∀ k, row = some k → B ≤ k ∧ ∃ o : Obj, W.heap[k]? = some o ∧ o.isCells = false) : HnW B w0 x r s l b3 b4 b5 Bs W' := by
  have hr' : ∀ k, row = some k → ∃ o : Obj, W.heap[k]? = some o ∧ o.isCells = false := fun k e => (hr k e).2
  obtain ⟨h1, h2, ⟨T3, h3⟩, ⟨T4, h4⟩, ⟨T5, h5⟩, ⟨ad, n, cap, T, h6, h7, h8⟩, h9, h10, h11, h12, h13⟩ := h
  exact ⟨h1.grown hg h2 fun k e => (hr k e).1, Nat.le_trans h2 hg.size, ⟨T3, cells_grown hg hr' h3⟩, ⟨T4, cells_grown hg hr' h4⟩, ⟨T5, cells_grown hg hr' h5⟩, ⟨ad, n, cap, T, cells_grown hg hr' h6, h7.grown hg hr', h8⟩, h9, h10, h11, h12, h13⟩
theorem HnW.below {B : Nat} {w0 : World} {x r s : Iv} {l : List Iv} {b3 b4 b5 Bs : Nat} {W W' : World} (h : HnW B w0 x r s l b3 b4 b5 Bs W) (hb : Below W.heap.size W W') : HnW B w0 x r s l b3 b4 b5 Bs W' :=
  h.grown (grown_of_below hb) (fun k e => by cases e)

structure HnF (b3 b4 b5 Bs : Nat) (a : Act) : Prop where
  n : a.tmps.size = 36
  t3 : a.tmps[3]? = some (.pointer (some ⟨b3, 0, none⟩))
  t4 : a.tmps[4]? = some (.pointer (some ⟨b4, 0, none⟩))
  t5 : a.tmps[5]? = some (.pointer (some ⟨b5, 0, none⟩))
  t27 : a.tmps[27]? = some (.func (.func 155) #[] #[.pointer (some ⟨Bs, 0, none⟩)])

theorem HnW.rel {B : Nat} {w0 : World} {x r s y : Iv} {l : List Iv} {b3 b4 b5 b7 Bs : Nat} {W : World} {a : Act} (h : HnW B w0 x r s l b3 b4 b5 Bs W) {T7 : TypeId} (h7 : W.heap[b7]? = some (.cells (ccIv.enc y).toArray T7 (0, 0))) (hd7 : b7 ≠ b5)
    (hF : HnF b3 b4 b5 Bs a) (ht7 : a.tmps[7]? = some (.pointer (some ⟨b7, 0, none⟩))) (hd : a.defers = []) : ∃ N, Rel B W N (hnD.enc ((), (x, (r, (s, (y, ((), (l, ())))))))) a W := by
  obtain ⟨T3, h3⟩ := h.c3
  obtain ⟨T4, h4⟩ := h.c4
  obtain ⟨T5, h5⟩ := h.c5
  obtain ⟨ad, n, cap, T, h6, hl, hne⟩ := h.cs
  refine ⟨[.blk b3, .blk b4, .blk b5, .blk b7, .blk Bs, .sv ad n cap], ⟨BelowO.refl _ _, h.hB, rfl, ?_, ?_⟩, hd, hF.n, ?_⟩
  · intro i q hi
    match i, hi with
    | 0, hi => cases hi; exact ⟨b3, T3, _, rfl, cvs_mapV _, h3⟩
    | 1, hi => cases hi; exact ⟨b4, T4, _, rfl, cvs_mapV _, h4⟩
    | 2, hi => cases hi; exact ⟨b5, T5, _, rfl, h.g5, cvs_mapV _, h5⟩
    | 3, hi => cases hi; exact ⟨b7, T7, _, rfl, cvs_mapV _, h7⟩
    | 4, hi => cases hi; exact ⟨Bs, T, [.slice ad n cap], rfl, rfl, h6⟩
    | 5, hi => cases hi; exact ⟨ad, n, cap, rfl, hl⟩
    | i + 6, hi => cases hi
  · intro i j p q b hi hj hij hw hb
    match i, hi with
    | 0, hi => cases hi; simp [Row.writable] at hw
    | 1, hi => cases hi; simp [Row.writable] at hw
    | 3, hi => cases hi; simp [Row.writable] at hw
    | 4, hi => cases hi; simp [Row.writable] at hw
    | 5, hi => cases hi; simp [Row.writable] at hw
    | i + 6, hi => cases hi
    | 2, hi =>
      cases hi
      have hb : b5 = b := by simpa [blkOf, nth] using hb
      subst hb
      match j, hj with
      | 0, hj => cases hj; simpa [blkOf, nth] using h.d3
      | 1, hj => cases hj; simpa [blkOf, nth] using h.d4
      | 2, hj => exact absurd rfl hij
      | 3, hj => cases hj; simpa [blkOf, nth] using hd7
      | 4, hj => cases hj; simpa [blkOf, nth] using h.ds
      | 5, hj =>
        cases hj
        cases l with
        | nil => simp [blkOf]
        | cons z l => simpa [blkOf, nth] using hne (by simp)
      | j + 6, hj => cases hj
  · intro t z ht
    change Ev.look [(3, .c (.own 0 0)), (4, .c (.own 1 0)), (5, .c (.own 2 0)), (7, .c (.own 3 0)), (27, .clo 155 [.own 4 0])] t = some z at ht
    rw [look_cons, look_cons, look_cons, look_cons, look_cons] at ht
    split at ht
    · rename_i e; simp at ht; subst ht; subst e; exact ⟨_, rfl, hF.t3⟩
    · split at ht
      · rename_i e; simp at ht; subst ht; subst e; exact ⟨_, rfl, hF.t4⟩
      · split at ht
        · rename_i e; simp at ht; subst ht; subst e; exact ⟨_, rfl, hF.t5⟩
        · split at ht
          · rename_i e; simp at ht; subst ht; subst e; exact ⟨_, rfl, ht7⟩
          · split at ht
            · rename_i e; simp at ht; subst ht; subst e; exact ⟨_, rfl, hF.t27⟩
            · simp [Ev.look] at ht

theorem hn_out {B : Nat} {w0 W W' : World} {x r s s' y : Iv} {l : List Iv} {b3 b4 b5 Bs : Nat} {N : List Nm} {a : Act} (h : HnW B w0 x r s l b3 b4 b5 Bs W) (hF : HnF b3 b4 b5 Bs a) (hR : Rel B W N (hnD.enc ((), (x, (r, (s', (y, ((), (l, ())))))))) a W') :
    HnW B w0 x r s' l b3 b4 b5 Bs W' := by
  have own : ∀ t i b, Ev.look (hnD.enc ((), (x, (r, (s', (y, ((), (l, ()))))))) ).tmps t = some (.c (.own i 0)) → nth N i = some (.blk b) → ∀ b', a.tmps[t]? = some (.pointer (some ⟨b', 0, none⟩)) → b = b' := by
    intro t i b h1 h2 b' h3
    obtain ⟨v, p, q⟩ := hR.t.look t _ h1
    rw [h3] at q
    simp only [AV.val, CV.val, h2, Option.some.injEq] at p q
    rw [← q] at p
    simpa using p
  obtain ⟨b, T3, vs, e1, e2, e3⟩ := hR.m.row 0 (.ro ((ccIv.enc x).map CV.v)) rfl
  rw [cvs_mapV] at e2; cases e2; cases own 3 0 b rfl e1 _ hF.t3
  obtain ⟨b, T4, vs, f1, f2, f3⟩ := hR.m.row 1 (.ro ((ccIv.enc r).map CV.v)) rfl
  rw [cvs_mapV] at f2; cases f2; cases own 4 1 b rfl f1 _ hF.t4
  obtain ⟨b, T5, vs, g1, _, g2, g3⟩ := hR.m.row 2 (.box ((ccIv.enc s').map CV.v)) rfl
  rw [cvs_mapV] at g2; cases g2; cases own 5 2 b rfl g1 _ hF.t5
  obtain ⟨b, T, vs, k1, k2, k3⟩ := hR.m.row 4 (.ro [.sl 5]) rfl
  obtain ⟨ad, n, cap, m1, m2⟩ := hR.m.row 5 (.list ⟨.iv, l⟩) rfl
  have eb : b = Bs := by
    obtain ⟨v, p, q⟩ := hR.t.look 27 (.clo 155 [.own 4 0]) rfl
    rw [hF.t27] at q
    simp only [AV.val, CV.val, CV.vals, k1, Option.some.injEq] at p q
    rw [← q] at p
    simpa using p
  subst eb
  simp only [CV.vals, CV.val, m1, Option.some.injEq] at k2
  subst k2
  refine ⟨h.bel.trans hR.m.below.toBelow, hR.m.base, ⟨T3, e3⟩, ⟨T4, f3⟩, ⟨T5, g3⟩, ⟨ad, n, cap, T, k3, m2, fun hne => ?_⟩, h.d3, h.d4, h.ds, h.g4, h.g5⟩
  have := hR.m.sep 2 5 _ _ b5 (rfl : nth _ 2 = some (.box ((ccIv.enc s').map CV.v))) (rfl : nth _ 5 = some (.list ⟨.iv, l⟩)) (by decide) rfl (by simp [blkOf, g1])
  cases l with
  | nil => exact absurd rfl hne
  | cons z l => simpa [blkOf, m1] using this

/-! ### What the rounds come to -/

def hAcc (X s : Iv) (pre : List (Int × Iv)) : Iv := pre.foldl (fun s p => (s.mul X).add p.2) s
theorem hAcc_snoc (X s : Iv) (pre : List (Int × Iv)) (p : Int × Iv) : hAcc X s (pre ++ [p]) = ((hAcc X s pre).mul X).add p.2 := by simp [hAcc]
theorem hAcc_rev (X s : Iv) (l : List Iv) : hAcc X s (upto (rev l) l.length) = hornerD l X l.length s := by
  have key : ∀ k, k ≤ l.length → hornerD l X l.length s = hornerD l X (l.length - k) (hAcc X s (upto (rev l) k)) := by
    intro k
    induction k with
    | zero => intro _; rfl
    | succ k ih =>
      intro h
      rw [ih (by omega), upto_succ, hAcc_snoc, show l.length - k = (l.length - (k + 1)) + 1 by omega, hornerD, rev, show l.length - 1 - k = l.length - (k + 1) by omega]
  rw [key l.length (Nat.le_refl _), Nat.sub_self]; rfl
theorem hornerD_take (l : List Iv) (X : Iv) (m : Nat) : ∀ j s, j ≤ m → hornerD (l.take m) X j s = hornerD l X j s
  | 0, _, _ => rfl
  | j + 1, s, h => by
    have : atI (l.take m) j = atI l j := by simp [atI, show j < m by omega]
    rw [hornerD, hornerD, this, hornerD_take l X m j _ (by omega)]
def rightOr (s : Iv) : Iv := if s.right = true then s else Iv.none
theorem mul_rightOr (s X : Iv) : (rightOr s).mul X = s.mul X := by
  unfold rightOr
  split
  · rfl
  · rename_i h
    have h1 : s.right = false := by simpa using h
    have h2 : Iv.none.right = false := rfl
    simp [Iv.mul, Iv.both, h1, h2]
theorem add_rightOr (a b : Iv) : rightOr (a.add b) = a.add b := by
  have key : ∀ lo hi, rightOr (Iv.of lo hi) = Iv.of lo hi := by
    intro lo hi
    unfold rightOr Iv.of
    by_cases h : (⟨lo, hi, false⟩ : Iv).right = true
    · rw [if_pos h, if_pos h]
    · rw [if_neg h]; rfl
  unfold Iv.add
  by_cases h : a.both b = true
  · rw [if_pos h, key]
  · rw [if_neg h]; rfl
theorem hornerD_rightOr (l : List Iv) (X : Iv) : ∀ k s, rightOr (hornerD l X k s) = hornerD l X k (rightOr s)
  | 0, s => rfl
  | k + 1, s => by rw [hornerD, hornerD, hornerD_rightOr l X k, add_rightOr, mul_rightOr]
theorem horner_prog {l : List Iv} (X : Iv) (h : l.length ≠ 0) : horner l X = hornerD l X (l.length - 1) (rightOr (atI l (l.length - 1))) := by
  rw [horner, if_neg h, ← hornerD_rightOr]; rfl

theorem ho_res {B : Nat} {w0 : World} {N : List Nm} {a : Act} {w : World} {y : Iv} (hR : Rel B w0 N (hnR.enc ((), (y, ()))) a w) : (results Tryz.f131 a.tmps).run Tryz.prog w = .ok (cIv.enc y) w := by
  obtain ⟨u, h1, h2⟩ := resV_sound (P := Tryz.prog) (fn := Tryz.f131) (x := .agg ((ccIv.enc y).map CV.v)) hR (by kernel_rfl)
  rw [show (AV.agg ((ccIv.enc y).map CV.v)).val N = some (cIv.enc y) from cIv.ok (by kernel_rfl) N] at h1
  cases h1; exact h2
theorem ho_res9 {b4 : Nat} {T : TypeId} {a : Act} {w : World} {y : Iv} (hn : a.tmps.size = 36) (h4 : a.tmps[4]? = some (.pointer (some ⟨b4, 0, none⟩))) (hc : w.heap[b4]? = some (.cells (ccIv.enc y).toArray T (0, 0))) :
    (results Tryz.f131 a.tmps).run Tryz.prog w = .ok (cIv.enc y) w := by
  have hR : Rel 0 w [.blk b4] (hnR.enc ((), (y, ()))) { a with defers := [] } w := by
    refine ⟨⟨BelowO.refl _ _, Nat.zero_le _, rfl, ?_, ?_⟩, rfl, hn, ?_⟩
    · intro i q hi
      match i, hi with
      | 0, hi => cases hi; exact ⟨b4, T, _, rfl, Nat.zero_le _, cvs_mapV _, hc⟩
      | i + 1, hi => cases hi
    · intro i j p q b hi hj hij
      match i, hi, j, hj with
      | 0, _, 0, _ => exact absurd rfl hij
      | 0, _, j + 1, hj => cases hj
      | i + 1, hi, _, _ => cases hi
    · intro t z ht
      change Ev.look [(4, .c (.own 0 0))] t = some z at ht
      rw [look_cons] at ht
      split at ht
      · rename_i e; simp at ht; subst ht; subst e; exact ⟨_, rfl, h4⟩
      · simp [Ev.look] at ht
  exact ho_res (a := { a with defers := [] }) hR
theorem hoB_split : (regOps 6 hoC).toList = (regOps 6 hoC).toList.take 5 ++
    [{ dst := some 27, op := .call { callee := .value (.func 150), args := #[.tmp 26], argTypes := #[156] }, type := 172, pos := "poly.go:20", after := #[{ on := 4, ground := .data }], guard := none }] := by kernel_rfl
theorem enters_back (args : Array Value) (w : World) : (callFunc 155 args).run Tryz.prog w = .ok (.enter 155 args) w := Tryz.call155 args w
theorem backRun {ρ : Operand → Value} {x : Value} {w : World} (hx : ρ (.tmp 26) = x) (hf : ρ (.func 150) = .func (.func 150) #[] #[]) :
    (execOp ρ { dst := some 27, op := .call { callee := .value (.func 150), args := #[.tmp 26], argTypes := #[156] }, type := 172, pos := "poly.go:20", after := #[{ on := 4, ground := .data }], guard := none }).run Tryz.prog w = .ok (.enter 150 #[x]) w := by
  simp [execOp, resolve, hx, hf, Deferred.ofValue, invoke, go_sem, Tryz.call150]

/-! ### The walk -/

theorem c_poly_Horner : PlainS Tryz.prog 131 (sc 2 [0, 1] (tSl 0 0 (tCod 1 cIv tNil)) (rL_iv rNil)) cIv (fun x => lenOk x.2.1) (fun x => horner x.2.1 x.1.1) := by
  rintro ⟨⟨X, _⟩, ⟨l, _⟩⟩ hq N w vs hM hv
  have hl : l.length ≤ 1048576 := lenOk_iff.1 hq
  have ew : IntKind.i64.wrap ((l.length : Int) - 1) = (l.length : Int) - 1 := wr (by omega)
  refine (callsIn_wide (n := 3)).1 (show CallsIn (wideR none) 3 _ _ _ _ _ from ?_)
  refine callsIn_of_wp_marks (F := wideR none) Tryz.func131 (show Tryz.f131.body = some hoC by kernel_rfl) trivial ?_ rfl
  rw [ho_eq]
  have hR0 : Rel w.heap.size w N (hnS X l) { tmps := vs.toArray ++ Array.replicate (36 - vs.toArray.size) undef, defers := [] } w := start_rel hv (Nat.le_of_ble_eq_true rfl) hM
  refine wpIn_seq (region_to hoE_ok hnA hR0 (by rw [ho_t0]; rfl) (by kernel_rfl) ?_)
  intro N1 a1 w1 hR1 _
  by_cases h0 : l.length = 0
  · have hb : ((l.length : Int) == 0) = true := by simp [h0]
    refine wpIn_seq (code_to hoE_ok hnA (ocRet hnR) (z := .inr ((), (Iv.point 0, ()))) hR1 (by rw [ho_t1, den_br, if_pos hb]; rfl) (fun _ _ _ _ h => by cases h) ?_)
    rintro y N2 a2 w2 hy hR2
    cases hy
    have hg : horner l X = Iv.point 0 := by rw [horner, if_pos h0]
    show LeavesInM (wideR none) 3 _ _ a2.tmps _ a2.defers .returning w2
    rw [hR2.t.defers]
    refine ⟨_, ho_res hR2, ?_, hR2.m.below.toBelow⟩
    show _ = Ending.returned (cIv.enc (horner l X))
    rw [hg]
  have hb : ¬ ((l.length : Int) == 0) = true := fun e => by have := eq_of_beq e; omega
  have hi : 0 ≤ (l.length : Int) - 1 ∧ (l.length : Int) - 1 < (l.length : Int) := by omega
  have et : ((l.length : Int) - 1).toNat = l.length - 1 := by omega
  refine wpIn_seq (code_to hoE_ok hnA (ocRet hnR) (z := .inl ((), (l, (X, (⟨0, 0, false⟩, ()))))) hR1 (by rw [ho_t1, den_br, if_neg hb]; rfl) ?_ (fun _ _ _ _ h => by cases h))
  rintro y N2 a2 w2 hy hR2
  cases hy
  obtain ⟨s0, hs0⟩ : ∃ s, s = atI l (l.length - 1) := ⟨_, rfl⟩
  refine wpIn_seq (region_to hoE_ok hnB hR2 (x := ((), (l, (X, (⟨0, 0, false⟩, (s0, ())))))) (by rw [ho_t3, ew, den_br, if_pos (decide_eq_true hi), et, get_atI (by omega), ← hs0]; rfl) (by kernel_rfl) ?_)
  intro N3 a3 w3 hR3 _
  refine wpIn_seq (code_to hoE_ok hnB (ocRet hnR) (z := .inl ((), (l, (X, (⟨0, 0, false⟩, (rightOr s0, ())))))) hR3 (by rw [ho_t4]; unfold rightOr; cases s0.right <;> rfl) ?_ (fun _ _ _ _ h => by cases h))
  rintro y N4 a4 w4 hy hR4
  cases hy
  have etk : ((l.take ((l.length : Int) - 1).toNat).drop (Int.toNat 0)) = l.take (l.length - 1) := by rw [et]; rfl
  obtain ⟨l', hl'⟩ : ∃ l', l' = l.take (l.length - 1) := ⟨_, rfl⟩
  have hlen' : l'.length = l.length - 1 := by rw [hl']; simp
  refine wpIn_seq (wpIn_seq (wpIn_region_list ?_))
  rw [hoB_split]
  refine ops_to hoE_ok hnC (x := ((), (X, (⟨0, 0, false⟩, (rightOr s0, (l', ())))))) ((regOps 6 hoC).toList.take 5) _ hR4 (by rw [ho_t6, ew, den_br, if_pos (decide_eq_true ⟨Int.le_refl _, hi.1, by omega⟩), etk, ← hl']; rfl) (by kernel_rfl) ?_
  intro N5 a5 w5 hR5 _
  -- slices.Backward is called
  obtain ⟨b3, T3, vs3, n3, g3, u3, c3⟩ := hR5.m.row 0 (.box ((ccIv.enc X).map CV.v)) rfl
  obtain ⟨b4, T4, vs4, n4, g4, u4, c4⟩ := hR5.m.row 1 (.box ((ccIv.enc ⟨0, 0, false⟩).map CV.v)) rfl
  obtain ⟨b5, T5, vs5, n5, g5, u5, c5⟩ := hR5.m.row 2 (.box ((ccIv.enc (rightOr s0)).map CV.v)) rfl
  obtain ⟨ad, n, cap, n6, hla⟩ := hR5.m.row 3 (.list ⟨.iv, l'⟩) rfl
  rw [cvs_mapV] at u3 u4 u5
  cases u3; cases u4; cases u5
  have own : ∀ t i b, Ev.look (hnC.enc ((), (X, (⟨0, 0, false⟩, (rightOr s0, (l', ())))))).tmps t = some (.c (.own i 0)) → nth N5 i = some (.blk b) → a5.tmps[t]? = some (.pointer (some ⟨b, 0, none⟩)) := by
    intro t i b h1 h2
    obtain ⟨v, p, q⟩ := hR5.t.look t _ h1
    simp only [AV.val, CV.val, h2, Option.some.injEq] at p
    rw [q, ← p]
  have t26 : a5.tmps[26]? = some (.slice ad n cap) := by
    obtain ⟨v, p, q⟩ := hR5.t.look 26 (.c (.sl 3)) rfl
    simp only [AV.val, CV.val, n6, Option.some.injEq] at p
    rw [q, ← p]
  have hd3 : b3 ≠ b5 := by
    have := hR5.m.sep 0 2 _ _ b3 (rfl : nth _ 0 = some (.box ((ccIv.enc X).map CV.v))) (rfl : nth _ 2 = some (.box ((ccIv.enc (rightOr s0)).map CV.v))) (by decide) rfl (by simp [blkOf, n3])
    simp only [blkOf, n5] at this
    exact fun e => this (by rw [e])
  have hd4 : b4 ≠ b5 := by
    have := hR5.m.sep 1 2 _ _ b4 (rfl : nth _ 1 = some (.box ((ccIv.enc ⟨0, 0, false⟩).map CV.v))) (rfl : nth _ 2 = some (.box ((ccIv.enc (rightOr s0)).map CV.v))) (by decide) rfl (by simp [blkOf, n4])
    simp only [blkOf, n5] at this
    exact fun e => this (by rw [e])
  have hdl : l' ≠ [] → (Value.slice ad n cap).ownBlock ≠ some b5 := by
    intro hne
    have := hR5.m.sep 2 3 _ _ b5 (rfl : nth _ 2 = some (.box ((ccIv.enc (rightOr s0)).map CV.v))) (rfl : nth _ 3 = some (.list ⟨.iv, l'⟩)) (by decide) rfl (by simp [blkOf, n5])
    cases hh : l' with
    | nil => exact absurd hh hne
    | cons z q => simpa [blkOf, n6, hh] using this
  rw [wpListIn, if_pos (show Region.wanted _ _ = true from rfl)]
  refine ⟨fun _ _ => trivial, ?_⟩
  rw [Oper.semAt_eq _ _ _ (by intro c hc; cases hc), backRun (x := .slice ad n cap) (by simp [Act.eval, t26]) rfl]
  refine ⟨fun h => by simp [wideR, Fence.wide] at h, (back_calls hla).mono ?_⟩
  rintro e w6 ⟨Bs, T6, rfl, hb6, hBs, c6⟩
  have lt5 : b5 < w5.heap.size := (Array.getElem?_eq_some_iff.1 c5).1
  have old : ∀ {b : Nat} {o : Obj}, w5.heap[b]? = some o → w6.heap[b]? = some o := fun h => (hb6.block _ (Array.getElem?_eq_some_iff.1 h).1).trans h
  have hW6 : HnW w.heap.size w X ⟨0, 0, false⟩ (rightOr s0) l' b3 b4 b5 Bs w6 :=
    ⟨hR5.m.below.toBelow.trans (hb6.mono hR5.m.base), Nat.le_trans hR5.m.base hb6.size, ⟨T3, old c3⟩, ⟨T4, old c4⟩, ⟨T5, old c5⟩, ⟨ad, n, cap, T6, c6, hla.grown (grown_of_below hb6) (fun _ e => by cases e), hdl⟩, hd3, hd4, by omega, g4, g5⟩
  obtain ⟨a6, ha6⟩ : ∃ a6, a6 = a5.put (some 27) (.func (.func 155) #[] #[.pointer (some ⟨Bs, 0, none⟩)]) := ⟨_, rfl⟩
  have hd6 : a6.defers = [] := by rw [ha6]; exact hR5.t.defers
  have hF6 : HnF b3 b4 b5 Bs a6 := by
    rw [ha6]
    have hn : a5.tmps.size = 36 := hR5.t.size
    exact ⟨by simp [Act.put, hn], (put_other (by simp)).trans (own 3 0 b3 rfl n3), (put_other (by simp)).trans (own 4 1 b4 rfl n4), (put_other (by simp)).trans (own 5 2 b5 rfl n5), by simp [Act.put, hn]⟩
  show wpListIn _ _ _ _ _ [] (a5.put (some 27) _) w6
  rw [← ha6]
  refine wpListIn_nil (wpIn_block ?_)
  have hPW : ∀ {s : Iv} {W : World}, HnW w.heap.size w X ⟨0, 0, false⟩ s l' b3 b4 b5 Bs W → ∃ ad n cap T, W.heap[Bs]? = some (.cells #[.slice ad n cap] T (0, 0)) ∧ ListAt W (.slice ad n cap) ⟨.iv, l'⟩ := by
    intro s W h
    obtain ⟨ad, n, cap, T, h1, h2, _⟩ := h.cs
    exact ⟨ad, n, cap, T, h1, h2⟩
  have hPb : ∀ W W', (∃ ad n cap T, W.heap[Bs]? = some (.cells #[.slice ad n cap] T (0, 0)) ∧ ListAt W (.slice ad n cap) ⟨.iv, l'⟩) → ∀ row, W.grownBy W' row → (∀ r, row = some r → ∃ o : Obj, W.heap[r]? = some o ∧ o.isCells = false) →
      ∃ ad n cap T, W'.heap[Bs]? = some (.cells #[.slice ad n cap] T (0, 0)) ∧ ListAt W' (.slice ad n cap) ⟨.iv, l'⟩ := by
    rintro W W' ⟨ad, n, cap, T, h1, h2⟩ row hg hr
    exact ⟨ad, n, cap, T, cells_grown hg hr h1, h2.grown hg hr⟩
  refine wpIn_rangeFunc_ownH (α := Int × Iv) (w0 := w6) (N := l'.length) (gf := 155) (lb := #[.pointer (some ⟨Bs, 0, none⟩)]) rfl (by decide) (by simp [Act.eval, hF6.t27]) trivial enters_back
    (encs := fun x => #[.int .i64 x.1, cIv.enc x.2])
    (Kp := fun W W' => (∃ ad n cap T, W.heap[Bs]? = some (.cells #[.slice ad n cap] T (0, 0)) ∧ ListAt W (.slice ad n cap) ⟨.iv, l'⟩) → ∃ ad n cap T, W'.heap[Bs]? = some (.cells #[.slice ad n cap] T (0, 0)) ∧ ListAt W' (.slice ad n cap) ⟨.iv, l'⟩)
    (S := fun xs => xs = upto (rev l') l'.length) (Sp := fun _ => True)
    (fun ln J Jx W hW hJ hJx hY h0 => bk_calls _ Bs l' (fun _ h => h) (fun W W' h hb => hPb W W' h none (grown_of_below hb) (fun _ e => by cases e)) (by omega) _ ln J Jx
      (fun p W1 W2 h hb => hJ p W1 W2 none h (grown_of_below hb) (fun _ e => by cases e)) (fun p W1 W2 h hb => hJx p W1 W2 none h (grown_of_below hb) (fun _ e => by cases e)) hY W
      (hPW (hW6.below hW)) h0)
    (fun h k x => k (h x)) (fun W ln o o' _ h1 h2 _ hp => hPb _ _ hp (some ln) (grownBy_putObj' W ln o') (fun r e => by cases e; exact ⟨o, h1, h2⟩))
    (Below.refl _ _) (fun _ => rfl)
    (fun pre W => HnW w.heap.size w X ⟨0, 0, false⟩ (hAcc X (rightOr s0) pre) l' b3 b4 b5 Bs W) (fun _ _ _ => False)
    (fun pre W W' row h hg hr => h.grown hg fun k e => ⟨Nat.le_trans hW6.hB (hr k e).1, (hr k e).2⟩) (fun _ _ _ _ _ h _ _ => h) hW6
    (fun x a' W => (∃ b7, a'.tmps[7]? = some (.pointer (some ⟨b7, 0, none⟩)) ∧ (∃ T, W.heap[b7]? = some (.cells (ccIv.enc x.2).toArray T (0, 0))) ∧ b7 ≠ b5) ∧ HnF b3 b4 b5 Bs a' ∧ a'.defers = [])
    (by
      rintro x a' _ W W' row ⟨⟨b7, h1, ⟨T, h2⟩, h3⟩, h4⟩ hg hr
      exact ⟨⟨b7, h1, ⟨T, cells_grown hg (fun r e => (hr r e).2) h2⟩, h3⟩, h4⟩) ?assign ?body ?done ?stop
  case assign =>
    intro ln pre x W K hI hK
    have hRa : Rel W.heap.size W [] (hn7.enc ((x.2, ()), ())) { tmps := (a6.tmps.setIfInBounds 28 (.int .i64 x.1)).setIfInBounds 29 (cIv.enc x.2), defers := [] } W := by
      refine ⟨relM_start W, rfl, by simp [hF6.n, hn7, sc], fun t z ht => ?_⟩
      change Ev.look [(29, AV.ofVal1 (cIv.enc x.2))] t = some z at ht
      rw [look_cons] at ht
      split at ht
      · rename_i e; simp only [Option.some.injEq] at ht; subst ht; subst e; exact ⟨_, ofVal1_val _ _, by simp [hF6.n]⟩
      · simp [Ev.look] at ht
    have hz : ∀ A B : Value, (#[28, 29].zip #[A, B]).foldl (fun (t : Array Value) (x : Nat × Value) => t.setIfInBounds x.1 x.2) a6.tmps = (a6.tmps.setIfInBounds 28 A).setIfInBounds 29 B := fun A B => by simp
    refine Eq.mpr (congrArg (fun t => Code.wpIn (wideR (some ln)) (3 - 1 - 1) Tryz.prog _ _ { tmps := t, defers := [] } W) (hz _ _)) ?_
    refine region_to (ro := some ln) hoE_ok hn8 (x := ((), (x.2, ()))) hRa (by rw [ho_t7]; rfl) (by kernel_rfl) ?_
    intro N' a' W' hR' hs'
    obtain ⟨b7, T7, vs7, n7, g7, u7, c7⟩ := hR'.m.row 0 (.box ((ccIv.enc x.2).map CV.v)) rfl
    rw [cvs_mapV] at u7; cases u7
    obtain ⟨T5', c5'⟩ := hI.c5
    have lt5' := (Array.getElem?_eq_some_iff.1 c5').1
    have t7 : a'.tmps[7]? = some (.pointer (some ⟨b7, 0, none⟩)) := by
      obtain ⟨v, p, q⟩ := hR'.t.look 7 (.c (.own 0 0)) rfl
      simp only [AV.val, CV.val, n7, Option.some.injEq] at p
      rw [q, ← p]
    exact hK a' W' (hR'.m.below.others.from _) (fun hp => hPb _ _ hp none (grown_of_below hR'.m.below.toBelow) (fun _ e => by cases e)) (hI.below hR'.m.below.toBelow)
      ⟨⟨b7, t7, ⟨T7, c7⟩, by omega⟩, ⟨hR'.t.size, (hs'.at (t := 3) (by kernel_rfl)).trans (by simpa using hF6.t3), (hs'.at (t := 4) (by kernel_rfl)).trans (by simpa using hF6.t4), (hs'.at (t := 5) (by kernel_rfl)).trans (by simpa using hF6.t5), (hs'.at (t := 27) (by kernel_rfl)).trans (by simpa using hF6.t27)⟩, hR'.t.defers⟩
  case body =>
    rintro ln pre x a' W hl _ hI ⟨⟨b7, h7, ⟨T7, c7⟩, hd7⟩, hFa, hda⟩ _
    obtain ⟨N8, hR8⟩ := hI.rel c7 hd7 hFa h7 hda
    refine wpIn_block (drawn_to (ro := some ln) hoE_ok mixed hnD hR8 (by rw [ho_t8]; rfl) (by kernel_rfl) ?_)
    intro N' a2 W' hR' hs'
    have hI' := hn_out hI (⟨hR'.t.size, (hs'.at (by kernel_rfl)).trans hFa.t3, (hs'.at (by kernel_rfl)).trans hFa.t4, (hs'.at (by kernel_rfl)).trans hFa.t5, (hs'.at (by kernel_rfl)).trans hFa.t27⟩ : HnF b3 b4 b5 Bs a2) hR'
    exact ⟨hR'.m.below.others.from _, fun _ => hPW hI', by dsimp only; rw [hAcc_snoc]; exact hI'⟩
  case done =>
    rintro D xs W hD rfl hI hk
    rw [hAcc_rev, hlen', hl', hornerD_take _ _ _ _ _ (Nat.le_refl _)] at hI
    have hres : hornerD l X (l.length - 1) (rightOr s0) = horner l X := by rw [hs0, horner_prog X h0]
    rw [hres] at hI
    obtain ⟨T4', k4⟩ := hI.c4
    obtain ⟨T5', k5⟩ := hI.c5
    refine wpIn_seq (wpIn_region_list ?_)
    rw [hd6]
    have hR9 : Rel w.heap.size W [.blk b4, .blk b5] (hn9.enc ((), (⟨0, 0, false⟩, (horner l X, ())))) a6 W := by
      refine ⟨⟨BelowO.refl _ _, hI.hB, rfl, ?_, ?_⟩, hd6, hF6.n, ?_⟩
      · intro i q hi
        match i, hi with
        | 0, hi => cases hi; exact ⟨b4, T4', _, rfl, g4, cvs_mapV _, k4⟩
        | 1, hi => cases hi; exact ⟨b5, T5', _, rfl, cvs_mapV _, k5⟩
        | i + 2, hi => cases hi
      · intro i j p q b hi hj hij hw hb
        match i, hi with
        | 1, hi => cases hi; simp [Row.writable] at hw
        | i + 2, hi => cases hi
        | 0, hi =>
          cases hi
          have hb : b4 = b := by simpa [blkOf, nth] using hb
          subst hb
          match j, hj with
          | 0, _ => exact absurd rfl hij
          | 1, hj => cases hj; simpa [blkOf, nth] using fun e => hd4 e.symm
          | j + 2, hj => cases hj
      · intro t z ht
        change Ev.look [(4, .c (.own 0 0)), (5, .c (.own 1 0))] t = some z at ht
        rw [look_cons, look_cons] at ht
        split at ht
        · rename_i e; simp at ht; subst ht; subst e; exact ⟨_, rfl, hF6.t4⟩
        · split at ht
          · rename_i e; simp at ht; subst ht; subst e; exact ⟨_, rfl, hF6.t5⟩
          · simp [Ev.look] at ht
    have key := fun Q h => wpListIn_defers (P := Tryz.prog) (F := wideR none) (n := 3) (ops := regOps 9 hoC) (Q := Q) (ds := [{ target := .collected D, args := #[] }]) (regOps 9 hoC).toList a6 W h
    rw [hd6] at key
    refine key _ ?_
    have fin := fun Q hk => ops_to (ro := none) (n := 3) (Q := Q) (ops := regOps 9 hoC) hoE_ok hn9 (regOps 9 hoC).toList [] hR9 (x := ((), (horner l X, (horner l X, ())))) (by rw [ho_t9]; rfl) (by kernel_rfl) hk
    rw [List.append_nil] at fin
    refine fin _ ?_
    intro N' a7 w7 hR7 hs7
    refine wpListIn_nil (wpIn_ret ?_)
    show LeavesInM (wideR none) 3 _ _ a7.tmps _ (a7.defers ++ _) .returning w7
    rw [hR7.t.defers]
    have hk7 := hR7.m.below.others.same D _ hk rfl
    refine ⟨by simp, .inl ⟨D, _, rfl, run_takeDeferred hk7, ?_⟩⟩
    have t4 : a7.tmps[4]? = some (.pointer (some ⟨b4, 0, none⟩)) := (hs7.at (by kernel_rfl)).trans hF6.t4
    obtain ⟨b, T, vs, n8, _, u8, c8⟩ := hR7.m.row 0 (.box ((ccIv.enc (horner l X)).map CV.v)) rfl
    rw [cvs_mapV] at u8; cases u8
    have eb : b = b4 := by
      obtain ⟨v, p, q⟩ := hR7.t.look 4 (.c (.own 0 0)) rfl
      simp only [AV.val, CV.val, n8, Option.some.injEq] at p
      rw [t4, ← p] at q
      simpa using q.symm
    subst eb
    have hDb : b ≠ D := fun e => by rw [← e, c8] at hk7; cases hk7
    refine ⟨_, ho_res9 hR7.t.size t4 ((World.putObj_heap_other hDb).trans c8), rfl, ?_⟩
    refine (hI.bel.trans hR7.m.below.toBelow).trans ?_
    have hDw : w.heap.size ≤ D := Nat.le_trans hW6.hB hD
    exact (Below.refl _ w7).grown (grownBy_putObj' w7 D _) hR7.m.base (fun k e => by cases e; exact hDw)
  case stop =>
    rintro D c pre W _ _ h _
    exact h.elim
theorem s_poly_Horner : Ev.Spec Tryz.prog 131 (FS (sc 2 [0, 1] (tSl 0 0 (tCod 1 cIv tNil)) (rL_iv rNil)) cIv (fun x => lenOk x.2.1) (fun x => horner x.2.1 x.1.1)) := specS rfl (fun vs w => Tryz.call131 vs w) c_poly_Horner
end Go.Proofs.YtlbmjajjldfigaaGreat
