/-
  GaussKnown: a number that is none, whatever bits it has; the rest is looked up. For the seat of round rC (its functions' numbers stand here).
-/
import Derived.Test.YthgpgnijbajlgaaS0
namespace Go.Proofs.Ythgpgnijbajlgaa
open Go Go.RowKit Ev
set_option maxRecDepth 100000
set_option linter.unusedVariables false
set_option linter.unusedSimpArgs false

/-! Steps by hand -/
section
variable {P : Program} {E : Env} {LE : Laws} {B : Nat} {w0 : World}
theorem seq_step (hE : EnvOK P E) {x y : Code} {n : Nat} {N : List Nm} {s s1 : St} {a : Act} {w : World} {Q : Exit → Act → World → Prop} (hL : LAll P LE x) (hR : Rel B w0 N s a w)
    (h : (ev P E LE n none x s (fun e s => Tr.ret (e, s))).den = some (Exit.normal, s1)) (hy : ∀ N a w, Rel B w0 N s1 a w → y.wp P Q a w) : (Code.seq x y).wp P Q a w := by
  refine wp_seq ((ev_sound (B := B) (w0 := w0) hE n).1 x hL hR h ?_)
  intro e N' s' a' w' hR' h'
  simp only [Tr.den, Option.some.injEq, Prod.mk.injEq] at h'
  obtain ⟨rfl, rfl⟩ := h'
  exact hy _ _ _ hR'
theorem op_step (hE : EnvOK P E) {ops : Array Oper} {o : Oper} {l : List Oper} {N : List Nm} {s s1 : St} {a : Act} {w : World} {Q : Exit → Act → World → Prop} (hR : Rel B w0 N s a w)
    (h : (evOps P E ops.toList [o] s (fun s => Tr.ret s)).den = some s1) (hy : ∀ N a w, Rel B w0 N s1 a w → wpList P ops Q l a w) : wpList P ops Q (o :: l) a w := by
  simp only [evOps] at h
  simp only [wpList]
  rcases guard_sound hR.t h with ⟨hw, s2, e1, e2, e3, e4⟩ | ⟨hw, s2, e1, e2, e3, e4⟩
  · rw [if_pos hw]
    refine .inl (op_sound (s := s2) ⟨by rw [e1]; exact hR.m, e3⟩ hE e4 ?_)
    intro N' s' a' w' hle hR' h'
    simp only [Tr.den, Option.some.injEq] at h'
    subst h'
    exact hy _ _ _ hR'
  · rw [if_neg (by simp [hw])]
    obtain ⟨s3, f1, f2, f3, f4⟩ := skip_sound e3 e4
    simp only [Tr.den, Option.some.injEq] at f4
    subst f4
    exact hy _ _ _ ⟨by rw [f1, e1]; exact hR.m, f3⟩
/-- A number that is none. -/
def isNan (v : Nat) : Prop := ∃ f, f < 4503599627370495 ∧ (v = 9218868437227405313 + f ∨ v = 9223372036854775808 + 9218868437227405313 + f)
def nanOf (w : World) : Nat := (Question.nanBits .f64 0 0).cut (w.tape w.drawn (Question.nanBits .f64 0 0))
theorem nanOf_nan (w : World) : isNan (nanOf w) := by
  unfold nanOf
  generalize w.tape w.drawn (Question.nanBits .f64 0 0) = t
  refine ⟨(t / 2) % 4503599627370495, Nat.mod_lt _ (by decide), ?_⟩
  have : (Question.nanBits .f64 0 0).cut t = (t % 2) * 9223372036854775808 + 9218868437227405312 + 1 + (t / 2) % 4503599627370495 := rfl
  rw [this]
  rcases Nat.mod_two_eq_zero_or_one t with h | h <;> rw [h] <;> omega
theorem quo_nan (t : TypeId) (x y : Operand) (w : World) : (binV .quo t x y (.float .f64 0) (.float .f64 0)).run P w = .ok (.float .f64 (nanOf w)) w.drew := by
  have h : FloatKind.f64.format.div 0 0 = none := by decide +kernel
  have hq : (Question.nanBits .f64 0 0).forced = false := rfl
  simp [binV, eqGuard, binOp, Op.floatArith, h, hq, nanOf]
theorem relM_drew {N : List Nm} {M : List Row} {w : World} (h : RelM B w0 N M w) : RelM B w0 N M w.drew where
  below := ⟨⟨h.below.os, h.below.tape, h.below.output, h.below.size, h.below.block⟩, ⟨h.below.others.size, h.below.others.same⟩⟩
  base := h.base
  len := h.len
  row := fun i r hr => by
    have := h.row i r hr
    cases r <;> exact this
  sep := h.sep
theorem nan_step {ops : Array Oper} {o : Oper} {l : List Oper} {N : List Nm} {s s1 : St} {a : Act} {w : World} {Q : Exit → Act → World → Prop} {t t' : TypeId} {x y : Operand} {d : Nat}
    (hR : Rel B w0 N s a w) (hg : (guardK ops.toList s o.guard (fun s => Tr.ret (true, s)) (fun s => Tr.ret (false, s))).den = some (true, s1)) (ho : o.op = .binOp .quo t x y t') (hd : o.dst = some d) (hdn : d < s1.n)
    (hx : opnd s1 x = some (.c (.v (.float .f64 0)))) (hy : opnd s1 y = some (.c (.v (.float .f64 0))))
    (hk : ∀ v N a w, isNan v → Rel B w0 N (s1.put d (.c (.v (.float .f64 v)))) a w → wpList P ops Q l a w) : wpList P ops Q (o :: l) a w := by
  simp only [wpList]
  rcases guard_sound hR.t hg with ⟨hw, s2, e1, e2, e3, e4⟩ | ⟨hw, s2, e1, e2, e3, e4⟩
  · simp only [Tr.den, Option.some.injEq, Prod.mk.injEq, true_and] at e4
    subst e4
    rw [if_pos hw]
    refine .inl ?_
    have vx := opnd_val e3 hx
    have vy := opnd_val e3 hy
    simp only [AV.val, CV.val, Option.some.injEq] at vx vy
    have hb := quo_nan (P := P) t x y w
    simp only [binV, Sem.run_bind] at hb
    have hrun : (execOp a.eval o).run P w = .ok (.value (.float .f64 (nanOf w))) w.drew := by
      simp only [execOp, ho, ← vx, ← vy, Sem.run_bind, hb, Result.andThen_ok, Sem.run_pure]
    show o.upon P a _ Q ((execOp a.eval o).run P w)
    rw [hrun, Oper.upon_value, hd]
    exact hk _ N _ _ (nanOf_nan w) ⟨relM_drew (by rw [show (s2.put d (.c (.v (.float .f64 (nanOf w))))).mem = s2.mem from rfl, e1]; exact hR.m), e3.put hdn rfl⟩
  · simp [Tr.den] at e4
theorem endK_post {ρ : Type} (cr : Cod ρ) (fn : Func) (x : ρ) {w : World} : Post w.heap.size w x (endK P fn cr.dec) (bodyPost P fn fun e w' => e = .returned (cr.enc x) ∧ Below w.heap.size w w') := by
  intro e N' s' a' w' hR h'
  have done : ∀ {y : AV}, resV P s' fn.results.toList = some y → (match cr.dec y with | some r => Tr.ret r | none => Tr.fail).den = some x →
      a'.defers = [] ∧ ∃ v, (results fn a'.tmps).run P w' = .ok v w' ∧ (Ending.returned v = .returned (cr.enc x) ∧ Below w.heap.size w w') := by
    intro y hy hx
    obtain ⟨u, h1, h2⟩ := resV_sound hR hy
    split at hx
    · rename_i q hq
      simp [Tr.den] at hx; subst hx
      rw [cr.ok hq N'] at h1; cases h1
      exact ⟨hR.t.defers, _, h2, rfl, hR.m.below.toBelow⟩
    · simp [Tr.den] at hx
  unfold endK at h'
  cases e with
  | normal =>
    dsimp only at h'
    split at h'
    · rename_i y hy; exact done hy h'
    · simp [Tr.den] at h'
  | ret =>
    dsimp only at h'
    split at h'
    · rename_i y hy; exact done hy h'
    · simp [Tr.den] at h'
  | exit i => simp [Tr.den] at h'
  | goto l => simp [Tr.den] at h'
  | panic ch => simp [Tr.den] at h'
  | outgrown => simp [Tr.den] at h'
end

/-! What is no number is not whole -/
theorem nan_ge {v : Nat} (h : isNan v) : fGe v negFar = false := by
  have hr : ∃ s t, rd v = .nan s t := by
    obtain ⟨f, hf, hv⟩ := h
    have e1 : Ieee.double.signWeight = 9223372036854775808 := by decide
    have e5 : Ieee.double.binade = 4503599627370496 := by decide
    have e6 : Ieee.double.infRung = 2047 * 4503599627370496 := by decide
    have hm : v % 9223372036854775808 = 9218868437227405313 + f := by omega
    unfold rd Ieee.Format.read
    rw [e1, e5, e6]
    simp only [hm]
    split
    · omega
    · split
      · omega
      · split
        · omega
        · exact ⟨_, _, rfl⟩
  obtain ⟨s, t, hr⟩ := hr
  unfold fGe
  rw [fOrd_rd, hr]
  rfl
theorem nan_whole {v : Nat} (h : isNan v) (y : Nat) : cWhole (v, y) = false := by
  unfold cWhole fPart
  simp only [nan_ge h, Bool.false_and]

/-! The law's own code -/
def sL : Code → Code | .seq x _ => x | c => c
def sR : Code → Code | .seq _ y => y | c => c
def opsOf : Code → Array Oper | .region _ o _ => o | _ => #[]
noncomputable def gk0 : Code := match Try.f7.body with | some c => c | none => .skip
noncomputable def gk1 : Code := sR gk0
noncomputable def gk2 : Code := sR gk1
noncomputable def gk3 : Code := sR gk2
noncomputable def gk4 : Code := sR gk3
def gkEnv : Env := (Env.add 18 (F0 cBool true) (Env.add 19 (F2 cCx cInt cCx cTurn) (Env.add 20 (F1 cCx cCx cMirror) (Env.add 21 (F1 cCx cInt ((fun z => if cWhole z = true then cNorm z else 0))) (Env.add 23 (F2 cBeam cBeam cBool cSame) (Env.add 25 (F2 cBeam cQuad (cTwo cBeam cBool) cCarry) (Env.add 28 (F2 cCx cInt cInt cInDisc) (Env.add 29 (FR (sc 1 [0] (tCod 0 cInt tNil) rNil) (sc 1 [0] (tSl 0 0 tNil) (rG_cx 22 rNil)) (fun _ => true) ((fun x => ((), ((cellsP (cellsR x.1.1)).map cxOf, ()))))) (Env.add 33 (F1 cCx cBool cWhole) Env.nil)))))))))
theorem gkOK : EnvOK Try.prog gkEnv := (EnvOK.add s_meniscuslaw8_known (EnvOK.add s_gauss_Turn (EnvOK.add s_gauss_Mirror (EnvOK.add s_gauss_Norm (EnvOK.add s_gauss_Same (EnvOK.add s_gauss_Carry (EnvOK.add s_gauss_InDisc (EnvOK.add s_gauss_Cells (EnvOK.add s_gauss_Whole EnvOK.nil)))))))))
def stOf (t : Tr (Exit × St)) (z : St) : St := match t.den with | some (_, s) => s | none => z
def stOf1 (t : Tr St) (z : St) : St := match t.den with | some s => s | none => z
def gkK : Exit → St → Tr (Exit × St) := fun e s => Tr.ret (e, s)
noncomputable def st0 : St := { n := Try.f7.ntmps, tmps := argTmps 0 [], mem := [] }
noncomputable def st1 : St := stOf (ev Try.prog gkEnv Laws.nil 200 none (sL gk0) st0 gkK) st0
noncomputable def st2 : St := stOf (ev Try.prog gkEnv Laws.nil 200 none (sL gk1) st1 gkK) st0
noncomputable def st3 : St := stOf (ev Try.prog gkEnv Laws.nil 200 none (sL gk2) st2 gkK) st0
noncomputable def gkOps : Array Oper := opsOf (sL gk3)
noncomputable def gkO (i : Nat) : Oper := match gkOps.toList[i]? with | some o => o | none => { (default : Oper) with }
noncomputable def st4 : St := stOf1 (evOps Try.prog gkEnv gkOps.toList [gkO 0] st3 (fun s => Tr.ret s)) st0
noncomputable def st5 : St := stOf1 (evOps Try.prog gkEnv gkOps.toList [gkO 1] st4 (fun s => Tr.ret s)) st0
noncomputable def st6 (v : Nat) : St := st5.put 16 (.c (.v (.float .f64 v)))
noncomputable def st7 (v : Nat) : St := stOf1 (evOps Try.prog gkEnv gkOps.toList [gkO 3] (st6 v) (fun s => Tr.ret s)) st0
noncomputable def st8 (v : Nat) : St := stOf1 (evOps Try.prog gkEnv gkOps.toList [gkO 4] (st7 v) (fun s => Tr.ret s)) st0
def gkCells : Unit × (List Cx × Unit) := ((), List.map cxOf (cellsP (cellsR 1)), ())
theorem gk_rest (vna1 : Nat) : ev Try.prog gkEnv Laws.nil 200 none gk4 (st8 vna1) (endK Try.prog Try.f7 cBool.dec) =
    .bind (cCarry ((0, 4607182418800017408), 4607182418800017408, 0) (1, 5, 0, 1)) fun vy2 => .bind (cCarry ((0, 0), 0, 0) (1, 0, 0, 1)) fun vy3 => .bind (cCarry ((4607182418800017408, 0), 4607182418800017408, 0) (1, -1, 2, -2)) fun vy4 => .bind (cCarry ((4692750811720056832, 0), 4607182418800017408, 0) (4, 0, 0, 1)) fun vy5 => .bind (true) fun vb6 => .br (vb6) (.br ((@Nat.cast Int _ gkCells.2.1.length) == 4) (.br (decide ((0 : Int) ≤ 0 ∧ 0 < (@Nat.cast Int _ gkCells.2.1.length))) (.get (gkCells.2.1[Int.toNat 0]?) fun vt7 => .br (Ev.cEq vt7.1 vt7.2 13830554455654793216 13830554455654793216) (.br (decide ((0 : Int) ≤ 1 ∧ 1 < (@Nat.cast Int _ gkCells.2.1.length))) (.get (gkCells.2.1[Int.toNat 1]?) fun vt8 => .br (Ev.cEq vt8.1 vt8.2 0 13830554455654793216) (.br (decide ((0 : Int) ≤ 2 ∧ 2 < (@Nat.cast Int _ gkCells.2.1.length))) (.get (gkCells.2.1[Int.toNat 2]?) fun vt9 => .br (Ev.cEq vt9.1 vt9.2 13830554455654793216 0) (.br (decide ((0 : Int) ≤ 3 ∧ 3 < (@Nat.cast Int _ gkCells.2.1.length))) (.get (gkCells.2.1[Int.toNat 3]?) fun vt10 => .br (Ev.cEq vt10.1 vt10.2 0 0) (.bind (cTurn (4613937818241073152, 4616189618054758400) (-1)) fun vcx11 => .br (Ev.cEq vcx11.1 vcx11.2 4616189618054758400 13837309855095848960) (.bind (cTurn (4613937818241073152, 4616189618054758400) 6) fun vcx12 => .br (Ev.cEq vcx12.1 vcx12.2 13837309855095848960 13839561654909534208) (.bind (cMirror (4613937818241073152, 4616189618054758400)) fun vcx13 => .br (Ev.cEq vcx13.1 vcx13.2 4613937818241073152 13839561654909534208) (.bind (cWhole (4602678819172646912, 0)) fun vb14 => .br (!vb14) (.bind (cWhole (vna1, 4607182418800017408)) fun vb15 => .br (!vb15) (.bind (cWhole (4697254415642394624, 0)) fun vb16 => .br (!vb16) (.bind (cTurn (vna1, 4607182418800017408) 1) fun vcx17 => .br (Ev.cEq vcx17.1 vcx17.2 0 0) (.bind (if cWhole (4697254415642394624, 0) = true then cNorm (4697254415642394624, 0) else 0) fun vn18 => .br (vn18 == 0) (.bind (cMirror (0, 4602678819172646912)) fun vcx19 => .br (Ev.cEq vcx19.1 vcx19.2 0 0) (.bind (cInDisc (0, 0) 2) fun vn20 => .br (vn20 == 1) (.bind (cInDisc (4607182418800017408, 4607182418800017408) 2) fun vn21 => .br (vn21 == 0) (.bind (cInDisc (4611686018427387904, 0) 2) fun vn22 => .br (vn22 == 0) (.bind (cInDisc (4611686018427387904, 4607182418800017408) 2) fun vn23 => .br (vn23 == 2) (.bind (cInDisc (4602678819172646912, 0) 2) fun vn24 => .br (vn24 == 0) (.br (vy2.2) (.br (Ev.cEq vy2.1.1.1 vy2.1.1.2 4617315517961601024 4607182418800017408 && Ev.cEq vy2.1.2.1 vy2.1.2.2 4607182418800017408 0) (.br (!vy3.2) (.br (!vy4.2) (.br (!vy5.2) (.bind (cSame ((0, 4611686018427387904), 4611686018427387904, 0) ((0, 4607182418800017408), 4607182418800017408, 0)) fun vb25 => .br (vb25) (.bind (cSame ((0, 0), 0, 0) ((0, 0), 0, 0)) fun vb26 => .ret (!vb26)) (.ret (false))) (.ret (false))) (.ret (false))) (.ret (false))) (.ret (false))) (.ret (false))) (.ret (false))) (.ret (false))) (.ret (false))) (.ret (false))) (.ret (false))) (.ret (false))) (.ret (false))) (.ret (false))) (.ret (false))) (.ret (false))) (.ret (false))) (.ret (false))) (.ret (false))) (.ret (false))) (.ret (false))) (.fail)) (.ret (false))) (.fail)) (.ret (false))) (.fail)) (.ret (false))) (.fail)) (.ret (false))) (.ret (false)) := by kernel_rfl
theorem gk_den (v : Nat) (h : isNan v) : (ev Try.prog gkEnv Laws.nil 200 none gk4 (st8 v) (endK Try.prog Try.f7 cBool.dec)).den = some true := by
  rw [gk_rest]
  have h1 := nan_whole h 4607182418800017408
  have h2 : cTurn (v, 4607182418800017408) 1 = (0, 0) := by unfold cTurn; rw [if_neg (by rw [h1]; decide)]
  rw [h1, h2]
  decide +kernel
theorem gkL (c : Code) : LAll Try.prog Laws.nil c := fun b _ i R _ h => by cases h
theorem c_meniscuslaw8_GaussKnown : Plain Try.prog 7 [] (cBool.enc true) := by
  intro w
  refine calls_of_wp Try.func7 (show Try.f7.body = some gk0 by kernel_rfl) ?_
  rw [show gk0 = .seq (sL gk0) gk1 by kernel_rfl]
  refine seq_step gkOK (gkL _) (start_rel (N := []) (args := []) (vs := []) rfl (Nat.zero_le _) (relM_start w)) (n := 200) (s1 := st1) (by kernel_rfl) fun N a w1 hR => ?_
  rw [show gk1 = .seq (sL gk1) gk2 by kernel_rfl]
  refine seq_step gkOK (gkL _) hR (n := 200) (s1 := st2) (by kernel_rfl) fun N a w1 hR => ?_
  rw [show gk2 = .seq (sL gk2) gk3 by kernel_rfl]
  refine seq_step gkOK (gkL _) hR (n := 200) (s1 := st3) (by kernel_rfl) fun N a w1 hR => ?_
  rw [show gk3 = .seq (.region 3 gkOps false) gk4 by kernel_rfl]
  refine wp_seq (wp_region_list ?_)
  rw [show gkOps.toList = [gkO 0, gkO 1, gkO 2, gkO 3, gkO 4] by kernel_rfl]
  refine op_step gkOK hR (s1 := st4) (by kernel_rfl) fun N a w1 hR => ?_
  refine op_step gkOK hR (s1 := st5) (by kernel_rfl) fun N a w1 hR => ?_
  refine nan_step hR (s1 := st5) (by kernel_rfl) (show (gkO 2).op = .binOp .quo 28 (.tmp 14) (.tmp 15) 28 by kernel_rfl) (show (gkO 2).dst = some 16 by kernel_rfl) (Nat.le_of_ble_eq_true (by kernel_rfl)) (by kernel_rfl) (by kernel_rfl) fun v N a w1 hv hR => ?_
  refine op_step gkOK (s := st6 v) hR (s1 := st7 v) (by kernel_rfl) fun N a w1 hR => ?_
  refine op_step gkOK hR (s1 := st8 v) (by kernel_rfl) fun N a w1 hR => ?_
  refine wpList_nil ?_
  exact (ev_sound gkOK 200).1 gk4 (gkL _) hR (gk_den v hv) (endK_post cBool Try.f7 true)
theorem s_meniscuslaw8_GaussKnown : Ev.Spec Try.prog 7 (F0 cBool true) := spec0 (fun vs w => Try.call7 vs w) c_meniscuslaw8_GaussKnown
end Go.Proofs.Ythgpgnijbajlgaa
