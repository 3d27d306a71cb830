/-
  How much is cut, where light falls; in plain Lean.
-/
import Derived.Test.YtliglpiofomelaaGreatPup
namespace Go.Proofs.YtliglpiofomelaaGreat
open Go Ev
set_option linter.unusedVariables false
set_option linter.unusedSimpArgs false
def lastOf (l : List Surf) : Iv := if l.length = 0 then Iv.none else match l[((l.length : Int) - 1).toNat]? with | some s => s.at_ | none => Iv.none
def filmK (step k : Int) : Iv := Iv.of (IntKind.i64.wrap (k * step)) (IntKind.i64.wrap (IntKind.i64.wrap (k + 1) * step))
def partOf (r : DRep) : Iv := (Iv.of (IntKind.i64.wrap (r.1 * 65536)) (IntKind.i64.wrap (IntKind.i64.wrap (r.1 + r.2.1) * 65536))).div (Iv.whole r.2.2.1)
def bandOf (o : Iv) (l : List Surf) (step n k : Int) : DRow := (filmK step k, partOf (scanOf o l (filmK step k) (Iv.point 0) n).1, (scanOf o l (filmK step k) (Iv.point 0) n).1)
def rowVC (r : DRow) : RowV := (r.1, r.2.1, repC r.2.2)
def tabOk (l : List Surf) (step rows n : Int) : Bool := decide (1 ≤ step ∧ step ≤ 1048576) && (decide (1 ≤ rows ∧ rows ≤ 16) && sizedC l n)
def tableOf (o : Iv) (l : List Surf) (step rows n : Int) : List DRow × Int := if tabOk l step rows n = true then ((List.range rows.toNat).map fun (k : Nat) => bandOf o l step n (k : Int), 0) else ([], 1)
section
variable {R : Type}
abbrev TabX (R : Type) := (Int × Int × Int × Int × Unit) × (Iv × List R × List Surf × Unit)
abbrev TabY (R : Type) := (Unit × (List R × Unit)) ⊕ ((Int × Unit) × (List R × Unit))
def tabStep (g : DRow → R) : TabX R → Option (TabX R ⊕ TabY R)
  | ((k, rows, step, n, _), (o, L, l, _)) =>
    if k < rows then
      if Ev.lenOk l = true then
        if (scanOf o l (filmK step k) (Iv.point 0) n).2 ≠ 0 then some (.inr (.inr (((scanOf o l (filmK step k) (Iv.point 0) n).2, ()), ([], ()))))
        else if Ev.lenOk (L ++ [g (bandOf o l step n k)]) = true then some (.inl ((IntKind.i64.wrap (k + 1), rows, step, n, ()), (o, L ++ [g (bandOf o l step n k)], l, ()))) else none
      else none
    else some (.inr (.inl ((), (L, ()))))
def tabM (x : TabX R) : Nat := (x.1.2.1 - x.1.1).toNat
theorem filmK_right {step : Int} {k : Nat} (hs : 1 ≤ step ∧ step ≤ 1048576) (hk : k < 16) : filmK step k = ⟨k * step, (k + 1) * step, false⟩ ∧ (filmK step k).right = true ∧ 0 ≤ (k : Int) * step ∧ ((k : Int) + 1) * step = k * step + step := by
  have e : ((k : Int) + 1) * step = k * step + step := by rw [Int.add_mul, Int.one_mul]
  have h0 : 0 ≤ (k : Int) * step := Int.mul_nonneg (by omega) (by omega)
  have h1 : (k : Int) * step ≤ 15 * 1048576 := Int.mul_le_mul (by omega) hs.2 (by omega) (by omega)
  have hr : (⟨k * step, (k + 1) * step, false⟩ : Iv).right = true := by
    rw [e]
    exact right_iff.2 ⟨rfl, by simp only; omega, by simp only; omega, by simp only; omega⟩
  have e2 : filmK step k = ⟨k * step, (k + 1) * step, false⟩ := by
    unfold filmK
    rw [wr (n := (k : Int) * step) (by omega), wr (n := (k : Int) + 1) (by omega), wr (n := ((k : Int) + 1) * step) (by omega)]
    unfold Iv.of
    rw [if_pos hr]
  exact ⟨e2, by rw [e2]; exact hr, h0, e⟩
theorem point0_right : (Iv.point 0).right = true := by decide
theorem scan_e {o : Iv} {l : List Surf} {n step : Int} {k : Nat} (hs : 1 ≤ step ∧ step ≤ 1048576) (hk : k < 16) : (scanOf o l (filmK step k) (Iv.point 0) n).2 = if sizedC l n = true then 0 else 1 := by
  unfold scanOf
  have := (filmK_right hs hk).2.1
  by_cases c : sizedC l n = true
  · rw [if_pos ⟨c, this, point0_right⟩, if_pos c]
  · rw [if_neg (fun h => c h.1), if_neg c]
theorem tab_iter (g : DRow → R) {o : Iv} {l : List Surf} {step n rows : Int} (hl : Ev.lenOk l = true) (hs : 1 ≤ step ∧ step ≤ 1048576) (hz : sizedC l n = true) (hr : rows ≤ 16) : ∀ (m k j : Nat) (L : List R), rows = k + m → m ≤ j → L.length = k →
    Ev.iter (tabStep g) (j + 1) (((k : Int), rows, step, n, ()), (o, L, l, ())) = some (.inl ((), (L ++ (List.range' k m).map fun (i : Nat) => g (bandOf o l step n (i : Int)), ())))
  | 0, k, j, L, h0, _, _ => by
    rw [Ev.iter]
    simp only [tabStep, if_neg (show ¬ (k : Int) < rows by omega), List.range'_zero, List.map_nil, List.append_nil]
  | m + 1, k, j, L, h0, hj, hL => by
    obtain ⟨j', rfl⟩ : ∃ j', j = j' + 1 := ⟨j - 1, by omega⟩
    have he := scan_e (o := o) (l := l) (n := n) hs (k := k) (by omega)
    rw [if_pos hz] at he
    have hn := tab_iter g (o := o) (n := n) hl hs hz hr m (k + 1) j' (L ++ [g (bandOf o l step n (k : Int))]) (by omega) (by omega) (by simp [hL])
    have hw : IntKind.i64.wrap ((k : Int) + 1) = ((k + 1 : Nat) : Int) := by rw [wr (by omega)]; rfl
    have hlo : Ev.lenOk (L ++ [g (bandOf o l step n (k : Int))]) = true := lenOk_iff.2 (by simp [hL]; omega)
    rw [Ev.iter]
    simp only [tabStep, if_pos (show (k : Int) < rows by omega), hl, if_true, he, ne_eq, not_true_eq_false, if_false, hlo, hw]
    rw [hn, List.range'_succ, List.map_cons, List.append_assoc]
    rfl
theorem tab_run (g : DRow → R) {o : Iv} {l : List Surf} {step n rows : Int} (hl : Ev.lenOk l = true) (hs : 1 ≤ step ∧ step ≤ 1048576) (hr : 1 ≤ rows ∧ rows ≤ 16) :
    runBy (tabStep g) tabM ((0, rows, step, n, ()), (o, [], l, ())) = some (if sizedC l n = true then .inl ((), ((List.range rows.toNat).map (fun (i : Nat) => g (bandOf o l step n (i : Int))), ())) else .inr ((1, ()), ([], ()))) := by
  unfold runBy
  by_cases c : sizedC l n = true
  · rw [if_pos c]
    have := tab_iter g (o := o) (n := n) hl hs c hr.2 rows.toNat 0 (tabM ((0, rows, step, n, ()), (o, ([] : List R), l, ()))) [] (by omega) (by simp only [tabM]; omega) rfl
    rw [List.range_eq_range']
    exact this
  · rw [if_neg c]
    have he := scan_e (o := o) (l := l) (n := n) hs (k := 0) (by omega)
    rw [if_neg c] at he
    have he' : (scanOf o l (filmK step 0) (Iv.point 0) n).2 = 1 := he
    rw [Ev.iter]
    simp only [tabStep, if_pos (show (0 : Int) < rows by omega), hl, if_true, he']
    rfl
end

/-! Means -/
def sqOf (s : SpotV) (p : Ivp) : Iv := (p.1.sub s.2.2.1).sqr.add (p.2.sub s.2.2.2.1).sqr
def meanOf (f : Ivp → Iv) (l : List Ivp) : Iv := (l.foldl (fun s p => s.add (f p)) (Iv.point 0)).div (Iv.whole (l.length : Int))
abbrev MeanX := (Int × Int × Unit) × (List Ivp × Iv × Iv × Unit)
abbrev MeanY := Unit × (List Ivp × Iv × Iv × Unit)
def meanStep (f : Ivp → Iv) : MeanX → Option (MeanX ⊕ MeanY)
  | ((i, m, _), (l, s, res, _)) =>
    if i < m then
      if 0 ≤ i ∧ i < (l.length : Int) then
        match l[i.toNat]? with
        | some p => some (.inl ((IntKind.i64.wrap (i + 1), m, ()), (l, s.add (f p), res, ())))
        | none => none
      else none
    else some (.inr ((), (l, s, res, ())))
def meanStep1 : MeanX → Option (MeanX ⊕ MeanY) := meanStep Prod.fst
def meanStep2 : MeanX → Option (MeanX ⊕ MeanY) := meanStep Prod.snd
abbrev MeanX3 := (Int × Int × Unit) × (List Ivp × SpotV × Iv × Iv × Unit)
def meanStep3 : MeanX3 → Option (MeanX3 ⊕ MeanY)
  | ((i, m, _), (l, sp, s, res, _)) =>
    if i < m then
      if 0 ≤ i ∧ i < (l.length : Int) then
        match l[i.toNat]? with
        | some p => some (.inl ((IntKind.i64.wrap (i + 1), m, ()), (l, sp, s.add (sqOf sp p), res, ())))
        | none => none
      else none
    else some (.inr ((), (l, s, res, ())))
def meanM1 (x : MeanX) : Nat := x.2.1.length - x.1.1.toNat
def meanM2 (x : MeanX) : Nat := x.2.1.length - x.1.1.toNat
def meanM3 (x : MeanX3) : Nat := x.2.1.length - x.1.1.toNat
theorem mean_iter (f : Ivp → Iv) (res : Iv) (l : List Ivp) (hl : l.length ≤ 1048576) : ∀ (q pre : List Ivp) (s : Iv) (j : Nat), l = pre ++ q → q.length ≤ j →
    Ev.iter (meanStep f) (j + 1) (((pre.length : Int), (l.length : Int), ()), (l, s, res, ())) = some ((), (l, q.foldl (fun s p => s.add (f p)) s, res, ()))
  | [], pre, s, j, hp, _ => by
    rw [Ev.iter]
    have : l.length = pre.length := by rw [hp]; simp
    simp only [meanStep, if_neg (show ¬ (pre.length : Int) < (l.length : Int) by omega), List.foldl_nil]
  | p :: q, pre, s, j, hp, hj => by
    obtain ⟨j', rfl⟩ : ∃ j', j = j' + 1 := ⟨j - 1, by simp at hj; omega⟩
    have hlen : l.length = pre.length + (q.length + 1) := by rw [hp]; simp
    have hg : l[((pre.length : Int)).toNat]? = some p := by rw [hp]; simp
    have hn := mean_iter f res l hl q (pre ++ [p]) (s.add (f p)) j' (by rw [hp]; simp) (by simp at hj; omega)
    have hw : IntKind.i64.wrap ((pre.length : Int) + 1) = (((pre ++ [p]).length : Nat) : Int) := by rw [wr (by omega)]; simp
    rw [Ev.iter]
    simp only [meanStep, if_pos (show (pre.length : Int) < (l.length : Int) by omega), if_pos (show (0 : Int) ≤ (pre.length : Int) ∧ (pre.length : Int) < (l.length : Int) by omega), hg, hw]
    rw [hn, List.foldl_cons]
theorem mean_run (f : Ivp → Iv) {l : List Ivp} (hl : Ev.lenOk l = true) (res : Iv) : runBy (meanStep f) (fun x => x.2.1.length - x.1.1.toNat) ((0, (l.length : Int), ()), (l, Iv.point 0, res, ())) = some ((), (l, l.foldl (fun s p => s.add (f p)) (Iv.point 0), res, ())) := by
  unfold runBy
  exact mean_iter f res l (lenOk_iff.1 hl) l [] (Iv.point 0) _ rfl (by simp)
theorem mean3_iter (sp : SpotV) (res : Iv) (l : List Ivp) (hl : l.length ≤ 1048576) : ∀ (q pre : List Ivp) (s : Iv) (j : Nat), l = pre ++ q → q.length ≤ j →
    Ev.iter meanStep3 (j + 1) (((pre.length : Int), (l.length : Int), ()), (l, sp, s, res, ())) = some ((), (l, q.foldl (fun s p => s.add (sqOf sp p)) s, res, ()))
  | [], pre, s, j, hp, _ => by
    rw [Ev.iter]
    have : l.length = pre.length := by rw [hp]; simp
    simp only [meanStep3, if_neg (show ¬ (pre.length : Int) < (l.length : Int) by omega), List.foldl_nil]
  | p :: q, pre, s, j, hp, hj => by
    obtain ⟨j', rfl⟩ : ∃ j', j = j' + 1 := ⟨j - 1, by simp at hj; omega⟩
    have hlen : l.length = pre.length + (q.length + 1) := by rw [hp]; simp
    have hg : l[((pre.length : Int)).toNat]? = some p := by rw [hp]; simp
    have hn := mean3_iter sp res l hl q (pre ++ [p]) (s.add (sqOf sp p)) j' (by rw [hp]; simp) (by simp at hj; omega)
    have hw : IntKind.i64.wrap ((pre.length : Int) + 1) = (((pre ++ [p]).length : Nat) : Int) := by rw [wr (by omega)]; simp
    rw [Ev.iter]
    simp only [meanStep3, if_pos (show (pre.length : Int) < (l.length : Int) by omega), if_pos (show (0 : Int) ≤ (pre.length : Int) ∧ (pre.length : Int) < (l.length : Int) by omega), hg, hw]
    rw [hn, List.foldl_cons]
theorem mean3_run {sp : SpotV} {l : List Ivp} (hl : Ev.lenOk l = true) (res : Iv) : runBy meanStep3 meanM3 ((0, (l.length : Int), ()), (l, sp, Iv.point 0, res, ())) = some ((), (l, l.foldl (fun s p => s.add (sqOf sp p)) (Iv.point 0), res, ())) := by
  unfold runBy
  exact mean3_iter sp res l (lenOk_iff.1 hl) l [] (Iv.point 0) _ rfl (by simp [meanM3])

/-! Spots -/
abbrev Acc2 := List Ivp × Int
def spotOne (o : Iv) (l : List Surf) (x y : Iv) (n : Int) (at_ : Iv) (a : Acc2) (z : Pair) : Acc2 :=
  if discOf z n ≠ 1 then a
  else if (aimOf o l x y z n).2 = true ∧ (throughOf l (aimOf o l x y z n).1 at_).2.2 = 1 then (a.1 ++ [((throughOf l (aimOf o l x y z n).1 at_).1, (throughOf l (aimOf o l x y z n).1 at_).2.1)], a.2)
  else (a.1, IntKind.i64.wrap (a.2 + 1))
def spotFold (o : Iv) (l : List Surf) (x y : Iv) (n : Int) (at_ : Iv) : Acc2 := (cellsP n).foldl (spotOne o l x y n at_) ([], 0)
def zeroS : SpotV := (0, 0, ⟨0, 0, false⟩, ⟨0, 0, false⟩, ⟨0, 0, false⟩)
def spotEnd (a : Acc2) : SpotV := ((a.1.length : Int), a.2, meanOf Prod.fst a.1, meanOf Prod.snd a.1, meanOf (sqOf ((a.1.length : Int), a.2, meanOf Prod.fst a.1, meanOf Prod.snd a.1, ⟨0, 0, false⟩)) a.1)
def spotOf (o : Iv) (l : List Surf) (x y : Iv) (n : Int) (f : Iv) : SpotV × Int :=
  if sizedC l n = true ∧ x.right = true ∧ y.right = true then (spotEnd (spotFold o l x y n ((lastOf l).add f)), 0) else (zeroS, 1)
abbrev SpotPX := (Int × Int × Int × Unit) × (List Cx × Iv × Iv × Iv × Iv × SpotV × List Ivp × SpotV × List Surf × Unit)
def spotPStep : SpotPX → Option (SpotPX ⊕ (Unit × (List Ivp × SpotV × SpotV × Unit)))
  | ((i, m, n, _), (L, o, x, y, at_, sp, ps, res, l, _)) =>
    if i < m then
      if 0 ≤ i ∧ i < (L.length : Int) then
        match L[i.toNat]? with
        | some z =>
          if cInDisc z n ≠ 1 then some (.inl ((IntKind.i64.wrap (i + 1), m, n, ()), (L, o, x, y, at_, sp, ps, res, l, ())))
          else if (aimP o l x y z n).2 = true then
            if Ev.lenOk l = true then
              if (throughOf l (aimP o l x y z n).1 at_).2.2 = 1 then
                if Ev.lenOk (ps ++ [((throughOf l (aimP o l x y z n).1 at_).1, (throughOf l (aimP o l x y z n).1 at_).2.1)]) = true then
                  some (.inl ((IntKind.i64.wrap (i + 1), m, n, ()), (L, o, x, y, at_, sp, ps ++ [((throughOf l (aimP o l x y z n).1 at_).1, (throughOf l (aimP o l x y z n).1 at_).2.1)], res, l, ())))
                else none
              else some (.inl ((IntKind.i64.wrap (i + 1), m, n, ()), (L, o, x, y, at_, (sp.1, IntKind.i64.wrap (sp.2.1 + 1), sp.2.2), ps, res, l, ())))
            else none
          else some (.inl ((IntKind.i64.wrap (i + 1), m, n, ()), (L, o, x, y, at_, (sp.1, IntKind.i64.wrap (sp.2.1 + 1), sp.2.2), ps, res, l, ())))
        | none => none
      else none
    else some (.inr ((), (ps, sp, res, ())))
def spotPM (x : SpotPX) : Nat := x.2.1.length - x.1.1.toNat
theorem spotOne_len {o : Iv} {l : List Surf} {x y : Iv} {n : Int} {at_ : Iv} (a : Acc2) (z : Pair) : (spotOne o l x y n at_ a z).1.length ≤ a.1.length + 1 := by
  unfold spotOne
  split
  · omega
  · split
    · simp
    · simp
theorem spotP_iter (o : Iv) (l : List Surf) (x y : Iv) (n : Int) (at_ : Iv) (res : SpotV) (hl : Ev.lenOk l = true) (L : List Cx) (hL : L.length ≤ 1024) (c : Int) (rest : Iv × Iv × Iv) : ∀ (q : List Pair) (pre : List Cx) (a : Acc2) (j : Nat), (∀ z ∈ q, box16 z) → L = pre ++ q.map cxOf → q.length ≤ j → a.1.length ≤ pre.length →
    Ev.iter spotPStep (j + 1) (((pre.length : Int), (L.length : Int), n, ()), (L, o, x, y, at_, (c, a.2, rest), a.1, res, l, ())) = some ((), ((q.foldl (spotOne o l x y n at_) a).1, (c, (q.foldl (spotOne o l x y n at_) a).2, rest), res, ()))
  | [], pre, a, j, _, hp, _, _ => by
    rw [Ev.iter]
    have : L.length = pre.length := by rw [hp]; simp
    simp only [spotPStep, if_neg (show ¬ (pre.length : Int) < (L.length : Int) by omega), List.foldl_nil]
  | z :: q, pre, a, j, hq, hp, hj, ha => by
    obtain ⟨j', rfl⟩ : ∃ j', j = j' + 1 := ⟨j - 1, by simp at hj; omega⟩
    have hlen : L.length = pre.length + (q.length + 1) := by rw [hp]; simp
    have hz := hq z (by simp)
    have hg : L[((pre.length : Int)).toNat]? = some (cxOf z) := by rw [hp]; simp
    have hn := spotP_iter o l x y n at_ res hl L hL c rest q (pre ++ [cxOf z]) (spotOne o l x y n at_ a z) j' (fun w hw => hq w (by simp [hw])) (by rw [hp]; simp) (by simp at hj; omega) (by have := spotOne_len (o := o) (l := l) (x := x) (y := y) (n := n) (at_ := at_) a z; simp; omega)
    have hw : IntKind.i64.wrap ((pre.length : Int) + 1) = (((pre ++ [cxOf z]).length : Nat) : Int) := by rw [wr (by omega)]; simp
    rw [Ev.iter]
    simp only [spotPStep, if_pos (show (pre.length : Int) < (L.length : Int) by omega), if_pos (show (0 : Int) ≤ (pre.length : Int) ∧ (pre.length : Int) < (L.length : Int) by omega), hg, inDisc_cx hz, aimP_cx hz, hl, if_true]
    rw [List.foldl_cons, ← hn, ← hw]
    by_cases c1 : discOf z n = 1
    · by_cases c2 : (aimOf o l x y z n).2 = true
      · by_cases c3 : (throughOf l (aimOf o l x y z n).1 at_).2.2 = 1
        · have hlo : Ev.lenOk (a.1 ++ [((throughOf l (aimOf o l x y z n).1 at_).1, (throughOf l (aimOf o l x y z n).1 at_).2.1)]) = true := lenOk_iff.2 (by simp; omega)
          simp only [c1, c2, c3, ne_eq, not_true_eq_false, if_false, if_true, hlo, spotOne, and_self]
        · simp only [c1, c2, c3, ne_eq, not_true_eq_false, if_false, if_true, spotOne, and_false]
      · simp only [c1, c2, ne_eq, not_true_eq_false, if_false, spotOne, false_and, Bool.false_eq_true]
    · simp only [c1, ne_eq, not_false_eq_true, if_true, spotOne]
theorem spotP_run {o : Iv} {l : List Surf} {x y : Iv} {n : Int} {at_ : Iv} {res : SpotV} (hl : Ev.lenOk l = true) (hn : 1 ≤ n ∧ n ≤ 16) :
    runBy spotPStep spotPM ((0, (((cellsP (cellsR n)).map cxOf).length : Int), n, ()), ((cellsP (cellsR n)).map cxOf, o, x, y, at_, zeroS, [], res, l, ())) = some ((), ((spotFold o l x y n at_).1, (0, (spotFold o l x y n at_).2, zeroS.2.2), res, ())) := by
  rw [cellsR_eq hn]
  have := spotP_iter o l x y n at_ res hl ((cellsP n).map cxOf) (by rw [List.length_map]; exact cellsP_len (by omega)) 0 zeroS.2.2 (cellsP n) [] ([], 0) ((cellsP n).map cxOf).length (cells_box16 (by omega)) rfl (by simp) (by simp)
  unfold runBy
  exact this
theorem spotFold_len (o : Iv) (l : List Surf) (x y : Iv) {n : Int} (at_ : Iv) (hn : 0 ≤ n ∧ n ≤ 16) : (spotFold o l x y n at_).1.length ≤ 1024 := by
  have key : ∀ (q : List Pair) (a : Acc2), (q.foldl (spotOne o l x y n at_) a).1.length ≤ a.1.length + q.length := by
    intro q
    induction q with
    | nil => intro a; simp
    | cons z q ih =>
      intro a
      have h1 := ih (spotOne o l x y n at_ a z)
      have h2 := spotOne_len (o := o) (l := l) (x := x) (y := y) (n := n) (at_ := at_) a z
      simp only [List.foldl_cons, List.length_cons]
      omega
  have := key (cellsP n) ([], 0)
  have h3 := cellsP_len hn
  unfold spotFold
  simp only [List.length_nil] at this
  omega

/-! The document's spots -/
abbrev SpotDX := (Int × Int × Unit) × (List Pair × Iv × Iv × Iv × Iv × SpotV × List Iv × List Iv × SpotV × List Surf × Unit)
def spotDStep : SpotDX → Option (SpotDX ⊕ (Unit × (SpotV × List Iv × List Iv × SpotV × Unit)))
  | ((i, n, _), (L, o, x, y, at_, sp, px, py, res, l, _)) =>
    if i < (L.length : Int) then
      if 0 ≤ i then
        match L[i.toNat]? with
        | some z =>
          if pair20 z = true then
            if discOf z n ≠ 1 then some (.inl ((IntKind.i64.wrap (i + 1), n, ()), (L, o, x, y, at_, sp, px, py, res, l, ())))
            else if (aimOf o l x y z n).2 = true then
              if Ev.lenOk l = true then
                if (throughOf l (aimOf o l x y z n).1 at_).2.2 = 1 then
                  if Ev.lenOk (px ++ [(throughOf l (aimOf o l x y z n).1 at_).1]) = true then
                    if Ev.lenOk (py ++ [(throughOf l (aimOf o l x y z n).1 at_).2.1]) = true then
                      some (.inl ((IntKind.i64.wrap (i + 1), n, ()), (L, o, x, y, at_, (sp.1, sp.2.1, sp.2.2.1.add (throughOf l (aimOf o l x y z n).1 at_).1, sp.2.2.2.1.add (throughOf l (aimOf o l x y z n).1 at_).2.1, sp.2.2.2.2), px ++ [(throughOf l (aimOf o l x y z n).1 at_).1], py ++ [(throughOf l (aimOf o l x y z n).1 at_).2.1], res, l, ())))
                    else none
                  else none
                else some (.inl ((IntKind.i64.wrap (i + 1), n, ()), (L, o, x, y, at_, (sp.1, IntKind.i64.wrap (sp.2.1 + 1), sp.2.2), px, py, res, l, ())))
              else none
            else some (.inl ((IntKind.i64.wrap (i + 1), n, ()), (L, o, x, y, at_, (sp.1, IntKind.i64.wrap (sp.2.1 + 1), sp.2.2), px, py, res, l, ())))
          else none
        | none => none
      else none
    else some (.inr ((), (sp, px, py, res, ())))
def spotDM (x : SpotDX) : Nat := x.2.1.length - x.1.1.toNat
def sumOf (f : Ivp → Iv) (l : List Ivp) : Iv := l.foldl (fun s p => s.add (f p)) (Iv.point 0)
theorem sumOf_snoc (f : Ivp → Iv) (l : List Ivp) (p : Ivp) : sumOf f (l ++ [p]) = (sumOf f l).add (f p) := by simp [sumOf]
theorem spotD_iter (o : Iv) (l : List Surf) (x y : Iv) (n : Int) (at_ : Iv) (res : SpotV) (hl : Ev.lenOk l = true) (L : List Pair) (hL : L.length ≤ 1024) (c : Int) (m : Iv) : ∀ (q pre : List Pair) (a : Acc2) (j : Nat), (∀ z ∈ q, box16 z) → L = pre ++ q → q.length ≤ j → a.1.length ≤ pre.length →
    Ev.iter spotDStep (j + 1) (((pre.length : Int), n, ()), (L, o, x, y, at_, (c, a.2, sumOf Prod.fst a.1, sumOf Prod.snd a.1, m), a.1.map Prod.fst, a.1.map Prod.snd, res, l, ())) =
      some ((), ((c, (q.foldl (spotOne o l x y n at_) a).2, sumOf Prod.fst (q.foldl (spotOne o l x y n at_) a).1, sumOf Prod.snd (q.foldl (spotOne o l x y n at_) a).1, m), (q.foldl (spotOne o l x y n at_) a).1.map Prod.fst, (q.foldl (spotOne o l x y n at_) a).1.map Prod.snd, res, ()))
  | [], pre, a, j, _, hp, _, _ => by
    rw [Ev.iter]
    have : L.length = pre.length := by rw [hp]; simp
    simp only [spotDStep, if_neg (show ¬ (pre.length : Int) < (L.length : Int) by omega), List.foldl_nil]
  | z :: q, pre, a, j, hq, hp, hj, ha => by
    obtain ⟨j', rfl⟩ : ∃ j', j = j' + 1 := ⟨j - 1, by simp at hj; omega⟩
    have hlen : L.length = pre.length + (q.length + 1) := by rw [hp]; simp
    have hz := hq z (by simp)
    have hg : L[((pre.length : Int)).toNat]? = some z := by rw [hp]; simp
    have hs : pair20 z = true := by unfold box16 at hz; unfold pair20; rw [decide_eq_true (by omega), decide_eq_true (by omega)]; rfl
    have hn := spotD_iter o l x y n at_ res hl L hL c m q (pre ++ [z]) (spotOne o l x y n at_ a z) j' (fun w hw => hq w (by simp [hw])) (by rw [hp]; simp) (by simp at hj; omega) (by have := spotOne_len (o := o) (l := l) (x := x) (y := y) (n := n) (at_ := at_) a z; simp; omega)
    have hw : IntKind.i64.wrap ((pre.length : Int) + 1) = (((pre ++ [z]).length : Nat) : Int) := by rw [wr (by omega)]; simp
    rw [Ev.iter]
    simp only [spotDStep, if_pos (show (pre.length : Int) < (L.length : Int) by omega), if_pos (show (0 : Int) ≤ (pre.length : Int) by omega), hg, hs, hl, if_true]
    rw [List.foldl_cons, ← hn, ← hw]
    by_cases c1 : discOf z n = 1
    · by_cases c2 : (aimOf o l x y z n).2 = true
      · by_cases c3 : (throughOf l (aimOf o l x y z n).1 at_).2.2 = 1
        · have hlo : ∀ u : Iv, Ev.lenOk (a.1.map Prod.fst ++ [u]) = true := fun u => lenOk_iff.2 (by simp; omega)
          have hlo2 : ∀ u : Iv, Ev.lenOk (a.1.map Prod.snd ++ [u]) = true := fun u => lenOk_iff.2 (by simp; omega)
          simp only [c1, c2, c3, ne_eq, not_true_eq_false, if_false, if_true, hlo, hlo2, spotOne, and_self, sumOf_snoc, List.map_append, List.map_cons, List.map_nil]
        · simp only [c1, c2, c3, ne_eq, not_true_eq_false, if_false, if_true, spotOne, and_false]
      · simp only [c1, c2, ne_eq, not_true_eq_false, if_false, spotOne, false_and, Bool.false_eq_true]
    · simp only [c1, ne_eq, not_false_eq_true, if_true, spotOne]
theorem spotD_run {o : Iv} {l : List Surf} {x y : Iv} {n : Int} {at_ : Iv} {res : SpotV} {m : Iv} (hl : Ev.lenOk l = true) (hn : 1 ≤ n ∧ n ≤ 16) :
    runBy spotDStep spotDM ((0, n, ()), (cellsP (cellsR n), o, x, y, at_, (0, 0, Iv.point 0, Iv.point 0, m), [], [], res, l, ())) = some ((), ((0, (spotFold o l x y n at_).2, sumOf Prod.fst (spotFold o l x y n at_).1, sumOf Prod.snd (spotFold o l x y n at_).1, m), (spotFold o l x y n at_).1.map Prod.fst, (spotFold o l x y n at_).1.map Prod.snd, res, ())) := by
  rw [cellsR_eq hn]
  have := spotD_iter o l x y n at_ res hl (cellsP n) (cellsP_len (by omega)) 0 m (cellsP n) [] ([], 0) (cellsP n).length (cells_box16 (by omega)) rfl (Nat.le_refl _) (by simp)
  unfold runBy
  exact this
abbrev MeanDX := (Int × Unit) × (List Iv × List Iv × SpotV × SpotV × Unit)
def meanDStep : MeanDX → Option (MeanDX ⊕ (Unit × (SpotV × SpotV × Unit)))
  | ((i, _), (px, py, sp, res, _)) =>
    if i < (px.length : Int) then
      if 0 ≤ i ∧ i < (py.length : Int) then
        match px[i.toNat]?, py[i.toNat]? with
        | some u, some v => some (.inl ((IntKind.i64.wrap (i + 1), ()), (px, py, (sp.1, sp.2.1, sp.2.2.1, sp.2.2.2.1, sp.2.2.2.2.add (sqOf sp (u, v))), res, ())))
        | _, _ => none
      else none
    else some (.inr ((), (sp, res, ())))
def meanDM (x : MeanDX) : Nat := x.2.1.length - x.1.1.toNat
theorem sqOf_m (c t : Int) (X Y m m' : Iv) (p : Ivp) : sqOf (c, t, X, Y, m) p = sqOf (c, t, X, Y, m') p := rfl
theorem meanD_iter (res : SpotV) (c t : Int) (X Y m0 : Iv) (l : List Ivp) (hl : l.length ≤ 1048576) : ∀ (q pre : List Ivp) (m : Iv) (j : Nat), l = pre ++ q → q.length ≤ j →
    Ev.iter meanDStep (j + 1) (((pre.length : Int), ()), (l.map Prod.fst, l.map Prod.snd, (c, t, X, Y, m), res, ())) = some ((), ((c, t, X, Y, q.foldl (fun s p => s.add (sqOf (c, t, X, Y, m0) p)) m), res, ()))
  | [], pre, m, j, hp, _ => by
    rw [Ev.iter]
    have : l.length = pre.length := by rw [hp]; simp
    simp only [meanDStep, List.length_map, if_neg (show ¬ (pre.length : Int) < (l.length : Int) by omega), List.foldl_nil]
  | p :: q, pre, m, j, hp, hj => by
    obtain ⟨j', rfl⟩ : ∃ j', j = j' + 1 := ⟨j - 1, by simp at hj; omega⟩
    have hlen : l.length = pre.length + (q.length + 1) := by rw [hp]; simp
    have hg : (l.map Prod.fst)[((pre.length : Int)).toNat]? = some p.1 := by rw [hp]; simp
    have hg2 : (l.map Prod.snd)[((pre.length : Int)).toNat]? = some p.2 := by rw [hp]; simp
    have hn := meanD_iter res c t X Y m0 l hl q (pre ++ [p]) (m.add (sqOf (c, t, X, Y, m0) p)) j' (by rw [hp]; simp) (by simp at hj; omega)
    have hw : IntKind.i64.wrap ((pre.length : Int) + 1) = (((pre ++ [p]).length : Nat) : Int) := by rw [wr (by omega)]; simp
    rw [Ev.iter]
    simp only [meanDStep, List.length_map, if_pos (show (pre.length : Int) < (l.length : Int) by omega), if_pos (show (0 : Int) ≤ (pre.length : Int) ∧ (pre.length : Int) < (l.length : Int) by omega), hg, hg2, hw]
    rw [List.foldl_cons, ← hn]
    rfl
theorem meanD_run {res : SpotV} {c t : Int} {X Y : Iv} (m0 m : Iv) {l : List Ivp} (hl : l.length ≤ 1048576) :
    runBy meanDStep meanDM ((0, ()), (l.map Prod.fst, l.map Prod.snd, (c, t, X, Y, m), res, ())) = some ((), ((c, t, X, Y, l.foldl (fun s p => s.add (sqOf (c, t, X, Y, m0) p)) m), res, ())) := by
  unfold runBy
  exact meanD_iter res c t X Y m0 l hl l [] m _ rfl (by simp [meanDM])
end Go.Proofs.YtliglpiofomelaaGreat
