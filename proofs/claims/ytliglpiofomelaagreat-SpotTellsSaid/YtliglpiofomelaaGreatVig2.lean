/-
  Laws about how much is cut, and where light falls; in plain Lean.
-/
import Derived.Test.YtliglpiofomelaaGreatVig
import Derived.Test.YtliglpiofomelaaGreatPup2
namespace Go.Proofs.YtliglpiofomelaaGreat
open Go Ev
set_option linter.unusedVariables false
set_option linter.unusedSimpArgs false
set_option maxRecDepth 100000
def filmS (x y w : Int) : Iv × Iv :=
  (wide (pick x 393216 - 196608) (pick w 500), wide (pick y 393216 - 196608) (dv (pick w 500) 3))
theorem filmS_right (x y w : Int) : (filmS x y w).1.right = true ∧ (filmS x y w).2.right = true := by
  have b1 := pick_bd x (m := 393216) (by decide)
  have b2 := pick_bd y (m := 393216) (by decide)
  have b3 := pick_bd w (m := 500) (by decide)
  have b4 : 0 ≤ dv (pick w 500) 3 ∧ dv (pick w 500) 3 ≤ 1000 := by
    unfold dv
    rw [Int.tdiv_eq_ediv_of_nonneg b3.1]
    rw [show w64 (pick w 500 / 3) = pick w 500 / 3 from wr (by omega)]
    omega
  exact ⟨(wide_right (x := pick x 393216 - 196608) (w := pick w 500) (by omega) (by omega)).1, (wide_right (x := pick y 393216 - 196608) (w := dv (pick w 500) 3) (by omega) (by omega)).1⟩
def ivQ (a b : Iv) : Bool := a.lo == b.lo && (a.hi == b.hi && a.no == b.no)
theorem ivQ_self (a : Iv) : ivQ a a = true := by simp [ivQ]
def repQ (a b : RepV) : Bool := a.1 == b.1 && (a.2.1 == b.2.1 && (a.2.2.1 == b.2.2.1 && (a.2.2.2.1 == b.2.2.2.1 && (cEq a.2.2.2.2.1.1 a.2.2.2.2.1.2 b.2.2.2.2.1.1 b.2.2.2.2.1.2 && cEq a.2.2.2.2.2.1 a.2.2.2.2.2.2 b.2.2.2.2.2.1 b.2.2.2.2.2.2))))
def boxD (r : DRep) : Prop := box20 r.2.2.2.2.1 ∧ box20 r.2.2.2.2.2
theorem repQ_self {r : DRep} (h : boxD r) : repQ (repC r) (repC r) = true := by
  have := same_self h
  unfold sameC at this
  exact this

/-! Tables that are told alike -/
def vtBad (r : RowV) (d : DRow) : Bool := !(ivQ r.1 d.1) || (!(ivQ r.2.1 d.2.1) || !(repQ r.2.2 (repC d.2.2)))
abbrev VtX := (Int × Int × Unit) × (List DRow × List RowV × Unit)
abbrev BadY := (Unit × Unit) ⊕ ((Bool × Unit) × Unit)
def vtStep : VtX → Option (VtX ⊕ BadY)
  | ((i, m, _), (D, R, _)) =>
    if i < m then
      if 0 ≤ i ∧ i < (D.length : Int) then
        match D[i.toNat]? with
        | some d =>
          if 0 ≤ i ∧ i < (R.length : Int) then
            match R[i.toNat]? with
            | some r => if vtBad r d = true then some (.inr (.inr ((false, ()), ()))) else some (.inl ((IntKind.i64.wrap (i + 1), m, ()), (D, R, ())))
            | none => none
          else none
        | none => none
      else none
    else some (.inr (.inl ((), ())))
def vtM (x : VtX) : Nat := x.2.1.length - x.1.1.toNat
theorem vtBad_not {d : DRow} (h : boxD d.2.2) : vtBad (rowVC d) d = false := by
  unfold vtBad rowVC
  simp only [ivQ_self, repQ_self h]
  rfl
theorem vt_iter (D : List DRow) (hb : ∀ d ∈ D, boxD d.2.2) (hD : D.length ≤ 1048576) : ∀ (q pre : List DRow) (j : Nat), D = pre ++ q → q.length ≤ j →
    Ev.iter vtStep (j + 1) (((pre.length : Int), (D.length : Int), ()), (D, D.map rowVC, ())) = some (.inl ((), ()))
  | [], pre, j, hp, _ => by
    rw [Ev.iter]
    have : D.length = pre.length := by rw [hp]; simp
    simp only [vtStep, if_neg (show ¬ (pre.length : Int) < (D.length : Int) by omega)]
  | d :: q, pre, j, hp, hj => by
    obtain ⟨j', rfl⟩ : ∃ j', j = j' + 1 := ⟨j - 1, by simp at hj; omega⟩
    have hlen : D.length = pre.length + (q.length + 1) := by rw [hp]; simp
    have hg : D[((pre.length : Int)).toNat]? = some d := by rw [hp]; simp
    have hg2 : (D.map rowVC)[((pre.length : Int)).toNat]? = some (rowVC d) := by rw [hp]; simp
    have hn := vt_iter D hb hD q (pre ++ [d]) j' (by rw [hp]; simp) (by simp at hj; omega)
    have hw : IntKind.i64.wrap ((pre.length : Int) + 1) = (((pre ++ [d]).length : Nat) : Int) := by rw [wr (by omega)]; simp
    rw [Ev.iter]
    simp only [vtStep, if_pos (show (pre.length : Int) < (D.length : Int) by omega), if_pos (show (0 : Int) ≤ (pre.length : Int) ∧ (pre.length : Int) < (D.length : Int) by omega), List.length_map, hg, hg2, hw, vtBad_not (hb d (by rw [hp]; simp)), Bool.false_eq_true, if_false]
    exact hn
theorem vt_run {D : List DRow} (hb : ∀ d ∈ D, boxD d.2.2) (hD : D.length ≤ 1048576) : runBy vtStep vtM ((0, (D.length : Int), ()), (D, D.map rowVC, ())) = some (.inl ((), ())) := by
  unfold runBy
  exact vt_iter D hb hD D [] _ rfl (by simp [vtM])
theorem table_box (o : Iv) (l : List Surf) (step rows n : Int) : ∀ d ∈ (tableOf o l step rows n).1, boxD d.2.2 := by
  intro d hd
  unfold tableOf at hd
  split at hd
  · rw [List.mem_map] at hd
    obtain ⟨k, _, rfl⟩ := hd
    exact scanOf_box _ _ _ _ _
  · cases hd
theorem table_len (o : Iv) (l : List Surf) (step rows n : Int) : (tableOf o l step rows n).1.length ≤ 16 := by
  unfold tableOf
  split
  · rename_i h
    simp only [tabOk, Bool.and_eq_true, decide_eq_true_eq] at h
    simp; omega
  · simp

/-! Tables are scans -/
def vrBad (o : Iv) (l : List Surf) (n step i : Int) (r : RowV) : Bool :=
  (scanOf o l r.1 (Iv.point 0) n).2 != 0 || (!(repQ (repC (scanOf o l r.1 (Iv.point 0) n).1) r.2.2) || !(ivQ r.1 (filmK step i)))
abbrev VrX := (Int × Int × Int × Int × Unit) × (List RowV × Iv × List Surf × Unit)
def vrStep : VrX → Option (VrX ⊕ BadY)
  | ((i, m, n, step, _), (R, o, l, _)) =>
    if i < m then
      if 0 ≤ i ∧ i < (R.length : Int) then
        match R[i.toNat]? with
        | some r => if Ev.lenOk l = true then (if vrBad o l n step i r = true then some (.inr (.inr ((false, ()), ()))) else some (.inl ((IntKind.i64.wrap (i + 1), m, n, step, ()), (R, o, l, ())))) else none
        | none => none
      else none
    else some (.inr (.inl ((), ())))
def vrM (x : VrX) : Nat := x.2.1.length - x.1.1.toNat
theorem vrBad_not {o : Iv} {l : List Surf} {n step : Int} {k : Nat} (hs : 1 ≤ step ∧ step ≤ 1048576) (hz : sizedC l n = true) (hk : k < 16) : vrBad o l n step (k : Int) (rowVC (bandOf o l step n (k : Int))) = false := by
  have he := scan_e (o := o) (l := l) (n := n) hs hk
  rw [if_pos hz] at he
  unfold vrBad rowVC bandOf
  simp only [he, ivQ_self, repQ_self (scanOf_box _ _ _ _ _)]
  rfl
theorem vr_iter (o : Iv) (l : List Surf) (n step : Int) (N : Nat) (R : List RowV) (hR : R = (List.range N).map fun (k : Nat) => rowVC (bandOf o l step n (k : Int))) (hl : Ev.lenOk l = true) (hs : 1 ≤ step ∧ step ≤ 1048576) (hz : sizedC l n = true) (hN : N ≤ 16) : ∀ (m k j : Nat), k + m = N → m ≤ j →
    Ev.iter vrStep (j + 1) (((k : Int), (R.length : Int), n, step, ()), (R, o, l, ())) = some (.inl ((), ()))
  | 0, k, j, hk, _ => by
    rw [Ev.iter]
    have : R.length = k := by rw [hR]; simp; omega
    simp only [vrStep, if_neg (show ¬ (k : Int) < (R.length : Int) by omega)]
  | m + 1, k, j, hk, hj => by
    obtain ⟨j', rfl⟩ : ∃ j', j = j' + 1 := ⟨j - 1, by omega⟩
    have hlen : R.length = N := by rw [hR]; simp
    have hg : R[((k : Int)).toNat]? = some (rowVC (bandOf o l step n (k : Int))) := by
      rw [hR, List.getElem?_map, Int.toNat_natCast, List.getElem?_range (by omega)]; rfl
    have hn := vr_iter o l n step N R hR hl hs hz hN m (k + 1) j' (by omega) (by omega)
    have hw : IntKind.i64.wrap ((k : Int) + 1) = ((k + 1 : Nat) : Int) := by rw [wr (by omega)]; rfl
    rw [Ev.iter]
    simp only [vrStep, if_pos (show (k : Int) < (R.length : Int) by omega), if_pos (show (0 : Int) ≤ (k : Int) ∧ (k : Int) < (R.length : Int) by omega), hg, hl, if_true, vrBad_not hs hz (show k < 16 by omega), Bool.false_eq_true, if_false, hw]
    exact hn
theorem vr_run {o : Iv} {l : List Surf} {n step rows : Int} (hl : Ev.lenOk l = true) (ht : tabOk l step rows n = true) :
    runBy vrStep vrM ((0, (((tableOf o l step rows n).1.map rowVC).length : Int), n, step, ()), ((tableOf o l step rows n).1.map rowVC, o, l, ())) = some (.inl ((), ())) := by
  have e : (tableOf o l step rows n).1.map rowVC = (List.range rows.toNat).map fun (k : Nat) => rowVC (bandOf o l step n (k : Int)) := by unfold tableOf; rw [if_pos ht, List.map_map]; rfl
  simp only [tabOk, Bool.and_eq_true, decide_eq_true_eq] at ht
  unfold runBy
  refine vr_iter o l n step rows.toNat _ e hl ht.1 ht.2.2 (by omega) rows.toNat 0 _ (by omega) ?_
  rw [e]; simp [vrM]

/-! Cells that are counted -/
abbrev ScX := (Int × Int × Int × Int × Int × Int × Unit) × (List Cx × SpotV × SpotV × Unit)
abbrev ScY := (Int × Int × Int × Int × Unit) × (SpotV × SpotV × Unit)
def scStep : ScX → Option (ScX ⊕ ScY)
  | ((i, m, c, n, e, f, _), (L, p, q, _)) =>
    if i < m then
      if 0 ≤ i ∧ i < (L.length : Int) then
        match L[i.toNat]? with
        | some z => if cInDisc z n = 1 then some (.inl ((IntKind.i64.wrap (i + 1), m, IntKind.i64.wrap (c + 1), n, e, f, ()), (L, p, q, ()))) else some (.inl ((IntKind.i64.wrap (i + 1), m, c, n, e, f, ()), (L, p, q, ())))
        | none => none
      else none
    else some (.inr ((c, n, e, f, ()), (p, q, ())))
def scM (x : ScX) : Nat := x.2.1.length - x.1.1.toNat
def cntOf (n : Int) (q : List Pair) : Nat := q.countP fun z => discOf z n == 1
theorem cntOf_le (n : Int) (q : List Pair) : cntOf n q ≤ q.length := List.countP_le_length
theorem cntOf_cons (n : Int) (z : Pair) (q : List Pair) : cntOf n (z :: q) = cntOf n q + if discOf z n = 1 then 1 else 0 := by
  unfold cntOf
  rw [List.countP_cons]
  by_cases c : discOf z n = 1 <;> simp [c]
theorem sc_iter (n e f : Int) (p q : SpotV) (L : List Cx) (hL : L.length ≤ 1024) : ∀ (s : List Pair) (pre : List Cx) (c : Nat) (j : Nat), (∀ z ∈ s, box16 z) → L = pre ++ s.map cxOf → s.length ≤ j → c ≤ pre.length →
    Ev.iter scStep (j + 1) (((pre.length : Int), (L.length : Int), (c : Int), n, e, f, ()), (L, p, q, ())) = some ((((c + cntOf n s : Nat) : Int), n, e, f, ()), (p, q, ()))
  | [], pre, c, j, _, hp, _, _ => by
    rw [Ev.iter]
    have : L.length = pre.length := by rw [hp]; simp
    simp only [scStep, if_neg (show ¬ (pre.length : Int) < (L.length : Int) by omega)]
    rfl
  | z :: s, pre, c, j, hq, hp, hj, hc => by
    obtain ⟨j', rfl⟩ : ∃ j', j = j' + 1 := ⟨j - 1, by simp at hj; omega⟩
    have hlen : L.length = pre.length + (s.length + 1) := by rw [hp]; simp
    have hz := hq z (by simp)
    have hg : L[((pre.length : Int)).toNat]? = some (cxOf z) := by rw [hp]; simp
    have hn := fun c' (h : c' ≤ (pre ++ [cxOf z]).length) => sc_iter n e f p q L hL s (pre ++ [cxOf z]) c' j' (fun w hw => hq w (by simp [hw])) (by rw [hp]; simp) (by simp at hj; omega) h
    have hw : IntKind.i64.wrap ((pre.length : Int) + 1) = (((pre ++ [cxOf z]).length : Nat) : Int) := by rw [wr (by omega)]; simp
    rw [Ev.iter]
    simp only [scStep, if_pos (show (pre.length : Int) < (L.length : Int) by omega), if_pos (show (0 : Int) ≤ (pre.length : Int) ∧ (pre.length : Int) < (L.length : Int) by omega), hg, inDisc_cx hz, hw]
    rw [cntOf_cons]
    by_cases d : discOf z n = 1
    · simp only [d, if_true]
      have hw2 : IntKind.i64.wrap ((c : Int) + 1) = ((c + 1 : Nat) : Int) := by rw [wr (by omega)]; rfl
      rw [hw2]
      have := hn (c + 1) (by simp; omega)
      rw [show c + (cntOf n s + 1) = c + 1 + cntOf n s by omega]
      exact this
    · simp only [d, if_false, Nat.add_zero]
      exact hn c (by simp; omega)
theorem sc_run {n e f : Int} {p q : SpotV} (hn : 1 ≤ n ∧ n ≤ 16) : runBy scStep scM ((0, (((cellsP (cellsR n)).map cxOf).length : Int), 0, n, e, f, ()), ((cellsP (cellsR n)).map cxOf, p, q, ())) = some (((cntOf n (cellsP n) : Int), n, e, f, ()), (p, q, ())) := by
  rw [cellsR_eq hn]
  have := sc_iter n e f p q ((cellsP n).map cxOf) (by rw [List.length_map]; exact cellsP_len (by omega)) (cellsP n) [] 0 ((cellsP n).map cxOf).length (cells_box16 (by omega)) rfl (by simp) (by simp)
  rw [Nat.zero_add] at this
  unfold runBy
  exact this
/-- What is counted and what is lost are the cells in the disc. -/
theorem spot_counts (o : Iv) (l : List Surf) (x y : Iv) (n : Int) (at_ : Iv) : ∀ (q : List Pair) (a : Acc2) (m : Nat), 0 ≤ a.2 → (a.1.length : Int) + a.2 = m → m + q.length ≤ 2000 →
    0 ≤ (q.foldl (spotOne o l x y n at_) a).2 ∧ ((q.foldl (spotOne o l x y n at_) a).1.length : Int) + (q.foldl (spotOne o l x y n at_) a).2 = ((m + cntOf n q : Nat) : Int)
  | [], a, m, h0, h, _ => ⟨h0, h⟩
  | z :: q, a, m, h0, h, hm => by
    simp only [List.length_cons, List.foldl_cons] at *
    rw [cntOf_cons]
    by_cases d : discOf z n = 1
    · have key : 0 ≤ (spotOne o l x y n at_ a z).2 ∧ ((spotOne o l x y n at_ a z).1.length : Int) + (spotOne o l x y n at_ a z).2 = ((m + 1 : Nat) : Int) := by
        unfold spotOne
        rw [if_neg (by simp [d])]
        split
        · exact ⟨h0, by simp; omega⟩
        · rw [wr (n := a.2 + 1) (by omega)]
          exact ⟨by simp only; omega, by simp only; omega⟩
      have := spot_counts o l x y n at_ q _ (m + 1) key.1 key.2 (by omega)
      simp only [d, if_true]
      rw [show m + (cntOf n q + 1) = m + 1 + cntOf n q by omega]
      exact this
    · have e : spotOne o l x y n at_ a z = a := by unfold spotOne; rw [if_pos d]
      rw [e]
      have := spot_counts o l x y n at_ q a m h0 h (by omega)
      simpa only [d, if_false, Nat.add_zero] using this
theorem spot_all {o : Iv} {l : List Surf} {x y : Iv} {n : Int} (f : Iv) (hs : sizedC l n = true) (hx : x.right = true) (hy : y.right = true) :
    (spotOf o l x y n f).2 = 0 ∧ 0 ≤ (spotOf o l x y n f).1.1 ∧ 0 ≤ (spotOf o l x y n f).1.2.1 ∧ (spotOf o l x y n f).1.1 + (spotOf o l x y n f).1.2.1 = (cntOf n (cellsP n) : Int) := by
  have hn := (sizedC_iff.1 hs).2
  have hlen := cellsP_len (n := n) (by omega)
  have h := spot_counts o l x y n ((lastOf l).add f) (cellsP n) ([], 0) 0 (by decide) rfl (by omega)
  have e : spotOf o l x y n f = (spotEnd (spotFold o l x y n ((lastOf l).add f)), 0) := by unfold spotOf; rw [if_pos ⟨hs, hx, hy⟩]
  rw [e]
  rw [Nat.zero_add] at h
  exact ⟨rfl, Int.natCast_nonneg _, h.1, h.2⟩
def openOk (n : Int) : Bool :=
  (fun S : SpotV × Int => S.2 == 0 && (S.1.1 == (cntOf n (cellsP n) : Int) && (S.1.2.1 == 0 && ((cntOf n (cellsP n) : Int) == 0 || (S.1.2.2.1.has 0 && S.1.2.2.2.1.has 0))))) (spotOf (Iv.whole 4) (straightOf [1]).2 (Iv.point 0) (Iv.point 0) n (Iv.point 0))
theorem open1 : openOk 1 = true := by kernel_rfl
theorem open2 : openOk 2 = true := by kernel_rfl
theorem open3 : openOk 3 = true := by kernel_rfl
theorem open4 : openOk 4 = true := by kernel_rfl
theorem open_ok {n : Int} (hn : 1 ≤ n ∧ n ≤ 4) : openOk n = true := by
  have : n = 1 ∨ n = 2 ∨ n = 3 ∨ n = 4 := by omega
  rcases this with rfl | rfl | rfl | rfl
  · exact open1
  · exact open2
  · exact open3
  · exact open4
theorem open_len : Ev.lenOk (straightOf [1]).2 = true := by kernel_rfl
abbrev VpX := (Int × Int × Unit) × (List RowV × List RowV × Unit)
def vpStep : VpX → Option (VpX ⊕ ((Unit × (List RowV × Unit)) ⊕ ((Bool × Unit) × Unit))) := fun _ => none
def vpM (x : VpX) : Nat := x.2.2.1.length - x.1.1.toNat
abbrev VqX := (Int × Int × Unit) × (List RowV × Unit)
def vqStep : VqX → Option (VqX ⊕ ((Unit × Unit) ⊕ ((Bool × Unit) × Unit))) := fun _ => none
def vqM (x : VqX) : Nat := x.2.1.length - x.1.1.toNat
abbrev SmX := (Int × Int × Int × Bool × Int × Unit) × (List Cx × Iv × Iv × Iv × Iv × Iv × SpotV × List Surf × Unit)
def smStep : SmX → Option (SmX ⊕ ((Int × Bool × Unit) × (Iv × SpotV × Unit))) := fun _ => none
def smM (x : SmX) : Nat := x.2.1.length - x.1.1.toNat
end Go.Proofs.YtliglpiofomelaaGreat
