/-
  What light comes through: cells of the first face's square, what becomes of their rays; in plain Lean.
-/
import Derived.Test.YthgpgnijbajlgaaLess2
import Derived.Test.YthgpgnijbajlgaaGs
import Derived.Test.YthgpgnijbajlgaaCore9
import Derived.Test.YthgpgnijbajlgaaEvMore
import Derived.Test.YthgpgnijbajlgaaEvInl
namespace Go.Proofs.Ythgpgnijbajlgaa
namespace Ev
def cRep : Cod RepV := ccRep.agg ccRep_ok
def cDRep : Cod DRep := ccDRep.agg ccDRep_ok
abbrev SpotV := Int × Int × Iv × Iv × Iv
def ccSpot : CC SpotV := ccTwo ccInt (ccTwo ccInt (ccTwo ccIv (ccTwo ccIv ccIv)))
theorem ccSpot_ok : ccSpot.Ok 11 := ccTwo_ok ccInt_ok (ccTwo_ok ccInt_ok (ccTwo_ok ccIv_ok (ccTwo_ok ccIv_ok ccIv_ok)))
def cSpot : Cod SpotV := ccSpot.agg ccSpot_ok
def cIvp : Cod Ivp := ccIvp.agg ccIvp_ok
def cRow : Cod RowV := ccRow.agg ccRow_ok
def cDRow : Cod DRow := ccDRow.agg ccDRow_ok
end Ev
open Go Ev
set_option linter.unusedVariables false
set_option linter.unusedSimpArgs false

def edgeC (o : Iv) (k n : Int) : Iv := ((o.times k).hull (o.times (IntKind.i64.wrap (k + 1)))).div (Iv.whole n)
def firstAt (l : List Surf) : Iv := match l[0]? with | some s => s.at_ | none => Iv.none
def sizedC (l : List Surf) (n : Int) : Bool := decide (0 < (l.length : Int)) && (decide (1 ≤ n) && decide (n ≤ 16))
theorem sizedC_iff {l : List Surf} {n : Int} : sizedC l n = true ↔ 0 < (l.length : Int) ∧ 1 ≤ n ∧ n ≤ 16 := by simp [sizedC]
def aimRay (o : Iv) (l : List Surf) (x y : Iv) (z : Pair) (n : Int) : Ray :=
  ⟨⟨x, y, Iv.point 0⟩, V.unit ⟨(edgeC o z.x n).sub x, (edgeC o z.y n).sub y, firstAt l⟩⟩
def aimOf (o : Iv) (l : List Surf) (x y : Iv) (z : Pair) (n : Int) : Ray × Bool :=
  if sizedC l n = true ∧ (aimRay o l x y z n).o.right = true ∧ (aimRay o l x y z n).d.right = true then (aimRay o l x y z n, true) else (Ray.zero, false)
def aimP (o : Iv) (l : List Surf) (x y : Iv) (z : Cx) (n : Int) : Ray × Bool := if cWhole z = true then aimOf o l x y (pzOf z) n else (Ray.zero, false)
def cellKind (o : Iv) (l : List Surf) (x y : Iv) (z : Pair) (n : Int) : Int := if (aimOf o l x y z n).2 = true then (traceOf l (aimOf o l x y z n).1).1 else 3
def kindP (o : Iv) (l : List Surf) (x y : Iv) (z : Cx) (n : Int) : Int := if (aimP o l x y z n).2 = true then (traceOf l (aimP o l x y z n).1).1 else 3

/-! Cells of the document -/
def cellInD : (Int × Int × Int × Unit) × (List Pair × Unit) → Option (((Int × Int × Int × Unit) × (List Pair × Unit)) ⊕ ((Int × Int × Unit) × (List Pair × Unit)))
  | ((x, n, y, _), (L, _)) => if x < n then (if Ev.lenOk (L ++ [(⟨x, y⟩ : Pair)]) = true then some (.inl ((IntKind.i64.wrap (x + 1), n, y, ()), (L ++ [⟨x, y⟩], ()))) else none) else some (.inr ((n, y, ()), (L, ())))
def cellInDM (x : (Int × Int × Int × Unit) × (List Pair × Unit)) : Nat := (x.1.2.1 - x.1.1).toNat
def cellOutD : (Int × Int × Unit) × (List Pair × Unit) → Option (((Int × Int × Unit) × (List Pair × Unit)) ⊕ (Unit × (List Pair × Unit)))
  | ((y, n, _), (L, _)) => if y < n then (match runBy cellInD cellInDM ((IntKind.i64.wrap (0 - n), n, y, ()), (L, ())) with | some r => some (.inl ((IntKind.i64.wrap (r.1.2.1 + 1), r.1.1, ()), (r.2.1, ()))) | none => none) else some (.inr ((), (L, ())))
def cellOutDM (x : (Int × Int × Unit) × (List Pair × Unit)) : Nat := (x.1.2.1 - x.1.1).toNat
theorem cellInD_iter (n y : Int) : ∀ (k : Nat) (x : Int) (L : List Pair) (j : Nat), -100 ≤ x → n ≤ 100 → n = x + k → k ≤ j → L.length + k ≤ 1048576 →
    Ev.iter cellInD (j + 1) ((x, n, y, ()), (L, ())) = some ((n, y, ()), (L ++ rowP x y k, ()))
  | 0, x, L, j, h0, h1, h2, _, _ => by
    rw [Ev.iter]
    simp only [cellInD, if_neg (show ¬ x < n by omega), rowP, List.range_zero, List.map_nil, List.append_nil]
  | k + 1, x, L, j, h0, h1, h2, hj, hl => by
    obtain ⟨j', rfl⟩ : ∃ j', j = j' + 1 := ⟨j - 1, by omega⟩
    rw [Ev.iter]
    simp only [cellInD, if_pos (show x < n by omega), if_pos (lenOk_iff.2 (show (L ++ [(⟨x, y⟩ : Pair)]).length ≤ 1048576 by simp; omega)), wr (n := x + 1) (by omega)]
    have := cellInD_iter n y k (x + 1) (L ++ [⟨x, y⟩]) j' (by omega) h1 (by omega) (by omega) (by simp; omega)
    rw [rowP_succ]
    rw [List.append_assoc] at this
    exact this
theorem cellOutD_iter (n : Int) (hn : 0 ≤ n ∧ n ≤ 16) : ∀ (k : Nat) (y : Int) (L : List Pair) (j : Nat), -16 ≤ y → n = y + k → k ≤ j → L.length + 32 * k ≤ 1048576 →
    Ev.iter cellOutD (j + 1) ((y, n, ()), (L, ())) = some ((), (L ++ ((List.range k).flatMap fun (i : Nat) => rowP (-n) (y + i) (2 * n).toNat), ()))
  | 0, y, L, j, h0, h2, _, _ => by
    rw [Ev.iter]
    simp only [cellOutD, if_neg (show ¬ y < n by omega), List.range_zero, List.flatMap_nil, List.append_nil]
  | k + 1, y, L, j, h0, h2, hj, hl => by
    obtain ⟨j', rfl⟩ : ∃ j', j = j' + 1 := ⟨j - 1, by omega⟩
    have hin : runBy cellInD cellInDM ((IntKind.i64.wrap (0 - n), n, y, ()), (L, ())) = some ((n, y, ()), (L ++ rowP (-n) y (2 * n).toNat, ())) := by
      rw [wr (n := 0 - n) (by omega), show 0 - n = -n by omega]
      exact cellInD_iter n y (2 * n).toNat (-n) L _ (by omega) (by omega) (by omega) (by simp only [cellInDM]; omega) (by omega)
    rw [Ev.iter]
    simp only [cellOutD, if_pos (show y < n by omega)]
    rw [hin]
    simp only [wr (n := y + 1) (by omega)]
    have hlen : (rowP (-n) y (2 * n).toNat).length ≤ 32 := by unfold rowP; simp; omega
    have := cellOutD_iter n hn k (y + 1) (L ++ rowP (-n) y (2 * n).toNat) j' (by omega) (by omega) (by omega) (by simp; omega)
    rw [this]
    rw [List.range_succ_eq_map, List.flatMap_cons, List.append_assoc, List.flatMap_map]
    refine congrArg (fun q : List Pair => some ((), L ++ q, ())) ?_
    have e0 : y + ((0 : Nat) : Int) = y := by simp
    rw [e0]
    refine congrArg (fun q => rowP (-n) y (2 * n).toNat ++ q) (congrArg (fun f => List.flatMap f (List.range k)) (funext fun i => ?_))
    congr 1; omega
theorem cellsD_run {n : Int} (hn : 0 ≤ n ∧ n ≤ 16) : runBy cellOutD cellOutDM ((IntKind.i64.wrap (0 - n), n, ()), ([], ())) = some ((), (cellsP n, ())) := by
  rw [wr (n := 0 - n) (by omega), show 0 - n = -n by omega]
  have := cellOutD_iter n hn (2 * n).toNat (-n) [] _ (by omega) (by omega) (Nat.le_refl _) (by simp; omega)
  have e : cellOutDM ((-n, n, ()), ([], ())) = (2 * n).toNat := by simp only [cellOutDM]; omega
  unfold runBy
  rw [e, this]
  rfl
def box16 (z : Pair) : Prop := -16 ≤ z.x ∧ z.x ≤ 15 ∧ -16 ≤ z.y ∧ z.y ≤ 15
theorem cellsP_box {n : Int} (hn : 0 ≤ n ∧ n ≤ 16) : ∀ z ∈ cellsP n, -n ≤ z.x ∧ z.x < n ∧ -n ≤ z.y ∧ z.y < n := by
  intro z hz
  unfold cellsP at hz
  rw [List.mem_flatMap] at hz
  obtain ⟨j, hj, hz⟩ := hz
  unfold rowP at hz
  rw [List.mem_map] at hz
  obtain ⟨i, hi, rfl⟩ := hz
  rw [List.mem_range] at hi hj
  simp only
  omega
theorem flatMap_len {α β : Type} {f : α → List β} {m : Nat} : ∀ (l : List α), (∀ x ∈ l, (f x).length = m) → (l.flatMap f).length = l.length * m
  | [], _ => by simp
  | x :: r, h => by
    rw [List.flatMap_cons, List.length_append, flatMap_len r fun y hy => h y (by simp [hy]), h x (by simp), List.length_cons, Nat.succ_mul]
    omega
theorem cellsP_len {n : Int} (hn : 0 ≤ n ∧ n ≤ 16) : (cellsP n).length ≤ 1024 := by
  unfold cellsP
  rw [flatMap_len (m := (2 * n).toNat) _ fun x _ => by unfold rowP; simp]
  rw [List.length_range]
  have : (2 * n).toNat ≤ 32 := by omega
  exact Nat.le_trans (Nat.mul_le_mul this this) (by decide)

/-! Discs of the document -/
def near30 (x : Int) : Bool := decide (-1073741824 ≤ x ∧ x ≤ 1073741824)
def pair30 (p : Pair) : Bool := near30 p.x && near30 p.y
def pair20 (p : Pair) : Bool := decide (-1048576 ≤ p.x ∧ p.x ≤ 1048576) && decide (-1048576 ≤ p.y ∧ p.y ≤ 1048576)
theorem disc_doc {p : Pair} (h : pair20 p = true) (n : Int) :
    discOf p n = (if max (max (max (max 0 p.norm) (p.add ⟨1, 0⟩).norm) (p.add ⟨0, 1⟩).norm) (p.add ⟨1, 1⟩).norm ≤ discR n * discR n then 1 else if discR n * discR n < Pair.norm ⟨nearI p.x, nearI p.y⟩ then 2 else 0) := by
  simp only [pair20, Bool.and_eq_true, decide_eq_true_eq] at h
  have hx : nearI p.x = if p.x < 0 then p.x + 1 else p.x := by unfold nearI; rw [wr (n := p.x + 1) (by omega)]
  have hy : nearI p.y = if p.y < 0 then p.y + 1 else p.y := by unfold nearI; rw [wr (n := p.y + 1) (by omega)]
  have h0 : 0 ≤ discR n * discR n := (sq_bd (a := discR n) (B := 1048576) (by unfold discR; omega) (by decide)).1
  have hn : Pair.norm ⟨nearI p.x, nearI p.y⟩ = p.norm ∨ Pair.norm ⟨nearI p.x, nearI p.y⟩ = (p.add ⟨1, 0⟩).norm ∨ Pair.norm ⟨nearI p.x, nearI p.y⟩ = (p.add ⟨0, 1⟩).norm ∨ Pair.norm ⟨nearI p.x, nearI p.y⟩ = (p.add ⟨1, 1⟩).norm := by
    rw [hx, hy]
    by_cases c : p.x < 0 <;> by_cases d : p.y < 0
    · exact .inr (.inr (.inr (by simp only [c, d, if_true, Pair.norm, Pair.add])))
    · exact .inr (.inl (by simp only [c, d, if_true, if_false, Pair.norm, Pair.add, Int.add_zero]))
    · exact .inr (.inr (.inl (by simp only [c, d, if_true, if_false, Pair.norm, Pair.add, Int.add_zero])))
    · exact .inl (by simp only [c, d, if_false, Pair.norm])
  unfold discOf
  generalize Pair.norm ⟨nearI p.x, nearI p.y⟩ = q at *
  generalize p.norm = a at *
  generalize (p.add ⟨1, 0⟩).norm = b at *
  generalize (p.add ⟨0, 1⟩).norm = c at *
  generalize (p.add ⟨1, 1⟩).norm = d at *
  generalize discR n * discR n = m at *
  split <;> split <;> (try split) <;> omega

/-! The count -/
def zeroD : DRep := (0, 0, 0, false, ⟨0, 0⟩, ⟨0, 0⟩)
def keepLo (r : DRep) (z : Pair) : Pair := if r.2.2.2.1 = true then ⟨min r.2.2.2.2.1.x z.x, min r.2.2.2.2.1.y z.y⟩ else z
def keepHi (r : DRep) (z : Pair) : Pair := if r.2.2.2.1 = true then ⟨max r.2.2.2.2.2.x z.x, max r.2.2.2.2.2.y z.y⟩ else z
def tallyD (r : DRep) (z : Pair) (d k : Int) : DRep :=
  if k = 2 then (r.1, r.2.1, IntKind.i64.wrap (r.2.2.1 + 1), r.2.2.2)
  else if k = 1 ∧ d = 1 then (IntKind.i64.wrap (r.1 + 1), r.2.1, IntKind.i64.wrap (r.2.2.1 + 1), true, keepLo r z, keepHi r z)
  else (r.1, IntKind.i64.wrap (r.2.1 + 1), IntKind.i64.wrap (r.2.2.1 + 1), true, keepLo r z, keepHi r z)
def scanOne (o : Iv) (l : List Surf) (x y : Iv) (n : Int) (r : DRep) (z : Pair) : DRep := if discOf z n = 2 then r else tallyD r z (discOf z n) (cellKind o l x y z n)
abbrev ScanDX := (Int × Int × Unit) × (List Pair × Iv × Iv × Iv × DRep × DRep × List Surf × Unit)
def scanDStep : ScanDX → Option (ScanDX ⊕ (Unit × (DRep × DRep × Unit)))
  | ((i, n, _), (L, o, x, y, r, res, l, _)) =>
    if i < (L.length : Int) then
      if 0 ≤ i then
        match L[i.toNat]? with
        | some z => if pair20 z = true ∧ Ev.lenOk l = true then some (.inl ((IntKind.i64.wrap (i + 1), n, ()), (L, o, x, y, scanOne o l x y n r z, res, l, ()))) else none
        | none => none
      else none
    else some (.inr ((), (r, res, ())))
def scanDM (x : ScanDX) : Nat := x.2.1.length - x.1.1.toNat
def keepP (r : RepV) (z : Cx) : Option (Cx × Cx) :=
  (cSumBits .add .f64 z.1 z.2 oneF 0).bind fun a => (cSumBits .add .f64 a.1 a.2 0 oneF).bind fun b =>
    if r.2.2.2.1 = true then (fMin r.2.2.2.2.1.1 z.1).bind fun c => (fMin r.2.2.2.2.1.2 z.2).bind fun d => (fMax r.2.2.2.2.2.1 b.1).bind fun e => (fMax r.2.2.2.2.2.2 b.2).bind fun f => some ((c, d), (e, f))
    else some (z, b)
def tallyP (r : RepV) (z : Cx) (d k : Int) : Option RepV :=
  if k = 2 then some (r.1, r.2.1, IntKind.i64.wrap (r.2.2.1 + 1), r.2.2.2)
  else (keepP r z).bind fun q => some (if k = 1 ∧ d = 1 then (IntKind.i64.wrap (r.1 + 1), r.2.1, IntKind.i64.wrap (r.2.2.1 + 1), true, q.1, q.2)
    else (r.1, IntKind.i64.wrap (r.2.1 + 1), IntKind.i64.wrap (r.2.2.1 + 1), true, q.1, q.2))
abbrev ScanPX := (Int × Int × Int × Unit) × (List Cx × Iv × Iv × Iv × RepV × RepV × List Surf × Unit)
def scanPStep : ScanPX → Option (ScanPX ⊕ (Unit × (RepV × RepV × Unit)))
  | ((i, m, n, _), (L, o, x, y, r, res, l, _)) =>
    if i < m then
      if 0 ≤ i ∧ i < (L.length : Int) then
        match L[i.toNat]? with
        | some z => if cInDisc z n = 2 then some (.inl ((IntKind.i64.wrap (i + 1), m, n, ()), (L, o, x, y, r, res, l, ())))
          else if Ev.lenOk l = true then (tallyP r z (cInDisc z n) (kindP o l x y z n)).bind fun r' => some (.inl ((IntKind.i64.wrap (i + 1), m, n, ()), (L, o, x, y, r', res, l, ()))) else none
        | none => none
      else none
    else some (.inr ((), (r, res, ())))
def scanPM (x : ScanPX) : Nat := x.2.1.length - x.1.1.toNat

/-! The program's count is the document's -/
def up1 (p : Pair) : Pair := ⟨p.x + 1, p.y + 1⟩
def repOf (r : DRep) : RepV := (r.1, r.2.1, r.2.2.1, r.2.2.2.1, cxOf r.2.2.2.2.1, if r.2.2.2.1 = true then cxOf (up1 r.2.2.2.2.2) else (0, 0))
structure DOk (r : DRep) : Prop where
  lo : box16 r.2.2.2.2.1
  hi : box16 r.2.2.2.2.2
  no : r.2.2.2.1 = false → r.2.2.2.2 = (⟨0, 0⟩, ⟨0, 0⟩)
theorem zeroD_ok : DOk zeroD := ⟨by simp [zeroD, box16], by simp [zeroD, box16], fun _ => rfl⟩
theorem keep_ok {r : DRep} (h : DOk r) {z : Pair} (hz : box16 z) : box16 (keepLo r z) ∧ box16 (keepHi r z) := by
  have h1 := h.lo
  have h2 := h.hi
  unfold keepLo keepHi
  simp only [box16] at *
  split
  · simp only; omega
  · exact ⟨hz, hz⟩
theorem tallyD_ok {r : DRep} (h : DOk r) {z : Pair} (hz : box16 z) (d k : Int) : DOk (tallyD r z d k) := by
  have hk := keep_ok h hz
  unfold tallyD
  split
  · exact ⟨h.lo, h.hi, h.no⟩
  · split
    · exact ⟨hk.1, hk.2, fun e => by cases e⟩
    · exact ⟨hk.1, hk.2, fun e => by cases e⟩
theorem scanOne_ok {o : Iv} {l : List Surf} {x y : Iv} {n : Int} {r : DRep} (h : DOk r) {z : Pair} (hz : box16 z) : DOk (scanOne o l x y n r z) := by
  unfold scanOne
  split
  · exact h
  · exact tallyD_ok h hz _ _
theorem add1_all : ∀ k : Fin 41, floatBits .add .f64 (fInt ((k.1 : Int) - 20)) oneF = some (fInt ((k.1 : Int) - 20 + 1)) := by decide +kernel
theorem add0_all : ∀ k : Fin 41, floatBits .add .f64 (fInt ((k.1 : Int) - 20)) 0 = some (fInt ((k.1 : Int) - 20)) := by decide +kernel
theorem add1 {n : Int} (h : -20 ≤ n ∧ n ≤ 20) : floatBits .add .f64 (fInt n) oneF = some (fInt (n + 1)) := by
  have := add1_all ⟨(n + 20).toNat, by omega⟩
  simp only at this
  rwa [show (((n + 20).toNat : Nat) : Int) - 20 = n by omega] at this
theorem add0 {n : Int} (h : -20 ≤ n ∧ n ≤ 20) : floatBits .add .f64 (fInt n) 0 = some (fInt n) := by
  have := add0_all ⟨(n + 20).toNat, by omega⟩
  simp only at this
  rwa [show (((n + 20).toNat : Nat) : Int) - 20 = n by omega] at this
theorem fOrd_int {a b : Int} (ha : -100 ≤ a ∧ a ≤ 100) (hb : -100 ≤ b ∧ b ≤ 100) : fOrd (fInt a) (fInt b) = some (compare a b) := ord_FI (FI_int (by omega)) (FI_int (by omega))
theorem fMin_int {a b : Int} (ha : -100 ≤ a ∧ a ≤ 100) (hb : -100 ≤ b ∧ b ≤ 100) : fMin (fInt a) (fInt b) = some (fInt (min a b)) := by
  unfold fMin
  rw [fOrd_int ha hb]
  rcases Int.lt_trichotomy a b with h | h | h
  · rw [show compare a b = .lt from Int.compare_eq_lt.2 h, Int.min_eq_left (by omega)]
  · subst h
    rw [show compare a a = .eq from Int.compare_eq_eq.2 rfl, Int.min_self]
    simp
  · rw [show compare a b = .gt from Int.compare_eq_gt.2 h, Int.min_eq_right (by omega)]
theorem fMax_int {a b : Int} (ha : -100 ≤ a ∧ a ≤ 100) (hb : -100 ≤ b ∧ b ≤ 100) : fMax (fInt a) (fInt b) = some (fInt (max a b)) := by
  unfold fMax
  rw [fOrd_int ha hb]
  rcases Int.lt_trichotomy a b with h | h | h
  · rw [show compare a b = .lt from Int.compare_eq_lt.2 h, Int.max_eq_right (by omega)]
  · subst h
    rw [show compare a a = .eq from Int.compare_eq_eq.2 rfl, Int.max_self]
    simp
  · rw [show compare a b = .gt from Int.compare_eq_gt.2 h, Int.max_eq_left (by omega)]
theorem keepP_eq {r : DRep} (h : DOk r) {z : Pair} (hz : box16 z) : keepP (repOf r) (cxOf z) = some (cxOf (keepLo r z), cxOf (up1 (keepHi r z))) := by
  have h1 := h.lo
  have h2 := h.hi
  simp only [box16] at hz h1 h2
  have e1 : cSumBits .add .f64 (fInt z.x) (fInt z.y) oneF 0 = some (fInt (z.x + 1), fInt z.y) := by unfold cSumBits; rw [add1 (by omega), add0 (by omega)]; rfl
  have e2 : cSumBits .add .f64 (fInt (z.x + 1)) (fInt z.y) 0 oneF = some (fInt (z.x + 1), fInt (z.y + 1)) := by unfold cSumBits; rw [add0 (by omega), add1 (by omega)]; rfl
  unfold keepP
  simp only [cxOf, e1, e2, Option.bind_some, repOf]
  rcases Bool.eq_false_or_eq_true r.2.2.2.1 with hs | hs
  case inr => simp [keepLo, keepHi, hs, up1, cxOf]
  · simp only [hs, if_true, cxOf, up1]
    rw [fMin_int (by omega) (by omega), fMin_int (by omega) (by omega), fMax_int (by omega) (by omega), fMax_int (by omega) (by omega)]
    simp only [Option.bind_some, keepLo, keepHi, hs, if_true]
    congr 4 <;> congr 1 <;> omega
theorem pz_cx {z : Pair} (hz : box16 z) : pzOf (cxOf z) = z := cV_CI (CI_of ⟨by unfold box16 at hz; omega, by unfold box16 at hz; omega⟩)
theorem whole_cx {z : Pair} (hz : box16 z) : cWhole (cxOf z) = true := by
  rw [whole_CI (CI_of (p := z) ⟨by unfold box16 at hz; omega, by unfold box16 at hz; omega⟩)]
  exact decide_eq_true ⟨by unfold box16 at hz; omega, by unfold box16 at hz; omega⟩
theorem inDisc_cx {z : Pair} (hz : box16 z) (n : Int) : cInDisc (cxOf z) n = discOf z n := by unfold cInDisc; rw [whole_cx hz, pz_cx hz]; rfl
theorem aimP_cx {z : Pair} (hz : box16 z) (o : Iv) (l : List Surf) (x y : Iv) (n : Int) : aimP o l x y (cxOf z) n = aimOf o l x y z n := by unfold aimP; rw [whole_cx hz, pz_cx hz]; rfl
theorem kindP_cx {z : Pair} (hz : box16 z) (o : Iv) (l : List Surf) (x y : Iv) (n : Int) : kindP o l x y (cxOf z) n = cellKind o l x y z n := by unfold kindP cellKind; rw [aimP_cx hz]
theorem tallyP_eq {r : DRep} (h : DOk r) {z : Pair} (hz : box16 z) (d k : Int) : tallyP (repOf r) (cxOf z) d k = some (repOf (tallyD r z d k)) := by
  unfold tallyP tallyD
  by_cases c2 : k = 2
  · simp only [c2, if_true]; rfl
  · simp only [c2, if_false, keepP_eq h hz, Option.bind_some]
    by_cases c : k = 1 ∧ d = 1 <;> simp only [c, if_true, if_false, and_self] <;> rfl
theorem scanP_iter (o : Iv) (l : List Surf) (x y : Iv) (n : Int) (res : RepV) (hl : Ev.lenOk l = true) (L : List Cx) (hL : L.length ≤ 1024) : ∀ (q : List Pair) (pre : List Cx) (r : DRep) (j : Nat), (∀ z ∈ q, box16 z) → DOk r → L = pre ++ q.map cxOf → q.length ≤ j →
    Ev.iter scanPStep (j + 1) (((pre.length : Int), (L.length : Int), n, ()), (L, o, x, y, repOf r, res, l, ())) = some ((), (repOf (q.foldl (scanOne o l x y n) r), res, ()))
  | [], pre, r, j, _, _, hp, _ => by
    rw [Ev.iter]
    have : L.length = pre.length := by rw [hp]; simp
    simp only [scanPStep, if_neg (show ¬ (pre.length : Int) < (L.length : Int) by omega), List.foldl_nil]
  | z :: q, pre, r, j, hq, hr, hp, hj => by
    obtain ⟨j', rfl⟩ : ∃ j', j = j' + 1 := ⟨j - 1, by simp at hj; omega⟩
    have hlen : L.length = pre.length + (q.length + 1) := by rw [hp]; simp
    have hz := hq z (by simp)
    have hg : L[((pre.length : Int)).toNat]? = some (cxOf z) := by rw [hp]; simp
    have hn := scanP_iter o l x y n res hl L hL q (pre ++ [cxOf z]) (scanOne o l x y n r z) j' (fun w hw => hq w (by simp [hw])) (scanOne_ok hr hz) (by rw [hp]; simp) (by simp at hj; omega)
    have hw : IntKind.i64.wrap ((pre.length : Int) + 1) = (((pre ++ [cxOf z]).length : Nat) : Int) := by rw [wr (by omega)]; simp
    rw [Ev.iter]
    simp only [scanPStep, if_pos (show (pre.length : Int) < (L.length : Int) by omega), if_pos (show (0 : Int) ≤ (pre.length : Int) ∧ (pre.length : Int) < (L.length : Int) by omega), hg, inDisc_cx hz, kindP_cx hz, hl, if_true, tallyP_eq hr hz, Option.bind_some]
    rw [List.foldl_cons, ← hn, ← hw]
    by_cases c : discOf z n = 2
    · simp only [c, if_true, scanOne]
    · simp only [c, if_false, scanOne]
theorem scanD_iter (o : Iv) (l : List Surf) (x y : Iv) (n : Int) (res : DRep) (hl : Ev.lenOk l = true) (L : List Pair) (hL : L.length ≤ 1024) : ∀ (q pre : List Pair) (r : DRep) (j : Nat), (∀ z ∈ q, box16 z) → L = pre ++ q → q.length ≤ j →
    Ev.iter scanDStep (j + 1) (((pre.length : Int), n, ()), (L, o, x, y, r, res, l, ())) = some ((), (q.foldl (scanOne o l x y n) r, res, ()))
  | [], pre, r, j, _, hp, _ => by
    rw [Ev.iter]
    have : L.length = pre.length := by rw [hp]; simp
    simp only [scanDStep, if_neg (show ¬ (pre.length : Int) < (L.length : Int) by omega), List.foldl_nil]
  | z :: q, pre, r, j, hq, hp, hj => by
    obtain ⟨j', rfl⟩ : ∃ j', j = j' + 1 := ⟨j - 1, by simp at hj; omega⟩
    have hlen : L.length = pre.length + (q.length + 1) := by rw [hp]; simp
    have hz := hq z (by simp)
    have hg : L[((pre.length : Int)).toNat]? = some z := by rw [hp]; simp
    have hs : pair20 z = true := by unfold box16 at hz; unfold pair20; rw [decide_eq_true (by omega), decide_eq_true (by omega)]; rfl
    have hn := scanD_iter o l x y n res hl L hL q (pre ++ [z]) (scanOne o l x y n r z) j' (fun w hw => hq w (by simp [hw])) (by rw [hp]; simp) (by simp at hj; omega)
    have hw : IntKind.i64.wrap ((pre.length : Int) + 1) = (((pre ++ [z]).length : Nat) : Int) := by rw [wr (by omega)]; simp
    rw [Ev.iter]
    simp only [scanDStep, if_pos (show (pre.length : Int) < (L.length : Int) by omega), if_pos (show (0 : Int) ≤ (pre.length : Int) by omega), hg, hs, hl, and_self, if_true]
    rw [List.foldl_cons, ← hn, ← hw]
def scanFold (o : Iv) (l : List Surf) (x y : Iv) (n : Int) : DRep := (cellsP n).foldl (scanOne o l x y n) zeroD
theorem cells_box16 {n : Int} (hn : 0 ≤ n ∧ n ≤ 16) : ∀ z ∈ cellsP n, box16 z := fun z hz => by have := cellsP_box hn z hz; unfold box16; omega
theorem fold_ok (o : Iv) (l : List Surf) (x y : Iv) (n : Int) : ∀ (q : List Pair) (r : DRep), (∀ z ∈ q, box16 z) → DOk r → DOk (q.foldl (scanOne o l x y n) r)
  | [], r, _, h => h
  | z :: q, r, hq, h => fold_ok o l x y n q _ (fun w hw => hq w (by simp [hw])) (scanOne_ok h (hq z (by simp)))
theorem cellsR_eq {n : Int} (hn : 1 ≤ n ∧ n ≤ 16) : cellsR n = n := by unfold cellsR; omega
theorem scanP_run {o : Iv} {l : List Surf} {x y : Iv} {n : Int} {res : RepV} (hl : Ev.lenOk l = true) (hn : 1 ≤ n ∧ n ≤ 16) :
    runBy scanPStep scanPM ((0, (((cellsP (cellsR n)).map cxOf).length : Int), n, ()), ((cellsP (cellsR n)).map cxOf, o, x, y, (0, 0, 0, false, (0, 0), 0, 0), res, l, ())) = some ((), (repOf (scanFold o l x y n), res, ())) := by
  rw [cellsR_eq hn]
  have := scanP_iter o l x y n res hl ((cellsP n).map cxOf) (by rw [List.length_map]; exact cellsP_len (by omega)) (cellsP n) [] zeroD ((cellsP n).map cxOf).length (cells_box16 (by omega)) zeroD_ok rfl (by simp)
  unfold runBy
  exact this
theorem scanD_run {o : Iv} {l : List Surf} {x y : Iv} {n : Int} {res : DRep} (hl : Ev.lenOk l = true) (hn : 1 ≤ n ∧ n ≤ 16) :
    runBy scanDStep scanDM ((0, n, ()), (cellsP (cellsR n), o, x, y, zeroD, res, l, ())) = some ((), (scanFold o l x y n, res, ())) := by
  rw [cellsR_eq hn]
  have := scanD_iter o l x y n res hl (cellsP n) (cellsP_len (by omega)) (cellsP n) [] zeroD (cellsP n).length (cells_box16 (by omega)) rfl (Nat.le_refl _)
  unfold runBy
  exact this
def finD (r : DRep) : DRep := if r.2.2.2.1 = true then (r.1, r.2.1, r.2.2.1, r.2.2.2.1, r.2.2.2.2.1, ⟨IntKind.i64.wrap (r.2.2.2.2.2.x + 1), IntKind.i64.wrap (r.2.2.2.2.2.y + 1)⟩) else r
def scanOf (o : Iv) (l : List Surf) (x y : Iv) (n : Int) : DRep × Int := if sizedC l n = true ∧ x.right = true ∧ y.right = true then (finD (scanFold o l x y n), 0) else (zeroD, 1)
def repC (r : DRep) : RepV := (r.1, r.2.1, r.2.2.1, r.2.2.2.1, cxOf r.2.2.2.2.1, cxOf r.2.2.2.2.2)
theorem repOf_fin {r : DRep} (h : DOk r) : repOf r = repC (finD r) := by
  have h2 := h.hi
  unfold repOf finD repC
  rcases Bool.eq_false_or_eq_true r.2.2.2.1 with hs | hs
  · simp only [hs, if_true, box16] at *
    rw [wr (by omega), wr (by omega)]
    rfl
  · have := h.no hs
    simp only [hs, Bool.false_eq_true, if_false, this]
    rfl
theorem scanFold_ok (o : Iv) (l : List Surf) (x y : Iv) {n : Int} (hn : 0 ≤ n ∧ n ≤ 16) : DOk (scanFold o l x y n) := fold_ok _ _ _ _ _ _ _ (cells_box16 hn) zeroD_ok
end Go.Proofs.Ythgpgnijbajlgaa
