/-
  What the laws about turned and moved rays ask of each face; in plain Lean.
-/
import Derived.Test.YtlbmjajjldfigaaGreatSym
import Derived.Test.YtlbmjajjldfigaaGreatSysF
import Derived.Test.YtlbmjajjldfigaaGreatCore9
namespace Go.Proofs.YtlbmjajjldfigaaGreat
open Go
set_option linter.unusedVariables false
set_option linter.unusedSimpArgs false
def turnStep : (Int × Int × Unit) × (V × V × Unit) → Option (((Int × Int × Unit) × (V × V × Unit)) ⊕ (Unit × (V × V × Unit)))
  | ((i, n, _), (a, r, _)) => if i < n then some (.inl ((IntKind.i64.wrap (i + 1), n, ()), (a.quarter, r, ()))) else some (.inr ((), (a, r, ())))
def turnM (x : (Int × Int × Unit) × (V × V × Unit)) : Nat := (x.1.2.1 - x.1.1).toNat
theorem turn_iter (n : Int) (hn : n ≤ 1000) (r : V) : ∀ (m : Nat) (i : Int) (a : V) (k : Nat), 0 ≤ i → n = i + m → m ≤ k → Ev.iter turnStep (k + 1) ((i, n, ()), (a, r, ())) = some ((), (turnN m a, r, ()))
  | 0, i, a, k, h0, h1, _ => by
    rw [Ev.iter]
    simp only [turnStep, if_neg (show ¬ i < n by omega)]
    rfl
  | m + 1, i, a, k, h0, h1, hk => by
    obtain ⟨k', rfl⟩ : ∃ k', k = k' + 1 := ⟨k - 1, by omega⟩
    rw [Ev.iter]
    simp only [turnStep, if_pos (show i < n by omega), wr (n := i + 1) (by omega)]
    exact turn_iter n hn r m (i + 1) a.quarter k' (by omega) (by omega) (by omega)
theorem turn_run (a r : V) (k : Int) : runBy turnStep turnM ((0, (IntKind.i64.wrap (k.tmod 4 + 4)).tmod 4, ()), (a, r, ())) = some ((), (a.turn k, r, ())) := by
  have hk := tmod_pick k (m := 4) (by decide)
  have hb := pick_bd k (m := 4) (by decide)
  have e : (IntKind.i64.wrap (k.tmod 4 + 4)).tmod 4 = pick k 4 := by
    rw [wr (by omega), Int.tmod_eq_emod_of_nonneg (by omega)]
    rcases Int.lt_or_le (k.tmod 4) 0 with h | h
    · rw [hk.1 h]; exact Int.emod_eq_of_lt hb.1 hb.2
    · rw [hk.2.1 h]; omega
  rw [e]
  exact turn_iter (pick k 4) (by omega) r (pick k 4).toNat 0 a _ (by omega) (by omega) (by simp only [turnM]; omega)

def ivE (a b : Iv) : Bool := a.lo == b.lo && (a.hi == b.hi && a.no == b.no)
def vE (a b : V) : Bool := ivE a.x b.x && (ivE a.y b.y && ivE a.z b.z)
theorem ivE_self (a : Iv) : ivE a a = true := by simp [ivE]
theorem vE_self (a : V) : vE a a = true := by simp [vE, ivE]
def Surf.moved (f : Surf) (by_ : Int) : Surf := ⟨f.stop, f.bent, f.curve, f.conic, f.a4, f.a6, f.at_.add (Iv.point by_), f.open2, f.ratio⟩
def hitMovesBad (a : Int × Unit) (b : Ray × Ray × Unit) (f : Surf) : Bool :=
  !(ivE (hitOf f b.1).1 (hitOf (f.moved a.1) b.2.1).1) || (!(vE (hitOf f b.1).2.1 (hitOf (f.moved a.1) b.2.1).2.1) || (((hitOf f b.1).2.2 != (hitOf (f.moved a.1) b.2.1).2.2) || (((!((hitOf f b.1).2.2 == 1)) == (hitOf f b.1).2.1.right))))
def hitTurnsBad (a : Int × Unit) (b : Ray × Ray × Ray × Unit) (f : Surf) : Bool :=
  ((hitOf f b.1).2.2 != (hitOf f b.2.1).2.2) || (!(ivE (hitOf f b.1).1 (hitOf f b.2.1).1) || (((hitOf f b.1).2.2 != (hitOf f b.2.2.1).2.2) || (!(ivE (hitOf f b.1).1 (hitOf f b.2.2.1).1) ||
    ((hitOf f b.1).2.2 == 1 && (!(vE (hitOf f b.2.1).2.1 ((hitOf f b.1).2.1.turn a.1)) || !(vE (hitOf f b.2.2.1).2.1 (hitOf f b.1).2.1.mirror))))))
def Ray.turned (r : Ray) (k : Int) : Ray := ⟨r.o.turn k, r.d.turn k⟩
def Ray.mirrored (r : Ray) : Ray := ⟨r.o.mirror, r.d.mirror⟩
theorem hitTurns_good (f : Surf) (r : Ray) (k : Int) : hitTurnsBad (k, ()) (r, r.turned k, r.mirrored, ()) f = false := by
  have h1 := hitOf_sym (sym_turn k) f r
  have h2 := hitOf_sym sym_mirror f r
  have e1 : r.map (fun a => V.turn a k) = r.turned k := rfl
  have e2 : r.map V.mirror = r.mirrored := rfl
  rw [e1] at h1
  rw [e2] at h2
  simp only [hitTurnsBad, h1, h2, ivE_self, vE_self]
  simp
theorem point_right {n : Int} (h : -1073741824 ≤ n ∧ n ≤ 1073741824) : Iv.point n = ⟨n, n, false⟩ := of_eq ⟨⟨numIn_iff.2 h, numIn_iff.2 h⟩, Int.le_refl _⟩
/-- What is moved with its face is where it was from it. -/
theorem sub_moved {a b : Iv} {n : Int} (ha : a.right = true) (hb : b.right = true) (hn : -100000000 ≤ n ∧ n ≤ 100000000) (h1 : -900000000 ≤ a.lo ∧ a.hi ≤ 900000000) (h2 : -900000000 ≤ b.lo ∧ b.hi ≤ 900000000) :
    (a.add (Iv.point n)).sub (b.add (Iv.point n)) = a.sub b := by
  have b1 := right_bd ha
  have b2 := right_bd hb
  have hp := point_right (n := n) (by omega)
  have hpr : (Iv.point n).right = true := by rw [hp]; exact right_mk' (by omega)
  rw [sub_eq, sub_eq, add_right_eq ha hpr (by rw [hp]; dsimp only; omega), add_right_eq hb hpr (by rw [hp]; dsimp only; omega), hp]
  dsimp only
  have r1 : (⟨a.lo + n, a.hi + n, false⟩ : Iv).right = true := right_mk' (by omega)
  have r2 : (⟨b.lo + n, b.hi + n, false⟩ : Iv).right = true := right_mk' (by omega)
  simp only [Iv.both, r1, r2, ha, hb, Bool.and_self, if_true]
  congr 1 <;> omega
def Ray.moved (r : Ray) (n : Int) : Ray := ⟨⟨r.o.x, r.o.y, r.o.z.add (Iv.point n)⟩, r.d⟩
theorem back_moved {s : Surf} {r : Ray} {n : Int} (ha : r.o.z.right = true) (hb : s.at_.right = true) (hn : -100000000 ≤ n ∧ n ≤ 100000000) (h1 : -900000000 ≤ r.o.z.lo ∧ r.o.z.hi ≤ 900000000) (h2 : -900000000 ≤ s.at_.lo ∧ s.at_.hi ≤ 900000000) :
    (r.moved n).back (s.moved n).at_ = r.back s.at_ := by
  simp only [Ray.back, Ray.moved, Surf.moved, sub_moved ha hb hn h1 h2]
theorem hitOf_moved {s : Surf} {r : Ray} {n : Int} (ha : r.o.z.right = true) (hb : s.at_.right = true) (hn : -100000000 ≤ n ∧ n ≤ 100000000) (h1 : -900000000 ≤ r.o.z.lo ∧ r.o.z.hi ≤ 900000000) (h2 : -900000000 ≤ s.at_.lo ∧ s.at_.hi ≤ 900000000) :
    hitOf (s.moved n) (r.moved n) = hitOf s r := by
  unfold hitOf
  rw [back_moved ha hb hn h1 h2]
  rfl
theorem hitOf_right (s : Surf) (r : Ray) : (hitOf s r).2.1.right = ((hitOf s r).2.2 == 1) := by
  unfold hitOf
  generalize r.back s.at_ = q
  generalize hitAt s q = w
  unfold hitEnd
  by_cases c : w.2 = 1
  · rw [if_neg (not_not_intro c)]
    by_cases d : (along q w.1).right = true
    · rw [if_pos d]; exact d
    · rw [if_neg d]; rfl
  · rw [if_pos c]
    simp only [beq_eq_false_iff_ne.2 c]
    rfl
theorem surfRight_at {s : Surf} (h : surfRight s = true) : s.at_.right = true := by
  simp only [surfRight, Bool.and_eq_true] at h
  exact h.2.2.2.2.1
theorem hitMoves_good {f : Surf} {r : Ray} {n : Int} (ha : r.o.z.right = true) (hb : f.at_.right = true) (hn : -100000000 ≤ n ∧ n ≤ 100000000) (h1 : -900000000 ≤ r.o.z.lo ∧ r.o.z.hi ≤ 900000000) (h2 : -900000000 ≤ f.at_.lo ∧ f.at_.hi ≤ 900000000) :
    hitMovesBad (n, ()) (r, r.moved n, ()) f = false := by
  simp only [hitMovesBad, hitOf_moved ha hb hn h1 h2, ivE_self, vE_self, hitOf_right]
  cases ((hitOf f r).2.2 == 1) <;> simp
end Go.Proofs.YtlbmjajjldfigaaGreat
