/-
  Ways into the pupil; in plain Lean.
-/
import Derived.Test.YtliglpiofomelaaGreatPup2
namespace Go.Proofs.YtliglpiofomelaaGreat
open Go Ev
set_option linter.unusedVariables false
set_option linter.unusedSimpArgs false

/-! Where the first face is -/
theorem buildSurf_at (one at_ ix wave : Iv) (g : List Glass) (f : Face) : (buildSurf one at_ ix wave g f).1.at_ = at_ := by
  unfold buildSurf
  split <;> rfl
theorem buildRun_first {x : LensV} {g : List Glass} {wave : Iv} (hg : Ev.lenOk g = true) (hl : x.2.length ≤ 1000) : (buildRun x g wave).2 = [] ∨ ∃ f r, (buildRun x g wave).2 = f :: r ∧ f.at_ = decIv x.1.2 := by
  obtain ⟨y, hy, hp⟩ := iter_total (step := buildStep) (fun z => z.2.2.2.2.2.2.2.2.2.2.1 = x.2 ∧ z.2.2.2.2.2.2.2.2.2.1 = g ∧ 0 ≤ z.1.1 ∧ z.1.1 ≤ (x.2.length : Int) ∧ (z.2.2.2.2.2.2.2.2.2.2.2.1.length : Int) = z.1.1 ∧
      ((z.2.2.2.2.2.2.2.2.2.2.2.1 = [] ∧ z.2.2.2.2.2.2.1 = decIv x.1.2) ∨ ∃ f r, z.2.2.2.2.2.2.2.2.2.2.2.1 = f :: r ∧ f.at_ = decIv x.1.2))
    (fun y => y.2.2.2.1 = [] ∨ ∃ f r, y.2.2.2.1 = f :: r ∧ f.at_ = decIv x.1.2) buildM (by
    rintro ⟨⟨i, _⟩, ⟨p, _, wave, one, op', at_, ix, op2, g', l', s, s2, _⟩⟩ ⟨h0, h1, h2, h3, h4, h5⟩
    dsimp only at h0 h1 h2 h3 h4 h5
    subst h0; subst h1
    simp only [buildStep]
    by_cases hi : i < (x.2.length : Int)
    · have hge : x.2[i.toNat]? = some (x.2[i.toNat]'(by omega)) := List.getElem?_eq_getElem (by omega)
      have hw : IntKind.i64.wrap (i + 1) = i + 1 := wr (by omega)
      rw [if_pos hi, if_pos ⟨h2, hi⟩, hge, hw]
      dsimp only
      rw [if_pos hg, if_pos (lenOk_iff.2 (by simp; omega))]
      refine .inr ⟨_, rfl, ⟨rfl, rfl, by dsimp only; omega, by dsimp only; omega, by simp; omega, ?_⟩, by simp only [buildM]; omega⟩
      dsimp only
      rcases h5 with ⟨rfl, rfl⟩ | ⟨f, r, rfl, hf⟩
      · exact .inr ⟨_, [], rfl, buildSurf_at _ _ _ _ _ _⟩
      · exact .inr ⟨f, _, rfl, hf⟩
    · rw [if_neg hi]
      refine .inl ⟨_, rfl, ?_⟩
      rcases h5 with ⟨h, _⟩ | h
      · exact .inl h
      · exact .inr h)
    ((0, ()), (x.1, (), wave, Iv.point 65536, decIv (x.2[0]?.getD Face.nil).aperture, decIv x.1.2, Iv.point 65536, ⟨0, 0, false⟩, g, x.2, [], [], ()))
    ⟨rfl, rfl, by simp, by simp, by simp, .inl ⟨rfl, rfl⟩⟩
  have hy' : runBy buildStep buildM ((0, ()), (x.1, (), wave, Iv.point 65536, decIv (x.2[0]?.getD Face.nil).aperture, decIv x.1.2, Iv.point 65536, ⟨0, 0, false⟩, g, x.2, [], [], ())) = some y := hy
  simp only [buildRun, hy']
  exact hp
theorem back_bd (back : Int) : ivIn (decIv (decOf (200 + pick back 600) 1)) 1310720 5242880 = true :=
  of_fin (P := fun k => ivIn (decIv (decOf (200 + k) 1)) 1310720 5242880 = true) (n := pick back 600) back_all (pick_bd back (by decide)).1 (pick_bd back (by decide)).2
theorem system_first (back : Int) (l : List RawFace) (raw : List Int) {most : Int} (plain : Bool) (h : mostOk most = true) (hne : (systemOf back l raw most plain).2.length ≠ 0) : ivIn (firstAt (systemOf back l raw most plain).2) 1310720 5242880 = true := by
  have hg := glassesOf_ok raw
  have hpre : lensPre most (glassesOf raw) = true := by simp only [lensPre, hg, Bool.and_true]; exact h
  obtain ⟨f1, f2, f3⟩ := lensOf_faces (back := back) (l := l) hpre
  have hlen := (lensOf_ok (back := back) (l := l) hpre).2.2
  have key : ∀ x : LensV, x.1.2 = decOf (200 + pick back 600) 1 → x.2.length ≤ 1000 → (build x (glassesOf raw) (lineAt (pick back 3))).1.2.length ≠ 0 → ivIn (firstAt (build x (glassesOf raw) (lineAt (pick back 3))).1.2) 1310720 5242880 = true := by
    intro x hb hl hn
    have hb2 := back_bd back
    rw [← hb] at hb2
    unfold build at hn ⊢
    split
    · rename_i c
      rw [if_pos c] at hn
      split
      · rename_i c2
        rw [if_pos c2] at hn
        rcases buildRun_first (x := x) (wave := lineAt (pick back 3)) (glassesOk_len hg) hl with e | ⟨f, r, e, hf⟩
        · simp only [e] at hn
          exact absurd rfl hn
        · simp only [e, firstAt, List.getElem?_cons_zero, hf]
          exact hb2
      · rename_i c2
        rw [if_neg c2] at hn
        exact absurd rfl hn
    · rename_i c
      rw [if_neg c] at hn
      exact absurd rfl hn
  have hm : most ≤ 100 := by simp [mostOk] at h; exact h.2
  unfold systemOf at hne ⊢
  split
  · rename_i c
    rw [if_pos c] at hne
    exact key _ f2 (by simp only [plainLens, List.length_map]; omega) hne
  · rename_i c
    rw [if_neg c] at hne
    exact key _ f2 (by omega) hne

/-! What is told of a cell's way -/
theorem times_eq {a : Iv} {k : Int} (ha : a.right = true) (hk : -1000 ≤ k ∧ k ≤ 1000) (h : -1000000 ≤ a.lo ∧ a.hi ≤ 1000000) : a.times k = ⟨min (k * a.lo) (k * a.hi), max (k * a.lo) (k * a.hi), false⟩ ∧ (a.times k).right = true := by
  have b := right_bd ha
  have key : ∀ u : Int, -1000000 ≤ u ∧ u ≤ 1000000 → -1000000000 ≤ k * u ∧ k * u ≤ 1000000000 := by
    intro u hu
    have := abs_mul_le (a := k) (b := u) (A := 1000) (B := 1000000) hk hu
    omega
  have k1 := key a.lo (by omega)
  have k2 := key a.hi (by omega)
  have hr : (⟨min (k * a.lo) (k * a.hi), max (k * a.lo) (k * a.hi), false⟩ : Iv).right = true := right_mk' (by omega)
  have e : a.times k = ⟨min (k * a.lo) (k * a.hi), max (k * a.lo) (k * a.hi), false⟩ := by
    unfold Iv.times Iv.of
    rw [if_pos ⟨ha, numIn_iff.2 (by omega)⟩, if_pos hr]
  exact ⟨e, by rw [e]; exact hr⟩
theorem whole_eq {n : Int} (hn : 1 ≤ n ∧ n ≤ 8) : Iv.whole n = ⟨n * 65536, n * 65536, false⟩ ∧ (Iv.whole n).right = true ∧ (Iv.whole n).has 0 = false := by
  have : n = 1 ∨ n = 2 ∨ n = 3 ∨ n = 4 ∨ n = 5 ∨ n = 6 ∨ n = 7 ∨ n = 8 := by omega
  rcases this with rfl | rfl | rfl | rfl | rfl | rfl | rfl | rfl <;> decide
theorem times_in {a : Iv} {k n : Int} (ha : a.right = true) (h : 0 ≤ a.lo ∧ a.hi ≤ 648808) (hn : 1 ≤ n ∧ n ≤ 8) (hk : -n ≤ k ∧ k ≤ n) : (a.times k).right = true ∧ -(n * 648808) ≤ (a.times k).lo ∧ (a.times k).hi ≤ n * 648808 := by
  have b := right_bd ha
  obtain ⟨e, hr⟩ := times_eq (k := k) ha (by omega) (by omega)
  refine ⟨hr, ?_⟩
  rw [e]
  have key : ∀ u : Int, 0 ≤ u ∧ u ≤ 648808 → -(n * 648808) ≤ k * u ∧ k * u ≤ n * 648808 := by
    intro u hu
    have h1 : k * u ≤ n * 648808 := by
      rcases Int.lt_or_le k 0 with c | c
      · have := Int.mul_nonneg (a := -k) (b := u) (by omega) hu.1
        rw [Int.neg_mul] at this
        omega
      · exact Int.mul_le_mul hk.2 hu.2 hu.1 (by omega)
    have h2 : (-k) * u ≤ n * 648808 := by
      rcases Int.lt_or_le 0 k with c | c
      · have := Int.mul_nonneg (a := k) (b := u) (by omega) hu.1
        rw [Int.neg_mul]
        omega
      · exact Int.mul_le_mul (by omega) hu.2 hu.1 (by omega)
    rw [Int.neg_mul] at h2
    omega
  have k1 := key a.lo (by omega)
  have k2 := key a.hi (by omega)
  simp only
  omega
theorem hull_right {a b : Iv} (ha : a.right = true) (hb : b.right = true) : (a.hull b) = ⟨min a.lo b.lo, max a.hi b.hi, false⟩ ∧ (a.hull b).right = true := by
  have h1 := right_bd ha
  have h2 := right_bd hb
  have hr : (⟨min a.lo b.lo, max a.hi b.hi, false⟩ : Iv).right = true := right_mk' (by omega)
  have e : a.hull b = ⟨min a.lo b.lo, max a.hi b.hi, false⟩ := by
    unfold Iv.hull Iv.both Iv.of
    rw [ha, hb]
    simp only [Bool.and_self, if_true]
    rw [if_pos hr]
  exact ⟨e, by rw [e]; exact hr⟩
theorem div_bd {a b : Iv} (ha : a.right = true) (hb : b.right = true) {m M : Int} (h0 : 0 < b.lo) (hm : -1000000000 ≤ m) (hM : M ≤ 1000000000) (h1 : ∀ x y : Int, a.lo ≤ x ∧ x ≤ a.hi → b.lo ≤ y ∧ y ≤ b.hi → m * y ≤ x * 65536 ∧ x * 65536 ≤ M * y) :
    (a.div b).right = true ∧ m ≤ (a.div b).lo ∧ (a.div b).hi ≤ M := by
  have b1 := right_bd ha
  have b2 := right_bd hb
  have hz : b.has 0 = false := by simp [Iv.has, hb]; omega
  rw [div_eq ha hb hz]
  have lo : ∀ x y : Int, a.lo ≤ x ∧ x ≤ a.hi → b.lo ≤ y ∧ y ≤ b.hi → m ≤ fl (x * 65536) y ∧ cl (x * 65536) y ≤ M ∧ fl (x * 65536) y ≤ cl (x * 65536) y := fun x y hx hy =>
    ⟨(le_fl_iff (by omega)).2 (h1 x y hx hy).1, (cl_le_iff (by omega)).2 (h1 x y hx hy).2, fl_le_cl _ _⟩
  have l1 := lo a.lo b.lo (by omega) (by omega)
  have l2 := lo a.lo b.hi (by omega) (by omega)
  have l3 := lo a.hi b.lo (by omega) (by omega)
  have l4 := lo a.hi b.hi (by omega) (by omega)
  have hr : (⟨min4 (fl (a.lo * 65536) b.lo) (fl (a.lo * 65536) b.hi) (fl (a.hi * 65536) b.lo) (fl (a.hi * 65536) b.hi), max4 (cl (a.lo * 65536) b.lo) (cl (a.lo * 65536) b.hi) (cl (a.hi * 65536) b.lo) (cl (a.hi * 65536) b.hi), false⟩ : Iv).right = true := right_mk' (by unfold min4 max4; omega)
  unfold Iv.of
  rw [if_pos hr]
  exact ⟨hr, by unfold min4; simp only; omega, by unfold max4; simp only; omega⟩
theorem edge_bd {o : Iv} {k n : Int} (ho : o.right = true) (h : 0 ≤ o.lo ∧ o.hi ≤ 648808) (hn : 1 ≤ n ∧ n ≤ 8) (hk : -n ≤ k ∧ k < n) : (edgeC o k n).right = true ∧ -648808 ≤ (edgeC o k n).lo ∧ (edgeC o k n).hi ≤ 648808 := by
  obtain ⟨w1, w2, w3⟩ := whole_eq hn
  obtain ⟨a1, a2, a3⟩ := times_in (k := k) ho h hn (by omega)
  obtain ⟨b1, b2, b3⟩ := times_in (k := k + 1) ho h hn (by omega)
  obtain ⟨e, hr⟩ := hull_right a1 b1
  unfold edgeC
  rw [wr (n := k + 1) (by omega)]
  refine div_bd hr w2 (by rw [w1]; simp only; omega) (by decide) (by decide) ?_
  intro x y hx hy
  rw [e] at hx
  rw [w1] at hy
  simp only at hx hy
  have : y = n * 65536 := by omega
  subst this
  constructor <;> omega
theorem sub_bd {a b : Iv} (ha : a.right = true) (hb : b.right = true) (h : -1000000 ≤ a.lo ∧ a.hi ≤ 1000000) (h' : -1000000 ≤ b.lo ∧ b.hi ≤ 1000000) : (a.sub b).right = true ∧ a.lo - b.hi ≤ (a.sub b).lo ∧ (a.sub b).hi ≤ a.hi - b.lo := by
  have b1 := right_bd ha
  have b2 := right_bd hb
  have hn : b.neg = ⟨-b.hi, -b.lo, false⟩ := neg_right_eq hb
  have hnr : b.neg.right = true := by rw [neg_right]; exact hb
  have e := add_right_eq ha hnr (by rw [hn]; simp only; omega)
  unfold Iv.sub
  rw [e, hn]
  exact ⟨right_mk' (by simp only; omega), by simp only; omega, by simp only; omega⟩
theorem sqr_bd {a : Iv} (ha : a.right = true) {B : Int} (hB : 0 ≤ B ∧ B ≤ 5242880) (h : -B ≤ a.lo ∧ a.hi ≤ B) : a.sqr.right = true ∧ 0 ≤ a.sqr.lo ∧ a.sqr.hi ≤ 419430400 ∧ ∀ C : Int, B * B ≤ C * 65536 → a.sqr.hi ≤ C := by
  have b := right_bd ha
  rw [sqr_eq ha]
  have n0 : 0 ≤ ivNear a ∧ ivNear a ≤ ivFar a ∧ ivFar a ≤ B := by unfold ivNear ivFar; omega
  have h1 : ivFar a * ivFar a ≤ B * B := Int.mul_le_mul n0.2.2 n0.2.2 (by omega) (by omega)
  have h2 : B * B ≤ 5242880 * 5242880 := Int.mul_le_mul hB.2 hB.2 hB.1 (by omega)
  have h3 : ivNear a * ivNear a ≤ ivFar a * ivFar a := Int.mul_le_mul n0.2.1 n0.2.1 n0.1 (by omega)
  have h4 : 0 ≤ ivNear a * ivNear a := Int.mul_nonneg n0.1 n0.1
  have l1 : 0 ≤ fl (ivNear a * ivNear a) 65536 := (le_fl_iff (by decide)).2 (by omega)
  have l2 : ∀ C : Int, B * B ≤ C * 65536 → cl (ivFar a * ivFar a) 65536 ≤ C := fun C hC => (cl_le_iff (by decide)).2 (by omega)
  have l3 := l2 419430400 (by omega)
  have l4 := Int.le_trans (fl_mono (by decide : (0 : Int) < 65536) h3) (fl_le_cl (ivFar a * ivFar a) 65536)
  have hr : (⟨fl (ivNear a * ivNear a) 65536, cl (ivFar a * ivFar a) 65536, false⟩ : Iv).right = true := right_mk' (by omega)
  unfold Iv.of
  rw [if_pos hr]
  exact ⟨hr, l1, l3, l2⟩
theorem sqr_lo {a : Iv} (ha : a.right = true) {m C : Int} (hm : 0 ≤ m) (h : m ≤ a.lo) (hs : a.sqr.right = true) (hC : C * 65536 ≤ m * m) : C ≤ a.sqr.lo := by
  rw [sqr_eq ha] at hs ⊢
  obtain ⟨_, e⟩ := of_right hs
  rw [e]
  have n0 : m ≤ ivNear a := by unfold ivNear; omega
  have h1 : m * m ≤ ivNear a * ivNear a := Int.mul_le_mul n0 n0 hm (by omega)
  exact (le_fl_iff (b := 65536) (by decide)).2 (by omega)
theorem unit_right {X Y Z : Iv} (hx : X.right = true) (hy : Y.right = true) (hz : Z.right = true) (bx : -1250000 ≤ X.lo ∧ X.hi ≤ 1250000) (by_ : -1250000 ≤ Y.lo ∧ Y.hi ≤ 1250000) (bz : 1310720 ≤ Z.lo ∧ Z.hi ≤ 5242880) : (V.unit ⟨X, Y, Z⟩).right = true := by
  have rx := right_bd hx
  have ry := right_bd hy
  have rz := right_bd hz
  obtain ⟨x1, x2, x3, x4⟩ := sqr_bd hx (B := 1250000) (by omega) (by omega)
  obtain ⟨y1, y2, y3, y4⟩ := sqr_bd hy (B := 1250000) (by omega) (by omega)
  obtain ⟨z1, z2, z3, z4⟩ := sqr_bd hz (B := 5242880) (by omega) (by omega)
  have z5 := sqr_lo hz (m := 1310720) (C := 26214400) (by decide) bz.1 z1 (by decide)
  have x5 := x4 23900000 (by decide)
  have y5 := y4 23900000 (by decide)
  have bx2 := right_bd x1
  have by2 := right_bd y1
  have bz2 := right_bd z1
  have e1 := add_right_eq x1 y1 (by omega)
  have r1 : (X.sqr.add Y.sqr).right = true := by rw [e1]; exact right_mk' (by omega)
  have e2 := add_right_eq r1 z1 (by rw [e1]; simp only; omega)
  have r2 : ((X.sqr.add Y.sqr).add Z.sqr).right = true := by rw [e2, e1]; exact right_mk' (by simp only; omega)
  have hl : V.len2 ⟨X, Y, Z⟩ = (X.sqr.add Y.sqr).add Z.sqr := rfl
  have l1 : 26214400 ≤ (V.len2 ⟨X, Y, Z⟩).lo := by rw [hl, e2, e1]; simp only; omega
  have l2 : (V.len2 ⟨X, Y, Z⟩).hi ≤ 500000000 := by rw [hl, e2, e1]; simp only; omega
  have l3 : (V.len2 ⟨X, Y, Z⟩).right = true := by rw [hl]; exact r2
  suffices hdv : ∀ W : Iv, W.right = true → -5242880 ≤ W.lo ∧ W.hi ≤ 5242880 → (W.div (V.len2 ⟨X, Y, Z⟩).root).right = true from
    vright_iff.2 ⟨hdv X hx (by omega), hdv Y hy (by omega), hdv Z hz (by omega)⟩
  have bl := right_bd l3
  have er := root_eq l3 (by omega)
  generalize V.len2 ⟨X, Y, Z⟩ = L at *
  have q1 : 1310720 ≤ isqrt (L.lo * 65536) := by
    obtain ⟨i1, i2, i3⟩ := isqrt_spec (n := L.lo * 65536) (by omega) (by omega)
    rcases Int.lt_or_le (isqrt (L.lo * 65536)) 1310720 with c | c
    · have : (isqrt (L.lo * 65536) + 1) * (isqrt (L.lo * 65536) + 1) ≤ 1310720 * 1310720 := Int.mul_le_mul (by omega) (by omega) (by omega) (by omega)
      omega
    · exact c
  obtain ⟨u1, u2, u3⟩ := usqrt_spec (n := L.hi * 65536) (by omega) (by omega)
  have m1 := isqrt_mono (n := L.lo * 65536) (m := L.hi * 65536) (by omega) (by omega) (by omega)
  have q2 : isqrt (L.hi * 65536) ≤ 6000000 := isqrt_le (by omega) (by omega) (by decide) (by omega)
  have hr : L.root.right = true := by rw [er]; exact right_mk' (by omega)
  have hlo : 1310720 ≤ L.root.lo := by rw [er]; exact q1
  intro W hW hb
  refine (div_bd (m := -262144) (M := 262144) hW hr (by omega) (by decide) (by decide) ?_).1
  intro x y hx' hy'
  constructor <;> omega
theorem hull_subl {a b : Iv} : Sub a (a.hull b) := fun h => by
  unfold Iv.hull at h ⊢
  by_cases c : Iv.both a b = true
  · rw [if_pos c] at h ⊢
    obtain ⟨hb, e⟩ := of_right h
    rw [e]
    have ha : a.right = true := by simp [Iv.both] at c; exact c.1
    exact ⟨ha, by dsimp only; omega, by dsimp only; omega⟩
  · rw [if_neg c] at h; cases h
theorem hull_subr {a b : Iv} : Sub b (a.hull b) := by rw [hull_comm]; exact hull_subl
structure AimsL (o : Iv) (l : List Surf) (a b a' b' : Iv) (p q n i j : Int) : Prop where
  r : (aimOf o l a b ⟨p, q⟩ n).2 = true ∧ (aimOf o l a b ⟨p, q⟩ n).1.d.right = true
  t : (aimOf o l a' b' ⟨p, q⟩ n).2 = true
  f : (aimOf o l a b.neg ⟨p, -q - 1⟩ n).2 = true
  io : (aimOf o l a' b' ⟨p, q⟩ n).1.o.inside (aimOf o l a b ⟨p, q⟩ n).1.o = true
  id : (aimOf o l a' b' ⟨p, q⟩ n).1.d.inside (aimOf o l a b ⟨p, q⟩ n).1.d = true
  mo : (aimOf o l a b.neg ⟨p, -q - 1⟩ n).1.o = (aimOf o l a b ⟨p, q⟩ n).1.o.mirror
  md : (aimOf o l a b.neg ⟨p, -q - 1⟩ n).1.d = (aimOf o l a b ⟨p, q⟩ n).1.d.mirror
  e : (V.unit ⟨((o.times (p + i)).div (Iv.whole n)).sub a, ((o.times (q + j)).div (Iv.whole n)).sub b, firstAt l⟩).inside (aimOf o l a b ⟨p, q⟩ n).1.d = true
theorem aims_law {o : Iv} {l : List Surf} {a b a' b' : Iv} {p q n i j : Int} (hl : l.length ≠ 0) (ho : ivIn o 196608 648808 = true) (hz : ivIn (firstAt l) 1310720 5242880 = true) (hn : 1 ≤ n ∧ n ≤ 8)
    (ha : a.right = true ∧ -524288 ≤ a.lo ∧ a.hi ≤ 530000) (hb : b.right = true ∧ -524288 ≤ b.lo ∧ b.hi ≤ 530000) (ha' : a'.right = true ∧ Sub a' a) (hb' : b'.right = true ∧ Sub b' b)
    (hp : -n ≤ p ∧ p < n) (hq : -n ≤ q ∧ q < n) (hi : 0 ≤ i ∧ i < 2) (hj : 0 ≤ j ∧ j < 2) : AimsL o l a b a' b' p q n i j := by
  obtain ⟨o1, o2, o3⟩ := ivIn_iff.1 ho
  obtain ⟨z1, z2, z3⟩ := ivIn_iff.1 hz
  have bo := right_bd o1
  obtain ⟨e1, e2, e3⟩ := edge_bd (k := p) o1 (by omega) hn hp
  obtain ⟨g1, g2, g3⟩ := edge_bd (k := q) o1 (by omega) hn hq
  have ba := right_bd ha.1
  have bb := right_bd hb.1
  have be := right_bd e1
  have bg := right_bd g1
  obtain ⟨s1, s2, s3⟩ := sub_bd e1 ha.1 (by omega) (by omega)
  obtain ⟨t1, t2, t3⟩ := sub_bd g1 hb.1 (by omega) (by omega)
  have hs : sizedC l n = true := sizedC_iff.2 ⟨by omega, by omega, by omega⟩
  have hd : (aimRay o l a b ⟨p, q⟩ n).d.right = true := unit_right (X := (edgeC o p n).sub a) (Y := (edgeC o q n).sub b) (Z := firstAt l) s1 t1 z1 (by omega) (by omega) (by omega)
  have hor : (aimRay o l a b ⟨p, q⟩ n).o.right = true := vright_iff.2 ⟨ha.1, hb.1, show (Iv.point 0).right = true by decide⟩
  have er : aimOf o l a b ⟨p, q⟩ n = (aimRay o l a b ⟨p, q⟩ n, true) := by unfold aimOf; rw [if_pos ⟨hs, hor, hd⟩]
  have h2 : (aimOf o l a b ⟨p, q⟩ n).2 = true := by rw [er]
  obtain ⟨n1, n2⟩ := aimOf_sub (o := o) (l := l) ha'.2 hb'.2 ⟨p, q⟩ n h2
  obtain ⟨m1, m2⟩ := aimOf_map sym_mirror (aimRay_flip (o := o) (l := l) (a := a) (b := b) (n := n) (z := ⟨p, q⟩) (by unfold box20; simp only; omega))
  have m3 := m2 h2
  have hdr : (aimOf o l a b ⟨p, q⟩ n).1.d.right = true := by rw [er]; exact hd
  have hoR : (aimOf o l a b ⟨p, q⟩ n).1.o.right = true := by rw [er]; exact hor
  refine ⟨⟨h2, hdr⟩, n1, by rw [← h2]; exact m1, subV_inside n2.1 hoR, subV_inside n2.2 hdr, congrArg Ray.o m3, congrArg Ray.d m3, ?_⟩
  refine subV_inside ?_ hdr
  rw [er]
  have corner : ∀ k c : Int, -n ≤ k ∧ k < n → 0 ≤ c ∧ c < 2 → Sub ((o.times (k + c)).div (Iv.whole n)) (edgeC o k n) := by
    intro k c hk hc
    unfold edgeC
    rw [wr (n := k + 1) (by omega)]
    refine div_sub ?_ (Sub.refl _)
    have : c = 0 ∨ c = 1 := by omega
    rcases this with rfl | rfl
    · rw [Int.add_zero]; exact hull_subl
    · exact hull_subr
  exact unit_sub ⟨sub_sub (corner p i hp hi) (Sub.refl _), sub_sub (corner q j hq hj) (Sub.refl _), Sub.refl _⟩
end Go.Proofs.YtliglpiofomelaaGreat
