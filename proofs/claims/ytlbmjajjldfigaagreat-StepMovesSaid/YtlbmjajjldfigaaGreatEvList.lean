/-
  Lists that code makes: slice literals, 'append', parts of lists.
-/
import Derived.Test.YtlbmjajjldfigaaGreatEvTwo
import Derived.Great.BuildSlice
import Derived.Laws.OwnMore
import Derived.Laws.Slices
namespace Go.Proofs.YtlbmjajjldfigaaGreat.Ev
open Go Go.RowKit
universe u

section
variable {P : Program} {B : Nat} {w0 : World} {N : List Nm} {s : St} {a : Act} {w : World}

theorem sliceT_spec {t e : TypeId} {z : Nat} {zc : List Value} (h : sliceT P t = some (e, z, zc)) :
    ∃ i zv, P.underlying t = some (.slice e) ∧ P.info? e = some i ∧ i.zero = some zv ∧ zv.cells.size = i.size ∧ 0 < i.size ∧ i.bytes ≤ 67108864 ∧ z = i.size ∧ zc = zv.cells.toList := by
  unfold sliceT at h
  split at h
  · rename_i e' hu
    split at h
    · rename_i i hi
      split at h
      · rename_i zv hz
        split at h
        · rename_i hb
          simp only [Bool.and_eq_true] at hb
          simp at h; obtain ⟨rfl, rfl, rfl⟩ := h
          have hb2 : 0 < i.size := Nat.le_of_ble_eq_true hb.2.1
          exact ⟨i, zv, hu, hi, hz, Nat.eq_of_beq_eq_true hb.1, hb2, Nat.le_of_ble_eq_true hb.2.2, rfl, rfl⟩
        · cases h
      · cases h
    · cases h
  · cases h

theorem parse_spec {α : Type} {c : CC α} {z : Nat} (hc : c.Ok z) : ∀ (n : Nat) (cs : List CV) (l : List α), parse c n cs = some l → l.length = n ∧ ∀ N, CV.vals N cs = some (l.flatMap c.enc)
  | 0, [], l, h => by simp [parse] at h; subst h; exact ⟨rfl, fun N => rfl⟩
  | 0, _ :: _, l, h => by simp [parse] at h
  | n + 1, cs, l, h => by
    simp only [parse] at h
    split at h
    · rename_i x r hx
      split at h
      · rename_i l' hl
        simp at h; subst h
        obtain ⟨p, rfl, hp⟩ := hc.2 _ _ _ hx
        obtain ⟨h1, h2⟩ := parse_spec hc n r l' hl
        exact ⟨by simp [h1], fun N => by rw [List.flatMap_cons]; exact cvs_append (hp N) (h2 N)⟩
      · cases h
    · cases h
theorem tryK_spec {z n : Nat} {cs : List CV} : ∀ {ks : List Kd} {L : Lst}, tryK z n cs ks = some L → L.k.sz = z ∧ L.l.length = n ∧ ∀ N, CV.vals N cs = some L.cells
  | [], L, h => by simp [tryK] at h
  | k :: r, L, h => by
    simp only [tryK] at h
    split at h
    · rename_i hb
      split at h
      · rename_i l hl
        simp at h; subst h
        obtain ⟨h1, h2⟩ := parse_spec k.ok _ _ _ hl
        exact ⟨(Nat.eq_of_beq_eq_true hb).symm, h1, h2⟩
      · exact tryK_spec h
    · exact tryK_spec h

theorem CC.one_seq {α β γ : Type} {c : CC α} {d : CC β} {f : α → β → γ} {p : γ → α} {q : γ → β} (hc : ∀ x, ∀ v ∈ c.enc x, v.oneCell' = true) (hd : ∀ x, ∀ v ∈ d.enc x, v.oneCell' = true) : ∀ x, ∀ v ∈ (c.seq d f p q).enc x, v.oneCell' = true := by
  intro x v hv
  simp only [CC.seq, List.mem_append] at hv
  exact hv.elim (hc _ v) (hd _ v)
theorem one_int : ∀ x, ∀ v ∈ ccInt.enc x, v.oneCell' = true := by intro x v hv; simp [ccInt] at hv; subst hv; rfl
theorem one_bool : ∀ x, ∀ v ∈ ccBool.enc x, v.oneCell' = true := by intro x v hv; simp [ccBool] at hv; subst hv; rfl
theorem one_str : ∀ x, ∀ v ∈ ccStr.enc x, v.oneCell' = true := by intro x v hv; simp [ccStr] at hv; subst hv; rfl
theorem one_byte : ∀ x, ∀ v ∈ ccByte.enc x, v.oneCell' = true := by intro x v hv; simp [ccByte] at hv; subst hv; rfl
theorem one_iv : ∀ x, ∀ v ∈ ccIv.enc x, v.oneCell' = true := CC.one_seq one_int (CC.one_seq one_int one_bool)
theorem one_dec : ∀ x, ∀ v ∈ ccDec.enc x, v.oneCell' = true := CC.one_seq one_int one_int
theorem one_cx : ∀ x, ∀ v ∈ ccCx.enc x, v.oneCell' = true := by intro x v hv; simp [ccCx] at hv; subst hv; rfl
theorem Kd.one : ∀ (k : Kd) (x : k.T), ∀ v ∈ k.cc.enc x, v.oneCell' = true
  | .int => one_int
  | .iv => one_iv
  | .surf => CC.one_seq (CC.one_seq one_bool one_bool) (CC.one_seq one_iv (CC.one_seq one_iv (CC.one_seq one_iv (CC.one_seq one_iv (CC.one_seq one_iv (CC.one_seq one_iv one_iv))))))
  | .face => CC.one_seq (CC.one_seq one_bool (CC.one_seq one_dec (CC.one_seq one_dec one_dec))) (CC.one_seq one_dec (CC.one_seq one_dec (CC.one_seq one_dec one_str)))
  | .glass => CC.one_seq one_str (CC.one_seq one_dec (CC.one_seq one_dec (CC.one_seq one_dec (CC.one_seq one_dec (CC.one_seq one_dec one_dec)))))
  | .rface => CC.one_seq one_int (CC.one_seq one_int (CC.one_seq one_int (CC.one_seq one_int (CC.one_seq one_int one_int))))
  | .rray => CC.one_seq one_int (CC.one_seq one_int (CC.one_seq one_int (CC.one_seq one_int (CC.one_seq one_int one_int))))
  | .pair => CC.one_seq one_int one_int
  | .quad => CC.one_seq one_int (CC.one_seq one_int (CC.one_seq one_int one_int))
  | .byte => one_byte
  | .cx => one_cx
  | .ivp => CC.one_seq one_iv one_iv
  | .row => CC.one_seq one_iv (CC.one_seq one_iv (CC.one_seq one_int (CC.one_seq one_int (CC.one_seq one_int (CC.one_seq one_bool (CC.one_seq one_cx one_cx))))))
  | .drow => CC.one_seq one_iv (CC.one_seq one_iv (CC.one_seq one_int (CC.one_seq one_int (CC.one_seq one_int (CC.one_seq one_bool (CC.one_seq (CC.one_seq one_int one_int) (CC.one_seq one_int one_int)))))))

theorem cells_length (L : Lst) : L.cells.length = L.l.length * L.k.sz := by
  unfold Lst.cells
  induction L.l with
  | nil => simp
  | cons x r ih => rw [List.flatMap_cons, List.length_append, L.k.ok.1, ih, List.length_cons, Nat.add_mul]; omega
theorem flatMap_back {α β : Type} (f : α → List β) : ∀ (l : List α) (n J : Nat) (u : β), (∀ x, (f x).length = n) → (l.flatMap f)[J]? = some u → ∃ k x j, l[k]? = some x ∧ (f x)[j]? = some u ∧ J = k * n + j
  | [], n, J, u, _, h => by simp at h
  | x :: r, n, J, u, hf, h => by
    rw [List.flatMap_cons] at h
    rcases Nat.lt_or_ge J (f x).length with hl | hl
    · rw [List.getElem?_append_left hl] at h
      exact ⟨0, x, J, rfl, h, by omega⟩
    · rw [List.getElem?_append_right hl, hf] at h
      obtain ⟨k, y, j, h1, h2, h3⟩ := flatMap_back f r n _ u hf h
      rw [hf] at hl
      exact ⟨k + 1, y, j, h1, h2, by rw [Nat.add_mul]; omega⟩

theorem buildSlice_sound (hM : RelM B w0 N s.mem w) (hT : RelT N s a) {t : TypeId} {len : Nat} {parts : Array (Nat × Operand)} {L : Lst} {e : TypeId} (h : buildSliceA P s t len parts.toList = some (L, e)) :
    ∃ cells, (Instr.buildSlice t len (parts.map fun (x : Nat × Operand) => (x.1, a.eval x.2))).run P w = .ok (.slice (some ⟨w.heap.size, 0, none⟩) len len) (w.alloc (.cells cells e)) ∧
      RelM B w0 (N ++ [.sv (some ⟨w.heap.size, 0, none⟩) len len]) (s.mem ++ [.grow L e]) (w.alloc (.cells cells e)) := by
  unfold buildSliceA at h
  split at h
  · rename_i e' z zc hs
    obtain ⟨i, zv, hu, hi, hz, hzs, hpos, hby, rfl, rfl⟩ := sliceT_spec hs
    split at h
    · rename_i hb
      simp only [Bool.and_eq_true] at hb
      have hlen : 0 < len := Nat.le_of_ble_eq_true hb.1
      have hsm := Nat.le_of_ble_eq_true hb.2
      split at h
      · rename_i cs hcs
        split at h
        · split at h
          · rename_i L' hL
            simp at h; obtain ⟨rfl, rfl⟩ := h
            have h0 : CV.vals N (cells0 len i.size zv.cells.toList) = some ((List.range (len * i.size)).map fun j => (nth zv.cells.toList (j % i.size)).getD undef) := by
              have := cvs_mapV (N := N) ((List.range (len * i.size)).map fun j => (nth zv.cells.toList (j % i.size)).getD undef)
              rw [List.map_map] at this; exact this
            obtain ⟨us, h1, h2⟩ := buildA_sound hT (fun j => some (j * i.size, i.size)) (fun j => some (j * i.size, i.size)) (fun j x hx => hx) _ _ _ _ hcs h0
            obtain ⟨k1, k2, k3⟩ := tryK_spec hL
            rw [k3 N] at h1; cases h1
            have hne : ¬ len * i.size = 0 := by
              have := Nat.mul_pos hlen hpos; omega
            have hrun := run_buildSlice (P := P) w t e' len (parts.map fun (x : Nat × Operand) => (x.1, a.eval x.2)) L'.cells.toArray i zv hu hi hz (by omega) hne (by
              rw [Array.toList_map, ← h2]
              congr 1
              apply Array.ext'
              rw [Array.toList_map, Array.toList_range]
              apply List.map_congr_left
              intro j hj
              have hjm : j % zv.cells.size < zv.cells.size := Nat.mod_lt _ (by omega)
              rw [getElem!_pos zv.cells (j % zv.cells.size) hjm, nth_eq, ← hzs]
              simp [hjm])
            refine ⟨_, hrun, ?_⟩
            have hold : ∀ k, k < w.heap.size → (w.alloc (.cells L'.cells.toArray e')).heap[k]? = w.heap[k]? := fun k hk => Below.heap_alloc w _ k hk
            refine hM.push none _ _ (hM.below.alloc hM.base _) (by simp) (fun j r hj _ b hb => hold b ((hM.row j r hj).blk_lt hb)) ?_ ?_
            · refine ⟨_, _, _, by rw [← hM.len]; exact nth_last N _, ?_⟩
              rw [k2]
              refine ⟨by rw [cells_length, k2], .inr ⟨w.heap.size, len, L'.cells.toArray, rfl, hM.base, heap_alloc_new w _, Nat.le_refl _, ?_, ?_, ?_⟩⟩
              · simp only [maxLen]
                have : len ≤ len * i.size := Nat.le_mul_of_pos_right _ hpos
                omega
              · simp [cells_length, k2]
              · rw [← k2, ← cells_length]; exact List.take_length
            · intro b hb j r hj _ _ hbj
              have hnn : nth (N ++ [Nm.sv (some ⟨w.heap.size, 0, none⟩) len len]) s.mem.length = some (.sv (some ⟨w.heap.size, 0, none⟩) len len) := by rw [← hM.len]; exact nth_last N _
              simp [blkOf, hnn, Value.ownBlock] at hb
              have := (hM.row j r hj).blk_lt hbj
              omega
          · cases h
        · cases h
      · cases h
    · cases h
  · cases h

/-- 'append', and where the block is. -/
theorem run_append_at (base : Nat) (t ty e : TypeId) (i : TypeInfo) (z : Value) (ht : P.underlying t = some (.slice e)) (hi : P.info? e = some i) (hz : i.zero = some z)
    (hzs : z.cells.size = i.size) (hsz : 0 < i.size)
    (v : Value) (n : Nat) (xs : List Value) (hown : w.ownsRow base e i.size v n xs)
    (a : Addr) (m c : Nat) (news : List Value) (hl : news.length = m * i.size) (hnews : ∀ j u, news[j]? = some u → w.cell? (a.add j) = some u) (h1 : ∀ u ∈ news, u.oneCell' = true)
    (h63 : n + m ≤ maxLen) (hbytes : (n + m) * i.bytes ≤ 140737488355328) (hbase : base ≤ w.heap.size) :
    ∃ v' w', (Builtin.append_ #[t, t] ty #[v, .slice (some a) m c]).run P w = .ok v' w' ∧ w'.ownsRow base e i.size v' (n + m) (xs ++ news) ∧ w.grownBy w' v.ownBlock ∧
      ∀ b, v'.ownBlock = some b → v.ownBlock = some b ∨ b = w.heap.size := by
  obtain ⟨v', w', hr, h2, h3, h4⟩ := run_append_own (P := P) w base t ty e i z i.size i.bytes ht hi hz rfl rfl hzs hsz v n xs hown a m c news hl hnews h1 h63 hbytes hbase
  refine ⟨v', w', hr, h2, h3, fun b hb => ?_⟩
  have h63' : n + m ≤ 9223372036854775807 := by simp only [maxLen] at h63; omega
  rcases hown.2 with ⟨rfl, rfl⟩ | ⟨g, cap, cur, rfl, hbg, hg, hnc, hcm, hcs, htake⟩
  · by_cases hm : m = 0
    · rw [h4.2 ⟨rfl, hm⟩] at hb; simp [Value.ownBlock] at hb
    · have hr' := run_append_nil (P := P) w t ty e i z ht hi hz a m c news hl hnews (by omega) (by omega) (by have hb := hbytes; simp only [Nat.zero_add] at hb; omega)
      rw [hr'] at hr; cases hr
      simp [Value.ownBlock] at hb; exact .inr hb.symm
  · by_cases hroom : n + m ≤ cap
    · have hfit : n * i.size + news.length ≤ cur.size := by rw [hl, hcs, ← Nat.add_mul]; exact Nat.mul_le_mul_right _ hroom
      have hr' := run_append_room (P := P) w t ty e i ht hi g n cap cur hg a m c news hl hnews h1 hroom hfit
      rw [hr'] at hr; cases hr
      exact .inl hb
    · have holds : ∀ j u, xs[j]? = some u → w.cell? ((⟨g, 0, none⟩ : Addr).add j) = some u := hown.cells (g := g) rfl
      have hr' := run_append_grow (P := P) w t ty e i z ht hi hz ⟨g, 0, none⟩ n cap xs hown.1 holds a m c news hl hnews (by omega) (by omega) (growslice_fits (by omega) hbytes)
      rw [hr'] at hr; cases hr
      simp [Value.ownBlock] at hb; exact .inr hb.symm

theorem append_sound (hM : RelM B w0 N s.mem w) {ts : Array TypeId} {ty : TypeId} {l : List AV} {vs : List Value} {o : Option Nat} {L : Lst} {e : TypeId}
    (h : appendA P s.mem ts.toList l = some (o, L, e)) (hv : AV.vals N l = some vs) (hlen : lenOk L.l = true) :
    ∃ ad n cap w', (Builtin.append_ ts ty vs.toArray).run P w = .ok (.slice ad n cap) w' ∧ RelM B w0 (N ++ [.sv ad n cap]) (rowsOff s.mem o ++ [.grow L e]) w' := by
  have hlen := of_decide_eq_true hlen
  unfold appendA at h
  split at h
  case h_2 => cases h
  rename_i t u x j hts
  have hts' : ts = #[t, u] := by apply Array.ext'; simpa using hts
  subst hts'
  split at h
  case h_2 => cases h
  rename_i htu
  have := Nat.eq_of_beq_eq_true htu
  subst this
  split at h
  case h_2 => cases h
  rename_i e' z zc hs
  obtain ⟨i, zv, hu, hi, hz, hzs, hpos, hby, rfl, rfl⟩ := sliceT_spec hs
  split at h
  case h_2 => cases h
  rename_i L2 hL2
  split at h
  case h_2 => cases h
  rename_i hsz
  have hsz := Nat.eq_of_beq_eq_true hsz
  obtain ⟨a2, n2, cap2, hn2, hl2⟩ := lst_at hM hL2
  -- what any first operand comes to
  have main : ∀ (v : Value) (L1 : List L2.k.T) (o' : Option Nat), w.ownsRow B e' i.size v L1.length (L1.flatMap L2.k.cc.enc) → (L1 ++ L2.l).length ≤ 1048576 →
      (∀ b, v.ownBlock = some b → ∀ k q, nth s.mem k = some q → o' ≠ some k → blkOf N k q ≠ some b) → (∀ b, v.ownBlock = some b → b < w.heap.size) → (o' = none → v = .slice none 0 0) →
      ∃ ad n cap w', (Builtin.append_ #[t, t] ty #[v, .slice a2 n2 cap2]).run P w = .ok (.slice ad n cap) w' ∧ RelM B w0 (N ++ [.sv ad n cap]) (rowsOff s.mem o' ++ [.grow ⟨L2.k, L1 ++ L2.l⟩ e']) w' := by
    intro v L1 o' hown hlen hsep hlt hnil
    have fin : ∀ (v' : Value) (w' : World), w'.ownsRow B e' i.size v' (L1 ++ L2.l).length ((L1 ++ L2.l).flatMap L2.k.cc.enc) → w.grownBy w' v.ownBlock → (∀ b, v'.ownBlock = some b → v.ownBlock = some b ∨ b = w.heap.size) →
        ∃ ad n cap, v' = .slice ad n cap ∧ RelM B w0 (N ++ [.sv ad n cap]) (rowsOff s.mem o' ++ [.grow ⟨L2.k, L1 ++ L2.l⟩ e']) w' := by
      intro v' w' hown' hgr hb'
      have hform : ∃ ad n cap, v' = .slice ad n cap := by
        rcases hown'.2 with ⟨rfl, _⟩ | ⟨g, cap, cur, rfl, _⟩
        · exact ⟨_, _, _, rfl⟩
        · exact ⟨_, _, _, rfl⟩
      obtain ⟨ad, n, cap, rfl⟩ := hform
      refine ⟨ad, n, cap, rfl, ?_⟩
      have hvb : ∀ b, v.ownBlock = some b → B ≤ b := by
        intro b hb
        rcases hown.2 with ⟨rfl, _⟩ | ⟨g, cap, cur, rfl, hbg, _⟩
        · simp [Value.ownBlock] at hb
        · simp [Value.ownBlock] at hb; omega
      have hbel : BelowO B w0 w' := by
        refine hM.below.trans ⟨⟨hgr.os, hgr.tape, hgr.output, hgr.size, fun k hk => hgr.block k (by have := hM.base; omega) ?_⟩, KeepsOthers.of_grownBy hgr fun j o he ho => ?_⟩
        · intro he
          have := hvb k he.symm
          omega
        · rcases hown.2 with ⟨rfl, _⟩ | ⟨g, cap, cur, rfl, hbg, hcur, _⟩
          · simp [Value.ownBlock] at he
          · simp only [Value.ownBlock, Option.some.injEq] at he
            subst he
            rw [hcur] at ho; cases ho; rfl
      have hnn : nth (N ++ [Nm.sv ad n cap]) s.mem.length = some (.sv ad n cap) := by rw [← hM.len]; exact nth_last N _
      refine hM.push o' _ _ hbel hgr.size (fun k q hk ho b hb => ?_) ⟨ad, n, cap, hnn, ?_⟩ ?_
      · refine hgr.block b ((hM.row k q hk).blk_lt hb) ?_
        intro he
        exact hsep b he.symm k q hk ho hb
      · have : (⟨L2.k, L1 ++ L2.l⟩ : Lst).k.sz = i.size := hsz.symm
        rw [this]; exact hown'
      · intro b hb k q hk ho _ hkb
        simp only [blkOf, hnn] at hb
        rcases hb' b hb with h1 | rfl
        · exact hsep b h1 k q hk ho hkb
        · have := (hM.row k q hk).blk_lt hkb
          omega
    rcases hl2 with ⟨he, h0⟩ | ⟨a2', cap2', he, hsp, hlt2, hc⟩
    · cases he
      have hr := run_append_owned_none (P := P) (w := w) B t ty e' i i.size hu hi v L1.length _ hown
      obtain ⟨ad, n, cap, rfl, hrel⟩ := fin v w (by rw [h0]; simpa using hown) ⟨rfl, rfl, rfl, Nat.le_refl _, fun _ _ _ => rfl⟩ (fun b hb => .inl hb)
      exact ⟨ad, n, cap, w, hr, hrel⟩
    · cases he
      have hnews : ∀ J u, L2.cells[J]? = some u → w.cell? (a2'.add J) = some u := by
        intro J u hJ
        obtain ⟨k, x, j, f1, f2, rfl⟩ := flatMap_back _ _ _ _ _ L2.k.ok.1 hJ
        rw [addr_add (hsp (by intro h0; rw [h0] at f1; simp at f1)), ← Nat.add_assoc]
        exact hc.1 k x f1 j u f2
      have hone : ∀ u ∈ L2.cells, u.oneCell' = true := by
        intro u hu
        obtain ⟨x, _, hx⟩ := List.mem_flatMap.1 hu
        exact Kd.one _ x u hx
      have hll : L1.length + L2.l.length ≤ 1048576 := by simpa using hlen
      obtain ⟨v', w', hr, g1, g2, g3⟩ := run_append_at (P := P) (w := w) B t ty e' i zv hu hi hz hzs hpos v L1.length _ hown a2' L2.l.length cap2 L2.cells (by rw [cells_length, hsz]) hnews hone (by simp only [maxLen]; omega)
        (Nat.le_trans (Nat.mul_le_mul hll hby) (by decide)) hM.base
      obtain ⟨ad, n, cap, rfl, hrel⟩ := fin v' w' (by rw [List.length_append, List.flatMap_append]; exact g1) g2 g3
      exact ⟨ad, n, cap, w', hr, hrel⟩
  split at h
  · simp at h; obtain ⟨rfl, rfl, rfl⟩ := h
    simp [AV.vals, AV.val, CV.val, hn2] at hv; subst hv
    exact main (.slice none 0 0) [] none (World.ownsRow_nil w B e' i.size) (by simpa using hlen) (fun b hb => by simp [Value.ownBlock] at hb) (fun b hb => by simp [Value.ownBlock] at hb) (fun _ => rfl)
  · rename_i i1
    split at h
    · cases h
    · split at h
      · rename_i L1 f hm
        split at h
        · rename_i hfe
          have := Nat.eq_of_beq_eq_true hfe
          subst this
          split at h
          · rename_i l2 hcast
            simp at h; obtain ⟨rfl, rfl, rfl⟩ := h
            have hk := Kd.cast_spec hcast
            obtain ⟨ad, n, cap, hnn, hown⟩ := hM.row i1 _ hm
            simp [AV.vals, AV.val, CV.val, hnn, hn2] at hv; subst hv
            obtain ⟨k1, l1⟩ := L1
            obtain ⟨k2, l2'⟩ := L2
            cases hk
            refine main (.slice ad n cap) l1 (some i1) (by have : (⟨k1, l1⟩ : Lst).k.sz = i.size := hsz.symm; rw [← this]; exact hown) (by simpa using hlen) ?_ ?_ (by simp)
            · intro b hb k q hk hne hkb
              exact hM.sep i1 k _ q b hm hk (fun e => hne (by rw [e])) rfl (by simp [blkOf, hnn]; exact hb) hkb
            · intro b hb
              exact (hM.row i1 _ hm).blk_lt (by simp [blkOf, hnn]; exact hb)
          · cases h
        · cases h
      · rename_i hm
        simp at h; obtain ⟨rfl, rfl, rfl⟩ := h
        have hnn : nth N i1 = some (.sv none 0 0) := hM.row i1 _ hm
        simp [AV.vals, AV.val, CV.val, hnn, hn2] at hv; subst hv
        exact main (.slice none 0 0) [] none (World.ownsRow_nil w B e' i.size) (by simpa using hlen) (fun b hb => by simp [Value.ownBlock] at hb) (fun b hb => by simp [Value.ownBlock] at hb) (fun _ => rfl)
      · cases h
  · cases h

theorem bound_val (hT : RelT N s a) {d n : Int} {x : Option Operand} (h : bound s d x = some n) : (x = none ∧ n = d) ∨ ∃ y, x = some y ∧ a.eval y = .int .i64 n := by
  cases x with
  | none => simp [bound] at h; exact .inl ⟨rfl, h.symm⟩
  | some y =>
    simp only [bound] at h
    split at h
    · rename_i z hz
      have h1 := opnd_val hT hz
      rw [avInt_val h] at h1
      exact .inr ⟨y, rfl, by simpa using h1.symm⟩
    · cases h

/-- A row of ours becomes one that nothing is stored into. -/
theorem RelM.listed (hM : RelM B w0 N s.mem w) {i : Nat} {L : Lst} (h : lstOf s.mem i = some L) : RelM B w0 N (setNth s.mem i (.list L)) w where
  below := hM.below
  base := hM.base
  len := by rw [length_setNth]; exact hM.len
  row := by
    intro j r hj
    rcases nth_setNth_cases hj with ⟨rfl, rfl, _⟩ | ⟨_, h1⟩
    · exact lst_at hM h
    · exact hM.row j r h1
  sep := by
    have old : ∃ r, nth s.mem i = some r ∧ ∀ N b, blkOf N i (.list L) = some b → blkOf N i r = some b := by
      unfold lstOf at h
      split at h
      · rename_i L' hm; simp at h; subst h; exact ⟨_, hm, fun N b hb => hb⟩
      · rename_i L' e hm
        refine ⟨_, hm, fun N b hb => ?_⟩
        simp only [blkOf] at hb ⊢
        split at hb
        · cases hb
        · exact hb
      · cases h
    obtain ⟨r0, o1, o2⟩ := old
    intro j k r q b hj hk hjk hw hb hb'
    rcases nth_setNth_cases hj with ⟨rfl, rfl, _⟩ | ⟨_, h1⟩
    · simp [Row.writable] at hw
    · rcases nth_setNth_cases hk with ⟨rfl, rfl, _⟩ | ⟨_, h2⟩
      · exact hM.sep j k r r0 b h1 o1 hjk hw hb (o2 _ _ hb')
      · exact hM.sep j k r q b h1 h2 hjk hw hb hb'

theorem slice_run {t e : TypeId} {i : TypeInfo} (hu : P.underlying t = some (.slice e)) (hi : P.info? e = some i) (ad : Option Addr) (n cap : Nat) (lo hi' : Int) (low high : Option Value)
    (hlo : (low = none ∧ lo = 0) ∨ low = some (.int .i64 lo)) (hhi : (high = none ∧ hi' = n) ∨ high = some (.int .i64 hi')) (h0 : 0 ≤ lo) (h1 : lo ≤ hi') (h2 : hi' ≤ n) (hnc : n ≤ cap) :
    (Instr.sliceAt t (.slice ad n cap) low high none).run P w = .ok (sliced ad lo.toNat hi'.toNat cap i.size) w := by
  have hel : P.elem t = e := by simp [Program.elem, hu]
  have ht : P.underlying t = some (.slice (P.elem t)) := by rw [hel]; exact hu
  have hsz : (sizeOf (P.elem t)).run P w = .ok i.size w := by simp [hel, sizeOf, typeInfo, hi]
  rw [run_sliceAt_slice w t _ _ _ _ ht]
  rcases hlo with ⟨rfl, rfl⟩ | rfl <;> rcases hhi with ⟨rfl, rfl⟩ | rfl
  · rw [run_slice_all w t ad n cap ht, hsz]; simp
  · rw [run_slice_h w t ad n cap ht .i64 hi' h1 (by omega), hsz]; simp
  · rw [run_slice_l w t ad n cap ht .i64 lo h0 h1, hsz]; simp
  · rw [run_slice_lh w t ad n cap ht .i64 .i64 lo hi' h0 h1 (by omega), hsz]; simp

theorem slice_sound {ρ : Type} {r : ρ} (hM : RelM B w0 N s.mem w) (hT : RelT N s a) {t : TypeId} {x : Operand} {y : AV} {low high : Option Operand} {k : St → AV → Tr ρ} (hx : opnd s x = some y)
    (h : (sliceK P s t y low high k).den = some r) :
    ∃ N' s' z v, NLe N N' ∧ RelM B w0 N' s'.mem w ∧ s'.n = s.n ∧ s'.tmps = s.tmps ∧ z.val N' = some v ∧ (k s' z).den = some r ∧
      (Instr.sliceAt t (a.eval x) (low.map a.eval) (high.map a.eval) none).run P w = .ok v w := by
  unfold sliceK at h
  split at h
  case h_2 => cases h
  rename_i i
  split at h
  case h_2 => cases h
  rename_i L hL
  split at h
  case h_2 => cases h
  rename_i e z zc hs
  obtain ⟨ti, zv, hu, hi, hz, hzs, hpos, hby, rfl, rfl⟩ := sliceT_spec hs
  split at h
  case h_2 => cases h
  rename_i hsz
  have hsz := Nat.eq_of_beq_eq_true hsz
  split at h
  case h_2 => cases h
  rename_i lo hlo
  split at h
  case h_2 => cases h
  rename_i hi' hhi
  unfold Tr.den at h
  split at h
  case h_2 => cases h
  rename_i hd
  have hd := of_decide_eq_true hd
  obtain ⟨ad, n, cap, hn, hl⟩ := lst_at hM hL
  have hev : a.eval x = .slice ad n cap := by
    have := opnd_val hT hx
    simp only [AV.val, CV.val, hn] at this
    simpa using this.symm
  have hnl : n = L.l.length ∧ n ≤ cap ∧ (ad = none → L.l = [] ∧ cap = 0) := by
    rcases hl with ⟨he, h0⟩ | ⟨a2, c2, he, _, _, hc⟩
    · cases he; exact ⟨by simp [h0], Nat.le_refl _, fun _ => ⟨h0, rfl⟩⟩
    · cases he; exact ⟨rfl, hc.2, by simp⟩
  have hlo' : (low.map a.eval = none ∧ lo = 0) ∨ low.map a.eval = some (.int .i64 lo) := by
    rcases bound_val hT hlo with ⟨rfl, h⟩ | ⟨y, rfl, h⟩
    · exact .inl ⟨rfl, h⟩
    · exact .inr (by simp [h])
  have hhi' : (high.map a.eval = none ∧ hi' = (n : Int)) ∨ high.map a.eval = some (.int .i64 hi') := by
    rcases bound_val hT hhi with ⟨rfl, h⟩ | ⟨y, rfl, h⟩
    · exact .inl ⟨rfl, by rw [hnl.1]; exact h⟩
    · exact .inr (by simp [h])
  have hrun := slice_run (P := P) (w := w) hu hi ad n cap lo hi' _ _ hlo' hhi' hd.1 hd.2.1 (by omega) hnl.2.1
  rw [← hev] at hrun
  unfold sliced at hrun
  have hM' := hM.listed hL
  have hlen' : ((L.l.take hi'.toNat).drop lo.toNat).length = hi'.toNat - lo.toNat := by simp; omega
  have hpush := hM'.push none (.sv (if cap = lo.toNat then ad else ad.map (·.add (lo.toNat * ti.size))) (hi'.toNat - lo.toNat) (cap - lo.toNat)) (.list ⟨L.k, (L.l.take hi'.toNat).drop lo.toNat⟩) hM'.below (Nat.le_refl _) (fun _ _ _ _ _ _ => rfl)
    ⟨_, _, _, by rw [length_setNth, ← hM.len]; exact nth_last N _, by
      rcases hl with ⟨he, h0⟩ | ⟨a2, c2, he, hsp, hlt, hc⟩
      · cases he
        have e1 : lo.toNat = 0 := by rw [h0] at hd; simp at hd; omega
        have e2 : hi'.toNat = 0 := by rw [h0] at hd; simp at hd; omega
        exact .inl ⟨by simp [e1, e2], by simp [h0]⟩
      · cases he
        refine .inr ⟨(if cap = lo.toNat then a2 else a2.add (lo.toNat * ti.size)), cap - lo.toNat, ?_, ?_, ?_, ?_, ?_⟩
        · rw [hlen']; congr 1; split <;> rfl
        · intro hne
          have hne' : L.l ≠ [] := by intro h0; rw [h0] at hne; simp at hne
          split
          · exact hsp hne'
          · rw [addr_add (hsp hne')]
        · intro hne
          have hne' : L.l ≠ [] := by intro h0; rw [h0] at hne; simp at hne
          split
          · exact hlt hne'
          · rw [addr_add (hsp hne')]; exact hlt hne'
        · intro k x hk j u hj
          have hk' := (List.getElem?_eq_some_iff.1 hk).1
          rw [hlen'] at hk'
          have hcap := hc.2
          have hne : ¬ cap = lo.toNat := by omega
          have hne' : L.l ≠ [] := by intro h0; have : hi' ≤ 0 := by rw [h0] at hd; simpa using hd.2.2
                                     omega
          rw [if_neg hne, addr_add (hsp hne')]
          rw [List.getElem?_drop, List.getElem?_take] at hk
          split at hk
          · have := hc.1 _ x hk j u hj
            rw [hsz]
            simp only
            rw [Nat.add_mul] at this
            rw [show a2.off + lo.toNat * L.k.sz + k * L.k.sz + j = a2.off + (lo.toNat * L.k.sz + k * L.k.sz) + j by omega]
            exact this
          · cases hk
        · rw [hlen']; have := hc.2; omega⟩
    (by
      intro b hb j r hj _ hw hbj
      have hnn : ∀ x, nth (N ++ [x]) (setNth s.mem i (.list L)).length = some x := fun x => by rw [length_setNth, ← hM.len]; exact nth_last N _
      rcases hw with hw | hw
      · have hbi : blkOf N i (.list L) = some b := by
          have hne' : ∃ y r, L.l = y :: r := by
            cases hL0 : L.l with
            | nil => simp [blkOf, hL0] at hb
            | cons y r => exact ⟨y, r, rfl⟩
          obtain ⟨y0, r0, hne'⟩ := hne'
          simp only [blkOf, hnn] at hb
          split at hb
          · cases hb
          simp only [blkOf, hn, hne']
          by_cases hcl : cap = lo.toNat
          · simp only [hcl, if_true] at hb
            cases ad with
            | none => simp [Value.ownBlock] at hb
            | some a2 => simpa [Value.ownBlock] using hb
          · simp only [hcl, if_false] at hb
            cases ad with
            | none => simp [Value.ownBlock] at hb
            | some a2 =>
              rcases hl with ⟨he, _⟩ | ⟨a3, c3, he, hsp, _⟩
              · cases he
              · cases he
                simp only [Option.map_some, Value.ownBlock, addr_add (hsp (by rw [hne']; simp))] at hb
                simpa [Value.ownBlock] using hb
        have hij : j ≠ i := by
          rintro rfl
          rcases nth_setNth_cases hj with ⟨_, rfl, _⟩ | ⟨h1, _⟩
          · simp [Row.writable] at hw
          · exact h1 rfl
        have hi2 : nth (setNth s.mem i (.list L)) i = some (.list L) := by
          have hlt : i < s.mem.length := by
            unfold lstOf at hL
            split at hL
            · rename_i hm; exact nth_lt hm
            · rename_i hm; exact nth_lt hm
            · cases hL
          rw [setNth_eq, nth_eq]; simp [hlt]
        exact hM'.sep j i r _ b hj hi2 hij hw hbj hbi
      · simp [Row.writable] at hw)
  refine ⟨_, { s with mem := setNth s.mem i (.list L) ++ [.list ⟨L.k, (L.l.take hi'.toNat).drop lo.toNat⟩] }, _, _, NLe.append _ _, hpush, rfl, rfl, ?_, h, hrun⟩
  have := nth_last N (Nm.sv (if cap = lo.toNat then ad else ad.map (·.add (lo.toNat * ti.size))) (hi'.toNat - lo.toNat) (cap - lo.toNat))
  rw [hM.len] at this
  simp only [AV.val, CV.val, this]
theorem strCut_sound {s : St} {N : List Nm} {a : Act} (hT : RelT N s a) {t : TypeId} {y : AV} {low high : Option Operand} {u : ByteArray} {n : Int} {vx : Value} (h : strCut P s t y low high = some (u, n)) (hx : y.val N = some vx)
    (hd : 0 ≤ n ∧ n ≤ (u.size : Int)) (w : World) : (Instr.sliceAt t vx (low.map a.eval) (high.map a.eval) none).run P w = .ok (.string (u.extract n.toNat u.size)) w := by
  unfold strCut at h
  split at h
  · split at h
    · rename_i hu
      split at h
      · split at h
        · rename_i l
          split at h
          · rename_i b hb
            split at h
            · rename_i m hm
              simp at h
              obtain ⟨rfl, rfl⟩ := h
              simp only [AV.val, CV.val, Option.some.injEq] at hx; subst hx
              have hl : a.eval l = .int .i64 m := by
                have h1 := opnd_val hT hb
                rw [avInt_c hm] at h1
                simpa using h1.symm
              simp only [Option.map_some, Option.map_none, hl]
              have := run_slice_string_l (P := P) w t _ hu .i64 m hd.1 hd.2
              simpa [Instr.sliceAt, run_underlying hu] using this
            · cases h
          · cases h
        · cases h
      · cases h
    · cases h
  · cases h
end
end Go.Proofs.YtlbmjajjldfigaaGreat.Ev
