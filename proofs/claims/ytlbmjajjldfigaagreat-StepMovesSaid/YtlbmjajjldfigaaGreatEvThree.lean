/-
  The evaluator is sound: what its tree comes to is what the call returns.
-/
import Derived.Test.YtlbmjajjldfigaaGreatEvList
namespace Go.Proofs.YtlbmjajjldfigaaGreat.Ev
open Go Go.RowKit
universe u

/-- Rows and frame. -/
structure Rel (B : Nat) (w0 : World) (N : List Nm) (s : St) (a : Act) (w : World) : Prop where
  m : RelM B w0 N s.mem w
  t : RelT N s a

section
variable {P : Program} {E : Env} {ρ : Type} {r : ρ} {B : Nat} {w0 : World} {N : List Nm} {s : St} {a : Act} {w : World}

theorem outQ_sound (hT : RelT N s a) {dst : Option Nat} {k : St → Tr ρ} {x : AV} {v : Value} (h : (outQ s dst k x).den = some r) (hx : x.val N = some v) :
    ∃ s', s'.mem = s.mem ∧ s'.n = s.n ∧ RelT N s' (a.put dst v) ∧ (k s').den = some r := by
  unfold outQ at h
  split at h
  · rename_i d
    split at h
    · rename_i hd
      have hd' : d < s.n := by
        have : Nat.ble (d + 1) s.n = true := hd
        exact Nat.le_of_ble_eq_true this
      exact ⟨s.put d x, rfl, rfl, hT.put hd' hx, h⟩
    · cases h
  · exact ⟨s, rfl, rfl, hT, h⟩

theorem op_wp_value {o : Oper} {next : Act → World → Prop} {Q : Exit → Act → World → Prop} {v : Value} {w' : World} (h : (execOp a.eval o).run P w = .ok (.value v) w') (hn : next (a.put o.dst v) w') : o.wp P a w next Q := by
  simp only [Oper.wp, h, Oper.upon]; exact hn
theorem op_wp_skip {o : Oper} {next : Act → World → Prop} {Q : Exit → Act → World → Prop} {w' : World} (h : (execOp a.eval o).run P w = .ok .skip w') (hn : next (a.put o.dst undef) w') : o.wp P a w next Q := by
  simp only [Oper.wp, h, Oper.upon]; exact hn

theorem alloc_eq (w : World) (v : Value) (T : TypeId) : (newVar T v).run P w = .ok ⟨w.heap.size, 0, none⟩ (w.alloc (.cells v.cells T)) := by
  simp [newVar, newRow]

theorem cellsOk_spec {N : List Nm} : ∀ {l : List CV} {vs : List Value}, cellsOk l = true → CV.vals N l = some vs → ∀ v ∈ vs, v.oneCell' = true
  | [], vs, _, h => by simp [CV.vals] at h; subst h; simp
  | c :: q, vs, hc, h => by
    simp only [cellsOk] at hc
    split at hc
    · rename_i h1
      simp only [CV.vals] at h
      split at h
      · rename_i v hv
        split at h
        · rename_i u hu
          simp at h; subst h
          intro x hx
          rcases List.mem_cons.1 hx with rfl | hx
          · cases c with
            | v z => simp [CV.val] at hv; subst hv; cases z <;> simp_all [cellOk, Value.oneCell']
            | k n => simp [CV.val] at hv; subst hv; rfl
            | b n => simp [CV.val] at hv; subst hv; rfl
            | own i off => simp only [CV.val] at hv; split at hv <;> simp at hv; subst hv; rfl
            | el i e sz off => simp only [CV.val] at hv; split at hv <;> simp at hv; subst hv; rfl
            | sl i => simp only [CV.val] at hv; split at hv <;> simp at hv; subst hv; rfl
          · exact cellsOk_spec hc hu x hx
        · cases h
      · cases h
    · cases hc

/-- What a store does. -/
theorem storeA_sound (hM : RelM B w0 N s.mem w) {t : TypeId} {x y : AV} {vx vy : Value} {i : Nat} {q : List CV} (h : storeA P s.mem t x y = some (i, q)) (hx : x.val N = some vx) (hy : y.val N = some vy) :
    ∃ bk T vs w' cs, nth s.mem i = some (.box cs) ∧ nth N i = some (.blk bk) ∧ CV.vals N q = some vs ∧ (Instr.storeAt t vx vy).run P w = .ok () w' ∧ w'.heap[bk]? = some (.cells vs.toArray T (0, 0)) ∧
      w'.heap.size = w.heap.size ∧ w'.os = w.os ∧ w'.tape = w.tape ∧ w'.output = w.output ∧ ∀ k, k ≠ bk → w'.heap[k]? = w.heap[k]? := by
  unfold storeA at h
  split at h
  · rename_i i' off
    split at h
    · rename_i cs hm
      split at h
      · rename_i xs hxs
        split at h
        · rename_i hok
          split at h
          · rename_i n hn
            split at h
            · rename_i hl
              have hl' : n = xs.length := Nat.eq_of_beq_eq_true hl
              split at h
              · rename_i q' hq
                simp at h; obtain ⟨rfl, rfl⟩ := h
                simp only [AV.val, CV.val] at hx
                split at hx
                · rename_i bk hb
                  simp at hx; subst hx
                  obtain ⟨b', T, vs, hnn, hB, hvs, hh⟩ := hM.row _ _ hm
                  rw [hb] at hnn; cases hnn
                  obtain ⟨us, h1, h2⟩ := cells_spec hxs hy
                  obtain ⟨rfl, hlen⟩ := overlay_eq _ _ _ _ hq
                  have l1 := cvs_length h1
                  have l2 := cvs_length hvs
                  have hrun := run_storeCells_at P bk off T us 0 vs.toArray w hh (by simp; omega) (cellsOk_spec hok h1)
                  have hst : (Instr.storeAt t (.pointer (some ⟨bk, off, none⟩)) vy).run P w = .ok () (w.setRow bk (vs.take off ++ us ++ vs.drop (off + us.length)).toArray) := by
                    have hc : vy.cells.size = n := by
                      have : vy.cells.toList.length = us.length := by rw [h2]
                      simp at this; omega
                    simp only [Instr.storeAt, Instr.sureAddr, storeVar, Sem.run_bind, Sem.run_pure, Result.andThen_ok, sizeT_run hn]
                    simp only [hc, ne_eq, not_true, if_false, h2]
                    simpa using hrun
                  have hq' := cvs_append (cvs_append (cvs_take off hvs) h1) (cvs_drop (off + xs.length) hvs)
                  refine ⟨bk, T, _, _, cs, hm, hb, hq', hst, ?_, ?_, rfl, rfl, rfl, ?_⟩
                  · rw [← l1]; exact setRow_heap w bk _ _ T _ hh
                  · simp [World.setRow]
                  · intro k hk
                    simp [World.setRow, Array.getElem?_modify, Ne.symm hk]
                · cases hx
              · cases h
            · cases h
          · cases h
        · cases h
      · cases h
    · cases h
  · cases h

theorem RelM.storeG {B : Nat} {w0 : World} {N : List Nm} {M : List Row} {w w' : World} (h : RelM B w0 N M w) {i : Nat} {r0 r1 : Row} {b : Nat} {cur : Array Value} {T : TypeId}
    (hi : nth M i = some r0) (hw0 : r0.writable = true) (hb0 : blkOf N i r0 = some b) (hB : B ≤ b) (hold : w.heap[b]? = some (.cells cur T (0, 0)))
    (h1 : RowOK B N w' i r1) (hw1 : r1.writable = true) (hb1 : blkOf N i r1 = some b)
    (hs : w'.heap.size = w.heap.size) (ho : w'.os = w.os) (ht : w'.tape = w.tape) (hu : w'.output = w.output)
    (hk : ∀ k, k ≠ b → w'.heap[k]? = w.heap[k]?) : RelM B w0 N (setNth M i r1) w' := by
  refine ⟨?_, by rw [hs]; exact h.base, by rw [length_setNth]; exact h.len, ?_, ?_⟩
  · refine h.below.trans ⟨⟨ho, ht, hu, by omega, fun k hk' => hk k (by omega)⟩, ⟨by omega, fun k o hk' hc => ?_⟩⟩
    by_cases e : k = b
    · subst e; rw [hold] at hk'; cases hk'; simp [Obj.isCells] at hc
    · rw [hk k e]; exact hk'
  · intro j r hr
    rcases nth_setNth_cases hr with ⟨rfl, rfl, _⟩ | ⟨hne, h2⟩
    · exact h1
    · refine (h.row j r h2).keep (NLe.refl N) (by omega) fun k hkk => hk k ?_
      rintro rfl
      exact h.sep i j _ r k hi h2 (fun e => hne e.symm) hw0 hb0 hkk
  · intro j k r p c hr hp hjk hwr hb hb'
    have back : ∀ {j : Nat} {r : Row}, nth (setNth M i r1) j = some r → ∃ r', nth M j = some r' ∧ r'.writable = r.writable ∧ blkOf N j r' = blkOf N j r := by
      intro j r hr
      rcases nth_setNth_cases hr with ⟨rfl, rfl, _⟩ | ⟨_, h1⟩
      · exact ⟨_, hi, by rw [hw0, hw1], by rw [hb0, hb1]⟩
      · exact ⟨r, h1, rfl, rfl⟩
    obtain ⟨r', a1, a2, a3⟩ := back hr
    obtain ⟨p', b1, b2, b3⟩ := back hp
    exact h.sep j k r' p' c a1 b1 hjk (a2.trans hwr) (a3.trans hb) (b3.trans hb')
theorem cells_split (L : Lst) {e : Nat} {x : L.k.T} (h : L.l[e]? = some x) (y : L.k.T) : ∃ C1 C2, C1.length = e * L.k.sz ∧ L.cells = C1 ++ (L.k.cc.enc x ++ C2) ∧ (⟨L.k, L.l.set e y⟩ : Lst).cells = C1 ++ (L.k.cc.enc y ++ C2) := by
  obtain ⟨hlt, hx⟩ := List.getElem?_eq_some_iff.1 h
  have e1 : L.l = L.l.take e ++ x :: L.l.drop (e + 1) := by
    rw [← hx, List.getElem_cons_drop, List.take_append_drop]
  have e2 : L.l.set e y = L.l.take e ++ y :: L.l.drop (e + 1) := List.set_eq_take_append_cons_drop ▸ by rw [if_pos hlt]
  refine ⟨(L.l.take e).flatMap L.k.cc.enc, (L.l.drop (e + 1)).flatMap L.k.cc.enc, ?_, ?_, ?_⟩
  · have := cells_length ⟨L.k, L.l.take e⟩
    unfold Lst.cells at this
    rw [this]
    simp only [List.length_take]
    rw [Nat.min_eq_left (by omega)]
  · unfold Lst.cells
    conv => lhs; rw [e1]
    rw [List.flatMap_append, List.flatMap_cons]
  · unfold Lst.cells
    simp only
    rw [e2, List.flatMap_append, List.flatMap_cons]
theorem storeEl_sound (hR : Rel B w0 N s a w) {t : TypeId} {x y : AV} {vx vy : Value} {k : St → Tr ρ} (h : (storeElK P s t x y k).den = some r) (hx : x.val N = some vx) (hy : y.val N = some vy) :
    ∃ s' w', Rel B w0 N s' a w' ∧ (k s').den = some r ∧ (Instr.storeAt t vx vy).run P w = .ok () w' := by
  unfold storeElK at h
  split at h
  · rename_i i e sz off
    split at h
    · rename_i L et hm
      split at h
      · rename_i hsz
        have hsz' : sz = L.k.sz := Nat.eq_of_beq_eq_true hsz
        subst hsz'
        split at h
        · rename_i xs hxs
          split at h
          · rename_i hok
            split at h
            · rename_i n hn
              split at h
              · rename_i hl
                have hl' : n = xs.length := Nat.eq_of_beq_eq_true hl
                unfold Tr.den at h
                split at h
                · rename_i x0 hx0
                  dsimp only at h
                  split at h
                  · rename_i q hq
                    split at h
                    · rename_i yv hdec
                      obtain ⟨ad, nn, cap, hnn, hown⟩ := hR.m.row _ _ hm
                      have hlt : e < L.l.length := (List.getElem?_eq_some_iff.1 hx0).1
                      obtain ⟨hlen1, hown2⟩ := hown
                      rcases hown2 with ⟨_, h0⟩ | ⟨g, cap', cur, hv, hB, hh, hcap, hmax, hcs, htake⟩
                      · omega
                      injection hv with hv1 hv2 hv3
                      subst hv1; subst hv2; subst hv3
                      simp only [AV.val, CV.val, hnn] at hx
                      simp at hx; subst hx
                      obtain ⟨us, h1, h2⟩ := cells_spec hxs hy
                      obtain ⟨rfl, hov⟩ := overlay_eq _ _ _ _ hq
                      have l1 := cvs_length h1
                      have hex : (L.k.cc.enc x0).length = L.k.sz := L.k.ok.1 x0
                      rw [List.length_map] at hov
                      obtain ⟨p, hp1, hp2⟩ := L.k.ok.2 _ _ _ hdec
                      rw [List.append_nil] at hp1
                      have hvals := hp2 N
                      rw [← hp1] at hvals
                      have hq' := cvs_append (cvs_append (cvs_take off (cvs_mapV (N := N) (L.k.cc.enc x0))) h1) (cvs_drop (off + xs.length) (cvs_mapV (N := N) (L.k.cc.enc x0)))
                      rw [hvals] at hq'
                      have henc : L.k.cc.enc yv = (L.k.cc.enc x0).take off ++ us ++ (L.k.cc.enc x0).drop (off + xs.length) := Option.some.inj hq'
                      obtain ⟨C1, C2, c1, c2, c3⟩ := cells_split L hx0 yv
                      have hcur : cur.toList = (C1 ++ (L.k.cc.enc x0 ++ C2)) ++ cur.toList.drop (L.l.length * L.k.sz) := by
                        rw [← c2, ← htake, List.take_append_drop]
                      have hCl : (C1 ++ (L.k.cc.enc x0 ++ C2)).length = L.l.length * L.k.sz := by rw [← c2]; exact hlen1
                      have hCl2 := hCl
                      simp only [List.length_append] at hCl2
                      have hcz : L.l.length * L.k.sz ≤ cur.size := by rw [hcs]; exact Nat.mul_le_mul_right _ hcap
                      have hrun := run_storeCells_at P g (e * L.k.sz + off) et us 0 cur w hh (by omega) (cellsOk_spec hok h1)
                      obtain ⟨cur', hc'⟩ : ∃ c, c = (cur.toList.take (e * L.k.sz + off) ++ us ++ cur.toList.drop (e * L.k.sz + off + us.length)).toArray := ⟨_, rfl⟩
                      have hst : (Instr.storeAt t (.pointer (some ⟨g, e * L.k.sz + off, none⟩)) vy).run P w = .ok () (w.setRow g cur') := by
                        have hc : vy.cells.size = n := by
                          have : vy.cells.toList.length = us.length := by rw [h2]
                          simp at this; omega
                        simp only [Instr.storeAt, Instr.sureAddr, storeVar, Sem.run_bind, Sem.run_pure, Result.andThen_ok, sizeT_run hn]
                        simp only [hc, ne_eq, not_true, if_false, h2]
                        rw [hc']
                        simpa using hrun
                      have hnew : cur'.toList = C1 ++ (L.k.cc.enc yv ++ C2) ++ cur.toList.drop (L.l.length * L.k.sz) := by
                        rw [hc', henc]
                        simp only
                        rw [hcur]
                        have t1 : ((C1 ++ (L.k.cc.enc x0 ++ C2)) ++ cur.toList.drop (L.l.length * L.k.sz)).take (e * L.k.sz + off) = C1 ++ (L.k.cc.enc x0).take off := by
                          rw [List.append_assoc, List.take_append, List.take_of_length_le (by omega), show e * L.k.sz + off - C1.length = off by omega, List.append_assoc, List.take_append_of_le_length (by omega)]
                        have t2 : ((C1 ++ (L.k.cc.enc x0 ++ C2)) ++ cur.toList.drop (L.l.length * L.k.sz)).drop (e * L.k.sz + off + us.length) = (L.k.cc.enc x0).drop (off + xs.length) ++ C2 ++ cur.toList.drop (L.l.length * L.k.sz) := by
                          rw [List.append_assoc, List.drop_append, List.drop_eq_nil_of_le (by omega), show e * L.k.sz + off + us.length - C1.length = off + xs.length by omega, List.nil_append, List.append_assoc, List.drop_append_of_le_length (by omega), List.append_assoc]
                        have e9 : List.drop (L.l.length * L.k.sz) (C1 ++ (L.k.cc.enc x0 ++ C2) ++ List.drop (L.l.length * L.k.sz) cur.toList) = cur.toList.drop (L.l.length * L.k.sz) := by rw [← hcur]
                        rw [t1, t2, e9]
                        simp only [List.append_assoc]
                      have hsz' : cur'.size = cur.size := by
                        rw [hc']; simp only [List.size_toArray, List.length_append, List.length_take, List.length_drop, Array.length_toList]; omega
                      refine ⟨{ s with mem := setNth s.mem i (.grow ⟨L.k, L.l.set e yv⟩ et) }, w.setRow g cur', ⟨RelM.storeG (w' := w.setRow g cur') hR.m (r1 := .grow ⟨L.k, L.l.set e yv⟩ et) hm rfl (b := g) ?_ hB hh ?_ rfl ?_ ?_ rfl rfl rfl ?_, hR.t.mono (NLe.refl N) rfl rfl⟩, h, hst⟩
                      · simp only [blkOf, hnn, Value.ownBlock]
                      · refine ⟨some ⟨g, 0, none⟩, L.l.length, cap, hnn, ?_, .inr ⟨g, cap, cur', ?_, hB, setRow_heap w g _ _ et _ hh, ?_, hmax, ?_, ?_⟩⟩
                        · rw [cells_length]
                        · simp
                        · simpa using hcap
                        · rw [hsz', hcs]
                        · simp only [List.length_set]
                          rw [hnew, c3, List.take_append_of_le_length (by rw [← c3, cells_length]; simp)]
                          rw [← c3]
                          exact List.take_of_length_le (by rw [cells_length]; simp)
                      · simp only [blkOf, hnn, Value.ownBlock]
                      · simp [World.setRow]
                      · intro j hj
                        simp [World.setRow, Array.getElem?_modify, Ne.symm hj]
                    · cases h
                  · cases h
                · cases h
              · cases h
            · cases h
          · cases h
        · cases h
      · cases h
    · cases h
  · cases h
theorem storeK_sound (hR : Rel B w0 N s a w) {t : TypeId} {x y : AV} {vx vy : Value} {k : St → Tr ρ} (h : (storeK P s t x y k).den = some r) (hx : x.val N = some vx) (hy : y.val N = some vy) :
    ∃ s' w', Rel B w0 N s' a w' ∧ (k s').den = some r ∧ (Instr.storeAt t vx vy).run P w = .ok () w' := by
  unfold storeK at h
  split at h
  · rename_i i q hq
    obtain ⟨bk, T, vs, w', cs, e0, e1, e2, e3, e4, e5, e6, e7, e8, e9⟩ := storeA_sound hR.m hq hx hy
    exact ⟨{ s with mem := setNth s.mem i (.box q) }, w', ⟨hR.m.store e0 e1 e2 e4 e5 e6 e7 e8 e9, hR.t.mono (NLe.refl N) rfl rfl⟩, h, e3⟩
  · exact storeEl_sound hR h hx hy

theorem wp_of_quietAt {o : Oper} {C : World → Prop} {v : Value} {next : Act → World → Prop} {Q : Exit → Act → World → Prop} (h : o.quietAt P a C w v) (hw : C w) (hn : ∀ w', C w' → next (a.put o.dst v) w') : o.wp P a w next Q := by
  unfold Oper.quietAt at h
  unfold Oper.wp
  generalize (execOp a.eval o).run P w = res at *
  cases res with
  | ok n w' =>
    cases n <;> simp only [Oper.quietUpon] at h <;> simp only [Oper.upon]
    case value u => obtain ⟨e1, e2⟩ := h; rw [e1, e2]; exact hn _ hw
    case skip => obtain ⟨e1, e2⟩ := h; rw [e1, ← e2]; exact hn _ hw
    case enter f args => obtain ⟨e1, hc⟩ := h; rw [e1]; exact hc.mono fun e w'' ⟨he, hw''⟩ => by subst he; exact hn _ hw''
  | halt x w' => simp only [Oper.quietUpon] at h

theorem op_sound (hR : Rel B w0 N s a w) (hE : EnvOK P E) {o : Oper} {k : St → Tr ρ} (h : (evOp P E s o.dst o.op o.type k).den = some r) {next : Act → World → Prop} {Q : Exit → Act → World → Prop}
    (hn : ∀ N' s' a' w', NLe N N' → Rel B w0 N' s' a' w' → (k s').den = some r → next a' w') : o.wp P a w next Q := by
  unfold evOp at h
  split at h
  · rename_i t ho
    split at h
    · rename_i z hz
      obtain ⟨v, h1, h2⟩ := zeroT_run hz w
      have hM := hR.m.alloc (cvs_mapV (N := N) z) t
      have hT := hR.t.mono (s' := { s with mem := s.mem ++ [.box (z.map CV.v)] }) (NLe.append N [.blk w.heap.size]) rfl rfl
      have hval : (AV.c (.own s.mem.length 0)).val (N ++ [Nm.blk w.heap.size]) = some (.pointer (some ⟨w.heap.size, 0, none⟩)) := by
        have := nth_last N (Nm.blk w.heap.size)
        rw [hR.m.len] at this
        simp [AV.val, CV.val, this]
      obtain ⟨s', e1, e2, e3, e4⟩ := outQ_sound hT h hval
      refine op_wp_value (w' := w.alloc (.cells z.toArray t)) ?_ (hn _ s' _ _ (NLe.append _ _) ⟨by rw [e1]; exact hM, e3⟩ e4)
      have hc : v.cells = z.toArray := by rw [← h2]
      simp [execOp, ho, Instr.alloc, h1, alloc_eq, hc]
    · cases h
  · rename_i t x ho
    split at h
    · rename_i y hy
      split at h
      · rename_i cs hcs
        obtain ⟨vs, h1, h2⟩ := cells_spec hcs (opnd_val hR.t hy)
        have hM := hR.m.alloc h1 t
        have hT := hR.t.mono (s' := { s with mem := s.mem ++ [.box cs] }) (NLe.append N [.blk w.heap.size]) rfl rfl
        have hval : (AV.c (.own s.mem.length 0)).val (N ++ [Nm.blk w.heap.size]) = some (.pointer (some ⟨w.heap.size, 0, none⟩)) := by
          have := nth_last N (Nm.blk w.heap.size)
          rw [hR.m.len] at this
          simp [AV.val, CV.val, this]
        obtain ⟨s', e1, e2, e3, e4⟩ := outQ_sound hT h hval
        refine op_wp_value (w' := w.alloc (.cells vs.toArray t)) ?_ (hn _ s' _ _ (NLe.append _ _) ⟨by rw [e1]; exact hM, e3⟩ e4)
        have hc : (a.eval x).cells = vs.toArray := by rw [← h2]
        simp [execOp, ho, Instr.box, alloc_eq, hc]
      · cases h
    · cases h
  · rename_i t x y ho
    split at h
    · rename_i xa hxa
      split at h
      · rename_i ya hya
        obtain ⟨s1, w1, hR1, h1, h2⟩ := storeK_sound hR h (opnd_val hR.t hxa) (opnd_val hR.t hya)
        obtain ⟨s', e1, e2, e3, e4⟩ := outQ_sound hR1.t h1 (v := undef) rfl
        refine op_wp_skip (w' := w1) ?_ (hn _ s' _ _ (NLe.refl N) ⟨by rw [e1]; exact hR1.m, e3⟩ e4)
        simp [execOp, ho, h2]
      · cases h
    · cases h
  · rename_i f args at_ ho
    split at h
    · rename_i g caps hg
      split at h
      · rename_i l hl
        split at h
        · rename_i α x vf hq
          unfold Tr.den at h
          dsimp only at h
          obtain ⟨vs, h1, h2⟩ := call_run hR.t hE hg hl hq o at_ ho
          simp only [Oper.wp, h2 w, Oper.upon]
          refine (hE.pure _ _ _ _ _ _ hq B w0 N w vs hR.m h1).mono ?_
          rintro e w' ⟨rfl, hbel⟩
          have hM' := hR.m.keep hbel
          obtain ⟨s', e1, e2, e3, e4⟩ := outQ_sound hR.t h (ofVal_val N _)
          exact hn _ s' _ _ (NLe.refl N) ⟨by rw [e1]; exact hM', e3⟩ e4
        · rename_i b α x vf hq
          cases b
          · unfold Tr.den at h; unfold Tr.den at h; cases h
          unfold Tr.den at h
          dsimp only at h
          unfold Tr.den at h
          dsimp only at h
          obtain ⟨vs, h1, h2⟩ := call_run hR.t hE hg hl hq o at_ ho
          simp only [Oper.wp, h2 w, Oper.upon]
          refine (hE.pre _ _ _ _ _ _ hq B w0 N w vs hR.m h1).mono ?_
          rintro e w' ⟨rfl, hbel⟩
          have hM' := hR.m.keep hbel
          obtain ⟨s', e1, e2, e3, e4⟩ := outQ_sound hR.t h (ofVal_val N _)
          exact hn _ s' _ _ (NLe.refl N) ⟨by rw [e1]; exact hM', e3⟩ e4
        · rename_i b α x av rows hq
          cases b
          · unfold Tr.den at h; unfold Tr.den at h; cases h
          unfold Tr.den at h
          dsimp only at h
          unfold Tr.den at h
          dsimp only at h
          obtain ⟨vs, h1, h2⟩ := call_run hR.t hE hg hl hq o at_ ho
          simp only [Oper.wp, h2 w, Oper.upon]
          obtain ⟨hg2, hcall⟩ := hE.rows _ _ _ _ _ _ _ hq
          refine (hcall B w0 N w vs hR.m h1).mono ?_
          rintro e w' ⟨N2, v, hv, rfl, hM2⟩
          have hM' := hR.m.join hM2 hg2
          have hT := hR.t.mono (s' := { s with mem := s.mem ++ rows x }) (NLe.append N N2) rfl rfl
          have hv := hv N
          rw [hR.m.len] at hv
          obtain ⟨s', e1, e2, e3, e4⟩ := outQ_sound hT h hv
          exact hn _ s' _ _ (NLe.append _ _) ⟨by rw [e1]; exact hM', e3⟩ e4
        · rename_i T hq
          obtain ⟨vs, h1, h2⟩ := call_run hR.t hE hg hl hq o at_ ho
          simp only [Oper.wp, h2 w, Oper.upon]
          obtain ⟨y, hy, h⟩ := andK_den h
          refine (hE.tree _ _ _ _ hq y hy B w0 N w vs hR.m h1).mono ?_
          rintro e w' ⟨N', v, hle, hv, rfl, hM'⟩
          have hT := hR.t.mono (s' := { s with mem := y.2 }) hle rfl rfl
          obtain ⟨s', e1, e2, e3, e4⟩ := outQ_sound hT h hv
          exact hn _ s' _ _ hle ⟨by rw [e1]; exact hM', e3⟩ e4
        · split at h
          · rename_i q hq
            unfold Tr.den at h
            split at h
            · obtain ⟨s', e1, e2, e3, e4⟩ := outQ_sound hR.t h rfl
              refine op_wp_value (w' := w) ?_ (hn _ s' _ _ (NLe.refl N) ⟨by rw [e1]; exact hR.m, e3⟩ e4)
              exact ext_run hR.t hg hl hq rfl o at_ ho w
            · cases h
          · cases h
      · cases h
    · cases h
  · rename_i t len parts ho
    split at h
    · rename_i L e hb
      obtain ⟨cells, h1, hM⟩ := buildSlice_sound hR.m hR.t hb
      have hT := hR.t.mono (s' := { s with mem := s.mem ++ [.grow L e] }) (NLe.append N [.sv (some ⟨w.heap.size, 0, none⟩) len len]) rfl rfl
      have hval : (AV.c (.sl s.mem.length)).val (N ++ [Nm.sv (some ⟨w.heap.size, 0, none⟩) len len]) = some (.slice (some ⟨w.heap.size, 0, none⟩) len len) := by
        have := nth_last N (Nm.sv (some ⟨w.heap.size, 0, none⟩) len len)
        rw [hR.m.len] at this
        simp [AV.val, CV.val, this]
      obtain ⟨s', e1, e2, e3, e4⟩ := outQ_sound hT h hval
      refine op_wp_value (w' := w.alloc (.cells cells e)) ?_ (hn _ s' _ _ (NLe.append _ _) ⟨by rw [e1]; exact hM, e3⟩ e4)
      simp only [execOp, ho, Sem.run_bind, h1, Result.andThen_ok, Sem.run_pure]
    · cases h
  · rename_i args at_ ho
    split at h
    · rename_i l hl
      split at h
      · rename_i o2 L e hb
        unfold Tr.den at h
        split at h
        · rename_i hlen
          obtain ⟨ad, n, cap, w', h1, hM⟩ := append_sound hR.m (ty := o.type) hb (opnds_val hR.t hl) hlen
          have hT := hR.t.mono (s' := { s with mem := rowsOff s.mem o2 ++ [.grow L e] }) (NLe.append N [.sv ad n cap]) rfl rfl
          have hval : (AV.c (.sl s.mem.length)).val (N ++ [Nm.sv ad n cap]) = some (.slice ad n cap) := by
            have := nth_last N (Nm.sv ad n cap)
            rw [hR.m.len] at this
            simp [AV.val, CV.val, this]
          obtain ⟨s', e1, e2, e3, e4⟩ := outQ_sound hT h hval
          refine op_wp_value (w' := w') ?_ (hn _ s' _ _ (NLe.append _ _) ⟨by rw [e1]; exact hM, e3⟩ e4)
          have he : args.map a.eval = (args.toList.map a.eval).toArray := by apply Array.ext'; simp
          simp only [execOp, ho, resolve, invoke, builtin, Sem.run_bind, Sem.run_pure, Result.andThen_ok, he, h1]
        · cases h
      · cases h
    · cases h
  · rename_i t x low high ho
    split at h
    · rename_i y hy
      split at h
      · rename_i u n hu
        unfold Tr.den at h
        split at h
        · rename_i hd
          have hrun := strCut_sound hR.t hu (opnd_val hR.t hy) (of_decide_eq_true hd) w
          obtain ⟨s', e1, e2, e3, e4⟩ := outQ_sound (v := .string (u.extract n.toNat u.size)) hR.t h rfl
          refine op_wp_value (w' := w) ?_ (hn _ s' _ _ (NLe.refl N) ⟨by rw [e1]; exact hR.m, e3⟩ e4)
          simp only [execOp, ho, Sem.run_bind, Option.map_none, hrun, Result.andThen_ok, Sem.run_pure]
        · cases h
      · obtain ⟨N', s1, z, v, f1, f2, f3, f4, f5, f6, f7⟩ := slice_sound hR.m hR.t hy h
        have hT := hR.t.mono (s' := s1) f1 f4 f3
        obtain ⟨s', e1, e2, e3, e4⟩ := outQ_sound hT f6 f5
        refine op_wp_value (w' := w) ?_ (hn _ s' _ _ f1 ⟨by rw [e1]; exact f2, e3⟩ e4)
        simp only [execOp, ho, Sem.run_bind, Option.map_none, f7, Result.andThen_ok, Sem.run_pure]
    · cases h
  · obtain ⟨y, v, h1, h2, h3⟩ := quiet_sound hE hR.m hR.t h
    refine wp_of_quietAt h3 hR.m fun w' hw' => ?_
    obtain ⟨s', e1, e2, e3, e4⟩ := outQ_sound hR.t h1 h2
    exact hn _ s' _ _ (NLe.refl N) ⟨by rw [e1]; exact hw', e3⟩ e4

def boolOf : Value → Option Bool
  | .bool b => some b
  | _ => none

/-- A guard's look, with what it decides: at a frame that fits at the guard's place. -/
theorem guard_local {ops : Array Oper} {o : Oper} {run skip : St → Tr ρ} (h : (guardK ops.toList s o.guard run skip).den = some r) :
    ∃ (g : Bool) (s' : St), s'.mem = s.mem ∧ s'.n = s.n ∧ ((if g then run s' else skip s').den = some r) ∧
      (s' = s ∨ ∃ d x, s' = s.put d (.c (.b x)) ∧ look s.tmps d = some (.c (.v (.bool x)))) ∧
      ∀ (a : Act), (∀ j want, o.guard = some (j, want) → ∀ oj, ops[j]? = some oj → ∀ d, oj.dst = some d → ∀ x, look s.tmps d = some x → ∀ v, (∀ N, x.val N = some v) → a.tmps[d]? = some v) →
        Region.wanted o (yielded ops a.tmps) = g := by
  unfold guardK at h
  split at h
  · rename_i hg
    exact ⟨true, s, rfl, rfl, h, .inl rfl, fun a _ => by simp [Region.wanted, hg]⟩
  · rename_i j want hg
    split at h
    · rename_i oj hj
      rw [nth_eq] at hj
      have hj' : ops[j]? = some oj := by simpa using hj
      split at h
      · rename_i d hd
        have hwant : ∀ (a : Act) v, a.tmps[d]? = some v → Region.wanted o (yielded ops a.tmps) = (boolOf v == some want) := by
          intro a v hv
          have hy : yielded ops a.tmps j = boolOf v := by
            simp only [yielded, hj', Option.bind_some, hd, hv]
            cases v <;> rfl
          simp only [Region.wanted, hg, hy]
        split at h
        · rename_i x hx
          have key : ∀ (a : Act), (∀ j want, o.guard = some (j, want) → ∀ oj, ops[j]? = some oj → ∀ d, oj.dst = some d → ∀ x, look s.tmps d = some x → ∀ v, (∀ N, x.val N = some v) → a.tmps[d]? = some v) → a.tmps[d]? = some (.bool x) :=
            fun a ha => ha _ _ hg _ hj' _ hd _ hx _ (fun N => rfl)
          split at h
          · exact ⟨true, s, rfl, rfl, h, .inl rfl, fun a ha => by rw [hwant a _ (key a ha)]; rfl⟩
          · exact ⟨true, s, rfl, rfl, h, .inl rfl, fun a ha => by rw [hwant a _ (key a ha)]; rfl⟩
          · rename_i n1 n2
            refine ⟨false, s, rfl, rfl, h, .inl rfl, fun a ha => ?_⟩
            rw [hwant a _ (key a ha)]
            cases x <;> cases want <;> simp_all [boolOf]
        · rename_i x hx
          have key : ∀ (a : Act), (∀ j want, o.guard = some (j, want) → ∀ oj, ops[j]? = some oj → ∀ d, oj.dst = some d → ∀ x, look s.tmps d = some x → ∀ v, (∀ N, x.val N = some v) → a.tmps[d]? = some v) → a.tmps[d]? = some (.bool x) :=
            fun a ha => ha _ _ hg _ hj' _ hd _ hx _ (fun N => rfl)
          split at h
          · unfold Tr.den at h
            cases x
            · exact ⟨false, s.put d (.c (.b false)), rfl, rfl, h, .inr ⟨d, false, rfl, hx⟩, fun a ha => by rw [hwant a _ (key a ha)]; rfl⟩
            · exact ⟨true, s.put d (.c (.b true)), rfl, rfl, h, .inr ⟨d, true, rfl, hx⟩, fun a ha => by rw [hwant a _ (key a ha)]; rfl⟩
          · unfold Tr.den at h
            cases x
            · exact ⟨true, s.put d (.c (.b false)), rfl, rfl, h, .inr ⟨d, false, rfl, hx⟩, fun a ha => by rw [hwant a _ (key a ha)]; rfl⟩
            · exact ⟨false, s.put d (.c (.b true)), rfl, rfl, h, .inr ⟨d, true, rfl, hx⟩, fun a ha => by rw [hwant a _ (key a ha)]; rfl⟩
        · rename_i x hx
          refine ⟨false, s, rfl, rfl, h, .inl rfl, fun a ha => ?_⟩
          rw [hwant a (.tuple x) (ha _ _ hg _ hj' _ hd _ hx _ (fun N => rfl))]; rfl
        · cases h
      · cases h
    · cases h

theorem guard_sound (hT : RelT N s a) {ops : Array Oper} {o : Oper} {run skip : St → Tr ρ} (h : (guardK ops.toList s o.guard run skip).den = some r) :
    (Region.wanted o (yielded ops a.tmps) = true ∧ ∃ s', s'.mem = s.mem ∧ s'.n = s.n ∧ RelT N s' a ∧ (run s').den = some r) ∨
    (Region.wanted o (yielded ops a.tmps) = false ∧ ∃ s', s'.mem = s.mem ∧ s'.n = s.n ∧ RelT N s' a ∧ (skip s').den = some r) := by
  obtain ⟨g, s', e1, e2, e3, e4, e5⟩ := guard_local h
  have hw := e5 a fun j want hg oj hj d hd x hx v hv => by
    obtain ⟨u, h1, h2⟩ := hT.look d x hx
    rw [hv N] at h1; cases h1; exact h2
  have hT' : RelT N s' a := by
    rcases e4 with rfl | ⟨d, x, rfl, hx⟩
    · exact hT
    · obtain ⟨u, h1, h2⟩ := hT.look d _ hx
      simp [AV.val, CV.val] at h1; subst h1
      exact hT.same rfl h2
  cases g
  · exact .inr ⟨hw, s', e1, e2, hT', e3⟩
  · exact .inl ⟨hw, s', e1, e2, hT', e3⟩

theorem skip_sound (hT : RelT N s a) {dst : Option Nat} {k : St → Tr ρ} (h : (skipK s dst k).den = some r) :
    ∃ s', s'.mem = s.mem ∧ s'.n = s.n ∧ RelT N s' (a.put dst undef) ∧ (k s').den = some r :=
  outQ_sound (x := .c (.v undef)) (v := undef) hT h rfl

theorem ops_sound (hE : EnvOK P E) {ops : Array Oper} {Q : Exit → Act → World → Prop} {k : St → Tr ρ} : ∀ (l : List Oper) {N : List Nm} {s : St} {a : Act} {w : World}, Rel B w0 N s a w → (evOps P E ops.toList l s k).den = some r →
    (∀ N' s' a' w', NLe N N' → Rel B w0 N' s' a' w' → (k s').den = some r → Q .normal a' w') → wpList P ops Q l a w
  | [], N, s, a, w, hR, h, hk => hk N s a w (NLe.refl N) hR h
  | o :: l, N, s, a, w, hR, h, hk => by
    simp only [evOps] at h
    simp only [wpList]
    rcases guard_sound hR.t h with ⟨hw, s1, e1, e2, e3, e4⟩ | ⟨hw, s1, e1, e2, e3, e4⟩
    · rw [if_pos hw]
      refine .inl (op_sound (s := s1) ⟨by rw [e1]; exact hR.m, e3⟩ hE e4 ?_)
      intro N' s' a' w' hle hR' h'
      exact ops_sound hE l hR' h' fun N2 s2 a2 w2 hle2 => hk N2 s2 a2 w2 (hle.trans hle2)
    · rw [if_neg (by simp [hw])]
      obtain ⟨s2, f1, f2, f3, f4⟩ := skip_sound e3 e4
      exact ops_sound hE l ⟨by rw [f1, e1]; exact hR.m, f3⟩ f4 hk

theorem cond_sound (hT : RelT N s a) {c : Operand} {t e : St → Tr ρ} (h : (condK s c t e).den = some r) :
    (a.eval c = .bool true ∧ ∃ s', s'.mem = s.mem ∧ RelT N s' a ∧ (t s').den = some r) ∨ (a.eval c = .bool false ∧ ∃ s', s'.mem = s.mem ∧ RelT N s' a ∧ (e s').den = some r) := by
  unfold condK at h
  split at h
  · rename_i d
    have key : ∀ x v, look s.tmps d = some x → x.val N = some v → a.tmps[d]? = some v ∧ a.eval (.tmp d) = v := by
      intro x v hx hv
      obtain ⟨u, h1, h2⟩ := hT.look d x hx
      rw [hv] at h1; cases h1
      exact ⟨h2, by simp [Act.eval, h2]⟩
    split at h
    · rename_i hx; exact .inl ⟨(key _ _ hx rfl).2, s, rfl, hT, h⟩
    · rename_i hx; exact .inr ⟨(key _ _ hx rfl).2, s, rfl, hT, h⟩
    · rename_i x hx
      obtain ⟨h1, h2⟩ := key _ _ hx rfl
      unfold Tr.den at h
      cases x
      · exact .inr ⟨h2, s.put d (.c (.b false)), rfl, hT.same rfl h1, h⟩
      · exact .inl ⟨h2, s.put d (.c (.b true)), rfl, hT.same rfl h1, h⟩
    · cases h
  · exact .inl ⟨rfl, s, rfl, hT, h⟩
  · exact .inr ⟨rfl, s, rfl, hT, h⟩
  · cases h
end

/-! ### Scopes -/

/-- Runs in a scope, with at most so many jumps. -/
def jumps (P : Program) (c : Code) (Q : Exit → Act → World → Prop) : Nat → Code → Act → World → Prop
  | 0, _, _, _ => False
  | n + 1, rest, a, w => rest.wp P (fun e a w => match e with
    | .goto l => match findLabel c l with
      | some q => jumps P c Q n q a w
      | none => Q (.goto l) a w
    | e => Q e a w) a w

theorem wp_scope_n {P : Program} {c : Code} {Q : Exit → Act → World → Prop} {a : Act} {w : World} (n : Nat) (h : jumps P c Q n c a w) : (Code.scope c).wp P Q a w := by
  intro b k cs
  have key : ∀ n rest a w, jumps P c Q n rest a w → ∃ e a' w', Q e a' w' ∧ Arrives P (lone (b.at a (.code rest :: .inScope c :: k)) cs w) b k cs e a' w' := by
    intro n
    induction n with
    | zero => intro rest a w h; exact h.elim
    | succ n ih =>
      intro rest a w h
      obtain ⟨e, a₁, w₁, hq, harr⟩ := h b (.inScope c :: k) cs
      cases e with
      | normal => exact ⟨.normal, a₁, w₁, hq, Steps.trans harr (.one step_inScope)⟩
      | exit id => exact ⟨.exit id, a₁, w₁, hq, fun k' hk => harr k' (by simp [exitTo, hk])⟩
      | goto l =>
        dsimp only at hq
        cases hf : findLabel c l with
        | none => rw [hf] at hq; exact ⟨.goto l, a₁, w₁, hq, fun k' hk => harr k' (by simp [gotoIn, hf, hk])⟩
        | some q =>
        rw [hf] at hq
        have hj := hq
        obtain ⟨e₂, a₂, w₂, hq₂, harr₂⟩ := ih q a₁ w₁ hj
        exact ⟨e₂, a₂, w₂, hq₂, .of_steps (harr _ (by simp [gotoIn, hf])) harr₂⟩
      | ret => exact ⟨_, a₁, w₁, hq, harr⟩
      | panic ch => exact ⟨_, a₁, w₁, hq, harr⟩
      | outgrown => exact ⟨_, a₁, w₁, hq, harr⟩
  obtain ⟨e, a', w', hq, harr⟩ := key n c a w h
  exact ⟨e, a', w', hq, .of_steps (.one step_scope) harr⟩

end Go.Proofs.YtlbmjajjldfigaaGreat.Ev
