/-
  Contracts of calls, written by a small program of this session out of the evaluator's trees.
-/
import Derived.Test.YthdpjmkknodmpaaGreatCore
import Derived.Test.YthdpjmkknodmpaaGreatCoreLoops
import Derived.Test.YthdpjmkknodmpaaGreatCore2
import Derived.Test.YthdpjmkknodmpaaGreatCore3
import Derived.Test.YthdpjmkknodmpaaGreatCore4
import Derived.Test.YthdpjmkknodmpaaGreatEvCod
import Derived.Test.YthdpjmkknodmpaaGreatEvRet
import Derived.Test.YthdpjmkknodmpaaGreatProg
import Derived.Test.YthdpjmkknodmpaaGreatK0
namespace Go.Proofs.YthdpjmkknodmpaaGreat
open Go Go.RowKit Ev
set_option maxRecDepth 100000
set_option linter.unusedVariables false
set_option linter.unusedSimpArgs false

/-! snell.Bend -/
theorem t_snell_Bend (x0 : V) (x1 : V) (x2 : Iv) :
    evFn Tryz.prog (Env.add 15 (F1 cInt cIv Iv.point) (Env.add 60 (F2 cIv cIv cIv Iv.sub) (Env.add 80 (F2 cV cV cV V.add) (Env.add 81 (F2 cV cIv cV V.scale) (Env.add 98 (F1 cIv cIv Iv.sqr) (Env.add 102 (F2 cIv cIv cIv Iv.mul) (Env.add 114 (F1 cV cBool V.right) (Env.add 117 (F2 cV cV cIv V.dot) (Env.add 118 (F0 cV V.none) (Env.add 119 (F1 cIv cIv Iv.root) Env.nil)))))))))) Laws.nil 200 Tryz.f99 [cV.av x0, cV.av x1, cIv.av x2] [] (cTwo cV cInt).dec =
      .bind (Go.Proofs.YthdpjmkknodmpaaGreat.Iv.point 65536) fun viv0 =>
      .bind (x0.dot x1) fun viv1 =>
      .br (viv1.no)
       (
        .bind (Go.Proofs.YthdpjmkknodmpaaGreat.V.none) fun vv2 =>
        .ret ((vv2, 0)))
       (
        .br (Decidable.decide (viv1.lo ≤ 0))
         (
          .bind (Go.Proofs.YthdpjmkknodmpaaGreat.V.none) fun vv3 =>
          .ret ((vv3, 0)))
         (
          .bind (x2.sqr) fun viv4 =>
          .bind (viv1.sqr) fun viv5 =>
          .bind (viv0.sub viv5) fun viv6 =>
          .bind (viv4.mul viv6) fun viv7 =>
          .bind (viv0.sub viv7) fun viv8 =>
          .br (viv8.no)
           (
            .bind (Go.Proofs.YthdpjmkknodmpaaGreat.V.none) fun vv9 =>
            .ret ((vv9, 0)))
           (
            .br (Decidable.decide (viv8.hi < 0))
             (
              .bind (Go.Proofs.YthdpjmkknodmpaaGreat.V.none) fun vv10 =>
              .ret ((vv10, 2)))
             (
              .br (Decidable.decide (viv8.lo < 0))
               (
                .bind (Go.Proofs.YthdpjmkknodmpaaGreat.V.none) fun vv11 =>
                .ret ((vv11, 0)))
               (
                .bind (x0.scale x2) fun vv12 =>
                .bind (viv8.root) fun viv13 =>
                .bind (x2.mul viv1) fun viv14 =>
                .bind (viv13.sub viv14) fun viv15 =>
                .bind (x1.scale viv15) fun vv16 =>
                .bind (vv12.add vv16) fun vv17 =>
                .bind (vv17.right) fun vb18 =>
                .br (!vb18)
                 (
                  .bind (Go.Proofs.YthdpjmkknodmpaaGreat.V.none) fun vv19 =>
                  .ret ((vv19, 0)))
                 (
                  .ret ((vv17, 1)))))))) := by kernel_rfl
theorem c_snell_Bend (x0 : V) (x1 : V) (x2 : Iv) : Plain Tryz.prog 99 [cV.enc x0, cV.enc x1, cIv.enc x2] ((cTwo cV cInt).enc (bend x0 x1 x2)) :=
  plain_of_tree (n := 200) (EnvOK.add s_iv_Point (EnvOK.add s_iv_Sub (EnvOK.add s_vec_Add (EnvOK.add s_vec_Scale (EnvOK.add s_iv_Sqr (EnvOK.add s_iv_Mul (EnvOK.add s_vec_Right (EnvOK.add s_vec_Dot (EnvOK.add s_snell_nones (EnvOK.add s_iv_Root EnvOK.nil)))))))))) Tryz.func99 (args := [cV.av x0, cV.av x1, cIv.av x2]) (by simp only [AV.vals, Cod.av_val]) (Nat.le_of_ble_eq_true (by kernel_rfl)) LFn.nil (cTwo cV cInt) (by
    rw [t_snell_Bend]
    simp only [den_br, den_bind, den_ret, den_fail, den_inl, den_inr, decide_eq_true_eq]
    grind [bend])
theorem s_snell_Bend : Ev.Spec Tryz.prog 99 (F3 cV cV cIv (cTwo cV cInt) bend) := spec3 (fun vs w => Tryz.call99 vs w) c_snell_Bend

/-! sag.round -/
theorem t_sag_round (x0 : Surf) (x1 : Iv) :
    evFn Tryz.prog (Env.add 15 (F1 cInt cIv Iv.point) (Env.add 27 (F2 cIv cIv cIv Iv.add) (Env.add 59 (F2 cIv cIv cIv Iv.div) (Env.add 60 (F2 cIv cIv cIv Iv.sub) (Env.add 98 (F1 cIv cIv Iv.sqr) (Env.add 102 (F2 cIv cIv cIv Iv.mul) (Env.add 119 (F1 cIv cIv Iv.root) (Env.add 122 (F2 cIv cInt cIv Iv.times) Env.nil)))))))) Laws.nil 200 Tryz.f137 [cSurf.av x0, cIv.av x1] [] (cTwo cIv cIv).dec =
      .bind (Go.Proofs.YthdpjmkknodmpaaGreat.Iv.point 65536) fun viv0 =>
      .bind (x0.curve.sqr) fun viv1 =>
      .bind (x0.conic.mul viv1) fun viv2 =>
      .bind (viv2.mul x1) fun viv3 =>
      .bind (viv0.sub viv3) fun viv4 =>
      .bind (viv4.root) fun viv5 =>
      .bind (x0.curve.mul x1) fun viv6 =>
      .bind (viv0.add viv5) fun viv7 =>
      .bind (viv6.div viv7) fun viv8 =>
      .bind (viv5.times 2) fun viv9 =>
      .bind (x0.curve.div viv9) fun viv10 =>
      .ret ((viv8, viv10)) := by kernel_rfl
theorem c_sag_round (x0 : Surf) (x1 : Iv) : Plain Tryz.prog 137 [cSurf.enc x0, cIv.enc x1] ((cTwo cIv cIv).enc (sagRound x0 x1)) :=
  plain_of_tree (n := 200) (EnvOK.add s_iv_Point (EnvOK.add s_iv_Add (EnvOK.add s_iv_Div (EnvOK.add s_iv_Sub (EnvOK.add s_iv_Sqr (EnvOK.add s_iv_Mul (EnvOK.add s_iv_Root (EnvOK.add s_iv_Times EnvOK.nil)))))))) Tryz.func137 (args := [cSurf.av x0, cIv.av x1]) (by simp only [AV.vals, Cod.av_val]) (Nat.le_of_ble_eq_true (by kernel_rfl)) LFn.nil (cTwo cIv cIv) (by
    rw [t_sag_round]
    rfl)
theorem s_sag_round : Ev.Spec Tryz.prog 137 (F2 cSurf cIv (cTwo cIv cIv) sagRound) := spec2 (fun vs w => Tryz.call137 vs w) c_sag_round

/-! meniscushand.Pick -/
theorem t_meniscushand_Pick (x0 : Int) (x1 : Int) :
    evFn Tryz.prog Env.nil Laws.nil 200 Tryz.f8 [cInt.av x0, cInt.av x1] [] cInt.dec =
      .br (x1 != 0)
       (
        .br (Decidable.decide (x0.tmod x1 < 0))
         (
          .ret (Go.IntKind.i64.wrap (x0.tmod x1 + x1)))
         (
          .ret (x0.tmod x1)))
       (
        .fail) := by kernel_rfl
theorem c_meniscushand_Pick (x0 : Int) (x1 : Int) (h : pickOk x0 x1 = true) : Plain Tryz.prog 8 [cInt.enc x0, cInt.enc x1] (cInt.enc (pick x0 x1)) :=
  plain_of_tree (n := 200) EnvOK.nil Tryz.func8 (args := [cInt.av x0, cInt.av x1]) (by simp only [AV.vals, Cod.av_val]) (Nat.le_of_ble_eq_true (by kernel_rfl)) LFn.nil cInt (by
    rw [t_meniscushand_Pick]
    simp [pickOk] at h
    have p := tmod_pick x0 h.1
    have hne : (x1 != 0) = true := by simp; omega
    simp only [Tr.den, hne]
    by_cases hlt : x0.tmod x1 < 0
    · simp only [hlt, decide_true]
      rw [IntWalk.i64_in _ (by omega), p.1 hlt]
    · simp only [hlt, decide_false]
      rw [p.2.1 (by omega)])
theorem s_meniscushand_Pick : Ev.Spec Tryz.prog 8 (F2p cInt cInt cInt pickOk pick) := spec2p (fun vs w => Tryz.call8 vs w) c_meniscushand_Pick

/-! meniscusref1.In -/
theorem t_meniscusref1_In (x0 : Int) :
    evFn Tryz.prog Env.nil Laws.nil 200 Tryz.f37 [cInt.av x0] [] cBool.dec =
      .br (Decidable.decide (x0 ≥ -1073741824))
       (
        .ret (Decidable.decide (x0 ≤ 1073741824)))
       (
        .ret (Bool.false)) := by kernel_rfl
theorem c_meniscusref1_In (x0 : Int) : Plain Tryz.prog 37 [cInt.enc x0] (cBool.enc (numIn x0)) :=
  plain_of_tree (n := 200) EnvOK.nil Tryz.func37 (args := [cInt.av x0]) (by simp only [AV.vals, Cod.av_val]) (Nat.le_of_ble_eq_true (by kernel_rfl)) LFn.nil cBool (by
    rw [t_meniscusref1_In]
    simp only [Tr.den]
    grind [numIn])
theorem s_meniscusref1_In : Ev.Spec Tryz.prog 37 (F1 cInt cBool numIn) := spec1 (fun vs w => Tryz.call37 vs w) c_meniscusref1_In

/-! meniscusref1.told -/
theorem t_meniscusref1_told (x0 : Int) :
    evFn Tryz.prog (Env.add 37 (F1 cInt cBool numIn) Env.nil) Laws.nil 200 Tryz.f93 [cInt.av x0] [] (cTwo cInt cBool).dec =
      .bind (Go.Proofs.YthdpjmkknodmpaaGreat.numIn x0) fun vb0 =>
      .br (!vb0)
       (
        .ret ((0, Bool.false)))
       (
        .ret ((x0, Bool.true))) := by kernel_rfl
theorem c_meniscusref1_told (x0 : Int) : Plain Tryz.prog 93 [cInt.enc x0] ((cTwo cInt cBool).enc (toldN x0)) :=
  plain_of_tree (n := 200) (EnvOK.add s_meniscusref1_In EnvOK.nil) Tryz.func93 (args := [cInt.av x0]) (by simp only [AV.vals, Cod.av_val]) (Nat.le_of_ble_eq_true (by kernel_rfl)) LFn.nil (cTwo cInt cBool) (by
    rw [t_meniscusref1_told]
    simp only [den_br, den_bind, den_ret, den_fail, den_inl, den_inr, decide_eq_true_eq]
    grind [toldN])
theorem s_meniscusref1_told : Ev.Spec Tryz.prog 93 (F1 cInt (cTwo cInt cBool) toldN) := spec1 (fun vs w => Tryz.call93 vs w) c_meniscusref1_told

/-! meniscusref1.Floor -/
theorem t_meniscusref1_Floor (x0 : Int) (x1 : Int) :
    evFn Tryz.prog Env.nil Laws.nil 200 Tryz.f39 [cInt.av x0, cInt.av x1] [] cInt.dec =
      .br (x1 == 0)
       (
        .ret (0))
       (
        .br (x1 != 0)
         (
          .br (x1 != 0)
           (
            .br (x0.tmod x1 != 0)
             (
              .br (!Decidable.decide (x0.tmod x1 < 0) == Decidable.decide (x1 < 0))
               (
                .ret (Go.IntKind.i64.wrap (Go.IntKind.i64.wrap (x0.tdiv x1) - 1)))
               (
                .ret (Go.IntKind.i64.wrap (x0.tdiv x1))))
             (
              .ret (Go.IntKind.i64.wrap (x0.tdiv x1))))
           (
            .fail))
         (
          .fail)) := by kernel_rfl
theorem c_meniscusref1_Floor (x0 : Int) (x1 : Int) (h : flOk x0 x1 = true) : Plain Tryz.prog 39 [cInt.enc x0, cInt.enc x1] (cInt.enc (fl x0 x1)) :=
  plain_of_tree (n := 200) EnvOK.nil Tryz.func39 (args := [cInt.av x0, cInt.av x1]) (by simp only [AV.vals, Cod.av_val]) (Nat.le_of_ble_eq_true (by kernel_rfl)) LFn.nil cInt (by
    rw [t_meniscusref1_Floor]
    simp only [den_br, den_bind, den_ret, den_fail, den_inl, den_inr, decide_eq_true_eq]
    simp [flOk] at h
    by_cases hb : x1 = 0
    · subst hb; simp [fl]
    · have e := fl_tdiv x0 x1 hb
      have hw := tdiv_bd (a := x0) (b := x1) (by omega) (by omega)
      have e1 : IntKind.i64.wrap (x0.tdiv x1) = x0.tdiv x1 := wr (by omega)
      have e2 : IntKind.i64.wrap (x0.tdiv x1 - 1) = x0.tdiv x1 - 1 := wr (by omega)
      rw [e]
      by_cases hm : x0.tmod x1 = 0
      · simp [hb, hm, e1]
      · have hs := tmod_sign hm
        simp only [e1, e2, hs]
        cases hd : decide (x0 < 0) <;> cases hd2 : decide (x1 < 0) <;> simp [hb, hm])
theorem s_meniscusref1_Floor : Ev.Spec Tryz.prog 39 (F2p cInt cInt cInt flOk fl) := spec2p (fun vs w => Tryz.call39 vs w) c_meniscusref1_Floor

/-! meniscusref1.Ceil -/
theorem t_meniscusref1_Ceil (x0 : Int) (x1 : Int) :
    evFn Tryz.prog (Env.add 39 (F2p cInt cInt cInt flOk fl) Env.nil) Laws.nil 200 Tryz.f74 [cInt.av x0, cInt.av x1] [] cInt.dec =
      .br (Go.Proofs.YthdpjmkknodmpaaGreat.flOk x0 x1)
       (
        .bind (Go.Proofs.YthdpjmkknodmpaaGreat.fl x0 x1) fun vn0 =>
        .br (Go.IntKind.i64.wrap (vn0 * x1) != x0)
         (
          .ret (Go.IntKind.i64.wrap (vn0 + 1)))
         (
          .ret (vn0)))
       (
        .fail) := by kernel_rfl
theorem c_meniscusref1_Ceil (x0 : Int) (x1 : Int) (h : clOk x0 x1 = true) : Plain Tryz.prog 74 [cInt.enc x0, cInt.enc x1] (cInt.enc (cl x0 x1)) :=
  plain_of_tree (n := 200) (EnvOK.add s_meniscusref1_Floor EnvOK.nil) Tryz.func74 (args := [cInt.av x0, cInt.av x1]) (by simp only [AV.vals, Cod.av_val]) (Nat.le_of_ble_eq_true (by kernel_rfl)) LFn.nil cInt (by
    rw [t_meniscusref1_Ceil]
    simp only [den_br, den_bind, den_ret, den_fail, den_inl, den_inr, decide_eq_true_eq]
    have e1 := wr (fl_mul_bd h)
    have e2 : IntKind.i64.wrap (fl x0 x1 + 1) = fl x0 x1 + 1 := wr (by have := fl_bd (clOk_fl h); omega)
    simp only [clOk_fl h, e1, e2, if_true, cl]
    by_cases hh : fl x0 x1 * x1 = x0 <;> simp [hh])
theorem s_meniscusref1_Ceil : Ev.Spec Tryz.prog 74 (F2p cInt cInt cInt clOk cl) := spec2p (fun vs w => Tryz.call74 vs w) c_meniscusref1_Ceil

/-! meniscusref1.Mul -/
theorem t_meniscusref1_Mul (x0 : Int) (x1 : Int) (x2 : Bool) :
    evFn Tryz.prog (Env.add 37 (F1 cInt cBool numIn) (Env.add 39 (F2p cInt cInt cInt flOk fl) (Env.add 74 (F2p cInt cInt cInt clOk cl) (Env.add 93 (F1 cInt (cTwo cInt cBool) toldN) Env.nil)))) Laws.nil 200 Tryz.f75 [cInt.av x0, cInt.av x1, cBool.av x2] [] (cTwo cInt cBool).dec =
      .bind (Go.Proofs.YthdpjmkknodmpaaGreat.numIn x0) fun vb0 =>
      .br (!vb0)
       (
        .ret ((0, Bool.false)))
       (
        .bind (Go.Proofs.YthdpjmkknodmpaaGreat.numIn x1) fun vb1 =>
        .br (!vb1)
         (
          .ret ((0, Bool.false)))
         (
          .br (x2)
           (
            .br (Go.Proofs.YthdpjmkknodmpaaGreat.clOk (Go.IntKind.i64.wrap (x0 * x1)) 65536)
             (
              .bind (Go.Proofs.YthdpjmkknodmpaaGreat.cl (Go.IntKind.i64.wrap (x0 * x1)) 65536) fun vn2 =>
              .bind (Go.Proofs.YthdpjmkknodmpaaGreat.toldN vn2) fun vy3 =>
              .ret (vy3))
             (
              .fail))
           (
            .br (Go.Proofs.YthdpjmkknodmpaaGreat.flOk (Go.IntKind.i64.wrap (x0 * x1)) 65536)
             (
              .bind (Go.Proofs.YthdpjmkknodmpaaGreat.fl (Go.IntKind.i64.wrap (x0 * x1)) 65536) fun vn4 =>
              .bind (Go.Proofs.YthdpjmkknodmpaaGreat.toldN vn4) fun vy5 =>
              .ret (vy5))
             (
              .fail)))) := by kernel_rfl
theorem c_meniscusref1_Mul (x0 : Int) (x1 : Int) (x2 : Bool) : Plain Tryz.prog 75 [cInt.enc x0, cInt.enc x1, cBool.enc x2] ((cTwo cInt cBool).enc (numMul x0 x1 x2)) :=
  plain_of_tree (n := 200) (EnvOK.add s_meniscusref1_In (EnvOK.add s_meniscusref1_Floor (EnvOK.add s_meniscusref1_Ceil (EnvOK.add s_meniscusref1_told EnvOK.nil)))) Tryz.func75 (args := [cInt.av x0, cInt.av x1, cBool.av x2]) (by simp only [AV.vals, Cod.av_val]) (Nat.le_of_ble_eq_true (by kernel_rfl)) LFn.nil (cTwo cInt cBool) (by
    rw [t_meniscusref1_Mul]
    simp only [den_br, den_bind, den_ret, den_fail, den_inl, den_inr, decide_eq_true_eq]
    simp only [numMul, rnd]
    cases h0 : numIn x0 <;> cases h1 : numIn x1 <;> simp
    have hm := mul_bd x0 x1 h0 h1
    have e1 : IntKind.i64.wrap (x0 * x1) = x0 * x1 := wr (by omega)
    have c1 : clOk (x0 * x1) 65536 = true := by simp [clOk]; omega
    simp only [e1, c1, clOk_fl c1, if_true, toldN, cl]
    cases x2 <;> simp)
theorem s_meniscusref1_Mul : Ev.Spec Tryz.prog 75 (F3 cInt cInt cBool (cTwo cInt cBool) numMul) := spec3 (fun vs w => Tryz.call75 vs w) c_meniscusref1_Mul

/-! meniscusref1.Div -/
theorem t_meniscusref1_Div (x0 : Int) (x1 : Int) (x2 : Bool) :
    evFn Tryz.prog (Env.add 37 (F1 cInt cBool numIn) (Env.add 39 (F2p cInt cInt cInt flOk fl) (Env.add 74 (F2p cInt cInt cInt clOk cl) (Env.add 93 (F1 cInt (cTwo cInt cBool) toldN) Env.nil)))) Laws.nil 200 Tryz.f94 [cInt.av x0, cInt.av x1, cBool.av x2] [] (cTwo cInt cBool).dec =
      .bind (Go.Proofs.YthdpjmkknodmpaaGreat.numIn x0) fun vb0 =>
      .br (!vb0)
       (
        .ret ((0, Bool.false)))
       (
        .bind (Go.Proofs.YthdpjmkknodmpaaGreat.numIn x1) fun vb1 =>
        .br (!vb1)
         (
          .ret ((0, Bool.false)))
         (
          .br (x1 == 0)
           (
            .ret ((0, Bool.false)))
           (
            .br (x2)
             (
              .br (Go.Proofs.YthdpjmkknodmpaaGreat.clOk (Go.IntKind.i64.wrap (x0 * 65536)) x1)
               (
                .bind (Go.Proofs.YthdpjmkknodmpaaGreat.cl (Go.IntKind.i64.wrap (x0 * 65536)) x1) fun vn2 =>
                .bind (Go.Proofs.YthdpjmkknodmpaaGreat.toldN vn2) fun vy3 =>
                .ret (vy3))
               (
                .fail))
             (
              .br (Go.Proofs.YthdpjmkknodmpaaGreat.flOk (Go.IntKind.i64.wrap (x0 * 65536)) x1)
               (
                .bind (Go.Proofs.YthdpjmkknodmpaaGreat.fl (Go.IntKind.i64.wrap (x0 * 65536)) x1) fun vn4 =>
                .bind (Go.Proofs.YthdpjmkknodmpaaGreat.toldN vn4) fun vy5 =>
                .ret (vy5))
               (
                .fail))))) := by kernel_rfl
theorem c_meniscusref1_Div (x0 : Int) (x1 : Int) (x2 : Bool) : Plain Tryz.prog 94 [cInt.enc x0, cInt.enc x1, cBool.enc x2] ((cTwo cInt cBool).enc (numDiv x0 x1 x2)) :=
  plain_of_tree (n := 200) (EnvOK.add s_meniscusref1_In (EnvOK.add s_meniscusref1_Floor (EnvOK.add s_meniscusref1_Ceil (EnvOK.add s_meniscusref1_told EnvOK.nil)))) Tryz.func94 (args := [cInt.av x0, cInt.av x1, cBool.av x2]) (by simp only [AV.vals, Cod.av_val]) (Nat.le_of_ble_eq_true (by kernel_rfl)) LFn.nil (cTwo cInt cBool) (by
    rw [t_meniscusref1_Div]
    simp only [den_br, den_bind, den_ret, den_fail, den_inl, den_inr, decide_eq_true_eq]
    simp only [numDiv, rnd]
    cases h0 : numIn x0 <;> cases h1 : numIn x1 <;> simp
    have b0 := numIn_iff.1 h0
    have b1 := numIn_iff.1 h1
    have e1 : IntKind.i64.wrap (x0 * 65536) = x0 * 65536 := wr (by omega)
    have c1 : clOk (x0 * 65536) x1 = true := by simp [clOk]; omega
    simp only [e1, c1, clOk_fl c1, if_true, toldN, cl]
    by_cases hz : x1 = 0 <;> simp [hz]
    cases x2 <;> simp)
theorem s_meniscusref1_Div : Ev.Spec Tryz.prog 94 (F3 cInt cInt cBool (cTwo cInt cBool) numDiv) := spec3 (fun vs w => Tryz.call94 vs w) c_meniscusref1_Div

/-! meniscusref1.Root -/
theorem tl_meniscusref1_Root_6 (t1 : Bool) (t6 : Int) (t7 : Int) (t8 : Int) :
    ev Tryz.prog (Env.add 37 (F1 cInt cBool numIn) (Env.add 93 (F1 cInt (cTwo cInt cBool) toldN) Env.nil)) Laws.nil 200 none (loopAt Tryz.f95 6) ((sc 48 [1, 6, 7, 8] (tCod 1 cBool (tCod 6 cInt (tCod 7 cInt (tCod 8 cInt tNil)))) rNil).enc ((t1, t6, t7, t8, ()), (()))) (backK (sc 48 [1, 6, 7, 8] (tCod 1 cBool (tCod 6 cInt (tCod 7 cInt (tCod 8 cInt tNil)))) rNil) (ocExit 0 (sc 48 [1, 6, 7] (tCod 1 cBool (tCod 6 cInt (tCod 7 cInt tNil))) rNil))) =
      .br (Decidable.decide (t8 ≥ 0))
       (
        .br (Decidable.decide (0 ≤ Go.IntKind.u64.wrap t8))
         (
          .br (Decidable.decide (Go.IntKind.i64.wrap (Go.IntKind.i64.wrap (t7 + Go.IntKind.i64.wrap (1 * 2 ^ Min.min (Go.IntKind.u64.wrap t8).toNat 64)) * Go.IntKind.i64.wrap (t7 + Go.IntKind.i64.wrap (1 * 2 ^ Min.min (Go.IntKind.u64.wrap t8).toNat 64))) ≤ t6))
           (
            .ret (Sum.inl ((t1, t6, Go.IntKind.i64.wrap (t7 + Go.IntKind.i64.wrap (1 * 2 ^ Min.min (Go.IntKind.u64.wrap t8).toNat 64)), Go.IntKind.i64.wrap (t8 - 1), ()), ())))
           (
            .ret (Sum.inl ((t1, t6, t7, Go.IntKind.i64.wrap (t8 - 1), ()), ()))))
         (
          .fail))
       (
        .ret (Sum.inr ((t1, t6, t7, ()), ()))) := by kernel_rfl
theorem ok_meniscusref1_Root_6 : LOK Tryz.prog (LoopR.of (sc 48 [1, 6, 7, 8] (tCod 1 cBool (tCod 6 cInt (tCod 7 cInt (tCod 8 cInt tNil)))) rNil) (ocExit 0 (sc 48 [1, 6, 7] (tCod 1 cBool (tCod 6 cInt (tCod 7 cInt tNil))) rNil)) rootRun2) (loopAt Tryz.f95 6) := by
  refine loop_ok (EnvOK.add s_meniscusref1_In (EnvOK.add s_meniscusref1_told EnvOK.nil)) (LFn.at (fn := Tryz.f95) LFn.nil 6) rootStep2 (n := 200) (fun x z h => ?_) rootRun2_ok
  obtain ⟨⟨t1, t6, t7, t8, ⟨⟩⟩, ⟨⟩⟩ := x
  rw [tl_meniscusref1_Root_6]
  rw [← h]
  simp only [den_br, den_bind, den_ret, den_fail, den_inl, den_inr, decide_eq_true_eq]
  simp only [rootStep2, rootPow]
  by_cases h0 : 0 ≤ t8 <;> simp only [h0, if_true, if_false]
  by_cases h1 : 0 ≤ IntKind.u64.wrap t8 <;> simp only [h1, if_true, if_false]
  split <;> rename_i hh <;> simp only [hh, if_true, if_false]
theorem t_meniscusref1_Root (x0 : Int) (x1 : Bool) :
    evFn Tryz.prog (Env.add 37 (F1 cInt cBool numIn) (Env.add 93 (F1 cInt (cTwo cInt cBool) toldN) Env.nil)) (Laws.add 6 (LoopR.of (sc 48 [1, 6, 7, 8] (tCod 1 cBool (tCod 6 cInt (tCod 7 cInt (tCod 8 cInt tNil)))) rNil) (ocExit 0 (sc 48 [1, 6, 7] (tCod 1 cBool (tCod 6 cInt (tCod 7 cInt tNil))) rNil)) rootRun2) Laws.nil) 200 Tryz.f95 [cInt.av x0, cBool.av x1] [] (cTwo cInt cBool).dec =
      .bind (Go.Proofs.YthdpjmkknodmpaaGreat.numIn x0) fun vb0 =>
      .br (!vb0)
       (
        .ret ((0, Bool.false)))
       (
        .br (Decidable.decide (x0 < 0))
         (
          .ret ((0, Bool.false)))
         (
          .get (Go.Proofs.YthdpjmkknodmpaaGreat.rootRun2 ((x1, Go.IntKind.i64.wrap (x0 * 65536), 0, 23, ()), ())) fun vy1 =>
          .br (vy1.fst.fst)
           (
            .br (Go.IntKind.i64.wrap (vy1.fst.snd.snd.fst * vy1.fst.snd.snd.fst) != vy1.fst.snd.fst)
             (
              .bind (Go.Proofs.YthdpjmkknodmpaaGreat.toldN (Go.IntKind.i64.wrap (vy1.fst.snd.snd.fst + 1))) fun vy2 =>
              .ret (vy2))
             (
              .bind (Go.Proofs.YthdpjmkknodmpaaGreat.toldN vy1.fst.snd.snd.fst) fun vy3 =>
              .ret (vy3)))
           (
            .bind (Go.Proofs.YthdpjmkknodmpaaGreat.toldN vy1.fst.snd.snd.fst) fun vy4 =>
            .ret (vy4)))) := by kernel_rfl
theorem c_meniscusref1_Root (x0 : Int) (x1 : Bool) : Plain Tryz.prog 95 [cInt.enc x0, cBool.enc x1] ((cTwo cInt cBool).enc (numRoot x0 x1)) :=
  plain_of_tree (n := 200) (EnvOK.add s_meniscusref1_In (EnvOK.add s_meniscusref1_told EnvOK.nil)) Tryz.func95 (args := [cInt.av x0, cBool.av x1]) (by simp only [AV.vals, Cod.av_val]) (Nat.le_of_ble_eq_true (by kernel_rfl)) (LFn.add (fn := Tryz.f95) (i := 6) (by kernel_rfl) ok_meniscusref1_Root_6 LFn.nil) (cTwo cInt cBool) (by
    rw [t_meniscusref1_Root]
    simp only [den_br, den_bind, den_ret, den_fail, den_inl, den_inr, decide_eq_true_eq]
    simp only [numRoot]
    by_cases h0 : x0 < 0
    · simp [h0]
    cases h1 : numIn x0
    · simp
    have b := numIn_iff.1 h1
    have e1 : IntKind.i64.wrap (x0 * 65536) = x0 * 65536 := wr (by omega)
    have s := isqrt_spec (n := x0 * 65536) (by omega) (by omega)
    have l := isqrt_le (n := x0 * 65536) (m := 8388608) (by omega) (by omega) (by omega) (by omega)
    have hr : rootRun2 ((x1, IntKind.i64.wrap (x0 * 65536), 0, 23, ()), ()) = some ((x1, x0 * 65536, isqrt (x0 * 65536), ()), ()) := by
      rw [e1]; exact if_pos ⟨⟨rfl, rfl⟩, by omega, by omega⟩
    rw [hr]
    have e2 : IntKind.i64.wrap (isqrt (x0 * 65536) * isqrt (x0 * 65536)) = isqrt (x0 * 65536) * isqrt (x0 * 65536) := wr (by have := Int.mul_nonneg s.1 s.1; omega)
    have e3 : IntKind.i64.wrap (isqrt (x0 * 65536) + 1) = isqrt (x0 * 65536) + 1 := wr (by omega)
    have t1 : toldN (isqrt (x0 * 65536)) = (isqrt (x0 * 65536), true) := if_pos (numIn_iff.2 (by omega))
    have t2 : toldN (isqrt (x0 * 65536) + 1) = (isqrt (x0 * 65536) + 1, true) := if_pos (numIn_iff.2 (by omega))
    have k1 : (isqrt (x0 * 65536) * isqrt (x0 * 65536) ≠ x0 * 65536) ↔ isqrt (x0 * 65536) * isqrt (x0 * 65536) < x0 * 65536 := by omega
    simp only [den_get, den_br, den_bind, den_ret, e2, e3, h0, t1, t2]
    cases x1 <;> simp [t1, t2]
    by_cases hh : isqrt (x0 * 65536) * isqrt (x0 * 65536) = x0 * 65536 <;> simp [hh, t1, t2]
    omega)
theorem s_meniscusref1_Root : Ev.Spec Tryz.prog 95 (F2 cInt cBool (cTwo cInt cBool) numRoot) := spec2 (fun vs w => Tryz.call95 vs w) c_meniscusref1_Root

/-! meniscusref1.Right -/
theorem t_meniscusref1_Right (x0 : Iv) :
    evFn Tryz.prog (Env.add 37 (F1 cInt cBool numIn) Env.nil) Laws.nil 200 Tryz.f66 [cIv.av x0] [] cBool.dec =
      .br (!x0.no)
       (
        .bind (Go.Proofs.YthdpjmkknodmpaaGreat.numIn x0.lo) fun vb0 =>
        .br (vb0)
         (
          .bind (Go.Proofs.YthdpjmkknodmpaaGreat.numIn x0.hi) fun vb1 =>
          .br (vb1)
           (
            .ret (Decidable.decide (x0.lo ≤ x0.hi)))
           (
            .ret (Bool.false)))
         (
          .ret (Bool.false)))
       (
        .ret (Bool.false)) := by kernel_rfl
theorem c_meniscusref1_Right (x0 : Iv) : Plain Tryz.prog 66 [cIv.enc x0] (cBool.enc (Iv.right x0)) :=
  plain_of_tree (n := 200) (EnvOK.add s_meniscusref1_In EnvOK.nil) Tryz.func66 (args := [cIv.av x0]) (by simp only [AV.vals, Cod.av_val]) (Nat.le_of_ble_eq_true (by kernel_rfl)) LFn.nil cBool (by
    rw [t_meniscusref1_Right]
    simp only [Tr.den]
    grind [Iv.right])
theorem s_meniscusref1_Right : Ev.Spec Tryz.prog 66 (F1 cIv cBool Iv.right) := spec1 (fun vs w => Tryz.call66 vs w) c_meniscusref1_Right

/-! meniscusref1.None -/
theorem t_meniscusref1_None  :
    evFn Tryz.prog Env.nil Laws.nil 200 Tryz.f56 [] [] cIv.dec =
      .ret (Go.Proofs.YthdpjmkknodmpaaGreat.Iv.mk 0 0 Bool.true) := by kernel_rfl
theorem c_meniscusref1_None  : Plain Tryz.prog 56 [] (cIv.enc (Iv.none)) :=
  plain_of_tree (n := 200) EnvOK.nil Tryz.func56 (args := []) rfl (Nat.le_of_ble_eq_true (by kernel_rfl)) LFn.nil cIv (by
    rw [t_meniscusref1_None]
    rfl)
theorem s_meniscusref1_None : Ev.Spec Tryz.prog 56 (F0 cIv Iv.none) := spec0 (fun vs w => Tryz.call56 vs w) c_meniscusref1_None

/-! meniscusref1.Of -/
theorem t_meniscusref1_Of (x0 : Int) (x1 : Int) :
    evFn Tryz.prog (Env.add 56 (F0 cIv Iv.none) (Env.add 66 (F1 cIv cBool Iv.right) Env.nil)) Laws.nil 200 Tryz.f40 [cInt.av x0, cInt.av x1] [] cIv.dec =
      .bind ((Go.Proofs.YthdpjmkknodmpaaGreat.Iv.mk x0 x1 Bool.false).right) fun vb0 =>
      .br (!vb0)
       (
        .bind (Go.Proofs.YthdpjmkknodmpaaGreat.Iv.none) fun viv1 =>
        .ret (viv1))
       (
        .ret (Go.Proofs.YthdpjmkknodmpaaGreat.Iv.mk x0 x1 Bool.false)) := by kernel_rfl
theorem c_meniscusref1_Of (x0 : Int) (x1 : Int) : Plain Tryz.prog 40 [cInt.enc x0, cInt.enc x1] (cIv.enc (Iv.of x0 x1)) :=
  plain_of_tree (n := 200) (EnvOK.add s_meniscusref1_None (EnvOK.add s_meniscusref1_Right EnvOK.nil)) Tryz.func40 (args := [cInt.av x0, cInt.av x1]) (by simp only [AV.vals, Cod.av_val]) (Nat.le_of_ble_eq_true (by kernel_rfl)) LFn.nil cIv (by
    rw [t_meniscusref1_Of]
    simp only [Tr.den]
    grind [Iv.of])
theorem s_meniscusref1_Of : Ev.Spec Tryz.prog 40 (F2 cInt cInt cIv Iv.of) := spec2 (fun vs w => Tryz.call40 vs w) c_meniscusref1_Of

/-! meniscusref1.Point -/
theorem t_meniscusref1_Point (x0 : Int) :
    evFn Tryz.prog (Env.add 40 (F2 cInt cInt cIv Iv.of) Env.nil) Laws.nil 200 Tryz.f30 [cInt.av x0] [] cIv.dec =
      .bind (Go.Proofs.YthdpjmkknodmpaaGreat.Iv.of x0 x0) fun viv0 =>
      .ret (viv0) := by kernel_rfl
theorem c_meniscusref1_Point (x0 : Int) : Plain Tryz.prog 30 [cInt.enc x0] (cIv.enc (Iv.point x0)) :=
  plain_of_tree (n := 200) (EnvOK.add s_meniscusref1_Of EnvOK.nil) Tryz.func30 (args := [cInt.av x0]) (by simp only [AV.vals, Cod.av_val]) (Nat.le_of_ble_eq_true (by kernel_rfl)) LFn.nil cIv (by
    rw [t_meniscusref1_Point]
    simp only [Tr.den]
    grind [Iv.point])
theorem s_meniscusref1_Point : Ev.Spec Tryz.prog 30 (F1 cInt cIv Iv.point) := spec1 (fun vs w => Tryz.call30 vs w) c_meniscusref1_Point

/-! meniscusref1.Whole -/
theorem t_meniscusref1_Whole (x0 : Int) :
    evFn Tryz.prog (Env.add 30 (F1 cInt cIv Iv.point) (Env.add 37 (F1 cInt cBool numIn) (Env.add 56 (F0 cIv Iv.none) Env.nil))) Laws.nil 200 Tryz.f146 [cInt.av x0] [] cIv.dec =
      .bind (Go.Proofs.YthdpjmkknodmpaaGreat.numIn x0) fun vb0 =>
      .br (!vb0)
       (
        .bind (Go.Proofs.YthdpjmkknodmpaaGreat.Iv.none) fun viv1 =>
        .ret (viv1))
       (
        .bind (Go.Proofs.YthdpjmkknodmpaaGreat.Iv.point (Go.IntKind.i64.wrap (x0 * 65536))) fun viv2 =>
        .ret (viv2)) := by kernel_rfl
theorem c_meniscusref1_Whole (x0 : Int) : Plain Tryz.prog 146 [cInt.enc x0] (cIv.enc (Iv.whole x0)) :=
  plain_of_tree (n := 200) (EnvOK.add s_meniscusref1_Point (EnvOK.add s_meniscusref1_In (EnvOK.add s_meniscusref1_None EnvOK.nil))) Tryz.func146 (args := [cInt.av x0]) (by simp only [AV.vals, Cod.av_val]) (Nat.le_of_ble_eq_true (by kernel_rfl)) LFn.nil cIv (by
    rw [t_meniscusref1_Whole]
    simp only [Tr.den, Iv.whole]
    cases h0 : numIn x0 <;> simp
    have b0 := numIn_iff.1 h0
    simp (disch := omega) only [IntWalk.i64_in])
theorem s_meniscusref1_Whole : Ev.Spec Tryz.prog 146 (F1 cInt cIv Iv.whole) := spec1 (fun vs w => Tryz.call146 vs w) c_meniscusref1_Whole

/-! meniscusref1.Add -/
theorem t_meniscusref1_Add (x0 : Iv) (x1 : Iv) :
    evFn Tryz.prog (Env.add 40 (F2 cInt cInt cIv Iv.of) (Env.add 56 (F0 cIv Iv.none) (Env.add 66 (F1 cIv cBool Iv.right) Env.nil))) Laws.nil 200 Tryz.f32 [cIv.av x0, cIv.av x1] [] cIv.dec =
      .bind (x0.right) fun vb0 =>
      .br (!vb0)
       (
        .bind (Go.Proofs.YthdpjmkknodmpaaGreat.Iv.none) fun viv1 =>
        .ret (viv1))
       (
        .bind (x1.right) fun vb2 =>
        .br (!vb2)
         (
          .bind (Go.Proofs.YthdpjmkknodmpaaGreat.Iv.none) fun viv3 =>
          .ret (viv3))
         (
          .bind (Go.Proofs.YthdpjmkknodmpaaGreat.Iv.of (Go.IntKind.i64.wrap (x0.lo + x1.lo)) (Go.IntKind.i64.wrap (x0.hi + x1.hi))) fun viv4 =>
          .ret (viv4))) := by kernel_rfl
theorem c_meniscusref1_Add (x0 : Iv) (x1 : Iv) : Plain Tryz.prog 32 [cIv.enc x0, cIv.enc x1] (cIv.enc (Iv.add x0 x1)) :=
  plain_of_tree (n := 200) (EnvOK.add s_meniscusref1_Of (EnvOK.add s_meniscusref1_None (EnvOK.add s_meniscusref1_Right EnvOK.nil))) Tryz.func32 (args := [cIv.av x0, cIv.av x1]) (by simp only [AV.vals, Cod.av_val]) (Nat.le_of_ble_eq_true (by kernel_rfl)) LFn.nil cIv (by
    rw [t_meniscusref1_Add]
    simp only [den_br, den_bind, den_ret, den_fail, den_inl, den_inr, decide_eq_true_eq]
    by_cases h0 : x0.right = true <;> by_cases h1 : x1.right = true <;> simp [Iv.add, Iv.both, h0, h1]
    have b0 := right_bd h0
    have b1 := right_bd h1
    simp (disch := omega) only [IntWalk.i64_in])
theorem s_meniscusref1_Add : Ev.Spec Tryz.prog 32 (F2 cIv cIv cIv Iv.add) := spec2 (fun vs w => Tryz.call32 vs w) c_meniscusref1_Add

/-! meniscusref1.Neg -/
theorem t_meniscusref1_Neg (x0 : Iv) :
    evFn Tryz.prog (Env.add 40 (F2 cInt cInt cIv Iv.of) (Env.add 56 (F0 cIv Iv.none) (Env.add 66 (F1 cIv cBool Iv.right) Env.nil))) Laws.nil 200 Tryz.f130 [cIv.av x0] [] cIv.dec =
      .bind (x0.right) fun vb0 =>
      .br (!vb0)
       (
        .bind (Go.Proofs.YthdpjmkknodmpaaGreat.Iv.none) fun viv1 =>
        .ret (viv1))
       (
        .bind (Go.Proofs.YthdpjmkknodmpaaGreat.Iv.of (Go.IntKind.i64.wrap (0 - x0.hi)) (Go.IntKind.i64.wrap (0 - x0.lo))) fun viv2 =>
        .ret (viv2)) := by kernel_rfl
theorem c_meniscusref1_Neg (x0 : Iv) : Plain Tryz.prog 130 [cIv.enc x0] (cIv.enc (Iv.neg x0)) :=
  plain_of_tree (n := 200) (EnvOK.add s_meniscusref1_Of (EnvOK.add s_meniscusref1_None (EnvOK.add s_meniscusref1_Right EnvOK.nil))) Tryz.func130 (args := [cIv.av x0]) (by simp only [AV.vals, Cod.av_val]) (Nat.le_of_ble_eq_true (by kernel_rfl)) LFn.nil cIv (by
    rw [t_meniscusref1_Neg]
    simp only [Tr.den, Iv.neg]
    cases h0 : x0.right <;> simp
    have b0 := right_bd h0
    simp (disch := omega) only [IntWalk.i64_in])
theorem s_meniscusref1_Neg : Ev.Spec Tryz.prog 130 (F1 cIv cIv Iv.neg) := spec1 (fun vs w => Tryz.call130 vs w) c_meniscusref1_Neg

/-! meniscusref1.Sub -/
theorem t_meniscusref1_Sub (x0 : Iv) (x1 : Iv) :
    evFn Tryz.prog (Env.add 40 (F2 cInt cInt cIv Iv.of) (Env.add 56 (F0 cIv Iv.none) (Env.add 66 (F1 cIv cBool Iv.right) Env.nil))) Laws.nil 200 Tryz.f65 [cIv.av x0, cIv.av x1] [] cIv.dec =
      .bind (x0.right) fun vb0 =>
      .br (!vb0)
       (
        .bind (Go.Proofs.YthdpjmkknodmpaaGreat.Iv.none) fun viv1 =>
        .ret (viv1))
       (
        .bind (x1.right) fun vb2 =>
        .br (!vb2)
         (
          .bind (Go.Proofs.YthdpjmkknodmpaaGreat.Iv.none) fun viv3 =>
          .ret (viv3))
         (
          .bind (Go.Proofs.YthdpjmkknodmpaaGreat.Iv.of (Go.IntKind.i64.wrap (x0.lo - x1.hi)) (Go.IntKind.i64.wrap (x0.hi - x1.lo))) fun viv4 =>
          .ret (viv4))) := by kernel_rfl
theorem c_meniscusref1_Sub (x0 : Iv) (x1 : Iv) : Plain Tryz.prog 65 [cIv.enc x0, cIv.enc x1] (cIv.enc (Iv.sub x0 x1)) :=
  plain_of_tree (n := 200) (EnvOK.add s_meniscusref1_Of (EnvOK.add s_meniscusref1_None (EnvOK.add s_meniscusref1_Right EnvOK.nil))) Tryz.func65 (args := [cIv.av x0, cIv.av x1]) (by simp only [AV.vals, Cod.av_val]) (Nat.le_of_ble_eq_true (by kernel_rfl)) LFn.nil cIv (by
    rw [t_meniscusref1_Sub]
    simp only [den_br, den_bind, den_ret, den_fail, den_inl, den_inr, decide_eq_true_eq]
    by_cases h0 : x0.right = true <;> by_cases h1 : x1.right = true <;> simp [sub_eq, Iv.both, h0, h1]
    have b0 := right_bd h0
    have b1 := right_bd h1
    simp (disch := omega) only [IntWalk.i64_in])
theorem s_meniscusref1_Sub : Ev.Spec Tryz.prog 65 (F2 cIv cIv cIv Iv.sub) := spec2 (fun vs w => Tryz.call65 vs w) c_meniscusref1_Sub

/-! meniscusref1.ends -/
theorem tl_meniscusref1_ends_4 (t2 : Bool) (t7 : Int) (t8 : Int) (t9 : Int) (r0 : Iv) (r1 : Iv) (r2 : Iv) :
    ev Tryz.prog (Env.add 40 (F2 cInt cInt cIv Iv.of) (Env.add 56 (F0 cIv Iv.none) (Env.add 75 (F3 cInt cInt cBool (cTwo cInt cBool) numMul) (Env.add 94 (F3 cInt cInt cBool (cTwo cInt cBool) numDiv) Env.nil)))) Laws.nil 200 none (loopAt Tryz.f76 4) ((sc 85 [2, 7, 8, 9, 3, 4, 6] (tCod 2 cBool (tCod 7 cInt (tCod 8 cInt (tCod 9 cInt (tOwn 3 0 (tOwn 4 1 (tOwn 6 2 tNil))))))) (rBox ccIv ccIv_ok (rBox ccIv ccIv_ok (rBox ccIv ccIv_ok rNil)))).enc ((t2, t7, t8, t9, ()), (r0, r1, r2, ()))) (backK (sc 85 [2, 7, 8, 9, 3, 4, 6] (tCod 2 cBool (tCod 7 cInt (tCod 8 cInt (tCod 9 cInt (tOwn 3 0 (tOwn 4 1 (tOwn 6 2 tNil))))))) (rBox ccIv ccIv_ok (rBox ccIv ccIv_ok (rBox ccIv ccIv_ok rNil)))) (ocOr (ocExit 0 (sc 85 [7, 8, 6] (tCod 7 cInt (tCod 8 cInt (tOwn 6 0 tNil))) (rBox ccIv ccIv_ok rNil))) (ocRet (sc 85 [6] (tOwn 6 0 tNil) (rBox ccIv ccIv_ok rNil))))) =
      .br (Decidable.decide (t9 < 4))
       (
        .br (t9.tmod 2 == 1)
         (
          .br (Go.IntKind.i64.wrap (t9.tdiv 2) == 1)
           (
            .bind (Go.Proofs.YthdpjmkknodmpaaGreat.numMul r0.hi r1.hi Bool.false) fun vy0 =>
            .bind (Go.Proofs.YthdpjmkknodmpaaGreat.numMul r0.hi r1.hi Bool.true) fun vy1 =>
            .br (t2)
             (
              .bind (Go.Proofs.YthdpjmkknodmpaaGreat.numDiv r0.hi r1.hi Bool.false) fun vy2 =>
              .bind (Go.Proofs.YthdpjmkknodmpaaGreat.numDiv r0.hi r1.hi Bool.true) fun vy3 =>
              .br (!vy2.snd)
               (
                .bind (Go.Proofs.YthdpjmkknodmpaaGreat.Iv.none) fun viv4 =>
                .ret (Sum.inr (Sum.inr ((), viv4, ()))))
               (
                .br (!vy3.snd)
                 (
                  .bind (Go.Proofs.YthdpjmkknodmpaaGreat.Iv.none) fun viv5 =>
                  .ret (Sum.inr (Sum.inr ((), viv5, ()))))
                 (
                  .br (t9 == 0)
                   (
                    .br (t9 == 0)
                     (
                      .ret (Sum.inl ((t2, vy2.fst, vy3.fst, Go.IntKind.i64.wrap (t9 + 1), ()), r0, r1, r2, ())))
                     (
                      .br (Decidable.decide (vy3.fst > t8))
                       (
                        .ret (Sum.inl ((t2, vy2.fst, vy3.fst, Go.IntKind.i64.wrap (t9 + 1), ()), r0, r1, r2, ())))
                       (
                        .ret (Sum.inl ((t2, vy2.fst, t8, Go.IntKind.i64.wrap (t9 + 1), ()), r0, r1, r2, ())))))
                   (
                    .br (Decidable.decide (vy2.fst < t7))
                     (
                      .br (t9 == 0)
                       (
                        .ret (Sum.inl ((t2, vy2.fst, vy3.fst, Go.IntKind.i64.wrap (t9 + 1), ()), r0, r1, r2, ())))
                       (
                        .br (Decidable.decide (vy3.fst > t8))
                         (
                          .ret (Sum.inl ((t2, vy2.fst, vy3.fst, Go.IntKind.i64.wrap (t9 + 1), ()), r0, r1, r2, ())))
                         (
                          .ret (Sum.inl ((t2, vy2.fst, t8, Go.IntKind.i64.wrap (t9 + 1), ()), r0, r1, r2, ())))))
                     (
                      .br (t9 == 0)
                       (
                        .ret (Sum.inl ((t2, t7, vy3.fst, Go.IntKind.i64.wrap (t9 + 1), ()), r0, r1, r2, ())))
                       (
                        .br (Decidable.decide (vy3.fst > t8))
                         (
                          .ret (Sum.inl ((t2, t7, vy3.fst, Go.IntKind.i64.wrap (t9 + 1), ()), r0, r1, r2, ())))
                         (
                          .ret (Sum.inl ((t2, t7, t8, Go.IntKind.i64.wrap (t9 + 1), ()), r0, r1, r2, ())))))))))
             (
              .br (!vy0.snd)
               (
                .bind (Go.Proofs.YthdpjmkknodmpaaGreat.Iv.none) fun viv6 =>
                .ret (Sum.inr (Sum.inr ((), viv6, ()))))
               (
                .br (!vy1.snd)
                 (
                  .bind (Go.Proofs.YthdpjmkknodmpaaGreat.Iv.none) fun viv7 =>
                  .ret (Sum.inr (Sum.inr ((), viv7, ()))))
                 (
                  .br (t9 == 0)
                   (
                    .br (t9 == 0)
                     (
                      .ret (Sum.inl ((t2, vy0.fst, vy1.fst, Go.IntKind.i64.wrap (t9 + 1), ()), r0, r1, r2, ())))
                     (
                      .br (Decidable.decide (vy1.fst > t8))
                       (
                        .ret (Sum.inl ((t2, vy0.fst, vy1.fst, Go.IntKind.i64.wrap (t9 + 1), ()), r0, r1, r2, ())))
                       (
                        .ret (Sum.inl ((t2, vy0.fst, t8, Go.IntKind.i64.wrap (t9 + 1), ()), r0, r1, r2, ())))))
                   (
                    .br (Decidable.decide (vy0.fst < t7))
                     (
                      .br (t9 == 0)
                       (
                        .ret (Sum.inl ((t2, vy0.fst, vy1.fst, Go.IntKind.i64.wrap (t9 + 1), ()), r0, r1, r2, ())))
                       (
                        .br (Decidable.decide (vy1.fst > t8))
                         (
                          .ret (Sum.inl ((t2, vy0.fst, vy1.fst, Go.IntKind.i64.wrap (t9 + 1), ()), r0, r1, r2, ())))
                         (
                          .ret (Sum.inl ((t2, vy0.fst, t8, Go.IntKind.i64.wrap (t9 + 1), ()), r0, r1, r2, ())))))
                     (
                      .br (t9 == 0)
                       (
                        .ret (Sum.inl ((t2, t7, vy1.fst, Go.IntKind.i64.wrap (t9 + 1), ()), r0, r1, r2, ())))
                       (
                        .br (Decidable.decide (vy1.fst > t8))
                         (
                          .ret (Sum.inl ((t2, t7, vy1.fst, Go.IntKind.i64.wrap (t9 + 1), ()), r0, r1, r2, ())))
                         (
                          .ret (Sum.inl ((t2, t7, t8, Go.IntKind.i64.wrap (t9 + 1), ()), r0, r1, r2, ()))))))))))
           (
            .bind (Go.Proofs.YthdpjmkknodmpaaGreat.numMul r0.hi r1.lo Bool.false) fun vy8 =>
            .bind (Go.Proofs.YthdpjmkknodmpaaGreat.numMul r0.hi r1.lo Bool.true) fun vy9 =>
            .br (t2)
             (
              .bind (Go.Proofs.YthdpjmkknodmpaaGreat.numDiv r0.hi r1.lo Bool.false) fun vy10 =>
              .bind (Go.Proofs.YthdpjmkknodmpaaGreat.numDiv r0.hi r1.lo Bool.true) fun vy11 =>
              .br (!vy10.snd)
               (
                .bind (Go.Proofs.YthdpjmkknodmpaaGreat.Iv.none) fun viv12 =>
                .ret (Sum.inr (Sum.inr ((), viv12, ()))))
               (
                .br (!vy11.snd)
                 (
                  .bind (Go.Proofs.YthdpjmkknodmpaaGreat.Iv.none) fun viv13 =>
                  .ret (Sum.inr (Sum.inr ((), viv13, ()))))
                 (
                  .br (t9 == 0)
                   (
                    .br (t9 == 0)
                     (
                      .ret (Sum.inl ((t2, vy10.fst, vy11.fst, Go.IntKind.i64.wrap (t9 + 1), ()), r0, r1, r2, ())))
                     (
                      .br (Decidable.decide (vy11.fst > t8))
                       (
                        .ret (Sum.inl ((t2, vy10.fst, vy11.fst, Go.IntKind.i64.wrap (t9 + 1), ()), r0, r1, r2, ())))
                       (
                        .ret (Sum.inl ((t2, vy10.fst, t8, Go.IntKind.i64.wrap (t9 + 1), ()), r0, r1, r2, ())))))
                   (
                    .br (Decidable.decide (vy10.fst < t7))
                     (
                      .br (t9 == 0)
                       (
                        .ret (Sum.inl ((t2, vy10.fst, vy11.fst, Go.IntKind.i64.wrap (t9 + 1), ()), r0, r1, r2, ())))
                       (
                        .br (Decidable.decide (vy11.fst > t8))
                         (
                          .ret (Sum.inl ((t2, vy10.fst, vy11.fst, Go.IntKind.i64.wrap (t9 + 1), ()), r0, r1, r2, ())))
                         (
                          .ret (Sum.inl ((t2, vy10.fst, t8, Go.IntKind.i64.wrap (t9 + 1), ()), r0, r1, r2, ())))))
                     (
                      .br (t9 == 0)
                       (
                        .ret (Sum.inl ((t2, t7, vy11.fst, Go.IntKind.i64.wrap (t9 + 1), ()), r0, r1, r2, ())))
                       (
                        .br (Decidable.decide (vy11.fst > t8))
                         (
                          .ret (Sum.inl ((t2, t7, vy11.fst, Go.IntKind.i64.wrap (t9 + 1), ()), r0, r1, r2, ())))
                         (
                          .ret (Sum.inl ((t2, t7, t8, Go.IntKind.i64.wrap (t9 + 1), ()), r0, r1, r2, ())))))))))
             (
              .br (!vy8.snd)
               (
                .bind (Go.Proofs.YthdpjmkknodmpaaGreat.Iv.none) fun viv14 =>
                .ret (Sum.inr (Sum.inr ((), viv14, ()))))
               (
                .br (!vy9.snd)
                 (
                  .bind (Go.Proofs.YthdpjmkknodmpaaGreat.Iv.none) fun viv15 =>
                  .ret (Sum.inr (Sum.inr ((), viv15, ()))))
                 (
                  .br (t9 == 0)
                   (
                    .br (t9 == 0)
                     (
                      .ret (Sum.inl ((t2, vy8.fst, vy9.fst, Go.IntKind.i64.wrap (t9 + 1), ()), r0, r1, r2, ())))
                     (
                      .br (Decidable.decide (vy9.fst > t8))
                       (
                        .ret (Sum.inl ((t2, vy8.fst, vy9.fst, Go.IntKind.i64.wrap (t9 + 1), ()), r0, r1, r2, ())))
                       (
                        .ret (Sum.inl ((t2, vy8.fst, t8, Go.IntKind.i64.wrap (t9 + 1), ()), r0, r1, r2, ())))))
                   (
                    .br (Decidable.decide (vy8.fst < t7))
                     (
                      .br (t9 == 0)
                       (
                        .ret (Sum.inl ((t2, vy8.fst, vy9.fst, Go.IntKind.i64.wrap (t9 + 1), ()), r0, r1, r2, ())))
                       (
                        .br (Decidable.decide (vy9.fst > t8))
                         (
                          .ret (Sum.inl ((t2, vy8.fst, vy9.fst, Go.IntKind.i64.wrap (t9 + 1), ()), r0, r1, r2, ())))
                         (
                          .ret (Sum.inl ((t2, vy8.fst, t8, Go.IntKind.i64.wrap (t9 + 1), ()), r0, r1, r2, ())))))
                     (
                      .br (t9 == 0)
                       (
                        .ret (Sum.inl ((t2, t7, vy9.fst, Go.IntKind.i64.wrap (t9 + 1), ()), r0, r1, r2, ())))
                       (
                        .br (Decidable.decide (vy9.fst > t8))
                         (
                          .ret (Sum.inl ((t2, t7, vy9.fst, Go.IntKind.i64.wrap (t9 + 1), ()), r0, r1, r2, ())))
                         (
                          .ret (Sum.inl ((t2, t7, t8, Go.IntKind.i64.wrap (t9 + 1), ()), r0, r1, r2, ())))))))))))
         (
          .br (Go.IntKind.i64.wrap (t9.tdiv 2) == 1)
           (
            .bind (Go.Proofs.YthdpjmkknodmpaaGreat.numMul r0.lo r1.hi Bool.false) fun vy16 =>
            .bind (Go.Proofs.YthdpjmkknodmpaaGreat.numMul r0.lo r1.hi Bool.true) fun vy17 =>
            .br (t2)
             (
              .bind (Go.Proofs.YthdpjmkknodmpaaGreat.numDiv r0.lo r1.hi Bool.false) fun vy18 =>
              .bind (Go.Proofs.YthdpjmkknodmpaaGreat.numDiv r0.lo r1.hi Bool.true) fun vy19 =>
              .br (!vy18.snd)
               (
                .bind (Go.Proofs.YthdpjmkknodmpaaGreat.Iv.none) fun viv20 =>
                .ret (Sum.inr (Sum.inr ((), viv20, ()))))
               (
                .br (!vy19.snd)
                 (
                  .bind (Go.Proofs.YthdpjmkknodmpaaGreat.Iv.none) fun viv21 =>
                  .ret (Sum.inr (Sum.inr ((), viv21, ()))))
                 (
                  .br (t9 == 0)
                   (
                    .br (t9 == 0)
                     (
                      .ret (Sum.inl ((t2, vy18.fst, vy19.fst, Go.IntKind.i64.wrap (t9 + 1), ()), r0, r1, r2, ())))
                     (
                      .br (Decidable.decide (vy19.fst > t8))
                       (
                        .ret (Sum.inl ((t2, vy18.fst, vy19.fst, Go.IntKind.i64.wrap (t9 + 1), ()), r0, r1, r2, ())))
                       (
                        .ret (Sum.inl ((t2, vy18.fst, t8, Go.IntKind.i64.wrap (t9 + 1), ()), r0, r1, r2, ())))))
                   (
                    .br (Decidable.decide (vy18.fst < t7))
                     (
                      .br (t9 == 0)
                       (
                        .ret (Sum.inl ((t2, vy18.fst, vy19.fst, Go.IntKind.i64.wrap (t9 + 1), ()), r0, r1, r2, ())))
                       (
                        .br (Decidable.decide (vy19.fst > t8))
                         (
                          .ret (Sum.inl ((t2, vy18.fst, vy19.fst, Go.IntKind.i64.wrap (t9 + 1), ()), r0, r1, r2, ())))
                         (
                          .ret (Sum.inl ((t2, vy18.fst, t8, Go.IntKind.i64.wrap (t9 + 1), ()), r0, r1, r2, ())))))
                     (
                      .br (t9 == 0)
                       (
                        .ret (Sum.inl ((t2, t7, vy19.fst, Go.IntKind.i64.wrap (t9 + 1), ()), r0, r1, r2, ())))
                       (
                        .br (Decidable.decide (vy19.fst > t8))
                         (
                          .ret (Sum.inl ((t2, t7, vy19.fst, Go.IntKind.i64.wrap (t9 + 1), ()), r0, r1, r2, ())))
                         (
                          .ret (Sum.inl ((t2, t7, t8, Go.IntKind.i64.wrap (t9 + 1), ()), r0, r1, r2, ())))))))))
             (
              .br (!vy16.snd)
               (
                .bind (Go.Proofs.YthdpjmkknodmpaaGreat.Iv.none) fun viv22 =>
                .ret (Sum.inr (Sum.inr ((), viv22, ()))))
               (
                .br (!vy17.snd)
                 (
                  .bind (Go.Proofs.YthdpjmkknodmpaaGreat.Iv.none) fun viv23 =>
                  .ret (Sum.inr (Sum.inr ((), viv23, ()))))
                 (
                  .br (t9 == 0)
                   (
                    .br (t9 == 0)
                     (
                      .ret (Sum.inl ((t2, vy16.fst, vy17.fst, Go.IntKind.i64.wrap (t9 + 1), ()), r0, r1, r2, ())))
                     (
                      .br (Decidable.decide (vy17.fst > t8))
                       (
                        .ret (Sum.inl ((t2, vy16.fst, vy17.fst, Go.IntKind.i64.wrap (t9 + 1), ()), r0, r1, r2, ())))
                       (
                        .ret (Sum.inl ((t2, vy16.fst, t8, Go.IntKind.i64.wrap (t9 + 1), ()), r0, r1, r2, ())))))
                   (
                    .br (Decidable.decide (vy16.fst < t7))
                     (
                      .br (t9 == 0)
                       (
                        .ret (Sum.inl ((t2, vy16.fst, vy17.fst, Go.IntKind.i64.wrap (t9 + 1), ()), r0, r1, r2, ())))
                       (
                        .br (Decidable.decide (vy17.fst > t8))
                         (
                          .ret (Sum.inl ((t2, vy16.fst, vy17.fst, Go.IntKind.i64.wrap (t9 + 1), ()), r0, r1, r2, ())))
                         (
                          .ret (Sum.inl ((t2, vy16.fst, t8, Go.IntKind.i64.wrap (t9 + 1), ()), r0, r1, r2, ())))))
                     (
                      .br (t9 == 0)
                       (
                        .ret (Sum.inl ((t2, t7, vy17.fst, Go.IntKind.i64.wrap (t9 + 1), ()), r0, r1, r2, ())))
                       (
                        .br (Decidable.decide (vy17.fst > t8))
                         (
                          .ret (Sum.inl ((t2, t7, vy17.fst, Go.IntKind.i64.wrap (t9 + 1), ()), r0, r1, r2, ())))
                         (
                          .ret (Sum.inl ((t2, t7, t8, Go.IntKind.i64.wrap (t9 + 1), ()), r0, r1, r2, ()))))))))))
           (
            .bind (Go.Proofs.YthdpjmkknodmpaaGreat.numMul r0.lo r1.lo Bool.false) fun vy24 =>
            .bind (Go.Proofs.YthdpjmkknodmpaaGreat.numMul r0.lo r1.lo Bool.true) fun vy25 =>
            .br (t2)
             (
              .bind (Go.Proofs.YthdpjmkknodmpaaGreat.numDiv r0.lo r1.lo Bool.false) fun vy26 =>
              .bind (Go.Proofs.YthdpjmkknodmpaaGreat.numDiv r0.lo r1.lo Bool.true) fun vy27 =>
              .br (!vy26.snd)
               (
                .bind (Go.Proofs.YthdpjmkknodmpaaGreat.Iv.none) fun viv28 =>
                .ret (Sum.inr (Sum.inr ((), viv28, ()))))
               (
                .br (!vy27.snd)
                 (
                  .bind (Go.Proofs.YthdpjmkknodmpaaGreat.Iv.none) fun viv29 =>
                  .ret (Sum.inr (Sum.inr ((), viv29, ()))))
                 (
                  .br (t9 == 0)
                   (
                    .br (t9 == 0)
                     (
                      .ret (Sum.inl ((t2, vy26.fst, vy27.fst, Go.IntKind.i64.wrap (t9 + 1), ()), r0, r1, r2, ())))
                     (
                      .br (Decidable.decide (vy27.fst > t8))
                       (
                        .ret (Sum.inl ((t2, vy26.fst, vy27.fst, Go.IntKind.i64.wrap (t9 + 1), ()), r0, r1, r2, ())))
                       (
                        .ret (Sum.inl ((t2, vy26.fst, t8, Go.IntKind.i64.wrap (t9 + 1), ()), r0, r1, r2, ())))))
                   (
                    .br (Decidable.decide (vy26.fst < t7))
                     (
                      .br (t9 == 0)
                       (
                        .ret (Sum.inl ((t2, vy26.fst, vy27.fst, Go.IntKind.i64.wrap (t9 + 1), ()), r0, r1, r2, ())))
                       (
                        .br (Decidable.decide (vy27.fst > t8))
                         (
                          .ret (Sum.inl ((t2, vy26.fst, vy27.fst, Go.IntKind.i64.wrap (t9 + 1), ()), r0, r1, r2, ())))
                         (
                          .ret (Sum.inl ((t2, vy26.fst, t8, Go.IntKind.i64.wrap (t9 + 1), ()), r0, r1, r2, ())))))
                     (
                      .br (t9 == 0)
                       (
                        .ret (Sum.inl ((t2, t7, vy27.fst, Go.IntKind.i64.wrap (t9 + 1), ()), r0, r1, r2, ())))
                       (
                        .br (Decidable.decide (vy27.fst > t8))
                         (
                          .ret (Sum.inl ((t2, t7, vy27.fst, Go.IntKind.i64.wrap (t9 + 1), ()), r0, r1, r2, ())))
                         (
                          .ret (Sum.inl ((t2, t7, t8, Go.IntKind.i64.wrap (t9 + 1), ()), r0, r1, r2, ())))))))))
             (
              .br (!vy24.snd)
               (
                .bind (Go.Proofs.YthdpjmkknodmpaaGreat.Iv.none) fun viv30 =>
                .ret (Sum.inr (Sum.inr ((), viv30, ()))))
               (
                .br (!vy25.snd)
                 (
                  .bind (Go.Proofs.YthdpjmkknodmpaaGreat.Iv.none) fun viv31 =>
                  .ret (Sum.inr (Sum.inr ((), viv31, ()))))
                 (
                  .br (t9 == 0)
                   (
                    .br (t9 == 0)
                     (
                      .ret (Sum.inl ((t2, vy24.fst, vy25.fst, Go.IntKind.i64.wrap (t9 + 1), ()), r0, r1, r2, ())))
                     (
                      .br (Decidable.decide (vy25.fst > t8))
                       (
                        .ret (Sum.inl ((t2, vy24.fst, vy25.fst, Go.IntKind.i64.wrap (t9 + 1), ()), r0, r1, r2, ())))
                       (
                        .ret (Sum.inl ((t2, vy24.fst, t8, Go.IntKind.i64.wrap (t9 + 1), ()), r0, r1, r2, ())))))
                   (
                    .br (Decidable.decide (vy24.fst < t7))
                     (
                      .br (t9 == 0)
                       (
                        .ret (Sum.inl ((t2, vy24.fst, vy25.fst, Go.IntKind.i64.wrap (t9 + 1), ()), r0, r1, r2, ())))
                       (
                        .br (Decidable.decide (vy25.fst > t8))
                         (
                          .ret (Sum.inl ((t2, vy24.fst, vy25.fst, Go.IntKind.i64.wrap (t9 + 1), ()), r0, r1, r2, ())))
                         (
                          .ret (Sum.inl ((t2, vy24.fst, t8, Go.IntKind.i64.wrap (t9 + 1), ()), r0, r1, r2, ())))))
                     (
                      .br (t9 == 0)
                       (
                        .ret (Sum.inl ((t2, t7, vy25.fst, Go.IntKind.i64.wrap (t9 + 1), ()), r0, r1, r2, ())))
                       (
                        .br (Decidable.decide (vy25.fst > t8))
                         (
                          .ret (Sum.inl ((t2, t7, vy25.fst, Go.IntKind.i64.wrap (t9 + 1), ()), r0, r1, r2, ())))
                         (
                          .ret (Sum.inl ((t2, t7, t8, Go.IntKind.i64.wrap (t9 + 1), ()), r0, r1, r2, ()))))))))))))
       (
        .ret (Sum.inr (Sum.inl ((t7, t8, ()), r2, ())))) := by kernel_rfl
theorem ok_meniscusref1_ends_4 : LOK Tryz.prog (LoopR.of (sc 85 [2, 7, 8, 9, 3, 4, 6] (tCod 2 cBool (tCod 7 cInt (tCod 8 cInt (tCod 9 cInt (tOwn 3 0 (tOwn 4 1 (tOwn 6 2 tNil))))))) (rBox ccIv ccIv_ok (rBox ccIv ccIv_ok (rBox ccIv ccIv_ok rNil)))) (ocOr (ocExit 0 (sc 85 [7, 8, 6] (tCod 7 cInt (tCod 8 cInt (tOwn 6 0 tNil))) (rBox ccIv ccIv_ok rNil))) (ocRet (sc 85 [6] (tOwn 6 0 tNil) (rBox ccIv ccIv_ok rNil)))) endsRun) (loopAt Tryz.f76 4) := by
  refine loop_ok (EnvOK.add s_meniscusref1_Of (EnvOK.add s_meniscusref1_None (EnvOK.add s_meniscusref1_Mul (EnvOK.add s_meniscusref1_Div EnvOK.nil)))) (LFn.at (fn := Tryz.f76) LFn.nil 4) endsStep (n := 200) (fun x z h => ?_) endsRun_ok
  obtain ⟨⟨t2, t7, t8, t9, ⟨⟩⟩, ⟨r0, r1, r2, ⟨⟩⟩⟩ := x
  rw [tl_meniscusref1_ends_4]
  rw [← h]
  simp only [den_br, den_bind, den_ret, den_fail, den_inl, den_inr, decide_eq_true_eq]
  simp only [endsStep, endsX, endsY, endsF, beq_iff_eq, Bool.not_eq_true']
  by_cases hk : t9 < 4 <;> simp only [hk, if_true, if_false]
  by_cases hx : t9.tmod 2 = 1 <;> simp only [hx, if_true, if_false] <;> by_cases hy : IntKind.i64.wrap (t9.tdiv 2) = 1 <;> simp only [hy, if_true, if_false] <;> cases t2 <;> simp only [Bool.false_eq_true, if_true, if_false] <;> grind
theorem t_meniscusref1_ends (x0 : Iv) (x1 : Iv) (x2 : Bool) :
    evFn Tryz.prog (Env.add 40 (F2 cInt cInt cIv Iv.of) (Env.add 56 (F0 cIv Iv.none) (Env.add 75 (F3 cInt cInt cBool (cTwo cInt cBool) numMul) (Env.add 94 (F3 cInt cInt cBool (cTwo cInt cBool) numDiv) Env.nil)))) (Laws.add 4 (LoopR.of (sc 85 [2, 7, 8, 9, 3, 4, 6] (tCod 2 cBool (tCod 7 cInt (tCod 8 cInt (tCod 9 cInt (tOwn 3 0 (tOwn 4 1 (tOwn 6 2 tNil))))))) (rBox ccIv ccIv_ok (rBox ccIv ccIv_ok (rBox ccIv ccIv_ok rNil)))) (ocOr (ocExit 0 (sc 85 [7, 8, 6] (tCod 7 cInt (tCod 8 cInt (tOwn 6 0 tNil))) (rBox ccIv ccIv_ok rNil))) (ocRet (sc 85 [6] (tOwn 6 0 tNil) (rBox ccIv ccIv_ok rNil)))) endsRun) Laws.nil) 200 Tryz.f76 [cIv.av x0, cIv.av x1, cBool.av x2] [] cIv.dec =
      .get (Go.Proofs.YthdpjmkknodmpaaGreat.endsRun ((x2, 0, 0, 0, ()), x0, x1, Go.Proofs.YthdpjmkknodmpaaGreat.Iv.mk 0 0 Bool.false, ())) fun vy0 =>
      .sum (vy0)
       (fun vs1 =>
        .bind (Go.Proofs.YthdpjmkknodmpaaGreat.Iv.of vs1.fst.fst vs1.fst.snd.fst) fun viv2 =>
        .ret (viv2))
       (fun vs3 =>
        .ret (vs3.snd.fst)) := by kernel_rfl
theorem c_meniscusref1_ends (x0 : Iv) (x1 : Iv) (x2 : Bool) : Plain Tryz.prog 76 [cIv.enc x0, cIv.enc x1, cBool.enc x2] (cIv.enc (endsD x0 x1 x2)) :=
  plain_of_tree (n := 200) (EnvOK.add s_meniscusref1_Of (EnvOK.add s_meniscusref1_None (EnvOK.add s_meniscusref1_Mul (EnvOK.add s_meniscusref1_Div EnvOK.nil)))) Tryz.func76 (args := [cIv.av x0, cIv.av x1, cBool.av x2]) (by simp only [AV.vals, Cod.av_val]) (Nat.le_of_ble_eq_true (by kernel_rfl)) (LFn.add (fn := Tryz.f76) (i := 4) (by kernel_rfl) ok_meniscusref1_ends_4 LFn.nil) cIv (by
    rw [t_meniscusref1_ends]
    simp only [den_br, den_bind, den_ret, den_fail, den_inl, den_inr, den_gets, decide_eq_true_eq]
    simp only [endsRun, endsD, ends, if_true]
    cases x2 <;> simp only [endsF, Bool.false_eq_true, if_false, if_true] <;> split <;> rfl)
theorem s_meniscusref1_ends : Ev.Spec Tryz.prog 76 (F3 cIv cIv cBool cIv endsD) := spec3 (fun vs w => Tryz.call76 vs w) c_meniscusref1_ends

/-! meniscusref1.MulIv -/
theorem t_meniscusref1_MulIv (x0 : Iv) (x1 : Iv) :
    evFn Tryz.prog (Env.add 56 (F0 cIv Iv.none) (Env.add 66 (F1 cIv cBool Iv.right) (Env.add 76 (F3 cIv cIv cBool cIv endsD) Env.nil))) Laws.nil 200 Tryz.f77 [cIv.av x0, cIv.av x1] [] cIv.dec =
      .bind (x0.right) fun vb0 =>
      .br (!vb0)
       (
        .bind (Go.Proofs.YthdpjmkknodmpaaGreat.Iv.none) fun viv1 =>
        .ret (viv1))
       (
        .bind (x1.right) fun vb2 =>
        .br (!vb2)
         (
          .bind (Go.Proofs.YthdpjmkknodmpaaGreat.Iv.none) fun viv3 =>
          .ret (viv3))
         (
          .bind (Go.Proofs.YthdpjmkknodmpaaGreat.endsD x0 x1 Bool.false) fun viv4 =>
          .ret (viv4))) := by kernel_rfl
theorem c_meniscusref1_MulIv (x0 : Iv) (x1 : Iv) : Plain Tryz.prog 77 [cIv.enc x0, cIv.enc x1] (cIv.enc (Iv.mul x0 x1)) :=
  plain_of_tree (n := 200) (EnvOK.add s_meniscusref1_None (EnvOK.add s_meniscusref1_Right (EnvOK.add s_meniscusref1_ends EnvOK.nil))) Tryz.func77 (args := [cIv.av x0, cIv.av x1]) (by simp only [AV.vals, Cod.av_val]) (Nat.le_of_ble_eq_true (by kernel_rfl)) LFn.nil cIv (by
    rw [t_meniscusref1_MulIv]
    simp only [den_br, den_bind, den_ret, den_fail, den_inl, den_inr, decide_eq_true_eq]
    grind [Iv.mul, Iv.both, endsD])
theorem s_meniscusref1_MulIv : Ev.Spec Tryz.prog 77 (F2 cIv cIv cIv Iv.mul) := spec2 (fun vs w => Tryz.call77 vs w) c_meniscusref1_MulIv

/-! meniscusref1.DivIv -/
theorem t_meniscusref1_DivIv (x0 : Iv) (x1 : Iv) :
    evFn Tryz.prog (Env.add 56 (F0 cIv Iv.none) (Env.add 66 (F1 cIv cBool Iv.right) (Env.add 76 (F3 cIv cIv cBool cIv endsD) Env.nil))) Laws.nil 200 Tryz.f52 [cIv.av x0, cIv.av x1] [] cIv.dec =
      .bind (x0.right) fun vb0 =>
      .br (!vb0)
       (
        .bind (Go.Proofs.YthdpjmkknodmpaaGreat.Iv.none) fun viv1 =>
        .ret (viv1))
       (
        .bind (x1.right) fun vb2 =>
        .br (!vb2)
         (
          .bind (Go.Proofs.YthdpjmkknodmpaaGreat.Iv.none) fun viv3 =>
          .ret (viv3))
         (
          .br (Decidable.decide (x1.lo ≤ 0))
           (
            .br (Decidable.decide (x1.hi ≥ 0))
             (
              .bind (Go.Proofs.YthdpjmkknodmpaaGreat.Iv.none) fun viv4 =>
              .ret (viv4))
             (
              .bind (Go.Proofs.YthdpjmkknodmpaaGreat.endsD x0 x1 Bool.true) fun viv5 =>
              .ret (viv5)))
           (
            .bind (Go.Proofs.YthdpjmkknodmpaaGreat.endsD x0 x1 Bool.true) fun viv6 =>
            .ret (viv6)))) := by kernel_rfl
theorem c_meniscusref1_DivIv (x0 : Iv) (x1 : Iv) : Plain Tryz.prog 52 [cIv.enc x0, cIv.enc x1] (cIv.enc (Iv.div x0 x1)) :=
  plain_of_tree (n := 200) (EnvOK.add s_meniscusref1_None (EnvOK.add s_meniscusref1_Right (EnvOK.add s_meniscusref1_ends EnvOK.nil))) Tryz.func52 (args := [cIv.av x0, cIv.av x1]) (by simp only [AV.vals, Cod.av_val]) (Nat.le_of_ble_eq_true (by kernel_rfl)) LFn.nil cIv (by
    rw [t_meniscusref1_DivIv]
    simp only [den_br, den_bind, den_ret, den_fail, den_inl, den_inr, decide_eq_true_eq]
    grind [Iv.div, Iv.both, Iv.has, endsD])
theorem s_meniscusref1_DivIv : Ev.Spec Tryz.prog 52 (F2 cIv cIv cIv Iv.div) := spec2 (fun vs w => Tryz.call52 vs w) c_meniscusref1_DivIv
end Go.Proofs.YthdpjmkknodmpaaGreat
