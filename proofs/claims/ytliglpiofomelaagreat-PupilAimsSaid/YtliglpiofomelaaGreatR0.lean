/-
  Contracts of calls, written by a small program of this session out of the evaluator's trees.
-/
import Derived.Test.YtliglpiofomelaaGreatCore
import Derived.Test.YtliglpiofomelaaGreatCoreLoops
import Derived.Test.YtliglpiofomelaaGreatCore2
import Derived.Test.YtliglpiofomelaaGreatCore3
import Derived.Test.YtliglpiofomelaaGreatCore4
import Derived.Test.YtliglpiofomelaaGreatCore5
import Derived.Test.YtliglpiofomelaaGreatCore6
import Derived.Test.YtliglpiofomelaaGreatCore7
import Derived.Test.YtliglpiofomelaaGreatCore8
import Derived.Test.YtliglpiofomelaaGreatEvMore
import Derived.Test.YtliglpiofomelaaGreatQ0
import Derived.Test.YtliglpiofomelaaGreatL0
import Derived.Test.YtliglpiofomelaaGreatEvCod
import Derived.Test.YtliglpiofomelaaGreatEvRet
import Derived.Test.YtliglpiofomelaaGreatProg
namespace Go.Proofs.YtliglpiofomelaaGreat
open Go Go.RowKit Ev
set_option maxRecDepth 100000
set_option linter.unusedVariables false
set_option linter.unusedSimpArgs false

/-! meniscusref14.kind -/
theorem t_meniscusref14_kind (x0 : Int) :
    evFn Tryz.prog Env.nil Laws.nil 200 Tryz.f152 [cInt.av x0] [] cInt.dec =
      .br (x0 == 2) (.ret (2)) (.ret (3)) := by kernel_rfl
theorem c_meniscusref14_kind (x0 : Int) : Plain Tryz.prog 152 [cInt.enc x0] (cInt.enc (kindOf x0)) :=
  plain_of_tree (n := 200) EnvOK.nil Tryz.func152 (args := [cInt.av x0]) (by simp only [AV.vals, Cod.av_val]) (Nat.le_of_ble_eq_true (by kernel_rfl)) LFn.nil cInt (by
    rw [t_meniscusref14_kind]
    simp only [den_br, den_bind, den_ret, den_fail, den_inl, den_inr, decide_eq_true_eq, gt_iff_lt, ge_iff_le, beq_iff_eq]
    simp only [kindOf]
    by_cases h : x0 = 2 <;> simp [h])
theorem s_meniscusref14_kind : Ev.Spec Tryz.prog 152 (F1 cInt cInt kindOf) := spec1 (fun vs w => Tryz.call152 vs w) c_meniscusref14_kind

/-! meniscusref14.Sag -/
theorem t_meniscusref14_Sag (x0 : Surf) (x1 : Iv) :
    evFn Tryz.prog (Env.add 80 (F1 cIv cBool Iv.right) (Env.add 86 (F2 cIv cIv cIv Iv.sub) (Env.add 88 (F1 cInt cIv Iv.point) (Env.add 99 (F2 cIv cIv cIv Iv.div) (Env.add 100 (F1 cInt cIv Iv.whole) (Env.add 101 (F2 cIv cIv cIv Iv.add) (Env.add 104 (F1 cIv cIv Iv.sqr) (Env.add 124 (F1 cIv cIv Iv.root) (Env.add 127 (F2 cIv cInt cIv Iv.times) (Env.add 136 (F0 cIv Iv.none) (Env.add 149 (F2 cIv cIv cIv Iv.mul) (Env.add 199 (FS (sc 2 [0, 1] (tSl 0 0 (tCod 1 cIv tNil)) (rL_iv rNil)) cIv (fun x => lenOk x.2.1) ((fun x => horner x.2.1 x.1.1))) (Env.add 200 (FR (sc 1 [0] (tSl 0 0 tNil) (rL_iv rNil)) (sc 1 [0] (tSl 0 0 tNil) (rG_iv 25 rNil)) (fun x => lenOk x.2.1) ((fun x => (((), (slope x.2.1, ())))))) Env.nil))))))))))))) Laws.nil 200 Tryz.f182 [cSurf.av x0, cIv.av x1] [] (cTwo cIv cIv).dec =
      .bind (Iv.point 65536) fun viv0 => .bind (x0.curve.sqr) fun viv1 => .bind (x0.conic.mul viv1) fun viv2 => .bind (viv2.mul x1) fun viv3 => .bind (viv0.sub viv3) fun viv4 => .bind (viv4.root) fun viv5 => .bind (x0.curve.mul x1) fun viv6 => .bind (viv0.add viv5) fun viv7 => .bind (viv6.div viv7) fun viv8 => .bind (viv5.times 2) fun viv9 => .bind (x0.curve.div viv9) fun viv10 => .br (x0.bent) (.bind (Iv.whole 1000) fun viv11 => .bind (x1.div viv11) fun viv12 => .bind (Iv.point 0) fun viv13 => .bind (Iv.point 0) fun viv14 => .br (Ev.lenOk [viv13, viv14, x0.a4, x0.a6]) (.bind (horner [viv13, viv14, x0.a4, x0.a6] viv12) fun viv15 => .bind (viv8.add viv15) fun viv16 => .br (Ev.lenOk [viv13, viv14, x0.a4, x0.a6]) (.bind (((), slope [viv13, viv14, x0.a4, x0.a6], ())) fun vy17 => .br (Ev.lenOk vy17.2.1) (.bind (horner vy17.2.1 viv12) fun viv18 => .bind (Iv.whole 1000) fun viv19 => .bind (viv18.div viv19) fun viv20 => .bind (viv10.add viv20) fun viv21 => .bind (viv16.right) fun vb22 => .br (!vb22) (.bind (Iv.none) fun viv23 => .bind (Iv.none) fun viv24 => .ret ((viv23, viv24))) (.bind (viv21.right) fun vb25 => .br (!vb25) (.bind (Iv.none) fun viv26 => .bind (Iv.none) fun viv27 => .ret ((viv26, viv27))) (.ret ((viv16, viv21))))) (.fail)) (.fail)) (.fail)) (.bind (viv8.right) fun vb28 => .br (!vb28) (.bind (Iv.none) fun viv29 => .bind (Iv.none) fun viv30 => .ret ((viv29, viv30))) (.bind (viv10.right) fun vb31 => .br (!vb31) (.bind (Iv.none) fun viv32 => .bind (Iv.none) fun viv33 => .ret ((viv32, viv33))) (.ret ((viv8, viv10))))) := by kernel_rfl
theorem c_meniscusref14_Sag (x0 : Surf) (x1 : Iv) : Plain Tryz.prog 182 [cSurf.enc x0, cIv.enc x1] ((cTwo cIv cIv).enc (sagOf x0 x1)) :=
  plain_of_tree (n := 200) (EnvOK.add s_meniscusref1_Right (EnvOK.add s_meniscusref1_Sub (EnvOK.add s_meniscusref1_Point (EnvOK.add s_meniscusref1_DivIv (EnvOK.add s_meniscusref1_Whole (EnvOK.add s_meniscusref1_Add (EnvOK.add s_meniscusref1_Sqr (EnvOK.add s_meniscusref1_RootIv (EnvOK.add s_meniscusref1_Times (EnvOK.add s_meniscusref14_none (EnvOK.add s_meniscusref1_MulIv (EnvOK.add s_meniscusref1_Horner (EnvOK.add s_meniscusref1_Slope EnvOK.nil))))))))))))) Tryz.func182 (args := [cSurf.av x0, cIv.av x1]) (by simp only [AV.vals, Cod.av_val]) (Nat.le_of_ble_eq_true (by kernel_rfl)) LFn.nil (cTwo cIv cIv) (by
    rw [t_meniscusref14_Sag]
    simp only [den_br, den_bind, den_ret, den_fail, den_inl, den_inr, decide_eq_true_eq]
    have l1 : lenOk [Iv.point 0, Iv.point 0, x0.a4, x0.a6] = true := rfl
    have l2 : lenOk (slope [Iv.point 0, Iv.point 0, x0.a4, x0.a6]) = true := rfl
    simp only [l1, l2, if_true]
    by_cases hb : x0.bent = true
    · simp only [hb, if_true, sagOf, sagPre, sagBent, sagRound, no_add]
      grind
    · simp only [hb, if_false, sagOf, sagPre, sagRound, Bool.false_eq_true, no_div]
      grind)
theorem s_meniscusref14_Sag : Ev.Spec Tryz.prog 182 (F2 cSurf cIv (cTwo cIv cIv) sagOf) := spec2 (fun vs w => Tryz.call182 vs w) c_meniscusref14_Sag

/-! meniscusref8.Within -/
theorem t_meniscusref8_Within (x0 : Int) (x1 : Int) (x2 : Int) :
    evFn Tryz.prog Env.nil Laws.nil 200 Tryz.f116 [cInt.av x0, cInt.av x1, cInt.av x2] [] cInt.dec =
      .ret (Max.max x1 (Min.min x2 x0)) := by kernel_rfl
theorem c_meniscusref8_Within (x0 : Int) (x1 : Int) (x2 : Int) : Plain Tryz.prog 116 [cInt.enc x0, cInt.enc x1, cInt.enc x2] (cInt.enc (within x0 x1 x2)) :=
  plain_of_tree (n := 200) EnvOK.nil Tryz.func116 (args := [cInt.av x0, cInt.av x1, cInt.av x2]) (by simp only [AV.vals, Cod.av_val]) (Nat.le_of_ble_eq_true (by kernel_rfl)) LFn.nil cInt (by
    rw [t_meniscusref8_Within]
    rfl)
theorem s_meniscusref8_Within : Ev.Spec Tryz.prog 116 (F3 cInt cInt cInt cInt within) := spec3 (fun vs w => Tryz.call116 vs w) c_meniscusref8_Within

/-! meniscushand.Wide -/
theorem t_meniscushand_Wide (x0 : Int) (x1 : Int) :
    evFn Tryz.prog (Env.add 116 (F3 cInt cInt cInt cInt within) Env.nil) Laws.nil 200 Tryz.f62 [cInt.av x0, cInt.av x1] [] cIv.dec =
      .bind (within x0 (-1073741824) 1073741824) fun vn0 => .ret (Iv.mk vn0 (Min.min 1073741824 (IntKind.i64.wrap (vn0 + x1))) false) := by kernel_rfl
theorem c_meniscushand_Wide (x0 : Int) (x1 : Int) : Plain Tryz.prog 62 [cInt.enc x0, cInt.enc x1] (cIv.enc (wide x0 x1)) :=
  plain_of_tree (n := 200) (EnvOK.add s_meniscusref8_Within EnvOK.nil) Tryz.func62 (args := [cInt.av x0, cInt.av x1]) (by simp only [AV.vals, Cod.av_val]) (Nat.le_of_ble_eq_true (by kernel_rfl)) LFn.nil cIv (by
    rw [t_meniscushand_Wide]
    rfl)
theorem s_meniscushand_Wide : Ev.Spec Tryz.prog 62 (F2 cInt cInt cIv wide) := spec2 (fun vs w => Tryz.call62 vs w) c_meniscushand_Wide

/-! meniscushand.Num -/
theorem t_meniscushand_Num (x0 : Int) :
    evFn Tryz.prog (Env.add 16 (F2p cInt cInt cInt pickOk pick) Env.nil) Laws.nil 200 Tryz.f76 [cInt.av x0] [] cInt.dec =
      .br (pickOk x0 9) (.bind (pick x0 9) fun vn0 => .br (vn0 == 0) (.ret (x0)) (.br (vn0 == 1) (.br (pickOk (IntKind.i64.wrap (x0.tdiv 9)) 201) (.bind (pick (IntKind.i64.wrap (x0.tdiv 9)) 201) fun vn1 => .ret (IntKind.i64.wrap (IntKind.i64.wrap (vn1 - 100) * 65536))) (.fail)) (.br (vn0 == 2) (.br (pickOk (IntKind.i64.wrap (x0.tdiv 9)) 9) (.bind (pick (IntKind.i64.wrap (x0.tdiv 9)) 9) fun vn2 => .ret (IntKind.i64.wrap (vn2 - 4))) (.fail)) (.br (vn0 == 3) (.br (pickOk (IntKind.i64.wrap (x0.tdiv 9)) 2147483657) (.bind (pick (IntKind.i64.wrap (x0.tdiv 9)) 2147483657) fun vn3 => .ret (IntKind.i64.wrap (IntKind.i64.wrap (vn3 - 1073741824) - 4))) (.fail)) (.br (pickOk (IntKind.i64.wrap (x0.tdiv 9)) 2621440) (.bind (pick (IntKind.i64.wrap (x0.tdiv 9)) 2621440) fun vn4 => .ret (IntKind.i64.wrap (vn4 - 1310720))) (.fail)))))) (.fail) := by kernel_rfl
theorem c_meniscushand_Num (x0 : Int) : Plain Tryz.prog 76 [cInt.enc x0] (cInt.enc (num x0)) :=
  plain_of_tree (n := 200) (EnvOK.add s_meniscushand_Pick EnvOK.nil) Tryz.func76 (args := [cInt.av x0]) (by simp only [AV.vals, Cod.av_val]) (Nat.le_of_ble_eq_true (by kernel_rfl)) LFn.nil cInt (by
    rw [t_meniscushand_Num]
    have b1 := pick_bd (dv x0 9) (m := 201) (by decide)
    have b2 := pick_bd (dv x0 9) (m := 9) (by decide)
    have b3 := pick_bd (dv x0 9) (m := 2147483657) (by decide)
    have b4 := pick_bd (dv x0 9) (m := 2621440) (by decide)
    simp only [Tr.den, dv_eq, num]
    simp (disch := omega) only [IntWalk.i64_in]
    grind [pickOk])
theorem s_meniscushand_Num : Ev.Spec Tryz.prog 76 (F1 cInt cInt num) := spec1 (fun vs w => Tryz.call76 vs w) c_meniscushand_Num

/-! meniscushand.Iv -/
theorem t_meniscushand_Iv (x0 : Int) (x1 : Int) :
    evFn Tryz.prog (Env.add 16 (F2p cInt cInt cInt pickOk pick) (Env.add 62 (F2 cInt cInt cIv wide) (Env.add 76 (F1 cInt cInt num) Env.nil))) Laws.nil 200 Tryz.f27 [cInt.av x0, cInt.av x1] [] cIv.dec =
      .bind (num x0) fun vn0 => .br (pickOk x1 12) (.bind (pick x1 12) fun vn1 => .br (vn1 == 0) (.bind (num (IntKind.i64.wrap (x1.tdiv 12))) fun vn2 => .ret (Iv.mk vn0 vn2 false)) (.br (vn1 == 1) (.br (pickOk (IntKind.i64.wrap (x1.tdiv 12)) 5) (.bind (pick (IntKind.i64.wrap (x1.tdiv 12)) 5) fun vn3 => .ret (Iv.mk vn0 vn0 (vn3 == 4))) (.fail)) (.br (vn1 == 2) (.ret (Iv.mk vn0 vn0 false)) (.br (vn1 == 3) (.ret (Iv.mk vn0 vn0 false)) (.br (pickOk (IntKind.i64.wrap (x1.tdiv 12)) 9000) (.bind (pick (IntKind.i64.wrap (x1.tdiv 12)) 9000) fun vn4 => .bind (wide vn0 vn4) fun viv5 => .ret (viv5)) (.fail)))))) (.fail) := by kernel_rfl
theorem c_meniscushand_Iv (x0 : Int) (x1 : Int) : Plain Tryz.prog 27 [cInt.enc x0, cInt.enc x1] (cIv.enc (rawIv x0 x1)) :=
  plain_of_tree (n := 200) (EnvOK.add s_meniscushand_Pick (EnvOK.add s_meniscushand_Wide (EnvOK.add s_meniscushand_Num EnvOK.nil))) Tryz.func27 (args := [cInt.av x0, cInt.av x1]) (by simp only [AV.vals, Cod.av_val]) (Nat.le_of_ble_eq_true (by kernel_rfl)) LFn.nil cIv (by
    rw [t_meniscushand_Iv]
    simp only [Tr.den, dv_eq, rawIv]
    grind [pickOk])
theorem s_meniscushand_Iv : Ev.Spec Tryz.prog 27 (F2 cInt cInt cIv rawIv) := spec2 (fun vs w => Tryz.call27 vs w) c_meniscushand_Iv

/-! meniscusref14.sure -/
theorem t_meniscusref14_sure (x0 : Iv) :
    evFn Tryz.prog (Env.add 80 (F1 cIv cBool Iv.right) (Env.add 206 (F2 cIv cInt cBool Iv.has) Env.nil)) Laws.nil 200 Tryz.f197 [cIv.av x0] [] cBool.dec =
      .bind (x0.right) fun vb0 => .br (vb0) (.bind (x0.has 0) fun vb1 => .ret (!vb1)) (.ret (false)) := by kernel_rfl
theorem c_meniscusref14_sure (x0 : Iv) : Plain Tryz.prog 197 [cIv.enc x0] (cBool.enc (((fun v => v.right && !v.has 0)) x0)) :=
  plain_of_tree (n := 200) (EnvOK.add s_meniscusref1_Right (EnvOK.add s_meniscusref1_Has EnvOK.nil)) Tryz.func197 (args := [cIv.av x0]) (by simp only [AV.vals, Cod.av_val]) (Nat.le_of_ble_eq_true (by kernel_rfl)) LFn.nil cBool (by
    rw [t_meniscusref14_sure]
    simp only [den_br, den_bind, den_ret, den_fail, den_inl, den_inr, decide_eq_true_eq]
    grind [])
theorem s_meniscusref14_sure : Ev.Spec Tryz.prog 197 (F1 cIv cBool ((fun v => v.right && !v.has 0))) := spec1 (fun vs w => Tryz.call197 vs w) c_meniscusref14_sure

/-! (meniscus/meniscusref14.Fn).At -/
theorem t_meniscusref14_Fn_At (t0a : Unit) (t0b : Bool × Surf × Ray) (t1 : Iv) (r0 : List Iv) :
    evFn Tryz.prog (Env.add 86 (F2 cIv cIv cIv Iv.sub) (Env.add 101 (F2 cIv cIv cIv Iv.add) (Env.add 104 (F1 cIv cIv Iv.sqr) (Env.add 127 (F2 cIv cInt cIv Iv.times) (Env.add 137 (F2 cRay cIv cV along) (Env.add 149 (F2 cIv cIv cIv Iv.mul) (Env.add 182 (F2 cSurf cIv (cTwo cIv cIv) sagOf) (Env.add 199 (FS (sc 2 [0, 1] (tSl 0 0 (tCod 1 cIv tNil)) (rL_iv rNil)) cIv (fun x => lenOk x.2.1) ((fun x => horner x.2.1 x.1.1))) (Env.add 200 (FR (sc 1 [0] (tSl 0 0 tNil) (rL_iv rNil)) (sc 1 [0] (tSl 0 0 tNil) (rG_iv 25 rNil)) (fun x => lenOk x.2.1) ((fun x => (((), (slope x.2.1, ())))))) Env.nil))))))))) Laws.nil 200 Tryz.f195 (((sc 2 [0, 1] (tAgg 0 0 ccNil ccNil_ok (ccTwo ccBool (ccTwo ccSurf ccRay)) (ccTwo_ok ccBool_ok (ccTwo_ok ccSurf_ok ccRay_ok)) (tCod 1 cIv tNil)) (rL_iv rNil)).enc ((t0a, t0b, t1, ()), (r0, ()))).tmps.map Prod.snd) ((sc 2 [0, 1] (tAgg 0 0 ccNil ccNil_ok (ccTwo ccBool (ccTwo ccSurf ccRay)) (ccTwo_ok ccBool_ok (ccTwo_ok ccSurf_ok ccRay_ok)) (tCod 1 cIv tNil)) (rL_iv rNil)).enc ((t0a, t0b, t1, ()), (r0, ()))).mem (cTwo cIv cIv).dec =
      .br (!t0b.1) (.br (Ev.lenOk r0) (.bind (horner r0 t1) fun viv0 => .br (Ev.lenOk r0) (.bind (((), slope r0, ())) fun vy1 => .br (Ev.lenOk vy1.2.1) (.bind (horner vy1.2.1 t1) fun viv2 => .ret ((viv0, viv2))) (.fail)) (.fail)) (.fail)) (.bind (along t0b.2.2 t1) fun vv3 => .bind (vv3.x.sqr) fun viv4 => .bind (vv3.y.sqr) fun viv5 => .bind (viv4.add viv5) fun viv6 => .bind (sagOf t0b.2.1 viv6) fun vy7 => .bind (vv3.x.mul t0b.2.2.d.x) fun viv8 => .bind (vv3.y.mul t0b.2.2.d.y) fun viv9 => .bind (viv8.add viv9) fun viv10 => .bind (vv3.z.sub vy7.1) fun viv11 => .bind (viv10.times 2) fun viv12 => .bind (vy7.2.mul viv12) fun viv13 => .bind (t0b.2.2.d.z.sub viv13) fun viv14 => .ret ((viv11, viv14))) := by kernel_rfl
theorem c_meniscusref14_Fn_At : PlainS Tryz.prog 195 (sc 2 [0, 1] (tAgg 0 0 ccNil ccNil_ok (ccTwo ccBool (ccTwo ccSurf ccRay)) (ccTwo_ok ccBool_ok (ccTwo_ok ccSurf_ok ccRay_ok)) (tCod 1 cIv tNil)) (rL_iv rNil)) (cTwo cIv cIv) (fun x => lenOk x.2.1) ((fun x => fnAt x.2.1 x.1.2.1.1 x.1.2.1.2.1 x.1.2.1.2.2 x.1.2.2.1)) := by
  intro x h N w vs hM hv
  obtain ⟨⟨t0a, t0b, t1, ⟨⟩⟩, ⟨r0, ⟨⟩⟩⟩ := x
  refine calls_of_tree (n := 200) (EnvOK.add s_meniscusref1_Sub (EnvOK.add s_meniscusref1_Add (EnvOK.add s_meniscusref1_Sqr (EnvOK.add s_meniscusref1_Times (EnvOK.add s_meniscusref1_Along (EnvOK.add s_meniscusref1_MulIv (EnvOK.add s_meniscusref14_Sag (EnvOK.add s_meniscusref1_Horner (EnvOK.add s_meniscusref1_Slope EnvOK.nil))))))))) Tryz.func195 hv (Nat.le_of_ble_eq_true (by kernel_rfl)) LFn.nil hM (cTwo cIv cIv) ?_
  rw [t_meniscusref14_Fn_At]
  simp only [den_br, den_bind, den_ret, den_fail, den_inl, den_inr, decide_eq_true_eq]
  simp only at h
  obtain ⟨f, s, r⟩ := t0b
  have h2 : lenOk (slope r0) = true := lenOk_iff.2 (by have := lenOk_iff.1 h; simp [slope]; omega)
  cases f
  · simp only [h, h2, if_true, Bool.not_false]
    rfl
  · rfl
theorem s_meniscusref14_Fn_At : Ev.Spec Tryz.prog 195 (FS (sc 2 [0, 1] (tAgg 0 0 ccNil ccNil_ok (ccTwo ccBool (ccTwo ccSurf ccRay)) (ccTwo_ok ccBool_ok (ccTwo_ok ccSurf_ok ccRay_ok)) (tCod 1 cIv tNil)) (rL_iv rNil)) (cTwo cIv cIv) (fun x => lenOk x.2.1) ((fun x => fnAt x.2.1 x.1.2.1.1 x.1.2.1.2.1 x.1.2.1.2.2 x.1.2.2.1))) := specS rfl (fun vs w => Tryz.call195 vs w) c_meniscusref14_Fn_At

/-! (meniscus/meniscusref14.Fn).Solve -/
theorem tl_meniscusref14_Fn_Solve_6 (t8 : Bool) (t9 : Int) (t2 : Int) (r0 : Iv) (r1 : Iv) (r2 : Bool × Surf × Ray) (r3 : List Iv) :
    ev Tryz.prog (Env.add 80 (F1 cIv cBool Iv.right) (Env.add 86 (F2 cIv cIv cIv Iv.sub) (Env.add 88 (F1 cInt cIv Iv.point) (Env.add 99 (F2 cIv cIv cIv Iv.div) (Env.add 136 (F0 cIv Iv.none) (Env.add 194 (F1 cIv cInt Iv.mid) (Env.add 195 (FS (sc 2 [0, 1] (tAgg 0 0 ccNil ccNil_ok (ccTwo ccBool (ccTwo ccSurf ccRay)) (ccTwo_ok ccBool_ok (ccTwo_ok ccSurf_ok ccRay_ok)) (tCod 1 cIv tNil)) (rL_iv rNil)) (cTwo cIv cIv) (fun x => lenOk x.2.1) ((fun x => fnAt x.2.1 x.1.2.1.1 x.1.2.1.2.1 x.1.2.1.2.2 x.1.2.2.1))) (Env.add 196 (F1 cIv (cTwo cIv cIv) Iv.split) (Env.add 197 (F1 cIv cBool ((fun v => v.right && !v.has 0))) (Env.add 198 (F2 cIv cIv cIv Iv.meet) Env.nil)))))))))) Laws.nil 200 none (loopAt Tryz.f179 6) ((sc 113 [8, 9, 2, 4, 6, 3] (tCod 8 cBool (tCod 9 cInt (tCod 2 cInt (tOwn 4 0 (tOwn 6 1 (tOwn 3 2 tNil)))))) (rBox ccIv ccIv_ok (rBox ccIv ccIv_ok (rBoxSl 3 (ccTwo ccBool (ccTwo ccSurf ccRay)) (ccTwo_ok ccBool_ok (ccTwo_ok ccSurf_ok ccRay_ok)) (rL_iv rNil))))).enc ((t8, t9, t2, ()), (r0, r1, r2, r3, ()))) (backK (sc 113 [8, 9, 2, 4, 6, 3] (tCod 8 cBool (tCod 9 cInt (tCod 2 cInt (tOwn 4 0 (tOwn 6 1 (tOwn 3 2 tNil)))))) (rBox ccIv ccIv_ok (rBox ccIv ccIv_ok (rBoxSl 3 (ccTwo ccBool (ccTwo ccSurf ccRay)) (ccTwo_ok ccBool_ok (ccTwo_ok ccSurf_ok ccRay_ok)) (rL_iv rNil))))) (ocOr (ocExit 0 (sc 113 [8, 4, 6] (tCod 8 cBool (tOwn 4 0 (tOwn 6 1 tNil))) (rBox ccIv ccIv_ok (rBox ccIv ccIv_ok rNil)))) (ocRet (sc 113 [7, 6] (tCod 7 cInt (tOwn 6 0 tNil)) (rBox ccIv ccIv_ok rNil))))) =
      .br (decide (t9 < t2)) (.bind (r0.mid) fun vn0 => .bind (Iv.point vn0) fun viv1 => .br (Ev.lenOk r3) (.bind (fnAt r3 r2.1 r2.2.1 r2.2.2 viv1) fun vy2 => .br (Ev.lenOk r3) (.bind (fnAt r3 r2.1 r2.2.1 r2.2.2 r0) fun vy3 => .bind (vy2.1.div vy3.2) fun viv4 => .bind (viv1.sub viv4) fun viv5 => .bind (viv5.right) fun vb6 => .br (!vb6) (.bind (r0.split) fun vy7 => .br (Ev.lenOk r3) (.bind (fnAt r3 r2.1 r2.2.1 r2.2.2 vy7.1) fun vy8 => .br (Ev.lenOk r3) (.bind (fnAt r3 r2.1 r2.2.1 r2.2.2 vy7.2) fun vy9 => .bind (vy8.1.right && !vy8.1.has 0) fun vb10 => .br (vb10) (.ret (Sum.inl ((t8, IntKind.i64.wrap (t9 + 1), t2, ()), vy7.2, r1, r2, r3, ()))) (.bind (vy9.1.right && !vy9.1.has 0) fun vb11 => .br (vb11) (.ret (Sum.inl ((t8, IntKind.i64.wrap (t9 + 1), t2, ()), vy7.1, r1, r2, r3, ()))) (.bind (Iv.none) fun viv12 => .ret (Sum.inr (Sum.inr ((0, ()), viv12, ())))))) (.fail)) (.fail)) (.br (t8) (.bind (r0.meet viv5) fun viv13 => .bind (viv13.right) fun vb14 => .br (!vb14) (.bind (Iv.none) fun viv15 => .ret (Sum.inr (Sum.inr ((2, ()), viv15, ())))) (.br (viv13.lo == r0.lo && (viv13.hi == r0.hi && viv13.no == r0.no)) (.ret (Sum.inr (Sum.inl ((true, ()), r0, r1, ())))) (.ret (Sum.inl ((true, IntKind.i64.wrap (t9 + 1), t2, ()), viv13, r1, r2, r3, ()))))) (.br (decide (r0.lo < viv5.lo)) (.bind (r0.meet viv5) fun viv16 => .bind (viv16.right) fun vb17 => .br (!vb17) (.bind (Iv.none) fun viv18 => .ret (Sum.inr (Sum.inr ((2, ()), viv18, ())))) (.br (viv16.lo == r0.lo && (viv16.hi == r0.hi && viv16.no == r0.no)) (.ret (Sum.inr (Sum.inl ((decide (viv5.hi < r0.hi), ()), r0, r1, ())))) (.ret (Sum.inl ((decide (viv5.hi < r0.hi), IntKind.i64.wrap (t9 + 1), t2, ()), viv16, r1, r2, r3, ()))))) (.bind (r0.meet viv5) fun viv19 => .bind (viv19.right) fun vb20 => .br (!vb20) (.bind (Iv.none) fun viv21 => .ret (Sum.inr (Sum.inr ((2, ()), viv21, ())))) (.br (viv19.lo == r0.lo && (viv19.hi == r0.hi && viv19.no == r0.no)) (.ret (Sum.inr (Sum.inl ((false, ()), r0, r1, ())))) (.ret (Sum.inl ((false, IntKind.i64.wrap (t9 + 1), t2, ()), viv19, r1, r2, r3, ())))))))) (.fail)) (.fail)) (.ret (Sum.inr (Sum.inl ((t8, ()), r0, r1, ())))) := by kernel_rfl
theorem ok_meniscusref14_Fn_Solve_6 : LOK Tryz.prog (LoopR.of (sc 113 [8, 9, 2, 4, 6, 3] (tCod 8 cBool (tCod 9 cInt (tCod 2 cInt (tOwn 4 0 (tOwn 6 1 (tOwn 3 2 tNil)))))) (rBox ccIv ccIv_ok (rBox ccIv ccIv_ok (rBoxSl 3 (ccTwo ccBool (ccTwo ccSurf ccRay)) (ccTwo_ok ccBool_ok (ccTwo_ok ccSurf_ok ccRay_ok)) (rL_iv rNil))))) (ocOr (ocExit 0 (sc 113 [8, 4, 6] (tCod 8 cBool (tOwn 4 0 (tOwn 6 1 tNil))) (rBox ccIv ccIv_ok (rBox ccIv ccIv_ok rNil)))) (ocRet (sc 113 [7, 6] (tCod 7 cInt (tOwn 6 0 tNil)) (rBox ccIv ccIv_ok rNil)))) fnRun) (loopAt Tryz.f179 6) := by
  refine loop_ok (EnvOK.add s_meniscusref1_Right (EnvOK.add s_meniscusref1_Sub (EnvOK.add s_meniscusref1_Point (EnvOK.add s_meniscusref1_DivIv (EnvOK.add s_meniscusref14_none (EnvOK.add s_meniscusref1_Mid (EnvOK.add s_meniscusref14_Fn_At (EnvOK.add s_meniscusref1_Split (EnvOK.add s_meniscusref14_sure (EnvOK.add s_meniscusref1_Meet EnvOK.nil)))))))))) (LFn.at (fn := Tryz.f179) LFn.nil 6) fnStep (n := 200) (fun x z h => ?_) fnRun_ok
  obtain ⟨⟨t8, t9, t2, ⟨⟩⟩, ⟨r0, r1, r2, r3, ⟨⟩⟩⟩ := x
  rw [tl_meniscusref14_Fn_Solve_6]
  rw [← h]
  simp only [den_br, den_bind, den_ret, den_fail, den_inl, den_inr, decide_eq_true_eq]
  by_cases hk : t9 < t2
  case neg => simp only [fnStep, hk, if_false]
  simp only [fnStep, solveSure, hk, if_true]
  cases hl : lenOk r3
  case false => simp
  simp only [if_true]
  generalize fnAt r3 r2.1 r2.2.1 r2.2.2 = F
  rw [show (Iv.point r0.mid).sub ((F (Iv.point r0.mid)).1.div (F r0).2) = nextN F r0 from rfl]
  have hn : (!(nextN F r0).right) = (nextN F r0).no := no_sub _ _
  rw [hn, no_meet r0 (nextN F r0)]
  generalize nextN F r0 = n
  cases h1 : n.no
  case true =>
    simp only [if_true, without]
    rfl
  simp only [Bool.false_eq_true, if_false, solveSure, ivEq, ltB]
  cases t8 <;> simp only [Bool.false_eq_true, if_true, if_false, Bool.true_or, Bool.false_or]
  by_cases h2 : r0.lo < n.lo <;> simp only [h2, if_true, if_false, decide_true, decide_false, Bool.true_and, Bool.false_and]
theorem t_meniscusref14_Fn_Solve (t0a : Unit) (t0b : Bool × Surf × Ray) (t1 : Iv) (t2 : Int) (r0 : List Iv) :
    evFn Tryz.prog (Env.add 80 (F1 cIv cBool Iv.right) (Env.add 86 (F2 cIv cIv cIv Iv.sub) (Env.add 88 (F1 cInt cIv Iv.point) (Env.add 99 (F2 cIv cIv cIv Iv.div) (Env.add 136 (F0 cIv Iv.none) (Env.add 194 (F1 cIv cInt Iv.mid) (Env.add 195 (FS (sc 2 [0, 1] (tAgg 0 0 ccNil ccNil_ok (ccTwo ccBool (ccTwo ccSurf ccRay)) (ccTwo_ok ccBool_ok (ccTwo_ok ccSurf_ok ccRay_ok)) (tCod 1 cIv tNil)) (rL_iv rNil)) (cTwo cIv cIv) (fun x => lenOk x.2.1) ((fun x => fnAt x.2.1 x.1.2.1.1 x.1.2.1.2.1 x.1.2.1.2.2 x.1.2.2.1))) (Env.add 196 (F1 cIv (cTwo cIv cIv) Iv.split) (Env.add 197 (F1 cIv cBool ((fun v => v.right && !v.has 0))) (Env.add 198 (F2 cIv cIv cIv Iv.meet) Env.nil)))))))))) (Laws.add 6 (LoopR.of (sc 113 [8, 9, 2, 4, 6, 3] (tCod 8 cBool (tCod 9 cInt (tCod 2 cInt (tOwn 4 0 (tOwn 6 1 (tOwn 3 2 tNil)))))) (rBox ccIv ccIv_ok (rBox ccIv ccIv_ok (rBoxSl 3 (ccTwo ccBool (ccTwo ccSurf ccRay)) (ccTwo_ok ccBool_ok (ccTwo_ok ccSurf_ok ccRay_ok)) (rL_iv rNil))))) (ocOr (ocExit 0 (sc 113 [8, 4, 6] (tCod 8 cBool (tOwn 4 0 (tOwn 6 1 tNil))) (rBox ccIv ccIv_ok (rBox ccIv ccIv_ok rNil)))) (ocRet (sc 113 [7, 6] (tCod 7 cInt (tOwn 6 0 tNil)) (rBox ccIv ccIv_ok rNil)))) fnRun) Laws.nil) 200 Tryz.f179 (((sc 3 [0, 1, 2] (tAgg 0 0 ccNil ccNil_ok (ccTwo ccBool (ccTwo ccSurf ccRay)) (ccTwo_ok ccBool_ok (ccTwo_ok ccSurf_ok ccRay_ok)) (tCod 1 cIv (tCod 2 cInt tNil))) (rL_iv rNil)).enc ((t0a, t0b, t1, t2, ()), (r0, ()))).tmps.map Prod.snd) ((sc 3 [0, 1, 2] (tAgg 0 0 ccNil ccNil_ok (ccTwo ccBool (ccTwo ccSurf ccRay)) (ccTwo_ok ccBool_ok (ccTwo_ok ccSurf_ok ccRay_ok)) (tCod 1 cIv (tCod 2 cInt tNil))) (rL_iv rNil)).enc ((t0a, t0b, t1, t2, ()), (r0, ()))).mem (cTwo cIv cInt).dec =
      .bind (t1.right) fun vb0 => .br (!vb0) (.bind (Iv.none) fun viv1 => .ret ((viv1, 0))) (.get (fnRun ((false, 0, Max.max 0 (Min.min 40 t2), ()), t1, Iv.mk 0 0 false, t0b, r0, ())) fun vy2 => .sum (vy2) (fun vs3 => .br (vs3.1.1) (.ret ((vs3.2.1, 1))) (.bind (Iv.none) fun viv4 => .ret ((viv4, 0)))) (fun vs5 => .ret ((vs5.2.1, vs5.1.1)))) := by kernel_rfl
theorem c_meniscusref14_Fn_Solve : PlainS Tryz.prog 179 (sc 3 [0, 1, 2] (tAgg 0 0 ccNil ccNil_ok (ccTwo ccBool (ccTwo ccSurf ccRay)) (ccTwo_ok ccBool_ok (ccTwo_ok ccSurf_ok ccRay_ok)) (tCod 1 cIv (tCod 2 cInt tNil))) (rL_iv rNil)) (cTwo cIv cInt) (fun x => lenOk x.2.1) ((fun x => _root_.Go.Proofs.YtliglpiofomelaaGreat.solve (fnAt x.2.1 x.1.2.1.1 x.1.2.1.2.1 x.1.2.1.2.2) x.1.2.2.1 x.1.2.2.2.1)) := by
  intro x h N w vs hM hv
  obtain ⟨⟨t0a, t0b, t1, t2, ⟨⟩⟩, ⟨r0, ⟨⟩⟩⟩ := x
  refine calls_of_tree (n := 200) (EnvOK.add s_meniscusref1_Right (EnvOK.add s_meniscusref1_Sub (EnvOK.add s_meniscusref1_Point (EnvOK.add s_meniscusref1_DivIv (EnvOK.add s_meniscusref14_none (EnvOK.add s_meniscusref1_Mid (EnvOK.add s_meniscusref14_Fn_At (EnvOK.add s_meniscusref1_Split (EnvOK.add s_meniscusref14_sure (EnvOK.add s_meniscusref1_Meet EnvOK.nil)))))))))) Tryz.func179 hv (Nat.le_of_ble_eq_true (by kernel_rfl)) (LFn.add (fn := Tryz.f179) (i := 6) (by kernel_rfl) ok_meniscusref14_Fn_Solve_6 LFn.nil) hM (cTwo cIv cInt) ?_
  rw [t_meniscusref14_Fn_Solve]
  simp only [den_br, den_bind, den_ret, den_fail, den_inl, den_inr, den_gets, decide_eq_true_eq]
  simp only at h
  obtain ⟨f, s, r⟩ := t0b
  cases h0 : t1.right
  · simp [_root_.Go.Proofs.YtliglpiofomelaaGreat.solve, h0]
  have hr : ∀ (res : Iv), fnRun ((false, 0, max 0 (min 40 t2), ()), (t1, res, (f, s, r), r0, ())) = some (fnY (solveOut (fnAt r0 f s r) res (rounds t2) t1 false)) := by
    intro res
    simp only [fnRun]
    rw [if_pos ⟨h, by omega, by omega, by omega⟩]
    have : (max 0 (min 40 t2) - 0).toNat = rounds t2 := by simp only [rounds]; omega
    rw [this]
  rw [hr]
  simp only [Bool.not_true, Bool.false_eq_true, if_false, Option.bind_some, _root_.Go.Proofs.YtliglpiofomelaaGreat.solve, h0, if_true]
  rw [← solveEnd_out _ ⟨0, 0, false⟩]
  generalize solveOut _ _ _ _ _ = y
  rcases y with ⟨⟨sure, _⟩, ⟨t, res, _⟩⟩ | ⟨⟨is, _⟩, ⟨r, _⟩⟩ | ⟨_, ⟨r, _⟩⟩
  · cases sure <;> rfl
  · rfl
  · rfl
theorem s_meniscusref14_Fn_Solve : Ev.Spec Tryz.prog 179 (FS (sc 3 [0, 1, 2] (tAgg 0 0 ccNil ccNil_ok (ccTwo ccBool (ccTwo ccSurf ccRay)) (ccTwo_ok ccBool_ok (ccTwo_ok ccSurf_ok ccRay_ok)) (tCod 1 cIv (tCod 2 cInt tNil))) (rL_iv rNil)) (cTwo cIv cInt) (fun x => lenOk x.2.1) ((fun x => _root_.Go.Proofs.YtliglpiofomelaaGreat.solve (fnAt x.2.1 x.1.2.1.1 x.1.2.1.2.1 x.1.2.1.2.2) x.1.2.2.1 x.1.2.2.2.1))) := specS rfl (fun vs w => Tryz.call179 vs w) c_meniscusref14_Fn_Solve

/-! meniscusref14.Hit -/
theorem t_meniscusref14_Hit (x0 : Surf) (x1 : Ray) :
    evFn Tryz.prog (Env.add 86 (F2 cIv cIv cIv Iv.sub) (Env.add 89 (F1 cV cBool V.right) (Env.add 98 (F2 cInt cInt cIv Iv.of) (Env.add 101 (F2 cIv cIv cIv Iv.add) (Env.add 104 (F1 cIv cIv Iv.sqr) (Env.add 127 (F2 cIv cInt cIv Iv.times) (Env.add 136 (F0 cIv Iv.none) (Env.add 137 (F2 cRay cIv cV along) (Env.add 149 (F2 cIv cIv cIv Iv.mul) (Env.add 156 (F0 cV V.none) (Env.add 178 (F3 cIv cIv cIv (cTwo cIv cInt) near) (Env.add 179 (FS (sc 3 [0, 1, 2] (tAgg 0 0 ccNil ccNil_ok (ccTwo ccBool (ccTwo ccSurf ccRay)) (ccTwo_ok ccBool_ok (ccTwo_ok ccSurf_ok ccRay_ok)) (tCod 1 cIv (tCod 2 cInt tNil))) (rL_iv rNil)) (cTwo cIv cInt) (fun x => lenOk x.2.1) ((fun x => _root_.Go.Proofs.YtliglpiofomelaaGreat.solve (fnAt x.2.1 x.1.2.1.1 x.1.2.1.2.1 x.1.2.1.2.2) x.1.2.2.1 x.1.2.2.2.1))) Env.nil)))))))))))) Laws.nil 200 Tryz.f151 [cSurf.av x0, cRay.av x1] [] (cThree cIv cV cInt).dec =
      .bind (x1.o.z.sub x0.at_) fun viv0 => .bind (x1.d.x.sqr) fun viv1 => .bind (x1.d.y.sqr) fun viv2 => .bind (viv1.add viv2) fun viv3 => .bind (x1.d.z.sqr) fun viv4 => .bind (x0.conic.mul viv4) fun viv5 => .bind (viv3.add viv5) fun viv6 => .bind (x0.curve.mul viv6) fun viv7 => .bind (x1.o.x.mul x1.d.x) fun viv8 => .bind (x1.o.y.mul x1.d.y) fun viv9 => .bind (viv8.add viv9) fun viv10 => .bind (viv0.mul x1.d.z) fun viv11 => .bind (x0.conic.mul viv11) fun viv12 => .bind (viv10.add viv12) fun viv13 => .bind (x0.curve.mul viv13) fun viv14 => .bind (viv14.sub x1.d.z) fun viv15 => .bind (x1.o.x.sqr) fun viv16 => .bind (x1.o.y.sqr) fun viv17 => .bind (viv16.add viv17) fun viv18 => .bind (viv0.sqr) fun viv19 => .bind (x0.conic.mul viv19) fun viv20 => .bind (viv18.add viv20) fun viv21 => .bind (x0.curve.mul viv21) fun viv22 => .bind (viv0.times 2) fun viv23 => .bind (viv22.sub viv23) fun viv24 => .bind (near viv7 viv15 viv24) fun vy25 => .br (x0.bent) (.br (vy25.2 == 1) (.bind (Iv.of (IntKind.i64.wrap (vy25.1.lo - 65536)) (IntKind.i64.wrap (vy25.1.hi + 65536))) fun viv26 => .br (Ev.lenOk ([] : List Iv)) (.bind (solve (fnAt [] true x0 (Ray.mk (V.mk x1.o.x x1.o.y viv0) x1.d)) viv26 20) fun vy27 => .br (vy27.2 == 2) (.bind (Iv.none) fun viv28 => .bind (V.none) fun vv29 => .ret ((viv28, vv29, 0))) (.br (vy27.2 != 1) (.bind (Iv.none) fun viv30 => .bind (V.none) fun vv31 => .ret ((viv30, vv31, vy27.2))) (.bind (along (Ray.mk (V.mk x1.o.x x1.o.y viv0) x1.d) vy27.1) fun vv32 => .bind (vv32.right) fun vb33 => .br (!vb33) (.bind (Iv.none) fun viv34 => .bind (V.none) fun vv35 => .ret ((viv34, vv35, 0))) (.ret ((vy27.1, vv32, 1)))))) (.fail)) (.br (vy25.2 != 1) (.bind (Iv.none) fun viv36 => .bind (V.none) fun vv37 => .ret ((viv36, vv37, vy25.2))) (.bind (along (Ray.mk (V.mk x1.o.x x1.o.y viv0) x1.d) vy25.1) fun vv38 => .bind (vv38.right) fun vb39 => .br (!vb39) (.bind (Iv.none) fun viv40 => .bind (V.none) fun vv41 => .ret ((viv40, vv41, 0))) (.ret ((vy25.1, vv38, 1)))))) (.br (vy25.2 != 1) (.bind (Iv.none) fun viv42 => .bind (V.none) fun vv43 => .ret ((viv42, vv43, vy25.2))) (.bind (along (Ray.mk (V.mk x1.o.x x1.o.y viv0) x1.d) vy25.1) fun vv44 => .bind (vv44.right) fun vb45 => .br (!vb45) (.bind (Iv.none) fun viv46 => .bind (V.none) fun vv47 => .ret ((viv46, vv47, 0))) (.ret ((vy25.1, vv44, 1))))) := by kernel_rfl
theorem c_meniscusref14_Hit (x0 : Surf) (x1 : Ray) : Plain Tryz.prog 151 [cSurf.enc x0, cRay.enc x1] ((cThree cIv cV cInt).enc (hitOf x0 x1)) :=
  plain_of_tree (n := 200) (EnvOK.add s_meniscusref1_Sub (EnvOK.add s_meniscusref1_RightV (EnvOK.add s_meniscusref1_Of (EnvOK.add s_meniscusref1_Add (EnvOK.add s_meniscusref1_Sqr (EnvOK.add s_meniscusref1_Times (EnvOK.add s_meniscusref14_none (EnvOK.add s_meniscusref1_Along (EnvOK.add s_meniscusref1_MulIv (EnvOK.add s_meniscusref14_NoV (EnvOK.add s_meniscusref1_Near (EnvOK.add s_meniscusref14_Fn_Solve EnvOK.nil)))))))))))) Tryz.func151 (args := [cSurf.av x0, cRay.av x1]) (by simp only [AV.vals, Cod.av_val]) (Nat.le_of_ble_eq_true (by kernel_rfl)) LFn.nil (cThree cIv cV cInt) (by
    rw [t_meniscusref14_Hit]
    simp only [den_br, den_bind, den_ret, den_fail, den_inl, den_inr, decide_eq_true_eq]
    rw [show near (x0.curve.mul ((x1.d.x.sqr.add x1.d.y.sqr).add (x0.conic.mul x1.d.z.sqr))) ((x0.curve.mul (((x1.o.x.mul x1.d.x).add (x1.o.y.mul x1.d.y)).add (x0.conic.mul ((x1.o.z.sub x0.at_).mul x1.d.z)))).sub x1.d.z) ((x0.curve.mul ((x1.o.x.sqr.add x1.o.y.sqr).add (x0.conic.mul (x1.o.z.sub x0.at_).sqr))).sub ((x1.o.z.sub x0.at_).times 2)) = hitRound x0 (x1.back x0.at_).o (x1.back x0.at_).d from rfl, show (⟨⟨x1.o.x, x1.o.y, x1.o.z.sub x0.at_⟩, x1.d⟩ : Ray) = x1.back x0.at_ from rfl]
    have hf : fnAt [] true x0 (x1.back x0.at_) = faceAt x0 (x1.back x0.at_) := rfl
    have hl : lenOk ([] : List Iv) = true := rfl
    rw [hitOf_cases, hf]
    rw [show Iv.of (IntKind.i64.wrap ((hitRound x0 (x1.back x0.at_).o (x1.back x0.at_).d).1.lo - 65536)) (IntKind.i64.wrap ((hitRound x0 (x1.back x0.at_).o (x1.back x0.at_).d).1.hi + 65536)) = bentT (hitRound x0 (x1.back x0.at_).o (x1.back x0.at_).d).1 from rfl]
    have hk := solve_kind (faceAt x0 (x1.back x0.at_)) (bentT (hitRound x0 (x1.back x0.at_).o (x1.back x0.at_).d).1) 20
    generalize solve (faceAt x0 (x1.back x0.at_)) (bentT (hitRound x0 (x1.back x0.at_).o (x1.back x0.at_).d).1) 20 = S at *
    generalize hitRound x0 (x1.back x0.at_).o (x1.back x0.at_).d = R at *
    generalize x1.back x0.at_ = q at *
    obtain ⟨R1, R2⟩ := R
    obtain ⟨S1, S2⟩ := S
    simp only at hk
    simp only [hl, if_true, hitCases]
    by_cases hb : x0.bent = true
    · by_cases hr : R2 = 1
      · subst hr
        rcases hk with rfl | rfl | rfl
        · simp [hb]
        · by_cases c : (along q S1).right = true <;> simp [hb, c]
        · simp [hb]
      · simp [hb, hr]
    · by_cases hr : R2 = 1
      · subst hr
        by_cases c : (along q R1).right = true <;> simp [hb, c]
      · simp [hb, hr])
theorem s_meniscusref14_Hit : Ev.Spec Tryz.prog 151 (F2 cSurf cRay (cThree cIv cV cInt) hitOf) := spec2 (fun vs w => Tryz.call151 vs w) c_meniscusref14_Hit

/-! meniscusref14.Normal -/
theorem t_meniscusref14_Normal (x0 : Surf) (x1 : V) :
    evFn Tryz.prog (Env.add 85 (F1 cV cV V.unit) (Env.add 86 (F2 cIv cIv cIv Iv.sub) (Env.add 88 (F1 cInt cIv Iv.point) (Env.add 101 (F2 cIv cIv cIv Iv.add) (Env.add 104 (F1 cIv cIv Iv.sqr) (Env.add 127 (F2 cIv cInt cIv Iv.times) (Env.add 149 (F2 cIv cIv cIv Iv.mul) (Env.add 181 (F1 cIv cIv Iv.neg) (Env.add 182 (F2 cSurf cIv (cTwo cIv cIv) sagOf) Env.nil))))))))) Laws.nil 200 Tryz.f155 [cSurf.av x0, cV.av x1] [] cV.dec =
      .bind (Iv.point 65536) fun viv0 => .br (!x0.bent) (.bind (x0.curve.mul x1.x) fun viv1 => .bind (viv1.neg) fun viv2 => .bind (x0.curve.mul x1.y) fun viv3 => .bind (viv3.neg) fun viv4 => .bind (x0.conic.mul x1.z) fun viv5 => .bind (x0.curve.mul viv5) fun viv6 => .bind (viv0.sub viv6) fun viv7 => .bind ((V.mk viv2 viv4 viv7).unit) fun vv8 => .ret (vv8)) (.bind (x1.x.sqr) fun viv9 => .bind (x1.y.sqr) fun viv10 => .bind (viv9.add viv10) fun viv11 => .bind (sagOf x0 viv11) fun vy12 => .bind (vy12.2.mul x1.x) fun viv13 => .bind (viv13.times 2) fun viv14 => .bind (viv14.neg) fun viv15 => .bind (vy12.2.mul x1.y) fun viv16 => .bind (viv16.times 2) fun viv17 => .bind (viv17.neg) fun viv18 => .bind ((V.mk viv15 viv18 viv0).unit) fun vv19 => .ret (vv19)) := by kernel_rfl
theorem c_meniscusref14_Normal (x0 : Surf) (x1 : V) : Plain Tryz.prog 155 [cSurf.enc x0, cV.enc x1] (cV.enc (normalOf x0 x1)) :=
  plain_of_tree (n := 200) (EnvOK.add s_meniscusref1_Unit (EnvOK.add s_meniscusref1_Sub (EnvOK.add s_meniscusref1_Point (EnvOK.add s_meniscusref1_Add (EnvOK.add s_meniscusref1_Sqr (EnvOK.add s_meniscusref1_Times (EnvOK.add s_meniscusref1_MulIv (EnvOK.add s_meniscusref1_Neg (EnvOK.add s_meniscusref14_Sag EnvOK.nil))))))))) Tryz.func155 (args := [cSurf.av x0, cV.av x1]) (by simp only [AV.vals, Cod.av_val]) (Nat.le_of_ble_eq_true (by kernel_rfl)) LFn.nil cV (by
    rw [t_meniscusref14_Normal]
    simp only [den_br, den_bind, den_ret, den_fail, den_inl, den_inr, decide_eq_true_eq]
    simp only [normalOf, normalBent, normalFlat]
    cases hb : x0.bent <;> simp)
theorem s_meniscusref14_Normal : Ev.Spec Tryz.prog 155 (F2 cSurf cV cV normalOf) := spec2 (fun vs w => Tryz.call155 vs w) c_meniscusref14_Normal

/-! meniscusref14.Bend -/
theorem t_meniscusref14_Bend (x0 : V) (x1 : V) (x2 : Iv) :
    evFn Tryz.prog (Env.add 80 (F1 cIv cBool Iv.right) (Env.add 86 (F2 cIv cIv cIv Iv.sub) (Env.add 88 (F1 cInt cIv Iv.point) (Env.add 89 (F1 cV cBool V.right) (Env.add 104 (F1 cIv cIv Iv.sqr) (Env.add 124 (F1 cIv cIv Iv.root) (Env.add 149 (F2 cIv cIv cIv Iv.mul) (Env.add 156 (F0 cV V.none) (Env.add 168 (F2 cV cV cV V.add) (Env.add 169 (F2 cV cIv cV V.scale) (Env.add 180 (F2 cV cV cIv V.dot) Env.nil))))))))))) Laws.nil 200 Tryz.f154 [cV.av x0, cV.av x1, cIv.av x2] [] (cTwo cV cInt).dec =
      .bind (Iv.point 65536) fun viv0 => .bind (x0.dot x1) fun viv1 => .bind (viv1.right) fun vb2 => .br (!vb2) (.bind (V.none) fun vv3 => .ret ((vv3, 0))) (.br (decide (viv1.lo ≤ 0)) (.bind (V.none) fun vv4 => .ret ((vv4, 0))) (.bind (x2.sqr) fun viv5 => .bind (viv1.sqr) fun viv6 => .bind (viv0.sub viv6) fun viv7 => .bind (viv5.mul viv7) fun viv8 => .bind (viv0.sub viv8) fun viv9 => .bind (viv9.right) fun vb10 => .br (!vb10) (.bind (V.none) fun vv11 => .ret ((vv11, 0))) (.br (decide (viv9.hi < 0)) (.bind (V.none) fun vv12 => .ret ((vv12, 2))) (.br (decide (viv9.lo < 0)) (.bind (V.none) fun vv13 => .ret ((vv13, 0))) (.bind (x0.scale x2) fun vv14 => .bind (viv9.root) fun viv15 => .bind (x2.mul viv1) fun viv16 => .bind (viv15.sub viv16) fun viv17 => .bind (x1.scale viv17) fun vv18 => .bind (vv14.add vv18) fun vv19 => .bind (vv19.right) fun vb20 => .br (!vb20) (.bind (V.none) fun vv21 => .ret ((vv21, 0))) (.ret ((vv19, 1)))))))) := by kernel_rfl
theorem c_meniscusref14_Bend (x0 : V) (x1 : V) (x2 : Iv) : Plain Tryz.prog 154 [cV.enc x0, cV.enc x1, cIv.enc x2] ((cTwo cV cInt).enc (bend x0 x1 x2)) :=
  plain_of_tree (n := 200) (EnvOK.add s_meniscusref1_Right (EnvOK.add s_meniscusref1_Sub (EnvOK.add s_meniscusref1_Point (EnvOK.add s_meniscusref1_RightV (EnvOK.add s_meniscusref1_Sqr (EnvOK.add s_meniscusref1_RootIv (EnvOK.add s_meniscusref1_MulIv (EnvOK.add s_meniscusref14_NoV (EnvOK.add s_meniscusref1_AddV (EnvOK.add s_meniscusref1_Scale (EnvOK.add s_meniscusref1_Dot EnvOK.nil))))))))))) Tryz.func154 (args := [cV.av x0, cV.av x1, cIv.av x2]) (by simp only [AV.vals, Cod.av_val]) (Nat.le_of_ble_eq_true (by kernel_rfl)) LFn.nil (cTwo cV cInt) (by
    rw [t_meniscusref14_Bend]
    simp only [den_br, den_bind, den_ret, den_fail, den_inl, den_inr, decide_eq_true_eq]
    simp only [dot_no, no_sub]
    grind [bend])
theorem s_meniscusref14_Bend : Ev.Spec Tryz.prog 154 (F3 cV cV cIv (cTwo cV cInt) bend) := spec3 (fun vs w => Tryz.call154 vs w) c_meniscusref14_Bend

/-! meniscusref14.Go -/
theorem t_meniscusref14_Go (x0 : Surf) (x1 : Ray) :
    evFn Tryz.prog (Env.add 80 (F1 cIv cBool Iv.right) (Env.add 101 (F2 cIv cIv cIv Iv.add) (Env.add 104 (F1 cIv cIv Iv.sqr) (Env.add 123 (F0 cRay Ray.none) (Env.add 151 (F2 cSurf cRay (cThree cIv cV cInt) hitOf) (Env.add 152 (F1 cInt cInt kindOf) (Env.add 153 (F2 cIv cIv cInt notAbove) (Env.add 154 (F3 cV cV cIv (cTwo cV cInt) bend) (Env.add 155 (F2 cSurf cV cV normalOf) Env.nil))))))))) Laws.nil 200 Tryz.f122 [cSurf.av x0, cRay.av x1] [] (cTwo cRay cInt).dec =
      .bind (hitOf x0 x1) fun vy0 => .br (vy0.2.2 != 1) (.bind (Ray.none) fun vra1 => .bind (kindOf vy0.2.2) fun vn2 => .ret ((vra1, vn2))) (.bind (vy0.2.1.x.sqr) fun viv3 => .bind (vy0.2.1.y.sqr) fun viv4 => .bind (viv3.add viv4) fun viv5 => .bind (notAbove viv5 x0.open2) fun vn6 => .br (vn6 != 1) (.bind (Ray.none) fun vra7 => .bind (kindOf vn6) fun vn8 => .ret ((vra7, vn8))) (.bind (vy0.2.1.z.add x0.at_) fun viv9 => .bind (viv9.right) fun vb10 => .br (!vb10) (.bind (Ray.none) fun vra11 => .ret ((vra11, 3))) (.br (x0.stop) (.ret ((Ray.mk (V.mk vy0.2.1.x vy0.2.1.y viv9) x1.d, 1))) (.bind (normalOf x0 vy0.2.1) fun vv12 => .bind (bend x1.d vv12 x0.ratio) fun vy13 => .br (vy13.2 != 1) (.bind (Ray.none) fun vra14 => .bind (kindOf vy13.2) fun vn15 => .ret ((vra14, vn15))) (.ret ((Ray.mk (V.mk vy0.2.1.x vy0.2.1.y viv9) vy13.1, 1))))))) := by kernel_rfl
theorem c_meniscusref14_Go (x0 : Surf) (x1 : Ray) : Plain Tryz.prog 122 [cSurf.enc x0, cRay.enc x1] ((cTwo cRay cInt).enc (stepOf x0 x1)) :=
  plain_of_tree (n := 200) (EnvOK.add s_meniscusref1_Right (EnvOK.add s_meniscusref1_Add (EnvOK.add s_meniscusref1_Sqr (EnvOK.add s_meniscusref14_NoRay (EnvOK.add s_meniscusref14_Hit (EnvOK.add s_meniscusref14_kind (EnvOK.add s_meniscusref1_NotAbove (EnvOK.add s_meniscusref14_Bend (EnvOK.add s_meniscusref14_Normal EnvOK.nil))))))))) Tryz.func122 (args := [cSurf.av x0, cRay.av x1]) (by simp only [AV.vals, Cod.av_val]) (Nat.le_of_ble_eq_true (by kernel_rfl)) LFn.nil (cTwo cRay cInt) (by
    rw [t_meniscusref14_Go]
    simp only [den_br, den_bind, den_ret, den_fail, den_inl, den_inr, decide_eq_true_eq]
    simp only [stepOf, stepEnd, lost, no_add, kindOf]
    grind)
theorem s_meniscusref14_Go : Ev.Spec Tryz.prog 122 (F2 cSurf cRay (cTwo cRay cInt) stepOf) := spec2 (fun vs w => Tryz.call122 vs w) c_meniscusref14_Go

/-! trace.Trace -/
theorem tl_trace_Trace_2 (t12 : Int) (t11 : Int) (r0 : Ray) (r1 : Res) (r2 : Iv) (r3 : List Surf) :
    ev Tryz.prog (Env.add 91 (F2 cSurf cRay (cTwo cRay cInt) stepOf) Env.nil) Laws.nil 200 none (loopAt Tryz.f35 2) ((sc 36 [12, 11, 3, 4, 2, 10] (tCod 12 cInt (tCod 11 cInt (tOwn 3 0 (tOwn 4 1 (tOwn 2 2 (tSl 10 3 tNil)))))) (rBox ccRay ccRay_ok (rBox ccRes ccRes_ok (rBoxSl 3 ccIv ccIv_ok (rL_surf rNil))))).enc ((t12, t11, ()), (r0, r1, r2, r3, ()))) (backK (sc 36 [12, 11, 3, 4, 2, 10] (tCod 12 cInt (tCod 11 cInt (tOwn 3 0 (tOwn 4 1 (tOwn 2 2 (tSl 10 3 tNil)))))) (rBox ccRay ccRay_ok (rBox ccRes ccRes_ok (rBoxSl 3 ccIv ccIv_ok (rL_surf rNil))))) (ocOr (ocExit 0 (sc 36 [3, 4, 2] (tOwn 3 0 (tOwn 4 1 (tOwn 2 2 tNil))) (rBox ccRay ccRay_ok (rBox ccRes ccRes_ok (rBoxSl 3 ccIv ccIv_ok (rL_surf rNil)))))) (ocRet (sc 36 [4] (tOwn 4 0 tNil) (rBox ccRes ccRes_ok rNil))))) =
      .br (decide (t12 < t11)) (.br (decide (0 ≤ t12 ∧ t12 < (@Nat.cast Int _ r3.length))) (.get (r3[t12.toNat]?) fun vt0 => .bind (stepOf vt0 r0) fun vy1 => .br (vy1.2 != 1) (.ret (Sum.inr (Sum.inr ((), (vy1.2, t12, vy1.1), ())))) (.ret (Sum.inl ((IntKind.i64.wrap (t12 + 1), t11, ()), vy1.1, r1, r2, r3, ())))) (.fail)) (.ret (Sum.inr (Sum.inl ((), r0, r1, r2, r3, ())))) := by kernel_rfl
theorem ok_trace_Trace_2 : LOK Tryz.prog (LoopR.of (sc 36 [12, 11, 3, 4, 2, 10] (tCod 12 cInt (tCod 11 cInt (tOwn 3 0 (tOwn 4 1 (tOwn 2 2 (tSl 10 3 tNil)))))) (rBox ccRay ccRay_ok (rBox ccRes ccRes_ok (rBoxSl 3 ccIv ccIv_ok (rL_surf rNil))))) (ocOr (ocExit 0 (sc 36 [3, 4, 2] (tOwn 3 0 (tOwn 4 1 (tOwn 2 2 tNil))) (rBox ccRay ccRay_ok (rBox ccRes ccRes_ok (rBoxSl 3 ccIv ccIv_ok (rL_surf rNil)))))) (ocRet (sc 36 [4] (tOwn 4 0 tNil) (rBox ccRes ccRes_ok rNil)))) (runBy traceStep traceM)) (loopAt Tryz.f35 2) := by
  refine loop_ok (EnvOK.add s_step_Go EnvOK.nil) (LFn.at (fn := Tryz.f35) LFn.nil 2) traceStep (n := 200) (fun x z h => ?_) (runBy_ok _ _)
  obtain ⟨⟨t12, t11, ⟨⟩⟩, ⟨r0, r1, r2, r3, ⟨⟩⟩⟩ := x
  rw [tl_trace_Trace_2]
  rw [← h]
  simp only [den_br, den_bind, den_ret, den_fail, den_inl, den_inr, decide_eq_true_eq, gt_iff_lt, ge_iff_le, beq_iff_eq]
  simp only [traceStep]
  by_cases h0 : t12 < t11 <;> simp only [h0, if_true, if_false]
  by_cases h1 : 0 ≤ t12 ∧ t12 < (r3.length : Int) <;> simp only [h1, and_self, if_true, if_false]
  cases hg : r3[t12.toNat]? with
  | none => rfl
  | some a =>
    simp only [den_get, den_br, den_bind, den_ret, den_fail]
    by_cases c : (stepOf a r0).2 = 1 <;> simp [c]
theorem t_trace_Trace (t0a : Unit) (t0b : Iv) (t1 : Ray) (r0 : List Surf) :
    evFn Tryz.prog (Env.add 91 (F2 cSurf cRay (cTwo cRay cInt) stepOf) Env.nil) (Laws.add 2 (LoopR.of (sc 36 [12, 11, 3, 4, 2, 10] (tCod 12 cInt (tCod 11 cInt (tOwn 3 0 (tOwn 4 1 (tOwn 2 2 (tSl 10 3 tNil)))))) (rBox ccRay ccRay_ok (rBox ccRes ccRes_ok (rBoxSl 3 ccIv ccIv_ok (rL_surf rNil))))) (ocOr (ocExit 0 (sc 36 [3, 4, 2] (tOwn 3 0 (tOwn 4 1 (tOwn 2 2 tNil))) (rBox ccRay ccRay_ok (rBox ccRes ccRes_ok (rBoxSl 3 ccIv ccIv_ok (rL_surf rNil)))))) (ocRet (sc 36 [4] (tOwn 4 0 tNil) (rBox ccRes ccRes_ok rNil)))) (runBy traceStep traceM)) Laws.nil) 200 Tryz.f35 (((sc 2 [0, 1] (tAgg 0 0 ccNil ccNil_ok ccIv ccIv_ok (tCod 1 cRay tNil)) (rL_surf rNil)).enc ((t0a, t0b, t1, ()), (r0, ()))).tmps.map Prod.snd) ((sc 2 [0, 1] (tAgg 0 0 ccNil ccNil_ok ccIv ccIv_ok (tCod 1 cRay tNil)) (rL_surf rNil)).enc ((t0a, t0b, t1, ()), (r0, ()))).mem cRes.dec =
      .get (runBy traceStep traceM ((0, (@Nat.cast Int _ r0.length), ()), t1, (0, 0, Ray.mk (V.mk (Iv.mk 0 0 false) (Iv.mk 0 0 false) (Iv.mk 0 0 false)) (V.mk (Iv.mk 0 0 false) (Iv.mk 0 0 false) (Iv.mk 0 0 false))), t0b, r0, ())) fun vy0 => .sum (vy0) (fun vs1 => .ret ((1, (@Nat.cast Int _ vs1.2.2.2.2.1.length), vs1.2.1))) (fun vs2 => .ret (vs2.2.1)) := by kernel_rfl
theorem c_trace_Trace : PlainS Tryz.prog 35 (sc 2 [0, 1] (tAgg 0 0 ccNil ccNil_ok ccIv ccIv_ok (tCod 1 cRay tNil)) (rL_surf rNil)) cRes ((fun x => lenOk x.2.1)) ((fun x => traceOf x.2.1 x.1.2.2.1)) := by
  intro x h N w vs hM hv
  obtain ⟨⟨t0a, t0b, t1, ⟨⟩⟩, ⟨r0, ⟨⟩⟩⟩ := x
  refine calls_of_tree (n := 200) (EnvOK.add s_step_Go EnvOK.nil) Tryz.func35 hv (Nat.le_of_ble_eq_true (by kernel_rfl)) (LFn.add (fn := Tryz.f35) (i := 2) (by kernel_rfl) ok_trace_Trace_2 LFn.nil) hM cRes ?_
  rw [t_trace_Trace]
  have hr := trace_run (0, 0, Ray.zero) t0b r0 (lenOk_iff.1 h) t1
  rw [show (((0 : Int), (0 : Int), (⟨⟨⟨0, 0, false⟩, ⟨0, 0, false⟩, ⟨0, 0, false⟩⟩, ⟨⟨0, 0, false⟩, ⟨0, 0, false⟩, ⟨0, 0, false⟩⟩⟩ : Ray)) : Res) = (0, 0, Ray.zero) from rfl, hr]
  simp only [traceOut]
  by_cases c : (traceOf r0 t1).1 = 1
  · rw [if_pos c]
    rw [traceOf_eta c]; rfl
  · rw [if_neg c]; rfl
theorem s_trace_Trace : Ev.Spec Tryz.prog 35 (FS (sc 2 [0, 1] (tAgg 0 0 ccNil ccNil_ok ccIv ccIv_ok (tCod 1 cRay tNil)) (rL_surf rNil)) cRes ((fun x => lenOk x.2.1)) ((fun x => traceOf x.2.1 x.1.2.2.1))) := specS rfl (fun vs w => Tryz.call35 vs w) c_trace_Trace

/-! meniscusref14.Trace -/
theorem tl_meniscusref14_Trace_2 (t5 : Int) (r0 : Ray) (r1 : Res) (r2 : Iv) (r3 : List Surf) :
    ev Tryz.prog (Env.add 122 (F2 cSurf cRay (cTwo cRay cInt) stepOf) (Env.add 123 (F0 cRay Ray.none) Env.nil)) Laws.nil 200 none (loopAt Tryz.f83 2) ((sc 35 [5, 3, 4, 2] (tCod 5 cInt (tOwn 3 0 (tOwn 4 1 (tOwn 2 2 tNil)))) (rBox ccRay ccRay_ok (rBox ccRes ccRes_ok (rBoxSl 3 ccIv ccIv_ok (rL_surf rNil))))).enc ((t5, ()), (r0, r1, r2, r3, ()))) (backK (sc 35 [5, 3, 4, 2] (tCod 5 cInt (tOwn 3 0 (tOwn 4 1 (tOwn 2 2 tNil)))) (rBox ccRay ccRay_ok (rBox ccRes ccRes_ok (rBoxSl 3 ccIv ccIv_ok (rL_surf rNil))))) (ocOr (ocExit 0 (sc 35 [3, 4, 2] (tOwn 3 0 (tOwn 4 1 (tOwn 2 2 tNil))) (rBox ccRay ccRay_ok (rBox ccRes ccRes_ok (rBoxSl 3 ccIv ccIv_ok (rL_surf rNil)))))) (ocRet (sc 35 [4] (tOwn 4 0 tNil) (rBox ccRes ccRes_ok rNil))))) =
      .br (decide (t5 < (@Nat.cast Int _ r3.length))) (.br (decide (0 ≤ t5 ∧ t5 < (@Nat.cast Int _ r3.length))) (.get (r3[t5.toNat]?) fun vt0 => .bind (stepOf vt0 r0) fun vy1 => .br (vy1.2 != 1) (.bind (Ray.none) fun vra2 => .ret (Sum.inr (Sum.inr ((), (vy1.2, t5, vra2), ())))) (.ret (Sum.inl ((IntKind.i64.wrap (t5 + 1), ()), vy1.1, r1, r2, r3, ())))) (.fail)) (.ret (Sum.inr (Sum.inl ((), r0, r1, r2, r3, ())))) := by kernel_rfl
theorem ok_meniscusref14_Trace_2 : LOK Tryz.prog (LoopR.of (sc 35 [5, 3, 4, 2] (tCod 5 cInt (tOwn 3 0 (tOwn 4 1 (tOwn 2 2 tNil)))) (rBox ccRay ccRay_ok (rBox ccRes ccRes_ok (rBoxSl 3 ccIv ccIv_ok (rL_surf rNil))))) (ocOr (ocExit 0 (sc 35 [3, 4, 2] (tOwn 3 0 (tOwn 4 1 (tOwn 2 2 tNil))) (rBox ccRay ccRay_ok (rBox ccRes ccRes_ok (rBoxSl 3 ccIv ccIv_ok (rL_surf rNil)))))) (ocRet (sc 35 [4] (tOwn 4 0 tNil) (rBox ccRes ccRes_ok rNil)))) (runBy traceStep2 traceM2)) (loopAt Tryz.f83 2) := by
  refine loop_ok (EnvOK.add s_meniscusref14_Go (EnvOK.add s_meniscusref14_NoRay EnvOK.nil)) (LFn.at (fn := Tryz.f83) LFn.nil 2) traceStep2 (n := 200) (fun x z h => ?_) (runBy_ok _ _)
  obtain ⟨⟨t5, ⟨⟩⟩, ⟨r0, r1, r2, r3, ⟨⟩⟩⟩ := x
  rw [tl_meniscusref14_Trace_2]
  rw [← h]
  simp only [den_br, den_bind, den_ret, den_fail, den_inl, den_inr, decide_eq_true_eq, gt_iff_lt, ge_iff_le, beq_iff_eq]
  simp only [traceStep2]
  by_cases h0 : t5 < (r3.length : Int) <;> simp only [h0, if_true, if_false]
  by_cases h1 : 0 ≤ t5 <;> try simp only [h1, h0, and_self, and_true, true_and, false_and, if_true, if_false]
  cases hg : r3[t5.toNat]? with
  | none => rfl
  | some a =>
    simp only [den_get, den_br, den_bind, den_ret, den_fail]
    by_cases c : (stepOf a r0).2 = 1 <;> simp [c]
theorem t_meniscusref14_Trace (t0a : Unit) (t0b : Iv) (t1 : Ray) (r0 : List Surf) :
    evFn Tryz.prog (Env.add 122 (F2 cSurf cRay (cTwo cRay cInt) stepOf) (Env.add 123 (F0 cRay Ray.none) Env.nil)) (Laws.add 2 (LoopR.of (sc 35 [5, 3, 4, 2] (tCod 5 cInt (tOwn 3 0 (tOwn 4 1 (tOwn 2 2 tNil)))) (rBox ccRay ccRay_ok (rBox ccRes ccRes_ok (rBoxSl 3 ccIv ccIv_ok (rL_surf rNil))))) (ocOr (ocExit 0 (sc 35 [3, 4, 2] (tOwn 3 0 (tOwn 4 1 (tOwn 2 2 tNil))) (rBox ccRay ccRay_ok (rBox ccRes ccRes_ok (rBoxSl 3 ccIv ccIv_ok (rL_surf rNil)))))) (ocRet (sc 35 [4] (tOwn 4 0 tNil) (rBox ccRes ccRes_ok rNil)))) (runBy traceStep2 traceM2)) Laws.nil) 200 Tryz.f83 (((sc 2 [0, 1] (tAgg 0 0 ccNil ccNil_ok ccIv ccIv_ok (tCod 1 cRay tNil)) (rL_surf rNil)).enc ((t0a, t0b, t1, ()), (r0, ()))).tmps.map Prod.snd) ((sc 2 [0, 1] (tAgg 0 0 ccNil ccNil_ok ccIv ccIv_ok (tCod 1 cRay tNil)) (rL_surf rNil)).enc ((t0a, t0b, t1, ()), (r0, ()))).mem cRes.dec =
      .get (runBy traceStep2 traceM2 ((0, ()), t1, (0, 0, Ray.mk (V.mk (Iv.mk 0 0 false) (Iv.mk 0 0 false) (Iv.mk 0 0 false)) (V.mk (Iv.mk 0 0 false) (Iv.mk 0 0 false) (Iv.mk 0 0 false))), t0b, r0, ())) fun vy0 => .sum (vy0) (fun vs1 => .ret ((1, (@Nat.cast Int _ vs1.2.2.2.2.1.length), vs1.2.1))) (fun vs2 => .ret (vs2.2.1)) := by kernel_rfl
theorem c_meniscusref14_Trace : PlainS Tryz.prog 83 (sc 2 [0, 1] (tAgg 0 0 ccNil ccNil_ok ccIv ccIv_ok (tCod 1 cRay tNil)) (rL_surf rNil)) cRes ((fun x => lenOk x.2.1)) ((fun x => traceOf x.2.1 x.1.2.2.1)) := by
  intro x h N w vs hM hv
  obtain ⟨⟨t0a, t0b, t1, ⟨⟩⟩, ⟨r0, ⟨⟩⟩⟩ := x
  refine calls_of_tree (n := 200) (EnvOK.add s_meniscusref14_Go (EnvOK.add s_meniscusref14_NoRay EnvOK.nil)) Tryz.func83 hv (Nat.le_of_ble_eq_true (by kernel_rfl)) (LFn.add (fn := Tryz.f83) (i := 2) (by kernel_rfl) ok_meniscusref14_Trace_2 LFn.nil) hM cRes ?_
  rw [t_meniscusref14_Trace]
  have hr := trace_run2 (0, 0, Ray.zero) t0b r0 (lenOk_iff.1 h) t1
  rw [show (((0 : Int), (0 : Int), (⟨⟨⟨0, 0, false⟩, ⟨0, 0, false⟩, ⟨0, 0, false⟩⟩, ⟨⟨0, 0, false⟩, ⟨0, 0, false⟩, ⟨0, 0, false⟩⟩⟩ : Ray)) : Res) = (0, 0, Ray.zero) from rfl, hr]
  simp only [traceOut]
  by_cases c : (traceOf r0 t1).1 = 1
  · rw [if_pos c]
    rw [traceOf_eta c]; rfl
  · rw [if_neg c]; rfl
theorem s_meniscusref14_Trace : Ev.Spec Tryz.prog 83 (FS (sc 2 [0, 1] (tAgg 0 0 ccNil ccNil_ok ccIv ccIv_ok (tCod 1 cRay tNil)) (rL_surf rNil)) cRes ((fun x => lenOk x.2.1)) ((fun x => traceOf x.2.1 x.1.2.2.1))) := specS rfl (fun vs w => Tryz.call83 vs w) c_meniscusref14_Trace

/-! trace.Through -/
theorem t_trace_Through (t0a : Unit) (t0b : Iv) (t1 : Ray) (t2 : Iv) (r0 : List Surf) :
    evFn Tryz.prog (Env.add 35 (FS (sc 2 [0, 1] (tAgg 0 0 ccNil ccNil_ok ccIv ccIv_ok (tCod 1 cRay tNil)) (rL_surf rNil)) cRes ((fun x => lenOk x.2.1)) ((fun x => traceOf x.2.1 x.1.2.2.1))) (Env.add 39 (F2 cIv cIv cIv Iv.div) (Env.add 44 (F2 cIv cIv cIv Iv.sub) (Env.add 51 (F0 cIv Iv.none) (Env.add 56 (F1 cIv cBool Iv.right) (Env.add 105 (F2 cRay cIv cV along) Env.nil)))))) Laws.nil 200 Tryz.f52 (((sc 3 [0, 1, 2] (tAgg 0 0 ccNil ccNil_ok ccIv ccIv_ok (tCod 1 cRay (tCod 2 cIv tNil))) (rL_surf rNil)).enc ((t0a, t0b, t1, t2, ()), (r0, ()))).tmps.map Prod.snd) ((sc 3 [0, 1, 2] (tAgg 0 0 ccNil ccNil_ok ccIv ccIv_ok (tCod 1 cRay (tCod 2 cIv tNil))) (rL_surf rNil)).enc ((t0a, t0b, t1, t2, ()), (r0, ()))).mem (cThree cIv cIv cInt).dec =
      .br (Ev.lenOk r0) (.bind (traceOf r0 t1) fun vre0 => .br (vre0.1 != 1) (.bind (Iv.none) fun viv1 => .bind (Iv.none) fun viv2 => .ret ((viv1, viv2, vre0.1))) (.bind (t2.sub vre0.2.2.o.z) fun viv3 => .bind (viv3.div vre0.2.2.d.z) fun viv4 => .bind (along vre0.2.2 viv4) fun vv5 => .bind (vv5.x.right) fun vb6 => .br (!vb6) (.bind (Iv.none) fun viv7 => .bind (Iv.none) fun viv8 => .ret ((viv7, viv8, 3))) (.bind (vv5.y.right) fun vb9 => .br (!vb9) (.bind (Iv.none) fun viv10 => .bind (Iv.none) fun viv11 => .ret ((viv10, viv11, 3))) (.ret ((vv5.x, vv5.y, 1)))))) (.fail) := by kernel_rfl
theorem c_trace_Through : PlainS Tryz.prog 52 (sc 3 [0, 1, 2] (tAgg 0 0 ccNil ccNil_ok ccIv ccIv_ok (tCod 1 cRay (tCod 2 cIv tNil))) (rL_surf rNil)) (cThree cIv cIv cInt) ((fun x => lenOk x.2.1)) ((fun x => throughOf x.2.1 x.1.2.2.1 x.1.2.2.2.1)) := by
  intro x h N w vs hM hv
  obtain ⟨⟨t0a, t0b, t1, t2, ⟨⟩⟩, ⟨r0, ⟨⟩⟩⟩ := x
  refine calls_of_tree (n := 200) (EnvOK.add s_trace_Trace (EnvOK.add s_iv_Div (EnvOK.add s_iv_Sub (EnvOK.add s_iv_None (EnvOK.add s_iv_Right (EnvOK.add s_vec_Along EnvOK.nil)))))) Tryz.func52 hv (Nat.le_of_ble_eq_true (by kernel_rfl)) LFn.nil hM (cThree cIv cIv cInt) ?_
  rw [t_trace_Through]
  simp only [den_br, den_bind, den_ret, den_fail, den_inl, den_inr, decide_eq_true_eq, gt_iff_lt, ge_iff_le, beq_iff_eq]
  simp only at h
  simp only [h, if_true, throughOf]
  by_cases c : (traceOf r0 t1).1 = 1
  · have c' : ((traceOf r0 t1).1 != 1) = false := by simp [c]
    simp only [c, c', bne_self_eq_false, Bool.false_eq_true, if_true, if_false]
    generalize along (traceOf r0 t1).2.2 ((t2.sub (traceOf r0 t1).2.2.o.z).div (traceOf r0 t1).2.2.d.z) = p
    by_cases c1 : p.x.right = true <;> by_cases c2 : p.y.right = true <;> simp [c1, c2, lost3]
  · have c' : ((traceOf r0 t1).1 != 1) = true := by simp [c]
    simp only [c, c', if_true, if_false]
theorem s_trace_Through : Ev.Spec Tryz.prog 52 (FS (sc 3 [0, 1, 2] (tAgg 0 0 ccNil ccNil_ok ccIv ccIv_ok (tCod 1 cRay (tCod 2 cIv tNil))) (rL_surf rNil)) (cThree cIv cIv cInt) ((fun x => lenOk x.2.1)) ((fun x => throughOf x.2.1 x.1.2.2.1 x.1.2.2.2.1))) := specS rfl (fun vs w => Tryz.call52 vs w) c_trace_Through

/-! meniscusref14.Reach -/
theorem t_meniscusref14_Reach (t0a : Unit) (t0b : Iv) (t1 : Ray) (t2 : Iv) (r0 : List Surf) :
    evFn Tryz.prog (Env.add 80 (F1 cIv cBool Iv.right) (Env.add 83 (FS (sc 2 [0, 1] (tAgg 0 0 ccNil ccNil_ok ccIv ccIv_ok (tCod 1 cRay tNil)) (rL_surf rNil)) cRes ((fun x => lenOk x.2.1)) ((fun x => traceOf x.2.1 x.1.2.2.1))) (Env.add 86 (F2 cIv cIv cIv Iv.sub) (Env.add 99 (F2 cIv cIv cIv Iv.div) (Env.add 136 (F0 cIv Iv.none) (Env.add 137 (F2 cRay cIv cV along) Env.nil)))))) Laws.nil 200 Tryz.f103 (((sc 3 [0, 1, 2] (tAgg 0 0 ccNil ccNil_ok ccIv ccIv_ok (tCod 1 cRay (tCod 2 cIv tNil))) (rL_surf rNil)).enc ((t0a, t0b, t1, t2, ()), (r0, ()))).tmps.map Prod.snd) ((sc 3 [0, 1, 2] (tAgg 0 0 ccNil ccNil_ok ccIv ccIv_ok (tCod 1 cRay (tCod 2 cIv tNil))) (rL_surf rNil)).enc ((t0a, t0b, t1, t2, ()), (r0, ()))).mem (cThree cIv cIv cInt).dec =
      .br (Ev.lenOk r0) (.bind (traceOf r0 t1) fun vre0 => .br (vre0.1 != 1) (.bind (Iv.none) fun viv1 => .bind (Iv.none) fun viv2 => .ret ((viv1, viv2, vre0.1))) (.bind (t2.sub vre0.2.2.o.z) fun viv3 => .bind (viv3.div vre0.2.2.d.z) fun viv4 => .bind (along vre0.2.2 viv4) fun vv5 => .bind (vv5.x.right) fun vb6 => .br (!vb6) (.bind (Iv.none) fun viv7 => .bind (Iv.none) fun viv8 => .ret ((viv7, viv8, 3))) (.bind (vv5.y.right) fun vb9 => .br (!vb9) (.bind (Iv.none) fun viv10 => .bind (Iv.none) fun viv11 => .ret ((viv10, viv11, 3))) (.ret ((vv5.x, vv5.y, 1)))))) (.fail) := by kernel_rfl
theorem c_meniscusref14_Reach : PlainS Tryz.prog 103 (sc 3 [0, 1, 2] (tAgg 0 0 ccNil ccNil_ok ccIv ccIv_ok (tCod 1 cRay (tCod 2 cIv tNil))) (rL_surf rNil)) (cThree cIv cIv cInt) ((fun x => lenOk x.2.1)) ((fun x => throughOf x.2.1 x.1.2.2.1 x.1.2.2.2.1)) := by
  intro x h N w vs hM hv
  obtain ⟨⟨t0a, t0b, t1, t2, ⟨⟩⟩, ⟨r0, ⟨⟩⟩⟩ := x
  refine calls_of_tree (n := 200) (EnvOK.add s_meniscusref1_Right (EnvOK.add s_meniscusref14_Trace (EnvOK.add s_meniscusref1_Sub (EnvOK.add s_meniscusref1_DivIv (EnvOK.add s_meniscusref14_none (EnvOK.add s_meniscusref1_Along EnvOK.nil)))))) Tryz.func103 hv (Nat.le_of_ble_eq_true (by kernel_rfl)) LFn.nil hM (cThree cIv cIv cInt) ?_
  rw [t_meniscusref14_Reach]
  simp only [den_br, den_bind, den_ret, den_fail, den_inl, den_inr, decide_eq_true_eq, gt_iff_lt, ge_iff_le, beq_iff_eq]
  simp only at h
  simp only [h, if_true, throughOf]
  by_cases c : (traceOf r0 t1).1 = 1
  · have c' : ((traceOf r0 t1).1 != 1) = false := by simp [c]
    simp only [c, c', bne_self_eq_false, Bool.false_eq_true, if_true, if_false]
    generalize along (traceOf r0 t1).2.2 ((t2.sub (traceOf r0 t1).2.2.o.z).div (traceOf r0 t1).2.2.d.z) = p
    by_cases c1 : p.x.right = true <;> by_cases c2 : p.y.right = true <;> simp [c1, c2, lost3]
  · have c' : ((traceOf r0 t1).1 != 1) = true := by simp [c]
    simp only [c, c', if_true, if_false]
theorem s_meniscusref14_Reach : Ev.Spec Tryz.prog 103 (FS (sc 3 [0, 1, 2] (tAgg 0 0 ccNil ccNil_ok ccIv ccIv_ok (tCod 1 cRay (tCod 2 cIv tNil))) (rL_surf rNil)) (cThree cIv cIv cInt) ((fun x => lenOk x.2.1)) ((fun x => throughOf x.2.1 x.1.2.2.1 x.1.2.2.2.1))) := specS rfl (fun vs w => Tryz.call103 vs w) c_meniscusref14_Reach
end Go.Proofs.YtliglpiofomelaaGreat
