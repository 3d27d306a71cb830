/-
  Contracts of calls, written by a small program of this session out of the evaluator's trees.
-/
import Derived.Test.YthgpgnijbajlgaaCore
import Derived.Test.YthgpgnijbajlgaaCoreLoops
import Derived.Test.YthgpgnijbajlgaaCore2
import Derived.Test.YthgpgnijbajlgaaCore3
import Derived.Test.YthgpgnijbajlgaaCore4
import Derived.Test.YthgpgnijbajlgaaCore5
import Derived.Test.YthgpgnijbajlgaaFloCod
import Derived.Test.YthgpgnijbajlgaaGs
import Derived.Test.YthgpgnijbajlgaaGsL
import Derived.Test.YthgpgnijbajlgaaGt
import Derived.Test.YthgpgnijbajlgaaK0
import Derived.Test.YthgpgnijbajlgaaG0
import Derived.Test.YthgpgnijbajlgaaEvCod
import Derived.Test.YthgpgnijbajlgaaEvRet
import Derived.Test.YthgpgnijbajlgaaProg
namespace Go.Proofs.Ythgpgnijbajlgaa
open Go Go.RowKit Ev
set_option maxRecDepth 100000
set_option linter.unusedVariables false
set_option linter.unusedSimpArgs false

/-! meniscuslaw8.known -/
theorem t_meniscuslaw8_known  :
    evFn Try.prog (Env.add 19 (F2 cCx cInt cCx cTurn) (Env.add 21 (F1 cCx cInt ((fun z => if cWhole z = true then cNorm z else 0))) (Env.add 29 (FR (sc 1 [0] (tCod 0 cInt tNil) rNil) (sc 1 [0] (tSl 0 0 tNil) (rG_cx 22 rNil)) (fun _ => true) ((fun x => ((), ((cellsP (cellsR x.1.1)).map cxOf, ()))))) (Env.add 33 (F1 cCx cBool cWhole) Env.nil)))) Laws.nil 200 Try.f18 [] [] cBool.dec =
      .bind (cTurn (4613937818241073152, 4616189618054758400) 1) fun vcx0 => .br (Ev.cEq vcx0.1 vcx0.2 13839561654909534208 4613937818241073152) (.bind (cWhole (4613937818241073152, 4616189618054758400)) fun vb1 => .br (vb1) (.bind (if cWhole (4613937818241073152, 4616189618054758400) = true then cNorm (4613937818241073152, 4616189618054758400) else 0) fun vn2 => .br (vn2 == 25) (.br (true) (.bind (((), List.map cxOf (cellsP (cellsR 1)), ())) fun vy3 => .ret ((@Nat.cast Int _ vy3.2.1.length) == 4)) (.fail)) (.ret (false))) (.ret (false))) (.ret (false)) := by kernel_rfl
theorem c_meniscuslaw8_known  : Plain Try.prog 18 [] (cBool.enc (true)) :=
  plain_of_tree (n := 200) (EnvOK.add s_gauss_Turn (EnvOK.add s_gauss_Norm (EnvOK.add s_gauss_Cells (EnvOK.add s_gauss_Whole EnvOK.nil)))) Try.func18 (args := []) rfl (Nat.le_of_ble_eq_true (by kernel_rfl)) LFn.nil cBool (by
    rw [t_meniscuslaw8_known]
    decide +kernel)
theorem s_meniscuslaw8_known : Ev.Spec Try.prog 18 (F0 cBool true) := spec0 (fun vs w => Try.call18 vs w) c_meniscuslaw8_known
end Go.Proofs.Ythgpgnijbajlgaa
