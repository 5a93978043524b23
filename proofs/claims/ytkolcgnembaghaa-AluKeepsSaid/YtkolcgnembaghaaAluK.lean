/- AluKeeps, in plain Lean. -/
import Derived.Test.YtkolcgnembaghaaAluP
import Derived.Test.YtkolcgnembaghaaQx8
import Derived.OpenShut
namespace Go.Proofs.Ytkolcgnembaghaa.H
open Go.RowKit Go.Proofs.YtkolcgnembaghaaW.PrintWords Go.Proofs.YtkolcgnembaghaaW.PrintLast Go.Proofs.YtkolcgnembaghaaW.PrintMore Go.Proofs.Ytkolcgnembaghaa.Q
set_option linter.unusedVariables false
set_option linter.unusedSimpArgs false
theorem same_self0 (k : Nat) : spliceref02_Same.f (k + 1) [] [] = some true := rfl
theorem same_self1 (k : Nat) (x : S51) : spliceref02_Same.f (k + 2) [x] [⟨x.f0, x.f1, x.f2, x.f3, x.f4⟩] = some true := by
  have e : wrap64 (0 + 1) = 1 := by decide +kernel
  unfold spliceref02_Same.f
  rw [if_pos rfl, spliceref02_Same.l0, if_pos (by simp), if_pos (by decide), if_pos (by simp), if_neg (by simp [rd_T51]), e, spliceref02_Same.l0, if_neg (by simp)]
theorem same_self2 (k : Nat) (x y : S51) : spliceref02_Same.f (k + 3) [x, y] [⟨x.f0, x.f1, x.f2, x.f3, x.f4⟩, ⟨y.f0, y.f1, y.f2, y.f3, y.f4⟩] = some true := by
  have e : wrap64 (0 + 1) = 1 := by decide +kernel
  have e' : wrap64 (1 + 1) = 2 := by decide +kernel
  unfold spliceref02_Same.f
  rw [if_pos rfl, spliceref02_Same.l0, if_pos (by simp), if_pos (by decide), if_pos (by simp), if_neg (by simp [rd_T51]), e, spliceref02_Same.l0, if_pos (by simp), if_pos (by decide), if_pos (by simp), if_neg (by simp [rd_T51]), e', spliceref02_Same.l0, if_neg (by simp)]
theorem aluKeeps_pure : splicelaw04_AluKeeps.Pure := by
  intro a w _ hw
  have rw_ := bounds_u32 hw
  refine ⟨10, ?_⟩
  have e : wrap64 (0 + 1) = 1 := by decide +kernel
  have e' : wrap64 (1 + 1) = 2 := by decide +kernel
  unfold splicelaw04_AluKeeps.f
  rw [show (10 : Nat) = 9 + 1 from rfl, qconst 9 a w (by omega) (by omega), Option.bind_some]
  have hC := fun k => qconst k a w rw_.1 rw_.2
  have hlen := constS_small a w
  generalize constS a w = l at *
  match l, hlen with
  | [], _ =>
    rw [splicelaw04_AluKeeps.l0, if_neg (by simp), show (9 : Nat) = 8 + 1 from rfl, awake_k 8, Option.bind_some, if_pos rfl, hC 8, Option.bind_some, same_self0 8]; rfl
  | [x], _ =>
    rw [splicelaw04_AluKeeps.l0, if_pos (by simp), if_pos (by decide), if_pos (by simp), e, show (9 : Nat) = 8 + 1 from rfl, splicelaw04_AluKeeps.l0, if_neg (by simp), show (8 : Nat) = 7 + 1 from rfl, awake_k 7, Option.bind_some, if_pos rfl, hC 7, Option.bind_some]
    simp only [rd_T51, List.nil_append, show (0 : Int).toNat = 0 from rfl, List.getD_cons_zero]
    rw [same_self1 6 x]; rfl
  | [x, y], _ =>
    rw [splicelaw04_AluKeeps.l0, if_pos (by simp), if_pos (by decide), if_pos (by simp), e, show (9 : Nat) = 8 + 1 from rfl, splicelaw04_AluKeeps.l0, if_pos (by simp), if_pos (by decide), if_pos (by simp), e', show (8 : Nat) = 7 + 1 from rfl, splicelaw04_AluKeeps.l0, if_neg (by simp), show (7 : Nat) = 6 + 1 from rfl, awake_k 6, Option.bind_some, if_pos rfl, hC 6, Option.bind_some]
    simp only [rd_T51, List.nil_append, show (0 : Int).toNat = 0 from rfl, show (1 : Int).toNat = 1 from rfl, List.getD_cons_zero, List.set, List.getD_cons_succ, List.cons_append]
    rw [same_self2 4 x y]; rfl
end Go.Proofs.Ytkolcgnembaghaa.H
