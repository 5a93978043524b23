/- AluConsts, in plain Lean. -/
import Derived.Test.YtkolcgnembaghaaAluP
import Derived.Test.YtkolcgnembaghaaQx6
import Derived.OpenShut
namespace Go.Proofs.Ytkolcgnembaghaa.H
open Go.RowKit Go.Proofs.YtkolcgnembaghaaW.PrintWords Go.Proofs.YtkolcgnembaghaaW.PrintLast Go.Proofs.YtkolcgnembaghaaW.PrintMore Go.Proofs.Ytkolcgnembaghaa.Q
set_option linter.unusedVariables false
set_option linter.unusedSimpArgs false
theorem consts_round (k : Nat) (a w : Int) (l : List S51) (x i y : Int) (hi : i < (l.length : Int)) (h0 : 0 ≤ i)
    (hR : spliceref02_Right.f (rd_T51 l i).f0 (rd_T51 l i).f1 (rd_T51 l i).f2 (rd_T51 l i).f3 (rd_T51 l i).f4 = some true) (hA : (rd_T51 l i).f1 = a)
    (hK : spliceref03_Kind.f (rd_T51 l i).f0 (rd_T51 l i).f1 (rd_T51 l i).f2 (rd_T51 l i).f3 (rd_T51 l i).f4 = some 0)
    (ha : a ≠ 0)
    (hb : ((rd_T51 l i).f2 = 0 ∧ alu_Do.f (rd_T51 l i).f0 (rd_T51 l i).f1 (rd_T51 l i).f2 (rd_T51 l i).f3 (rd_T51 l i).f4 0 0 = some y) ∨ ((rd_T51 l i).f2 = a ∧ i ≠ 0 ∧ alu_Do.f (rd_T51 l i).f0 (rd_T51 l i).f1 (rd_T51 l i).f2 (rd_T51 l i).f3 (rd_T51 l i).f4 x 0 = some y)) :
    splicelaw04_AluConsts.l0 (k + 2) a w l x i = splicelaw04_AluConsts.l0 k a w l y (wrap64 (i + 1)) := by
  rw [splicelaw04_AluConsts.l0, if_pos hi, if_pos h0, hR, Option.bind_some, if_pos rfl, if_pos hA]
  rcases hb with ⟨b, d⟩ | ⟨b, c, d⟩
  · rw [if_pos b, hK, Option.bind_some, if_pos rfl]
    have key : splicelaw04_AluConsts.j2 (k + 1) a w l x i false (rd_T51 l i).f0 (rd_T51 l i).f1 (rd_T51 l i).f2 (rd_T51 l i).f3 (rd_T51 l i).f4 = splicelaw04_AluConsts.l0 k a w l y (wrap64 (i + 1)) := by
      rw [splicelaw04_AluConsts.j2, if_neg (by decide), if_neg (by rw [b]; exact fun h => ha h.symm), d, Option.bind_some]
    by_cases z : i = 0
    · rw [if_pos z, show ((rd_T51 l i).f2 != 0) = false by simp [b]]; exact key
    · rw [if_neg z]; exact key
  · rw [if_neg (by rw [b]; exact ha), if_pos b, hK, Option.bind_some, if_pos rfl, if_neg c, splicelaw04_AluConsts.j2, if_neg (by decide), if_pos b, d, Option.bind_some]
theorem kind_k (o a b c d : Int) (h : o = 8 ∨ o = 9 ∨ o = 10) : spliceref03_Kind.f o a b c d = some 0 := by
  rcases h with rfl | rfl | rfl <;> rfl
theorem do8 (a n x : Int) : alu_Do.f 8 a 0 0 n x 0 = some ((x + n % 4294967296) % 4294967296) := by
  show (bits_Cut.f n 32).bind (fun t => some ((x + t) % 4294967296)) = _
  rw [qcut, cut32]; rfl
theorem do9 (a n x : Int) : alu_Do.f 9 a 0 0 n x 0 = some ((n % 65536 * 65536) % 4294967296) := by
  show (bits_Cut.f n 16).bind (fun t => some ((t * 65536) % 4294967296)) = _
  rw [qcut, cut16]; rfl
theorem do10 (a b n x : Int) : alu_Do.f 10 a b 0 n x 0 = some (Go.bits .or .u32 x (n % 65536)) := by
  show (bits_Cut.f n 16).bind (fun t => some (Go.bits .or .u32 x t)) = _
  rw [qcut, cut16]; rfl
theorem consts_end1 (k : Nat) (a w : Int) (z : S51) (h : z.f0 = 8 ∨ (32767 < w ∧ w < 4294934528)) : splicelaw04_AluConsts.l0 (k + 1) a w [z] w 1 = some true := by
  rw [splicelaw04_AluConsts.l0, if_neg (by simp)]
  by_cases c : w ≤ 32767
  · have h' : z.f0 = 8 := by omega
    simp [c, rd_T51, h']
  · rw [if_neg c]
    by_cases d : w ≥ 4294934528
    · have h' : z.f0 = 8 := by omega
      simp only [ge_iff_le] at d
      simp [d, rd_T51, h']
    · simp only [ge_iff_le] at d
      simp [d]
theorem consts_end2 (k : Nat) (a w : Int) (y z : S51) (h : 32767 < w ∧ w < 4294934528) (h' : w % 65536 ≠ 0) : splicelaw04_AluConsts.l0 (k + 1) a w [y, z] w 2 = some true := by
  have c : ¬ w ≤ 32767 := by omega
  have d : ¬ 4294934528 ≤ w := by omega
  rw [splicelaw04_AluConsts.l0, if_neg (by simp), if_neg c, Int.tmod_eq_emod_of_nonneg (by omega)]
  simp [d]
  omega
theorem aluConsts_pure : splicelaw04_AluConsts.Pure := by
  intro a w x _ hw hx
  have rw_ := bounds_u32 hw
  have rx_ := bounds_u32 hx
  refine ⟨20, ?_⟩
  have e : wrap64 (0 + 1) = 1 := by decide +kernel
  have e' : wrap64 (1 + 1) = 2 := by decide +kernel
  have e1 : splicelaw04_AluConsts.f 20 a w x = splicelaw04_AluConsts.j0 20 a w x (constS a w) (decide (a < 1 ∨ a > 15)) := by
    unfold splicelaw04_AluConsts.f
    rw [show (20 : Nat) = 19 + 1 from rfl, qconst 19 a w (by omega) (by omega), Option.bind_some, awake_k 19, Option.bind_some, if_pos rfl]
    by_cases c : a < 1
    · rw [if_pos c]; simp [c]
    · rw [if_neg c]; simp [c]
  rw [e1, splicelaw04_AluConsts.j0]
  by_cases c : a < 1 ∨ a > 15
  · rw [if_pos (by simp only [c, decide_true]), show (19 : Nat) = 18 + 1 from rfl, awake_k 18, Option.bind_some, if_pos rfl]
    unfold constS
    rw [if_pos (by omega)]; rfl
  rw [if_neg (by simp only [c, decide_false]; decide)]
  unfold constS
  rw [if_neg (by omega)]
  have hs := sign32 w rw_.1 rw_.2
  by_cases d : -32768 ≤ signS w 32 ∧ signS w 32 < 32768
  · rw [if_pos d]
    generalize signS w 32 = n at *
    rw [show (19 : Nat) = 17 + 2 from rfl, consts_round 17 a w [⟨8, a, 0, 0, n⟩] x 0 w (by simp) (by decide) (right8 a n (by omega) (by omega) (by omega) (by omega)) rfl (kind_k _ _ _ _ _ (.inl rfl)) (by omega)
      (.inl ⟨rfl, by
        show alu_Do.f 8 a 0 0 n 0 0 = some w
        rw [do8]; congr 1; split at hs <;> omega⟩), e]
    exact consts_end1 16 a w _ (.inl rfl)
  · rw [if_neg d]
    have hbig : 32767 < w ∧ w < 4294934528 := by split at hs <;> omega
    clear hs d
    by_cases g : w % 65536 = 0
    · rw [if_pos g, show (19 : Nat) = 17 + 2 from rfl, consts_round 17 a w [⟨9, a, 0, 0, w / 65536⟩] x 0 w (by simp) (by decide) (right9 a (w / 65536) (by omega) (by omega) (by omega) (by omega)) rfl (kind_k _ _ _ _ _ (.inr (.inl rfl))) (by omega)
        (.inl ⟨rfl, by
          show alu_Do.f 9 a 0 0 (w / 65536) 0 0 = some w
          rw [do9]; congr 1; omega⟩), e]
      exact consts_end1 16 a w _ (.inr hbig)
    · rw [if_neg g, show (19 : Nat) = 17 + 2 from rfl, consts_round 17 a w [⟨9, a, 0, 0, w / 65536⟩, ⟨10, a, a, 0, w % 65536⟩] x 0 (w / 65536 * 65536) (by simp) (by decide) (right9 a (w / 65536) (by omega) (by omega) (by omega) (by omega)) rfl (kind_k _ _ _ _ _ (.inr (.inl rfl))) (by omega)
        (.inl ⟨rfl, by
          show alu_Do.f 9 a 0 0 (w / 65536) 0 0 = some (w / 65536 * 65536)
          rw [do9]; congr 1; omega⟩), e,
        show (17 : Nat) = 15 + 2 from rfl, consts_round 15 a w [⟨9, a, 0, 0, w / 65536⟩, ⟨10, a, a, 0, w % 65536⟩] (w / 65536 * 65536) 1 w (by simp) (by decide) (right10 a (w % 65536) (by omega) (by omega) (by omega) (by omega)) rfl (kind_k _ _ _ _ _ (.inr (.inr rfl))) (by omega)
        (.inr ⟨rfl, by decide, by
          show alu_Do.f 10 a a 0 (w % 65536) (w / 65536 * 65536) 0 = some w
          rw [do10, show w % 65536 % 65536 = w % 65536 by omega, or_low _ _ (by omega) (by omega) (by omega) (by omega)]; congr 1; omega⟩), e']
      exact consts_end2 14 a w _ _ hbig g
end Go.Proofs.Ytkolcgnembaghaa.H
