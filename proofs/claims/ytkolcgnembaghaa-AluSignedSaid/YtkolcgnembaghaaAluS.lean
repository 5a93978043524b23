/- AluSigned: its walk. -/
import Derived.Test.YtkolcgnembaghaaAluP
import Derived.Test.YtkolcgnembaghaaQx7
import Derived.OpenShut
namespace Go.Proofs.Ytkolcgnembaghaa.H
open Go.RowKit Go.Proofs.YtkolcgnembaghaaW.PrintWords Go.Proofs.YtkolcgnembaghaaW.PrintLast Go.Proofs.YtkolcgnembaghaaW.PrintMore Go.Proofs.Ytkolcgnembaghaa.Q
set_option linter.unusedVariables false
set_option linter.unusedSimpArgs false
attribute [local go_sem high] eqA51
theorem lt_q (a b : Int) (a0 : 0 ≤ a) (a1 : a ≤ 4294967295) (b0 : 0 ≤ b) (b1 : b ≤ 4294967295) (x : Bool) (h : decide (signS a 32 < signS b 32) = x) : splicelaw04_lt.f a b = some x := by
  subst h
  have e : splicelaw04_lt.f a b = (alu_less.f a b).bind fun t => some t := by
    unfold splicelaw04_lt.f alu_Taken.f
    cases alu_less.f a b <;> rfl
  rw [e, qless a b a0 a1 b0 b1]; rfl
structure Facts (a b c s : Int) (lab lba lbc lac eq : Bool) : Prop where
  h1 : splicelaw04_lt.f a b = some lab
  h2 : splicelaw04_lt.f b a = some lba
  h3 : splicelaw04_lt.f b c = some lbc
  h4 : splicelaw04_lt.f a c = some lac
  q1 : alu_Taken.f 15 a b = some eq
  q2 : alu_Taken.f 16 a b = some (!eq)
  q3 : alu_Taken.f 18 a b = some (!lab)
  d1 : alu_Do.f 1 1 0 0 0 a b = some s
  d2 : alu_Do.f 2 1 0 0 0 s b = some a
  d3 : alu_Do.f 6 1 0 0 0 a b = some (if lab then 1 else 0)
set_option hygiene false in
macro "asig_walk" : tactic => `(tactic| (
  go_enter Try.func16, Try.ntmps16
  go_wp2_with (first
    | (go_at_call 38; (with_reducible refine (splicelaw04_awake.calls 1 true _ awake_q).mono ?_); rintro e w8 ⟨rfl, hb⟩; have n0_ := Aside0.mk (below_step (by repeat (first | (with_reducible first | exact HB.out | apply below_alloc | apply pw_below_drewN | apply below_drew1) | exact HB.out)) hb); clear HB; have HB := n0_; clear n0_; (try clear hb))
    | (go_at_call 41; (with_reducible refine (alu_Do.calls _ _ _ _ _ _ _ _ _ (by first | exact F.out.d1 | exact F.out.d2 | exact F.out.d3)).mono ?_); rintro e w8 ⟨rfl, hb⟩; have n0_ := Aside0.mk (below_step (by repeat (first | (with_reducible first | exact HB.out | apply below_alloc | apply pw_below_drewN | apply below_drew1) | exact HB.out)) hb); clear HB; have HB := n0_; clear n0_; (try clear hb))
    | (go_at_call 43; (with_reducible refine (alu_Taken.calls _ _ _ _ _ (by first | exact F.out.q1 | exact F.out.q2 | exact F.out.q3)).mono ?_); rintro e w' ⟨rfl, ⟨nd, rfl⟩⟩)
    | (go_at_call 46; (with_reducible refine (splicelaw04_lt.calls _ _ _ _ (by first | exact F.out.h1 | exact F.out.h2 | exact F.out.h3 | exact F.out.h4)).mono ?_); rintro e w' ⟨rfl, ⟨nd, rfl⟩⟩))))
theorem asig1 (a b c s : Int) (w : World) (hne : ¬ a = b) (F0 : Facts a b c s true false true true false) :
    Calls Try.prog 16 #[.int .u32 a, .int .u32 b, .int .u32 c] w fun e w' => e = .returned (.bool true) ∧ Below w.heap.size w w' := by
  have hu51 := Try.underlying51
  have HB := Aside0.mk (Below.refl w.heap.size w)
  have F := Aside0.mk F0
  clear F0
  asig_walk
  go_ret
  exact ⟨by first | rfl | simp | simp [*], by repeat (first | (with_reducible first | exact HB.out | apply below_alloc | apply pw_below_drewN | apply below_drew1) | exact HB.out)⟩
theorem asig2 (a b c s : Int) (lac : Bool) (w : World) (hne : ¬ a = b) (F0 : Facts a b c s true false false lac false) :
    Calls Try.prog 16 #[.int .u32 a, .int .u32 b, .int .u32 c] w fun e w' => e = .returned (.bool true) ∧ Below w.heap.size w w' := by
  have hu51 := Try.underlying51
  have HB := Aside0.mk (Below.refl w.heap.size w)
  have F := Aside0.mk F0
  clear F0
  asig_walk
  go_ret
  exact ⟨by first | rfl | simp | simp [*], by repeat (first | (with_reducible first | exact HB.out | apply below_alloc | apply pw_below_drewN | apply below_drew1) | exact HB.out)⟩
theorem asig3 (a b c s : Int) (lbc lac : Bool) (w : World) (hne : ¬ a = b) (F0 : Facts a b c s false true lbc lac false) :
    Calls Try.prog 16 #[.int .u32 a, .int .u32 b, .int .u32 c] w fun e w' => e = .returned (.bool true) ∧ Below w.heap.size w w' := by
  have hu51 := Try.underlying51
  have HB := Aside0.mk (Below.refl w.heap.size w)
  have F := Aside0.mk F0
  clear F0
  asig_walk
  go_ret
  exact ⟨by first | rfl | simp | simp [*], by repeat (first | (with_reducible first | exact HB.out | apply below_alloc | apply pw_below_drewN | apply below_drew1) | exact HB.out)⟩
theorem asig4 (a c s : Int) (lbc lac : Bool) (w : World) (F0 : Facts a a c s false false lbc lac true) :
    Calls Try.prog 16 #[.int .u32 a, .int .u32 a, .int .u32 c] w fun e w' => e = .returned (.bool true) ∧ Below w.heap.size w w' := by
  have hu51 := Try.underlying51
  have HB := Aside0.mk (Below.refl w.heap.size w)
  have F := Aside0.mk F0
  clear F0
  asig_walk
  go_ret
  exact ⟨by first | rfl | simp | simp [*], by repeat (first | (with_reducible first | exact HB.out | apply below_alloc | apply pw_below_drewN | apply below_drew1) | exact HB.out)⟩

theorem aluSigned_walk (a b c : Int) (w : World) (a0 : 0 ≤ a) (a1 : a ≤ 4294967295) (b0 : 0 ≤ b) (b1 : b ≤ 4294967295) (c0 : 0 ≤ c) (c1 : c ≤ 4294967295) :
    Calls Try.prog 16 #[.int .u32 a, .int .u32 b, .int .u32 c] w fun e w' => e = .returned (.bool true) ∧ Below w.heap.size w w' := by
  have inj : a = b ↔ signS a 32 = signS b 32 := by
    rw [sign32 a a0 a1, sign32 b b0 b1]; split <;> split <;> omega
  have F : ∀ (lab lba lbc lac eq : Bool), decide (signS a 32 < signS b 32) = lab → decide (signS b 32 < signS a 32) = lba → decide (signS b 32 < signS c 32) = lbc → decide (signS a 32 < signS c 32) = lac → decide (a = b) = eq →
      Facts a b c ((a + b) % 4294967296) lab lba lbc lac eq := by
    intro lab lba lbc lac eq e1 e2 e3 e4 e5
    have hl := qless a b a0 a1 b0 b1
    refine ⟨lt_q a b a0 a1 b0 b1 _ e1, lt_q b a b0 b1 a0 a1 _ e2, lt_q b c b0 b1 c0 c1 _ e3, lt_q a c a0 a1 c0 c1 _ e4, ?_, ?_, ?_, rfl, ?_, ?_⟩
    · show some (a == b) = _
      rw [← e5]; by_cases h : a = b <;> simp [h]
    · show some (a != b) = _
      rw [← e5]; by_cases h : a = b <;> simp [h]
    · show (alu_less.f a b).bind (fun t => some (!t)) = _
      rw [hl, e1]; rfl
    · show some (((a + b) % 4294967296 - b) % 4294967296) = _
      congr 1; omega
    · show (alu_less.f a b).bind (fun t => if t = true then some 1 else some 0) = _
      rw [hl, e1]; cases lab <;> rfl
  generalize hx : signS a 32 = x at *
  generalize hy : signS b 32 = y at *
  generalize hz : signS c 32 = z at *
  rcases Int.lt_trichotomy x y with h | h | h
  · by_cases k : y < z
    · exact asig1 a b c _ w (fun e => by have := inj.1 e; omega) (F _ _ _ _ _ (by simp; omega) (by simp; omega) (by simp; omega) (by simp; omega) (by simp; exact fun e => by have := inj.1 e; omega))
    · exact asig2 a b c _ _ w (fun e => by have := inj.1 e; omega) (F _ _ _ _ _ (by simp; omega) (by simp; omega) (by simp; omega) rfl (by simp; exact fun e => by have := inj.1 e; omega))
  · obtain rfl := inj.2 h
    exact asig4 a c _ _ _ w (F _ _ _ _ _ (by simp; omega) (by simp; omega) rfl rfl (by simp))
  · exact asig3 a b c _ _ _ w (fun e => by have := inj.1 e; omega) (F _ _ _ _ _ (by simp; omega) (by simp; omega) rfl rfl (by simp; exact fun e => by have := inj.1 e; omega))
end Go.Proofs.Ytkolcgnembaghaa.H
