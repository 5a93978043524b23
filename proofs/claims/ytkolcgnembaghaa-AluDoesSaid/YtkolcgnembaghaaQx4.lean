-- functions and contracts of this seat, written by the kit's print program for several roots at once; not the print of a statement
import Derived.Test.YtkolcgnembaghaaQx0
import Derived.Test.YtkolcgnembaghaaQx3
namespace Go.Proofs.Ytkolcgnembaghaa.Q
open Go.RowKit Go.Proofs.YtkolcgnembaghaaW.PrintWords Go.Proofs.YtkolcgnembaghaaW.PrintLast Go.Proofs.YtkolcgnembaghaaW.PrintMore
attribute [local go_sem] max2_int min2_int max_two min_two max_three min_three max_four min_four   -- for this text's walks alone
set_option linter.unusedVariables false
set_option linter.unusedSimpArgs false

/-! ### spliceref01_Mod: function 50 -/
def spliceref01_Mod.f (a0 : Int) (a1 : Int) : Option (Int) := if a1 = 0 then (none) else (if (Int.tmod a0 a1) < 0 then (some (wrap64 ((Int.tmod a0 a1) + a1))) else (some (Int.tmod a0 a1)))
set_option maxHeartbeats 8000000 in
set_option maxRecDepth 100000 in
theorem spliceref01_Mod.calls (a0 : Int) (a1 : Int) (r : Int) (w : World) (h : spliceref01_Mod.f a0 a1 = some r) :
    Calls Try.prog 50 #[.int .i64 a0, .int .i64 a1] w fun e w' => e = .returned (.int .i64 r) ∧ Drawn0 w w' := by
  have H : (if a1 = 0 then (none) else (if (Int.tmod a0 a1) < 0 then (some (wrap64 ((Int.tmod a0 a1) + a1))) else (some (Int.tmod a0 a1)))) = some r := h
  clear h
  by_cases c3 : a1 = 0
  · rw [if_pos c3] at H
    exact absurd H (by simp)
  · rw [if_neg c3] at H
    have c3b0 : (a1 == 0) = false := beq_eq_false_iff_ne.mpr c3
    have c3b1 : (a1 != 0) = true := bne_iff_ne.mpr c3
    by_cases c4 : (Int.tmod a0 a1) < 0
    · rw [if_pos c4] at H
      have c4b0 : decide ((Int.tmod a0 a1) < 0) = true := decide_eq_true c4
      clear c4
      obtain rfl := Option.some.inj H
      go_enter Try.func50, Try.ntmps50
      go_wp2
      go_ret
      exact ⟨by first | rfl | (simp; done) | (simp [*]; done), by repeat (first | exact Drawn0.refl _ | apply Drawn0.step)⟩
    · rw [if_neg c4] at H
      have c4b0 : decide ((Int.tmod a0 a1) < 0) = false := decide_eq_false c4
      clear c4
      obtain rfl := Option.some.inj H
      go_enter Try.func50, Try.ntmps50
      go_wp2
      go_ret
      exact ⟨by first | rfl | (simp; done) | (simp [*]; done), by repeat (first | exact Drawn0.refl _ | apply Drawn0.step)⟩

/-! ### spliceref04_word: function 62 -/
def spliceref04_word.f (a0 : Int) : Option (Int) := (spliceref01_Mod.f a0 4294967296).bind fun t155 => (some ((t155) % 4294967296))
set_option maxHeartbeats 8000000 in
set_option maxRecDepth 100000 in
theorem spliceref04_word.calls (a0 : Int) (r : Int) (w : World) (h : spliceref04_word.f a0 = some r) :
    Calls Try.prog 62 #[.int .i64 a0] w fun e w' => e = .returned (.int .u32 r) ∧ Drawn0 w w' := by
  have H : ((spliceref01_Mod.f a0 4294967296).bind fun t155 => (some ((t155) % 4294967296))) = some r := h
  clear h
  replace H := Option.bind_eq_some_iff.mp H
  obtain ⟨t155, A20, H⟩ := H
  replace H : (some ((t155) % 4294967296)) = some r := H
  have A2 := Aside0.mk A20
  clear A20
  obtain rfl := Option.some.inj H
  go_enter Try.func62, Try.ntmps62
  go_wp2_with (first | ((with_reducible refine gate_callee (f := 50) rfl ?_); refine goesL_ (some 4) rfl rfl Try.func50 (by kernel_rfl) rfl #[.int .i64 a0, .int .i64 4294967296] rfl (by (try simp only [List.map_toArray, List.map_cons, List.map_nil]); first | done | rfl | (simp only [List.length_drop, List.length_take]; rfl)) ?_; (with_reducible refine (spliceref01_Mod.calls a0 4294967296 t155 _ A2.out).mono ?_); rintro e w' ⟨rfl, ⟨nd, rfl⟩⟩; refine ⟨_, rfl, ?_⟩))
  go_ret
  exact ⟨by first | rfl | (simp; done) | (simp [*]; done), by repeat (first | exact Drawn0.refl _ | apply Drawn0.step)⟩

/-! ### spliceref04_bitwise: function 63 -/
def spliceref04_bitwise.l0 : Nat → Int → Int → Int → Int → Int → Option (Int)
  | 0, _, _, _, _, _ => none
  | k + 1, x0, x1, x2, x7, x8 => if x8 ≥ 0 then (if 0 ≤ (IntKind.u64.wrap (x8)) then (if x2 = 1 then (if x2 = 2 then (spliceref04_bitwise.l0 k x0 x1 x2 (wrap64 ((wrap64 (2 * x7)) + (Int.tmod (wrap64 ((Int.tmod (wrap64 (shr .u32 x0 (IntKind.u64.wrap (x8)))) 2) + (Int.tmod (wrap64 (shr .u32 x1 (IntKind.u64.wrap (x8)))) 2))) 2))) (wrap64 (x8 - 1))) else (spliceref04_bitwise.l0 k x0 x1 x2 (wrap64 ((wrap64 (2 * x7)) + (wrap64 ((wrap64 ((Int.tmod (wrap64 (shr .u32 x0 (IntKind.u64.wrap (x8)))) 2) + (Int.tmod (wrap64 (shr .u32 x1 (IntKind.u64.wrap (x8)))) 2))) - (wrap64 ((Int.tmod (wrap64 (shr .u32 x0 (IntKind.u64.wrap (x8)))) 2) * (Int.tmod (wrap64 (shr .u32 x1 (IntKind.u64.wrap (x8)))) 2))))))) (wrap64 (x8 - 1)))) else (if x2 = 2 then (spliceref04_bitwise.l0 k x0 x1 x2 (wrap64 ((wrap64 (2 * x7)) + (Int.tmod (wrap64 ((Int.tmod (wrap64 (shr .u32 x0 (IntKind.u64.wrap (x8)))) 2) + (Int.tmod (wrap64 (shr .u32 x1 (IntKind.u64.wrap (x8)))) 2))) 2))) (wrap64 (x8 - 1))) else (spliceref04_bitwise.l0 k x0 x1 x2 (wrap64 ((wrap64 (2 * x7)) + (wrap64 ((Int.tmod (wrap64 (shr .u32 x0 (IntKind.u64.wrap (x8)))) 2) * (Int.tmod (wrap64 (shr .u32 x1 (IntKind.u64.wrap (x8)))) 2))))) (wrap64 (x8 - 1))))) else (none)) else (some ((x7) % 4294967296))
def spliceref04_bitwise.f (k : Nat) (a0 : Int) (a1 : Int) (a2 : Int) : Option (Int) := spliceref04_bitwise.l0 k a0 a1 a2 0 31
theorem spliceref04_bitwise.mono_l : ∀ k, (∀ y0 y1 y2 y3 y4, LeO (spliceref04_bitwise.l0 k y0 y1 y2 y3 y4) (spliceref04_bitwise.l0 (k + 1) y0 y1 y2 y3 y4))
  | 0 => fun _ _ _ _ _ r h => by simp [spliceref04_bitwise.l0] at h
  | k + 1 => by
    have ih0 := spliceref04_bitwise.mono_l k
    · intro y0 y1 y2 y3 y4
      unfold spliceref04_bitwise.l0
      repeat' first
      | (with_reducible exact ih0 _ _ _ _ _)
      | (with_reducible exact LeO.refl _)
      | (with_reducible exact LeO.none _)
      | (with_reducible refine LeO.ite ?_ ?_)
      | (with_reducible refine LeO.bind ?_ (fun _ => ?_))
      | exact ih0 _ _ _ _ _
      | exact LeO.none _
      | refine LeO.ite ?_ ?_
      | refine LeO.bind ?_ (fun _ => ?_)
theorem spliceref04_bitwise.mono : ∀ a0 a1 a2 k, LeO (spliceref04_bitwise.f k a0 a1 a2) (spliceref04_bitwise.f (k + 1) a0 a1 a2) := by
  intro a0 a1 a2 k
  have ih0 := spliceref04_bitwise.mono_l k
  unfold spliceref04_bitwise.f
  repeat' first
      | (with_reducible exact ih0 _ _ _ _ _)
      | (with_reducible exact LeO.refl _)
      | (with_reducible exact LeO.none _)
      | (with_reducible refine LeO.ite ?_ ?_)
      | (with_reducible refine LeO.bind ?_ (fun _ => ?_))
      | exact ih0 _ _ _ _ _
      | exact LeO.none _
      | refine LeO.ite ?_ ?_
      | refine LeO.bind ?_ (fun _ => ?_)
-- by hand (swap.py):
set_option maxHeartbeats 8000000 in
set_option maxRecDepth 100000 in
theorem spliceref04_bitwise.calls (k : Nat) (a0 : Int) (a1 : Int) (a2 : Int) (r : Int) (w : World) (h : spliceref04_bitwise.f k a0 a1 a2 = some r) :
    Calls Try.prog 63 #[.int .u32 a0, .int .u32 a1, .int .i64 a2] w fun e w' => e = .returned (.int .u32 r) ∧ Drawn0 w w' := by
  have H : (spliceref04_bitwise.l0 k a0 a1 a2 0 31) = some r := h
  clear h
  have H' := Aside0.mk H
  clear H
  go_enter Try.func63, Try.ntmps63
  go_wp2
  go_loopg [7, 8] k (fun kq v7 v8 w' => ∃ (x7_1 : Int) (x8_1 : Int), v7 = .int .i64 x7_1 ∧ v8 = .int .i64 x8_1 ∧ Aside0 (spliceref04_bitwise.l0 kq a0 a1 a2 x7_1 x8_1 = some r) ∧ Aside0 (kq ≤ k) ∧ Drawn0 w w')
  case atStart => exact ⟨(0), (31), (by first | rfl | (simp; done) | (simp [*]; done)), (by first | rfl | (simp; done) | (simp [*]; done)), H', ⟨Nat.le_refl _⟩, by repeat (first | exact Drawn0.refl _ | apply Drawn0.step)⟩
  case round =>
    clear H'
    try clear p2
    obtain ⟨x7_1, x8_1, rfl, rfl, HA, HK1, ⟨m1, rfl⟩⟩ := hrel
    cases gk with
    | zero => exact absurd HA.out (by simp [spliceref04_bitwise.l0])
    | succ k1 =>
      have H := HA.out
      clear HA
      simp only [spliceref04_bitwise.l0] at H
      by_cases c4 : x8_1 ≥ 0
      · rw [if_pos c4] at H
        have c4b0 : decide (0 ≤ x8_1) = true := decide_eq_true c4
        clear c4
        obtain ⟨ji5, hji5⟩ : ∃ j_ : Int, (IntKind.u64.wrap (x8_1)) = j_ := ⟨_, rfl⟩
        replace H : (if 0 ≤ (ji5) then (if a2 = 1 then (if a2 = 2 then (spliceref04_bitwise.l0 k1 a0 a1 a2 (wrap64 ((wrap64 (2 * x7_1)) + (Int.tmod (wrap64 ((Int.tmod (wrap64 (shr .u32 a0 (ji5))) 2) + (Int.tmod (wrap64 (shr .u32 a1 (ji5))) 2))) 2))) (wrap64 (x8_1 - 1))) else (spliceref04_bitwise.l0 k1 a0 a1 a2 (wrap64 ((wrap64 (2 * x7_1)) + (wrap64 ((wrap64 ((Int.tmod (wrap64 (shr .u32 a0 (ji5))) 2) + (Int.tmod (wrap64 (shr .u32 a1 (ji5))) 2))) - (wrap64 ((Int.tmod (wrap64 (shr .u32 a0 (ji5))) 2) * (Int.tmod (wrap64 (shr .u32 a1 (ji5))) 2))))))) (wrap64 (x8_1 - 1)))) else (if a2 = 2 then (spliceref04_bitwise.l0 k1 a0 a1 a2 (wrap64 ((wrap64 (2 * x7_1)) + (Int.tmod (wrap64 ((Int.tmod (wrap64 (shr .u32 a0 (ji5))) 2) + (Int.tmod (wrap64 (shr .u32 a1 (ji5))) 2))) 2))) (wrap64 (x8_1 - 1))) else (spliceref04_bitwise.l0 k1 a0 a1 a2 (wrap64 ((wrap64 (2 * x7_1)) + (wrap64 ((Int.tmod (wrap64 (shr .u32 a0 (ji5))) 2) * (Int.tmod (wrap64 (shr .u32 a1 (ji5))) 2))))) (wrap64 (x8_1 - 1))))) else (none)) = some r := by first | (rw [hji5] at H; exact H) | (simp only [hji5] at H ⊢; exact H)
        by_cases c6 : 0 ≤ (ji5)
        · rw [if_pos c6] at H
          have c6b0 := eq_true c6
          have c6b1 : decide (0 ≤ (ji5)) = true := decide_eq_true c6
          clear c6
          obtain ⟨ji7, hji7⟩ : ∃ j_ : Int, (shr .u32 a0 (ji5)) = j_ := ⟨_, rfl⟩
          replace H : (if a2 = 1 then (if a2 = 2 then (spliceref04_bitwise.l0 k1 a0 a1 a2 (wrap64 ((wrap64 (2 * x7_1)) + (Int.tmod (wrap64 ((Int.tmod (wrap64 (ji7)) 2) + (Int.tmod (wrap64 (shr .u32 a1 (ji5))) 2))) 2))) (wrap64 (x8_1 - 1))) else (spliceref04_bitwise.l0 k1 a0 a1 a2 (wrap64 ((wrap64 (2 * x7_1)) + (wrap64 ((wrap64 ((Int.tmod (wrap64 (ji7)) 2) + (Int.tmod (wrap64 (shr .u32 a1 (ji5))) 2))) - (wrap64 ((Int.tmod (wrap64 (ji7)) 2) * (Int.tmod (wrap64 (shr .u32 a1 (ji5))) 2))))))) (wrap64 (x8_1 - 1)))) else (if a2 = 2 then (spliceref04_bitwise.l0 k1 a0 a1 a2 (wrap64 ((wrap64 (2 * x7_1)) + (Int.tmod (wrap64 ((Int.tmod (wrap64 (ji7)) 2) + (Int.tmod (wrap64 (shr .u32 a1 (ji5))) 2))) 2))) (wrap64 (x8_1 - 1))) else (spliceref04_bitwise.l0 k1 a0 a1 a2 (wrap64 ((wrap64 (2 * x7_1)) + (wrap64 ((Int.tmod (wrap64 (ji7)) 2) * (Int.tmod (wrap64 (shr .u32 a1 (ji5))) 2))))) (wrap64 (x8_1 - 1))))) = some r := by first | (rw [hji7] at H; exact H) | (simp only [hji7] at H ⊢; exact H)
          have hji7_ : (a0 / 2 ^ min (ji5).toNat 32) = ji7 := hji7
          have hji7z : (ji5) ≤ 32 → (a0 / 2 ^ (ji5).toNat) = ji7 := shr_small hji7
          have c8b0 := eq_true (of_decide_eq_true (by first | (with_reducible assumption) | assumption) : 0 ≤ (ji5))
          obtain ⟨ji9, hji9⟩ : ∃ j_ : Int, (shr .u32 a1 (ji5)) = j_ := ⟨_, rfl⟩
          replace H : (if a2 = 1 then (if a2 = 2 then (spliceref04_bitwise.l0 k1 a0 a1 a2 (wrap64 ((wrap64 (2 * x7_1)) + (Int.tmod (wrap64 ((Int.tmod (wrap64 (ji7)) 2) + (Int.tmod (wrap64 (ji9)) 2))) 2))) (wrap64 (x8_1 - 1))) else (spliceref04_bitwise.l0 k1 a0 a1 a2 (wrap64 ((wrap64 (2 * x7_1)) + (wrap64 ((wrap64 ((Int.tmod (wrap64 (ji7)) 2) + (Int.tmod (wrap64 (ji9)) 2))) - (wrap64 ((Int.tmod (wrap64 (ji7)) 2) * (Int.tmod (wrap64 (ji9)) 2))))))) (wrap64 (x8_1 - 1)))) else (if a2 = 2 then (spliceref04_bitwise.l0 k1 a0 a1 a2 (wrap64 ((wrap64 (2 * x7_1)) + (Int.tmod (wrap64 ((Int.tmod (wrap64 (ji7)) 2) + (Int.tmod (wrap64 (ji9)) 2))) 2))) (wrap64 (x8_1 - 1))) else (spliceref04_bitwise.l0 k1 a0 a1 a2 (wrap64 ((wrap64 (2 * x7_1)) + (wrap64 ((Int.tmod (wrap64 (ji7)) 2) * (Int.tmod (wrap64 (ji9)) 2))))) (wrap64 (x8_1 - 1))))) = some r := by first | (rw [hji9] at H; exact H) | (simp only [hji9] at H ⊢; exact H)
          have hji9_ : (a1 / 2 ^ min (ji5).toNat 32) = ji9 := hji9
          have hji9z : (ji5) ≤ 32 → (a1 / 2 ^ (ji5).toNat) = ji9 := shr_small hji9
          by_cases c10 : a2 = 1
          · rw [if_pos c10] at H
            have c10b0 : (a2 == 1) = true := beq_iff_eq.mpr c10
            have c10b1 : (a2 != 1) = false := bne_eq_false_iff_eq.mpr c10
            clear c10
            by_cases c11 : a2 = 2
            · exact absurd (eq_of_beq c10b0) (by omega)
            · rw [if_neg c11] at H
              have c11b0 : (a2 == 2) = false := beq_eq_false_iff_ne.mpr c11
              have c11b1 : (a2 != 2) = true := bne_iff_ne.mpr c11
              have H' := Aside0.mk H
              clear H
              go_wp2
              go_roundg k1
              case measure => have := HK1.out; omega
              case rel => exact ⟨(wrap64 ((wrap64 (2 * x7_1)) + (wrap64 ((wrap64 ((Int.tmod (wrap64 (ji7)) 2) + (Int.tmod (wrap64 (ji9)) 2))) - (wrap64 ((Int.tmod (wrap64 (ji7)) 2) * (Int.tmod (wrap64 (ji9)) 2))))))), (wrap64 (x8_1 - 1)), (by first | rfl | (simp; done) | (simp only [← hji7, ← hji9] <;> (first | rfl | simp)) | (simp [*]; done)), (by first | rfl | (simp; done) | (simp [*]; done)), H', ⟨by have := HK1.out; omega⟩, by repeat (first | exact Drawn0.refl _ | apply Drawn0.step)⟩
          · rw [if_neg c10] at H
            have c10b0 : (a2 == 1) = false := beq_eq_false_iff_ne.mpr c10
            have c10b1 : (a2 != 1) = true := bne_iff_ne.mpr c10
            by_cases c12 : a2 = 2
            · rw [if_pos c12] at H
              have c12b0 : (a2 == 2) = true := beq_iff_eq.mpr c12
              have c12b1 : (a2 != 2) = false := bne_eq_false_iff_eq.mpr c12
              clear c12
              have H' := Aside0.mk H
              clear H
              go_wp2
              go_roundg k1
              case measure => have := HK1.out; omega
              case rel => exact ⟨(wrap64 ((wrap64 (2 * x7_1)) + (Int.tmod (wrap64 ((Int.tmod (wrap64 (ji7)) 2) + (Int.tmod (wrap64 (ji9)) 2))) 2))), (wrap64 (x8_1 - 1)), (by first | rfl | (simp; done) | (simp only [← hji7, ← hji9] <;> (first | rfl | simp)) | (simp [*]; done)), (by first | rfl | (simp; done) | (simp [*]; done)), H', ⟨by have := HK1.out; omega⟩, by repeat (first | exact Drawn0.refl _ | apply Drawn0.step)⟩
            · rw [if_neg c12] at H
              have c12b0 : (a2 == 2) = false := beq_eq_false_iff_ne.mpr c12
              have c12b1 : (a2 != 2) = true := bne_iff_ne.mpr c12
              have H' := Aside0.mk H
              clear H
              go_wp2
              go_roundg k1
              case measure => have := HK1.out; omega
              case rel => exact ⟨(wrap64 ((wrap64 (2 * x7_1)) + (wrap64 ((Int.tmod (wrap64 (ji7)) 2) * (Int.tmod (wrap64 (ji9)) 2))))), (wrap64 (x8_1 - 1)), (by first | rfl | (simp; done) | (simp only [← hji7, ← hji9] <;> (first | rfl | simp)) | (simp [*]; done)), (by first | rfl | (simp; done) | (simp [*]; done)), H', ⟨by have := HK1.out; omega⟩, by repeat (first | exact Drawn0.refl _ | apply Drawn0.step)⟩
        · rw [if_neg c6] at H
          exact absurd H (by simp)
      · rw [if_neg c4] at H
        have c4b0 : decide (0 ≤ x8_1) = false := decide_eq_false c4
        clear c4
        obtain rfl := Option.some.inj H
        go_wp2
        go_ret
        exact ⟨by first | rfl | (simp; done) | (simp [*]; done), by repeat (first | exact Drawn0.refl _ | apply Drawn0.step)⟩

/-! ### spliceref04_Do: function 42 -/
mutual
def spliceref04_Do.j0 : Nat → Int → Int → Int → Int → Bool → Int → Int → Int → Int → Int → Option (Int)
  | 0, _, _, _, _, _, _, _, _, _, _ => none
  | k + 1, x1, x2, x7, x8, x34, x157000, x157001, x157002, x157003, x157004 => if x34 = true then ((spliceref04_bitwise.f k x1 x2 (wrap64 (x157000 - 3))).bind fun t159 => (some t159)) else (if x157000 = 6 then ((spliceref01_Sign.f k x1 32).bind fun t160 => ((spliceref01_Sign.f k x2 32).bind fun t161 => (spliceref04_Do.j1 k x1 x7 x8 (decide (t160 < t161)) x157000 x157001 x157002 x157003 x157004))) else (spliceref04_Do.j1 k x1 x7 x8 false x157000 x157001 x157002 x157003 x157004))
def spliceref04_Do.j1 : Nat → Int → Int → Int → Bool → Int → Int → Int → Int → Int → Option (Int)
  | 0, _, _, _, _, _, _, _, _, _ => none
  | k + 1, x1, x7, x8, x50, x157000, x157001, x157002, x157003, x157004 => if x50 = true then (some 1) else (if x157000 = 7 then ((spliceref04_word.f (wrap64 ((wrap64 ((Int.tmod x7 65536) * x8)) + (wrap64 ((wrap64 ((wrap64 (Int.tdiv x7 65536)) * (Int.tmod x8 65536))) * 65536))))).bind fun t162 => (some t162)) else (if x157000 = 8 then ((spliceref04_word.f (wrap64 (x7 + x157004))).bind fun t163 => (some t163)) else (if x157000 = 9 then ((spliceref04_word.f (wrap64 (x157004 * 65536))).bind fun t164 => (some t164)) else (if x157000 = 10 then ((spliceref04_bitwise.f k x1 ((x157004) % 4294967296) 1).bind fun t165 => (some t165)) else (some 0)))))
end
def spliceref04_Do.f (k : Nat) (a0_0 : Int) (a0_1 : Int) (a0_2 : Int) (a0_3 : Int) (a0_4 : Int) (a1 : Int) (a2 : Int) : Option (Int) := if a0_0 = 1 then ((spliceref04_word.f (wrap64 ((wrap64 (a1)) + (wrap64 (a2))))).bind fun t157 => (some t157)) else (if a0_0 = 2 then ((spliceref04_word.f (wrap64 ((wrap64 (a1)) - (wrap64 (a2))))).bind fun t158 => (some t158)) else (if a0_0 ≥ 3 then (spliceref04_Do.j0 k a1 a2 (wrap64 (a1)) (wrap64 (a2)) (decide (a0_0 ≤ 5)) a0_0 a0_1 a0_2 a0_3 a0_4) else (spliceref04_Do.j0 k a1 a2 (wrap64 (a1)) (wrap64 (a2)) false a0_0 a0_1 a0_2 a0_3 a0_4)))
theorem spliceref04_Do.mono_l : ∀ k, (∀ y0 y1 y2 y3 y4 y5 y6 y7 y8 y9, LeO (spliceref04_Do.j0 k y0 y1 y2 y3 y4 y5 y6 y7 y8 y9) (spliceref04_Do.j0 (k + 1) y0 y1 y2 y3 y4 y5 y6 y7 y8 y9)) ∧ (∀ y0 y1 y2 y3 y4 y5 y6 y7 y8, LeO (spliceref04_Do.j1 k y0 y1 y2 y3 y4 y5 y6 y7 y8) (spliceref04_Do.j1 (k + 1) y0 y1 y2 y3 y4 y5 y6 y7 y8))
  | 0 => ⟨fun _ _ _ _ _ _ _ _ _ _ r h => by simp [spliceref04_Do.j0] at h, fun _ _ _ _ _ _ _ _ _ r h => by simp [spliceref04_Do.j1] at h⟩
  | k + 1 => by
    obtain ⟨ih0, ih1⟩ := spliceref04_Do.mono_l k
    refine ⟨?_, ?_⟩
    · intro y0 y1 y2 y3 y4 y5 y6 y7 y8 y9
      unfold spliceref04_Do.j0
      repeat' first
      | (with_reducible exact ih0 _ _ _ _ _ _ _ _ _ _)
      | (with_reducible exact ih1 _ _ _ _ _ _ _ _ _)
      | (with_reducible exact spliceref01_Sign.mono _ _ _)
      | (with_reducible exact spliceref04_bitwise.mono _ _ _ _)
      | (with_reducible exact LeO.refl _)
      | (with_reducible exact LeO.none _)
      | (with_reducible refine LeO.ite ?_ ?_)
      | (with_reducible refine LeO.bind ?_ (fun _ => ?_))
      | exact ih0 _ _ _ _ _ _ _ _ _ _
      | exact ih1 _ _ _ _ _ _ _ _ _
      | exact spliceref01_Sign.mono _ _ _
      | exact spliceref04_bitwise.mono _ _ _ _
      | exact LeO.none _
      | refine LeO.ite ?_ ?_
      | refine LeO.bind ?_ (fun _ => ?_)
    · intro y0 y1 y2 y3 y4 y5 y6 y7 y8
      unfold spliceref04_Do.j1
      repeat' first
      | (with_reducible exact ih0 _ _ _ _ _ _ _ _ _ _)
      | (with_reducible exact ih1 _ _ _ _ _ _ _ _ _)
      | (with_reducible exact spliceref01_Sign.mono _ _ _)
      | (with_reducible exact spliceref04_bitwise.mono _ _ _ _)
      | (with_reducible exact LeO.refl _)
      | (with_reducible exact LeO.none _)
      | (with_reducible refine LeO.ite ?_ ?_)
      | (with_reducible refine LeO.bind ?_ (fun _ => ?_))
      | exact ih0 _ _ _ _ _ _ _ _ _ _
      | exact ih1 _ _ _ _ _ _ _ _ _
      | exact spliceref01_Sign.mono _ _ _
      | exact spliceref04_bitwise.mono _ _ _ _
      | exact LeO.none _
      | refine LeO.ite ?_ ?_
      | refine LeO.bind ?_ (fun _ => ?_)
theorem spliceref04_Do.mono : ∀ a0 a1 a2 a3 a4 a5 a6 k, LeO (spliceref04_Do.f k a0 a1 a2 a3 a4 a5 a6) (spliceref04_Do.f (k + 1) a0 a1 a2 a3 a4 a5 a6) := by
  intro a0 a1 a2 a3 a4 a5 a6 k
  obtain ⟨ih0, ih1⟩ := spliceref04_Do.mono_l k
  unfold spliceref04_Do.f
  repeat' first
      | (with_reducible exact ih0 _ _ _ _ _ _ _ _ _ _)
      | (with_reducible exact ih1 _ _ _ _ _ _ _ _ _)
      | (with_reducible exact spliceref01_Sign.mono _ _ _)
      | (with_reducible exact spliceref04_bitwise.mono _ _ _ _)
      | (with_reducible exact LeO.refl _)
      | (with_reducible exact LeO.none _)
      | (with_reducible refine LeO.ite ?_ ?_)
      | (with_reducible refine LeO.bind ?_ (fun _ => ?_))
      | exact ih0 _ _ _ _ _ _ _ _ _ _
      | exact ih1 _ _ _ _ _ _ _ _ _
      | exact spliceref01_Sign.mono _ _ _
      | exact spliceref04_bitwise.mono _ _ _ _
      | exact LeO.none _
      | refine LeO.ite ?_ ?_
      | refine LeO.bind ?_ (fun _ => ?_)
set_option maxHeartbeats 8000000 in
set_option maxRecDepth 100000 in
theorem spliceref04_Do.calls (k : Nat) (a0_0 : Int) (a0_1 : Int) (a0_2 : Int) (a0_3 : Int) (a0_4 : Int) (a1 : Int) (a2 : Int) (r : Int) (w : World) (h : spliceref04_Do.f k a0_0 a0_1 a0_2 a0_3 a0_4 a1 a2 = some r) :
    Calls Try.prog 42 #[.agg #[.int .i64 a0_0, .int .i64 a0_1, .int .i64 a0_2, .int .i64 a0_3, .int .i64 a0_4], .int .u32 a1, .int .u32 a2] w fun e w' => e = .returned (.int .u32 r) ∧ Below w.heap.size w w' := by
  have hu51 := Try.underlying51
  have HB := Aside0.mk (Below.refl w.heap.size w)
  have H : (if a0_0 = 1 then ((spliceref04_word.f (wrap64 ((wrap64 (a1)) + (wrap64 (a2))))).bind fun t157 => (some t157)) else (if a0_0 = 2 then ((spliceref04_word.f (wrap64 ((wrap64 (a1)) - (wrap64 (a2))))).bind fun t158 => (some t158)) else (if a0_0 ≥ 3 then (spliceref04_Do.j0 k a1 a2 (wrap64 (a1)) (wrap64 (a2)) (decide (a0_0 ≤ 5)) a0_0 a0_1 a0_2 a0_3 a0_4) else (spliceref04_Do.j0 k a1 a2 (wrap64 (a1)) (wrap64 (a2)) false a0_0 a0_1 a0_2 a0_3 a0_4)))) = some r := h
  clear h
  by_cases c4 : a0_0 = 1
  · rw [if_pos c4] at H
    have c4b0 : (a0_0 == 1) = true := beq_iff_eq.mpr c4
    have c4b1 : (a0_0 != 1) = false := bne_eq_false_iff_eq.mpr c4
    clear c4
    replace H := Option.bind_eq_some_iff.mp H
    obtain ⟨t157, A50, H⟩ := H
    replace H : (some t157) = some r := H
    have A5 := Aside0.mk A50
    clear A50
    obtain rfl := Option.some.inj H
    go_enter Try.func42, Try.ntmps42
    go_wp2_with (first | ((with_reducible refine gate_dst (N := 3) rfl ?_); refine box_event ?hg (N := 3) ?hd (cs := #[.int .i64 a0_0, .int .i64 a0_1, .int .i64 a0_2, .int .i64 a0_3, .int .i64 a0_4]) (t := 51) ?hr ?_; (case hd => rfl); (case hg => rfl); (case hr => first | (go_simp; done) | (go_simp; rfl)); intro gb156 hg w6 hbox hb; have n0_ := Aside0.mk (below_step (by repeat (first | (with_reducible first | exact HB.out | apply below_alloc | apply pw_below_drewN | apply below_drew1) | exact HB.out)) hb); have n1_ := Aside0.mk (hbox); have n2_ := Aside0.mk ((by rw [hg]; exact (below_size (by repeat (first | (with_reducible first | exact HB.out | apply below_alloc | apply pw_below_drewN | apply below_drew1) | exact HB.out))) : w.heap.size ≤ gb156)); have n3_ := Aside0.mk ((by rw [hg]; exact (below_size (by repeat (first | (with_reducible first | exact HB.out | apply below_alloc | apply pw_below_drewN | apply below_drew1) | exact HB.out))) : w.heap.size ≤ gb156)); clear HB; have HB := n0_; have BK156 := n1_; have GW156 := n2_; have GE156 := n3_; clear n0_ n1_ n2_ n3_; clear hb hbox hg; have hcz7_0 : w6.cell? ⟨gb156, 0, none⟩ = some (.int .i64 a0_0) := (blk_cell BK156.out 0).trans rfl; have hcz7_1 : w6.cell? ⟨gb156, 1, none⟩ = some (.int .i64 a0_1) := (blk_cell BK156.out 1).trans rfl; have hcz7_2 : w6.cell? ⟨gb156, 2, none⟩ = some (.int .i64 a0_2) := (blk_cell BK156.out 2).trans rfl; have hcz7_3 : w6.cell? ⟨gb156, 3, none⟩ = some (.int .i64 a0_3) := (blk_cell BK156.out 3).trans rfl; have hcz7_4 : w6.cell? ⟨gb156, 4, none⟩ = some (.int .i64 a0_4) := (blk_cell BK156.out 4).trans rfl; have hfz7_0 := blk_frozen BK156.out 0; have hfz7_1 := blk_frozen BK156.out 1; have hfz7_2 := blk_frozen BK156.out 2; have hfz7_3 := blk_frozen BK156.out 3; have hfz7_4 := blk_frozen BK156.out 4) | ((with_reducible refine gate_callee (f := 62) rfl ?_); refine goesL_ (some 19) rfl rfl Try.func62 (by kernel_rfl) rfl #[.int .i64 (wrap64 ((wrap64 (a1)) + (wrap64 (a2))))] rfl (by (try simp only [List.map_toArray, List.map_cons, List.map_nil]); first | done | rfl | (simp only [List.length_drop, List.length_take]; rfl)) ?_; (with_reducible refine (spliceref04_word.calls (wrap64 ((wrap64 (a1)) + (wrap64 (a2)))) t157 _ A5.out).mono ?_); rintro e w' ⟨rfl, ⟨nd, rfl⟩⟩; refine ⟨_, rfl, ?_⟩))
    go_ret
    exact ⟨by first | rfl | (simp [errW_none, errW_some] <;> rfl) | (simp [*, errW_none, errW_some] <;> rfl), by repeat (first | (with_reducible first | exact HB.out | apply below_alloc | apply pw_below_drewN | apply below_drew1 | refine below_set ?_ GE156.out) | exact HB.out)⟩
  · rw [if_neg c4] at H
    have c4b0 : (a0_0 == 1) = false := beq_eq_false_iff_ne.mpr c4
    have c4b1 : (a0_0 != 1) = true := bne_iff_ne.mpr c4
    by_cases c8 : a0_0 = 2
    · rw [if_pos c8] at H
      have c8b0 : (a0_0 == 2) = true := beq_iff_eq.mpr c8
      have c8b1 : (a0_0 != 2) = false := bne_eq_false_iff_eq.mpr c8
      clear c8
      replace H := Option.bind_eq_some_iff.mp H
      obtain ⟨t158, A90, H⟩ := H
      replace H : (some t158) = some r := H
      have A9 := Aside0.mk A90
      clear A90
      obtain rfl := Option.some.inj H
      go_enter Try.func42, Try.ntmps42
      go_wp2_with (first | ((with_reducible refine gate_dst (N := 3) rfl ?_); refine box_event ?hg (N := 3) ?hd (cs := #[.int .i64 a0_0, .int .i64 a0_1, .int .i64 a0_2, .int .i64 a0_3, .int .i64 a0_4]) (t := 51) ?hr ?_; (case hd => rfl); (case hg => rfl); (case hr => first | (go_simp; done) | (go_simp; rfl)); intro gb156 hg w10 hbox hb; have n0_ := Aside0.mk (below_step (by repeat (first | (with_reducible first | exact HB.out | apply below_alloc | apply pw_below_drewN | apply below_drew1) | exact HB.out)) hb); have n1_ := Aside0.mk (hbox); have n2_ := Aside0.mk ((by rw [hg]; exact (below_size (by repeat (first | (with_reducible first | exact HB.out | apply below_alloc | apply pw_below_drewN | apply below_drew1) | exact HB.out))) : w.heap.size ≤ gb156)); have n3_ := Aside0.mk ((by rw [hg]; exact (below_size (by repeat (first | (with_reducible first | exact HB.out | apply below_alloc | apply pw_below_drewN | apply below_drew1) | exact HB.out))) : w.heap.size ≤ gb156)); clear HB; have HB := n0_; have BK156 := n1_; have GW156 := n2_; have GE156 := n3_; clear n0_ n1_ n2_ n3_; clear hb hbox hg; have hcz11_0 : w10.cell? ⟨gb156, 0, none⟩ = some (.int .i64 a0_0) := (blk_cell BK156.out 0).trans rfl; have hcz11_1 : w10.cell? ⟨gb156, 1, none⟩ = some (.int .i64 a0_1) := (blk_cell BK156.out 1).trans rfl; have hcz11_2 : w10.cell? ⟨gb156, 2, none⟩ = some (.int .i64 a0_2) := (blk_cell BK156.out 2).trans rfl; have hcz11_3 : w10.cell? ⟨gb156, 3, none⟩ = some (.int .i64 a0_3) := (blk_cell BK156.out 3).trans rfl; have hcz11_4 : w10.cell? ⟨gb156, 4, none⟩ = some (.int .i64 a0_4) := (blk_cell BK156.out 4).trans rfl; have hfz11_0 := blk_frozen BK156.out 0; have hfz11_1 := blk_frozen BK156.out 1; have hfz11_2 := blk_frozen BK156.out 2; have hfz11_3 := blk_frozen BK156.out 3; have hfz11_4 := blk_frozen BK156.out 4) | ((with_reducible refine gate_callee (f := 62) rfl ?_); refine goesL_ (some 26) rfl rfl Try.func62 (by kernel_rfl) rfl #[.int .i64 (wrap64 ((wrap64 (a1)) - (wrap64 (a2))))] rfl (by (try simp only [List.map_toArray, List.map_cons, List.map_nil]); first | done | rfl | (simp only [List.length_drop, List.length_take]; rfl)) ?_; (with_reducible refine (spliceref04_word.calls (wrap64 ((wrap64 (a1)) - (wrap64 (a2)))) t158 _ A9.out).mono ?_); rintro e w' ⟨rfl, ⟨nd, rfl⟩⟩; refine ⟨_, rfl, ?_⟩))
      go_ret
      exact ⟨by first | rfl | (simp [errW_none, errW_some] <;> rfl) | (simp [*, errW_none, errW_some] <;> rfl), by repeat (first | (with_reducible first | exact HB.out | apply below_alloc | apply pw_below_drewN | apply below_drew1 | refine below_set ?_ GE156.out) | exact HB.out)⟩
    · rw [if_neg c8] at H
      have c8b0 : (a0_0 == 2) = false := beq_eq_false_iff_ne.mpr c8
      have c8b1 : (a0_0 != 2) = true := bne_iff_ne.mpr c8
      have HC12 := Aside0.mk H
      clear H
      go_enter Try.func42, Try.ntmps42
      go_upto_region 7 with (first | ((with_reducible refine gate_dst (N := 3) rfl ?_); refine box_event ?hg (N := 3) ?hd (cs := #[.int .i64 a0_0, .int .i64 a0_1, .int .i64 a0_2, .int .i64 a0_3, .int .i64 a0_4]) (t := 51) ?hr ?_; (case hd => rfl); (case hg => rfl); (case hr => first | (go_simp; done) | (go_simp; rfl)); intro gb156 hg w13 hbox hb; have n0_ := Aside0.mk (below_step (by repeat (first | (with_reducible first | exact HB.out | apply below_alloc | apply pw_below_drewN | apply below_drew1) | exact HB.out)) hb); have n1_ := Aside0.mk (hbox); have n2_ := Aside0.mk ((by rw [hg]; exact (below_size (by repeat (first | (with_reducible first | exact HB.out | apply below_alloc | apply pw_below_drewN | apply below_drew1) | exact HB.out))) : w.heap.size ≤ gb156)); have n3_ := Aside0.mk ((by rw [hg]; exact (below_size (by repeat (first | (with_reducible first | exact HB.out | apply below_alloc | apply pw_below_drewN | apply below_drew1) | exact HB.out))) : w.heap.size ≤ gb156)); clear HB; have HB := n0_; have BK156 := n1_; have GW156 := n2_; have GE156 := n3_; clear n0_ n1_ n2_ n3_; clear hb hbox hg; have hcz14_0 : w13.cell? ⟨gb156, 0, none⟩ = some (.int .i64 a0_0) := (blk_cell BK156.out 0).trans rfl; have hcz14_1 : w13.cell? ⟨gb156, 1, none⟩ = some (.int .i64 a0_1) := (blk_cell BK156.out 1).trans rfl; have hcz14_2 : w13.cell? ⟨gb156, 2, none⟩ = some (.int .i64 a0_2) := (blk_cell BK156.out 2).trans rfl; have hcz14_3 : w13.cell? ⟨gb156, 3, none⟩ = some (.int .i64 a0_3) := (blk_cell BK156.out 3).trans rfl; have hcz14_4 : w13.cell? ⟨gb156, 4, none⟩ = some (.int .i64 a0_4) := (blk_cell BK156.out 4).trans rfl; have hfz14_0 := blk_frozen BK156.out 0; have hfz14_1 := blk_frozen BK156.out 1; have hfz14_2 := blk_frozen BK156.out 2; have hfz14_3 := blk_frozen BK156.out 3; have hfz14_4 := blk_frozen BK156.out 4))
      (try simp only [Act.put, List.setIfInBounds_toArray, List.set_cons_zero, List.set_cons_succ])
      go_cut [34] (fun v34 wc => ∃ (kq : Nat) (x34_11 : Bool), v34 = .bool x34_11 ∧ Aside0 (spliceref04_Do.j0 kq a1 a2 (wrap64 (a1)) (wrap64 (a2)) x34_11 a0_0 a0_1 a0_2 a0_3 a0_4 = some r) ∧ Aside0 (kq ≤ k) ∧ Aside0 (wc.heap[gb156]? = some (.cells #[.int .i64 a0_0, .int .i64 a0_1, .int .i64 a0_2, .int .i64 a0_3, .int .i64 a0_4] 51 (0, 0))) ∧ Aside0 (Below w.heap.size w wc))
      case first =>
        have H := HC12.out
        clear HC12
        by_cases c15 : a0_0 ≥ 3
        · rw [if_pos c15] at H
          have c15b0 : decide (3 ≤ a0_0) = true := decide_eq_true c15
          clear c15
          (first | rw [c15b0] | (simp only [i64_w, i32_w]; rw [c15b0]) | skip)
          have H' := Aside0.mk H
          clear H
          have hcz16_0 : w13.cell? ⟨gb156, 0, none⟩ = some (.int .i64 a0_0) := (blk_cell BK156.out 0).trans rfl
          have hcz16_1 : w13.cell? ⟨gb156, 1, none⟩ = some (.int .i64 a0_1) := (blk_cell BK156.out 1).trans rfl
          have hcz16_2 : w13.cell? ⟨gb156, 2, none⟩ = some (.int .i64 a0_2) := (blk_cell BK156.out 2).trans rfl
          have hcz16_3 : w13.cell? ⟨gb156, 3, none⟩ = some (.int .i64 a0_3) := (blk_cell BK156.out 3).trans rfl
          have hcz16_4 : w13.cell? ⟨gb156, 4, none⟩ = some (.int .i64 a0_4) := (blk_cell BK156.out 4).trans rfl
          have hfz16_0 := blk_frozen BK156.out 0
          have hfz16_1 := blk_frozen BK156.out 1
          have hfz16_2 := blk_frozen BK156.out 2
          have hfz16_3 := blk_frozen BK156.out 3
          have hfz16_4 := blk_frozen BK156.out 4
          go_wp2
          go_meet
          case rel => exact ⟨_, (decide (a0_0 ≤ 5)), (by first | rfl | (simp; done) | (simp [*]; done)), H', ⟨by first | omega | exact Nat.le_refl _⟩, ⟨by (with_reducible repeat (first | refine blk_drewN ?_ _ | refine blk_drew ?_ | refine blk_alloc ?_ _)); exact BK156.out⟩, ⟨by repeat (first | (with_reducible first | exact HB.out | apply below_alloc | apply pw_below_drewN | apply below_drew1 | refine below_set ?_ GE156.out) | exact HB.out)⟩⟩
        · rw [if_neg c15] at H
          have c15b0 : decide (3 ≤ a0_0) = false := decide_eq_false c15
          clear c15
          (first | rw [c15b0] | (simp only [i64_w, i32_w]; rw [c15b0]) | skip)
          have H' := Aside0.mk H
          clear H
          have hcz17_0 : w13.cell? ⟨gb156, 0, none⟩ = some (.int .i64 a0_0) := (blk_cell BK156.out 0).trans rfl
          have hcz17_1 : w13.cell? ⟨gb156, 1, none⟩ = some (.int .i64 a0_1) := (blk_cell BK156.out 1).trans rfl
          have hcz17_2 : w13.cell? ⟨gb156, 2, none⟩ = some (.int .i64 a0_2) := (blk_cell BK156.out 2).trans rfl
          have hcz17_3 : w13.cell? ⟨gb156, 3, none⟩ = some (.int .i64 a0_3) := (blk_cell BK156.out 3).trans rfl
          have hcz17_4 : w13.cell? ⟨gb156, 4, none⟩ = some (.int .i64 a0_4) := (blk_cell BK156.out 4).trans rfl
          have hfz17_0 := blk_frozen BK156.out 0
          have hfz17_1 := blk_frozen BK156.out 1
          have hfz17_2 := blk_frozen BK156.out 2
          have hfz17_3 := blk_frozen BK156.out 3
          have hfz17_4 := blk_frozen BK156.out 4
          go_wp2
          go_meet
          case rel => exact ⟨_, (false), (by first | rfl | (simp; done) | (simp [*]; done)), H', ⟨by first | omega | exact Nat.le_refl _⟩, ⟨by (with_reducible repeat (first | refine blk_drewN ?_ _ | refine blk_drew ?_ | refine blk_alloc ?_ _)); exact BK156.out⟩, ⟨by repeat (first | (with_reducible first | exact HB.out | apply below_alloc | apply pw_below_drewN | apply below_drew1 | refine below_set ?_ GE156.out) | exact HB.out)⟩⟩
      case rest =>
        clear HC12
        try clear c1
        try clear p2
        try clear c4
        try clear c4b0
        try clear c4b1
        try clear c6
        try clear p6
        try clear c8
        try clear c8b0
        try clear c8b1
        try clear c15
        try clear c15b0
        try clear hcz11_0
        try clear hcz11_1
        try clear hcz11_2
        try clear hcz11_3
        try clear hcz11_4
        try clear hcz14_0
        try clear hcz14_1
        try clear hcz14_2
        try clear hcz14_3
        try clear hcz14_4
        try clear hcz16_0
        try clear hcz16_1
        try clear hcz16_2
        try clear hcz16_3
        try clear hcz16_4
        try clear hcz17_0
        try clear hcz17_1
        try clear hcz17_2
        try clear hcz17_3
        try clear hcz17_4
        try clear hcz7_0
        try clear hcz7_1
        try clear hcz7_2
        try clear hcz7_3
        try clear hcz7_4
        try clear hfz11_0
        try clear hfz11_1
        try clear hfz11_2
        try clear hfz11_3
        try clear hfz11_4
        try clear hfz14_0
        try clear hfz14_1
        try clear hfz14_2
        try clear hfz14_3
        try clear hfz14_4
        try clear hfz16_0
        try clear hfz16_1
        try clear hfz16_2
        try clear hfz16_3
        try clear hfz16_4
        try clear hfz17_0
        try clear hfz17_1
        try clear hfz17_2
        try clear hfz17_3
        try clear hfz17_4
        try clear hfz7_0
        try clear hfz7_1
        try clear hfz7_2
        try clear hfz7_3
        try clear hfz7_4
        obtain ⟨kq, x34_11, rfl, HA, HJ11, BK156, HB⟩ := hcut
        cases kq with
        | zero => exact absurd HA.out (by simp [spliceref04_Do.j0])
        | succ kj11 =>
          have H := HA.out
          clear HA
          simp only [spliceref04_Do.j0] at H
          by_cases c18 : x34_11 = true
          · subst c18
            have H1 : ((spliceref04_bitwise.f kj11 a1 a2 (wrap64 (a0_0 - 3))).bind fun t159 => (some t159)) = some r := by rw [if_pos rfl] at H; exact H
            clear H
            have H := H1
            clear H1
            replace H := Option.bind_eq_some_iff.mp H
            obtain ⟨t159, A190, H⟩ := H
            replace H : (some t159) = some r := H
            have A19 := Aside0.mk A190
            clear A190
            obtain rfl := Option.some.inj H
            have hcz20_0 : wc.cell? ⟨gb156, 0, none⟩ = some (.int .i64 a0_0) := (blk_cell BK156.out 0).trans rfl
            have hcz20_1 : wc.cell? ⟨gb156, 1, none⟩ = some (.int .i64 a0_1) := (blk_cell BK156.out 1).trans rfl
            have hcz20_2 : wc.cell? ⟨gb156, 2, none⟩ = some (.int .i64 a0_2) := (blk_cell BK156.out 2).trans rfl
            have hcz20_3 : wc.cell? ⟨gb156, 3, none⟩ = some (.int .i64 a0_3) := (blk_cell BK156.out 3).trans rfl
            have hcz20_4 : wc.cell? ⟨gb156, 4, none⟩ = some (.int .i64 a0_4) := (blk_cell BK156.out 4).trans rfl
            have hfz20_0 := blk_frozen BK156.out 0
            have hfz20_1 := blk_frozen BK156.out 1
            have hfz20_2 := blk_frozen BK156.out 2
            have hfz20_3 := blk_frozen BK156.out 3
            have hfz20_4 := blk_frozen BK156.out 4
            go_wp2_with (first | ((with_reducible refine gate_callee (f := 63) rfl ?_); refine goesL_ (some 40) rfl rfl Try.func63 (by kernel_rfl) rfl #[.int .u32 a1, .int .u32 a2, .int .i64 (wrap64 (a0_0 - 3))] rfl (by (try simp only [List.map_toArray, List.map_cons, List.map_nil]); first | done | rfl | (simp only [List.length_drop, List.length_take]; rfl)) ?_; (with_reducible refine (spliceref04_bitwise.calls kj11 a1 a2 (wrap64 (a0_0 - 3)) t159 _ A19.out).mono ?_); rintro e w' ⟨rfl, ⟨nd, rfl⟩⟩; refine ⟨_, rfl, ?_⟩))
            go_ret
            exact ⟨by first | rfl | (simp [errW_none, errW_some] <;> rfl) | (simp [*, errW_none, errW_some] <;> rfl), by repeat (first | (with_reducible first | exact HB.out | apply below_alloc | apply pw_below_drewN | apply below_drew1 | refine below_set ?_ GE156.out) | exact HB.out)⟩
          · replace c18 := Bool.eq_false_iff.mpr c18
            subst c18
            have H1 : (if a0_0 = 6 then ((spliceref01_Sign.f kj11 a1 32).bind fun t160 => ((spliceref01_Sign.f kj11 a2 32).bind fun t161 => (spliceref04_Do.j1 kj11 a1 (wrap64 (a1)) (wrap64 (a2)) (decide (t160 < t161)) a0_0 a0_1 a0_2 a0_3 a0_4))) else (spliceref04_Do.j1 kj11 a1 (wrap64 (a1)) (wrap64 (a2)) false a0_0 a0_1 a0_2 a0_3 a0_4)) = some r := by rw [if_neg (show ¬ (false = true) by decide)] at H; exact H
            clear H
            have H := H1
            clear H1
            have HC21 := Aside0.mk H
            clear H
            go_upto_region 9 with (fail)
            go_cut [50] (fun v50 wc => ∃ (kq : Nat) (x50_20 : Bool), v50 = .bool x50_20 ∧ Aside0 (spliceref04_Do.j1 kq a1 (wrap64 (a1)) (wrap64 (a2)) x50_20 a0_0 a0_1 a0_2 a0_3 a0_4 = some r) ∧ Aside0 (kq ≤ kj11) ∧ Aside0 (wc.heap[gb156]? = some (.cells #[.int .i64 a0_0, .int .i64 a0_1, .int .i64 a0_2, .int .i64 a0_3, .int .i64 a0_4] 51 (0, 0))) ∧ Aside0 (Below w.heap.size w wc))
            case first =>
              have H := HC21.out
              clear HC21
              by_cases c22 : a0_0 = 6
              · rw [if_pos c22] at H
                have c22b0 : (a0_0 == 6) = true := beq_iff_eq.mpr c22
                have c22b1 : (a0_0 != 6) = false := bne_eq_false_iff_eq.mpr c22
                clear c22
                (first | rw [c22b0] | (simp only [i64_w, i32_w]; rw [c22b0]) | skip)
                replace H := Option.bind_eq_some_iff.mp H
                obtain ⟨t160, A230, H⟩ := H
                replace H : ((spliceref01_Sign.f kj11 a2 32).bind fun t161 => (spliceref04_Do.j1 kj11 a1 (wrap64 (a1)) (wrap64 (a2)) (decide (t160 < t161)) a0_0 a0_1 a0_2 a0_3 a0_4)) = some r := H
                have A23 := Aside0.mk A230
                clear A230
                replace H := Option.bind_eq_some_iff.mp H
                obtain ⟨t161, A240, H⟩ := H
                replace H : (spliceref04_Do.j1 kj11 a1 (wrap64 (a1)) (wrap64 (a2)) (decide (t160 < t161)) a0_0 a0_1 a0_2 a0_3 a0_4) = some r := H
                have A24 := Aside0.mk A240
                clear A240
                have H' := Aside0.mk H
                clear H
                have hcz25_0 : wc.cell? ⟨gb156, 0, none⟩ = some (.int .i64 a0_0) := (blk_cell BK156.out 0).trans rfl
                have hcz25_1 : wc.cell? ⟨gb156, 1, none⟩ = some (.int .i64 a0_1) := (blk_cell BK156.out 1).trans rfl
                have hcz25_2 : wc.cell? ⟨gb156, 2, none⟩ = some (.int .i64 a0_2) := (blk_cell BK156.out 2).trans rfl
                have hcz25_3 : wc.cell? ⟨gb156, 3, none⟩ = some (.int .i64 a0_3) := (blk_cell BK156.out 3).trans rfl
                have hcz25_4 : wc.cell? ⟨gb156, 4, none⟩ = some (.int .i64 a0_4) := (blk_cell BK156.out 4).trans rfl
                have hfz25_0 := blk_frozen BK156.out 0
                have hfz25_1 := blk_frozen BK156.out 1
                have hfz25_2 := blk_frozen BK156.out 2
                have hfz25_3 := blk_frozen BK156.out 3
                have hfz25_4 := blk_frozen BK156.out 4
                go_wp2_with (first | (go_at_call 30; (with_reducible refine (spliceref01_Sign.calls kj11 a1 32 t160 _ A23.out).mono ?_); rintro e w' ⟨rfl, ⟨nd, rfl⟩⟩) | (go_at_call 30; (with_reducible refine (spliceref01_Sign.calls kj11 a2 32 t161 _ A24.out).mono ?_); rintro e w' ⟨rfl, ⟨nd, rfl⟩⟩))
                go_meet
                case rel => exact ⟨_, (decide (t160 < t161)), (by first | rfl | (simp; done) | (simp [*]; done)), H', ⟨by have := HJ11.out; first | omega | exact Nat.le_refl _⟩, ⟨by (with_reducible repeat (first | refine blk_drewN ?_ _ | refine blk_drew ?_ | refine blk_alloc ?_ _)); exact BK156.out⟩, ⟨by repeat (first | (with_reducible first | exact HB.out | apply below_alloc | apply pw_below_drewN | apply below_drew1 | refine below_set ?_ GE156.out) | exact HB.out)⟩⟩
              · rw [if_neg c22] at H
                have c22b0 : (a0_0 == 6) = false := beq_eq_false_iff_ne.mpr c22
                have c22b1 : (a0_0 != 6) = true := bne_iff_ne.mpr c22
                (first | rw [c22b0] | (simp only [i64_w, i32_w]; rw [c22b0]) | skip)
                have H' := Aside0.mk H
                clear H
                have hcz26_0 : wc.cell? ⟨gb156, 0, none⟩ = some (.int .i64 a0_0) := (blk_cell BK156.out 0).trans rfl
                have hcz26_1 : wc.cell? ⟨gb156, 1, none⟩ = some (.int .i64 a0_1) := (blk_cell BK156.out 1).trans rfl
                have hcz26_2 : wc.cell? ⟨gb156, 2, none⟩ = some (.int .i64 a0_2) := (blk_cell BK156.out 2).trans rfl
                have hcz26_3 : wc.cell? ⟨gb156, 3, none⟩ = some (.int .i64 a0_3) := (blk_cell BK156.out 3).trans rfl
                have hcz26_4 : wc.cell? ⟨gb156, 4, none⟩ = some (.int .i64 a0_4) := (blk_cell BK156.out 4).trans rfl
                have hfz26_0 := blk_frozen BK156.out 0
                have hfz26_1 := blk_frozen BK156.out 1
                have hfz26_2 := blk_frozen BK156.out 2
                have hfz26_3 := blk_frozen BK156.out 3
                have hfz26_4 := blk_frozen BK156.out 4
                go_wp2
                go_meet
                case rel => exact ⟨_, (false), (by first | rfl | (simp; done) | (simp [*]; done)), H', ⟨by have := HJ11.out; first | omega | exact Nat.le_refl _⟩, ⟨by (with_reducible repeat (first | refine blk_drewN ?_ _ | refine blk_drew ?_ | refine blk_alloc ?_ _)); exact BK156.out⟩, ⟨by repeat (first | (with_reducible first | exact HB.out | apply below_alloc | apply pw_below_drewN | apply below_drew1 | refine below_set ?_ GE156.out) | exact HB.out)⟩⟩
            case rest =>
              clear HC21
              try clear c1
              try clear c2
              try clear p2
              try clear c4
              try clear c4b0
              try clear c4b1
              try clear c6
              try clear p6
              try clear c8
              try clear c8b0
              try clear c8b1
              try clear c15
              try clear c15b0
              try clear c18
              try clear c22
              try clear c22b0
              try clear c22b1
              try clear hcz11_0
              try clear hcz11_1
              try clear hcz11_2
              try clear hcz11_3
              try clear hcz11_4
              try clear hcz14_0
              try clear hcz14_1
              try clear hcz14_2
              try clear hcz14_3
              try clear hcz14_4
              try clear hcz16_0
              try clear hcz16_1
              try clear hcz16_2
              try clear hcz16_3
              try clear hcz16_4
              try clear hcz17_0
              try clear hcz17_1
              try clear hcz17_2
              try clear hcz17_3
              try clear hcz17_4
              try clear hcz20_0
              try clear hcz20_1
              try clear hcz20_2
              try clear hcz20_3
              try clear hcz20_4
              try clear hcz25_0
              try clear hcz25_1
              try clear hcz25_2
              try clear hcz25_3
              try clear hcz25_4
              try clear hcz26_0
              try clear hcz26_1
              try clear hcz26_2
              try clear hcz26_3
              try clear hcz26_4
              try clear hcz7_0
              try clear hcz7_1
              try clear hcz7_2
              try clear hcz7_3
              try clear hcz7_4
              try clear hfz11_0
              try clear hfz11_1
              try clear hfz11_2
              try clear hfz11_3
              try clear hfz11_4
              try clear hfz14_0
              try clear hfz14_1
              try clear hfz14_2
              try clear hfz14_3
              try clear hfz14_4
              try clear hfz16_0
              try clear hfz16_1
              try clear hfz16_2
              try clear hfz16_3
              try clear hfz16_4
              try clear hfz17_0
              try clear hfz17_1
              try clear hfz17_2
              try clear hfz17_3
              try clear hfz17_4
              try clear hfz20_0
              try clear hfz20_1
              try clear hfz20_2
              try clear hfz20_3
              try clear hfz20_4
              try clear hfz25_0
              try clear hfz25_1
              try clear hfz25_2
              try clear hfz25_3
              try clear hfz25_4
              try clear hfz26_0
              try clear hfz26_1
              try clear hfz26_2
              try clear hfz26_3
              try clear hfz26_4
              try clear hfz7_0
              try clear hfz7_1
              try clear hfz7_2
              try clear hfz7_3
              try clear hfz7_4
              try clear p2
              try clear p6
              obtain ⟨kq, x50_20, rfl, HA, HJ20, BK156, HB⟩ := hcut
              cases kq with
              | zero => exact absurd HA.out (by simp [spliceref04_Do.j1])
              | succ kj20 =>
                have H := HA.out
                clear HA
                simp only [spliceref04_Do.j1] at H
                by_cases c27 : x50_20 = true
                · subst c27
                  have H1 : (some 1) = some r := by rw [if_pos rfl] at H; exact H
                  clear H
                  have H := H1
                  clear H1
                  obtain rfl := Option.some.inj H
                  go_wp2
                  go_ret
                  exact ⟨by first | rfl | (simp [errW_none, errW_some] <;> rfl) | (simp [*, errW_none, errW_some] <;> rfl), by repeat (first | (with_reducible first | exact HB.out | apply below_alloc | apply pw_below_drewN | apply below_drew1 | refine below_set ?_ GE156.out) | exact HB.out)⟩
                · replace c27 := Bool.eq_false_iff.mpr c27
                  subst c27
                  have H1 : (if a0_0 = 7 then ((spliceref04_word.f (wrap64 ((wrap64 ((Int.tmod (wrap64 (a1)) 65536) * (wrap64 (a2)))) + (wrap64 ((wrap64 ((wrap64 (Int.tdiv (wrap64 (a1)) 65536)) * (Int.tmod (wrap64 (a2)) 65536))) * 65536))))).bind fun t162 => (some t162)) else (if a0_0 = 8 then ((spliceref04_word.f (wrap64 ((wrap64 (a1)) + a0_4))).bind fun t163 => (some t163)) else (if a0_0 = 9 then ((spliceref04_word.f (wrap64 (a0_4 * 65536))).bind fun t164 => (some t164)) else (if a0_0 = 10 then ((spliceref04_bitwise.f kj20 a1 ((a0_4) % 4294967296) 1).bind fun t165 => (some t165)) else (some 0))))) = some r := by rw [if_neg (show ¬ (false = true) by decide)] at H; exact H
                  clear H
                  have H := H1
                  clear H1
                  by_cases c28 : a0_0 = 7
                  · rw [if_pos c28] at H
                    have c28b0 : (a0_0 == 7) = true := beq_iff_eq.mpr c28
                    have c28b1 : (a0_0 != 7) = false := bne_eq_false_iff_eq.mpr c28
                    clear c28
                    replace H := Option.bind_eq_some_iff.mp H
                    obtain ⟨t162, A290, H⟩ := H
                    replace H : (some t162) = some r := H
                    have A29 := Aside0.mk A290
                    clear A290
                    obtain rfl := Option.some.inj H
                    have hcz30_0 : wc.cell? ⟨gb156, 0, none⟩ = some (.int .i64 a0_0) := (blk_cell BK156.out 0).trans rfl
                    have hcz30_1 : wc.cell? ⟨gb156, 1, none⟩ = some (.int .i64 a0_1) := (blk_cell BK156.out 1).trans rfl
                    have hcz30_2 : wc.cell? ⟨gb156, 2, none⟩ = some (.int .i64 a0_2) := (blk_cell BK156.out 2).trans rfl
                    have hcz30_3 : wc.cell? ⟨gb156, 3, none⟩ = some (.int .i64 a0_3) := (blk_cell BK156.out 3).trans rfl
                    have hcz30_4 : wc.cell? ⟨gb156, 4, none⟩ = some (.int .i64 a0_4) := (blk_cell BK156.out 4).trans rfl
                    have hfz30_0 := blk_frozen BK156.out 0
                    have hfz30_1 := blk_frozen BK156.out 1
                    have hfz30_2 := blk_frozen BK156.out 2
                    have hfz30_3 := blk_frozen BK156.out 3
                    have hfz30_4 := blk_frozen BK156.out 4
                    go_wp2_with (first | ((with_reducible refine gate_callee (f := 62) rfl ?_); refine goesL_ (some 65) rfl rfl Try.func62 (by kernel_rfl) rfl #[.int .i64 (wrap64 ((wrap64 ((Int.tmod (wrap64 (a1)) 65536) * (wrap64 (a2)))) + (wrap64 ((wrap64 ((wrap64 (Int.tdiv (wrap64 (a1)) 65536)) * (Int.tmod (wrap64 (a2)) 65536))) * 65536))))] rfl (by (try simp only [List.map_toArray, List.map_cons, List.map_nil]); first | done | rfl | (simp only [List.length_drop, List.length_take]; rfl)) ?_; (with_reducible refine (spliceref04_word.calls (wrap64 ((wrap64 ((Int.tmod (wrap64 (a1)) 65536) * (wrap64 (a2)))) + (wrap64 ((wrap64 ((wrap64 (Int.tdiv (wrap64 (a1)) 65536)) * (Int.tmod (wrap64 (a2)) 65536))) * 65536)))) t162 _ A29.out).mono ?_); rintro e w' ⟨rfl, ⟨nd, rfl⟩⟩; refine ⟨_, rfl, ?_⟩))
                    go_ret
                    exact ⟨by first | rfl | (simp [errW_none, errW_some] <;> rfl) | (simp [*, errW_none, errW_some] <;> rfl), by repeat (first | (with_reducible first | exact HB.out | apply below_alloc | apply pw_below_drewN | apply below_drew1 | refine below_set ?_ GE156.out) | exact HB.out)⟩
                  · rw [if_neg c28] at H
                    have c28b0 : (a0_0 == 7) = false := beq_eq_false_iff_ne.mpr c28
                    have c28b1 : (a0_0 != 7) = true := bne_iff_ne.mpr c28
                    by_cases c31 : a0_0 = 8
                    · rw [if_pos c31] at H
                      have c31b0 : (a0_0 == 8) = true := beq_iff_eq.mpr c31
                      have c31b1 : (a0_0 != 8) = false := bne_eq_false_iff_eq.mpr c31
                      clear c31
                      replace H := Option.bind_eq_some_iff.mp H
                      obtain ⟨t163, A320, H⟩ := H
                      replace H : (some t163) = some r := H
                      have A32 := Aside0.mk A320
                      clear A320
                      obtain rfl := Option.some.inj H
                      have hcz33_0 : wc.cell? ⟨gb156, 0, none⟩ = some (.int .i64 a0_0) := (blk_cell BK156.out 0).trans rfl
                      have hcz33_1 : wc.cell? ⟨gb156, 1, none⟩ = some (.int .i64 a0_1) := (blk_cell BK156.out 1).trans rfl
                      have hcz33_2 : wc.cell? ⟨gb156, 2, none⟩ = some (.int .i64 a0_2) := (blk_cell BK156.out 2).trans rfl
                      have hcz33_3 : wc.cell? ⟨gb156, 3, none⟩ = some (.int .i64 a0_3) := (blk_cell BK156.out 3).trans rfl
                      have hcz33_4 : wc.cell? ⟨gb156, 4, none⟩ = some (.int .i64 a0_4) := (blk_cell BK156.out 4).trans rfl
                      have hfz33_0 := blk_frozen BK156.out 0
                      have hfz33_1 := blk_frozen BK156.out 1
                      have hfz33_2 := blk_frozen BK156.out 2
                      have hfz33_3 := blk_frozen BK156.out 3
                      have hfz33_4 := blk_frozen BK156.out 4
                      go_wp2_with (first | ((with_reducible refine gate_callee (f := 62) rfl ?_); refine goesL_ (some 73) rfl rfl Try.func62 (by kernel_rfl) rfl #[.int .i64 (wrap64 ((wrap64 (a1)) + a0_4))] rfl (by (try simp only [List.map_toArray, List.map_cons, List.map_nil]); first | done | rfl | (simp only [List.length_drop, List.length_take]; rfl)) ?_; (with_reducible refine (spliceref04_word.calls (wrap64 ((wrap64 (a1)) + a0_4)) t163 _ A32.out).mono ?_); rintro e w' ⟨rfl, ⟨nd, rfl⟩⟩; refine ⟨_, rfl, ?_⟩))
                      go_ret
                      exact ⟨by first | rfl | (simp [errW_none, errW_some] <;> rfl) | (simp [*, errW_none, errW_some] <;> rfl), by repeat (first | (with_reducible first | exact HB.out | apply below_alloc | apply pw_below_drewN | apply below_drew1 | refine below_set ?_ GE156.out) | exact HB.out)⟩
                    · rw [if_neg c31] at H
                      have c31b0 : (a0_0 == 8) = false := beq_eq_false_iff_ne.mpr c31
                      have c31b1 : (a0_0 != 8) = true := bne_iff_ne.mpr c31
                      by_cases c34 : a0_0 = 9
                      · rw [if_pos c34] at H
                        have c34b0 : (a0_0 == 9) = true := beq_iff_eq.mpr c34
                        have c34b1 : (a0_0 != 9) = false := bne_eq_false_iff_eq.mpr c34
                        clear c34
                        replace H := Option.bind_eq_some_iff.mp H
                        obtain ⟨t164, A350, H⟩ := H
                        replace H : (some t164) = some r := H
                        have A35 := Aside0.mk A350
                        clear A350
                        obtain rfl := Option.some.inj H
                        have hcz36_0 : wc.cell? ⟨gb156, 0, none⟩ = some (.int .i64 a0_0) := (blk_cell BK156.out 0).trans rfl
                        have hcz36_1 : wc.cell? ⟨gb156, 1, none⟩ = some (.int .i64 a0_1) := (blk_cell BK156.out 1).trans rfl
                        have hcz36_2 : wc.cell? ⟨gb156, 2, none⟩ = some (.int .i64 a0_2) := (blk_cell BK156.out 2).trans rfl
                        have hcz36_3 : wc.cell? ⟨gb156, 3, none⟩ = some (.int .i64 a0_3) := (blk_cell BK156.out 3).trans rfl
                        have hcz36_4 : wc.cell? ⟨gb156, 4, none⟩ = some (.int .i64 a0_4) := (blk_cell BK156.out 4).trans rfl
                        have hfz36_0 := blk_frozen BK156.out 0
                        have hfz36_1 := blk_frozen BK156.out 1
                        have hfz36_2 := blk_frozen BK156.out 2
                        have hfz36_3 := blk_frozen BK156.out 3
                        have hfz36_4 := blk_frozen BK156.out 4
                        go_wp2_with (first | ((with_reducible refine gate_callee (f := 62) rfl ?_); refine goesL_ (some 80) rfl rfl Try.func62 (by kernel_rfl) rfl #[.int .i64 (wrap64 (a0_4 * 65536))] rfl (by (try simp only [List.map_toArray, List.map_cons, List.map_nil]); first | done | rfl | (simp only [List.length_drop, List.length_take]; rfl)) ?_; (with_reducible refine (spliceref04_word.calls (wrap64 (a0_4 * 65536)) t164 _ A35.out).mono ?_); rintro e w' ⟨rfl, ⟨nd, rfl⟩⟩; refine ⟨_, rfl, ?_⟩))
                        go_ret
                        exact ⟨by first | rfl | (simp [errW_none, errW_some] <;> rfl) | (simp [*, errW_none, errW_some] <;> rfl), by repeat (first | (with_reducible first | exact HB.out | apply below_alloc | apply pw_below_drewN | apply below_drew1 | refine below_set ?_ GE156.out) | exact HB.out)⟩
                      · rw [if_neg c34] at H
                        have c34b0 : (a0_0 == 9) = false := beq_eq_false_iff_ne.mpr c34
                        have c34b1 : (a0_0 != 9) = true := bne_iff_ne.mpr c34
                        by_cases c37 : a0_0 = 10
                        · rw [if_pos c37] at H
                          have c37b0 : (a0_0 == 10) = true := beq_iff_eq.mpr c37
                          have c37b1 : (a0_0 != 10) = false := bne_eq_false_iff_eq.mpr c37
                          clear c37
                          replace H := Option.bind_eq_some_iff.mp H
                          obtain ⟨t165, A380, H⟩ := H
                          replace H : (some t165) = some r := H
                          have A38 := Aside0.mk A380
                          clear A380
                          obtain rfl := Option.some.inj H
                          have hcz39_0 : wc.cell? ⟨gb156, 0, none⟩ = some (.int .i64 a0_0) := (blk_cell BK156.out 0).trans rfl
                          have hcz39_1 : wc.cell? ⟨gb156, 1, none⟩ = some (.int .i64 a0_1) := (blk_cell BK156.out 1).trans rfl
                          have hcz39_2 : wc.cell? ⟨gb156, 2, none⟩ = some (.int .i64 a0_2) := (blk_cell BK156.out 2).trans rfl
                          have hcz39_3 : wc.cell? ⟨gb156, 3, none⟩ = some (.int .i64 a0_3) := (blk_cell BK156.out 3).trans rfl
                          have hcz39_4 : wc.cell? ⟨gb156, 4, none⟩ = some (.int .i64 a0_4) := (blk_cell BK156.out 4).trans rfl
                          have hfz39_0 := blk_frozen BK156.out 0
                          have hfz39_1 := blk_frozen BK156.out 1
                          have hfz39_2 := blk_frozen BK156.out 2
                          have hfz39_3 := blk_frozen BK156.out 3
                          have hfz39_4 := blk_frozen BK156.out 4
                          go_wp2_with (first | ((with_reducible refine gate_callee (f := 63) rfl ?_); refine goesL_ (some 88) rfl rfl Try.func63 (by kernel_rfl) rfl #[.int .u32 a1, .int .u32 ((a0_4) % 4294967296), .int .i64 1] rfl (by (try simp only [List.map_toArray, List.map_cons, List.map_nil]); first | done | rfl | (simp only [List.length_drop, List.length_take]; rfl)) ?_; (with_reducible refine (spliceref04_bitwise.calls kj20 a1 ((a0_4) % 4294967296) 1 t165 _ A38.out).mono ?_); rintro e w' ⟨rfl, ⟨nd, rfl⟩⟩; refine ⟨_, rfl, ?_⟩))
                          go_ret
                          exact ⟨by first | rfl | (simp [errW_none, errW_some] <;> rfl) | (simp [*, errW_none, errW_some] <;> rfl), by repeat (first | (with_reducible first | exact HB.out | apply below_alloc | apply pw_below_drewN | apply below_drew1 | refine below_set ?_ GE156.out) | exact HB.out)⟩
                        · rw [if_neg c37] at H
                          have c37b0 : (a0_0 == 10) = false := beq_eq_false_iff_ne.mpr c37
                          have c37b1 : (a0_0 != 10) = true := bne_iff_ne.mpr c37
                          obtain rfl := Option.some.inj H
                          have hcz40_0 : wc.cell? ⟨gb156, 0, none⟩ = some (.int .i64 a0_0) := (blk_cell BK156.out 0).trans rfl
                          have hcz40_1 : wc.cell? ⟨gb156, 1, none⟩ = some (.int .i64 a0_1) := (blk_cell BK156.out 1).trans rfl
                          have hcz40_2 : wc.cell? ⟨gb156, 2, none⟩ = some (.int .i64 a0_2) := (blk_cell BK156.out 2).trans rfl
                          have hcz40_3 : wc.cell? ⟨gb156, 3, none⟩ = some (.int .i64 a0_3) := (blk_cell BK156.out 3).trans rfl
                          have hcz40_4 : wc.cell? ⟨gb156, 4, none⟩ = some (.int .i64 a0_4) := (blk_cell BK156.out 4).trans rfl
                          have hfz40_0 := blk_frozen BK156.out 0
                          have hfz40_1 := blk_frozen BK156.out 1
                          have hfz40_2 := blk_frozen BK156.out 2
                          have hfz40_3 := blk_frozen BK156.out 3
                          have hfz40_4 := blk_frozen BK156.out 4
                          go_wp2
                          go_ret
                          exact ⟨by first | rfl | (simp [errW_none, errW_some] <;> rfl) | (simp [*, errW_none, errW_some] <;> rfl), by repeat (first | (with_reducible first | exact HB.out | apply below_alloc | apply pw_below_drewN | apply below_drew1 | refine below_set ?_ GE156.out) | exact HB.out)⟩

end Go.Proofs.Ytkolcgnembaghaa.Q
