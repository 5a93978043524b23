-- functions and contracts of this seat, written by the kit's print program for several roots at once; not the print of a statement
import Derived.Test.YtkolcgnembaghaaQx0
import Derived.Test.YtkolcgnembaghaaQx2
import Derived.Test.YtkolcgnembaghaaQx3
namespace Go.Proofs.Ytkolcgnembaghaa.Q
open Go.RowKit Go.Proofs.YtkolcgnembaghaaW.PrintWords Go.Proofs.YtkolcgnembaghaaW.PrintLast Go.Proofs.YtkolcgnembaghaaW.PrintMore
attribute [local go_sem] max2_int min2_int max_two min_two max_three min_three max_four min_four   -- for this text's walks alone
set_option linter.unusedVariables false
set_option linter.unusedSimpArgs false

/-! ### splicelaw04_AluConsts: function 15 -/
mutual
def splicelaw04_AluConsts.j0 : Nat → Int → Int → Int → List (S51) → Bool → Option (Bool)
  | 0, _, _, _, _, _ => none
  | k + 1, x0, x1, x2, x7, x25 => if x25 = true then ((splicelaw04_awake.f k).bind fun t183 => (if t183 = true then (some ((x7.length : Int) == 0)) else (some false))) else (splicelaw04_AluConsts.l0 k x0 x1 x7 x2 0)
def splicelaw04_AluConsts.l0 : Nat → Int → Int → List (S51) → Int → Int → Option (Bool)
  | 0, _, _, _, _, _ => none
  | k + 1, x0, x1, x7, x8, x9 => if x9 < (x7.length : Int) then (if 0 ≤ x9 then ((spliceref02_Right.f ((rd_T51 x7 x9).f0) ((rd_T51 x7 x9).f1) ((rd_T51 x7 x9).f2) ((rd_T51 x7 x9).f3) ((rd_T51 x7 x9).f4)).bind fun t188 => (if t188 = true then (if ((rd_T51 x7 x9).f1) = x0 then (if ((rd_T51 x7 x9).f2) = 0 then ((spliceref03_Kind.f ((rd_T51 x7 x9).f0) ((rd_T51 x7 x9).f1) ((rd_T51 x7 x9).f2) ((rd_T51 x7 x9).f3) ((rd_T51 x7 x9).f4)).bind fun t189 => (if t189 = 0 then (if x9 = 0 then (splicelaw04_AluConsts.j2 k x0 x1 x7 x8 x9 (((rd_T51 x7 x9).f2) != 0) ((rd_T51 x7 x9).f0) ((rd_T51 x7 x9).f1) ((rd_T51 x7 x9).f2) ((rd_T51 x7 x9).f3) ((rd_T51 x7 x9).f4)) else (splicelaw04_AluConsts.j2 k x0 x1 x7 x8 x9 false ((rd_T51 x7 x9).f0) ((rd_T51 x7 x9).f1) ((rd_T51 x7 x9).f2) ((rd_T51 x7 x9).f3) ((rd_T51 x7 x9).f4))) else (splicelaw04_AluConsts.j2 k x0 x1 x7 x8 x9 true ((rd_T51 x7 x9).f0) ((rd_T51 x7 x9).f1) ((rd_T51 x7 x9).f2) ((rd_T51 x7 x9).f3) ((rd_T51 x7 x9).f4)))) else (if ((rd_T51 x7 x9).f2) = x0 then ((spliceref03_Kind.f ((rd_T51 x7 x9).f0) ((rd_T51 x7 x9).f1) ((rd_T51 x7 x9).f2) ((rd_T51 x7 x9).f3) ((rd_T51 x7 x9).f4)).bind fun t190 => (if t190 = 0 then (if x9 = 0 then (splicelaw04_AluConsts.j2 k x0 x1 x7 x8 x9 (((rd_T51 x7 x9).f2) != 0) ((rd_T51 x7 x9).f0) ((rd_T51 x7 x9).f1) ((rd_T51 x7 x9).f2) ((rd_T51 x7 x9).f3) ((rd_T51 x7 x9).f4)) else (splicelaw04_AluConsts.j2 k x0 x1 x7 x8 x9 false ((rd_T51 x7 x9).f0) ((rd_T51 x7 x9).f1) ((rd_T51 x7 x9).f2) ((rd_T51 x7 x9).f3) ((rd_T51 x7 x9).f4))) else (splicelaw04_AluConsts.j2 k x0 x1 x7 x8 x9 true ((rd_T51 x7 x9).f0) ((rd_T51 x7 x9).f1) ((rd_T51 x7 x9).f2) ((rd_T51 x7 x9).f3) ((rd_T51 x7 x9).f4)))) else (splicelaw04_AluConsts.j2 k x0 x1 x7 x8 x9 true ((rd_T51 x7 x9).f0) ((rd_T51 x7 x9).f1) ((rd_T51 x7 x9).f2) ((rd_T51 x7 x9).f3) ((rd_T51 x7 x9).f4)))) else (splicelaw04_AluConsts.j2 k x0 x1 x7 x8 x9 true ((rd_T51 x7 x9).f0) ((rd_T51 x7 x9).f1) ((rd_T51 x7 x9).f2) ((rd_T51 x7 x9).f3) ((rd_T51 x7 x9).f4))) else (splicelaw04_AluConsts.j2 k x0 x1 x7 x8 x9 true ((rd_T51 x7 x9).f0) ((rd_T51 x7 x9).f1) ((rd_T51 x7 x9).f2) ((rd_T51 x7 x9).f3) ((rd_T51 x7 x9).f4)))) else (none)) else (if x1 ≤ 32767 then (if x8 = x1 then (if (x7.length : Int) ≥ 1 then (if (x7.length : Int) ≤ 2 then (if (x7.length : Int) = 1 then (if 0 < (x7.length : Int) then (if ((rd_T51 x7 0).f0) = 8 then (some true) else (some false)) else (none)) else (some false)) else (some false)) else (some false)) else (some false)) else (if x8 = x1 then (if (x7.length : Int) ≥ 1 then (if (x7.length : Int) ≤ 2 then (if x1 ≥ 4294934528 then (if (x7.length : Int) = 1 then (if 0 < (x7.length : Int) then (if ((rd_T51 x7 0).f0) = 8 then (some true) else (some false)) else (none)) else (some false)) else (if (x7.length : Int) = 1 then (some true) else (some ((Int.tmod x1 65536) != 0)))) else (some false)) else (some false)) else (some false)))
def splicelaw04_AluConsts.j2 : Nat → Int → Int → List (S51) → Int → Int → Bool → Int → Int → Int → Int → Int → Option (Bool)
  | 0, _, _, _, _, _, _, _, _, _, _, _ => none
  | k + 1, x0, x1, x7, x8, x9, x76, x188000, x188001, x188002, x188003, x188004 => if x76 = true then (some false) else (if x188002 = x0 then ((alu_Do.f x188000 x188001 x188002 x188003 x188004 x8 0).bind fun t191 => (splicelaw04_AluConsts.l0 k x0 x1 x7 t191 (wrap64 (x9 + 1)))) else ((alu_Do.f x188000 x188001 x188002 x188003 x188004 0 0).bind fun t192 => (splicelaw04_AluConsts.l0 k x0 x1 x7 t192 (wrap64 (x9 + 1)))))
end
def splicelaw04_AluConsts.f (k : Nat) (a0 : Int) (a1 : Int) (a2 : Int) : Option (Bool) := (alu_Const.f k a0 a1).bind fun t179 => ((splicelaw04_awake.f k).bind fun t182 => (if t182 = true then (if a0 < 1 then (splicelaw04_AluConsts.j0 k a0 a1 a2 t179 true) else (splicelaw04_AluConsts.j0 k a0 a1 a2 t179 (decide (a0 > 15)))) else (splicelaw04_AluConsts.j0 k a0 a1 a2 t179 true)))
theorem splicelaw04_AluConsts.mono_l : ∀ k, (∀ y0 y1 y2 y3 y4, LeO (splicelaw04_AluConsts.j0 k y0 y1 y2 y3 y4) (splicelaw04_AluConsts.j0 (k + 1) y0 y1 y2 y3 y4)) ∧ (∀ y0 y1 y2 y3 y4, LeO (splicelaw04_AluConsts.l0 k y0 y1 y2 y3 y4) (splicelaw04_AluConsts.l0 (k + 1) y0 y1 y2 y3 y4)) ∧ (∀ y0 y1 y2 y3 y4 y5 y6 y7 y8 y9 y10, LeO (splicelaw04_AluConsts.j2 k y0 y1 y2 y3 y4 y5 y6 y7 y8 y9 y10) (splicelaw04_AluConsts.j2 (k + 1) y0 y1 y2 y3 y4 y5 y6 y7 y8 y9 y10))
  | 0 => ⟨fun _ _ _ _ _ r h => by simp [splicelaw04_AluConsts.j0] at h, fun _ _ _ _ _ r h => by simp [splicelaw04_AluConsts.l0] at h, fun _ _ _ _ _ _ _ _ _ _ _ r h => by simp [splicelaw04_AluConsts.j2] at h⟩
  | k + 1 => by
    obtain ⟨ih0, ih1, ih2⟩ := splicelaw04_AluConsts.mono_l k
    refine ⟨?_, ?_, ?_⟩
    · intro y0 y1 y2 y3 y4
      unfold splicelaw04_AluConsts.j0
      repeat' first
      | (with_reducible exact ih0 _ _ _ _ _)
      | (with_reducible exact ih1 _ _ _ _ _)
      | (with_reducible exact ih2 _ _ _ _ _ _ _ _ _ _ _)
      | (with_reducible exact alu_Const.mono _ _ _)
      | (with_reducible exact splicelaw04_awake.mono _)
      | (with_reducible exact LeO.refl _)
      | (with_reducible exact LeO.none _)
      | (with_reducible refine LeO.ite ?_ ?_)
      | (with_reducible refine LeO.bind ?_ (fun _ => ?_))
      | exact ih0 _ _ _ _ _
      | exact ih1 _ _ _ _ _
      | exact ih2 _ _ _ _ _ _ _ _ _ _ _
      | exact alu_Const.mono _ _ _
      | exact splicelaw04_awake.mono _
      | exact LeO.none _
      | refine LeO.ite ?_ ?_
      | refine LeO.bind ?_ (fun _ => ?_)
    · intro y0 y1 y2 y3 y4
      unfold splicelaw04_AluConsts.l0
      repeat' first
      | (with_reducible exact ih0 _ _ _ _ _)
      | (with_reducible exact ih1 _ _ _ _ _)
      | (with_reducible exact ih2 _ _ _ _ _ _ _ _ _ _ _)
      | (with_reducible exact alu_Const.mono _ _ _)
      | (with_reducible exact splicelaw04_awake.mono _)
      | (with_reducible exact LeO.refl _)
      | (with_reducible exact LeO.none _)
      | (with_reducible refine LeO.ite ?_ ?_)
      | (with_reducible refine LeO.bind ?_ (fun _ => ?_))
      | exact ih0 _ _ _ _ _
      | exact ih1 _ _ _ _ _
      | exact ih2 _ _ _ _ _ _ _ _ _ _ _
      | exact alu_Const.mono _ _ _
      | exact splicelaw04_awake.mono _
      | exact LeO.none _
      | refine LeO.ite ?_ ?_
      | refine LeO.bind ?_ (fun _ => ?_)
    · intro y0 y1 y2 y3 y4 y5 y6 y7 y8 y9 y10
      unfold splicelaw04_AluConsts.j2
      repeat' first
      | (with_reducible exact ih0 _ _ _ _ _)
      | (with_reducible exact ih1 _ _ _ _ _)
      | (with_reducible exact ih2 _ _ _ _ _ _ _ _ _ _ _)
      | (with_reducible exact alu_Const.mono _ _ _)
      | (with_reducible exact splicelaw04_awake.mono _)
      | (with_reducible exact LeO.refl _)
      | (with_reducible exact LeO.none _)
      | (with_reducible refine LeO.ite ?_ ?_)
      | (with_reducible refine LeO.bind ?_ (fun _ => ?_))
      | exact ih0 _ _ _ _ _
      | exact ih1 _ _ _ _ _
      | exact ih2 _ _ _ _ _ _ _ _ _ _ _
      | exact alu_Const.mono _ _ _
      | exact splicelaw04_awake.mono _
      | exact LeO.none _
      | refine LeO.ite ?_ ?_
      | refine LeO.bind ?_ (fun _ => ?_)
theorem splicelaw04_AluConsts.mono : ∀ a0 a1 a2 k, LeO (splicelaw04_AluConsts.f k a0 a1 a2) (splicelaw04_AluConsts.f (k + 1) a0 a1 a2) := by
  intro a0 a1 a2 k
  obtain ⟨ih0, ih1, ih2⟩ := splicelaw04_AluConsts.mono_l k
  unfold splicelaw04_AluConsts.f
  repeat' first
      | (with_reducible exact ih0 _ _ _ _ _)
      | (with_reducible exact ih1 _ _ _ _ _)
      | (with_reducible exact ih2 _ _ _ _ _ _ _ _ _ _ _)
      | (with_reducible exact alu_Const.mono _ _ _)
      | (with_reducible exact splicelaw04_awake.mono _)
      | (with_reducible exact LeO.refl _)
      | (with_reducible exact LeO.none _)
      | (with_reducible refine LeO.ite ?_ ?_)
      | (with_reducible refine LeO.bind ?_ (fun _ => ?_))
      | exact ih0 _ _ _ _ _
      | exact ih1 _ _ _ _ _
      | exact ih2 _ _ _ _ _ _ _ _ _ _ _
      | exact alu_Const.mono _ _ _
      | exact splicelaw04_awake.mono _
      | exact LeO.none _
      | refine LeO.ite ?_ ?_
      | refine LeO.bind ?_ (fun _ => ?_)
set_option maxHeartbeats 8000000 in
set_option maxRecDepth 100000 in
theorem splicelaw04_AluConsts.calls (k : Nat) (a0 : Int) (a1 : Int) (a2 : Int) (r : Bool) (w : World) (h : splicelaw04_AluConsts.f k a0 a1 a2 = some r) :
    Calls Try.prog 15 #[.int .i64 a0, .int .u32 a1, .int .u32 a2] w fun e w' => e = .returned (.bool r) ∧ Below w.heap.size w w' := by
  have hu51 := Try.underlying51
  have HB := Aside0.mk (Below.refl w.heap.size w)
  have H : ((alu_Const.f k a0 a1).bind fun t179 => ((splicelaw04_awake.f k).bind fun t182 => (if t182 = true then (if a0 < 1 then (splicelaw04_AluConsts.j0 k a0 a1 a2 t179 true) else (splicelaw04_AluConsts.j0 k a0 a1 a2 t179 (decide (a0 > 15)))) else (splicelaw04_AluConsts.j0 k a0 a1 a2 t179 true)))) = some r := h
  clear h
  replace H := Option.bind_eq_some_iff.mp H
  obtain ⟨t179, A40, H⟩ := H
  replace H : ((splicelaw04_awake.f k).bind fun t182 => (if t182 = true then (if a0 < 1 then (splicelaw04_AluConsts.j0 k a0 a1 a2 t179 true) else (splicelaw04_AluConsts.j0 k a0 a1 a2 t179 (decide (a0 > 15)))) else (splicelaw04_AluConsts.j0 k a0 a1 a2 t179 true))) = some r := H
  have A4 := Aside0.mk A40
  clear A40
  have HC5 := Aside0.mk H
  clear H
  go_enter Try.func15, Try.ntmps15
  go_upto_region 2 with (first | ((with_reducible refine gate_callee (f := 45) rfl ?_); refine goesL_ (some 15) rfl rfl Try.func45 (by kernel_rfl) rfl #[.int .i64 a0, .int .u32 a1] rfl (by (try simp only [List.map_toArray, List.map_cons, List.map_nil]); first | done | rfl | (simp only [List.length_drop, List.length_take]; rfl)) ?_; (with_reducible refine (alu_Const.calls k a0 a1 t179 _ A4.out).mono ?_); rintro e w6 ⟨v180, rfl, ho0, hb⟩; refine ⟨_, rfl, ?_⟩; have n0_ := Aside0.mk (Kd.R_lower ho0 (below_size (by repeat (first | (with_reducible first | exact HB.out | apply below_alloc | apply pw_below_drewN | apply below_drew1) | exact HB.out)))); have n1_ := Aside0.mk (below_step (by repeat (first | (with_reducible first | exact HB.out | apply below_alloc | apply pw_below_drewN | apply below_drew1) | exact HB.out)) hb); clear HB; have HO181 := n0_; have HB := n1_; clear n0_ n1_; (try clear hb); (try clear hb2); (try clear hk); (try clear hi); (try clear ho0)))
  (try simp only [Act.put, List.setIfInBounds_toArray, List.set_cons_zero, List.set_cons_succ])
  go_cut [25] (fun v25 wc => ∃ (kq : Nat) (x25_4 : Bool), v25 = .bool x25_4 ∧ Aside0 (splicelaw04_AluConsts.j0 kq a0 a1 a2 t179 x25_4 = some r) ∧ Aside0 (kq ≤ k) ∧ Aside0 (Kd.R k51 51 wc w.heap.size (fun _ => True) v180 t179) ∧ Aside0 (Below w.heap.size w wc))
  case first =>
    have H := HC5.out
    clear HC5
    replace H := Option.bind_eq_some_iff.mp H
    obtain ⟨t182, A70, H⟩ := H
    replace H : (if t182 = true then (if a0 < 1 then (splicelaw04_AluConsts.j0 k a0 a1 a2 t179 true) else (splicelaw04_AluConsts.j0 k a0 a1 a2 t179 (decide (a0 > 15)))) else (splicelaw04_AluConsts.j0 k a0 a1 a2 t179 true)) = some r := H
    have A7 := Aside0.mk A70
    clear A70
    by_cases c8 : t182 = true
    · subst c8
      have H1 : (if a0 < 1 then (splicelaw04_AluConsts.j0 k a0 a1 a2 t179 true) else (splicelaw04_AluConsts.j0 k a0 a1 a2 t179 (decide (a0 > 15)))) = some r := by rw [if_pos rfl] at H; exact H
      clear H
      have H := H1
      clear H1
      by_cases c9 : a0 < 1
      · rw [if_pos c9] at H
        have c9b0 : decide (a0 < 1) = true := decide_eq_true c9
        clear c9
        (first | rw [c9b0] | (simp only [i64_w, i32_w]; rw [c9b0]) | skip)
        have H' := Aside0.mk H
        clear H
        go_wp2_with (first | ((with_reducible refine gate_callee (f := 38) rfl ?_); refine goesL_ (some 16) rfl rfl Try.func38 (by kernel_rfl) rfl #[] rfl (by (try simp only [List.map_toArray, List.map_cons, List.map_nil]); first | done | rfl | (simp only [List.length_drop, List.length_take]; rfl)) ?_; (with_reducible refine (splicelaw04_awake.calls k  true _ A7.out).mono ?_); rintro e w10 ⟨rfl, hb⟩; refine ⟨_, rfl, ?_⟩; have n0_ := Aside0.mk (Kd.R_below (by (with_reducible repeat (first | apply Kd.R_alloc | apply Kd.R_drewN | apply Kd.R_drew)); exact HO181.out) hb); have n1_ := Aside0.mk (below_step (by repeat (first | (with_reducible first | exact HB.out | apply below_alloc | apply pw_below_drewN | apply below_drew1) | exact HB.out)) hb); clear HO181; clear HB; have HO181 := n0_; have HB := n1_; clear n0_ n1_; (try clear hb); (try clear hb2); (try clear hk); (try clear hi)))
        go_meet
        case rel => exact ⟨_, (true), (by first | rfl | (simp; done) | (simp [*]; done)), H', ⟨by first | omega | exact Nat.le_refl _⟩, ⟨by (with_reducible repeat (first | apply Kd.R_alloc | apply Kd.R_drewN | apply Kd.R_drew)); exact HO181.out⟩, ⟨by repeat (first | (with_reducible first | exact HB.out | apply below_alloc | apply pw_below_drewN | apply below_drew1) | exact HB.out)⟩⟩
      · rw [if_neg c9] at H
        have c9b0 : decide (a0 < 1) = false := decide_eq_false c9
        clear c9
        (first | rw [c9b0] | (simp only [i64_w, i32_w]; rw [c9b0]) | skip)
        have H' := Aside0.mk H
        clear H
        go_wp2_with (first | ((with_reducible refine gate_callee (f := 38) rfl ?_); refine goesL_ (some 16) rfl rfl Try.func38 (by kernel_rfl) rfl #[] rfl (by (try simp only [List.map_toArray, List.map_cons, List.map_nil]); first | done | rfl | (simp only [List.length_drop, List.length_take]; rfl)) ?_; (with_reducible refine (splicelaw04_awake.calls k  true _ A7.out).mono ?_); rintro e w11 ⟨rfl, hb⟩; refine ⟨_, rfl, ?_⟩; have n0_ := Aside0.mk (Kd.R_below (by (with_reducible repeat (first | apply Kd.R_alloc | apply Kd.R_drewN | apply Kd.R_drew)); exact HO181.out) hb); have n1_ := Aside0.mk (below_step (by repeat (first | (with_reducible first | exact HB.out | apply below_alloc | apply pw_below_drewN | apply below_drew1) | exact HB.out)) hb); clear HO181; clear HB; have HO181 := n0_; have HB := n1_; clear n0_ n1_; (try clear hb); (try clear hb2); (try clear hk); (try clear hi)))
        go_meet
        case rel => exact ⟨_, (decide (a0 > 15)), (by first | rfl | (simp; done) | (simp [*]; done)), H', ⟨by first | omega | exact Nat.le_refl _⟩, ⟨by (with_reducible repeat (first | apply Kd.R_alloc | apply Kd.R_drewN | apply Kd.R_drew)); exact HO181.out⟩, ⟨by repeat (first | (with_reducible first | exact HB.out | apply below_alloc | apply pw_below_drewN | apply below_drew1) | exact HB.out)⟩⟩
    · replace c8 := Bool.eq_false_iff.mpr c8
      subst c8
      have H1 : (splicelaw04_AluConsts.j0 k a0 a1 a2 t179 true) = some r := by rw [if_neg (show ¬ (false = true) by decide)] at H; exact H
      clear H
      have H := H1
      clear H1
      have H' := Aside0.mk H
      clear H
      go_wp2_with (first | ((with_reducible refine gate_callee (f := 38) rfl ?_); refine goesL_ (some 16) rfl rfl Try.func38 (by kernel_rfl) rfl #[] rfl (by (try simp only [List.map_toArray, List.map_cons, List.map_nil]); first | done | rfl | (simp only [List.length_drop, List.length_take]; rfl)) ?_; (with_reducible refine (splicelaw04_awake.calls k  false _ A7.out).mono ?_); rintro e w12 ⟨rfl, hb⟩; refine ⟨_, rfl, ?_⟩; have n0_ := Aside0.mk (Kd.R_below (by (with_reducible repeat (first | apply Kd.R_alloc | apply Kd.R_drewN | apply Kd.R_drew)); exact HO181.out) hb); have n1_ := Aside0.mk (below_step (by repeat (first | (with_reducible first | exact HB.out | apply below_alloc | apply pw_below_drewN | apply below_drew1) | exact HB.out)) hb); clear HO181; clear HB; have HO181 := n0_; have HB := n1_; clear n0_ n1_; (try clear hb); (try clear hb2); (try clear hk); (try clear hi)))
      go_meet
      case rel => exact ⟨_, (true), (by first | rfl | (simp; done) | (simp [*]; done)), H', ⟨by first | omega | exact Nat.le_refl _⟩, ⟨by (with_reducible repeat (first | apply Kd.R_alloc | apply Kd.R_drewN | apply Kd.R_drew)); exact HO181.out⟩, ⟨by repeat (first | (with_reducible first | exact HB.out | apply below_alloc | apply pw_below_drewN | apply below_drew1) | exact HB.out)⟩⟩
  case rest =>
    clear HC5
    try clear c1
    try clear p2
    try clear c3
    try clear c4
    try clear c8
    try clear c9
    try clear c9b0
    obtain ⟨kq, x25_4, rfl, HA, HJ4, HO_7, HB⟩ := hcut
    cases kq with
    | zero => exact absurd HA.out (by simp [splicelaw04_AluConsts.j0])
    | succ kj4 =>
      have H := HA.out
      clear HA
      simp only [splicelaw04_AluConsts.j0] at H
      by_cases c13 : x25_4 = true
      · subst c13
        have H1 : ((splicelaw04_awake.f kj4).bind fun t183 => (if t183 = true then (some ((t179.length : Int) == 0)) else (some false))) = some r := by rw [if_pos rfl] at H; exact H
        clear H
        have H := H1
        clear H1
        replace H := Option.bind_eq_some_iff.mp H
        obtain ⟨t183, A140, H⟩ := H
        replace H : (if t183 = true then (some ((t179.length : Int) == 0)) else (some false)) = some r := H
        have A14 := Aside0.mk A140
        clear A140
        by_cases c15 : t183 = true
        · subst c15
          have H1 : (some ((t179.length : Int) == 0)) = some r := by rw [if_pos rfl] at H; exact H
          clear H
          have H := H1
          clear H1
          obtain rfl := Option.some.inj H
          go_wp2_with (first | ((with_reducible refine gate_callee (f := 38) rfl ?_); refine goesL_ (some 26) rfl rfl Try.func38 (by kernel_rfl) rfl #[] rfl (by (try simp only [List.map_toArray, List.map_cons, List.map_nil]); first | done | rfl | (simp only [List.length_drop, List.length_take]; rfl)) ?_; (with_reducible refine (splicelaw04_awake.calls kj4  true _ A14.out).mono ?_); rintro e w16 ⟨rfl, hb⟩; refine ⟨_, rfl, ?_⟩; have n0_ := Aside0.mk (Kd.R_below (by (with_reducible repeat (first | apply Kd.R_alloc | apply Kd.R_drewN | apply Kd.R_drew)); exact HO_7.out) hb); have n1_ := Aside0.mk (below_step (by repeat (first | (with_reducible first | exact HB.out | apply below_alloc | apply pw_below_drewN | apply below_drew1) | exact HB.out)) hb); clear HO_7; clear HB; have HO_7 := n0_; have HB := n1_; clear n0_ n1_; (try clear hb); (try clear hb2); (try clear hk); (try clear hi); obtain ⟨Ao17, co17, eo17⟩ := Kd.R_slice HO_7.out; subst eo17))
          go_ret
          exact ⟨by first | rfl | (simp [errW_none, errW_some] <;> rfl) | (simp [*, errW_none, errW_some] <;> rfl), by repeat (first | (with_reducible first | exact HB.out | apply below_alloc | apply pw_below_drewN | apply below_drew1) | exact HB.out)⟩
        · replace c15 := Bool.eq_false_iff.mpr c15
          subst c15
          have H1 : (some false) = some r := by rw [if_neg (show ¬ (false = true) by decide)] at H; exact H
          clear H
          have H := H1
          clear H1
          obtain rfl := Option.some.inj H
          go_wp2_with (first | ((with_reducible refine gate_callee (f := 38) rfl ?_); refine goesL_ (some 26) rfl rfl Try.func38 (by kernel_rfl) rfl #[] rfl (by (try simp only [List.map_toArray, List.map_cons, List.map_nil]); first | done | rfl | (simp only [List.length_drop, List.length_take]; rfl)) ?_; (with_reducible refine (splicelaw04_awake.calls kj4  false _ A14.out).mono ?_); rintro e w18 ⟨rfl, hb⟩; refine ⟨_, rfl, ?_⟩; have n0_ := Aside0.mk (Kd.R_below (by (with_reducible repeat (first | apply Kd.R_alloc | apply Kd.R_drewN | apply Kd.R_drew)); exact HO_7.out) hb); have n1_ := Aside0.mk (below_step (by repeat (first | (with_reducible first | exact HB.out | apply below_alloc | apply pw_below_drewN | apply below_drew1) | exact HB.out)) hb); clear HO_7; clear HB; have HO_7 := n0_; have HB := n1_; clear n0_ n1_; (try clear hb); (try clear hb2); (try clear hk); (try clear hi)))
          go_ret
          exact ⟨by first | rfl | (simp [errW_none, errW_some] <;> rfl) | (simp [*, errW_none, errW_some] <;> rfl), by repeat (first | (with_reducible first | exact HB.out | apply below_alloc | apply pw_below_drewN | apply below_drew1) | exact HB.out)⟩
      · replace c13 := Bool.eq_false_iff.mpr c13
        subst c13
        have H1 : (splicelaw04_AluConsts.l0 kj4 a0 a1 t179 a2 0) = some r := by rw [if_neg (show ¬ (false = true) by decide)] at H; exact H
        clear H
        have H := H1
        clear H1
        have H' := Aside0.mk H
        clear H
        go_wp2
        go_loopg [8, 9] kj4 (fun kq v8 v9 w' => ∃ (x8_2 : Int) (x9_2 : Int), v8 = .int .u32 x8_2 ∧ v9 = .int .i64 x9_2 ∧ Aside0 (splicelaw04_AluConsts.l0 kq a0 a1 t179 x8_2 x9_2 = some r) ∧ Aside0 (kq ≤ kj4) ∧ Aside0 (Kd.R k51 51 w' w.heap.size (fun _ => True) v180 t179) ∧ Aside0 (Below w.heap.size w w'))
        case atStart => exact ⟨(a2), (0), (by first | rfl | (simp; done) | (simp [*]; done)), (by first | rfl | (simp; done) | (simp [*]; done)), H', ⟨Nat.le_refl _⟩, ⟨by (with_reducible repeat (first | apply Kd.R_alloc | apply Kd.R_drewN | apply Kd.R_drew)); exact HO_7.out⟩, ⟨by repeat (first | (with_reducible first | exact HB.out | apply below_alloc | apply pw_below_drewN | apply below_drew1) | exact HB.out)⟩⟩
        case round =>
          clear H'
          try clear c1
          try clear p2
          try clear c3
          try clear c4
          try clear c8
          try clear c9
          try clear c9b0
          try clear c13
          try clear c15
          try clear p2
          obtain ⟨x8_2, x9_2, rfl, rfl, HA, HK2, HO_7, HB⟩ := hrel
          cases gk with
          | zero => exact absurd HA.out (by simp [splicelaw04_AluConsts.l0])
          | succ k2 =>
            have H := HA.out
            clear HA
            simp only [splicelaw04_AluConsts.l0] at H
            by_cases c19 : x9_2 < (t179.length : Int)
            · rw [if_pos c19] at H
              have c19b0 : decide (x9_2 < (t179.length : Int)) = true := decide_eq_true c19
              clear c19
              by_cases c20 : 0 ≤ x9_2
              · rw [if_pos c20] at H
                have c20b0 : decide (0 ≤ x9_2) = true := decide_eq_true c20
                clear c20
                have HC21 := Aside0.mk H
                clear H
                obtain ⟨Ao22, co22, eo22⟩ := Kd.R_slice HO_7.out
                subst eo22
                have p186 : 0 ≤ (x9_2 : Int) := of_decide_eq_true (by first | (with_reducible assumption) | assumption)
                have q186 : x9_2 < (t179.length : Int) := of_decide_eq_true (by first | (with_reducible assumption) | assumption)
                obtain ⟨ad186, e186, hx186_0, hx186_1, hx186_2, hx186_3, hx186_4⟩ := at_T51 (Kd.R_reads' HO_7.out).2.2 x9_2 p186 q186
                cases e186
                replace p186 := eq_true p186
                replace q186 := eq_true q186
                go_upto_region 9 with (first | ((with_reducible refine gate_dst (N := 10) rfl ?_); (try (refine gate_guard (by rfl) ?_; dsimp only)); refine box_event ?hg (N := 10) ?hd (cs := #[.int .i64 0, .int .i64 0, .int .i64 0, .int .i64 0, .int .i64 0]) (t := 51) ?hr ?_; (case hd => rfl); (case hg => rfl); (case hr => first | (go_simp; done) | (go_simp; rfl)); intro gb187 hg w23 hbox hb; have n0_ := Aside0.mk (Kd.R_below (Kd.R_elderB (by (with_reducible repeat (first | apply Kd.R_alloc | apply Kd.R_drewN | apply Kd.R_drew)); exact HO_7.out) gb187 (Nat.le_of_eq hg.symm)) hb); have n1_ := Aside0.mk (below_step (by repeat (first | (with_reducible first | exact HB.out | apply below_alloc | apply pw_below_drewN | apply below_drew1) | exact HB.out)) hb); have n2_ := Aside0.mk (hbox); have n3_ := Aside0.mk ((by rw [hg]; exact (below_size (by repeat (first | (with_reducible first | exact HB.out | apply below_alloc | apply pw_below_drewN | apply below_drew1) | exact HB.out))) : w.heap.size ≤ gb187)); have n4_ := Aside0.mk ((by rw [hg]; exact (below_size (by repeat (first | (with_reducible first | exact HB.out | apply below_alloc | apply pw_below_drewN | apply below_drew1) | exact HB.out))) : w.heap.size ≤ gb187)); clear HO_7; clear HB; have HO_7 := n0_; have HB := n1_; have BK187 := n2_; have GW187 := n3_; have GE187 := n4_; clear n0_ n1_ n2_ n3_ n4_; clear hb hbox hg; have hcz24_0 : w23.cell? ⟨gb187, 0, none⟩ = some (.int .i64 0) := (blk_cell BK187.out 0).trans rfl; have hcz24_1 : w23.cell? ⟨gb187, 1, none⟩ = some (.int .i64 0) := (blk_cell BK187.out 1).trans rfl; have hcz24_2 : w23.cell? ⟨gb187, 2, none⟩ = some (.int .i64 0) := (blk_cell BK187.out 2).trans rfl; have hcz24_3 : w23.cell? ⟨gb187, 3, none⟩ = some (.int .i64 0) := (blk_cell BK187.out 3).trans rfl; have hcz24_4 : w23.cell? ⟨gb187, 4, none⟩ = some (.int .i64 0) := (blk_cell BK187.out 4).trans rfl; have hfz24_0 := blk_frozen BK187.out 0; have hfz24_1 := blk_frozen BK187.out 1; have hfz24_2 := blk_frozen BK187.out 2; have hfz24_3 := blk_frozen BK187.out 3; have hfz24_4 := blk_frozen BK187.out 4))
                (try simp only [Act.put, List.setIfInBounds_toArray, List.set_cons_zero, List.set_cons_succ])
                go_cut [76] (fun v76 wc => ∃ (kq : Nat) (x76_20 : Bool), v76 = .bool x76_20 ∧ Aside0 (splicelaw04_AluConsts.j2 kq a0 a1 t179 x8_2 x9_2 x76_20 ((rd_T51 t179 x9_2).f0) ((rd_T51 t179 x9_2).f1) ((rd_T51 t179 x9_2).f2) ((rd_T51 t179 x9_2).f3) ((rd_T51 t179 x9_2).f4) = some r) ∧ Aside0 (kq ≤ k2) ∧ Aside0 (Kd.R k51 51 wc w.heap.size (fun k_ => k_ ≠ gb187) (.slice (some ad186) t179.length co22) t179) ∧ Aside0 (wc.heap[gb187]? = some (.cells #[.int .i64 ((rd_T51 t179 x9_2).f0), .int .i64 ((rd_T51 t179 x9_2).f1), .int .i64 ((rd_T51 t179 x9_2).f2), .int .i64 ((rd_T51 t179 x9_2).f3), .int .i64 ((rd_T51 t179 x9_2).f4)] 51 (0, 0))) ∧ Aside0 (Below w.heap.size w wc))
                case first =>
                  have H := HC21.out
                  clear HC21
                  replace H := Option.bind_eq_some_iff.mp H
                  obtain ⟨t188, A250, H⟩ := H
                  replace H : (if t188 = true then (if ((rd_T51 t179 x9_2).f1) = a0 then (if ((rd_T51 t179 x9_2).f2) = 0 then ((spliceref03_Kind.f ((rd_T51 t179 x9_2).f0) ((rd_T51 t179 x9_2).f1) ((rd_T51 t179 x9_2).f2) ((rd_T51 t179 x9_2).f3) ((rd_T51 t179 x9_2).f4)).bind fun t189 => (if t189 = 0 then (if x9_2 = 0 then (splicelaw04_AluConsts.j2 k2 a0 a1 t179 x8_2 x9_2 (((rd_T51 t179 x9_2).f2) != 0) ((rd_T51 t179 x9_2).f0) ((rd_T51 t179 x9_2).f1) ((rd_T51 t179 x9_2).f2) ((rd_T51 t179 x9_2).f3) ((rd_T51 t179 x9_2).f4)) else (splicelaw04_AluConsts.j2 k2 a0 a1 t179 x8_2 x9_2 false ((rd_T51 t179 x9_2).f0) ((rd_T51 t179 x9_2).f1) ((rd_T51 t179 x9_2).f2) ((rd_T51 t179 x9_2).f3) ((rd_T51 t179 x9_2).f4))) else (splicelaw04_AluConsts.j2 k2 a0 a1 t179 x8_2 x9_2 true ((rd_T51 t179 x9_2).f0) ((rd_T51 t179 x9_2).f1) ((rd_T51 t179 x9_2).f2) ((rd_T51 t179 x9_2).f3) ((rd_T51 t179 x9_2).f4)))) else (if ((rd_T51 t179 x9_2).f2) = a0 then ((spliceref03_Kind.f ((rd_T51 t179 x9_2).f0) ((rd_T51 t179 x9_2).f1) ((rd_T51 t179 x9_2).f2) ((rd_T51 t179 x9_2).f3) ((rd_T51 t179 x9_2).f4)).bind fun t190 => (if t190 = 0 then (if x9_2 = 0 then (splicelaw04_AluConsts.j2 k2 a0 a1 t179 x8_2 x9_2 (((rd_T51 t179 x9_2).f2) != 0) ((rd_T51 t179 x9_2).f0) ((rd_T51 t179 x9_2).f1) ((rd_T51 t179 x9_2).f2) ((rd_T51 t179 x9_2).f3) ((rd_T51 t179 x9_2).f4)) else (splicelaw04_AluConsts.j2 k2 a0 a1 t179 x8_2 x9_2 false ((rd_T51 t179 x9_2).f0) ((rd_T51 t179 x9_2).f1) ((rd_T51 t179 x9_2).f2) ((rd_T51 t179 x9_2).f3) ((rd_T51 t179 x9_2).f4))) else (splicelaw04_AluConsts.j2 k2 a0 a1 t179 x8_2 x9_2 true ((rd_T51 t179 x9_2).f0) ((rd_T51 t179 x9_2).f1) ((rd_T51 t179 x9_2).f2) ((rd_T51 t179 x9_2).f3) ((rd_T51 t179 x9_2).f4)))) else (splicelaw04_AluConsts.j2 k2 a0 a1 t179 x8_2 x9_2 true ((rd_T51 t179 x9_2).f0) ((rd_T51 t179 x9_2).f1) ((rd_T51 t179 x9_2).f2) ((rd_T51 t179 x9_2).f3) ((rd_T51 t179 x9_2).f4)))) else (splicelaw04_AluConsts.j2 k2 a0 a1 t179 x8_2 x9_2 true ((rd_T51 t179 x9_2).f0) ((rd_T51 t179 x9_2).f1) ((rd_T51 t179 x9_2).f2) ((rd_T51 t179 x9_2).f3) ((rd_T51 t179 x9_2).f4))) else (splicelaw04_AluConsts.j2 k2 a0 a1 t179 x8_2 x9_2 true ((rd_T51 t179 x9_2).f0) ((rd_T51 t179 x9_2).f1) ((rd_T51 t179 x9_2).f2) ((rd_T51 t179 x9_2).f3) ((rd_T51 t179 x9_2).f4))) = some r := H
                  have A25 := Aside0.mk A250
                  clear A250
                  by_cases c26 : t188 = true
                  · subst c26
                    have H1 : (if ((rd_T51 t179 x9_2).f1) = a0 then (if ((rd_T51 t179 x9_2).f2) = 0 then ((spliceref03_Kind.f ((rd_T51 t179 x9_2).f0) ((rd_T51 t179 x9_2).f1) ((rd_T51 t179 x9_2).f2) ((rd_T51 t179 x9_2).f3) ((rd_T51 t179 x9_2).f4)).bind fun t189 => (if t189 = 0 then (if x9_2 = 0 then (splicelaw04_AluConsts.j2 k2 a0 a1 t179 x8_2 x9_2 (((rd_T51 t179 x9_2).f2) != 0) ((rd_T51 t179 x9_2).f0) ((rd_T51 t179 x9_2).f1) ((rd_T51 t179 x9_2).f2) ((rd_T51 t179 x9_2).f3) ((rd_T51 t179 x9_2).f4)) else (splicelaw04_AluConsts.j2 k2 a0 a1 t179 x8_2 x9_2 false ((rd_T51 t179 x9_2).f0) ((rd_T51 t179 x9_2).f1) ((rd_T51 t179 x9_2).f2) ((rd_T51 t179 x9_2).f3) ((rd_T51 t179 x9_2).f4))) else (splicelaw04_AluConsts.j2 k2 a0 a1 t179 x8_2 x9_2 true ((rd_T51 t179 x9_2).f0) ((rd_T51 t179 x9_2).f1) ((rd_T51 t179 x9_2).f2) ((rd_T51 t179 x9_2).f3) ((rd_T51 t179 x9_2).f4)))) else (if ((rd_T51 t179 x9_2).f2) = a0 then ((spliceref03_Kind.f ((rd_T51 t179 x9_2).f0) ((rd_T51 t179 x9_2).f1) ((rd_T51 t179 x9_2).f2) ((rd_T51 t179 x9_2).f3) ((rd_T51 t179 x9_2).f4)).bind fun t190 => (if t190 = 0 then (if x9_2 = 0 then (splicelaw04_AluConsts.j2 k2 a0 a1 t179 x8_2 x9_2 (((rd_T51 t179 x9_2).f2) != 0) ((rd_T51 t179 x9_2).f0) ((rd_T51 t179 x9_2).f1) ((rd_T51 t179 x9_2).f2) ((rd_T51 t179 x9_2).f3) ((rd_T51 t179 x9_2).f4)) else (splicelaw04_AluConsts.j2 k2 a0 a1 t179 x8_2 x9_2 false ((rd_T51 t179 x9_2).f0) ((rd_T51 t179 x9_2).f1) ((rd_T51 t179 x9_2).f2) ((rd_T51 t179 x9_2).f3) ((rd_T51 t179 x9_2).f4))) else (splicelaw04_AluConsts.j2 k2 a0 a1 t179 x8_2 x9_2 true ((rd_T51 t179 x9_2).f0) ((rd_T51 t179 x9_2).f1) ((rd_T51 t179 x9_2).f2) ((rd_T51 t179 x9_2).f3) ((rd_T51 t179 x9_2).f4)))) else (splicelaw04_AluConsts.j2 k2 a0 a1 t179 x8_2 x9_2 true ((rd_T51 t179 x9_2).f0) ((rd_T51 t179 x9_2).f1) ((rd_T51 t179 x9_2).f2) ((rd_T51 t179 x9_2).f3) ((rd_T51 t179 x9_2).f4)))) else (splicelaw04_AluConsts.j2 k2 a0 a1 t179 x8_2 x9_2 true ((rd_T51 t179 x9_2).f0) ((rd_T51 t179 x9_2).f1) ((rd_T51 t179 x9_2).f2) ((rd_T51 t179 x9_2).f3) ((rd_T51 t179 x9_2).f4))) = some r := by rw [if_pos rfl] at H; exact H
                    clear H
                    have H := H1
                    clear H1
                    by_cases c27 : ((rd_T51 t179 x9_2).f1) = a0
                    · rw [if_pos c27] at H
                      have c27b0 : (((rd_T51 t179 x9_2).f1) == a0) = true := beq_iff_eq.mpr c27
                      have c27b1 : (((rd_T51 t179 x9_2).f1) != a0) = false := bne_eq_false_iff_eq.mpr c27
                      clear c27
                      (first | rw [c27b0] | (simp only [i64_w, i32_w]; rw [c27b0]) | skip)
                      by_cases c28 : ((rd_T51 t179 x9_2).f2) = 0
                      · rw [if_pos c28] at H
                        have c28b0 : (((rd_T51 t179 x9_2).f2) == 0) = true := beq_iff_eq.mpr c28
                        have c28b1 : (((rd_T51 t179 x9_2).f2) != 0) = false := bne_eq_false_iff_eq.mpr c28
                        clear c28
                        replace H := Option.bind_eq_some_iff.mp H
                        obtain ⟨t189, A290, H⟩ := H
                        replace H : (if t189 = 0 then (if x9_2 = 0 then (splicelaw04_AluConsts.j2 k2 a0 a1 t179 x8_2 x9_2 (((rd_T51 t179 x9_2).f2) != 0) ((rd_T51 t179 x9_2).f0) ((rd_T51 t179 x9_2).f1) ((rd_T51 t179 x9_2).f2) ((rd_T51 t179 x9_2).f3) ((rd_T51 t179 x9_2).f4)) else (splicelaw04_AluConsts.j2 k2 a0 a1 t179 x8_2 x9_2 false ((rd_T51 t179 x9_2).f0) ((rd_T51 t179 x9_2).f1) ((rd_T51 t179 x9_2).f2) ((rd_T51 t179 x9_2).f3) ((rd_T51 t179 x9_2).f4))) else (splicelaw04_AluConsts.j2 k2 a0 a1 t179 x8_2 x9_2 true ((rd_T51 t179 x9_2).f0) ((rd_T51 t179 x9_2).f1) ((rd_T51 t179 x9_2).f2) ((rd_T51 t179 x9_2).f3) ((rd_T51 t179 x9_2).f4))) = some r := H
                        have A29 := Aside0.mk A290
                        clear A290
                        by_cases c30 : t189 = 0
                        · rw [if_pos c30] at H
                          have c30b0 : (t189 == 0) = true := beq_iff_eq.mpr c30
                          have c30b1 : (t189 != 0) = false := bne_eq_false_iff_eq.mpr c30
                          clear c30
                          by_cases c31 : x9_2 = 0
                          · rw [if_pos c31] at H
                            have c31b0 : (x9_2 == 0) = true := beq_iff_eq.mpr c31
                            have c31b1 : (x9_2 != 0) = false := bne_eq_false_iff_eq.mpr c31
                            clear c31
                            have H' := Aside0.mk H
                            clear H
                            have hcz32_0 : w23.cell? ⟨gb187, 0, none⟩ = some (.int .i64 0) := (blk_cell BK187.out 0).trans rfl
                            have hcz32_1 : w23.cell? ⟨gb187, 1, none⟩ = some (.int .i64 0) := (blk_cell BK187.out 1).trans rfl
                            have hcz32_2 : w23.cell? ⟨gb187, 2, none⟩ = some (.int .i64 0) := (blk_cell BK187.out 2).trans rfl
                            have hcz32_3 : w23.cell? ⟨gb187, 3, none⟩ = some (.int .i64 0) := (blk_cell BK187.out 3).trans rfl
                            have hcz32_4 : w23.cell? ⟨gb187, 4, none⟩ = some (.int .i64 0) := (blk_cell BK187.out 4).trans rfl
                            have hfz32_0 := blk_frozen BK187.out 0
                            have hfz32_1 := blk_frozen BK187.out 1
                            have hfz32_2 := blk_frozen BK187.out 2
                            have hfz32_3 := blk_frozen BK187.out 3
                            have hfz32_4 := blk_frozen BK187.out 4
                            go_wp2_with (first | ((with_reducible refine gate_callee (f := 39) rfl ?_); refine goesL_ (some 44) rfl rfl Try.func39 (by kernel_rfl) rfl #[.agg #[.int .i64 ((rd_T51 t179 x9_2).f0), .int .i64 ((rd_T51 t179 x9_2).f1), .int .i64 ((rd_T51 t179 x9_2).f2), .int .i64 ((rd_T51 t179 x9_2).f3), .int .i64 ((rd_T51 t179 x9_2).f4)]] rfl (by (try simp only [List.map_toArray, List.map_cons, List.map_nil]); first | done | rfl | (simp only [List.length_drop, List.length_take]; rfl)) ?_; (with_reducible refine (spliceref02_Right.calls ((rd_T51 t179 x9_2).f0) ((rd_T51 t179 x9_2).f1) ((rd_T51 t179 x9_2).f2) ((rd_T51 t179 x9_2).f3) ((rd_T51 t179 x9_2).f4) true _ A25.out).mono ?_); rintro e w33 ⟨rfl, hb⟩; refine ⟨_, rfl, ?_⟩; have n0_ := Aside0.mk (Kd.R_below (by (with_reducible repeat (first | apply Kd.R_alloc | apply Kd.R_drewN | apply Kd.R_drew)); exact (Kd.R_mono (Kd.R_far (p := ⟨gb187, 4, none⟩) (Kd.R_far (p := ⟨gb187, 3, none⟩) (Kd.R_far (p := ⟨gb187, 2, none⟩) (Kd.R_far (p := ⟨gb187, 1, none⟩) (Kd.R_far (p := ⟨gb187, 0, none⟩) (Kd.R_mono HO_7.out (fun k_ hk => (⟨hk, hk.2⟩ : _ ∧ k_ ≠ gb187))) (fun _ hk => hk.2) (.int .i64 ((rd_T51 t179 x9_2).f0))) (fun _ hk => hk.2) (.int .i64 ((rd_T51 t179 x9_2).f1))) (fun _ hk => hk.2) (.int .i64 ((rd_T51 t179 x9_2).f2))) (fun _ hk => hk.2) (.int .i64 ((rd_T51 t179 x9_2).f3))) (fun _ hk => hk.2) (.int .i64 ((rd_T51 t179 x9_2).f4))) (fun _ h_ => h_.1))) hb); have n1_ := Aside0.mk (blk_below (g := gb187) (o := .cells #[.int .i64 ((rd_T51 t179 x9_2).f0), .int .i64 ((rd_T51 t179 x9_2).f1), .int .i64 ((rd_T51 t179 x9_2).f2), .int .i64 ((rd_T51 t179 x9_2).f3), .int .i64 ((rd_T51 t179 x9_2).f4)] 51 (0, 0)) (by (with_reducible repeat (first | refine blk_drewN ?_ _ | refine blk_drew ?_ | refine blk_alloc ?_ _)); refine blk_put (cs := #[.int .i64 ((rd_T51 t179 x9_2).f0), .int .i64 ((rd_T51 t179 x9_2).f1), .int .i64 ((rd_T51 t179 x9_2).f2), .int .i64 ((rd_T51 t179 x9_2).f3), .int .i64 0]) ?_ 4 _ rfl; (with_reducible repeat (first | refine blk_drewN ?_ _ | refine blk_drew ?_ | refine blk_alloc ?_ _)); refine blk_put (cs := #[.int .i64 ((rd_T51 t179 x9_2).f0), .int .i64 ((rd_T51 t179 x9_2).f1), .int .i64 ((rd_T51 t179 x9_2).f2), .int .i64 0, .int .i64 0]) ?_ 3 _ rfl; (with_reducible repeat (first | refine blk_drewN ?_ _ | refine blk_drew ?_ | refine blk_alloc ?_ _)); refine blk_put (cs := #[.int .i64 ((rd_T51 t179 x9_2).f0), .int .i64 ((rd_T51 t179 x9_2).f1), .int .i64 0, .int .i64 0, .int .i64 0]) ?_ 2 _ rfl; (with_reducible repeat (first | refine blk_drewN ?_ _ | refine blk_drew ?_ | refine blk_alloc ?_ _)); refine blk_put (cs := #[.int .i64 ((rd_T51 t179 x9_2).f0), .int .i64 0, .int .i64 0, .int .i64 0, .int .i64 0]) ?_ 1 _ rfl; (with_reducible repeat (first | refine blk_drewN ?_ _ | refine blk_drew ?_ | refine blk_alloc ?_ _)); refine blk_put (cs := #[.int .i64 0, .int .i64 0, .int .i64 0, .int .i64 0, .int .i64 0]) ?_ 0 _ rfl; (with_reducible repeat (first | refine blk_drewN ?_ _ | refine blk_drew ?_ | refine blk_alloc ?_ _)); exact BK187.out) hb); have n2_ := Aside0.mk (below_step (by repeat (first | (with_reducible first | exact HB.out | apply below_alloc | apply pw_below_drewN | apply below_drew1 | refine below_set ?_ GE187.out) | exact HB.out)) hb); clear HO_7; clear BK187; clear HB; have HO_7 := n0_; have BK187 := n1_; have HB := n2_; clear n0_ n1_ n2_; (try clear hb); (try clear hb2); (try clear hk); (try clear hi); have hcz34_0 : w33.cell? ⟨gb187, 0, none⟩ = some (.int .i64 ((rd_T51 t179 x9_2).f0)) := (blk_cell BK187.out 0).trans rfl; have hcz34_1 : w33.cell? ⟨gb187, 1, none⟩ = some (.int .i64 ((rd_T51 t179 x9_2).f1)) := (blk_cell BK187.out 1).trans rfl; have hcz34_2 : w33.cell? ⟨gb187, 2, none⟩ = some (.int .i64 ((rd_T51 t179 x9_2).f2)) := (blk_cell BK187.out 2).trans rfl; have hcz34_3 : w33.cell? ⟨gb187, 3, none⟩ = some (.int .i64 ((rd_T51 t179 x9_2).f3)) := (blk_cell BK187.out 3).trans rfl; have hcz34_4 : w33.cell? ⟨gb187, 4, none⟩ = some (.int .i64 ((rd_T51 t179 x9_2).f4)) := (blk_cell BK187.out 4).trans rfl; have hfz34_0 := blk_frozen BK187.out 0; have hfz34_1 := blk_frozen BK187.out 1; have hfz34_2 := blk_frozen BK187.out 2; have hfz34_3 := blk_frozen BK187.out 3; have hfz34_4 := blk_frozen BK187.out 4) | (go_at_call 40; (with_reducible refine (spliceref03_Kind.calls ((rd_T51 t179 x9_2).f0) ((rd_T51 t179 x9_2).f1) ((rd_T51 t179 x9_2).f2) ((rd_T51 t179 x9_2).f3) ((rd_T51 t179 x9_2).f4) t189 _ A29.out).mono ?_); rintro e w35 ⟨rfl, hb⟩; have n0_ := Aside0.mk (Kd.R_below (by (with_reducible repeat (first | apply Kd.R_alloc | apply Kd.R_drewN | apply Kd.R_drew)); exact HO_7.out) hb); have n1_ := Aside0.mk (blk_below (g := gb187) (o := .cells #[.int .i64 ((rd_T51 t179 x9_2).f0), .int .i64 ((rd_T51 t179 x9_2).f1), .int .i64 ((rd_T51 t179 x9_2).f2), .int .i64 ((rd_T51 t179 x9_2).f3), .int .i64 ((rd_T51 t179 x9_2).f4)] 51 (0, 0)) (by (with_reducible repeat (first | refine blk_drewN ?_ _ | refine blk_drew ?_ | refine blk_alloc ?_ _)); exact BK187.out) hb); have n2_ := Aside0.mk (below_step (by repeat (first | (with_reducible first | exact HB.out | apply below_alloc | apply pw_below_drewN | apply below_drew1 | refine below_set ?_ GE187.out) | exact HB.out)) hb); clear HO_7; clear BK187; clear HB; have HO_7 := n0_; have BK187 := n1_; have HB := n2_; clear n0_ n1_ n2_; (try clear hb); (try clear hb2); (try clear hk); (try clear hi); have hcz36_0 : w35.cell? ⟨gb187, 0, none⟩ = some (.int .i64 ((rd_T51 t179 x9_2).f0)) := (blk_cell BK187.out 0).trans rfl; have hcz36_1 : w35.cell? ⟨gb187, 1, none⟩ = some (.int .i64 ((rd_T51 t179 x9_2).f1)) := (blk_cell BK187.out 1).trans rfl; have hcz36_2 : w35.cell? ⟨gb187, 2, none⟩ = some (.int .i64 ((rd_T51 t179 x9_2).f2)) := (blk_cell BK187.out 2).trans rfl; have hcz36_3 : w35.cell? ⟨gb187, 3, none⟩ = some (.int .i64 ((rd_T51 t179 x9_2).f3)) := (blk_cell BK187.out 3).trans rfl; have hcz36_4 : w35.cell? ⟨gb187, 4, none⟩ = some (.int .i64 ((rd_T51 t179 x9_2).f4)) := (blk_cell BK187.out 4).trans rfl; have hfz36_0 := blk_frozen BK187.out 0; have hfz36_1 := blk_frozen BK187.out 1; have hfz36_2 := blk_frozen BK187.out 2; have hfz36_3 := blk_frozen BK187.out 3; have hfz36_4 := blk_frozen BK187.out 4))
                            go_meet
                            case rel => exact ⟨_, ((((rd_T51 t179 x9_2).f2) != 0)), (by first | rfl | (simp; done) | (simp [*]; done)), H', ⟨by have := HJ4.out; have := HK2.out; first | omega | exact Nat.le_refl _⟩, ⟨by (with_reducible repeat (first | apply Kd.R_alloc | apply Kd.R_drewN | apply Kd.R_drew)); exact Kd.R_mono HO_7.out (fun _ hk => hk.2)⟩, ⟨by (with_reducible repeat (first | refine blk_drewN ?_ _ | refine blk_drew ?_ | refine blk_alloc ?_ _)); exact BK187.out⟩, ⟨by repeat (first | (with_reducible first | exact HB.out | apply below_alloc | apply pw_below_drewN | apply below_drew1 | refine below_set ?_ GE187.out) | exact HB.out)⟩⟩
                          · rw [if_neg c31] at H
                            have c31b0 : (x9_2 == 0) = false := beq_eq_false_iff_ne.mpr c31
                            have c31b1 : (x9_2 != 0) = true := bne_iff_ne.mpr c31
                            have H' := Aside0.mk H
                            clear H
                            have hcz37_0 : w23.cell? ⟨gb187, 0, none⟩ = some (.int .i64 0) := (blk_cell BK187.out 0).trans rfl
                            have hcz37_1 : w23.cell? ⟨gb187, 1, none⟩ = some (.int .i64 0) := (blk_cell BK187.out 1).trans rfl
                            have hcz37_2 : w23.cell? ⟨gb187, 2, none⟩ = some (.int .i64 0) := (blk_cell BK187.out 2).trans rfl
                            have hcz37_3 : w23.cell? ⟨gb187, 3, none⟩ = some (.int .i64 0) := (blk_cell BK187.out 3).trans rfl
                            have hcz37_4 : w23.cell? ⟨gb187, 4, none⟩ = some (.int .i64 0) := (blk_cell BK187.out 4).trans rfl
                            have hfz37_0 := blk_frozen BK187.out 0
                            have hfz37_1 := blk_frozen BK187.out 1
                            have hfz37_2 := blk_frozen BK187.out 2
                            have hfz37_3 := blk_frozen BK187.out 3
                            have hfz37_4 := blk_frozen BK187.out 4
                            go_wp2_with (first | ((with_reducible refine gate_callee (f := 39) rfl ?_); refine goesL_ (some 44) rfl rfl Try.func39 (by kernel_rfl) rfl #[.agg #[.int .i64 ((rd_T51 t179 x9_2).f0), .int .i64 ((rd_T51 t179 x9_2).f1), .int .i64 ((rd_T51 t179 x9_2).f2), .int .i64 ((rd_T51 t179 x9_2).f3), .int .i64 ((rd_T51 t179 x9_2).f4)]] rfl (by (try simp only [List.map_toArray, List.map_cons, List.map_nil]); first | done | rfl | (simp only [List.length_drop, List.length_take]; rfl)) ?_; (with_reducible refine (spliceref02_Right.calls ((rd_T51 t179 x9_2).f0) ((rd_T51 t179 x9_2).f1) ((rd_T51 t179 x9_2).f2) ((rd_T51 t179 x9_2).f3) ((rd_T51 t179 x9_2).f4) true _ A25.out).mono ?_); rintro e w38 ⟨rfl, hb⟩; refine ⟨_, rfl, ?_⟩; have n0_ := Aside0.mk (Kd.R_below (by (with_reducible repeat (first | apply Kd.R_alloc | apply Kd.R_drewN | apply Kd.R_drew)); exact (Kd.R_mono (Kd.R_far (p := ⟨gb187, 4, none⟩) (Kd.R_far (p := ⟨gb187, 3, none⟩) (Kd.R_far (p := ⟨gb187, 2, none⟩) (Kd.R_far (p := ⟨gb187, 1, none⟩) (Kd.R_far (p := ⟨gb187, 0, none⟩) (Kd.R_mono HO_7.out (fun k_ hk => (⟨hk, hk.2⟩ : _ ∧ k_ ≠ gb187))) (fun _ hk => hk.2) (.int .i64 ((rd_T51 t179 x9_2).f0))) (fun _ hk => hk.2) (.int .i64 ((rd_T51 t179 x9_2).f1))) (fun _ hk => hk.2) (.int .i64 ((rd_T51 t179 x9_2).f2))) (fun _ hk => hk.2) (.int .i64 ((rd_T51 t179 x9_2).f3))) (fun _ hk => hk.2) (.int .i64 ((rd_T51 t179 x9_2).f4))) (fun _ h_ => h_.1))) hb); have n1_ := Aside0.mk (blk_below (g := gb187) (o := .cells #[.int .i64 ((rd_T51 t179 x9_2).f0), .int .i64 ((rd_T51 t179 x9_2).f1), .int .i64 ((rd_T51 t179 x9_2).f2), .int .i64 ((rd_T51 t179 x9_2).f3), .int .i64 ((rd_T51 t179 x9_2).f4)] 51 (0, 0)) (by (with_reducible repeat (first | refine blk_drewN ?_ _ | refine blk_drew ?_ | refine blk_alloc ?_ _)); refine blk_put (cs := #[.int .i64 ((rd_T51 t179 x9_2).f0), .int .i64 ((rd_T51 t179 x9_2).f1), .int .i64 ((rd_T51 t179 x9_2).f2), .int .i64 ((rd_T51 t179 x9_2).f3), .int .i64 0]) ?_ 4 _ rfl; (with_reducible repeat (first | refine blk_drewN ?_ _ | refine blk_drew ?_ | refine blk_alloc ?_ _)); refine blk_put (cs := #[.int .i64 ((rd_T51 t179 x9_2).f0), .int .i64 ((rd_T51 t179 x9_2).f1), .int .i64 ((rd_T51 t179 x9_2).f2), .int .i64 0, .int .i64 0]) ?_ 3 _ rfl; (with_reducible repeat (first | refine blk_drewN ?_ _ | refine blk_drew ?_ | refine blk_alloc ?_ _)); refine blk_put (cs := #[.int .i64 ((rd_T51 t179 x9_2).f0), .int .i64 ((rd_T51 t179 x9_2).f1), .int .i64 0, .int .i64 0, .int .i64 0]) ?_ 2 _ rfl; (with_reducible repeat (first | refine blk_drewN ?_ _ | refine blk_drew ?_ | refine blk_alloc ?_ _)); refine blk_put (cs := #[.int .i64 ((rd_T51 t179 x9_2).f0), .int .i64 0, .int .i64 0, .int .i64 0, .int .i64 0]) ?_ 1 _ rfl; (with_reducible repeat (first | refine blk_drewN ?_ _ | refine blk_drew ?_ | refine blk_alloc ?_ _)); refine blk_put (cs := #[.int .i64 0, .int .i64 0, .int .i64 0, .int .i64 0, .int .i64 0]) ?_ 0 _ rfl; (with_reducible repeat (first | refine blk_drewN ?_ _ | refine blk_drew ?_ | refine blk_alloc ?_ _)); exact BK187.out) hb); have n2_ := Aside0.mk (below_step (by repeat (first | (with_reducible first | exact HB.out | apply below_alloc | apply pw_below_drewN | apply below_drew1 | refine below_set ?_ GE187.out) | exact HB.out)) hb); clear HO_7; clear BK187; clear HB; have HO_7 := n0_; have BK187 := n1_; have HB := n2_; clear n0_ n1_ n2_; (try clear hb); (try clear hb2); (try clear hk); (try clear hi); have hcz39_0 : w38.cell? ⟨gb187, 0, none⟩ = some (.int .i64 ((rd_T51 t179 x9_2).f0)) := (blk_cell BK187.out 0).trans rfl; have hcz39_1 : w38.cell? ⟨gb187, 1, none⟩ = some (.int .i64 ((rd_T51 t179 x9_2).f1)) := (blk_cell BK187.out 1).trans rfl; have hcz39_2 : w38.cell? ⟨gb187, 2, none⟩ = some (.int .i64 ((rd_T51 t179 x9_2).f2)) := (blk_cell BK187.out 2).trans rfl; have hcz39_3 : w38.cell? ⟨gb187, 3, none⟩ = some (.int .i64 ((rd_T51 t179 x9_2).f3)) := (blk_cell BK187.out 3).trans rfl; have hcz39_4 : w38.cell? ⟨gb187, 4, none⟩ = some (.int .i64 ((rd_T51 t179 x9_2).f4)) := (blk_cell BK187.out 4).trans rfl; have hfz39_0 := blk_frozen BK187.out 0; have hfz39_1 := blk_frozen BK187.out 1; have hfz39_2 := blk_frozen BK187.out 2; have hfz39_3 := blk_frozen BK187.out 3; have hfz39_4 := blk_frozen BK187.out 4) | (go_at_call 40; (with_reducible refine (spliceref03_Kind.calls ((rd_T51 t179 x9_2).f0) ((rd_T51 t179 x9_2).f1) ((rd_T51 t179 x9_2).f2) ((rd_T51 t179 x9_2).f3) ((rd_T51 t179 x9_2).f4) t189 _ A29.out).mono ?_); rintro e w40 ⟨rfl, hb⟩; have n0_ := Aside0.mk (Kd.R_below (by (with_reducible repeat (first | apply Kd.R_alloc | apply Kd.R_drewN | apply Kd.R_drew)); exact HO_7.out) hb); have n1_ := Aside0.mk (blk_below (g := gb187) (o := .cells #[.int .i64 ((rd_T51 t179 x9_2).f0), .int .i64 ((rd_T51 t179 x9_2).f1), .int .i64 ((rd_T51 t179 x9_2).f2), .int .i64 ((rd_T51 t179 x9_2).f3), .int .i64 ((rd_T51 t179 x9_2).f4)] 51 (0, 0)) (by (with_reducible repeat (first | refine blk_drewN ?_ _ | refine blk_drew ?_ | refine blk_alloc ?_ _)); exact BK187.out) hb); have n2_ := Aside0.mk (below_step (by repeat (first | (with_reducible first | exact HB.out | apply below_alloc | apply pw_below_drewN | apply below_drew1 | refine below_set ?_ GE187.out) | exact HB.out)) hb); clear HO_7; clear BK187; clear HB; have HO_7 := n0_; have BK187 := n1_; have HB := n2_; clear n0_ n1_ n2_; (try clear hb); (try clear hb2); (try clear hk); (try clear hi)))
                            go_meet
                            case rel => exact ⟨_, (false), (by first | rfl | (simp; done) | (simp [*]; done)), H', ⟨by have := HJ4.out; have := HK2.out; first | omega | exact Nat.le_refl _⟩, ⟨by (with_reducible repeat (first | apply Kd.R_alloc | apply Kd.R_drewN | apply Kd.R_drew)); exact Kd.R_mono HO_7.out (fun _ hk => hk.2)⟩, ⟨by (with_reducible repeat (first | refine blk_drewN ?_ _ | refine blk_drew ?_ | refine blk_alloc ?_ _)); exact BK187.out⟩, ⟨by repeat (first | (with_reducible first | exact HB.out | apply below_alloc | apply pw_below_drewN | apply below_drew1 | refine below_set ?_ GE187.out) | exact HB.out)⟩⟩
                        · rw [if_neg c30] at H
                          have c30b0 : (t189 == 0) = false := beq_eq_false_iff_ne.mpr c30
                          have c30b1 : (t189 != 0) = true := bne_iff_ne.mpr c30
                          have H' := Aside0.mk H
                          clear H
                          have hcz41_0 : w23.cell? ⟨gb187, 0, none⟩ = some (.int .i64 0) := (blk_cell BK187.out 0).trans rfl
                          have hcz41_1 : w23.cell? ⟨gb187, 1, none⟩ = some (.int .i64 0) := (blk_cell BK187.out 1).trans rfl
                          have hcz41_2 : w23.cell? ⟨gb187, 2, none⟩ = some (.int .i64 0) := (blk_cell BK187.out 2).trans rfl
                          have hcz41_3 : w23.cell? ⟨gb187, 3, none⟩ = some (.int .i64 0) := (blk_cell BK187.out 3).trans rfl
                          have hcz41_4 : w23.cell? ⟨gb187, 4, none⟩ = some (.int .i64 0) := (blk_cell BK187.out 4).trans rfl
                          have hfz41_0 := blk_frozen BK187.out 0
                          have hfz41_1 := blk_frozen BK187.out 1
                          have hfz41_2 := blk_frozen BK187.out 2
                          have hfz41_3 := blk_frozen BK187.out 3
                          have hfz41_4 := blk_frozen BK187.out 4
                          go_wp2_with (first | ((with_reducible refine gate_callee (f := 39) rfl ?_); refine goesL_ (some 44) rfl rfl Try.func39 (by kernel_rfl) rfl #[.agg #[.int .i64 ((rd_T51 t179 x9_2).f0), .int .i64 ((rd_T51 t179 x9_2).f1), .int .i64 ((rd_T51 t179 x9_2).f2), .int .i64 ((rd_T51 t179 x9_2).f3), .int .i64 ((rd_T51 t179 x9_2).f4)]] rfl (by (try simp only [List.map_toArray, List.map_cons, List.map_nil]); first | done | rfl | (simp only [List.length_drop, List.length_take]; rfl)) ?_; (with_reducible refine (spliceref02_Right.calls ((rd_T51 t179 x9_2).f0) ((rd_T51 t179 x9_2).f1) ((rd_T51 t179 x9_2).f2) ((rd_T51 t179 x9_2).f3) ((rd_T51 t179 x9_2).f4) true _ A25.out).mono ?_); rintro e w42 ⟨rfl, hb⟩; refine ⟨_, rfl, ?_⟩; have n0_ := Aside0.mk (Kd.R_below (by (with_reducible repeat (first | apply Kd.R_alloc | apply Kd.R_drewN | apply Kd.R_drew)); exact (Kd.R_mono (Kd.R_far (p := ⟨gb187, 4, none⟩) (Kd.R_far (p := ⟨gb187, 3, none⟩) (Kd.R_far (p := ⟨gb187, 2, none⟩) (Kd.R_far (p := ⟨gb187, 1, none⟩) (Kd.R_far (p := ⟨gb187, 0, none⟩) (Kd.R_mono HO_7.out (fun k_ hk => (⟨hk, hk.2⟩ : _ ∧ k_ ≠ gb187))) (fun _ hk => hk.2) (.int .i64 ((rd_T51 t179 x9_2).f0))) (fun _ hk => hk.2) (.int .i64 ((rd_T51 t179 x9_2).f1))) (fun _ hk => hk.2) (.int .i64 ((rd_T51 t179 x9_2).f2))) (fun _ hk => hk.2) (.int .i64 ((rd_T51 t179 x9_2).f3))) (fun _ hk => hk.2) (.int .i64 ((rd_T51 t179 x9_2).f4))) (fun _ h_ => h_.1))) hb); have n1_ := Aside0.mk (blk_below (g := gb187) (o := .cells #[.int .i64 ((rd_T51 t179 x9_2).f0), .int .i64 ((rd_T51 t179 x9_2).f1), .int .i64 ((rd_T51 t179 x9_2).f2), .int .i64 ((rd_T51 t179 x9_2).f3), .int .i64 ((rd_T51 t179 x9_2).f4)] 51 (0, 0)) (by (with_reducible repeat (first | refine blk_drewN ?_ _ | refine blk_drew ?_ | refine blk_alloc ?_ _)); refine blk_put (cs := #[.int .i64 ((rd_T51 t179 x9_2).f0), .int .i64 ((rd_T51 t179 x9_2).f1), .int .i64 ((rd_T51 t179 x9_2).f2), .int .i64 ((rd_T51 t179 x9_2).f3), .int .i64 0]) ?_ 4 _ rfl; (with_reducible repeat (first | refine blk_drewN ?_ _ | refine blk_drew ?_ | refine blk_alloc ?_ _)); refine blk_put (cs := #[.int .i64 ((rd_T51 t179 x9_2).f0), .int .i64 ((rd_T51 t179 x9_2).f1), .int .i64 ((rd_T51 t179 x9_2).f2), .int .i64 0, .int .i64 0]) ?_ 3 _ rfl; (with_reducible repeat (first | refine blk_drewN ?_ _ | refine blk_drew ?_ | refine blk_alloc ?_ _)); refine blk_put (cs := #[.int .i64 ((rd_T51 t179 x9_2).f0), .int .i64 ((rd_T51 t179 x9_2).f1), .int .i64 0, .int .i64 0, .int .i64 0]) ?_ 2 _ rfl; (with_reducible repeat (first | refine blk_drewN ?_ _ | refine blk_drew ?_ | refine blk_alloc ?_ _)); refine blk_put (cs := #[.int .i64 ((rd_T51 t179 x9_2).f0), .int .i64 0, .int .i64 0, .int .i64 0, .int .i64 0]) ?_ 1 _ rfl; (with_reducible repeat (first | refine blk_drewN ?_ _ | refine blk_drew ?_ | refine blk_alloc ?_ _)); refine blk_put (cs := #[.int .i64 0, .int .i64 0, .int .i64 0, .int .i64 0, .int .i64 0]) ?_ 0 _ rfl; (with_reducible repeat (first | refine blk_drewN ?_ _ | refine blk_drew ?_ | refine blk_alloc ?_ _)); exact BK187.out) hb); have n2_ := Aside0.mk (below_step (by repeat (first | (with_reducible first | exact HB.out | apply below_alloc | apply pw_below_drewN | apply below_drew1 | refine below_set ?_ GE187.out) | exact HB.out)) hb); clear HO_7; clear BK187; clear HB; have HO_7 := n0_; have BK187 := n1_; have HB := n2_; clear n0_ n1_ n2_; (try clear hb); (try clear hb2); (try clear hk); (try clear hi); have hcz43_0 : w42.cell? ⟨gb187, 0, none⟩ = some (.int .i64 ((rd_T51 t179 x9_2).f0)) := (blk_cell BK187.out 0).trans rfl; have hcz43_1 : w42.cell? ⟨gb187, 1, none⟩ = some (.int .i64 ((rd_T51 t179 x9_2).f1)) := (blk_cell BK187.out 1).trans rfl; have hcz43_2 : w42.cell? ⟨gb187, 2, none⟩ = some (.int .i64 ((rd_T51 t179 x9_2).f2)) := (blk_cell BK187.out 2).trans rfl; have hcz43_3 : w42.cell? ⟨gb187, 3, none⟩ = some (.int .i64 ((rd_T51 t179 x9_2).f3)) := (blk_cell BK187.out 3).trans rfl; have hcz43_4 : w42.cell? ⟨gb187, 4, none⟩ = some (.int .i64 ((rd_T51 t179 x9_2).f4)) := (blk_cell BK187.out 4).trans rfl; have hfz43_0 := blk_frozen BK187.out 0; have hfz43_1 := blk_frozen BK187.out 1; have hfz43_2 := blk_frozen BK187.out 2; have hfz43_3 := blk_frozen BK187.out 3; have hfz43_4 := blk_frozen BK187.out 4) | (go_at_call 40; (with_reducible refine (spliceref03_Kind.calls ((rd_T51 t179 x9_2).f0) ((rd_T51 t179 x9_2).f1) ((rd_T51 t179 x9_2).f2) ((rd_T51 t179 x9_2).f3) ((rd_T51 t179 x9_2).f4) t189 _ A29.out).mono ?_); rintro e w44 ⟨rfl, hb⟩; have n0_ := Aside0.mk (Kd.R_below (by (with_reducible repeat (first | apply Kd.R_alloc | apply Kd.R_drewN | apply Kd.R_drew)); exact HO_7.out) hb); have n1_ := Aside0.mk (blk_below (g := gb187) (o := .cells #[.int .i64 ((rd_T51 t179 x9_2).f0), .int .i64 ((rd_T51 t179 x9_2).f1), .int .i64 ((rd_T51 t179 x9_2).f2), .int .i64 ((rd_T51 t179 x9_2).f3), .int .i64 ((rd_T51 t179 x9_2).f4)] 51 (0, 0)) (by (with_reducible repeat (first | refine blk_drewN ?_ _ | refine blk_drew ?_ | refine blk_alloc ?_ _)); exact BK187.out) hb); have n2_ := Aside0.mk (below_step (by repeat (first | (with_reducible first | exact HB.out | apply below_alloc | apply pw_below_drewN | apply below_drew1 | refine below_set ?_ GE187.out) | exact HB.out)) hb); clear HO_7; clear BK187; clear HB; have HO_7 := n0_; have BK187 := n1_; have HB := n2_; clear n0_ n1_ n2_; (try clear hb); (try clear hb2); (try clear hk); (try clear hi)))
                          go_meet
                          case rel => exact ⟨_, (true), (by first | rfl | (simp; done) | (simp [*]; done)), H', ⟨by have := HJ4.out; have := HK2.out; first | omega | exact Nat.le_refl _⟩, ⟨by (with_reducible repeat (first | apply Kd.R_alloc | apply Kd.R_drewN | apply Kd.R_drew)); exact Kd.R_mono HO_7.out (fun _ hk => hk.2)⟩, ⟨by (with_reducible repeat (first | refine blk_drewN ?_ _ | refine blk_drew ?_ | refine blk_alloc ?_ _)); exact BK187.out⟩, ⟨by repeat (first | (with_reducible first | exact HB.out | apply below_alloc | apply pw_below_drewN | apply below_drew1 | refine below_set ?_ GE187.out) | exact HB.out)⟩⟩
                      · rw [if_neg c28] at H
                        have c28b0 : (((rd_T51 t179 x9_2).f2) == 0) = false := beq_eq_false_iff_ne.mpr c28
                        have c28b1 : (((rd_T51 t179 x9_2).f2) != 0) = true := bne_iff_ne.mpr c28
                        by_cases c45 : ((rd_T51 t179 x9_2).f2) = a0
                        · rw [if_pos c45] at H
                          have c45b0 : (((rd_T51 t179 x9_2).f2) == a0) = true := beq_iff_eq.mpr c45
                          have c45b1 : (((rd_T51 t179 x9_2).f2) != a0) = false := bne_eq_false_iff_eq.mpr c45
                          clear c45
                          replace H := Option.bind_eq_some_iff.mp H
                          obtain ⟨t190, A460, H⟩ := H
                          replace H : (if t190 = 0 then (if x9_2 = 0 then (splicelaw04_AluConsts.j2 k2 a0 a1 t179 x8_2 x9_2 (((rd_T51 t179 x9_2).f2) != 0) ((rd_T51 t179 x9_2).f0) ((rd_T51 t179 x9_2).f1) ((rd_T51 t179 x9_2).f2) ((rd_T51 t179 x9_2).f3) ((rd_T51 t179 x9_2).f4)) else (splicelaw04_AluConsts.j2 k2 a0 a1 t179 x8_2 x9_2 false ((rd_T51 t179 x9_2).f0) ((rd_T51 t179 x9_2).f1) ((rd_T51 t179 x9_2).f2) ((rd_T51 t179 x9_2).f3) ((rd_T51 t179 x9_2).f4))) else (splicelaw04_AluConsts.j2 k2 a0 a1 t179 x8_2 x9_2 true ((rd_T51 t179 x9_2).f0) ((rd_T51 t179 x9_2).f1) ((rd_T51 t179 x9_2).f2) ((rd_T51 t179 x9_2).f3) ((rd_T51 t179 x9_2).f4))) = some r := H
                          have A46 := Aside0.mk A460
                          clear A460
                          by_cases c47 : t190 = 0
                          · rw [if_pos c47] at H
                            have c47b0 : (t190 == 0) = true := beq_iff_eq.mpr c47
                            have c47b1 : (t190 != 0) = false := bne_eq_false_iff_eq.mpr c47
                            clear c47
                            by_cases c48 : x9_2 = 0
                            · rw [if_pos c48] at H
                              have c48b0 : (x9_2 == 0) = true := beq_iff_eq.mpr c48
                              have c48b1 : (x9_2 != 0) = false := bne_eq_false_iff_eq.mpr c48
                              clear c48
                              have H' := Aside0.mk H
                              clear H
                              have hcz49_0 : w23.cell? ⟨gb187, 0, none⟩ = some (.int .i64 0) := (blk_cell BK187.out 0).trans rfl
                              have hcz49_1 : w23.cell? ⟨gb187, 1, none⟩ = some (.int .i64 0) := (blk_cell BK187.out 1).trans rfl
                              have hcz49_2 : w23.cell? ⟨gb187, 2, none⟩ = some (.int .i64 0) := (blk_cell BK187.out 2).trans rfl
                              have hcz49_3 : w23.cell? ⟨gb187, 3, none⟩ = some (.int .i64 0) := (blk_cell BK187.out 3).trans rfl
                              have hcz49_4 : w23.cell? ⟨gb187, 4, none⟩ = some (.int .i64 0) := (blk_cell BK187.out 4).trans rfl
                              have hfz49_0 := blk_frozen BK187.out 0
                              have hfz49_1 := blk_frozen BK187.out 1
                              have hfz49_2 := blk_frozen BK187.out 2
                              have hfz49_3 := blk_frozen BK187.out 3
                              have hfz49_4 := blk_frozen BK187.out 4
                              go_wp2_with (first | ((with_reducible refine gate_callee (f := 39) rfl ?_); refine goesL_ (some 44) rfl rfl Try.func39 (by kernel_rfl) rfl #[.agg #[.int .i64 ((rd_T51 t179 x9_2).f0), .int .i64 ((rd_T51 t179 x9_2).f1), .int .i64 ((rd_T51 t179 x9_2).f2), .int .i64 ((rd_T51 t179 x9_2).f3), .int .i64 ((rd_T51 t179 x9_2).f4)]] rfl (by (try simp only [List.map_toArray, List.map_cons, List.map_nil]); first | done | rfl | (simp only [List.length_drop, List.length_take]; rfl)) ?_; (with_reducible refine (spliceref02_Right.calls ((rd_T51 t179 x9_2).f0) ((rd_T51 t179 x9_2).f1) ((rd_T51 t179 x9_2).f2) ((rd_T51 t179 x9_2).f3) ((rd_T51 t179 x9_2).f4) true _ A25.out).mono ?_); rintro e w50 ⟨rfl, hb⟩; refine ⟨_, rfl, ?_⟩; have n0_ := Aside0.mk (Kd.R_below (by (with_reducible repeat (first | apply Kd.R_alloc | apply Kd.R_drewN | apply Kd.R_drew)); exact (Kd.R_mono (Kd.R_far (p := ⟨gb187, 4, none⟩) (Kd.R_far (p := ⟨gb187, 3, none⟩) (Kd.R_far (p := ⟨gb187, 2, none⟩) (Kd.R_far (p := ⟨gb187, 1, none⟩) (Kd.R_far (p := ⟨gb187, 0, none⟩) (Kd.R_mono HO_7.out (fun k_ hk => (⟨hk, hk.2⟩ : _ ∧ k_ ≠ gb187))) (fun _ hk => hk.2) (.int .i64 ((rd_T51 t179 x9_2).f0))) (fun _ hk => hk.2) (.int .i64 ((rd_T51 t179 x9_2).f1))) (fun _ hk => hk.2) (.int .i64 ((rd_T51 t179 x9_2).f2))) (fun _ hk => hk.2) (.int .i64 ((rd_T51 t179 x9_2).f3))) (fun _ hk => hk.2) (.int .i64 ((rd_T51 t179 x9_2).f4))) (fun _ h_ => h_.1))) hb); have n1_ := Aside0.mk (blk_below (g := gb187) (o := .cells #[.int .i64 ((rd_T51 t179 x9_2).f0), .int .i64 ((rd_T51 t179 x9_2).f1), .int .i64 ((rd_T51 t179 x9_2).f2), .int .i64 ((rd_T51 t179 x9_2).f3), .int .i64 ((rd_T51 t179 x9_2).f4)] 51 (0, 0)) (by (with_reducible repeat (first | refine blk_drewN ?_ _ | refine blk_drew ?_ | refine blk_alloc ?_ _)); refine blk_put (cs := #[.int .i64 ((rd_T51 t179 x9_2).f0), .int .i64 ((rd_T51 t179 x9_2).f1), .int .i64 ((rd_T51 t179 x9_2).f2), .int .i64 ((rd_T51 t179 x9_2).f3), .int .i64 0]) ?_ 4 _ rfl; (with_reducible repeat (first | refine blk_drewN ?_ _ | refine blk_drew ?_ | refine blk_alloc ?_ _)); refine blk_put (cs := #[.int .i64 ((rd_T51 t179 x9_2).f0), .int .i64 ((rd_T51 t179 x9_2).f1), .int .i64 ((rd_T51 t179 x9_2).f2), .int .i64 0, .int .i64 0]) ?_ 3 _ rfl; (with_reducible repeat (first | refine blk_drewN ?_ _ | refine blk_drew ?_ | refine blk_alloc ?_ _)); refine blk_put (cs := #[.int .i64 ((rd_T51 t179 x9_2).f0), .int .i64 ((rd_T51 t179 x9_2).f1), .int .i64 0, .int .i64 0, .int .i64 0]) ?_ 2 _ rfl; (with_reducible repeat (first | refine blk_drewN ?_ _ | refine blk_drew ?_ | refine blk_alloc ?_ _)); refine blk_put (cs := #[.int .i64 ((rd_T51 t179 x9_2).f0), .int .i64 0, .int .i64 0, .int .i64 0, .int .i64 0]) ?_ 1 _ rfl; (with_reducible repeat (first | refine blk_drewN ?_ _ | refine blk_drew ?_ | refine blk_alloc ?_ _)); refine blk_put (cs := #[.int .i64 0, .int .i64 0, .int .i64 0, .int .i64 0, .int .i64 0]) ?_ 0 _ rfl; (with_reducible repeat (first | refine blk_drewN ?_ _ | refine blk_drew ?_ | refine blk_alloc ?_ _)); exact BK187.out) hb); have n2_ := Aside0.mk (below_step (by repeat (first | (with_reducible first | exact HB.out | apply below_alloc | apply pw_below_drewN | apply below_drew1 | refine below_set ?_ GE187.out) | exact HB.out)) hb); clear HO_7; clear BK187; clear HB; have HO_7 := n0_; have BK187 := n1_; have HB := n2_; clear n0_ n1_ n2_; (try clear hb); (try clear hb2); (try clear hk); (try clear hi); have hcz51_0 : w50.cell? ⟨gb187, 0, none⟩ = some (.int .i64 ((rd_T51 t179 x9_2).f0)) := (blk_cell BK187.out 0).trans rfl; have hcz51_1 : w50.cell? ⟨gb187, 1, none⟩ = some (.int .i64 ((rd_T51 t179 x9_2).f1)) := (blk_cell BK187.out 1).trans rfl; have hcz51_2 : w50.cell? ⟨gb187, 2, none⟩ = some (.int .i64 ((rd_T51 t179 x9_2).f2)) := (blk_cell BK187.out 2).trans rfl; have hcz51_3 : w50.cell? ⟨gb187, 3, none⟩ = some (.int .i64 ((rd_T51 t179 x9_2).f3)) := (blk_cell BK187.out 3).trans rfl; have hcz51_4 : w50.cell? ⟨gb187, 4, none⟩ = some (.int .i64 ((rd_T51 t179 x9_2).f4)) := (blk_cell BK187.out 4).trans rfl; have hfz51_0 := blk_frozen BK187.out 0; have hfz51_1 := blk_frozen BK187.out 1; have hfz51_2 := blk_frozen BK187.out 2; have hfz51_3 := blk_frozen BK187.out 3; have hfz51_4 := blk_frozen BK187.out 4) | (go_at_call 40; (with_reducible refine (spliceref03_Kind.calls ((rd_T51 t179 x9_2).f0) ((rd_T51 t179 x9_2).f1) ((rd_T51 t179 x9_2).f2) ((rd_T51 t179 x9_2).f3) ((rd_T51 t179 x9_2).f4) t190 _ A46.out).mono ?_); rintro e w52 ⟨rfl, hb⟩; have n0_ := Aside0.mk (Kd.R_below (by (with_reducible repeat (first | apply Kd.R_alloc | apply Kd.R_drewN | apply Kd.R_drew)); exact HO_7.out) hb); have n1_ := Aside0.mk (blk_below (g := gb187) (o := .cells #[.int .i64 ((rd_T51 t179 x9_2).f0), .int .i64 ((rd_T51 t179 x9_2).f1), .int .i64 ((rd_T51 t179 x9_2).f2), .int .i64 ((rd_T51 t179 x9_2).f3), .int .i64 ((rd_T51 t179 x9_2).f4)] 51 (0, 0)) (by (with_reducible repeat (first | refine blk_drewN ?_ _ | refine blk_drew ?_ | refine blk_alloc ?_ _)); exact BK187.out) hb); have n2_ := Aside0.mk (below_step (by repeat (first | (with_reducible first | exact HB.out | apply below_alloc | apply pw_below_drewN | apply below_drew1 | refine below_set ?_ GE187.out) | exact HB.out)) hb); clear HO_7; clear BK187; clear HB; have HO_7 := n0_; have BK187 := n1_; have HB := n2_; clear n0_ n1_ n2_; (try clear hb); (try clear hb2); (try clear hk); (try clear hi); have hcz53_0 : w52.cell? ⟨gb187, 0, none⟩ = some (.int .i64 ((rd_T51 t179 x9_2).f0)) := (blk_cell BK187.out 0).trans rfl; have hcz53_1 : w52.cell? ⟨gb187, 1, none⟩ = some (.int .i64 ((rd_T51 t179 x9_2).f1)) := (blk_cell BK187.out 1).trans rfl; have hcz53_2 : w52.cell? ⟨gb187, 2, none⟩ = some (.int .i64 ((rd_T51 t179 x9_2).f2)) := (blk_cell BK187.out 2).trans rfl; have hcz53_3 : w52.cell? ⟨gb187, 3, none⟩ = some (.int .i64 ((rd_T51 t179 x9_2).f3)) := (blk_cell BK187.out 3).trans rfl; have hcz53_4 : w52.cell? ⟨gb187, 4, none⟩ = some (.int .i64 ((rd_T51 t179 x9_2).f4)) := (blk_cell BK187.out 4).trans rfl; have hfz53_0 := blk_frozen BK187.out 0; have hfz53_1 := blk_frozen BK187.out 1; have hfz53_2 := blk_frozen BK187.out 2; have hfz53_3 := blk_frozen BK187.out 3; have hfz53_4 := blk_frozen BK187.out 4))
                              go_meet
                              case rel => exact ⟨_, ((((rd_T51 t179 x9_2).f2) != 0)), (by first | rfl | (simp; done) | (simp [*]; done)), H', ⟨by have := HJ4.out; have := HK2.out; first | omega | exact Nat.le_refl _⟩, ⟨by (with_reducible repeat (first | apply Kd.R_alloc | apply Kd.R_drewN | apply Kd.R_drew)); exact Kd.R_mono HO_7.out (fun _ hk => hk.2)⟩, ⟨by (with_reducible repeat (first | refine blk_drewN ?_ _ | refine blk_drew ?_ | refine blk_alloc ?_ _)); exact BK187.out⟩, ⟨by repeat (first | (with_reducible first | exact HB.out | apply below_alloc | apply pw_below_drewN | apply below_drew1 | refine below_set ?_ GE187.out) | exact HB.out)⟩⟩
                            · rw [if_neg c48] at H
                              have c48b0 : (x9_2 == 0) = false := beq_eq_false_iff_ne.mpr c48
                              have c48b1 : (x9_2 != 0) = true := bne_iff_ne.mpr c48
                              have H' := Aside0.mk H
                              clear H
                              have hcz54_0 : w23.cell? ⟨gb187, 0, none⟩ = some (.int .i64 0) := (blk_cell BK187.out 0).trans rfl
                              have hcz54_1 : w23.cell? ⟨gb187, 1, none⟩ = some (.int .i64 0) := (blk_cell BK187.out 1).trans rfl
                              have hcz54_2 : w23.cell? ⟨gb187, 2, none⟩ = some (.int .i64 0) := (blk_cell BK187.out 2).trans rfl
                              have hcz54_3 : w23.cell? ⟨gb187, 3, none⟩ = some (.int .i64 0) := (blk_cell BK187.out 3).trans rfl
                              have hcz54_4 : w23.cell? ⟨gb187, 4, none⟩ = some (.int .i64 0) := (blk_cell BK187.out 4).trans rfl
                              have hfz54_0 := blk_frozen BK187.out 0
                              have hfz54_1 := blk_frozen BK187.out 1
                              have hfz54_2 := blk_frozen BK187.out 2
                              have hfz54_3 := blk_frozen BK187.out 3
                              have hfz54_4 := blk_frozen BK187.out 4
                              go_wp2_with (first | ((with_reducible refine gate_callee (f := 39) rfl ?_); refine goesL_ (some 44) rfl rfl Try.func39 (by kernel_rfl) rfl #[.agg #[.int .i64 ((rd_T51 t179 x9_2).f0), .int .i64 ((rd_T51 t179 x9_2).f1), .int .i64 ((rd_T51 t179 x9_2).f2), .int .i64 ((rd_T51 t179 x9_2).f3), .int .i64 ((rd_T51 t179 x9_2).f4)]] rfl (by (try simp only [List.map_toArray, List.map_cons, List.map_nil]); first | done | rfl | (simp only [List.length_drop, List.length_take]; rfl)) ?_; (with_reducible refine (spliceref02_Right.calls ((rd_T51 t179 x9_2).f0) ((rd_T51 t179 x9_2).f1) ((rd_T51 t179 x9_2).f2) ((rd_T51 t179 x9_2).f3) ((rd_T51 t179 x9_2).f4) true _ A25.out).mono ?_); rintro e w55 ⟨rfl, hb⟩; refine ⟨_, rfl, ?_⟩; have n0_ := Aside0.mk (Kd.R_below (by (with_reducible repeat (first | apply Kd.R_alloc | apply Kd.R_drewN | apply Kd.R_drew)); exact (Kd.R_mono (Kd.R_far (p := ⟨gb187, 4, none⟩) (Kd.R_far (p := ⟨gb187, 3, none⟩) (Kd.R_far (p := ⟨gb187, 2, none⟩) (Kd.R_far (p := ⟨gb187, 1, none⟩) (Kd.R_far (p := ⟨gb187, 0, none⟩) (Kd.R_mono HO_7.out (fun k_ hk => (⟨hk, hk.2⟩ : _ ∧ k_ ≠ gb187))) (fun _ hk => hk.2) (.int .i64 ((rd_T51 t179 x9_2).f0))) (fun _ hk => hk.2) (.int .i64 ((rd_T51 t179 x9_2).f1))) (fun _ hk => hk.2) (.int .i64 ((rd_T51 t179 x9_2).f2))) (fun _ hk => hk.2) (.int .i64 ((rd_T51 t179 x9_2).f3))) (fun _ hk => hk.2) (.int .i64 ((rd_T51 t179 x9_2).f4))) (fun _ h_ => h_.1))) hb); have n1_ := Aside0.mk (blk_below (g := gb187) (o := .cells #[.int .i64 ((rd_T51 t179 x9_2).f0), .int .i64 ((rd_T51 t179 x9_2).f1), .int .i64 ((rd_T51 t179 x9_2).f2), .int .i64 ((rd_T51 t179 x9_2).f3), .int .i64 ((rd_T51 t179 x9_2).f4)] 51 (0, 0)) (by (with_reducible repeat (first | refine blk_drewN ?_ _ | refine blk_drew ?_ | refine blk_alloc ?_ _)); refine blk_put (cs := #[.int .i64 ((rd_T51 t179 x9_2).f0), .int .i64 ((rd_T51 t179 x9_2).f1), .int .i64 ((rd_T51 t179 x9_2).f2), .int .i64 ((rd_T51 t179 x9_2).f3), .int .i64 0]) ?_ 4 _ rfl; (with_reducible repeat (first | refine blk_drewN ?_ _ | refine blk_drew ?_ | refine blk_alloc ?_ _)); refine blk_put (cs := #[.int .i64 ((rd_T51 t179 x9_2).f0), .int .i64 ((rd_T51 t179 x9_2).f1), .int .i64 ((rd_T51 t179 x9_2).f2), .int .i64 0, .int .i64 0]) ?_ 3 _ rfl; (with_reducible repeat (first | refine blk_drewN ?_ _ | refine blk_drew ?_ | refine blk_alloc ?_ _)); refine blk_put (cs := #[.int .i64 ((rd_T51 t179 x9_2).f0), .int .i64 ((rd_T51 t179 x9_2).f1), .int .i64 0, .int .i64 0, .int .i64 0]) ?_ 2 _ rfl; (with_reducible repeat (first | refine blk_drewN ?_ _ | refine blk_drew ?_ | refine blk_alloc ?_ _)); refine blk_put (cs := #[.int .i64 ((rd_T51 t179 x9_2).f0), .int .i64 0, .int .i64 0, .int .i64 0, .int .i64 0]) ?_ 1 _ rfl; (with_reducible repeat (first | refine blk_drewN ?_ _ | refine blk_drew ?_ | refine blk_alloc ?_ _)); refine blk_put (cs := #[.int .i64 0, .int .i64 0, .int .i64 0, .int .i64 0, .int .i64 0]) ?_ 0 _ rfl; (with_reducible repeat (first | refine blk_drewN ?_ _ | refine blk_drew ?_ | refine blk_alloc ?_ _)); exact BK187.out) hb); have n2_ := Aside0.mk (below_step (by repeat (first | (with_reducible first | exact HB.out | apply below_alloc | apply pw_below_drewN | apply below_drew1 | refine below_set ?_ GE187.out) | exact HB.out)) hb); clear HO_7; clear BK187; clear HB; have HO_7 := n0_; have BK187 := n1_; have HB := n2_; clear n0_ n1_ n2_; (try clear hb); (try clear hb2); (try clear hk); (try clear hi); have hcz56_0 : w55.cell? ⟨gb187, 0, none⟩ = some (.int .i64 ((rd_T51 t179 x9_2).f0)) := (blk_cell BK187.out 0).trans rfl; have hcz56_1 : w55.cell? ⟨gb187, 1, none⟩ = some (.int .i64 ((rd_T51 t179 x9_2).f1)) := (blk_cell BK187.out 1).trans rfl; have hcz56_2 : w55.cell? ⟨gb187, 2, none⟩ = some (.int .i64 ((rd_T51 t179 x9_2).f2)) := (blk_cell BK187.out 2).trans rfl; have hcz56_3 : w55.cell? ⟨gb187, 3, none⟩ = some (.int .i64 ((rd_T51 t179 x9_2).f3)) := (blk_cell BK187.out 3).trans rfl; have hcz56_4 : w55.cell? ⟨gb187, 4, none⟩ = some (.int .i64 ((rd_T51 t179 x9_2).f4)) := (blk_cell BK187.out 4).trans rfl; have hfz56_0 := blk_frozen BK187.out 0; have hfz56_1 := blk_frozen BK187.out 1; have hfz56_2 := blk_frozen BK187.out 2; have hfz56_3 := blk_frozen BK187.out 3; have hfz56_4 := blk_frozen BK187.out 4) | (go_at_call 40; (with_reducible refine (spliceref03_Kind.calls ((rd_T51 t179 x9_2).f0) ((rd_T51 t179 x9_2).f1) ((rd_T51 t179 x9_2).f2) ((rd_T51 t179 x9_2).f3) ((rd_T51 t179 x9_2).f4) t190 _ A46.out).mono ?_); rintro e w57 ⟨rfl, hb⟩; have n0_ := Aside0.mk (Kd.R_below (by (with_reducible repeat (first | apply Kd.R_alloc | apply Kd.R_drewN | apply Kd.R_drew)); exact HO_7.out) hb); have n1_ := Aside0.mk (blk_below (g := gb187) (o := .cells #[.int .i64 ((rd_T51 t179 x9_2).f0), .int .i64 ((rd_T51 t179 x9_2).f1), .int .i64 ((rd_T51 t179 x9_2).f2), .int .i64 ((rd_T51 t179 x9_2).f3), .int .i64 ((rd_T51 t179 x9_2).f4)] 51 (0, 0)) (by (with_reducible repeat (first | refine blk_drewN ?_ _ | refine blk_drew ?_ | refine blk_alloc ?_ _)); exact BK187.out) hb); have n2_ := Aside0.mk (below_step (by repeat (first | (with_reducible first | exact HB.out | apply below_alloc | apply pw_below_drewN | apply below_drew1 | refine below_set ?_ GE187.out) | exact HB.out)) hb); clear HO_7; clear BK187; clear HB; have HO_7 := n0_; have BK187 := n1_; have HB := n2_; clear n0_ n1_ n2_; (try clear hb); (try clear hb2); (try clear hk); (try clear hi)))
                              go_meet
                              case rel => exact ⟨_, (false), (by first | rfl | (simp; done) | (simp [*]; done)), H', ⟨by have := HJ4.out; have := HK2.out; first | omega | exact Nat.le_refl _⟩, ⟨by (with_reducible repeat (first | apply Kd.R_alloc | apply Kd.R_drewN | apply Kd.R_drew)); exact Kd.R_mono HO_7.out (fun _ hk => hk.2)⟩, ⟨by (with_reducible repeat (first | refine blk_drewN ?_ _ | refine blk_drew ?_ | refine blk_alloc ?_ _)); exact BK187.out⟩, ⟨by repeat (first | (with_reducible first | exact HB.out | apply below_alloc | apply pw_below_drewN | apply below_drew1 | refine below_set ?_ GE187.out) | exact HB.out)⟩⟩
                          · rw [if_neg c47] at H
                            have c47b0 : (t190 == 0) = false := beq_eq_false_iff_ne.mpr c47
                            have c47b1 : (t190 != 0) = true := bne_iff_ne.mpr c47
                            have H' := Aside0.mk H
                            clear H
                            have hcz58_0 : w23.cell? ⟨gb187, 0, none⟩ = some (.int .i64 0) := (blk_cell BK187.out 0).trans rfl
                            have hcz58_1 : w23.cell? ⟨gb187, 1, none⟩ = some (.int .i64 0) := (blk_cell BK187.out 1).trans rfl
                            have hcz58_2 : w23.cell? ⟨gb187, 2, none⟩ = some (.int .i64 0) := (blk_cell BK187.out 2).trans rfl
                            have hcz58_3 : w23.cell? ⟨gb187, 3, none⟩ = some (.int .i64 0) := (blk_cell BK187.out 3).trans rfl
                            have hcz58_4 : w23.cell? ⟨gb187, 4, none⟩ = some (.int .i64 0) := (blk_cell BK187.out 4).trans rfl
                            have hfz58_0 := blk_frozen BK187.out 0
                            have hfz58_1 := blk_frozen BK187.out 1
                            have hfz58_2 := blk_frozen BK187.out 2
                            have hfz58_3 := blk_frozen BK187.out 3
                            have hfz58_4 := blk_frozen BK187.out 4
                            go_wp2_with (first | ((with_reducible refine gate_callee (f := 39) rfl ?_); refine goesL_ (some 44) rfl rfl Try.func39 (by kernel_rfl) rfl #[.agg #[.int .i64 ((rd_T51 t179 x9_2).f0), .int .i64 ((rd_T51 t179 x9_2).f1), .int .i64 ((rd_T51 t179 x9_2).f2), .int .i64 ((rd_T51 t179 x9_2).f3), .int .i64 ((rd_T51 t179 x9_2).f4)]] rfl (by (try simp only [List.map_toArray, List.map_cons, List.map_nil]); first | done | rfl | (simp only [List.length_drop, List.length_take]; rfl)) ?_; (with_reducible refine (spliceref02_Right.calls ((rd_T51 t179 x9_2).f0) ((rd_T51 t179 x9_2).f1) ((rd_T51 t179 x9_2).f2) ((rd_T51 t179 x9_2).f3) ((rd_T51 t179 x9_2).f4) true _ A25.out).mono ?_); rintro e w59 ⟨rfl, hb⟩; refine ⟨_, rfl, ?_⟩; have n0_ := Aside0.mk (Kd.R_below (by (with_reducible repeat (first | apply Kd.R_alloc | apply Kd.R_drewN | apply Kd.R_drew)); exact (Kd.R_mono (Kd.R_far (p := ⟨gb187, 4, none⟩) (Kd.R_far (p := ⟨gb187, 3, none⟩) (Kd.R_far (p := ⟨gb187, 2, none⟩) (Kd.R_far (p := ⟨gb187, 1, none⟩) (Kd.R_far (p := ⟨gb187, 0, none⟩) (Kd.R_mono HO_7.out (fun k_ hk => (⟨hk, hk.2⟩ : _ ∧ k_ ≠ gb187))) (fun _ hk => hk.2) (.int .i64 ((rd_T51 t179 x9_2).f0))) (fun _ hk => hk.2) (.int .i64 ((rd_T51 t179 x9_2).f1))) (fun _ hk => hk.2) (.int .i64 ((rd_T51 t179 x9_2).f2))) (fun _ hk => hk.2) (.int .i64 ((rd_T51 t179 x9_2).f3))) (fun _ hk => hk.2) (.int .i64 ((rd_T51 t179 x9_2).f4))) (fun _ h_ => h_.1))) hb); have n1_ := Aside0.mk (blk_below (g := gb187) (o := .cells #[.int .i64 ((rd_T51 t179 x9_2).f0), .int .i64 ((rd_T51 t179 x9_2).f1), .int .i64 ((rd_T51 t179 x9_2).f2), .int .i64 ((rd_T51 t179 x9_2).f3), .int .i64 ((rd_T51 t179 x9_2).f4)] 51 (0, 0)) (by (with_reducible repeat (first | refine blk_drewN ?_ _ | refine blk_drew ?_ | refine blk_alloc ?_ _)); refine blk_put (cs := #[.int .i64 ((rd_T51 t179 x9_2).f0), .int .i64 ((rd_T51 t179 x9_2).f1), .int .i64 ((rd_T51 t179 x9_2).f2), .int .i64 ((rd_T51 t179 x9_2).f3), .int .i64 0]) ?_ 4 _ rfl; (with_reducible repeat (first | refine blk_drewN ?_ _ | refine blk_drew ?_ | refine blk_alloc ?_ _)); refine blk_put (cs := #[.int .i64 ((rd_T51 t179 x9_2).f0), .int .i64 ((rd_T51 t179 x9_2).f1), .int .i64 ((rd_T51 t179 x9_2).f2), .int .i64 0, .int .i64 0]) ?_ 3 _ rfl; (with_reducible repeat (first | refine blk_drewN ?_ _ | refine blk_drew ?_ | refine blk_alloc ?_ _)); refine blk_put (cs := #[.int .i64 ((rd_T51 t179 x9_2).f0), .int .i64 ((rd_T51 t179 x9_2).f1), .int .i64 0, .int .i64 0, .int .i64 0]) ?_ 2 _ rfl; (with_reducible repeat (first | refine blk_drewN ?_ _ | refine blk_drew ?_ | refine blk_alloc ?_ _)); refine blk_put (cs := #[.int .i64 ((rd_T51 t179 x9_2).f0), .int .i64 0, .int .i64 0, .int .i64 0, .int .i64 0]) ?_ 1 _ rfl; (with_reducible repeat (first | refine blk_drewN ?_ _ | refine blk_drew ?_ | refine blk_alloc ?_ _)); refine blk_put (cs := #[.int .i64 0, .int .i64 0, .int .i64 0, .int .i64 0, .int .i64 0]) ?_ 0 _ rfl; (with_reducible repeat (first | refine blk_drewN ?_ _ | refine blk_drew ?_ | refine blk_alloc ?_ _)); exact BK187.out) hb); have n2_ := Aside0.mk (below_step (by repeat (first | (with_reducible first | exact HB.out | apply below_alloc | apply pw_below_drewN | apply below_drew1 | refine below_set ?_ GE187.out) | exact HB.out)) hb); clear HO_7; clear BK187; clear HB; have HO_7 := n0_; have BK187 := n1_; have HB := n2_; clear n0_ n1_ n2_; (try clear hb); (try clear hb2); (try clear hk); (try clear hi); have hcz60_0 : w59.cell? ⟨gb187, 0, none⟩ = some (.int .i64 ((rd_T51 t179 x9_2).f0)) := (blk_cell BK187.out 0).trans rfl; have hcz60_1 : w59.cell? ⟨gb187, 1, none⟩ = some (.int .i64 ((rd_T51 t179 x9_2).f1)) := (blk_cell BK187.out 1).trans rfl; have hcz60_2 : w59.cell? ⟨gb187, 2, none⟩ = some (.int .i64 ((rd_T51 t179 x9_2).f2)) := (blk_cell BK187.out 2).trans rfl; have hcz60_3 : w59.cell? ⟨gb187, 3, none⟩ = some (.int .i64 ((rd_T51 t179 x9_2).f3)) := (blk_cell BK187.out 3).trans rfl; have hcz60_4 : w59.cell? ⟨gb187, 4, none⟩ = some (.int .i64 ((rd_T51 t179 x9_2).f4)) := (blk_cell BK187.out 4).trans rfl; have hfz60_0 := blk_frozen BK187.out 0; have hfz60_1 := blk_frozen BK187.out 1; have hfz60_2 := blk_frozen BK187.out 2; have hfz60_3 := blk_frozen BK187.out 3; have hfz60_4 := blk_frozen BK187.out 4) | (go_at_call 40; (with_reducible refine (spliceref03_Kind.calls ((rd_T51 t179 x9_2).f0) ((rd_T51 t179 x9_2).f1) ((rd_T51 t179 x9_2).f2) ((rd_T51 t179 x9_2).f3) ((rd_T51 t179 x9_2).f4) t190 _ A46.out).mono ?_); rintro e w61 ⟨rfl, hb⟩; have n0_ := Aside0.mk (Kd.R_below (by (with_reducible repeat (first | apply Kd.R_alloc | apply Kd.R_drewN | apply Kd.R_drew)); exact HO_7.out) hb); have n1_ := Aside0.mk (blk_below (g := gb187) (o := .cells #[.int .i64 ((rd_T51 t179 x9_2).f0), .int .i64 ((rd_T51 t179 x9_2).f1), .int .i64 ((rd_T51 t179 x9_2).f2), .int .i64 ((rd_T51 t179 x9_2).f3), .int .i64 ((rd_T51 t179 x9_2).f4)] 51 (0, 0)) (by (with_reducible repeat (first | refine blk_drewN ?_ _ | refine blk_drew ?_ | refine blk_alloc ?_ _)); exact BK187.out) hb); have n2_ := Aside0.mk (below_step (by repeat (first | (with_reducible first | exact HB.out | apply below_alloc | apply pw_below_drewN | apply below_drew1 | refine below_set ?_ GE187.out) | exact HB.out)) hb); clear HO_7; clear BK187; clear HB; have HO_7 := n0_; have BK187 := n1_; have HB := n2_; clear n0_ n1_ n2_; (try clear hb); (try clear hb2); (try clear hk); (try clear hi)))
                            go_meet
                            case rel => exact ⟨_, (true), (by first | rfl | (simp; done) | (simp [*]; done)), H', ⟨by have := HJ4.out; have := HK2.out; first | omega | exact Nat.le_refl _⟩, ⟨by (with_reducible repeat (first | apply Kd.R_alloc | apply Kd.R_drewN | apply Kd.R_drew)); exact Kd.R_mono HO_7.out (fun _ hk => hk.2)⟩, ⟨by (with_reducible repeat (first | refine blk_drewN ?_ _ | refine blk_drew ?_ | refine blk_alloc ?_ _)); exact BK187.out⟩, ⟨by repeat (first | (with_reducible first | exact HB.out | apply below_alloc | apply pw_below_drewN | apply below_drew1 | refine below_set ?_ GE187.out) | exact HB.out)⟩⟩
                        · rw [if_neg c45] at H
                          have c45b0 : (((rd_T51 t179 x9_2).f2) == a0) = false := beq_eq_false_iff_ne.mpr c45
                          have c45b1 : (((rd_T51 t179 x9_2).f2) != a0) = true := bne_iff_ne.mpr c45
                          have H' := Aside0.mk H
                          clear H
                          have hcz62_0 : w23.cell? ⟨gb187, 0, none⟩ = some (.int .i64 0) := (blk_cell BK187.out 0).trans rfl
                          have hcz62_1 : w23.cell? ⟨gb187, 1, none⟩ = some (.int .i64 0) := (blk_cell BK187.out 1).trans rfl
                          have hcz62_2 : w23.cell? ⟨gb187, 2, none⟩ = some (.int .i64 0) := (blk_cell BK187.out 2).trans rfl
                          have hcz62_3 : w23.cell? ⟨gb187, 3, none⟩ = some (.int .i64 0) := (blk_cell BK187.out 3).trans rfl
                          have hcz62_4 : w23.cell? ⟨gb187, 4, none⟩ = some (.int .i64 0) := (blk_cell BK187.out 4).trans rfl
                          have hfz62_0 := blk_frozen BK187.out 0
                          have hfz62_1 := blk_frozen BK187.out 1
                          have hfz62_2 := blk_frozen BK187.out 2
                          have hfz62_3 := blk_frozen BK187.out 3
                          have hfz62_4 := blk_frozen BK187.out 4
                          go_wp2_with (first | ((with_reducible refine gate_callee (f := 39) rfl ?_); refine goesL_ (some 44) rfl rfl Try.func39 (by kernel_rfl) rfl #[.agg #[.int .i64 ((rd_T51 t179 x9_2).f0), .int .i64 ((rd_T51 t179 x9_2).f1), .int .i64 ((rd_T51 t179 x9_2).f2), .int .i64 ((rd_T51 t179 x9_2).f3), .int .i64 ((rd_T51 t179 x9_2).f4)]] rfl (by (try simp only [List.map_toArray, List.map_cons, List.map_nil]); first | done | rfl | (simp only [List.length_drop, List.length_take]; rfl)) ?_; (with_reducible refine (spliceref02_Right.calls ((rd_T51 t179 x9_2).f0) ((rd_T51 t179 x9_2).f1) ((rd_T51 t179 x9_2).f2) ((rd_T51 t179 x9_2).f3) ((rd_T51 t179 x9_2).f4) true _ A25.out).mono ?_); rintro e w63 ⟨rfl, hb⟩; refine ⟨_, rfl, ?_⟩; have n0_ := Aside0.mk (Kd.R_below (by (with_reducible repeat (first | apply Kd.R_alloc | apply Kd.R_drewN | apply Kd.R_drew)); exact (Kd.R_mono (Kd.R_far (p := ⟨gb187, 4, none⟩) (Kd.R_far (p := ⟨gb187, 3, none⟩) (Kd.R_far (p := ⟨gb187, 2, none⟩) (Kd.R_far (p := ⟨gb187, 1, none⟩) (Kd.R_far (p := ⟨gb187, 0, none⟩) (Kd.R_mono HO_7.out (fun k_ hk => (⟨hk, hk.2⟩ : _ ∧ k_ ≠ gb187))) (fun _ hk => hk.2) (.int .i64 ((rd_T51 t179 x9_2).f0))) (fun _ hk => hk.2) (.int .i64 ((rd_T51 t179 x9_2).f1))) (fun _ hk => hk.2) (.int .i64 ((rd_T51 t179 x9_2).f2))) (fun _ hk => hk.2) (.int .i64 ((rd_T51 t179 x9_2).f3))) (fun _ hk => hk.2) (.int .i64 ((rd_T51 t179 x9_2).f4))) (fun _ h_ => h_.1))) hb); have n1_ := Aside0.mk (blk_below (g := gb187) (o := .cells #[.int .i64 ((rd_T51 t179 x9_2).f0), .int .i64 ((rd_T51 t179 x9_2).f1), .int .i64 ((rd_T51 t179 x9_2).f2), .int .i64 ((rd_T51 t179 x9_2).f3), .int .i64 ((rd_T51 t179 x9_2).f4)] 51 (0, 0)) (by (with_reducible repeat (first | refine blk_drewN ?_ _ | refine blk_drew ?_ | refine blk_alloc ?_ _)); refine blk_put (cs := #[.int .i64 ((rd_T51 t179 x9_2).f0), .int .i64 ((rd_T51 t179 x9_2).f1), .int .i64 ((rd_T51 t179 x9_2).f2), .int .i64 ((rd_T51 t179 x9_2).f3), .int .i64 0]) ?_ 4 _ rfl; (with_reducible repeat (first | refine blk_drewN ?_ _ | refine blk_drew ?_ | refine blk_alloc ?_ _)); refine blk_put (cs := #[.int .i64 ((rd_T51 t179 x9_2).f0), .int .i64 ((rd_T51 t179 x9_2).f1), .int .i64 ((rd_T51 t179 x9_2).f2), .int .i64 0, .int .i64 0]) ?_ 3 _ rfl; (with_reducible repeat (first | refine blk_drewN ?_ _ | refine blk_drew ?_ | refine blk_alloc ?_ _)); refine blk_put (cs := #[.int .i64 ((rd_T51 t179 x9_2).f0), .int .i64 ((rd_T51 t179 x9_2).f1), .int .i64 0, .int .i64 0, .int .i64 0]) ?_ 2 _ rfl; (with_reducible repeat (first | refine blk_drewN ?_ _ | refine blk_drew ?_ | refine blk_alloc ?_ _)); refine blk_put (cs := #[.int .i64 ((rd_T51 t179 x9_2).f0), .int .i64 0, .int .i64 0, .int .i64 0, .int .i64 0]) ?_ 1 _ rfl; (with_reducible repeat (first | refine blk_drewN ?_ _ | refine blk_drew ?_ | refine blk_alloc ?_ _)); refine blk_put (cs := #[.int .i64 0, .int .i64 0, .int .i64 0, .int .i64 0, .int .i64 0]) ?_ 0 _ rfl; (with_reducible repeat (first | refine blk_drewN ?_ _ | refine blk_drew ?_ | refine blk_alloc ?_ _)); exact BK187.out) hb); have n2_ := Aside0.mk (below_step (by repeat (first | (with_reducible first | exact HB.out | apply below_alloc | apply pw_below_drewN | apply below_drew1 | refine below_set ?_ GE187.out) | exact HB.out)) hb); clear HO_7; clear BK187; clear HB; have HO_7 := n0_; have BK187 := n1_; have HB := n2_; clear n0_ n1_ n2_; (try clear hb); (try clear hb2); (try clear hk); (try clear hi); have hcz64_0 : w63.cell? ⟨gb187, 0, none⟩ = some (.int .i64 ((rd_T51 t179 x9_2).f0)) := (blk_cell BK187.out 0).trans rfl; have hcz64_1 : w63.cell? ⟨gb187, 1, none⟩ = some (.int .i64 ((rd_T51 t179 x9_2).f1)) := (blk_cell BK187.out 1).trans rfl; have hcz64_2 : w63.cell? ⟨gb187, 2, none⟩ = some (.int .i64 ((rd_T51 t179 x9_2).f2)) := (blk_cell BK187.out 2).trans rfl; have hcz64_3 : w63.cell? ⟨gb187, 3, none⟩ = some (.int .i64 ((rd_T51 t179 x9_2).f3)) := (blk_cell BK187.out 3).trans rfl; have hcz64_4 : w63.cell? ⟨gb187, 4, none⟩ = some (.int .i64 ((rd_T51 t179 x9_2).f4)) := (blk_cell BK187.out 4).trans rfl; have hfz64_0 := blk_frozen BK187.out 0; have hfz64_1 := blk_frozen BK187.out 1; have hfz64_2 := blk_frozen BK187.out 2; have hfz64_3 := blk_frozen BK187.out 3; have hfz64_4 := blk_frozen BK187.out 4))
                          go_meet
                          case rel => exact ⟨_, (true), (by first | rfl | (simp; done) | (simp [*]; done)), H', ⟨by have := HJ4.out; have := HK2.out; first | omega | exact Nat.le_refl _⟩, ⟨by (with_reducible repeat (first | apply Kd.R_alloc | apply Kd.R_drewN | apply Kd.R_drew)); exact Kd.R_mono HO_7.out (fun _ hk => hk.2)⟩, ⟨by (with_reducible repeat (first | refine blk_drewN ?_ _ | refine blk_drew ?_ | refine blk_alloc ?_ _)); exact BK187.out⟩, ⟨by repeat (first | (with_reducible first | exact HB.out | apply below_alloc | apply pw_below_drewN | apply below_drew1 | refine below_set ?_ GE187.out) | exact HB.out)⟩⟩
                    · rw [if_neg c27] at H
                      have c27b0 : (((rd_T51 t179 x9_2).f1) == a0) = false := beq_eq_false_iff_ne.mpr c27
                      have c27b1 : (((rd_T51 t179 x9_2).f1) != a0) = true := bne_iff_ne.mpr c27
                      (first | rw [c27b0] | (simp only [i64_w, i32_w]; rw [c27b0]) | skip)
                      have H' := Aside0.mk H
                      clear H
                      have hcz65_0 : w23.cell? ⟨gb187, 0, none⟩ = some (.int .i64 0) := (blk_cell BK187.out 0).trans rfl
                      have hcz65_1 : w23.cell? ⟨gb187, 1, none⟩ = some (.int .i64 0) := (blk_cell BK187.out 1).trans rfl
                      have hcz65_2 : w23.cell? ⟨gb187, 2, none⟩ = some (.int .i64 0) := (blk_cell BK187.out 2).trans rfl
                      have hcz65_3 : w23.cell? ⟨gb187, 3, none⟩ = some (.int .i64 0) := (blk_cell BK187.out 3).trans rfl
                      have hcz65_4 : w23.cell? ⟨gb187, 4, none⟩ = some (.int .i64 0) := (blk_cell BK187.out 4).trans rfl
                      have hfz65_0 := blk_frozen BK187.out 0
                      have hfz65_1 := blk_frozen BK187.out 1
                      have hfz65_2 := blk_frozen BK187.out 2
                      have hfz65_3 := blk_frozen BK187.out 3
                      have hfz65_4 := blk_frozen BK187.out 4
                      go_wp2_with (first | ((with_reducible refine gate_callee (f := 39) rfl ?_); refine goesL_ (some 44) rfl rfl Try.func39 (by kernel_rfl) rfl #[.agg #[.int .i64 ((rd_T51 t179 x9_2).f0), .int .i64 ((rd_T51 t179 x9_2).f1), .int .i64 ((rd_T51 t179 x9_2).f2), .int .i64 ((rd_T51 t179 x9_2).f3), .int .i64 ((rd_T51 t179 x9_2).f4)]] rfl (by (try simp only [List.map_toArray, List.map_cons, List.map_nil]); first | done | rfl | (simp only [List.length_drop, List.length_take]; rfl)) ?_; (with_reducible refine (spliceref02_Right.calls ((rd_T51 t179 x9_2).f0) ((rd_T51 t179 x9_2).f1) ((rd_T51 t179 x9_2).f2) ((rd_T51 t179 x9_2).f3) ((rd_T51 t179 x9_2).f4) true _ A25.out).mono ?_); rintro e w66 ⟨rfl, hb⟩; refine ⟨_, rfl, ?_⟩; have n0_ := Aside0.mk (Kd.R_below (by (with_reducible repeat (first | apply Kd.R_alloc | apply Kd.R_drewN | apply Kd.R_drew)); exact (Kd.R_mono (Kd.R_far (p := ⟨gb187, 4, none⟩) (Kd.R_far (p := ⟨gb187, 3, none⟩) (Kd.R_far (p := ⟨gb187, 2, none⟩) (Kd.R_far (p := ⟨gb187, 1, none⟩) (Kd.R_far (p := ⟨gb187, 0, none⟩) (Kd.R_mono HO_7.out (fun k_ hk => (⟨hk, hk.2⟩ : _ ∧ k_ ≠ gb187))) (fun _ hk => hk.2) (.int .i64 ((rd_T51 t179 x9_2).f0))) (fun _ hk => hk.2) (.int .i64 ((rd_T51 t179 x9_2).f1))) (fun _ hk => hk.2) (.int .i64 ((rd_T51 t179 x9_2).f2))) (fun _ hk => hk.2) (.int .i64 ((rd_T51 t179 x9_2).f3))) (fun _ hk => hk.2) (.int .i64 ((rd_T51 t179 x9_2).f4))) (fun _ h_ => h_.1))) hb); have n1_ := Aside0.mk (blk_below (g := gb187) (o := .cells #[.int .i64 ((rd_T51 t179 x9_2).f0), .int .i64 ((rd_T51 t179 x9_2).f1), .int .i64 ((rd_T51 t179 x9_2).f2), .int .i64 ((rd_T51 t179 x9_2).f3), .int .i64 ((rd_T51 t179 x9_2).f4)] 51 (0, 0)) (by (with_reducible repeat (first | refine blk_drewN ?_ _ | refine blk_drew ?_ | refine blk_alloc ?_ _)); refine blk_put (cs := #[.int .i64 ((rd_T51 t179 x9_2).f0), .int .i64 ((rd_T51 t179 x9_2).f1), .int .i64 ((rd_T51 t179 x9_2).f2), .int .i64 ((rd_T51 t179 x9_2).f3), .int .i64 0]) ?_ 4 _ rfl; (with_reducible repeat (first | refine blk_drewN ?_ _ | refine blk_drew ?_ | refine blk_alloc ?_ _)); refine blk_put (cs := #[.int .i64 ((rd_T51 t179 x9_2).f0), .int .i64 ((rd_T51 t179 x9_2).f1), .int .i64 ((rd_T51 t179 x9_2).f2), .int .i64 0, .int .i64 0]) ?_ 3 _ rfl; (with_reducible repeat (first | refine blk_drewN ?_ _ | refine blk_drew ?_ | refine blk_alloc ?_ _)); refine blk_put (cs := #[.int .i64 ((rd_T51 t179 x9_2).f0), .int .i64 ((rd_T51 t179 x9_2).f1), .int .i64 0, .int .i64 0, .int .i64 0]) ?_ 2 _ rfl; (with_reducible repeat (first | refine blk_drewN ?_ _ | refine blk_drew ?_ | refine blk_alloc ?_ _)); refine blk_put (cs := #[.int .i64 ((rd_T51 t179 x9_2).f0), .int .i64 0, .int .i64 0, .int .i64 0, .int .i64 0]) ?_ 1 _ rfl; (with_reducible repeat (first | refine blk_drewN ?_ _ | refine blk_drew ?_ | refine blk_alloc ?_ _)); refine blk_put (cs := #[.int .i64 0, .int .i64 0, .int .i64 0, .int .i64 0, .int .i64 0]) ?_ 0 _ rfl; (with_reducible repeat (first | refine blk_drewN ?_ _ | refine blk_drew ?_ | refine blk_alloc ?_ _)); exact BK187.out) hb); have n2_ := Aside0.mk (below_step (by repeat (first | (with_reducible first | exact HB.out | apply below_alloc | apply pw_below_drewN | apply below_drew1 | refine below_set ?_ GE187.out) | exact HB.out)) hb); clear HO_7; clear BK187; clear HB; have HO_7 := n0_; have BK187 := n1_; have HB := n2_; clear n0_ n1_ n2_; (try clear hb); (try clear hb2); (try clear hk); (try clear hi); have hcz67_0 : w66.cell? ⟨gb187, 0, none⟩ = some (.int .i64 ((rd_T51 t179 x9_2).f0)) := (blk_cell BK187.out 0).trans rfl; have hcz67_1 : w66.cell? ⟨gb187, 1, none⟩ = some (.int .i64 ((rd_T51 t179 x9_2).f1)) := (blk_cell BK187.out 1).trans rfl; have hcz67_2 : w66.cell? ⟨gb187, 2, none⟩ = some (.int .i64 ((rd_T51 t179 x9_2).f2)) := (blk_cell BK187.out 2).trans rfl; have hcz67_3 : w66.cell? ⟨gb187, 3, none⟩ = some (.int .i64 ((rd_T51 t179 x9_2).f3)) := (blk_cell BK187.out 3).trans rfl; have hcz67_4 : w66.cell? ⟨gb187, 4, none⟩ = some (.int .i64 ((rd_T51 t179 x9_2).f4)) := (blk_cell BK187.out 4).trans rfl; have hfz67_0 := blk_frozen BK187.out 0; have hfz67_1 := blk_frozen BK187.out 1; have hfz67_2 := blk_frozen BK187.out 2; have hfz67_3 := blk_frozen BK187.out 3; have hfz67_4 := blk_frozen BK187.out 4))
                      go_meet
                      case rel => exact ⟨_, (true), (by first | rfl | (simp; done) | (simp [*]; done)), H', ⟨by have := HJ4.out; have := HK2.out; first | omega | exact Nat.le_refl _⟩, ⟨by (with_reducible repeat (first | apply Kd.R_alloc | apply Kd.R_drewN | apply Kd.R_drew)); exact Kd.R_mono HO_7.out (fun _ hk => hk.2)⟩, ⟨by (with_reducible repeat (first | refine blk_drewN ?_ _ | refine blk_drew ?_ | refine blk_alloc ?_ _)); exact BK187.out⟩, ⟨by repeat (first | (with_reducible first | exact HB.out | apply below_alloc | apply pw_below_drewN | apply below_drew1 | refine below_set ?_ GE187.out) | exact HB.out)⟩⟩
                  · replace c26 := Bool.eq_false_iff.mpr c26
                    subst c26
                    have H1 : (splicelaw04_AluConsts.j2 k2 a0 a1 t179 x8_2 x9_2 true ((rd_T51 t179 x9_2).f0) ((rd_T51 t179 x9_2).f1) ((rd_T51 t179 x9_2).f2) ((rd_T51 t179 x9_2).f3) ((rd_T51 t179 x9_2).f4)) = some r := by rw [if_neg (show ¬ (false = true) by decide)] at H; exact H
                    clear H
                    have H := H1
                    clear H1
                    have H' := Aside0.mk H
                    clear H
                    have hcz68_0 : w23.cell? ⟨gb187, 0, none⟩ = some (.int .i64 0) := (blk_cell BK187.out 0).trans rfl
                    have hcz68_1 : w23.cell? ⟨gb187, 1, none⟩ = some (.int .i64 0) := (blk_cell BK187.out 1).trans rfl
                    have hcz68_2 : w23.cell? ⟨gb187, 2, none⟩ = some (.int .i64 0) := (blk_cell BK187.out 2).trans rfl
                    have hcz68_3 : w23.cell? ⟨gb187, 3, none⟩ = some (.int .i64 0) := (blk_cell BK187.out 3).trans rfl
                    have hcz68_4 : w23.cell? ⟨gb187, 4, none⟩ = some (.int .i64 0) := (blk_cell BK187.out 4).trans rfl
                    have hfz68_0 := blk_frozen BK187.out 0
                    have hfz68_1 := blk_frozen BK187.out 1
                    have hfz68_2 := blk_frozen BK187.out 2
                    have hfz68_3 := blk_frozen BK187.out 3
                    have hfz68_4 := blk_frozen BK187.out 4
                    go_wp2_with (first | ((with_reducible refine gate_callee (f := 39) rfl ?_); refine goesL_ (some 44) rfl rfl Try.func39 (by kernel_rfl) rfl #[.agg #[.int .i64 ((rd_T51 t179 x9_2).f0), .int .i64 ((rd_T51 t179 x9_2).f1), .int .i64 ((rd_T51 t179 x9_2).f2), .int .i64 ((rd_T51 t179 x9_2).f3), .int .i64 ((rd_T51 t179 x9_2).f4)]] rfl (by (try simp only [List.map_toArray, List.map_cons, List.map_nil]); first | done | rfl | (simp only [List.length_drop, List.length_take]; rfl)) ?_; (with_reducible refine (spliceref02_Right.calls ((rd_T51 t179 x9_2).f0) ((rd_T51 t179 x9_2).f1) ((rd_T51 t179 x9_2).f2) ((rd_T51 t179 x9_2).f3) ((rd_T51 t179 x9_2).f4) false _ A25.out).mono ?_); rintro e w69 ⟨rfl, hb⟩; refine ⟨_, rfl, ?_⟩; have n0_ := Aside0.mk (Kd.R_below (by (with_reducible repeat (first | apply Kd.R_alloc | apply Kd.R_drewN | apply Kd.R_drew)); exact (Kd.R_mono (Kd.R_far (p := ⟨gb187, 4, none⟩) (Kd.R_far (p := ⟨gb187, 3, none⟩) (Kd.R_far (p := ⟨gb187, 2, none⟩) (Kd.R_far (p := ⟨gb187, 1, none⟩) (Kd.R_far (p := ⟨gb187, 0, none⟩) (Kd.R_mono HO_7.out (fun k_ hk => (⟨hk, hk.2⟩ : _ ∧ k_ ≠ gb187))) (fun _ hk => hk.2) (.int .i64 ((rd_T51 t179 x9_2).f0))) (fun _ hk => hk.2) (.int .i64 ((rd_T51 t179 x9_2).f1))) (fun _ hk => hk.2) (.int .i64 ((rd_T51 t179 x9_2).f2))) (fun _ hk => hk.2) (.int .i64 ((rd_T51 t179 x9_2).f3))) (fun _ hk => hk.2) (.int .i64 ((rd_T51 t179 x9_2).f4))) (fun _ h_ => h_.1))) hb); have n1_ := Aside0.mk (blk_below (g := gb187) (o := .cells #[.int .i64 ((rd_T51 t179 x9_2).f0), .int .i64 ((rd_T51 t179 x9_2).f1), .int .i64 ((rd_T51 t179 x9_2).f2), .int .i64 ((rd_T51 t179 x9_2).f3), .int .i64 ((rd_T51 t179 x9_2).f4)] 51 (0, 0)) (by (with_reducible repeat (first | refine blk_drewN ?_ _ | refine blk_drew ?_ | refine blk_alloc ?_ _)); refine blk_put (cs := #[.int .i64 ((rd_T51 t179 x9_2).f0), .int .i64 ((rd_T51 t179 x9_2).f1), .int .i64 ((rd_T51 t179 x9_2).f2), .int .i64 ((rd_T51 t179 x9_2).f3), .int .i64 0]) ?_ 4 _ rfl; (with_reducible repeat (first | refine blk_drewN ?_ _ | refine blk_drew ?_ | refine blk_alloc ?_ _)); refine blk_put (cs := #[.int .i64 ((rd_T51 t179 x9_2).f0), .int .i64 ((rd_T51 t179 x9_2).f1), .int .i64 ((rd_T51 t179 x9_2).f2), .int .i64 0, .int .i64 0]) ?_ 3 _ rfl; (with_reducible repeat (first | refine blk_drewN ?_ _ | refine blk_drew ?_ | refine blk_alloc ?_ _)); refine blk_put (cs := #[.int .i64 ((rd_T51 t179 x9_2).f0), .int .i64 ((rd_T51 t179 x9_2).f1), .int .i64 0, .int .i64 0, .int .i64 0]) ?_ 2 _ rfl; (with_reducible repeat (first | refine blk_drewN ?_ _ | refine blk_drew ?_ | refine blk_alloc ?_ _)); refine blk_put (cs := #[.int .i64 ((rd_T51 t179 x9_2).f0), .int .i64 0, .int .i64 0, .int .i64 0, .int .i64 0]) ?_ 1 _ rfl; (with_reducible repeat (first | refine blk_drewN ?_ _ | refine blk_drew ?_ | refine blk_alloc ?_ _)); refine blk_put (cs := #[.int .i64 0, .int .i64 0, .int .i64 0, .int .i64 0, .int .i64 0]) ?_ 0 _ rfl; (with_reducible repeat (first | refine blk_drewN ?_ _ | refine blk_drew ?_ | refine blk_alloc ?_ _)); exact BK187.out) hb); have n2_ := Aside0.mk (below_step (by repeat (first | (with_reducible first | exact HB.out | apply below_alloc | apply pw_below_drewN | apply below_drew1 | refine below_set ?_ GE187.out) | exact HB.out)) hb); clear HO_7; clear BK187; clear HB; have HO_7 := n0_; have BK187 := n1_; have HB := n2_; clear n0_ n1_ n2_; (try clear hb); (try clear hb2); (try clear hk); (try clear hi)))
                    go_meet
                    case rel => exact ⟨_, (true), (by first | rfl | (simp; done) | (simp [*]; done)), H', ⟨by have := HJ4.out; have := HK2.out; first | omega | exact Nat.le_refl _⟩, ⟨by (with_reducible repeat (first | apply Kd.R_alloc | apply Kd.R_drewN | apply Kd.R_drew)); exact Kd.R_mono HO_7.out (fun _ hk => hk.2)⟩, ⟨by (with_reducible repeat (first | refine blk_drewN ?_ _ | refine blk_drew ?_ | refine blk_alloc ?_ _)); exact BK187.out⟩, ⟨by repeat (first | (with_reducible first | exact HB.out | apply below_alloc | apply pw_below_drewN | apply below_drew1 | refine below_set ?_ GE187.out) | exact HB.out)⟩⟩
                case rest =>
                  clear HC21
                  try clear c1
                  try clear p1
                  try clear q1
                  try clear hx1
                  try clear c2
                  try clear p2
                  try clear c3
                  try clear c4
                  try clear c8
                  try clear c9
                  try clear c9b0
                  try clear c13
                  try clear c15
                  try clear p18
                  try clear q18
                  try clear hx18
                  try clear c19
                  try clear c19b0
                  try clear c20
                  try clear c20b0
                  try clear c26
                  try clear c27
                  try clear c27b0
                  try clear c27b1
                  try clear c28
                  try clear c28b0
                  try clear c28b1
                  try clear c30
                  try clear c30b0
                  try clear c30b1
                  try clear c31
                  try clear c31b0
                  try clear c31b1
                  try clear c38
                  try clear c39
                  try clear c45
                  try clear c45b0
                  try clear c45b1
                  try clear c47
                  try clear c47b0
                  try clear c47b1
                  try clear c48
                  try clear c48b0
                  try clear c48b1
                  try clear hcz24_0
                  try clear hcz24_1
                  try clear hcz24_2
                  try clear hcz24_3
                  try clear hcz24_4
                  try clear hcz32_0
                  try clear hcz32_1
                  try clear hcz32_2
                  try clear hcz32_3
                  try clear hcz32_4
                  try clear hcz34_0
                  try clear hcz34_1
                  try clear hcz34_2
                  try clear hcz34_3
                  try clear hcz34_4
                  try clear hcz36_0
                  try clear hcz36_1
                  try clear hcz36_2
                  try clear hcz36_3
                  try clear hcz36_4
                  try clear hcz37_0
                  try clear hcz37_1
                  try clear hcz37_2
                  try clear hcz37_3
                  try clear hcz37_4
                  try clear hcz39_0
                  try clear hcz39_1
                  try clear hcz39_2
                  try clear hcz39_3
                  try clear hcz39_4
                  try clear hcz41_0
                  try clear hcz41_1
                  try clear hcz41_2
                  try clear hcz41_3
                  try clear hcz41_4
                  try clear hcz43_0
                  try clear hcz43_1
                  try clear hcz43_2
                  try clear hcz43_3
                  try clear hcz43_4
                  try clear hcz49_0
                  try clear hcz49_1
                  try clear hcz49_2
                  try clear hcz49_3
                  try clear hcz49_4
                  try clear hcz51_0
                  try clear hcz51_1
                  try clear hcz51_2
                  try clear hcz51_3
                  try clear hcz51_4
                  try clear hcz53_0
                  try clear hcz53_1
                  try clear hcz53_2
                  try clear hcz53_3
                  try clear hcz53_4
                  try clear hcz54_0
                  try clear hcz54_1
                  try clear hcz54_2
                  try clear hcz54_3
                  try clear hcz54_4
                  try clear hcz56_0
                  try clear hcz56_1
                  try clear hcz56_2
                  try clear hcz56_3
                  try clear hcz56_4
                  try clear hcz58_0
                  try clear hcz58_1
                  try clear hcz58_2
                  try clear hcz58_3
                  try clear hcz58_4
                  try clear hcz60_0
                  try clear hcz60_1
                  try clear hcz60_2
                  try clear hcz60_3
                  try clear hcz60_4
                  try clear hcz62_0
                  try clear hcz62_1
                  try clear hcz62_2
                  try clear hcz62_3
                  try clear hcz62_4
                  try clear hcz64_0
                  try clear hcz64_1
                  try clear hcz64_2
                  try clear hcz64_3
                  try clear hcz64_4
                  try clear hcz65_0
                  try clear hcz65_1
                  try clear hcz65_2
                  try clear hcz65_3
                  try clear hcz65_4
                  try clear hcz67_0
                  try clear hcz67_1
                  try clear hcz67_2
                  try clear hcz67_3
                  try clear hcz67_4
                  try clear hcz68_0
                  try clear hcz68_1
                  try clear hcz68_2
                  try clear hcz68_3
                  try clear hcz68_4
                  try clear hfz24_0
                  try clear hfz24_1
                  try clear hfz24_2
                  try clear hfz24_3
                  try clear hfz24_4
                  try clear hfz32_0
                  try clear hfz32_1
                  try clear hfz32_2
                  try clear hfz32_3
                  try clear hfz32_4
                  try clear hfz34_0
                  try clear hfz34_1
                  try clear hfz34_2
                  try clear hfz34_3
                  try clear hfz34_4
                  try clear hfz36_0
                  try clear hfz36_1
                  try clear hfz36_2
                  try clear hfz36_3
                  try clear hfz36_4
                  try clear hfz37_0
                  try clear hfz37_1
                  try clear hfz37_2
                  try clear hfz37_3
                  try clear hfz37_4
                  try clear hfz39_0
                  try clear hfz39_1
                  try clear hfz39_2
                  try clear hfz39_3
                  try clear hfz39_4
                  try clear hfz41_0
                  try clear hfz41_1
                  try clear hfz41_2
                  try clear hfz41_3
                  try clear hfz41_4
                  try clear hfz43_0
                  try clear hfz43_1
                  try clear hfz43_2
                  try clear hfz43_3
                  try clear hfz43_4
                  try clear hfz49_0
                  try clear hfz49_1
                  try clear hfz49_2
                  try clear hfz49_3
                  try clear hfz49_4
                  try clear hfz51_0
                  try clear hfz51_1
                  try clear hfz51_2
                  try clear hfz51_3
                  try clear hfz51_4
                  try clear hfz53_0
                  try clear hfz53_1
                  try clear hfz53_2
                  try clear hfz53_3
                  try clear hfz53_4
                  try clear hfz54_0
                  try clear hfz54_1
                  try clear hfz54_2
                  try clear hfz54_3
                  try clear hfz54_4
                  try clear hfz56_0
                  try clear hfz56_1
                  try clear hfz56_2
                  try clear hfz56_3
                  try clear hfz56_4
                  try clear hfz58_0
                  try clear hfz58_1
                  try clear hfz58_2
                  try clear hfz58_3
                  try clear hfz58_4
                  try clear hfz60_0
                  try clear hfz60_1
                  try clear hfz60_2
                  try clear hfz60_3
                  try clear hfz60_4
                  try clear hfz62_0
                  try clear hfz62_1
                  try clear hfz62_2
                  try clear hfz62_3
                  try clear hfz62_4
                  try clear hfz64_0
                  try clear hfz64_1
                  try clear hfz64_2
                  try clear hfz64_3
                  try clear hfz64_4
                  try clear hfz65_0
                  try clear hfz65_1
                  try clear hfz65_2
                  try clear hfz65_3
                  try clear hfz65_4
                  try clear hfz67_0
                  try clear hfz67_1
                  try clear hfz67_2
                  try clear hfz67_3
                  try clear hfz67_4
                  try clear hfz68_0
                  try clear hfz68_1
                  try clear hfz68_2
                  try clear hfz68_3
                  try clear hfz68_4
                  try clear hx186_0
                  try clear hx186_1
                  try clear hx186_2
                  try clear hx186_3
                  try clear hx186_4
                  try clear p186
                  try clear p2
                  try clear q186
                  obtain ⟨kq, x76_20, rfl, HA, HJ20, HO_7, BK187, HB⟩ := hcut
                  cases kq with
                  | zero => exact absurd HA.out (by simp [splicelaw04_AluConsts.j2])
                  | succ kj20 =>
                    have H := HA.out
                    clear HA
                    simp only [splicelaw04_AluConsts.j2] at H
                    by_cases c70 : x76_20 = true
                    · subst c70
                      have H1 : (some false) = some r := by rw [if_pos rfl] at H; exact H
                      clear H
                      have H := H1
                      clear H1
                      obtain rfl := Option.some.inj H
                      go_wp2
                      go_ret
                      exact ⟨by first | rfl | (simp [errW_none, errW_some] <;> rfl) | (simp [*, errW_none, errW_some] <;> rfl), by repeat (first | (with_reducible first | exact HB.out | apply below_alloc | apply pw_below_drewN | apply below_drew1 | refine below_set ?_ GE187.out) | exact HB.out)⟩
                    · replace c70 := Bool.eq_false_iff.mpr c70
                      subst c70
                      have H1 : (if ((rd_T51 t179 x9_2).f2) = a0 then ((alu_Do.f ((rd_T51 t179 x9_2).f0) ((rd_T51 t179 x9_2).f1) ((rd_T51 t179 x9_2).f2) ((rd_T51 t179 x9_2).f3) ((rd_T51 t179 x9_2).f4) x8_2 0).bind fun t191 => (splicelaw04_AluConsts.l0 kj20 a0 a1 t179 t191 (wrap64 (x9_2 + 1)))) else ((alu_Do.f ((rd_T51 t179 x9_2).f0) ((rd_T51 t179 x9_2).f1) ((rd_T51 t179 x9_2).f2) ((rd_T51 t179 x9_2).f3) ((rd_T51 t179 x9_2).f4) 0 0).bind fun t192 => (splicelaw04_AluConsts.l0 kj20 a0 a1 t179 t192 (wrap64 (x9_2 + 1))))) = some r := by rw [if_neg (show ¬ (false = true) by decide)] at H; exact H
                      clear H
                      have H := H1
                      clear H1
                      by_cases c71 : ((rd_T51 t179 x9_2).f2) = a0
                      · rw [if_pos c71] at H
                        have c71b0 : (((rd_T51 t179 x9_2).f2) == a0) = true := beq_iff_eq.mpr c71
                        have c71b1 : (((rd_T51 t179 x9_2).f2) != a0) = false := bne_eq_false_iff_eq.mpr c71
                        clear c71
                        replace H := Option.bind_eq_some_iff.mp H
                        obtain ⟨t191, A720, H⟩ := H
                        replace H : (splicelaw04_AluConsts.l0 kj20 a0 a1 t179 t191 (wrap64 (x9_2 + 1))) = some r := H
                        have A72 := Aside0.mk A720
                        clear A720
                        have H' := Aside0.mk H
                        clear H
                        have hcz73_0 : wc.cell? ⟨gb187, 0, none⟩ = some (.int .i64 ((rd_T51 t179 x9_2).f0)) := (blk_cell BK187.out 0).trans rfl
                        have hcz73_1 : wc.cell? ⟨gb187, 1, none⟩ = some (.int .i64 ((rd_T51 t179 x9_2).f1)) := (blk_cell BK187.out 1).trans rfl
                        have hcz73_2 : wc.cell? ⟨gb187, 2, none⟩ = some (.int .i64 ((rd_T51 t179 x9_2).f2)) := (blk_cell BK187.out 2).trans rfl
                        have hcz73_3 : wc.cell? ⟨gb187, 3, none⟩ = some (.int .i64 ((rd_T51 t179 x9_2).f3)) := (blk_cell BK187.out 3).trans rfl
                        have hcz73_4 : wc.cell? ⟨gb187, 4, none⟩ = some (.int .i64 ((rd_T51 t179 x9_2).f4)) := (blk_cell BK187.out 4).trans rfl
                        have hfz73_0 := blk_frozen BK187.out 0
                        have hfz73_1 := blk_frozen BK187.out 1
                        have hfz73_2 := blk_frozen BK187.out 2
                        have hfz73_3 := blk_frozen BK187.out 3
                        have hfz73_4 := blk_frozen BK187.out 4
                        go_wp2_with (first | ((with_reducible refine gate_callee (f := 41) rfl ?_); refine goesL_ (some 84) rfl rfl Try.func41 (by kernel_rfl) rfl #[.agg #[.int .i64 ((rd_T51 t179 x9_2).f0), .int .i64 ((rd_T51 t179 x9_2).f1), .int .i64 ((rd_T51 t179 x9_2).f2), .int .i64 ((rd_T51 t179 x9_2).f3), .int .i64 ((rd_T51 t179 x9_2).f4)], .int .u32 x8_2, .int .u32 0] rfl (by (try simp only [List.map_toArray, List.map_cons, List.map_nil]); first | done | rfl | (simp only [List.length_drop, List.length_take]; rfl)) ?_; (with_reducible refine (alu_Do.calls ((rd_T51 t179 x9_2).f0) ((rd_T51 t179 x9_2).f1) ((rd_T51 t179 x9_2).f2) ((rd_T51 t179 x9_2).f3) ((rd_T51 t179 x9_2).f4) x8_2 0 t191 _ A72.out).mono ?_); rintro e w74 ⟨rfl, hb⟩; refine ⟨_, rfl, ?_⟩; have n0_ := Aside0.mk (Kd.R_below (by (with_reducible repeat (first | apply Kd.R_alloc | apply Kd.R_drewN | apply Kd.R_drew)); exact HO_7.out) hb); have n1_ := Aside0.mk (blk_below (g := gb187) (o := .cells #[.int .i64 ((rd_T51 t179 x9_2).f0), .int .i64 ((rd_T51 t179 x9_2).f1), .int .i64 ((rd_T51 t179 x9_2).f2), .int .i64 ((rd_T51 t179 x9_2).f3), .int .i64 ((rd_T51 t179 x9_2).f4)] 51 (0, 0)) (by (with_reducible repeat (first | refine blk_drewN ?_ _ | refine blk_drew ?_ | refine blk_alloc ?_ _)); exact BK187.out) hb); have n2_ := Aside0.mk (below_step (by repeat (first | (with_reducible first | exact HB.out | apply below_alloc | apply pw_below_drewN | apply below_drew1 | refine below_set ?_ GE187.out) | exact HB.out)) hb); clear HO_7; clear BK187; clear HB; have HO_7 := n0_; have BK187 := n1_; have HB := n2_; clear n0_ n1_ n2_; (try clear hb); (try clear hb2); (try clear hk); (try clear hi)))
                        go_roundg kj20
                        case measure => have := HJ4.out; have := HK2.out; have := HJ20.out; omega
                        case rel => exact ⟨(t191), (wrap64 (x9_2 + 1)), (by first | rfl | (simp; done) | (simp [*]; done)), (by first | rfl | (simp; done) | (simp [*]; done)), H', ⟨by have := HJ4.out; have := HK2.out; have := HJ20.out; omega⟩, ⟨by (with_reducible repeat (first | apply Kd.R_alloc | apply Kd.R_drewN | apply Kd.R_drew)); exact Kd.R_mono HO_7.out (fun _ hk => trivial)⟩, ⟨by repeat (first | (with_reducible first | exact HB.out | apply below_alloc | apply pw_below_drewN | apply below_drew1 | refine below_set ?_ GE187.out) | exact HB.out)⟩⟩
                      · rw [if_neg c71] at H
                        have c71b0 : (((rd_T51 t179 x9_2).f2) == a0) = false := beq_eq_false_iff_ne.mpr c71
                        have c71b1 : (((rd_T51 t179 x9_2).f2) != a0) = true := bne_iff_ne.mpr c71
                        replace H := Option.bind_eq_some_iff.mp H
                        obtain ⟨t192, A750, H⟩ := H
                        replace H : (splicelaw04_AluConsts.l0 kj20 a0 a1 t179 t192 (wrap64 (x9_2 + 1))) = some r := H
                        have A75 := Aside0.mk A750
                        clear A750
                        have H' := Aside0.mk H
                        clear H
                        have hcz76_0 : wc.cell? ⟨gb187, 0, none⟩ = some (.int .i64 ((rd_T51 t179 x9_2).f0)) := (blk_cell BK187.out 0).trans rfl
                        have hcz76_1 : wc.cell? ⟨gb187, 1, none⟩ = some (.int .i64 ((rd_T51 t179 x9_2).f1)) := (blk_cell BK187.out 1).trans rfl
                        have hcz76_2 : wc.cell? ⟨gb187, 2, none⟩ = some (.int .i64 ((rd_T51 t179 x9_2).f2)) := (blk_cell BK187.out 2).trans rfl
                        have hcz76_3 : wc.cell? ⟨gb187, 3, none⟩ = some (.int .i64 ((rd_T51 t179 x9_2).f3)) := (blk_cell BK187.out 3).trans rfl
                        have hcz76_4 : wc.cell? ⟨gb187, 4, none⟩ = some (.int .i64 ((rd_T51 t179 x9_2).f4)) := (blk_cell BK187.out 4).trans rfl
                        have hfz76_0 := blk_frozen BK187.out 0
                        have hfz76_1 := blk_frozen BK187.out 1
                        have hfz76_2 := blk_frozen BK187.out 2
                        have hfz76_3 := blk_frozen BK187.out 3
                        have hfz76_4 := blk_frozen BK187.out 4
                        go_wp2_with (first | ((with_reducible refine gate_callee (f := 41) rfl ?_); refine goesL_ (some 84) rfl rfl Try.func41 (by kernel_rfl) rfl #[.agg #[.int .i64 ((rd_T51 t179 x9_2).f0), .int .i64 ((rd_T51 t179 x9_2).f1), .int .i64 ((rd_T51 t179 x9_2).f2), .int .i64 ((rd_T51 t179 x9_2).f3), .int .i64 ((rd_T51 t179 x9_2).f4)], .int .u32 0, .int .u32 0] rfl (by (try simp only [List.map_toArray, List.map_cons, List.map_nil]); first | done | rfl | (simp only [List.length_drop, List.length_take]; rfl)) ?_; (with_reducible refine (alu_Do.calls ((rd_T51 t179 x9_2).f0) ((rd_T51 t179 x9_2).f1) ((rd_T51 t179 x9_2).f2) ((rd_T51 t179 x9_2).f3) ((rd_T51 t179 x9_2).f4) 0 0 t192 _ A75.out).mono ?_); rintro e w77 ⟨rfl, hb⟩; refine ⟨_, rfl, ?_⟩; have n0_ := Aside0.mk (Kd.R_below (by (with_reducible repeat (first | apply Kd.R_alloc | apply Kd.R_drewN | apply Kd.R_drew)); exact HO_7.out) hb); have n1_ := Aside0.mk (blk_below (g := gb187) (o := .cells #[.int .i64 ((rd_T51 t179 x9_2).f0), .int .i64 ((rd_T51 t179 x9_2).f1), .int .i64 ((rd_T51 t179 x9_2).f2), .int .i64 ((rd_T51 t179 x9_2).f3), .int .i64 ((rd_T51 t179 x9_2).f4)] 51 (0, 0)) (by (with_reducible repeat (first | refine blk_drewN ?_ _ | refine blk_drew ?_ | refine blk_alloc ?_ _)); exact BK187.out) hb); have n2_ := Aside0.mk (below_step (by repeat (first | (with_reducible first | exact HB.out | apply below_alloc | apply pw_below_drewN | apply below_drew1 | refine below_set ?_ GE187.out) | exact HB.out)) hb); clear HO_7; clear BK187; clear HB; have HO_7 := n0_; have BK187 := n1_; have HB := n2_; clear n0_ n1_ n2_; (try clear hb); (try clear hb2); (try clear hk); (try clear hi)))
                        go_roundg kj20
                        case measure => have := HJ4.out; have := HK2.out; have := HJ20.out; omega
                        case rel => exact ⟨(t192), (wrap64 (x9_2 + 1)), (by first | rfl | (simp; done) | (simp [*]; done)), (by first | rfl | (simp; done) | (simp [*]; done)), H', ⟨by have := HJ4.out; have := HK2.out; have := HJ20.out; omega⟩, ⟨by (with_reducible repeat (first | apply Kd.R_alloc | apply Kd.R_drewN | apply Kd.R_drew)); exact Kd.R_mono HO_7.out (fun _ hk => trivial)⟩, ⟨by repeat (first | (with_reducible first | exact HB.out | apply below_alloc | apply pw_below_drewN | apply below_drew1 | refine below_set ?_ GE187.out) | exact HB.out)⟩⟩
              · rw [if_neg c20] at H
                exact absurd H (by simp)
            · rw [if_neg c19] at H
              have c19b0 : decide (x9_2 < (t179.length : Int)) = false := decide_eq_false c19
              clear c19
              by_cases c78 : a1 ≤ 32767
              · rw [if_pos c78] at H
                have c78b0 : decide (a1 ≤ 32767) = true := decide_eq_true c78
                clear c78
                by_cases c79 : x8_2 = a1
                · rw [if_pos c79] at H
                  have c79b0 : (x8_2 == a1) = true := beq_iff_eq.mpr c79
                  have c79b1 : (x8_2 != a1) = false := bne_eq_false_iff_eq.mpr c79
                  clear c79
                  by_cases c80 : (t179.length : Int) ≥ 1
                  · rw [if_pos c80] at H
                    have c80b0 : decide (1 ≤ (t179.length : Int)) = true := decide_eq_true c80
                    have c80b1 : decide (1 ≤ t179.length) = true := decide_eq_true (by omega)
                    clear c80
                    by_cases c81 : (t179.length : Int) ≤ 2
                    · rw [if_pos c81] at H
                      have c81b0 : decide ((t179.length : Int) ≤ 2) = true := decide_eq_true c81
                      have c81b1 : decide (t179.length ≤ 2) = true := decide_eq_true (by omega)
                      clear c81
                      by_cases c82 : (t179.length : Int) = 1
                      · rw [if_pos c82] at H
                        have c82b0 : ((t179.length : Int) == 1) = true := beq_iff_eq.mpr c82
                        have c82b1 : ((t179.length : Int) != 1) = false := bne_eq_false_iff_eq.mpr c82
                        clear c82
                        by_cases c83 : 0 < (t179.length : Int)
                        · rw [if_pos c83] at H
                          have c83b0 : decide (0 < (t179.length : Int)) = true := decide_eq_true c83
                          have c83b1 : decide (0 < t179.length) = true := decide_eq_true (by omega)
                          clear c83
                          by_cases c84 : ((rd_T51 t179 0).f0) = 8
                          · rw [if_pos c84] at H
                            have c84b0 : (((rd_T51 t179 0).f0) == 8) = true := beq_iff_eq.mpr c84
                            have c84b1 : (((rd_T51 t179 0).f0) != 8) = false := bne_eq_false_iff_eq.mpr c84
                            clear c84
                            obtain rfl := Option.some.inj H
                            obtain ⟨Ao85, co85, eo85⟩ := Kd.R_slice HO_7.out
                            subst eo85
                            have p184 : 0 ≤ (0 : Int) := (by omega)
                            have q184 : 0 < (t179.length : Int) := of_decide_eq_true (by first | (with_reducible assumption) | assumption)
                            obtain ⟨ad184, e184, hx184_0, hx184_1, hx184_2, hx184_3, hx184_4⟩ := at_T51 (Kd.R_reads' HO_7.out).2.2 0 p184 q184
                            cases e184
                            have qi184 : (0 < t179.length) = True := eq_true (by omega)
                            (try rw [show ((0 : Int)).toNat = 0 from rfl] at hx184_0)
                            (try rw [show 0 * 5 = 0 from rfl] at hx184_0)
                            (try rw [Addr.add_zero'] at hx184_0)
                            (try rw [show ((0 : Int)).toNat = 0 from rfl] at hx184_1)
                            (try rw [show 0 * 5 = 0 from rfl] at hx184_1)
                            (try rw [Addr.add_zero'] at hx184_1)
                            (try rw [show ((0 : Int)).toNat = 0 from rfl] at hx184_2)
                            (try rw [show 0 * 5 = 0 from rfl] at hx184_2)
                            (try rw [Addr.add_zero'] at hx184_2)
                            (try rw [show ((0 : Int)).toNat = 0 from rfl] at hx184_3)
                            (try rw [show 0 * 5 = 0 from rfl] at hx184_3)
                            (try rw [Addr.add_zero'] at hx184_3)
                            (try rw [show ((0 : Int)).toNat = 0 from rfl] at hx184_4)
                            (try rw [show 0 * 5 = 0 from rfl] at hx184_4)
                            (try rw [Addr.add_zero'] at hx184_4)
                            replace p184 := eq_true p184
                            replace q184 := eq_true q184
                            go_wp2
                            go_ret
                            exact ⟨by first | rfl | (simp [errW_none, errW_some] <;> rfl) | (simp [*, errW_none, errW_some] <;> rfl), by repeat (first | (with_reducible first | exact HB.out | apply below_alloc | apply pw_below_drewN | apply below_drew1) | exact HB.out)⟩
                          · rw [if_neg c84] at H
                            have c84b0 : (((rd_T51 t179 0).f0) == 8) = false := beq_eq_false_iff_ne.mpr c84
                            have c84b1 : (((rd_T51 t179 0).f0) != 8) = true := bne_iff_ne.mpr c84
                            obtain rfl := Option.some.inj H
                            obtain ⟨Ao86, co86, eo86⟩ := Kd.R_slice HO_7.out
                            subst eo86
                            have p184 : 0 ≤ (0 : Int) := (by omega)
                            have q184 : 0 < (t179.length : Int) := of_decide_eq_true (by first | (with_reducible assumption) | assumption)
                            obtain ⟨ad184, e184, hx184_0, hx184_1, hx184_2, hx184_3, hx184_4⟩ := at_T51 (Kd.R_reads' HO_7.out).2.2 0 p184 q184
                            cases e184
                            have qi184 : (0 < t179.length) = True := eq_true (by omega)
                            (try rw [show ((0 : Int)).toNat = 0 from rfl] at hx184_0)
                            (try rw [show 0 * 5 = 0 from rfl] at hx184_0)
                            (try rw [Addr.add_zero'] at hx184_0)
                            (try rw [show ((0 : Int)).toNat = 0 from rfl] at hx184_1)
                            (try rw [show 0 * 5 = 0 from rfl] at hx184_1)
                            (try rw [Addr.add_zero'] at hx184_1)
                            (try rw [show ((0 : Int)).toNat = 0 from rfl] at hx184_2)
                            (try rw [show 0 * 5 = 0 from rfl] at hx184_2)
                            (try rw [Addr.add_zero'] at hx184_2)
                            (try rw [show ((0 : Int)).toNat = 0 from rfl] at hx184_3)
                            (try rw [show 0 * 5 = 0 from rfl] at hx184_3)
                            (try rw [Addr.add_zero'] at hx184_3)
                            (try rw [show ((0 : Int)).toNat = 0 from rfl] at hx184_4)
                            (try rw [show 0 * 5 = 0 from rfl] at hx184_4)
                            (try rw [Addr.add_zero'] at hx184_4)
                            replace p184 := eq_true p184
                            replace q184 := eq_true q184
                            go_wp2
                            go_ret
                            exact ⟨by first | rfl | (simp [errW_none, errW_some] <;> rfl) | (simp [*, errW_none, errW_some] <;> rfl), by repeat (first | (with_reducible first | exact HB.out | apply below_alloc | apply pw_below_drewN | apply below_drew1) | exact HB.out)⟩
                        · rw [if_neg c83] at H
                          exact absurd H (by simp)
                      · rw [if_neg c82] at H
                        have c82b0 : ((t179.length : Int) == 1) = false := beq_eq_false_iff_ne.mpr c82
                        have c82b1 : ((t179.length : Int) != 1) = true := bne_iff_ne.mpr c82
                        obtain rfl := Option.some.inj H
                        obtain ⟨Ao87, co87, eo87⟩ := Kd.R_slice HO_7.out
                        subst eo87
                        go_wp2
                        go_ret
                        exact ⟨by first | rfl | (simp [errW_none, errW_some] <;> rfl) | (simp [*, errW_none, errW_some] <;> rfl), by repeat (first | (with_reducible first | exact HB.out | apply below_alloc | apply pw_below_drewN | apply below_drew1) | exact HB.out)⟩
                    · rw [if_neg c81] at H
                      have c81b0 : decide ((t179.length : Int) ≤ 2) = false := decide_eq_false c81
                      have c81b1 : decide (t179.length ≤ 2) = false := decide_eq_false (by omega)
                      clear c81
                      obtain rfl := Option.some.inj H
                      obtain ⟨Ao88, co88, eo88⟩ := Kd.R_slice HO_7.out
                      subst eo88
                      go_wp2
                      go_ret
                      exact ⟨by first | rfl | (simp [errW_none, errW_some] <;> rfl) | (simp [*, errW_none, errW_some] <;> rfl), by repeat (first | (with_reducible first | exact HB.out | apply below_alloc | apply pw_below_drewN | apply below_drew1) | exact HB.out)⟩
                  · rw [if_neg c80] at H
                    have c80b0 : decide (1 ≤ (t179.length : Int)) = false := decide_eq_false c80
                    have c80b1 : decide (1 ≤ t179.length) = false := decide_eq_false (by omega)
                    clear c80
                    obtain rfl := Option.some.inj H
                    obtain ⟨Ao89, co89, eo89⟩ := Kd.R_slice HO_7.out
                    subst eo89
                    go_wp2
                    go_ret
                    exact ⟨by first | rfl | (simp [errW_none, errW_some] <;> rfl) | (simp [*, errW_none, errW_some] <;> rfl), by repeat (first | (with_reducible first | exact HB.out | apply below_alloc | apply pw_below_drewN | apply below_drew1) | exact HB.out)⟩
                · rw [if_neg c79] at H
                  have c79b0 : (x8_2 == a1) = false := beq_eq_false_iff_ne.mpr c79
                  have c79b1 : (x8_2 != a1) = true := bne_iff_ne.mpr c79
                  obtain rfl := Option.some.inj H
                  obtain ⟨Ao90, co90, eo90⟩ := Kd.R_slice HO_7.out
                  subst eo90
                  go_wp2
                  go_ret
                  exact ⟨by first | rfl | (simp [errW_none, errW_some] <;> rfl) | (simp [*, errW_none, errW_some] <;> rfl), by repeat (first | (with_reducible first | exact HB.out | apply below_alloc | apply pw_below_drewN | apply below_drew1) | exact HB.out)⟩
              · rw [if_neg c78] at H
                have c78b0 : decide (a1 ≤ 32767) = false := decide_eq_false c78
                clear c78
                by_cases c91 : x8_2 = a1
                · rw [if_pos c91] at H
                  have c91b0 : (x8_2 == a1) = true := beq_iff_eq.mpr c91
                  have c91b1 : (x8_2 != a1) = false := bne_eq_false_iff_eq.mpr c91
                  clear c91
                  by_cases c92 : (t179.length : Int) ≥ 1
                  · rw [if_pos c92] at H
                    have c92b0 : decide (1 ≤ (t179.length : Int)) = true := decide_eq_true c92
                    have c92b1 : decide (1 ≤ t179.length) = true := decide_eq_true (by omega)
                    clear c92
                    by_cases c93 : (t179.length : Int) ≤ 2
                    · rw [if_pos c93] at H
                      have c93b0 : decide ((t179.length : Int) ≤ 2) = true := decide_eq_true c93
                      have c93b1 : decide (t179.length ≤ 2) = true := decide_eq_true (by omega)
                      clear c93
                      by_cases c94 : a1 ≥ 4294934528
                      · rw [if_pos c94] at H
                        have c94b0 : decide (4294934528 ≤ a1) = true := decide_eq_true c94
                        clear c94
                        by_cases c95 : (t179.length : Int) = 1
                        · rw [if_pos c95] at H
                          have c95b0 : ((t179.length : Int) == 1) = true := beq_iff_eq.mpr c95
                          have c95b1 : ((t179.length : Int) != 1) = false := bne_eq_false_iff_eq.mpr c95
                          clear c95
                          by_cases c96 : 0 < (t179.length : Int)
                          · rw [if_pos c96] at H
                            have c96b0 : decide (0 < (t179.length : Int)) = true := decide_eq_true c96
                            have c96b1 : decide (0 < t179.length) = true := decide_eq_true (by omega)
                            clear c96
                            by_cases c97 : ((rd_T51 t179 0).f0) = 8
                            · rw [if_pos c97] at H
                              have c97b0 : (((rd_T51 t179 0).f0) == 8) = true := beq_iff_eq.mpr c97
                              have c97b1 : (((rd_T51 t179 0).f0) != 8) = false := bne_eq_false_iff_eq.mpr c97
                              clear c97
                              obtain rfl := Option.some.inj H
                              obtain ⟨Ao98, co98, eo98⟩ := Kd.R_slice HO_7.out
                              subst eo98
                              have p185 : 0 ≤ (0 : Int) := (by omega)
                              have q185 : 0 < (t179.length : Int) := of_decide_eq_true (by first | (with_reducible assumption) | assumption)
                              obtain ⟨ad185, e185, hx185_0, hx185_1, hx185_2, hx185_3, hx185_4⟩ := at_T51 (Kd.R_reads' HO_7.out).2.2 0 p185 q185
                              cases e185
                              have qi185 : (0 < t179.length) = True := eq_true (by omega)
                              (try rw [show ((0 : Int)).toNat = 0 from rfl] at hx185_0)
                              (try rw [show 0 * 5 = 0 from rfl] at hx185_0)
                              (try rw [Addr.add_zero'] at hx185_0)
                              (try rw [show ((0 : Int)).toNat = 0 from rfl] at hx185_1)
                              (try rw [show 0 * 5 = 0 from rfl] at hx185_1)
                              (try rw [Addr.add_zero'] at hx185_1)
                              (try rw [show ((0 : Int)).toNat = 0 from rfl] at hx185_2)
                              (try rw [show 0 * 5 = 0 from rfl] at hx185_2)
                              (try rw [Addr.add_zero'] at hx185_2)
                              (try rw [show ((0 : Int)).toNat = 0 from rfl] at hx185_3)
                              (try rw [show 0 * 5 = 0 from rfl] at hx185_3)
                              (try rw [Addr.add_zero'] at hx185_3)
                              (try rw [show ((0 : Int)).toNat = 0 from rfl] at hx185_4)
                              (try rw [show 0 * 5 = 0 from rfl] at hx185_4)
                              (try rw [Addr.add_zero'] at hx185_4)
                              replace p185 := eq_true p185
                              replace q185 := eq_true q185
                              go_wp2
                              go_ret
                              exact ⟨by first | rfl | (simp [errW_none, errW_some] <;> rfl) | (simp [*, errW_none, errW_some] <;> rfl), by repeat (first | (with_reducible first | exact HB.out | apply below_alloc | apply pw_below_drewN | apply below_drew1) | exact HB.out)⟩
                            · rw [if_neg c97] at H
                              have c97b0 : (((rd_T51 t179 0).f0) == 8) = false := beq_eq_false_iff_ne.mpr c97
                              have c97b1 : (((rd_T51 t179 0).f0) != 8) = true := bne_iff_ne.mpr c97
                              obtain rfl := Option.some.inj H
                              obtain ⟨Ao99, co99, eo99⟩ := Kd.R_slice HO_7.out
                              subst eo99
                              have p185 : 0 ≤ (0 : Int) := (by omega)
                              have q185 : 0 < (t179.length : Int) := of_decide_eq_true (by first | (with_reducible assumption) | assumption)
                              obtain ⟨ad185, e185, hx185_0, hx185_1, hx185_2, hx185_3, hx185_4⟩ := at_T51 (Kd.R_reads' HO_7.out).2.2 0 p185 q185
                              cases e185
                              have qi185 : (0 < t179.length) = True := eq_true (by omega)
                              (try rw [show ((0 : Int)).toNat = 0 from rfl] at hx185_0)
                              (try rw [show 0 * 5 = 0 from rfl] at hx185_0)
                              (try rw [Addr.add_zero'] at hx185_0)
                              (try rw [show ((0 : Int)).toNat = 0 from rfl] at hx185_1)
                              (try rw [show 0 * 5 = 0 from rfl] at hx185_1)
                              (try rw [Addr.add_zero'] at hx185_1)
                              (try rw [show ((0 : Int)).toNat = 0 from rfl] at hx185_2)
                              (try rw [show 0 * 5 = 0 from rfl] at hx185_2)
                              (try rw [Addr.add_zero'] at hx185_2)
                              (try rw [show ((0 : Int)).toNat = 0 from rfl] at hx185_3)
                              (try rw [show 0 * 5 = 0 from rfl] at hx185_3)
                              (try rw [Addr.add_zero'] at hx185_3)
                              (try rw [show ((0 : Int)).toNat = 0 from rfl] at hx185_4)
                              (try rw [show 0 * 5 = 0 from rfl] at hx185_4)
                              (try rw [Addr.add_zero'] at hx185_4)
                              replace p185 := eq_true p185
                              replace q185 := eq_true q185
                              go_wp2
                              go_ret
                              exact ⟨by first | rfl | (simp [errW_none, errW_some] <;> rfl) | (simp [*, errW_none, errW_some] <;> rfl), by repeat (first | (with_reducible first | exact HB.out | apply below_alloc | apply pw_below_drewN | apply below_drew1) | exact HB.out)⟩
                          · rw [if_neg c96] at H
                            exact absurd H (by simp)
                        · rw [if_neg c95] at H
                          have c95b0 : ((t179.length : Int) == 1) = false := beq_eq_false_iff_ne.mpr c95
                          have c95b1 : ((t179.length : Int) != 1) = true := bne_iff_ne.mpr c95
                          obtain rfl := Option.some.inj H
                          obtain ⟨Ao100, co100, eo100⟩ := Kd.R_slice HO_7.out
                          subst eo100
                          go_wp2
                          go_ret
                          exact ⟨by first | rfl | (simp [errW_none, errW_some] <;> rfl) | (simp [*, errW_none, errW_some] <;> rfl), by repeat (first | (with_reducible first | exact HB.out | apply below_alloc | apply pw_below_drewN | apply below_drew1) | exact HB.out)⟩
                      · rw [if_neg c94] at H
                        have c94b0 : decide (4294934528 ≤ a1) = false := decide_eq_false c94
                        clear c94
                        by_cases c101 : (t179.length : Int) = 1
                        · rw [if_pos c101] at H
                          have c101b0 : ((t179.length : Int) == 1) = true := beq_iff_eq.mpr c101
                          have c101b1 : ((t179.length : Int) != 1) = false := bne_eq_false_iff_eq.mpr c101
                          clear c101
                          obtain rfl := Option.some.inj H
                          obtain ⟨Ao102, co102, eo102⟩ := Kd.R_slice HO_7.out
                          subst eo102
                          go_wp2
                          go_ret
                          exact ⟨by first | rfl | (simp [errW_none, errW_some] <;> rfl) | (simp [*, errW_none, errW_some] <;> rfl), by repeat (first | (with_reducible first | exact HB.out | apply below_alloc | apply pw_below_drewN | apply below_drew1) | exact HB.out)⟩
                        · rw [if_neg c101] at H
                          have c101b0 : ((t179.length : Int) == 1) = false := beq_eq_false_iff_ne.mpr c101
                          have c101b1 : ((t179.length : Int) != 1) = true := bne_iff_ne.mpr c101
                          obtain rfl := Option.some.inj H
                          obtain ⟨Ao103, co103, eo103⟩ := Kd.R_slice HO_7.out
                          subst eo103
                          go_wp2
                          go_ret
                          exact ⟨by first | rfl | (simp [errW_none, errW_some] <;> rfl) | (simp [*, errW_none, errW_some] <;> rfl), by repeat (first | (with_reducible first | exact HB.out | apply below_alloc | apply pw_below_drewN | apply below_drew1) | exact HB.out)⟩
                    · rw [if_neg c93] at H
                      have c93b0 : decide ((t179.length : Int) ≤ 2) = false := decide_eq_false c93
                      have c93b1 : decide (t179.length ≤ 2) = false := decide_eq_false (by omega)
                      clear c93
                      obtain rfl := Option.some.inj H
                      obtain ⟨Ao104, co104, eo104⟩ := Kd.R_slice HO_7.out
                      subst eo104
                      go_wp2
                      go_ret
                      exact ⟨by first | rfl | (simp [errW_none, errW_some] <;> rfl) | (simp [*, errW_none, errW_some] <;> rfl), by repeat (first | (with_reducible first | exact HB.out | apply below_alloc | apply pw_below_drewN | apply below_drew1) | exact HB.out)⟩
                  · rw [if_neg c92] at H
                    have c92b0 : decide (1 ≤ (t179.length : Int)) = false := decide_eq_false c92
                    have c92b1 : decide (1 ≤ t179.length) = false := decide_eq_false (by omega)
                    clear c92
                    obtain rfl := Option.some.inj H
                    obtain ⟨Ao105, co105, eo105⟩ := Kd.R_slice HO_7.out
                    subst eo105
                    go_wp2
                    go_ret
                    exact ⟨by first | rfl | (simp [errW_none, errW_some] <;> rfl) | (simp [*, errW_none, errW_some] <;> rfl), by repeat (first | (with_reducible first | exact HB.out | apply below_alloc | apply pw_below_drewN | apply below_drew1) | exact HB.out)⟩
                · rw [if_neg c91] at H
                  have c91b0 : (x8_2 == a1) = false := beq_eq_false_iff_ne.mpr c91
                  have c91b1 : (x8_2 != a1) = true := bne_iff_ne.mpr c91
                  obtain rfl := Option.some.inj H
                  obtain ⟨Ao106, co106, eo106⟩ := Kd.R_slice HO_7.out
                  subst eo106
                  go_wp2
                  go_ret
                  exact ⟨by first | rfl | (simp [errW_none, errW_some] <;> rfl) | (simp [*, errW_none, errW_some] <;> rfl), by repeat (first | (with_reducible first | exact HB.out | apply below_alloc | apply pw_below_drewN | apply below_drew1) | exact HB.out)⟩

/-- THE ONE PURE STATEMENT of splicelaw04_AluConsts: yours. -/
def splicelaw04_AluConsts.Pure : Prop := ∀ (a0 : Int) (a1 : Int) (a2 : Int), (Lit.int .i64 a0).wf = true → (Lit.int .u32 a1).wf = true → (Lit.int .u32 a2).wf = true → ∃ k, splicelaw04_AluConsts.f k a0 a1 a2 = some true
theorem splicelaw04_AluConsts.walk (P : splicelaw04_AluConsts.Pure) (a0 : Int) (a1 : Int) (a2 : Int) (w : World) (w0 : (Lit.int .i64 a0).wf = true) (w1 : (Lit.int .u32 a1).wf = true) (w2 : (Lit.int .u32 a2).wf = true) :
    Calls Try.prog 15 #[.int .i64 a0, .int .u32 a1, .int .u32 a2] w fun e w' => e = .returned (.bool true) ∧ Below w.heap.size w w' := by
  obtain ⟨k, h⟩ := P a0 a1 a2 w0 w1 w2
  refine (splicelaw04_AluConsts.calls k a0 a1 a2 true w h).mono ?_
  rintro e w' ⟨rfl, hd⟩
  exact ⟨rfl, hd⟩

end Go.Proofs.Ytkolcgnembaghaa.Q
