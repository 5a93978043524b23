import Derived.Test.YtmcfihpbiilbcaaZObjectWrites3
section
-- functions and contracts of this seat, written by the kit's print program for several roots at once; not the print of a statement
namespace Go.Proofs.Ytmcfihpbiilbcaa.E
open Go.RowKit Go.Proofs.YtmcfihpbiilbcaaW.PrintWords Go.Proofs.YtmcfihpbiilbcaaW.PrintLast Go.Proofs.YtmcfihpbiilbcaaW.PrintMore
attribute [local go_sem] max2_int min2_int max_two min_two max_three min_three max_four min_four   -- for this text's walks alone
set_option linter.unusedVariables false
set_option linter.unusedSimpArgs false
mutual
def spliceref09_May.j0 : Nat → Bool → List (S124) → List (S102) → List (S122) → Option (Bool)
  | 0, _, _, _, _ => none
  | k + 1, x23, x205000, x205001, x205002 => if x23 = true then (some false) else (spliceref09_May.l0 k 0 x205000 x205001 x205002)
def spliceref09_May.l0 : Nat → Int → List (S124) → List (S102) → List (S122) → Option (Bool)
  | 0, _, _, _, _ => none
  | k + 1, x3, x205000, x205001, x205002 => if x3 < (x205000.length : Int) then (if 0 ≤ x3 then ((spliceref09_named.f k ((rd_T124 x205000 x3).f0)).bind fun t207 => (if t207 = true then (if ((rd_T124 x205000 x3).f1) < 1 then (some false) else (if ((rd_T124 x205000 x3).f1) > 255 then (some false) else (if (((rd_T124 x205000 x3).f2).length : Int) > 2000 then (some false) else ((spliceref09_rels.f k ((rd_T124 x205000 x3).f3)).bind fun t208 => (if t208 = true then (spliceref09_May.l0 k (wrap64 (x3 + 1)) x205000 x205001 x205002) else (some false)))))) else (some false))) else (none)) else (spliceref09_May.l1 k 0 x205000 x205001 x205002)
def spliceref09_May.l1 : Nat → Int → List (S124) → List (S102) → List (S122) → Option (Bool)
  | 0, _, _, _, _ => none
  | k + 1, x5, x205000, x205001, x205002 => if x5 < (x205001.length : Int) then (if 0 ≤ x5 then ((spliceref09_named.f k ((rd_T102 x205001 x5).f0)).bind fun t211 => (if t211 = true then (if ((rd_T102 x205001 x5).f1) < 1 then (some false) else (if ((rd_T102 x205001 x5).f1) > 255 then (some false) else (if ((rd_T102 x205001 x5).f2) < 0 then (some false) else (if ((rd_T102 x205001 x5).f2) > 255 then (some false) else (if ((rd_T102 x205001 x5).f4) < 0 then (some false) else (if ((rd_T102 x205001 x5).f4) > 65535 then (some false) else (if (((rd_T102 x205001 x5).f5).length : Int) > 4096 then (some false) else ((spliceref09_rels.f k ((rd_T102 x205001 x5).f6)).bind fun t212 => (if t212 = true then (spliceref09_May.l1 k (wrap64 (x5 + 1)) x205000 x205001 x205002) else (some false)))))))))) else (some false))) else (none)) else (spliceref09_May.l2 k 0 x205000 x205001 x205002)
def spliceref09_May.l2 : Nat → Int → List (S124) → List (S102) → List (S122) → Option (Bool)
  | 0, _, _, _, _ => none
  | k + 1, x7, x205000, x205001, x205002 => if x7 < (x205002.length : Int) then (if 0 ≤ x7 then ((spliceref09_named.f k ((rd_T122 x205002 x7).f0)).bind fun t214 => (if t214 = true then (if ((rd_T122 x205002 x7).f1) < 0 then (some false) else (if ((rd_T122 x205002 x7).f1) > 255 then (some false) else (spliceref09_May.l2 k (wrap64 (x7 + 1)) x205000 x205001 x205002))) else (some false))) else (none)) else (some true)
end
def spliceref09_May.f (k : Nat) (l0_0 : List (S124)) (l0_1 : List (S102)) (l0_2 : List (S122)) : Option (Bool) := if (l0_0.length : Int) > 64 then (spliceref09_May.j0 k true l0_0 l0_1 l0_2) else (if (l0_1.length : Int) > 64 then (spliceref09_May.j0 k true l0_0 l0_1 l0_2) else (spliceref09_May.j0 k (decide ((l0_2.length : Int) > 64)) l0_0 l0_1 l0_2))
theorem spliceref09_May.mono_l : ∀ k, (∀ y0 y1 y2 y3, LeO (spliceref09_May.j0 k y0 y1 y2 y3) (spliceref09_May.j0 (k + 1) y0 y1 y2 y3)) ∧ (∀ y0 y1 y2 y3, LeO (spliceref09_May.l0 k y0 y1 y2 y3) (spliceref09_May.l0 (k + 1) y0 y1 y2 y3)) ∧ (∀ y0 y1 y2 y3, LeO (spliceref09_May.l1 k y0 y1 y2 y3) (spliceref09_May.l1 (k + 1) y0 y1 y2 y3)) ∧ (∀ y0 y1 y2 y3, LeO (spliceref09_May.l2 k y0 y1 y2 y3) (spliceref09_May.l2 (k + 1) y0 y1 y2 y3))
  | 0 => ⟨fun _ _ _ _ r h => by simp [spliceref09_May.j0] at h, fun _ _ _ _ r h => by simp [spliceref09_May.l0] at h, fun _ _ _ _ r h => by simp [spliceref09_May.l1] at h, fun _ _ _ _ r h => by simp [spliceref09_May.l2] at h⟩
  | k + 1 => by
    obtain ⟨ih0, ih1, ih2, ih3⟩ := spliceref09_May.mono_l k
    refine ⟨?_, ?_, ?_, ?_⟩
    · intro y0 y1 y2 y3
      unfold spliceref09_May.j0
      repeat' first
      | (with_reducible exact ih0 _ _ _ _)
      | (with_reducible exact ih1 _ _ _ _)
      | (with_reducible exact ih2 _ _ _ _)
      | (with_reducible exact ih3 _ _ _ _)
      | (with_reducible exact spliceref09_named.mono _ _)
      | (with_reducible exact spliceref09_rels.mono _ _)
      | (with_reducible exact LeO.refl _)
      | (with_reducible exact LeO.none _)
      | (with_reducible refine LeO.ite ?_ ?_)
      | (with_reducible refine LeO.bind ?_ (fun _ => ?_))
      | exact ih0 _ _ _ _
      | exact ih1 _ _ _ _
      | exact ih2 _ _ _ _
      | exact ih3 _ _ _ _
      | exact spliceref09_named.mono _ _
      | exact spliceref09_rels.mono _ _
      | exact LeO.none _
      | refine LeO.ite ?_ ?_
      | refine LeO.bind ?_ (fun _ => ?_)
    · intro y0 y1 y2 y3
      unfold spliceref09_May.l0
      repeat' first
      | (with_reducible exact ih0 _ _ _ _)
      | (with_reducible exact ih1 _ _ _ _)
      | (with_reducible exact ih2 _ _ _ _)
      | (with_reducible exact ih3 _ _ _ _)
      | (with_reducible exact spliceref09_named.mono _ _)
      | (with_reducible exact spliceref09_rels.mono _ _)
      | (with_reducible exact LeO.refl _)
      | (with_reducible exact LeO.none _)
      | (with_reducible refine LeO.ite ?_ ?_)
      | (with_reducible refine LeO.bind ?_ (fun _ => ?_))
      | exact ih0 _ _ _ _
      | exact ih1 _ _ _ _
      | exact ih2 _ _ _ _
      | exact ih3 _ _ _ _
      | exact spliceref09_named.mono _ _
      | exact spliceref09_rels.mono _ _
      | exact LeO.none _
      | refine LeO.ite ?_ ?_
      | refine LeO.bind ?_ (fun _ => ?_)
    · intro y0 y1 y2 y3
      unfold spliceref09_May.l1
      repeat' first
      | (with_reducible exact ih0 _ _ _ _)
      | (with_reducible exact ih1 _ _ _ _)
      | (with_reducible exact ih2 _ _ _ _)
      | (with_reducible exact ih3 _ _ _ _)
      | (with_reducible exact spliceref09_named.mono _ _)
      | (with_reducible exact spliceref09_rels.mono _ _)
      | (with_reducible exact LeO.refl _)
      | (with_reducible exact LeO.none _)
      | (with_reducible refine LeO.ite ?_ ?_)
      | (with_reducible refine LeO.bind ?_ (fun _ => ?_))
      | exact ih0 _ _ _ _
      | exact ih1 _ _ _ _
      | exact ih2 _ _ _ _
      | exact ih3 _ _ _ _
      | exact spliceref09_named.mono _ _
      | exact spliceref09_rels.mono _ _
      | exact LeO.none _
      | refine LeO.ite ?_ ?_
      | refine LeO.bind ?_ (fun _ => ?_)
    · intro y0 y1 y2 y3
      unfold spliceref09_May.l2
      repeat' first
      | (with_reducible exact ih0 _ _ _ _)
      | (with_reducible exact ih1 _ _ _ _)
      | (with_reducible exact ih2 _ _ _ _)
      | (with_reducible exact ih3 _ _ _ _)
      | (with_reducible exact spliceref09_named.mono _ _)
      | (with_reducible exact spliceref09_rels.mono _ _)
      | (with_reducible exact LeO.refl _)
      | (with_reducible exact LeO.none _)
      | (with_reducible refine LeO.ite ?_ ?_)
      | (with_reducible refine LeO.bind ?_ (fun _ => ?_))
      | exact ih0 _ _ _ _
      | exact ih1 _ _ _ _
      | exact ih2 _ _ _ _
      | exact ih3 _ _ _ _
      | exact spliceref09_named.mono _ _
      | exact spliceref09_rels.mono _ _
      | exact LeO.none _
      | refine LeO.ite ?_ ?_
      | refine LeO.bind ?_ (fun _ => ?_)
theorem spliceref09_May.mono : ∀ a0 a1 a2 k, LeO (spliceref09_May.f k a0 a1 a2) (spliceref09_May.f (k + 1) a0 a1 a2) := by
  intro a0 a1 a2 k
  obtain ⟨ih0, ih1, ih2, ih3⟩ := spliceref09_May.mono_l k
  unfold spliceref09_May.f
  repeat' first
      | (with_reducible exact ih0 _ _ _ _)
      | (with_reducible exact ih1 _ _ _ _)
      | (with_reducible exact ih2 _ _ _ _)
      | (with_reducible exact ih3 _ _ _ _)
      | (with_reducible exact spliceref09_named.mono _ _)
      | (with_reducible exact spliceref09_rels.mono _ _)
      | (with_reducible exact LeO.refl _)
      | (with_reducible exact LeO.none _)
      | (with_reducible refine LeO.ite ?_ ?_)
      | (with_reducible refine LeO.bind ?_ (fun _ => ?_))
      | exact ih0 _ _ _ _
      | exact ih1 _ _ _ _
      | exact ih2 _ _ _ _
      | exact ih3 _ _ _ _
      | exact spliceref09_named.mono _ _
      | exact spliceref09_rels.mono _ _
      | exact LeO.none _
      | refine LeO.ite ?_ ?_
      | refine LeO.bind ?_ (fun _ => ?_)
set_option maxHeartbeats 8000000 in
set_option maxRecDepth 100000 in
theorem spliceref09_May.calls (k : Nat) (A0_0 : Option Addr) (c0_0 : Nat) (l0_0 : List (S124)) (A0_1 : Option Addr) (c0_1 : Nat) (l0_1 : List (S102)) (A0_2 : Option Addr) (c0_2 : Nat) (l0_2 : List (S122)) (r : Bool) (w : World) (hr0_0 : Kd.C k124 w A0_0 l0_0.length l0_0) (hc0_0 : l0_0.length ≤ c0_0) (hr0_1 : Kd.C k102 w A0_1 l0_1.length l0_1) (hc0_1 : l0_1.length ≤ c0_1) (hr0_2 : Kd.C k122 w A0_2 l0_2.length l0_2) (hc0_2 : l0_2.length ≤ c0_2) (h : spliceref09_May.f k l0_0 l0_1 l0_2 = some r) :
    Calls Try.prog 71 #[.agg #[.slice A0_0 l0_0.length c0_0, .slice A0_1 l0_1.length c0_1, .slice A0_2 l0_2.length c0_2]] w fun e w' => e = .returned (.bool r) ∧ Below w.heap.size w w' := by
  have hu91 := Try.underlying91
  have hu124 := Try.underlying124
  have hu102 := Try.underlying102
  have HR0_0 := Aside0.mk hr0_0
  have HC0_0 := Aside0.mk hc0_0
  clear hr0_0 hc0_0
  have HR0_1 := Aside0.mk hr0_1
  have HC0_1 := Aside0.mk hc0_1
  clear hr0_1 hc0_1
  have HR0_2 := Aside0.mk hr0_2
  have HC0_2 := Aside0.mk hc0_2
  clear hr0_2 hc0_2
  have HB := Aside0.mk (Below.refl w.heap.size w)
  have H : (if (l0_0.length : Int) > 64 then (spliceref09_May.j0 k true l0_0 l0_1 l0_2) else (if (l0_1.length : Int) > 64 then (spliceref09_May.j0 k true l0_0 l0_1 l0_2) else (spliceref09_May.j0 k (decide ((l0_2.length : Int) > 64)) l0_0 l0_1 l0_2))) = some r := h
  clear h
  have HC2 := Aside0.mk H
  clear H
  go_enter Try.func71, Try.ntmps71
  go_upto_region 1 with (first | ((with_reducible refine gate_dst (N := 1) rfl ?_); (try (refine gate_guard (by rfl) ?_; dsimp only)); refine box_event ?hg (N := 1) ?hd (cs := #[.slice A0_0 l0_0.length c0_0, .slice A0_1 l0_1.length c0_1, .slice A0_2 l0_2.length c0_2]) (t := 91) ?hr ?_; (case hd => rfl); (case hg => rfl); (case hr => first | (go_simp; done) | (go_simp; rfl)); intro gb204 hg w3 hbox hb; have n0_ := Aside0.mk (below_step (by repeat (first | (with_reducible first | exact HB.out | apply below_alloc | apply pw_below_drewN | apply below_drew1) | exact HB.out)) hb); have n1_ := Aside0.mk (hbox); have n2_ := Aside0.mk ((by rw [hg]; exact (below_size (by repeat (first | (with_reducible first | exact HB.out | apply below_alloc | apply pw_below_drewN | apply below_drew1) | exact HB.out))) : w.heap.size ≤ gb204)); have n3_ := Aside0.mk ((by rw [hg]; exact (below_size (by repeat (first | (with_reducible first | exact HB.out | apply below_alloc | apply pw_below_drewN | apply below_drew1) | exact HB.out))) : w.heap.size ≤ gb204)); clear HB; have HB := n0_; have BK204 := n1_; have GW204 := n2_; have GE204 := n3_; clear n0_ n1_ n2_ n3_; clear hb hbox hg))
  (try simp only [Act.put, List.setIfInBounds_toArray, List.set_cons_zero, List.set_cons_succ])
  go_cut [23] (fun v23 wc => ∃ (kq : Nat) (x23_1 : Bool), v23 = .bool x23_1 ∧ Aside0 (spliceref09_May.j0 kq x23_1 l0_0 l0_1 l0_2 = some r) ∧ Aside0 (kq ≤ k) ∧ Aside0 (wc.heap[gb204]? = some (.cells #[(.slice A0_0 l0_0.length c0_0), (.slice A0_1 l0_1.length c0_1), (.slice A0_2 l0_2.length c0_2)] 91 (0, 0))) ∧ Aside0 (Below w.heap.size w wc))
  case first =>
    have H := HC2.out
    clear HC2
    by_cases c4 : (l0_0.length : Int) > 64
    · rw [if_pos c4] at H
      have c4b0 : decide (64 < (l0_0.length : Int)) = true := decide_eq_true c4
      have c4b1 : decide (64 < l0_0.length) = true := decide_eq_true (by omega)
      clear c4
      (first | rw [c4b0] | (simp only [i64_w, i32_w]; rw [c4b0]) | skip)
      have H' := Aside0.mk H
      clear H
      have hcz5_0 : w3.cell? ⟨gb204, 0, none⟩ = some (.slice A0_0 l0_0.length c0_0) := (blk_cell BK204.out 0).trans rfl
      have hcz5_1 : w3.cell? ⟨gb204, 1, none⟩ = some (.slice A0_1 l0_1.length c0_1) := (blk_cell BK204.out 1).trans rfl
      have hcz5_2 : w3.cell? ⟨gb204, 2, none⟩ = some (.slice A0_2 l0_2.length c0_2) := (blk_cell BK204.out 2).trans rfl
      have hfz5_0 := blk_frozen BK204.out 0
      have hfz5_1 := blk_frozen BK204.out 1
      have hfz5_2 := blk_frozen BK204.out 2
      go_wp2
      go_meet
      case rel => exact ⟨_, (true), (by first | rfl | (simp; done) | (simp [*]; done)), H', ⟨by first | omega | exact Nat.le_refl _⟩, ⟨by (with_reducible repeat (first | refine blk_drewN ?_ _ | refine blk_drew ?_ | refine blk_alloc ?_ _)); exact BK204.out⟩, ⟨by repeat (first | (with_reducible first | exact HB.out | apply below_alloc | apply pw_below_drewN | apply below_drew1 | refine below_set ?_ GE204.out) | exact HB.out)⟩⟩
    · rw [if_neg c4] at H
      have c4b0 : decide (64 < (l0_0.length : Int)) = false := decide_eq_false c4
      have c4b1 : decide (64 < l0_0.length) = false := decide_eq_false (by omega)
      clear c4
      (first | rw [c4b0] | (simp only [i64_w, i32_w]; rw [c4b0]) | skip)
      by_cases c6 : (l0_1.length : Int) > 64
      · rw [if_pos c6] at H
        have c6b0 : decide (64 < (l0_1.length : Int)) = true := decide_eq_true c6
        have c6b1 : decide (64 < l0_1.length) = true := decide_eq_true (by omega)
        clear c6
        have H' := Aside0.mk H
        clear H
        have hcz7_0 : w3.cell? ⟨gb204, 0, none⟩ = some (.slice A0_0 l0_0.length c0_0) := (blk_cell BK204.out 0).trans rfl
        have hcz7_1 : w3.cell? ⟨gb204, 1, none⟩ = some (.slice A0_1 l0_1.length c0_1) := (blk_cell BK204.out 1).trans rfl
        have hcz7_2 : w3.cell? ⟨gb204, 2, none⟩ = some (.slice A0_2 l0_2.length c0_2) := (blk_cell BK204.out 2).trans rfl
        have hfz7_0 := blk_frozen BK204.out 0
        have hfz7_1 := blk_frozen BK204.out 1
        have hfz7_2 := blk_frozen BK204.out 2
        go_wp2
        go_meet
        case rel => exact ⟨_, (true), (by first | rfl | (simp; done) | (simp [*]; done)), H', ⟨by first | omega | exact Nat.le_refl _⟩, ⟨by (with_reducible repeat (first | refine blk_drewN ?_ _ | refine blk_drew ?_ | refine blk_alloc ?_ _)); exact BK204.out⟩, ⟨by repeat (first | (with_reducible first | exact HB.out | apply below_alloc | apply pw_below_drewN | apply below_drew1 | refine below_set ?_ GE204.out) | exact HB.out)⟩⟩
      · rw [if_neg c6] at H
        have c6b0 : decide (64 < (l0_1.length : Int)) = false := decide_eq_false c6
        have c6b1 : decide (64 < l0_1.length) = false := decide_eq_false (by omega)
        clear c6
        have H' := Aside0.mk H
        clear H
        have hcz8_0 : w3.cell? ⟨gb204, 0, none⟩ = some (.slice A0_0 l0_0.length c0_0) := (blk_cell BK204.out 0).trans rfl
        have hcz8_1 : w3.cell? ⟨gb204, 1, none⟩ = some (.slice A0_1 l0_1.length c0_1) := (blk_cell BK204.out 1).trans rfl
        have hcz8_2 : w3.cell? ⟨gb204, 2, none⟩ = some (.slice A0_2 l0_2.length c0_2) := (blk_cell BK204.out 2).trans rfl
        have hfz8_0 := blk_frozen BK204.out 0
        have hfz8_1 := blk_frozen BK204.out 1
        have hfz8_2 := blk_frozen BK204.out 2
        go_wp2
        go_meet
        case rel => exact ⟨_, (decide ((l0_2.length : Int) > 64)), (by first | rfl | (simp; done) | (simp [*]; done)), H', ⟨by first | omega | exact Nat.le_refl _⟩, ⟨by (with_reducible repeat (first | refine blk_drewN ?_ _ | refine blk_drew ?_ | refine blk_alloc ?_ _)); exact BK204.out⟩, ⟨by repeat (first | (with_reducible first | exact HB.out | apply below_alloc | apply pw_below_drewN | apply below_drew1 | refine below_set ?_ GE204.out) | exact HB.out)⟩⟩
  case rest =>
    clear HC2
    try clear p2
    try clear c4
    try clear c4b0
    try clear c4b1
    try clear c6
    try clear c6b0
    try clear c6b1
    try clear c7
    try clear hcz5_0
    try clear hcz5_1
    try clear hcz5_2
    try clear hcz7_0
    try clear hcz7_1
    try clear hcz7_2
    try clear hcz8_0
    try clear hcz8_1
    try clear hcz8_2
    try clear hfz5_0
    try clear hfz5_1
    try clear hfz5_2
    try clear hfz7_0
    try clear hfz7_1
    try clear hfz7_2
    try clear hfz8_0
    try clear hfz8_1
    try clear hfz8_2
    obtain ⟨kq, x23_1, rfl, HA, HJ1, BK204, HB⟩ := hcut
    cases kq with
    | zero => exact absurd HA.out (by simp [spliceref09_May.j0])
    | succ kj1 =>
      have H := HA.out
      clear HA
      simp only [spliceref09_May.j0] at H
      by_cases c9 : x23_1 = true
      · subst c9
        have H1 : (some false) = some r := by rw [if_pos rfl] at H; exact H
        clear H
        have H := H1
        clear H1
        obtain rfl := Option.some.inj H
        go_wp2
        go_ret
        exact ⟨by first | rfl | (simp [errW_none, errW_some] <;> rfl) | (simp [*, errW_none, errW_some] <;> rfl), by repeat (first | (with_reducible first | exact HB.out | apply below_alloc | apply pw_below_drewN | apply below_drew1 | refine below_set ?_ GE204.out) | exact HB.out)⟩
      · replace c9 := Bool.eq_false_iff.mpr c9
        subst c9
        have H1 : (spliceref09_May.l0 kj1 0 l0_0 l0_1 l0_2) = some r := by rw [if_neg (show ¬ (false = true) by decide)] at H; exact H
        clear H
        have H := H1
        clear H1
        have H' := Aside0.mk H
        clear H
        go_wp2
        go_loopg [3] kj1 (fun kq v3 w' => ∃ (x3_2 : Int), v3 = .int .i64 x3_2 ∧ Aside0 (spliceref09_May.l0 kq x3_2 l0_0 l0_1 l0_2 = some r) ∧ Aside0 (kq ≤ kj1) ∧ Aside0 (w'.heap[gb204]? = some (.cells #[(.slice A0_0 l0_0.length c0_0), (.slice A0_1 l0_1.length c0_1), (.slice A0_2 l0_2.length c0_2)] 91 (0, 0))) ∧ Aside0 (Below w.heap.size w w'))
        case atStart => exact ⟨(0), (by first | rfl | (simp; done) | (simp [*]; done)), H', ⟨Nat.le_refl _⟩, ⟨by (with_reducible repeat (first | refine blk_drewN ?_ _ | refine blk_drew ?_ | refine blk_alloc ?_ _)); exact BK204.out⟩, ⟨by repeat (first | (with_reducible first | exact HB.out | apply below_alloc | apply pw_below_drewN | apply below_drew1 | refine below_set ?_ GE204.out) | exact HB.out)⟩⟩
        case round =>
          clear H'
          try clear p2
          try clear c4
          try clear c4b0
          try clear c4b1
          try clear c6
          try clear c6b0
          try clear c6b1
          try clear c7
          try clear c9
          try clear hcz5_0
          try clear hcz5_1
          try clear hcz5_2
          try clear hcz7_0
          try clear hcz7_1
          try clear hcz7_2
          try clear hcz8_0
          try clear hcz8_1
          try clear hcz8_2
          try clear hfz5_0
          try clear hfz5_1
          try clear hfz5_2
          try clear hfz7_0
          try clear hfz7_1
          try clear hfz7_2
          try clear hfz8_0
          try clear hfz8_1
          try clear hfz8_2
          try clear p2
          obtain ⟨x3_2, rfl, HA, HK2, BK204, HB⟩ := hrel
          cases gk with
          | zero => exact absurd HA.out (by simp [spliceref09_May.l0])
          | succ k2 =>
            have H := HA.out
            clear HA
            simp only [spliceref09_May.l0] at H
            by_cases c10 : x3_2 < (l0_0.length : Int)
            · rw [if_pos c10] at H
              have c10b0 : decide (x3_2 < (l0_0.length : Int)) = true := decide_eq_true c10
              clear c10
              by_cases c11 : 0 ≤ x3_2
              · rw [if_pos c11] at H
                have c11b0 : decide (0 ≤ x3_2) = true := decide_eq_true c11
                clear c11
                replace H := Option.bind_eq_some_iff.mp H
                obtain ⟨t207, A120, H⟩ := H
                replace H : (if t207 = true then (if ((rd_T124 l0_0 x3_2).f1) < 1 then (some false) else (if ((rd_T124 l0_0 x3_2).f1) > 255 then (some false) else (if (((rd_T124 l0_0 x3_2).f2).length : Int) > 2000 then (some false) else ((spliceref09_rels.f k2 ((rd_T124 l0_0 x3_2).f3)).bind fun t208 => (if t208 = true then (spliceref09_May.l0 k2 (wrap64 (x3_2 + 1)) l0_0 l0_1 l0_2) else (some false)))))) else (some false)) = some r := H
                have A12 := Aside0.mk A120
                clear A120
                by_cases c13 : t207 = true
                · subst c13
                  have H1 : (if ((rd_T124 l0_0 x3_2).f1) < 1 then (some false) else (if ((rd_T124 l0_0 x3_2).f1) > 255 then (some false) else (if (((rd_T124 l0_0 x3_2).f2).length : Int) > 2000 then (some false) else ((spliceref09_rels.f k2 ((rd_T124 l0_0 x3_2).f3)).bind fun t208 => (if t208 = true then (spliceref09_May.l0 k2 (wrap64 (x3_2 + 1)) l0_0 l0_1 l0_2) else (some false)))))) = some r := by rw [if_pos rfl] at H; exact H
                  clear H
                  have H := H1
                  clear H1
                  by_cases c14 : ((rd_T124 l0_0 x3_2).f1) < 1
                  · rw [if_pos c14] at H
                    have c14b0 : decide (((rd_T124 l0_0 x3_2).f1) < 1) = true := decide_eq_true c14
                    clear c14
                    obtain rfl := Option.some.inj H
                    have hcz15_0 : wr.cell? ⟨gb204, 0, none⟩ = some (.slice A0_0 l0_0.length c0_0) := (blk_cell BK204.out 0).trans rfl
                    have hcz15_1 : wr.cell? ⟨gb204, 1, none⟩ = some (.slice A0_1 l0_1.length c0_1) := (blk_cell BK204.out 1).trans rfl
                    have hcz15_2 : wr.cell? ⟨gb204, 2, none⟩ = some (.slice A0_2 l0_2.length c0_2) := (blk_cell BK204.out 2).trans rfl
                    have hfz15_0 := blk_frozen BK204.out 0
                    have hfz15_1 := blk_frozen BK204.out 1
                    have hfz15_2 := blk_frozen BK204.out 2
                    have p205 : 0 ≤ (x3_2 : Int) := of_decide_eq_true (by first | (with_reducible assumption) | assumption)
                    have q205 : x3_2 < (l0_0.length : Int) := of_decide_eq_true (by first | (with_reducible assumption) | assumption)
                    obtain ⟨ad205, A205_2, c205_2, A205_3, c205_3, e205, hx205_0, hx205_1, hx205_2, hx205_3, hl205_2, hi205_2, hl205_3, hi205_3⟩ := at_T124 HR0_0.out x3_2 p205 q205
                    cases e205
                    replace hx205_0 := (HB.out.cell (World.block_lt_of_cell? w _ hx205_0)).trans hx205_0
                    replace hx205_1 := (HB.out.cell (World.block_lt_of_cell? w _ hx205_1)).trans hx205_1
                    replace hx205_2 := (HB.out.cell (World.block_lt_of_cell? w _ hx205_2)).trans hx205_2
                    replace hx205_3 := (HB.out.cell (World.block_lt_of_cell? w _ hx205_3)).trans hx205_3
                    have HR205_2 := Aside0.mk hi205_2
                    have HC205_2 := Aside0.mk hl205_2
                    clear hi205_2 hl205_2
                    have HR205_3 := Aside0.mk hi205_3
                    have HC205_3 := Aside0.mk hl205_3
                    clear hi205_3 hl205_3
                    replace p205 := eq_true p205
                    replace q205 := eq_true q205
                    go_wp2_with (first | ((with_reducible refine gate_dst (N := 4) rfl ?_); (try (refine gate_guard (by rfl) ?_; dsimp only)); refine box_event ?hg (N := 4) ?hd (cs := #[.string (⟨#[]⟩ : ByteArray), .int .i64 0, .slice none 0 0, .slice none 0 0]) (t := 124) ?hr ?_; (case hd => rfl); (case hg => rfl); (case hr => first | (go_simp; done) | (go_simp; rfl)); intro gb206 hg w16 hbox hb; have n0_ := Aside0.mk (blk_below (g := gb204) (o := .cells #[.slice (some ad205) l0_0.length c0_0, .slice A0_1 l0_1.length c0_1, .slice A0_2 l0_2.length c0_2] 91 (0, 0)) (by (with_reducible repeat (first | refine blk_drewN ?_ _ | refine blk_drew ?_ | refine blk_alloc ?_ _)); exact BK204.out) hb); have n1_ := Aside0.mk (below_step (by repeat (first | (with_reducible first | exact HB.out | apply below_alloc | apply pw_below_drewN | apply below_drew1 | refine below_set ?_ GE204.out) | exact HB.out)) hb); have n2_ := Aside0.mk (hbox); have n3_ := Aside0.mk ((by rw [hg]; exact (below_size (by repeat (first | (with_reducible first | exact HB.out | apply below_alloc | apply pw_below_drewN | apply below_drew1 | refine below_set ?_ GE204.out) | exact HB.out))) : w.heap.size ≤ gb206)); have n4_ := Aside0.mk ((by rw [hg]; exact (below_size (by repeat (first | (with_reducible first | exact HB.out | apply below_alloc | apply pw_below_drewN | apply below_drew1 | refine below_set ?_ GE204.out) | exact HB.out))) : w.heap.size ≤ gb206)); have n5_ := Aside0.mk ((by rw [hg]; exact Nat.ne_of_lt (blk_lt (g := gb204) (o := .cells #[.slice (some ad205) l0_0.length c0_0, .slice A0_1 l0_1.length c0_1, .slice A0_2 l0_2.length c0_2] 91 (0, 0)) (by (with_reducible repeat (first | refine blk_drewN ?_ _ | refine blk_drew ?_ | refine blk_alloc ?_ _)); exact BK204.out)) : gb204 ≠ gb206)); have n6_ := Aside0.mk ((by rw [hg]; exact Nat.ne_of_gt (blk_lt (g := gb204) (o := .cells #[.slice (some ad205) l0_0.length c0_0, .slice A0_1 l0_1.length c0_1, .slice A0_2 l0_2.length c0_2] 91 (0, 0)) (by (with_reducible repeat (first | refine blk_drewN ?_ _ | refine blk_drew ?_ | refine blk_alloc ?_ _)); exact BK204.out)) : gb206 ≠ gb204)); clear BK204; clear HB; have BK204 := n0_; have HB := n1_; have BK206 := n2_; have GW206 := n3_; have GE206 := n4_; have NB204_206 := n5_; have NB206_204 := n6_; clear n0_ n1_ n2_ n3_ n4_ n5_ n6_; clear hb hbox hg; have hnb17 := NB206_204.out; have hnc17 := NB204_206.out; have hcz18_0 : w16.cell? ⟨gb206, 0, none⟩ = some (.string (⟨#[]⟩ : ByteArray)) := (blk_cell BK206.out 0).trans rfl; have hcz18_1 : w16.cell? ⟨gb206, 1, none⟩ = some (.int .i64 0) := (blk_cell BK206.out 1).trans rfl; have hcz18_2 : w16.cell? ⟨gb206, 2, none⟩ = some (.slice none 0 0) := (blk_cell BK206.out 2).trans rfl; have hcz18_3 : w16.cell? ⟨gb206, 3, none⟩ = some (.slice none 0 0) := (blk_cell BK206.out 3).trans rfl; have hfz18_0 := blk_frozen BK206.out 0; have hfz18_1 := blk_frozen BK206.out 1; have hfz18_2 := blk_frozen BK206.out 2; have hfz18_3 := blk_frozen BK206.out 3) | ((with_reducible refine gate_callee (f := 108) rfl ?_); refine goesL_ (some 38) rfl rfl Try.func108 (by kernel_rfl) rfl #[.string ((rd_T124 l0_0 x3_2).f0)] rfl (by (try simp only [List.map_toArray, List.map_cons, List.map_nil]); first | done | rfl | (simp only [List.length_drop, List.length_take]; rfl)) ?_; (with_reducible refine (spliceref09_named.calls k2 ((rd_T124 l0_0 x3_2).f0) true _ A12.out).mono ?_); rintro e w' ⟨rfl, ⟨nd, rfl⟩⟩; refine ⟨_, rfl, ?_⟩))
                    go_ret
                    exact ⟨by first | rfl | (simp [errW_none, errW_some] <;> rfl) | (simp [*, errW_none, errW_some] <;> rfl), by repeat (first | (with_reducible first | exact HB.out | apply below_alloc | apply pw_below_drewN | apply below_drew1 | refine below_set ?_ GE204.out | refine below_set ?_ GE206.out) | exact HB.out)⟩
                  · rw [if_neg c14] at H
                    have c14b0 : decide (((rd_T124 l0_0 x3_2).f1) < 1) = false := decide_eq_false c14
                    clear c14
                    by_cases c19 : ((rd_T124 l0_0 x3_2).f1) > 255
                    · rw [if_pos c19] at H
                      have c19b0 : decide (255 < ((rd_T124 l0_0 x3_2).f1)) = true := decide_eq_true c19
                      clear c19
                      obtain rfl := Option.some.inj H
                      have hcz20_0 : wr.cell? ⟨gb204, 0, none⟩ = some (.slice A0_0 l0_0.length c0_0) := (blk_cell BK204.out 0).trans rfl
                      have hcz20_1 : wr.cell? ⟨gb204, 1, none⟩ = some (.slice A0_1 l0_1.length c0_1) := (blk_cell BK204.out 1).trans rfl
                      have hcz20_2 : wr.cell? ⟨gb204, 2, none⟩ = some (.slice A0_2 l0_2.length c0_2) := (blk_cell BK204.out 2).trans rfl
                      have hfz20_0 := blk_frozen BK204.out 0
                      have hfz20_1 := blk_frozen BK204.out 1
                      have hfz20_2 := blk_frozen BK204.out 2
                      have p205 : 0 ≤ (x3_2 : Int) := of_decide_eq_true (by first | (with_reducible assumption) | assumption)
                      have q205 : x3_2 < (l0_0.length : Int) := of_decide_eq_true (by first | (with_reducible assumption) | assumption)
                      obtain ⟨ad205, A205_2, c205_2, A205_3, c205_3, e205, hx205_0, hx205_1, hx205_2, hx205_3, hl205_2, hi205_2, hl205_3, hi205_3⟩ := at_T124 HR0_0.out x3_2 p205 q205
                      cases e205
                      replace hx205_0 := (HB.out.cell (World.block_lt_of_cell? w _ hx205_0)).trans hx205_0
                      replace hx205_1 := (HB.out.cell (World.block_lt_of_cell? w _ hx205_1)).trans hx205_1
                      replace hx205_2 := (HB.out.cell (World.block_lt_of_cell? w _ hx205_2)).trans hx205_2
                      replace hx205_3 := (HB.out.cell (World.block_lt_of_cell? w _ hx205_3)).trans hx205_3
                      have HR205_2 := Aside0.mk hi205_2
                      have HC205_2 := Aside0.mk hl205_2
                      clear hi205_2 hl205_2
                      have HR205_3 := Aside0.mk hi205_3
                      have HC205_3 := Aside0.mk hl205_3
                      clear hi205_3 hl205_3
                      replace p205 := eq_true p205
                      replace q205 := eq_true q205
                      go_wp2_with (first | ((with_reducible refine gate_dst (N := 4) rfl ?_); (try (refine gate_guard (by rfl) ?_; dsimp only)); refine box_event ?hg (N := 4) ?hd (cs := #[.string (⟨#[]⟩ : ByteArray), .int .i64 0, .slice none 0 0, .slice none 0 0]) (t := 124) ?hr ?_; (case hd => rfl); (case hg => rfl); (case hr => first | (go_simp; done) | (go_simp; rfl)); intro gb206 hg w21 hbox hb; have n0_ := Aside0.mk (blk_below (g := gb204) (o := .cells #[.slice (some ad205) l0_0.length c0_0, .slice A0_1 l0_1.length c0_1, .slice A0_2 l0_2.length c0_2] 91 (0, 0)) (by (with_reducible repeat (first | refine blk_drewN ?_ _ | refine blk_drew ?_ | refine blk_alloc ?_ _)); exact BK204.out) hb); have n1_ := Aside0.mk (below_step (by repeat (first | (with_reducible first | exact HB.out | apply below_alloc | apply pw_below_drewN | apply below_drew1 | refine below_set ?_ GE204.out) | exact HB.out)) hb); have n2_ := Aside0.mk (hbox); have n3_ := Aside0.mk ((by rw [hg]; exact (below_size (by repeat (first | (with_reducible first | exact HB.out | apply below_alloc | apply pw_below_drewN | apply below_drew1 | refine below_set ?_ GE204.out) | exact HB.out))) : w.heap.size ≤ gb206)); have n4_ := Aside0.mk ((by rw [hg]; exact (below_size (by repeat (first | (with_reducible first | exact HB.out | apply below_alloc | apply pw_below_drewN | apply below_drew1 | refine below_set ?_ GE204.out) | exact HB.out))) : w.heap.size ≤ gb206)); have n5_ := Aside0.mk ((by rw [hg]; exact Nat.ne_of_lt (blk_lt (g := gb204) (o := .cells #[.slice (some ad205) l0_0.length c0_0, .slice A0_1 l0_1.length c0_1, .slice A0_2 l0_2.length c0_2] 91 (0, 0)) (by (with_reducible repeat (first | refine blk_drewN ?_ _ | refine blk_drew ?_ | refine blk_alloc ?_ _)); exact BK204.out)) : gb204 ≠ gb206)); have n6_ := Aside0.mk ((by rw [hg]; exact Nat.ne_of_gt (blk_lt (g := gb204) (o := .cells #[.slice (some ad205) l0_0.length c0_0, .slice A0_1 l0_1.length c0_1, .slice A0_2 l0_2.length c0_2] 91 (0, 0)) (by (with_reducible repeat (first | refine blk_drewN ?_ _ | refine blk_drew ?_ | refine blk_alloc ?_ _)); exact BK204.out)) : gb206 ≠ gb204)); clear BK204; clear HB; have BK204 := n0_; have HB := n1_; have BK206 := n2_; have GW206 := n3_; have GE206 := n4_; have NB204_206 := n5_; have NB206_204 := n6_; clear n0_ n1_ n2_ n3_ n4_ n5_ n6_; clear hb hbox hg; have hnb22 := NB206_204.out; have hnc22 := NB204_206.out; have hcz23_0 : w21.cell? ⟨gb206, 0, none⟩ = some (.string (⟨#[]⟩ : ByteArray)) := (blk_cell BK206.out 0).trans rfl; have hcz23_1 : w21.cell? ⟨gb206, 1, none⟩ = some (.int .i64 0) := (blk_cell BK206.out 1).trans rfl; have hcz23_2 : w21.cell? ⟨gb206, 2, none⟩ = some (.slice none 0 0) := (blk_cell BK206.out 2).trans rfl; have hcz23_3 : w21.cell? ⟨gb206, 3, none⟩ = some (.slice none 0 0) := (blk_cell BK206.out 3).trans rfl; have hfz23_0 := blk_frozen BK206.out 0; have hfz23_1 := blk_frozen BK206.out 1; have hfz23_2 := blk_frozen BK206.out 2; have hfz23_3 := blk_frozen BK206.out 3) | ((with_reducible refine gate_callee (f := 108) rfl ?_); refine goesL_ (some 38) rfl rfl Try.func108 (by kernel_rfl) rfl #[.string ((rd_T124 l0_0 x3_2).f0)] rfl (by (try simp only [List.map_toArray, List.map_cons, List.map_nil]); first | done | rfl | (simp only [List.length_drop, List.length_take]; rfl)) ?_; (with_reducible refine (spliceref09_named.calls k2 ((rd_T124 l0_0 x3_2).f0) true _ A12.out).mono ?_); rintro e w' ⟨rfl, ⟨nd, rfl⟩⟩; refine ⟨_, rfl, ?_⟩))
                      go_ret
                      exact ⟨by first | rfl | (simp [errW_none, errW_some] <;> rfl) | (simp [*, errW_none, errW_some] <;> rfl), by repeat (first | (with_reducible first | exact HB.out | apply below_alloc | apply pw_below_drewN | apply below_drew1 | refine below_set ?_ GE204.out | refine below_set ?_ GE206.out) | exact HB.out)⟩
                    · rw [if_neg c19] at H
                      have c19b0 : decide (255 < ((rd_T124 l0_0 x3_2).f1)) = false := decide_eq_false c19
                      clear c19
                      by_cases c24 : (((rd_T124 l0_0 x3_2).f2).length : Int) > 2000
                      · rw [if_pos c24] at H
                        have c24b0 : decide (2000 < (((rd_T124 l0_0 x3_2).f2).length : Int)) = true := decide_eq_true c24
                        have c24b1 : decide (2000 < ((rd_T124 l0_0 x3_2).f2).length) = true := decide_eq_true (by omega)
                        clear c24
                        obtain rfl := Option.some.inj H
                        have hcz25_0 : wr.cell? ⟨gb204, 0, none⟩ = some (.slice A0_0 l0_0.length c0_0) := (blk_cell BK204.out 0).trans rfl
                        have hcz25_1 : wr.cell? ⟨gb204, 1, none⟩ = some (.slice A0_1 l0_1.length c0_1) := (blk_cell BK204.out 1).trans rfl
                        have hcz25_2 : wr.cell? ⟨gb204, 2, none⟩ = some (.slice A0_2 l0_2.length c0_2) := (blk_cell BK204.out 2).trans rfl
                        have hfz25_0 := blk_frozen BK204.out 0
                        have hfz25_1 := blk_frozen BK204.out 1
                        have hfz25_2 := blk_frozen BK204.out 2
                        have p205 : 0 ≤ (x3_2 : Int) := of_decide_eq_true (by first | (with_reducible assumption) | assumption)
                        have q205 : x3_2 < (l0_0.length : Int) := of_decide_eq_true (by first | (with_reducible assumption) | assumption)
                        obtain ⟨ad205, A205_2, c205_2, A205_3, c205_3, e205, hx205_0, hx205_1, hx205_2, hx205_3, hl205_2, hi205_2, hl205_3, hi205_3⟩ := at_T124 HR0_0.out x3_2 p205 q205
                        cases e205
                        replace hx205_0 := (HB.out.cell (World.block_lt_of_cell? w _ hx205_0)).trans hx205_0
                        replace hx205_1 := (HB.out.cell (World.block_lt_of_cell? w _ hx205_1)).trans hx205_1
                        replace hx205_2 := (HB.out.cell (World.block_lt_of_cell? w _ hx205_2)).trans hx205_2
                        replace hx205_3 := (HB.out.cell (World.block_lt_of_cell? w _ hx205_3)).trans hx205_3
                        have HR205_2 := Aside0.mk hi205_2
                        have HC205_2 := Aside0.mk hl205_2
                        clear hi205_2 hl205_2
                        have HR205_3 := Aside0.mk hi205_3
                        have HC205_3 := Aside0.mk hl205_3
                        clear hi205_3 hl205_3
                        replace p205 := eq_true p205
                        replace q205 := eq_true q205
                        go_wp2_with (first | ((with_reducible refine gate_dst (N := 4) rfl ?_); (try (refine gate_guard (by rfl) ?_; dsimp only)); refine box_event ?hg (N := 4) ?hd (cs := #[.string (⟨#[]⟩ : ByteArray), .int .i64 0, .slice none 0 0, .slice none 0 0]) (t := 124) ?hr ?_; (case hd => rfl); (case hg => rfl); (case hr => first | (go_simp; done) | (go_simp; rfl)); intro gb206 hg w26 hbox hb; have n0_ := Aside0.mk (blk_below (g := gb204) (o := .cells #[.slice (some ad205) l0_0.length c0_0, .slice A0_1 l0_1.length c0_1, .slice A0_2 l0_2.length c0_2] 91 (0, 0)) (by (with_reducible repeat (first | refine blk_drewN ?_ _ | refine blk_drew ?_ | refine blk_alloc ?_ _)); exact BK204.out) hb); have n1_ := Aside0.mk (below_step (by repeat (first | (with_reducible first | exact HB.out | apply below_alloc | apply pw_below_drewN | apply below_drew1 | refine below_set ?_ GE204.out) | exact HB.out)) hb); have n2_ := Aside0.mk (hbox); have n3_ := Aside0.mk ((by rw [hg]; exact (below_size (by repeat (first | (with_reducible first | exact HB.out | apply below_alloc | apply pw_below_drewN | apply below_drew1 | refine below_set ?_ GE204.out) | exact HB.out))) : w.heap.size ≤ gb206)); have n4_ := Aside0.mk ((by rw [hg]; exact (below_size (by repeat (first | (with_reducible first | exact HB.out | apply below_alloc | apply pw_below_drewN | apply below_drew1 | refine below_set ?_ GE204.out) | exact HB.out))) : w.heap.size ≤ gb206)); have n5_ := Aside0.mk ((by rw [hg]; exact Nat.ne_of_lt (blk_lt (g := gb204) (o := .cells #[.slice (some ad205) l0_0.length c0_0, .slice A0_1 l0_1.length c0_1, .slice A0_2 l0_2.length c0_2] 91 (0, 0)) (by (with_reducible repeat (first | refine blk_drewN ?_ _ | refine blk_drew ?_ | refine blk_alloc ?_ _)); exact BK204.out)) : gb204 ≠ gb206)); have n6_ := Aside0.mk ((by rw [hg]; exact Nat.ne_of_gt (blk_lt (g := gb204) (o := .cells #[.slice (some ad205) l0_0.length c0_0, .slice A0_1 l0_1.length c0_1, .slice A0_2 l0_2.length c0_2] 91 (0, 0)) (by (with_reducible repeat (first | refine blk_drewN ?_ _ | refine blk_drew ?_ | refine blk_alloc ?_ _)); exact BK204.out)) : gb206 ≠ gb204)); clear BK204; clear HB; have BK204 := n0_; have HB := n1_; have BK206 := n2_; have GW206 := n3_; have GE206 := n4_; have NB204_206 := n5_; have NB206_204 := n6_; clear n0_ n1_ n2_ n3_ n4_ n5_ n6_; clear hb hbox hg; have hnb27 := NB206_204.out; have hnc27 := NB204_206.out; have hcz28_0 : w26.cell? ⟨gb206, 0, none⟩ = some (.string (⟨#[]⟩ : ByteArray)) := (blk_cell BK206.out 0).trans rfl; have hcz28_1 : w26.cell? ⟨gb206, 1, none⟩ = some (.int .i64 0) := (blk_cell BK206.out 1).trans rfl; have hcz28_2 : w26.cell? ⟨gb206, 2, none⟩ = some (.slice none 0 0) := (blk_cell BK206.out 2).trans rfl; have hcz28_3 : w26.cell? ⟨gb206, 3, none⟩ = some (.slice none 0 0) := (blk_cell BK206.out 3).trans rfl; have hfz28_0 := blk_frozen BK206.out 0; have hfz28_1 := blk_frozen BK206.out 1; have hfz28_2 := blk_frozen BK206.out 2; have hfz28_3 := blk_frozen BK206.out 3) | ((with_reducible refine gate_callee (f := 108) rfl ?_); refine goesL_ (some 38) rfl rfl Try.func108 (by kernel_rfl) rfl #[.string ((rd_T124 l0_0 x3_2).f0)] rfl (by (try simp only [List.map_toArray, List.map_cons, List.map_nil]); first | done | rfl | (simp only [List.length_drop, List.length_take]; rfl)) ?_; (with_reducible refine (spliceref09_named.calls k2 ((rd_T124 l0_0 x3_2).f0) true _ A12.out).mono ?_); rintro e w' ⟨rfl, ⟨nd, rfl⟩⟩; refine ⟨_, rfl, ?_⟩))
                        go_ret
                        exact ⟨by first | rfl | (simp [errW_none, errW_some] <;> rfl) | (simp [*, errW_none, errW_some] <;> rfl), by repeat (first | (with_reducible first | exact HB.out | apply below_alloc | apply pw_below_drewN | apply below_drew1 | refine below_set ?_ GE204.out | refine below_set ?_ GE206.out) | exact HB.out)⟩
                      · rw [if_neg c24] at H
                        have c24b0 : decide (2000 < (((rd_T124 l0_0 x3_2).f2).length : Int)) = false := decide_eq_false c24
                        have c24b1 : decide (2000 < ((rd_T124 l0_0 x3_2).f2).length) = false := decide_eq_false (by omega)
                        clear c24
                        replace H := Option.bind_eq_some_iff.mp H
                        obtain ⟨t208, A290, H⟩ := H
                        replace H : (if t208 = true then (spliceref09_May.l0 k2 (wrap64 (x3_2 + 1)) l0_0 l0_1 l0_2) else (some false)) = some r := H
                        have A29 := Aside0.mk A290
                        clear A290
                        by_cases c30 : t208 = true
                        · subst c30
                          have H1 : (spliceref09_May.l0 k2 (wrap64 (x3_2 + 1)) l0_0 l0_1 l0_2) = some r := by rw [if_pos rfl] at H; exact H
                          clear H
                          have H := H1
                          clear H1
                          have H' := Aside0.mk H
                          clear H
                          have hcz31_0 : wr.cell? ⟨gb204, 0, none⟩ = some (.slice A0_0 l0_0.length c0_0) := (blk_cell BK204.out 0).trans rfl
                          have hcz31_1 : wr.cell? ⟨gb204, 1, none⟩ = some (.slice A0_1 l0_1.length c0_1) := (blk_cell BK204.out 1).trans rfl
                          have hcz31_2 : wr.cell? ⟨gb204, 2, none⟩ = some (.slice A0_2 l0_2.length c0_2) := (blk_cell BK204.out 2).trans rfl
                          have hfz31_0 := blk_frozen BK204.out 0
                          have hfz31_1 := blk_frozen BK204.out 1
                          have hfz31_2 := blk_frozen BK204.out 2
                          have p205 : 0 ≤ (x3_2 : Int) := of_decide_eq_true (by first | (with_reducible assumption) | assumption)
                          have q205 : x3_2 < (l0_0.length : Int) := of_decide_eq_true (by first | (with_reducible assumption) | assumption)
                          obtain ⟨ad205, A205_2, c205_2, A205_3, c205_3, e205, hx205_0, hx205_1, hx205_2, hx205_3, hl205_2, hi205_2, hl205_3, hi205_3⟩ := at_T124 HR0_0.out x3_2 p205 q205
                          cases e205
                          replace hx205_0 := (HB.out.cell (World.block_lt_of_cell? w _ hx205_0)).trans hx205_0
                          replace hx205_1 := (HB.out.cell (World.block_lt_of_cell? w _ hx205_1)).trans hx205_1
                          replace hx205_2 := (HB.out.cell (World.block_lt_of_cell? w _ hx205_2)).trans hx205_2
                          replace hx205_3 := (HB.out.cell (World.block_lt_of_cell? w _ hx205_3)).trans hx205_3
                          have HR205_2 := Aside0.mk hi205_2
                          have HC205_2 := Aside0.mk hl205_2
                          clear hi205_2 hl205_2
                          have HR205_3 := Aside0.mk hi205_3
                          have HC205_3 := Aside0.mk hl205_3
                          clear hi205_3 hl205_3
                          replace p205 := eq_true p205
                          replace q205 := eq_true q205
                          go_wp2_with (first | ((with_reducible refine gate_dst (N := 4) rfl ?_); (try (refine gate_guard (by rfl) ?_; dsimp only)); refine box_event ?hg (N := 4) ?hd (cs := #[.string (⟨#[]⟩ : ByteArray), .int .i64 0, .slice none 0 0, .slice none 0 0]) (t := 124) ?hr ?_; (case hd => rfl); (case hg => rfl); (case hr => first | (go_simp; done) | (go_simp; rfl)); intro gb206 hg w32 hbox hb; have n0_ := Aside0.mk (blk_below (g := gb204) (o := .cells #[.slice (some ad205) l0_0.length c0_0, .slice A0_1 l0_1.length c0_1, .slice A0_2 l0_2.length c0_2] 91 (0, 0)) (by (with_reducible repeat (first | refine blk_drewN ?_ _ | refine blk_drew ?_ | refine blk_alloc ?_ _)); exact BK204.out) hb); have n1_ := Aside0.mk (below_step (by repeat (first | (with_reducible first | exact HB.out | apply below_alloc | apply pw_below_drewN | apply below_drew1 | refine below_set ?_ GE204.out) | exact HB.out)) hb); have n2_ := Aside0.mk (hbox); have n3_ := Aside0.mk ((by rw [hg]; exact (below_size (by repeat (first | (with_reducible first | exact HB.out | apply below_alloc | apply pw_below_drewN | apply below_drew1 | refine below_set ?_ GE204.out) | exact HB.out))) : w.heap.size ≤ gb206)); have n4_ := Aside0.mk ((by rw [hg]; exact (below_size (by repeat (first | (with_reducible first | exact HB.out | apply below_alloc | apply pw_below_drewN | apply below_drew1 | refine below_set ?_ GE204.out) | exact HB.out))) : w.heap.size ≤ gb206)); have n5_ := Aside0.mk ((by rw [hg]; exact Nat.ne_of_lt (blk_lt (g := gb204) (o := .cells #[.slice (some ad205) l0_0.length c0_0, .slice A0_1 l0_1.length c0_1, .slice A0_2 l0_2.length c0_2] 91 (0, 0)) (by (with_reducible repeat (first | refine blk_drewN ?_ _ | refine blk_drew ?_ | refine blk_alloc ?_ _)); exact BK204.out)) : gb204 ≠ gb206)); have n6_ := Aside0.mk ((by rw [hg]; exact Nat.ne_of_gt (blk_lt (g := gb204) (o := .cells #[.slice (some ad205) l0_0.length c0_0, .slice A0_1 l0_1.length c0_1, .slice A0_2 l0_2.length c0_2] 91 (0, 0)) (by (with_reducible repeat (first | refine blk_drewN ?_ _ | refine blk_drew ?_ | refine blk_alloc ?_ _)); exact BK204.out)) : gb206 ≠ gb204)); clear BK204; clear HB; have BK204 := n0_; have HB := n1_; have BK206 := n2_; have GW206 := n3_; have GE206 := n4_; have NB204_206 := n5_; have NB206_204 := n6_; clear n0_ n1_ n2_ n3_ n4_ n5_ n6_; clear hb hbox hg; have hnb33 := NB206_204.out; have hnc33 := NB204_206.out; have hcz34_0 : w32.cell? ⟨gb206, 0, none⟩ = some (.string (⟨#[]⟩ : ByteArray)) := (blk_cell BK206.out 0).trans rfl; have hcz34_1 : w32.cell? ⟨gb206, 1, none⟩ = some (.int .i64 0) := (blk_cell BK206.out 1).trans rfl; have hcz34_2 : w32.cell? ⟨gb206, 2, none⟩ = some (.slice none 0 0) := (blk_cell BK206.out 2).trans rfl; have hcz34_3 : w32.cell? ⟨gb206, 3, none⟩ = some (.slice none 0 0) := (blk_cell BK206.out 3).trans rfl; have hfz34_0 := blk_frozen BK206.out 0; have hfz34_1 := blk_frozen BK206.out 1; have hfz34_2 := blk_frozen BK206.out 2; have hfz34_3 := blk_frozen BK206.out 3) | ((with_reducible refine gate_callee (f := 108) rfl ?_); refine goesL_ (some 38) rfl rfl Try.func108 (by kernel_rfl) rfl #[.string ((rd_T124 l0_0 x3_2).f0)] rfl (by (try simp only [List.map_toArray, List.map_cons, List.map_nil]); first | done | rfl | (simp only [List.length_drop, List.length_take]; rfl)) ?_; (with_reducible refine (spliceref09_named.calls k2 ((rd_T124 l0_0 x3_2).f0) true _ A12.out).mono ?_); rintro e w' ⟨rfl, ⟨nd, rfl⟩⟩; refine ⟨_, rfl, ?_⟩) | (go_at_call 109; (with_reducible refine (spliceref09_rels.calls k2 _ _ ((rd_T124 l0_0 x3_2).f3) true _ ?side1 ?side2 A29.out).mono ?_); (case side1 => exact Kd.C_below HR205_3.out (by repeat (first | (with_reducible first | exact HB.out | apply below_alloc | apply pw_below_drewN | apply below_drew1 | refine below_set ?_ GE204.out | refine below_set ?_ GE206.out) | exact HB.out))); (case side2 => exact HC205_3.out); rintro e w35 ⟨rfl, hb⟩; have n0_ := Aside0.mk (blk_below (g := gb204) (o := .cells #[.slice (some ad205) l0_0.length c0_0, .slice A0_1 l0_1.length c0_1, .slice A0_2 l0_2.length c0_2] 91 (0, 0)) (by (with_reducible repeat (first | refine blk_drewN ?_ _ | refine blk_drew ?_ | refine blk_alloc ?_ _)); refine blk_far ?_ NB204_206.out _; (with_reducible repeat (first | refine blk_drewN ?_ _ | refine blk_drew ?_ | refine blk_alloc ?_ _)); refine blk_far ?_ NB204_206.out _; (with_reducible repeat (first | refine blk_drewN ?_ _ | refine blk_drew ?_ | refine blk_alloc ?_ _)); refine blk_far ?_ NB204_206.out _; (with_reducible repeat (first | refine blk_drewN ?_ _ | refine blk_drew ?_ | refine blk_alloc ?_ _)); refine blk_far ?_ NB204_206.out _; (with_reducible repeat (first | refine blk_drewN ?_ _ | refine blk_drew ?_ | refine blk_alloc ?_ _)); exact BK204.out) hb); have n1_ := Aside0.mk (blk_below (g := gb206) (o := .cells #[.string ((rd_T124 l0_0 x3_2).f0), .int .i64 ((rd_T124 l0_0 x3_2).f1), .slice A205_2 ((rd_T124 l0_0 x3_2).f2).length c205_2, .slice A205_3 ((rd_T124 l0_0 x3_2).f3).length c205_3] 124 (0, 0)) (by (with_reducible repeat (first | refine blk_drewN ?_ _ | refine blk_drew ?_ | refine blk_alloc ?_ _)); refine blk_put (cs := #[.string ((rd_T124 l0_0 x3_2).f0), .int .i64 ((rd_T124 l0_0 x3_2).f1), .slice A205_2 ((rd_T124 l0_0 x3_2).f2).length c205_2, .slice none 0 0]) ?_ 3 _ rfl; (with_reducible repeat (first | refine blk_drewN ?_ _ | refine blk_drew ?_ | refine blk_alloc ?_ _)); refine blk_put (cs := #[.string ((rd_T124 l0_0 x3_2).f0), .int .i64 ((rd_T124 l0_0 x3_2).f1), .slice none 0 0, .slice none 0 0]) ?_ 2 _ rfl; (with_reducible repeat (first | refine blk_drewN ?_ _ | refine blk_drew ?_ | refine blk_alloc ?_ _)); refine blk_put (cs := #[.string ((rd_T124 l0_0 x3_2).f0), .int .i64 0, .slice none 0 0, .slice none 0 0]) ?_ 1 _ rfl; (with_reducible repeat (first | refine blk_drewN ?_ _ | refine blk_drew ?_ | refine blk_alloc ?_ _)); refine blk_put (cs := #[.string (⟨#[]⟩ : ByteArray), .int .i64 0, .slice none 0 0, .slice none 0 0]) ?_ 0 _ rfl; (with_reducible repeat (first | refine blk_drewN ?_ _ | refine blk_drew ?_ | refine blk_alloc ?_ _)); exact BK206.out) hb); have n2_ := Aside0.mk (below_step (by repeat (first | (with_reducible first | exact HB.out | apply below_alloc | apply pw_below_drewN | apply below_drew1 | refine below_set ?_ GE204.out | refine below_set ?_ GE206.out) | exact HB.out)) hb); clear BK204; clear BK206; clear HB; have BK204 := n0_; have BK206 := n1_; have HB := n2_; clear n0_ n1_ n2_; (try clear hb); (try clear hb2); (try clear hk); (try clear hi)))
                          go_roundg k2
                          case measure => have := HJ1.out; have := HK2.out; omega
                          case rel => exact ⟨(wrap64 (x3_2 + 1)), (by first | rfl | (simp; done) | (simp [*]; done)), H', ⟨by have := HJ1.out; have := HK2.out; omega⟩, ⟨by (with_reducible repeat (first | refine blk_drewN ?_ _ | refine blk_drew ?_ | refine blk_alloc ?_ _)); exact BK204.out⟩, ⟨by repeat (first | (with_reducible first | exact HB.out | apply below_alloc | apply pw_below_drewN | apply below_drew1 | refine below_set ?_ GE204.out | refine below_set ?_ GE206.out) | exact HB.out)⟩⟩
                        · replace c30 := Bool.eq_false_iff.mpr c30
                          subst c30
                          have H1 : (some false) = some r := by rw [if_neg (show ¬ (false = true) by decide)] at H; exact H
                          clear H
                          have H := H1
                          clear H1
                          obtain rfl := Option.some.inj H
                          have hcz36_0 : wr.cell? ⟨gb204, 0, none⟩ = some (.slice A0_0 l0_0.length c0_0) := (blk_cell BK204.out 0).trans rfl
                          have hcz36_1 : wr.cell? ⟨gb204, 1, none⟩ = some (.slice A0_1 l0_1.length c0_1) := (blk_cell BK204.out 1).trans rfl
                          have hcz36_2 : wr.cell? ⟨gb204, 2, none⟩ = some (.slice A0_2 l0_2.length c0_2) := (blk_cell BK204.out 2).trans rfl
                          have hfz36_0 := blk_frozen BK204.out 0
                          have hfz36_1 := blk_frozen BK204.out 1
                          have hfz36_2 := blk_frozen BK204.out 2
                          have p205 : 0 ≤ (x3_2 : Int) := of_decide_eq_true (by first | (with_reducible assumption) | assumption)
                          have q205 : x3_2 < (l0_0.length : Int) := of_decide_eq_true (by first | (with_reducible assumption) | assumption)
                          obtain ⟨ad205, A205_2, c205_2, A205_3, c205_3, e205, hx205_0, hx205_1, hx205_2, hx205_3, hl205_2, hi205_2, hl205_3, hi205_3⟩ := at_T124 HR0_0.out x3_2 p205 q205
                          cases e205
                          replace hx205_0 := (HB.out.cell (World.block_lt_of_cell? w _ hx205_0)).trans hx205_0
                          replace hx205_1 := (HB.out.cell (World.block_lt_of_cell? w _ hx205_1)).trans hx205_1
                          replace hx205_2 := (HB.out.cell (World.block_lt_of_cell? w _ hx205_2)).trans hx205_2
                          replace hx205_3 := (HB.out.cell (World.block_lt_of_cell? w _ hx205_3)).trans hx205_3
                          have HR205_2 := Aside0.mk hi205_2
                          have HC205_2 := Aside0.mk hl205_2
                          clear hi205_2 hl205_2
                          have HR205_3 := Aside0.mk hi205_3
                          have HC205_3 := Aside0.mk hl205_3
                          clear hi205_3 hl205_3
                          replace p205 := eq_true p205
                          replace q205 := eq_true q205
                          go_wp2_with (first | ((with_reducible refine gate_dst (N := 4) rfl ?_); (try (refine gate_guard (by rfl) ?_; dsimp only)); refine box_event ?hg (N := 4) ?hd (cs := #[.string (⟨#[]⟩ : ByteArray), .int .i64 0, .slice none 0 0, .slice none 0 0]) (t := 124) ?hr ?_; (case hd => rfl); (case hg => rfl); (case hr => first | (go_simp; done) | (go_simp; rfl)); intro gb206 hg w37 hbox hb; have n0_ := Aside0.mk (blk_below (g := gb204) (o := .cells #[.slice (some ad205) l0_0.length c0_0, .slice A0_1 l0_1.length c0_1, .slice A0_2 l0_2.length c0_2] 91 (0, 0)) (by (with_reducible repeat (first | refine blk_drewN ?_ _ | refine blk_drew ?_ | refine blk_alloc ?_ _)); exact BK204.out) hb); have n1_ := Aside0.mk (below_step (by repeat (first | (with_reducible first | exact HB.out | apply below_alloc | apply pw_below_drewN | apply below_drew1 | refine below_set ?_ GE204.out) | exact HB.out)) hb); have n2_ := Aside0.mk (hbox); have n3_ := Aside0.mk ((by rw [hg]; exact (below_size (by repeat (first | (with_reducible first | exact HB.out | apply below_alloc | apply pw_below_drewN | apply below_drew1 | refine below_set ?_ GE204.out) | exact HB.out))) : w.heap.size ≤ gb206)); have n4_ := Aside0.mk ((by rw [hg]; exact (below_size (by repeat (first | (with_reducible first | exact HB.out | apply below_alloc | apply pw_below_drewN | apply below_drew1 | refine below_set ?_ GE204.out) | exact HB.out))) : w.heap.size ≤ gb206)); have n5_ := Aside0.mk ((by rw [hg]; exact Nat.ne_of_lt (blk_lt (g := gb204) (o := .cells #[.slice (some ad205) l0_0.length c0_0, .slice A0_1 l0_1.length c0_1, .slice A0_2 l0_2.length c0_2] 91 (0, 0)) (by (with_reducible repeat (first | refine blk_drewN ?_ _ | refine blk_drew ?_ | refine blk_alloc ?_ _)); exact BK204.out)) : gb204 ≠ gb206)); have n6_ := Aside0.mk ((by rw [hg]; exact Nat.ne_of_gt (blk_lt (g := gb204) (o := .cells #[.slice (some ad205) l0_0.length c0_0, .slice A0_1 l0_1.length c0_1, .slice A0_2 l0_2.length c0_2] 91 (0, 0)) (by (with_reducible repeat (first | refine blk_drewN ?_ _ | refine blk_drew ?_ | refine blk_alloc ?_ _)); exact BK204.out)) : gb206 ≠ gb204)); clear BK204; clear HB; have BK204 := n0_; have HB := n1_; have BK206 := n2_; have GW206 := n3_; have GE206 := n4_; have NB204_206 := n5_; have NB206_204 := n6_; clear n0_ n1_ n2_ n3_ n4_ n5_ n6_; clear hb hbox hg; have hnb38 := NB206_204.out; have hnc38 := NB204_206.out; have hcz39_0 : w37.cell? ⟨gb206, 0, none⟩ = some (.string (⟨#[]⟩ : ByteArray)) := (blk_cell BK206.out 0).trans rfl; have hcz39_1 : w37.cell? ⟨gb206, 1, none⟩ = some (.int .i64 0) := (blk_cell BK206.out 1).trans rfl; have hcz39_2 : w37.cell? ⟨gb206, 2, none⟩ = some (.slice none 0 0) := (blk_cell BK206.out 2).trans rfl; have hcz39_3 : w37.cell? ⟨gb206, 3, none⟩ = some (.slice none 0 0) := (blk_cell BK206.out 3).trans rfl; have hfz39_0 := blk_frozen BK206.out 0; have hfz39_1 := blk_frozen BK206.out 1; have hfz39_2 := blk_frozen BK206.out 2; have hfz39_3 := blk_frozen BK206.out 3) | ((with_reducible refine gate_callee (f := 108) rfl ?_); refine goesL_ (some 38) rfl rfl Try.func108 (by kernel_rfl) rfl #[.string ((rd_T124 l0_0 x3_2).f0)] rfl (by (try simp only [List.map_toArray, List.map_cons, List.map_nil]); first | done | rfl | (simp only [List.length_drop, List.length_take]; rfl)) ?_; (with_reducible refine (spliceref09_named.calls k2 ((rd_T124 l0_0 x3_2).f0) true _ A12.out).mono ?_); rintro e w' ⟨rfl, ⟨nd, rfl⟩⟩; refine ⟨_, rfl, ?_⟩) | (go_at_call 109; (with_reducible refine (spliceref09_rels.calls k2 _ _ ((rd_T124 l0_0 x3_2).f3) false _ ?side1 ?side2 A29.out).mono ?_); (case side1 => exact Kd.C_below HR205_3.out (by repeat (first | (with_reducible first | exact HB.out | apply below_alloc | apply pw_below_drewN | apply below_drew1 | refine below_set ?_ GE204.out | refine below_set ?_ GE206.out) | exact HB.out))); (case side2 => exact HC205_3.out); rintro e w40 ⟨rfl, hb⟩; have n0_ := Aside0.mk (blk_below (g := gb204) (o := .cells #[.slice (some ad205) l0_0.length c0_0, .slice A0_1 l0_1.length c0_1, .slice A0_2 l0_2.length c0_2] 91 (0, 0)) (by (with_reducible repeat (first | refine blk_drewN ?_ _ | refine blk_drew ?_ | refine blk_alloc ?_ _)); refine blk_far ?_ NB204_206.out _; (with_reducible repeat (first | refine blk_drewN ?_ _ | refine blk_drew ?_ | refine blk_alloc ?_ _)); refine blk_far ?_ NB204_206.out _; (with_reducible repeat (first | refine blk_drewN ?_ _ | refine blk_drew ?_ | refine blk_alloc ?_ _)); refine blk_far ?_ NB204_206.out _; (with_reducible repeat (first | refine blk_drewN ?_ _ | refine blk_drew ?_ | refine blk_alloc ?_ _)); refine blk_far ?_ NB204_206.out _; (with_reducible repeat (first | refine blk_drewN ?_ _ | refine blk_drew ?_ | refine blk_alloc ?_ _)); exact BK204.out) hb); have n1_ := Aside0.mk (blk_below (g := gb206) (o := .cells #[.string ((rd_T124 l0_0 x3_2).f0), .int .i64 ((rd_T124 l0_0 x3_2).f1), .slice A205_2 ((rd_T124 l0_0 x3_2).f2).length c205_2, .slice A205_3 ((rd_T124 l0_0 x3_2).f3).length c205_3] 124 (0, 0)) (by (with_reducible repeat (first | refine blk_drewN ?_ _ | refine blk_drew ?_ | refine blk_alloc ?_ _)); refine blk_put (cs := #[.string ((rd_T124 l0_0 x3_2).f0), .int .i64 ((rd_T124 l0_0 x3_2).f1), .slice A205_2 ((rd_T124 l0_0 x3_2).f2).length c205_2, .slice none 0 0]) ?_ 3 _ rfl; (with_reducible repeat (first | refine blk_drewN ?_ _ | refine blk_drew ?_ | refine blk_alloc ?_ _)); refine blk_put (cs := #[.string ((rd_T124 l0_0 x3_2).f0), .int .i64 ((rd_T124 l0_0 x3_2).f1), .slice none 0 0, .slice none 0 0]) ?_ 2 _ rfl; (with_reducible repeat (first | refine blk_drewN ?_ _ | refine blk_drew ?_ | refine blk_alloc ?_ _)); refine blk_put (cs := #[.string ((rd_T124 l0_0 x3_2).f0), .int .i64 0, .slice none 0 0, .slice none 0 0]) ?_ 1 _ rfl; (with_reducible repeat (first | refine blk_drewN ?_ _ | refine blk_drew ?_ | refine blk_alloc ?_ _)); refine blk_put (cs := #[.string (⟨#[]⟩ : ByteArray), .int .i64 0, .slice none 0 0, .slice none 0 0]) ?_ 0 _ rfl; (with_reducible repeat (first | refine blk_drewN ?_ _ | refine blk_drew ?_ | refine blk_alloc ?_ _)); exact BK206.out) hb); have n2_ := Aside0.mk (below_step (by repeat (first | (with_reducible first | exact HB.out | apply below_alloc | apply pw_below_drewN | apply below_drew1 | refine below_set ?_ GE204.out | refine below_set ?_ GE206.out) | exact HB.out)) hb); clear BK204; clear BK206; clear HB; have BK204 := n0_; have BK206 := n1_; have HB := n2_; clear n0_ n1_ n2_; (try clear hb); (try clear hb2); (try clear hk); (try clear hi)))
                          go_ret
                          exact ⟨by first | rfl | (simp [errW_none, errW_some] <;> rfl) | (simp [*, errW_none, errW_some] <;> rfl), by repeat (first | (with_reducible first | exact HB.out | apply below_alloc | apply pw_below_drewN | apply below_drew1 | refine below_set ?_ GE204.out | refine below_set ?_ GE206.out) | exact HB.out)⟩
                · replace c13 := Bool.eq_false_iff.mpr c13
                  subst c13
                  have H1 : (some false) = some r := by rw [if_neg (show ¬ (false = true) by decide)] at H; exact H
                  clear H
                  have H := H1
                  clear H1
                  obtain rfl := Option.some.inj H
                  have hcz41_0 : wr.cell? ⟨gb204, 0, none⟩ = some (.slice A0_0 l0_0.length c0_0) := (blk_cell BK204.out 0).trans rfl
                  have hcz41_1 : wr.cell? ⟨gb204, 1, none⟩ = some (.slice A0_1 l0_1.length c0_1) := (blk_cell BK204.out 1).trans rfl
                  have hcz41_2 : wr.cell? ⟨gb204, 2, none⟩ = some (.slice A0_2 l0_2.length c0_2) := (blk_cell BK204.out 2).trans rfl
                  have hfz41_0 := blk_frozen BK204.out 0
                  have hfz41_1 := blk_frozen BK204.out 1
                  have hfz41_2 := blk_frozen BK204.out 2
                  have p205 : 0 ≤ (x3_2 : Int) := of_decide_eq_true (by first | (with_reducible assumption) | assumption)
                  have q205 : x3_2 < (l0_0.length : Int) := of_decide_eq_true (by first | (with_reducible assumption) | assumption)
                  obtain ⟨ad205, A205_2, c205_2, A205_3, c205_3, e205, hx205_0, hx205_1, hx205_2, hx205_3, hl205_2, hi205_2, hl205_3, hi205_3⟩ := at_T124 HR0_0.out x3_2 p205 q205
                  cases e205
                  replace hx205_0 := (HB.out.cell (World.block_lt_of_cell? w _ hx205_0)).trans hx205_0
                  replace hx205_1 := (HB.out.cell (World.block_lt_of_cell? w _ hx205_1)).trans hx205_1
                  replace hx205_2 := (HB.out.cell (World.block_lt_of_cell? w _ hx205_2)).trans hx205_2
                  replace hx205_3 := (HB.out.cell (World.block_lt_of_cell? w _ hx205_3)).trans hx205_3
                  have HR205_2 := Aside0.mk hi205_2
                  have HC205_2 := Aside0.mk hl205_2
                  clear hi205_2 hl205_2
                  have HR205_3 := Aside0.mk hi205_3
                  have HC205_3 := Aside0.mk hl205_3
                  clear hi205_3 hl205_3
                  replace p205 := eq_true p205
                  replace q205 := eq_true q205
                  go_wp2_with (first | ((with_reducible refine gate_dst (N := 4) rfl ?_); (try (refine gate_guard (by rfl) ?_; dsimp only)); refine box_event ?hg (N := 4) ?hd (cs := #[.string (⟨#[]⟩ : ByteArray), .int .i64 0, .slice none 0 0, .slice none 0 0]) (t := 124) ?hr ?_; (case hd => rfl); (case hg => rfl); (case hr => first | (go_simp; done) | (go_simp; rfl)); intro gb206 hg w42 hbox hb; have n0_ := Aside0.mk (blk_below (g := gb204) (o := .cells #[.slice (some ad205) l0_0.length c0_0, .slice A0_1 l0_1.length c0_1, .slice A0_2 l0_2.length c0_2] 91 (0, 0)) (by (with_reducible repeat (first | refine blk_drewN ?_ _ | refine blk_drew ?_ | refine blk_alloc ?_ _)); exact BK204.out) hb); have n1_ := Aside0.mk (below_step (by repeat (first | (with_reducible first | exact HB.out | apply below_alloc | apply pw_below_drewN | apply below_drew1 | refine below_set ?_ GE204.out) | exact HB.out)) hb); have n2_ := Aside0.mk (hbox); have n3_ := Aside0.mk ((by rw [hg]; exact (below_size (by repeat (first | (with_reducible first | exact HB.out | apply below_alloc | apply pw_below_drewN | apply below_drew1 | refine below_set ?_ GE204.out) | exact HB.out))) : w.heap.size ≤ gb206)); have n4_ := Aside0.mk ((by rw [hg]; exact (below_size (by repeat (first | (with_reducible first | exact HB.out | apply below_alloc | apply pw_below_drewN | apply below_drew1 | refine below_set ?_ GE204.out) | exact HB.out))) : w.heap.size ≤ gb206)); have n5_ := Aside0.mk ((by rw [hg]; exact Nat.ne_of_lt (blk_lt (g := gb204) (o := .cells #[.slice (some ad205) l0_0.length c0_0, .slice A0_1 l0_1.length c0_1, .slice A0_2 l0_2.length c0_2] 91 (0, 0)) (by (with_reducible repeat (first | refine blk_drewN ?_ _ | refine blk_drew ?_ | refine blk_alloc ?_ _)); exact BK204.out)) : gb204 ≠ gb206)); have n6_ := Aside0.mk ((by rw [hg]; exact Nat.ne_of_gt (blk_lt (g := gb204) (o := .cells #[.slice (some ad205) l0_0.length c0_0, .slice A0_1 l0_1.length c0_1, .slice A0_2 l0_2.length c0_2] 91 (0, 0)) (by (with_reducible repeat (first | refine blk_drewN ?_ _ | refine blk_drew ?_ | refine blk_alloc ?_ _)); exact BK204.out)) : gb206 ≠ gb204)); clear BK204; clear HB; have BK204 := n0_; have HB := n1_; have BK206 := n2_; have GW206 := n3_; have GE206 := n4_; have NB204_206 := n5_; have NB206_204 := n6_; clear n0_ n1_ n2_ n3_ n4_ n5_ n6_; clear hb hbox hg; have hnb43 := NB206_204.out; have hnc43 := NB204_206.out; have hcz44_0 : w42.cell? ⟨gb206, 0, none⟩ = some (.string (⟨#[]⟩ : ByteArray)) := (blk_cell BK206.out 0).trans rfl; have hcz44_1 : w42.cell? ⟨gb206, 1, none⟩ = some (.int .i64 0) := (blk_cell BK206.out 1).trans rfl; have hcz44_2 : w42.cell? ⟨gb206, 2, none⟩ = some (.slice none 0 0) := (blk_cell BK206.out 2).trans rfl; have hcz44_3 : w42.cell? ⟨gb206, 3, none⟩ = some (.slice none 0 0) := (blk_cell BK206.out 3).trans rfl; have hfz44_0 := blk_frozen BK206.out 0; have hfz44_1 := blk_frozen BK206.out 1; have hfz44_2 := blk_frozen BK206.out 2; have hfz44_3 := blk_frozen BK206.out 3) | ((with_reducible refine gate_callee (f := 108) rfl ?_); refine goesL_ (some 38) rfl rfl Try.func108 (by kernel_rfl) rfl #[.string ((rd_T124 l0_0 x3_2).f0)] rfl (by (try simp only [List.map_toArray, List.map_cons, List.map_nil]); first | done | rfl | (simp only [List.length_drop, List.length_take]; rfl)) ?_; (with_reducible refine (spliceref09_named.calls k2 ((rd_T124 l0_0 x3_2).f0) false _ A12.out).mono ?_); rintro e w' ⟨rfl, ⟨nd, rfl⟩⟩; refine ⟨_, rfl, ?_⟩))
                  go_ret
                  exact ⟨by first | rfl | (simp [errW_none, errW_some] <;> rfl) | (simp [*, errW_none, errW_some] <;> rfl), by repeat (first | (with_reducible first | exact HB.out | apply below_alloc | apply pw_below_drewN | apply below_drew1 | refine below_set ?_ GE204.out | refine below_set ?_ GE206.out) | exact HB.out)⟩
              · rw [if_neg c11] at H
                exact absurd H (by simp)
            · rw [if_neg c10] at H
              have c10b0 : decide (x3_2 < (l0_0.length : Int)) = false := decide_eq_false c10
              clear c10
              have H' := Aside0.mk H
              clear H
              have hcz45_0 : wr.cell? ⟨gb204, 0, none⟩ = some (.slice A0_0 l0_0.length c0_0) := (blk_cell BK204.out 0).trans rfl
              have hcz45_1 : wr.cell? ⟨gb204, 1, none⟩ = some (.slice A0_1 l0_1.length c0_1) := (blk_cell BK204.out 1).trans rfl
              have hcz45_2 : wr.cell? ⟨gb204, 2, none⟩ = some (.slice A0_2 l0_2.length c0_2) := (blk_cell BK204.out 2).trans rfl
              have hfz45_0 := blk_frozen BK204.out 0
              have hfz45_1 := blk_frozen BK204.out 1
              have hfz45_2 := blk_frozen BK204.out 2
              go_wp2
              go_loopg [5] k2 (fun kq v5 w' => ∃ (x5_3 : Int), v5 = .int .i64 x5_3 ∧ Aside0 (spliceref09_May.l1 kq x5_3 l0_0 l0_1 l0_2 = some r) ∧ Aside0 (kq ≤ k2) ∧ Aside0 (w'.heap[gb204]? = some (.cells #[(.slice A0_0 l0_0.length c0_0), (.slice A0_1 l0_1.length c0_1), (.slice A0_2 l0_2.length c0_2)] 91 (0, 0))) ∧ Aside0 (Below w.heap.size w w'))
              case atStart => exact ⟨(0), (by first | rfl | (simp; done) | (simp [*]; done)), H', ⟨Nat.le_refl _⟩, ⟨by (with_reducible repeat (first | refine blk_drewN ?_ _ | refine blk_drew ?_ | refine blk_alloc ?_ _)); exact BK204.out⟩, ⟨by repeat (first | (with_reducible first | exact HB.out | apply below_alloc | apply pw_below_drewN | apply below_drew1 | refine below_set ?_ GE204.out) | exact HB.out)⟩⟩
              case round =>
                clear H'
                try clear c1
                try clear c2
                try clear p2
                try clear q2
                try clear hx2
                try clear c3
                try clear c4
                try clear c4b0
                try clear c4b1
                try clear c6
                try clear c6b0
                try clear c6b1
                try clear p6
                try clear c7
                try clear c9
                try clear c10
                try clear c10b0
                try clear c11
                try clear c11b0
                try clear c13
                try clear c14
                try clear c14b0
                try clear c17
                try clear c19
                try clear c19b0
                try clear c20
                try clear p20
                try clear q20
                try clear hx20
                try clear c22
                try clear c24
                try clear c24b0
                try clear c24b1
                try clear c27
                try clear c30
                try clear c33
                try clear c38
                try clear c43
                try clear hcz15_0
                try clear hcz15_1
                try clear hcz15_2
                try clear hcz18_0
                try clear hcz18_1
                try clear hcz18_2
                try clear hcz18_3
                try clear hcz20_0
                try clear hcz20_1
                try clear hcz20_2
                try clear hcz23_0
                try clear hcz23_1
                try clear hcz23_2
                try clear hcz23_3
                try clear hcz25_0
                try clear hcz25_1
                try clear hcz25_2
                try clear hcz28_0
                try clear hcz28_1
                try clear hcz28_2
                try clear hcz28_3
                try clear hcz31_0
                try clear hcz31_1
                try clear hcz31_2
                try clear hcz34_0
                try clear hcz34_1
                try clear hcz34_2
                try clear hcz34_3
                try clear hcz36_0
                try clear hcz36_1
                try clear hcz36_2
                try clear hcz39_0
                try clear hcz39_1
                try clear hcz39_2
                try clear hcz39_3
                try clear hcz41_0
                try clear hcz41_1
                try clear hcz41_2
                try clear hcz44_0
                try clear hcz44_1
                try clear hcz44_2
                try clear hcz44_3
                try clear hcz45_0
                try clear hcz45_1
                try clear hcz45_2
                try clear hcz5_0
                try clear hcz5_1
                try clear hcz5_2
                try clear hcz7_0
                try clear hcz7_1
                try clear hcz7_2
                try clear hcz8_0
                try clear hcz8_1
                try clear hcz8_2
                try clear hfz15_0
                try clear hfz15_1
                try clear hfz15_2
                try clear hfz18_0
                try clear hfz18_1
                try clear hfz18_2
                try clear hfz18_3
                try clear hfz20_0
                try clear hfz20_1
                try clear hfz20_2
                try clear hfz23_0
                try clear hfz23_1
                try clear hfz23_2
                try clear hfz23_3
                try clear hfz25_0
                try clear hfz25_1
                try clear hfz25_2
                try clear hfz28_0
                try clear hfz28_1
                try clear hfz28_2
                try clear hfz28_3
                try clear hfz31_0
                try clear hfz31_1
                try clear hfz31_2
                try clear hfz34_0
                try clear hfz34_1
                try clear hfz34_2
                try clear hfz34_3
                try clear hfz36_0
                try clear hfz36_1
                try clear hfz36_2
                try clear hfz39_0
                try clear hfz39_1
                try clear hfz39_2
                try clear hfz39_3
                try clear hfz41_0
                try clear hfz41_1
                try clear hfz41_2
                try clear hfz44_0
                try clear hfz44_1
                try clear hfz44_2
                try clear hfz44_3
                try clear hfz45_0
                try clear hfz45_1
                try clear hfz45_2
                try clear hfz5_0
                try clear hfz5_1
                try clear hfz5_2
                try clear hfz7_0
                try clear hfz7_1
                try clear hfz7_2
                try clear hfz8_0
                try clear hfz8_1
                try clear hfz8_2
                try clear hx205_0
                try clear hx205_1
                try clear hx205_2
                try clear hx205_3
                try clear p2
                try clear p205
                try clear q205
                obtain ⟨x5_3, rfl, HA, HK3, BK204, HB⟩ := hrel
                cases gk with
                | zero => exact absurd HA.out (by simp [spliceref09_May.l1])
                | succ k3 =>
                  have H := HA.out
                  clear HA
                  simp only [spliceref09_May.l1] at H
                  by_cases c46 : x5_3 < (l0_1.length : Int)
                  · rw [if_pos c46] at H
                    have c46b0 : decide (x5_3 < (l0_1.length : Int)) = true := decide_eq_true c46
                    clear c46
                    by_cases c47 : 0 ≤ x5_3
                    · rw [if_pos c47] at H
                      have c47b0 : decide (0 ≤ x5_3) = true := decide_eq_true c47
                      clear c47
                      replace H := Option.bind_eq_some_iff.mp H
                      obtain ⟨t211, A480, H⟩ := H
                      replace H : (if t211 = true then (if ((rd_T102 l0_1 x5_3).f1) < 1 then (some false) else (if ((rd_T102 l0_1 x5_3).f1) > 255 then (some false) else (if ((rd_T102 l0_1 x5_3).f2) < 0 then (some false) else (if ((rd_T102 l0_1 x5_3).f2) > 255 then (some false) else (if ((rd_T102 l0_1 x5_3).f4) < 0 then (some false) else (if ((rd_T102 l0_1 x5_3).f4) > 65535 then (some false) else (if (((rd_T102 l0_1 x5_3).f5).length : Int) > 4096 then (some false) else ((spliceref09_rels.f k3 ((rd_T102 l0_1 x5_3).f6)).bind fun t212 => (if t212 = true then (spliceref09_May.l1 k3 (wrap64 (x5_3 + 1)) l0_0 l0_1 l0_2) else (some false)))))))))) else (some false)) = some r := H
                      have A48 := Aside0.mk A480
                      clear A480
                      by_cases c49 : t211 = true
                      · subst c49
                        have H1 : (if ((rd_T102 l0_1 x5_3).f1) < 1 then (some false) else (if ((rd_T102 l0_1 x5_3).f1) > 255 then (some false) else (if ((rd_T102 l0_1 x5_3).f2) < 0 then (some false) else (if ((rd_T102 l0_1 x5_3).f2) > 255 then (some false) else (if ((rd_T102 l0_1 x5_3).f4) < 0 then (some false) else (if ((rd_T102 l0_1 x5_3).f4) > 65535 then (some false) else (if (((rd_T102 l0_1 x5_3).f5).length : Int) > 4096 then (some false) else ((spliceref09_rels.f k3 ((rd_T102 l0_1 x5_3).f6)).bind fun t212 => (if t212 = true then (spliceref09_May.l1 k3 (wrap64 (x5_3 + 1)) l0_0 l0_1 l0_2) else (some false)))))))))) = some r := by rw [if_pos rfl] at H; exact H
                        clear H
                        have H := H1
                        clear H1
                        by_cases c50 : ((rd_T102 l0_1 x5_3).f1) < 1
                        · rw [if_pos c50] at H
                          have c50b0 : decide (((rd_T102 l0_1 x5_3).f1) < 1) = true := decide_eq_true c50
                          clear c50
                          obtain rfl := Option.some.inj H
                          have hcz51_0 : wr.cell? ⟨gb204, 0, none⟩ = some (.slice A0_0 l0_0.length c0_0) := (blk_cell BK204.out 0).trans rfl
                          have hcz51_1 : wr.cell? ⟨gb204, 1, none⟩ = some (.slice A0_1 l0_1.length c0_1) := (blk_cell BK204.out 1).trans rfl
                          have hcz51_2 : wr.cell? ⟨gb204, 2, none⟩ = some (.slice A0_2 l0_2.length c0_2) := (blk_cell BK204.out 2).trans rfl
                          have hfz51_0 := blk_frozen BK204.out 0
                          have hfz51_1 := blk_frozen BK204.out 1
                          have hfz51_2 := blk_frozen BK204.out 2
                          have p209 : 0 ≤ (x5_3 : Int) := of_decide_eq_true (by first | (with_reducible assumption) | assumption)
                          have q209 : x5_3 < (l0_1.length : Int) := of_decide_eq_true (by first | (with_reducible assumption) | assumption)
                          obtain ⟨ad209, A209_5, c209_5, A209_6, c209_6, e209, hx209_0, hx209_1, hx209_2, hx209_3, hx209_4, hx209_5, hx209_6, hl209_5, hi209_5, hl209_6, hi209_6⟩ := at_T102 HR0_1.out x5_3 p209 q209
                          cases e209
                          replace hx209_0 := (HB.out.cell (World.block_lt_of_cell? w _ hx209_0)).trans hx209_0
                          replace hx209_1 := (HB.out.cell (World.block_lt_of_cell? w _ hx209_1)).trans hx209_1
                          replace hx209_2 := (HB.out.cell (World.block_lt_of_cell? w _ hx209_2)).trans hx209_2
                          replace hx209_3 := (HB.out.cell (World.block_lt_of_cell? w _ hx209_3)).trans hx209_3
                          replace hx209_4 := (HB.out.cell (World.block_lt_of_cell? w _ hx209_4)).trans hx209_4
                          replace hx209_5 := (HB.out.cell (World.block_lt_of_cell? w _ hx209_5)).trans hx209_5
                          replace hx209_6 := (HB.out.cell (World.block_lt_of_cell? w _ hx209_6)).trans hx209_6
                          have HR209_5 := Aside0.mk hi209_5
                          have HC209_5 := Aside0.mk hl209_5
                          clear hi209_5 hl209_5
                          have HR209_6 := Aside0.mk hi209_6
                          have HC209_6 := Aside0.mk hl209_6
                          clear hi209_6 hl209_6
                          replace p209 := eq_true p209
                          replace q209 := eq_true q209
                          go_wp2_with (first | ((with_reducible refine gate_dst (N := 6) rfl ?_); (try (refine gate_guard (by rfl) ?_; dsimp only)); refine box_event ?hg (N := 6) ?hd (cs := #[.string (⟨#[]⟩ : ByteArray), .int .i64 0, .int .i64 0, .bool false, .int .i64 0, .slice none 0 0, .slice none 0 0]) (t := 102) ?hr ?_; (case hd => rfl); (case hg => rfl); (case hr => first | (go_simp; done) | (go_simp; rfl)); intro gb210 hg w52 hbox hb; have n0_ := Aside0.mk (blk_below (g := gb204) (o := .cells #[.slice A0_0 l0_0.length c0_0, .slice (some ad209) l0_1.length c0_1, .slice A0_2 l0_2.length c0_2] 91 (0, 0)) (by (with_reducible repeat (first | refine blk_drewN ?_ _ | refine blk_drew ?_ | refine blk_alloc ?_ _)); exact BK204.out) hb); have n1_ := Aside0.mk (below_step (by repeat (first | (with_reducible first | exact HB.out | apply below_alloc | apply pw_below_drewN | apply below_drew1 | refine below_set ?_ GE204.out) | exact HB.out)) hb); have n2_ := Aside0.mk (hbox); have n3_ := Aside0.mk ((by rw [hg]; exact (below_size (by repeat (first | (with_reducible first | exact HB.out | apply below_alloc | apply pw_below_drewN | apply below_drew1 | refine below_set ?_ GE204.out) | exact HB.out))) : w.heap.size ≤ gb210)); have n4_ := Aside0.mk ((by rw [hg]; exact (below_size (by repeat (first | (with_reducible first | exact HB.out | apply below_alloc | apply pw_below_drewN | apply below_drew1 | refine below_set ?_ GE204.out) | exact HB.out))) : w.heap.size ≤ gb210)); have n5_ := Aside0.mk ((by rw [hg]; exact Nat.ne_of_lt (blk_lt (g := gb204) (o := .cells #[.slice A0_0 l0_0.length c0_0, .slice (some ad209) l0_1.length c0_1, .slice A0_2 l0_2.length c0_2] 91 (0, 0)) (by (with_reducible repeat (first | refine blk_drewN ?_ _ | refine blk_drew ?_ | refine blk_alloc ?_ _)); exact BK204.out)) : gb204 ≠ gb210)); have n6_ := Aside0.mk ((by rw [hg]; exact Nat.ne_of_gt (blk_lt (g := gb204) (o := .cells #[.slice A0_0 l0_0.length c0_0, .slice (some ad209) l0_1.length c0_1, .slice A0_2 l0_2.length c0_2] 91 (0, 0)) (by (with_reducible repeat (first | refine blk_drewN ?_ _ | refine blk_drew ?_ | refine blk_alloc ?_ _)); exact BK204.out)) : gb210 ≠ gb204)); clear BK204; clear HB; have BK204 := n0_; have HB := n1_; have BK210 := n2_; have GW210 := n3_; have GE210 := n4_; have NB204_210 := n5_; have NB210_204 := n6_; clear n0_ n1_ n2_ n3_ n4_ n5_ n6_; clear hb hbox hg; have hnb53 := NB210_204.out; have hnc53 := NB204_210.out; have hcz54_0 : w52.cell? ⟨gb210, 0, none⟩ = some (.string (⟨#[]⟩ : ByteArray)) := (blk_cell BK210.out 0).trans rfl; have hcz54_1 : w52.cell? ⟨gb210, 1, none⟩ = some (.int .i64 0) := (blk_cell BK210.out 1).trans rfl; have hcz54_2 : w52.cell? ⟨gb210, 2, none⟩ = some (.int .i64 0) := (blk_cell BK210.out 2).trans rfl; have hcz54_3 : w52.cell? ⟨gb210, 3, none⟩ = some (.bool false) := (blk_cell BK210.out 3).trans rfl; have hcz54_4 : w52.cell? ⟨gb210, 4, none⟩ = some (.int .i64 0) := (blk_cell BK210.out 4).trans rfl; have hcz54_5 : w52.cell? ⟨gb210, 5, none⟩ = some (.slice none 0 0) := (blk_cell BK210.out 5).trans rfl; have hcz54_6 : w52.cell? ⟨gb210, 6, none⟩ = some (.slice none 0 0) := (blk_cell BK210.out 6).trans rfl; have hfz54_0 := blk_frozen BK210.out 0; have hfz54_1 := blk_frozen BK210.out 1; have hfz54_2 := blk_frozen BK210.out 2; have hfz54_3 := blk_frozen BK210.out 3; have hfz54_4 := blk_frozen BK210.out 4; have hfz54_5 := blk_frozen BK210.out 5; have hfz54_6 := blk_frozen BK210.out 6) | ((with_reducible refine gate_callee (f := 108) rfl ?_); refine goesL_ (some 76) rfl rfl Try.func108 (by kernel_rfl) rfl #[.string ((rd_T102 l0_1 x5_3).f0)] rfl (by (try simp only [List.map_toArray, List.map_cons, List.map_nil]); first | done | rfl | (simp only [List.length_drop, List.length_take]; rfl)) ?_; (with_reducible refine (spliceref09_named.calls k3 ((rd_T102 l0_1 x5_3).f0) true _ A48.out).mono ?_); rintro e w' ⟨rfl, ⟨nd, rfl⟩⟩; refine ⟨_, rfl, ?_⟩))
                          go_ret
                          exact ⟨by first | rfl | (simp [errW_none, errW_some] <;> rfl) | (simp [*, errW_none, errW_some] <;> rfl), by repeat (first | (with_reducible first | exact HB.out | apply below_alloc | apply pw_below_drewN | apply below_drew1 | refine below_set ?_ GE204.out | refine below_set ?_ GE210.out) | exact HB.out)⟩
                        · rw [if_neg c50] at H
                          have c50b0 : decide (((rd_T102 l0_1 x5_3).f1) < 1) = false := decide_eq_false c50
                          clear c50
                          by_cases c55 : ((rd_T102 l0_1 x5_3).f1) > 255
                          · rw [if_pos c55] at H
                            have c55b0 : decide (255 < ((rd_T102 l0_1 x5_3).f1)) = true := decide_eq_true c55
                            clear c55
                            obtain rfl := Option.some.inj H
                            have hcz56_0 : wr.cell? ⟨gb204, 0, none⟩ = some (.slice A0_0 l0_0.length c0_0) := (blk_cell BK204.out 0).trans rfl
                            have hcz56_1 : wr.cell? ⟨gb204, 1, none⟩ = some (.slice A0_1 l0_1.length c0_1) := (blk_cell BK204.out 1).trans rfl
                            have hcz56_2 : wr.cell? ⟨gb204, 2, none⟩ = some (.slice A0_2 l0_2.length c0_2) := (blk_cell BK204.out 2).trans rfl
                            have hfz56_0 := blk_frozen BK204.out 0
                            have hfz56_1 := blk_frozen BK204.out 1
                            have hfz56_2 := blk_frozen BK204.out 2
                            have p209 : 0 ≤ (x5_3 : Int) := of_decide_eq_true (by first | (with_reducible assumption) | assumption)
                            have q209 : x5_3 < (l0_1.length : Int) := of_decide_eq_true (by first | (with_reducible assumption) | assumption)
                            obtain ⟨ad209, A209_5, c209_5, A209_6, c209_6, e209, hx209_0, hx209_1, hx209_2, hx209_3, hx209_4, hx209_5, hx209_6, hl209_5, hi209_5, hl209_6, hi209_6⟩ := at_T102 HR0_1.out x5_3 p209 q209
                            cases e209
                            replace hx209_0 := (HB.out.cell (World.block_lt_of_cell? w _ hx209_0)).trans hx209_0
                            replace hx209_1 := (HB.out.cell (World.block_lt_of_cell? w _ hx209_1)).trans hx209_1
                            replace hx209_2 := (HB.out.cell (World.block_lt_of_cell? w _ hx209_2)).trans hx209_2
                            replace hx209_3 := (HB.out.cell (World.block_lt_of_cell? w _ hx209_3)).trans hx209_3
                            replace hx209_4 := (HB.out.cell (World.block_lt_of_cell? w _ hx209_4)).trans hx209_4
                            replace hx209_5 := (HB.out.cell (World.block_lt_of_cell? w _ hx209_5)).trans hx209_5
                            replace hx209_6 := (HB.out.cell (World.block_lt_of_cell? w _ hx209_6)).trans hx209_6
                            have HR209_5 := Aside0.mk hi209_5
                            have HC209_5 := Aside0.mk hl209_5
                            clear hi209_5 hl209_5
                            have HR209_6 := Aside0.mk hi209_6
                            have HC209_6 := Aside0.mk hl209_6
                            clear hi209_6 hl209_6
                            replace p209 := eq_true p209
                            replace q209 := eq_true q209
                            go_wp2_with (first | ((with_reducible refine gate_dst (N := 6) rfl ?_); (try (refine gate_guard (by rfl) ?_; dsimp only)); refine box_event ?hg (N := 6) ?hd (cs := #[.string (⟨#[]⟩ : ByteArray), .int .i64 0, .int .i64 0, .bool false, .int .i64 0, .slice none 0 0, .slice none 0 0]) (t := 102) ?hr ?_; (case hd => rfl); (case hg => rfl); (case hr => first | (go_simp; done) | (go_simp; rfl)); intro gb210 hg w57 hbox hb; have n0_ := Aside0.mk (blk_below (g := gb204) (o := .cells #[.slice A0_0 l0_0.length c0_0, .slice (some ad209) l0_1.length c0_1, .slice A0_2 l0_2.length c0_2] 91 (0, 0)) (by (with_reducible repeat (first | refine blk_drewN ?_ _ | refine blk_drew ?_ | refine blk_alloc ?_ _)); exact BK204.out) hb); have n1_ := Aside0.mk (below_step (by repeat (first | (with_reducible first | exact HB.out | apply below_alloc | apply pw_below_drewN | apply below_drew1 | refine below_set ?_ GE204.out) | exact HB.out)) hb); have n2_ := Aside0.mk (hbox); have n3_ := Aside0.mk ((by rw [hg]; exact (below_size (by repeat (first | (with_reducible first | exact HB.out | apply below_alloc | apply pw_below_drewN | apply below_drew1 | refine below_set ?_ GE204.out) | exact HB.out))) : w.heap.size ≤ gb210)); have n4_ := Aside0.mk ((by rw [hg]; exact (below_size (by repeat (first | (with_reducible first | exact HB.out | apply below_alloc | apply pw_below_drewN | apply below_drew1 | refine below_set ?_ GE204.out) | exact HB.out))) : w.heap.size ≤ gb210)); have n5_ := Aside0.mk ((by rw [hg]; exact Nat.ne_of_lt (blk_lt (g := gb204) (o := .cells #[.slice A0_0 l0_0.length c0_0, .slice (some ad209) l0_1.length c0_1, .slice A0_2 l0_2.length c0_2] 91 (0, 0)) (by (with_reducible repeat (first | refine blk_drewN ?_ _ | refine blk_drew ?_ | refine blk_alloc ?_ _)); exact BK204.out)) : gb204 ≠ gb210)); have n6_ := Aside0.mk ((by rw [hg]; exact Nat.ne_of_gt (blk_lt (g := gb204) (o := .cells #[.slice A0_0 l0_0.length c0_0, .slice (some ad209) l0_1.length c0_1, .slice A0_2 l0_2.length c0_2] 91 (0, 0)) (by (with_reducible repeat (first | refine blk_drewN ?_ _ | refine blk_drew ?_ | refine blk_alloc ?_ _)); exact BK204.out)) : gb210 ≠ gb204)); clear BK204; clear HB; have BK204 := n0_; have HB := n1_; have BK210 := n2_; have GW210 := n3_; have GE210 := n4_; have NB204_210 := n5_; have NB210_204 := n6_; clear n0_ n1_ n2_ n3_ n4_ n5_ n6_; clear hb hbox hg; have hnb58 := NB210_204.out; have hnc58 := NB204_210.out; have hcz59_0 : w57.cell? ⟨gb210, 0, none⟩ = some (.string (⟨#[]⟩ : ByteArray)) := (blk_cell BK210.out 0).trans rfl; have hcz59_1 : w57.cell? ⟨gb210, 1, none⟩ = some (.int .i64 0) := (blk_cell BK210.out 1).trans rfl; have hcz59_2 : w57.cell? ⟨gb210, 2, none⟩ = some (.int .i64 0) := (blk_cell BK210.out 2).trans rfl; have hcz59_3 : w57.cell? ⟨gb210, 3, none⟩ = some (.bool false) := (blk_cell BK210.out 3).trans rfl; have hcz59_4 : w57.cell? ⟨gb210, 4, none⟩ = some (.int .i64 0) := (blk_cell BK210.out 4).trans rfl; have hcz59_5 : w57.cell? ⟨gb210, 5, none⟩ = some (.slice none 0 0) := (blk_cell BK210.out 5).trans rfl; have hcz59_6 : w57.cell? ⟨gb210, 6, none⟩ = some (.slice none 0 0) := (blk_cell BK210.out 6).trans rfl; have hfz59_0 := blk_frozen BK210.out 0; have hfz59_1 := blk_frozen BK210.out 1; have hfz59_2 := blk_frozen BK210.out 2; have hfz59_3 := blk_frozen BK210.out 3; have hfz59_4 := blk_frozen BK210.out 4; have hfz59_5 := blk_frozen BK210.out 5; have hfz59_6 := blk_frozen BK210.out 6) | ((with_reducible refine gate_callee (f := 108) rfl ?_); refine goesL_ (some 76) rfl rfl Try.func108 (by kernel_rfl) rfl #[.string ((rd_T102 l0_1 x5_3).f0)] rfl (by (try simp only [List.map_toArray, List.map_cons, List.map_nil]); first | done | rfl | (simp only [List.length_drop, List.length_take]; rfl)) ?_; (with_reducible refine (spliceref09_named.calls k3 ((rd_T102 l0_1 x5_3).f0) true _ A48.out).mono ?_); rintro e w' ⟨rfl, ⟨nd, rfl⟩⟩; refine ⟨_, rfl, ?_⟩))
                            go_ret
                            exact ⟨by first | rfl | (simp [errW_none, errW_some] <;> rfl) | (simp [*, errW_none, errW_some] <;> rfl), by repeat (first | (with_reducible first | exact HB.out | apply below_alloc | apply pw_below_drewN | apply below_drew1 | refine below_set ?_ GE204.out | refine below_set ?_ GE210.out) | exact HB.out)⟩
                          · rw [if_neg c55] at H
                            have c55b0 : decide (255 < ((rd_T102 l0_1 x5_3).f1)) = false := decide_eq_false c55
                            clear c55
                            by_cases c60 : ((rd_T102 l0_1 x5_3).f2) < 0
                            · rw [if_pos c60] at H
                              have c60b0 : decide (((rd_T102 l0_1 x5_3).f2) < 0) = true := decide_eq_true c60
                              clear c60
                              obtain rfl := Option.some.inj H
                              have hcz61_0 : wr.cell? ⟨gb204, 0, none⟩ = some (.slice A0_0 l0_0.length c0_0) := (blk_cell BK204.out 0).trans rfl
                              have hcz61_1 : wr.cell? ⟨gb204, 1, none⟩ = some (.slice A0_1 l0_1.length c0_1) := (blk_cell BK204.out 1).trans rfl
                              have hcz61_2 : wr.cell? ⟨gb204, 2, none⟩ = some (.slice A0_2 l0_2.length c0_2) := (blk_cell BK204.out 2).trans rfl
                              have hfz61_0 := blk_frozen BK204.out 0
                              have hfz61_1 := blk_frozen BK204.out 1
                              have hfz61_2 := blk_frozen BK204.out 2
                              have p209 : 0 ≤ (x5_3 : Int) := of_decide_eq_true (by first | (with_reducible assumption) | assumption)
                              have q209 : x5_3 < (l0_1.length : Int) := of_decide_eq_true (by first | (with_reducible assumption) | assumption)
                              obtain ⟨ad209, A209_5, c209_5, A209_6, c209_6, e209, hx209_0, hx209_1, hx209_2, hx209_3, hx209_4, hx209_5, hx209_6, hl209_5, hi209_5, hl209_6, hi209_6⟩ := at_T102 HR0_1.out x5_3 p209 q209
                              cases e209
                              replace hx209_0 := (HB.out.cell (World.block_lt_of_cell? w _ hx209_0)).trans hx209_0
                              replace hx209_1 := (HB.out.cell (World.block_lt_of_cell? w _ hx209_1)).trans hx209_1
                              replace hx209_2 := (HB.out.cell (World.block_lt_of_cell? w _ hx209_2)).trans hx209_2
                              replace hx209_3 := (HB.out.cell (World.block_lt_of_cell? w _ hx209_3)).trans hx209_3
                              replace hx209_4 := (HB.out.cell (World.block_lt_of_cell? w _ hx209_4)).trans hx209_4
                              replace hx209_5 := (HB.out.cell (World.block_lt_of_cell? w _ hx209_5)).trans hx209_5
                              replace hx209_6 := (HB.out.cell (World.block_lt_of_cell? w _ hx209_6)).trans hx209_6
                              have HR209_5 := Aside0.mk hi209_5
                              have HC209_5 := Aside0.mk hl209_5
                              clear hi209_5 hl209_5
                              have HR209_6 := Aside0.mk hi209_6
                              have HC209_6 := Aside0.mk hl209_6
                              clear hi209_6 hl209_6
                              replace p209 := eq_true p209
                              replace q209 := eq_true q209
                              go_wp2_with (first | ((with_reducible refine gate_dst (N := 6) rfl ?_); (try (refine gate_guard (by rfl) ?_; dsimp only)); refine box_event ?hg (N := 6) ?hd (cs := #[.string (⟨#[]⟩ : ByteArray), .int .i64 0, .int .i64 0, .bool false, .int .i64 0, .slice none 0 0, .slice none 0 0]) (t := 102) ?hr ?_; (case hd => rfl); (case hg => rfl); (case hr => first | (go_simp; done) | (go_simp; rfl)); intro gb210 hg w62 hbox hb; have n0_ := Aside0.mk (blk_below (g := gb204) (o := .cells #[.slice A0_0 l0_0.length c0_0, .slice (some ad209) l0_1.length c0_1, .slice A0_2 l0_2.length c0_2] 91 (0, 0)) (by (with_reducible repeat (first | refine blk_drewN ?_ _ | refine blk_drew ?_ | refine blk_alloc ?_ _)); exact BK204.out) hb); have n1_ := Aside0.mk (below_step (by repeat (first | (with_reducible first | exact HB.out | apply below_alloc | apply pw_below_drewN | apply below_drew1 | refine below_set ?_ GE204.out) | exact HB.out)) hb); have n2_ := Aside0.mk (hbox); have n3_ := Aside0.mk ((by rw [hg]; exact (below_size (by repeat (first | (with_reducible first | exact HB.out | apply below_alloc | apply pw_below_drewN | apply below_drew1 | refine below_set ?_ GE204.out) | exact HB.out))) : w.heap.size ≤ gb210)); have n4_ := Aside0.mk ((by rw [hg]; exact (below_size (by repeat (first | (with_reducible first | exact HB.out | apply below_alloc | apply pw_below_drewN | apply below_drew1 | refine below_set ?_ GE204.out) | exact HB.out))) : w.heap.size ≤ gb210)); have n5_ := Aside0.mk ((by rw [hg]; exact Nat.ne_of_lt (blk_lt (g := gb204) (o := .cells #[.slice A0_0 l0_0.length c0_0, .slice (some ad209) l0_1.length c0_1, .slice A0_2 l0_2.length c0_2] 91 (0, 0)) (by (with_reducible repeat (first | refine blk_drewN ?_ _ | refine blk_drew ?_ | refine blk_alloc ?_ _)); exact BK204.out)) : gb204 ≠ gb210)); have n6_ := Aside0.mk ((by rw [hg]; exact Nat.ne_of_gt (blk_lt (g := gb204) (o := .cells #[.slice A0_0 l0_0.length c0_0, .slice (some ad209) l0_1.length c0_1, .slice A0_2 l0_2.length c0_2] 91 (0, 0)) (by (with_reducible repeat (first | refine blk_drewN ?_ _ | refine blk_drew ?_ | refine blk_alloc ?_ _)); exact BK204.out)) : gb210 ≠ gb204)); clear BK204; clear HB; have BK204 := n0_; have HB := n1_; have BK210 := n2_; have GW210 := n3_; have GE210 := n4_; have NB204_210 := n5_; have NB210_204 := n6_; clear n0_ n1_ n2_ n3_ n4_ n5_ n6_; clear hb hbox hg; have hnb63 := NB210_204.out; have hnc63 := NB204_210.out; have hcz64_0 : w62.cell? ⟨gb210, 0, none⟩ = some (.string (⟨#[]⟩ : ByteArray)) := (blk_cell BK210.out 0).trans rfl; have hcz64_1 : w62.cell? ⟨gb210, 1, none⟩ = some (.int .i64 0) := (blk_cell BK210.out 1).trans rfl; have hcz64_2 : w62.cell? ⟨gb210, 2, none⟩ = some (.int .i64 0) := (blk_cell BK210.out 2).trans rfl; have hcz64_3 : w62.cell? ⟨gb210, 3, none⟩ = some (.bool false) := (blk_cell BK210.out 3).trans rfl; have hcz64_4 : w62.cell? ⟨gb210, 4, none⟩ = some (.int .i64 0) := (blk_cell BK210.out 4).trans rfl; have hcz64_5 : w62.cell? ⟨gb210, 5, none⟩ = some (.slice none 0 0) := (blk_cell BK210.out 5).trans rfl; have hcz64_6 : w62.cell? ⟨gb210, 6, none⟩ = some (.slice none 0 0) := (blk_cell BK210.out 6).trans rfl; have hfz64_0 := blk_frozen BK210.out 0; have hfz64_1 := blk_frozen BK210.out 1; have hfz64_2 := blk_frozen BK210.out 2; have hfz64_3 := blk_frozen BK210.out 3; have hfz64_4 := blk_frozen BK210.out 4; have hfz64_5 := blk_frozen BK210.out 5; have hfz64_6 := blk_frozen BK210.out 6) | ((with_reducible refine gate_callee (f := 108) rfl ?_); refine goesL_ (some 76) rfl rfl Try.func108 (by kernel_rfl) rfl #[.string ((rd_T102 l0_1 x5_3).f0)] rfl (by (try simp only [List.map_toArray, List.map_cons, List.map_nil]); first | done | rfl | (simp only [List.length_drop, List.length_take]; rfl)) ?_; (with_reducible refine (spliceref09_named.calls k3 ((rd_T102 l0_1 x5_3).f0) true _ A48.out).mono ?_); rintro e w' ⟨rfl, ⟨nd, rfl⟩⟩; refine ⟨_, rfl, ?_⟩))
                              go_ret
                              exact ⟨by first | rfl | (simp [errW_none, errW_some] <;> rfl) | (simp [*, errW_none, errW_some] <;> rfl), by repeat (first | (with_reducible first | exact HB.out | apply below_alloc | apply pw_below_drewN | apply below_drew1 | refine below_set ?_ GE204.out | refine below_set ?_ GE210.out) | exact HB.out)⟩
                            · rw [if_neg c60] at H
                              have c60b0 : decide (((rd_T102 l0_1 x5_3).f2) < 0) = false := decide_eq_false c60
                              clear c60
                              by_cases c65 : ((rd_T102 l0_1 x5_3).f2) > 255
                              · rw [if_pos c65] at H
                                have c65b0 : decide (255 < ((rd_T102 l0_1 x5_3).f2)) = true := decide_eq_true c65
                                clear c65
                                obtain rfl := Option.some.inj H
                                have hcz66_0 : wr.cell? ⟨gb204, 0, none⟩ = some (.slice A0_0 l0_0.length c0_0) := (blk_cell BK204.out 0).trans rfl
                                have hcz66_1 : wr.cell? ⟨gb204, 1, none⟩ = some (.slice A0_1 l0_1.length c0_1) := (blk_cell BK204.out 1).trans rfl
                                have hcz66_2 : wr.cell? ⟨gb204, 2, none⟩ = some (.slice A0_2 l0_2.length c0_2) := (blk_cell BK204.out 2).trans rfl
                                have hfz66_0 := blk_frozen BK204.out 0
                                have hfz66_1 := blk_frozen BK204.out 1
                                have hfz66_2 := blk_frozen BK204.out 2
                                have p209 : 0 ≤ (x5_3 : Int) := of_decide_eq_true (by first | (with_reducible assumption) | assumption)
                                have q209 : x5_3 < (l0_1.length : Int) := of_decide_eq_true (by first | (with_reducible assumption) | assumption)
                                obtain ⟨ad209, A209_5, c209_5, A209_6, c209_6, e209, hx209_0, hx209_1, hx209_2, hx209_3, hx209_4, hx209_5, hx209_6, hl209_5, hi209_5, hl209_6, hi209_6⟩ := at_T102 HR0_1.out x5_3 p209 q209
                                cases e209
                                replace hx209_0 := (HB.out.cell (World.block_lt_of_cell? w _ hx209_0)).trans hx209_0
                                replace hx209_1 := (HB.out.cell (World.block_lt_of_cell? w _ hx209_1)).trans hx209_1
                                replace hx209_2 := (HB.out.cell (World.block_lt_of_cell? w _ hx209_2)).trans hx209_2
                                replace hx209_3 := (HB.out.cell (World.block_lt_of_cell? w _ hx209_3)).trans hx209_3
                                replace hx209_4 := (HB.out.cell (World.block_lt_of_cell? w _ hx209_4)).trans hx209_4
                                replace hx209_5 := (HB.out.cell (World.block_lt_of_cell? w _ hx209_5)).trans hx209_5
                                replace hx209_6 := (HB.out.cell (World.block_lt_of_cell? w _ hx209_6)).trans hx209_6
                                have HR209_5 := Aside0.mk hi209_5
                                have HC209_5 := Aside0.mk hl209_5
                                clear hi209_5 hl209_5
                                have HR209_6 := Aside0.mk hi209_6
                                have HC209_6 := Aside0.mk hl209_6
                                clear hi209_6 hl209_6
                                replace p209 := eq_true p209
                                replace q209 := eq_true q209
                                go_wp2_with (first | ((with_reducible refine gate_dst (N := 6) rfl ?_); (try (refine gate_guard (by rfl) ?_; dsimp only)); refine box_event ?hg (N := 6) ?hd (cs := #[.string (⟨#[]⟩ : ByteArray), .int .i64 0, .int .i64 0, .bool false, .int .i64 0, .slice none 0 0, .slice none 0 0]) (t := 102) ?hr ?_; (case hd => rfl); (case hg => rfl); (case hr => first | (go_simp; done) | (go_simp; rfl)); intro gb210 hg w67 hbox hb; have n0_ := Aside0.mk (blk_below (g := gb204) (o := .cells #[.slice A0_0 l0_0.length c0_0, .slice (some ad209) l0_1.length c0_1, .slice A0_2 l0_2.length c0_2] 91 (0, 0)) (by (with_reducible repeat (first | refine blk_drewN ?_ _ | refine blk_drew ?_ | refine blk_alloc ?_ _)); exact BK204.out) hb); have n1_ := Aside0.mk (below_step (by repeat (first | (with_reducible first | exact HB.out | apply below_alloc | apply pw_below_drewN | apply below_drew1 | refine below_set ?_ GE204.out) | exact HB.out)) hb); have n2_ := Aside0.mk (hbox); have n3_ := Aside0.mk ((by rw [hg]; exact (below_size (by repeat (first | (with_reducible first | exact HB.out | apply below_alloc | apply pw_below_drewN | apply below_drew1 | refine below_set ?_ GE204.out) | exact HB.out))) : w.heap.size ≤ gb210)); have n4_ := Aside0.mk ((by rw [hg]; exact (below_size (by repeat (first | (with_reducible first | exact HB.out | apply below_alloc | apply pw_below_drewN | apply below_drew1 | refine below_set ?_ GE204.out) | exact HB.out))) : w.heap.size ≤ gb210)); have n5_ := Aside0.mk ((by rw [hg]; exact Nat.ne_of_lt (blk_lt (g := gb204) (o := .cells #[.slice A0_0 l0_0.length c0_0, .slice (some ad209) l0_1.length c0_1, .slice A0_2 l0_2.length c0_2] 91 (0, 0)) (by (with_reducible repeat (first | refine blk_drewN ?_ _ | refine blk_drew ?_ | refine blk_alloc ?_ _)); exact BK204.out)) : gb204 ≠ gb210)); have n6_ := Aside0.mk ((by rw [hg]; exact Nat.ne_of_gt (blk_lt (g := gb204) (o := .cells #[.slice A0_0 l0_0.length c0_0, .slice (some ad209) l0_1.length c0_1, .slice A0_2 l0_2.length c0_2] 91 (0, 0)) (by (with_reducible repeat (first | refine blk_drewN ?_ _ | refine blk_drew ?_ | refine blk_alloc ?_ _)); exact BK204.out)) : gb210 ≠ gb204)); clear BK204; clear HB; have BK204 := n0_; have HB := n1_; have BK210 := n2_; have GW210 := n3_; have GE210 := n4_; have NB204_210 := n5_; have NB210_204 := n6_; clear n0_ n1_ n2_ n3_ n4_ n5_ n6_; clear hb hbox hg; have hnb68 := NB210_204.out; have hnc68 := NB204_210.out; have hcz69_0 : w67.cell? ⟨gb210, 0, none⟩ = some (.string (⟨#[]⟩ : ByteArray)) := (blk_cell BK210.out 0).trans rfl; have hcz69_1 : w67.cell? ⟨gb210, 1, none⟩ = some (.int .i64 0) := (blk_cell BK210.out 1).trans rfl; have hcz69_2 : w67.cell? ⟨gb210, 2, none⟩ = some (.int .i64 0) := (blk_cell BK210.out 2).trans rfl; have hcz69_3 : w67.cell? ⟨gb210, 3, none⟩ = some (.bool false) := (blk_cell BK210.out 3).trans rfl; have hcz69_4 : w67.cell? ⟨gb210, 4, none⟩ = some (.int .i64 0) := (blk_cell BK210.out 4).trans rfl; have hcz69_5 : w67.cell? ⟨gb210, 5, none⟩ = some (.slice none 0 0) := (blk_cell BK210.out 5).trans rfl; have hcz69_6 : w67.cell? ⟨gb210, 6, none⟩ = some (.slice none 0 0) := (blk_cell BK210.out 6).trans rfl; have hfz69_0 := blk_frozen BK210.out 0; have hfz69_1 := blk_frozen BK210.out 1; have hfz69_2 := blk_frozen BK210.out 2; have hfz69_3 := blk_frozen BK210.out 3; have hfz69_4 := blk_frozen BK210.out 4; have hfz69_5 := blk_frozen BK210.out 5; have hfz69_6 := blk_frozen BK210.out 6) | ((with_reducible refine gate_callee (f := 108) rfl ?_); refine goesL_ (some 76) rfl rfl Try.func108 (by kernel_rfl) rfl #[.string ((rd_T102 l0_1 x5_3).f0)] rfl (by (try simp only [List.map_toArray, List.map_cons, List.map_nil]); first | done | rfl | (simp only [List.length_drop, List.length_take]; rfl)) ?_; (with_reducible refine (spliceref09_named.calls k3 ((rd_T102 l0_1 x5_3).f0) true _ A48.out).mono ?_); rintro e w' ⟨rfl, ⟨nd, rfl⟩⟩; refine ⟨_, rfl, ?_⟩))
                                go_ret
                                exact ⟨by first | rfl | (simp [errW_none, errW_some] <;> rfl) | (simp [*, errW_none, errW_some] <;> rfl), by repeat (first | (with_reducible first | exact HB.out | apply below_alloc | apply pw_below_drewN | apply below_drew1 | refine below_set ?_ GE204.out | refine below_set ?_ GE210.out) | exact HB.out)⟩
                              · rw [if_neg c65] at H
                                have c65b0 : decide (255 < ((rd_T102 l0_1 x5_3).f2)) = false := decide_eq_false c65
                                clear c65
                                by_cases c70 : ((rd_T102 l0_1 x5_3).f4) < 0
                                · rw [if_pos c70] at H
                                  have c70b0 : decide (((rd_T102 l0_1 x5_3).f4) < 0) = true := decide_eq_true c70
                                  clear c70
                                  obtain rfl := Option.some.inj H
                                  have hcz71_0 : wr.cell? ⟨gb204, 0, none⟩ = some (.slice A0_0 l0_0.length c0_0) := (blk_cell BK204.out 0).trans rfl
                                  have hcz71_1 : wr.cell? ⟨gb204, 1, none⟩ = some (.slice A0_1 l0_1.length c0_1) := (blk_cell BK204.out 1).trans rfl
                                  have hcz71_2 : wr.cell? ⟨gb204, 2, none⟩ = some (.slice A0_2 l0_2.length c0_2) := (blk_cell BK204.out 2).trans rfl
                                  have hfz71_0 := blk_frozen BK204.out 0
                                  have hfz71_1 := blk_frozen BK204.out 1
                                  have hfz71_2 := blk_frozen BK204.out 2
                                  have p209 : 0 ≤ (x5_3 : Int) := of_decide_eq_true (by first | (with_reducible assumption) | assumption)
                                  have q209 : x5_3 < (l0_1.length : Int) := of_decide_eq_true (by first | (with_reducible assumption) | assumption)
                                  obtain ⟨ad209, A209_5, c209_5, A209_6, c209_6, e209, hx209_0, hx209_1, hx209_2, hx209_3, hx209_4, hx209_5, hx209_6, hl209_5, hi209_5, hl209_6, hi209_6⟩ := at_T102 HR0_1.out x5_3 p209 q209
                                  cases e209
                                  replace hx209_0 := (HB.out.cell (World.block_lt_of_cell? w _ hx209_0)).trans hx209_0
                                  replace hx209_1 := (HB.out.cell (World.block_lt_of_cell? w _ hx209_1)).trans hx209_1
                                  replace hx209_2 := (HB.out.cell (World.block_lt_of_cell? w _ hx209_2)).trans hx209_2
                                  replace hx209_3 := (HB.out.cell (World.block_lt_of_cell? w _ hx209_3)).trans hx209_3
                                  replace hx209_4 := (HB.out.cell (World.block_lt_of_cell? w _ hx209_4)).trans hx209_4
                                  replace hx209_5 := (HB.out.cell (World.block_lt_of_cell? w _ hx209_5)).trans hx209_5
                                  replace hx209_6 := (HB.out.cell (World.block_lt_of_cell? w _ hx209_6)).trans hx209_6
                                  have HR209_5 := Aside0.mk hi209_5
                                  have HC209_5 := Aside0.mk hl209_5
                                  clear hi209_5 hl209_5
                                  have HR209_6 := Aside0.mk hi209_6
                                  have HC209_6 := Aside0.mk hl209_6
                                  clear hi209_6 hl209_6
                                  replace p209 := eq_true p209
                                  replace q209 := eq_true q209
                                  go_wp2_with (first | ((with_reducible refine gate_dst (N := 6) rfl ?_); (try (refine gate_guard (by rfl) ?_; dsimp only)); refine box_event ?hg (N := 6) ?hd (cs := #[.string (⟨#[]⟩ : ByteArray), .int .i64 0, .int .i64 0, .bool false, .int .i64 0, .slice none 0 0, .slice none 0 0]) (t := 102) ?hr ?_; (case hd => rfl); (case hg => rfl); (case hr => first | (go_simp; done) | (go_simp; rfl)); intro gb210 hg w72 hbox hb; have n0_ := Aside0.mk (blk_below (g := gb204) (o := .cells #[.slice A0_0 l0_0.length c0_0, .slice (some ad209) l0_1.length c0_1, .slice A0_2 l0_2.length c0_2] 91 (0, 0)) (by (with_reducible repeat (first | refine blk_drewN ?_ _ | refine blk_drew ?_ | refine blk_alloc ?_ _)); exact BK204.out) hb); have n1_ := Aside0.mk (below_step (by repeat (first | (with_reducible first | exact HB.out | apply below_alloc | apply pw_below_drewN | apply below_drew1 | refine below_set ?_ GE204.out) | exact HB.out)) hb); have n2_ := Aside0.mk (hbox); have n3_ := Aside0.mk ((by rw [hg]; exact (below_size (by repeat (first | (with_reducible first | exact HB.out | apply below_alloc | apply pw_below_drewN | apply below_drew1 | refine below_set ?_ GE204.out) | exact HB.out))) : w.heap.size ≤ gb210)); have n4_ := Aside0.mk ((by rw [hg]; exact (below_size (by repeat (first | (with_reducible first | exact HB.out | apply below_alloc | apply pw_below_drewN | apply below_drew1 | refine below_set ?_ GE204.out) | exact HB.out))) : w.heap.size ≤ gb210)); have n5_ := Aside0.mk ((by rw [hg]; exact Nat.ne_of_lt (blk_lt (g := gb204) (o := .cells #[.slice A0_0 l0_0.length c0_0, .slice (some ad209) l0_1.length c0_1, .slice A0_2 l0_2.length c0_2] 91 (0, 0)) (by (with_reducible repeat (first | refine blk_drewN ?_ _ | refine blk_drew ?_ | refine blk_alloc ?_ _)); exact BK204.out)) : gb204 ≠ gb210)); have n6_ := Aside0.mk ((by rw [hg]; exact Nat.ne_of_gt (blk_lt (g := gb204) (o := .cells #[.slice A0_0 l0_0.length c0_0, .slice (some ad209) l0_1.length c0_1, .slice A0_2 l0_2.length c0_2] 91 (0, 0)) (by (with_reducible repeat (first | refine blk_drewN ?_ _ | refine blk_drew ?_ | refine blk_alloc ?_ _)); exact BK204.out)) : gb210 ≠ gb204)); clear BK204; clear HB; have BK204 := n0_; have HB := n1_; have BK210 := n2_; have GW210 := n3_; have GE210 := n4_; have NB204_210 := n5_; have NB210_204 := n6_; clear n0_ n1_ n2_ n3_ n4_ n5_ n6_; clear hb hbox hg; have hnb73 := NB210_204.out; have hnc73 := NB204_210.out; have hcz74_0 : w72.cell? ⟨gb210, 0, none⟩ = some (.string (⟨#[]⟩ : ByteArray)) := (blk_cell BK210.out 0).trans rfl; have hcz74_1 : w72.cell? ⟨gb210, 1, none⟩ = some (.int .i64 0) := (blk_cell BK210.out 1).trans rfl; have hcz74_2 : w72.cell? ⟨gb210, 2, none⟩ = some (.int .i64 0) := (blk_cell BK210.out 2).trans rfl; have hcz74_3 : w72.cell? ⟨gb210, 3, none⟩ = some (.bool false) := (blk_cell BK210.out 3).trans rfl; have hcz74_4 : w72.cell? ⟨gb210, 4, none⟩ = some (.int .i64 0) := (blk_cell BK210.out 4).trans rfl; have hcz74_5 : w72.cell? ⟨gb210, 5, none⟩ = some (.slice none 0 0) := (blk_cell BK210.out 5).trans rfl; have hcz74_6 : w72.cell? ⟨gb210, 6, none⟩ = some (.slice none 0 0) := (blk_cell BK210.out 6).trans rfl; have hfz74_0 := blk_frozen BK210.out 0; have hfz74_1 := blk_frozen BK210.out 1; have hfz74_2 := blk_frozen BK210.out 2; have hfz74_3 := blk_frozen BK210.out 3; have hfz74_4 := blk_frozen BK210.out 4; have hfz74_5 := blk_frozen BK210.out 5; have hfz74_6 := blk_frozen BK210.out 6) | ((with_reducible refine gate_callee (f := 108) rfl ?_); refine goesL_ (some 76) rfl rfl Try.func108 (by kernel_rfl) rfl #[.string ((rd_T102 l0_1 x5_3).f0)] rfl (by (try simp only [List.map_toArray, List.map_cons, List.map_nil]); first | done | rfl | (simp only [List.length_drop, List.length_take]; rfl)) ?_; (with_reducible refine (spliceref09_named.calls k3 ((rd_T102 l0_1 x5_3).f0) true _ A48.out).mono ?_); rintro e w' ⟨rfl, ⟨nd, rfl⟩⟩; refine ⟨_, rfl, ?_⟩))
                                  go_ret
                                  exact ⟨by first | rfl | (simp [errW_none, errW_some] <;> rfl) | (simp [*, errW_none, errW_some] <;> rfl), by repeat (first | (with_reducible first | exact HB.out | apply below_alloc | apply pw_below_drewN | apply below_drew1 | refine below_set ?_ GE204.out | refine below_set ?_ GE210.out) | exact HB.out)⟩
                                · rw [if_neg c70] at H
                                  have c70b0 : decide (((rd_T102 l0_1 x5_3).f4) < 0) = false := decide_eq_false c70
                                  clear c70
                                  by_cases c75 : ((rd_T102 l0_1 x5_3).f4) > 65535
                                  · rw [if_pos c75] at H
                                    have c75b0 : decide (65535 < ((rd_T102 l0_1 x5_3).f4)) = true := decide_eq_true c75
                                    clear c75
                                    obtain rfl := Option.some.inj H
                                    have hcz76_0 : wr.cell? ⟨gb204, 0, none⟩ = some (.slice A0_0 l0_0.length c0_0) := (blk_cell BK204.out 0).trans rfl
                                    have hcz76_1 : wr.cell? ⟨gb204, 1, none⟩ = some (.slice A0_1 l0_1.length c0_1) := (blk_cell BK204.out 1).trans rfl
                                    have hcz76_2 : wr.cell? ⟨gb204, 2, none⟩ = some (.slice A0_2 l0_2.length c0_2) := (blk_cell BK204.out 2).trans rfl
                                    have hfz76_0 := blk_frozen BK204.out 0
                                    have hfz76_1 := blk_frozen BK204.out 1
                                    have hfz76_2 := blk_frozen BK204.out 2
                                    have p209 : 0 ≤ (x5_3 : Int) := of_decide_eq_true (by first | (with_reducible assumption) | assumption)
                                    have q209 : x5_3 < (l0_1.length : Int) := of_decide_eq_true (by first | (with_reducible assumption) | assumption)
                                    obtain ⟨ad209, A209_5, c209_5, A209_6, c209_6, e209, hx209_0, hx209_1, hx209_2, hx209_3, hx209_4, hx209_5, hx209_6, hl209_5, hi209_5, hl209_6, hi209_6⟩ := at_T102 HR0_1.out x5_3 p209 q209
                                    cases e209
                                    replace hx209_0 := (HB.out.cell (World.block_lt_of_cell? w _ hx209_0)).trans hx209_0
                                    replace hx209_1 := (HB.out.cell (World.block_lt_of_cell? w _ hx209_1)).trans hx209_1
                                    replace hx209_2 := (HB.out.cell (World.block_lt_of_cell? w _ hx209_2)).trans hx209_2
                                    replace hx209_3 := (HB.out.cell (World.block_lt_of_cell? w _ hx209_3)).trans hx209_3
                                    replace hx209_4 := (HB.out.cell (World.block_lt_of_cell? w _ hx209_4)).trans hx209_4
                                    replace hx209_5 := (HB.out.cell (World.block_lt_of_cell? w _ hx209_5)).trans hx209_5
                                    replace hx209_6 := (HB.out.cell (World.block_lt_of_cell? w _ hx209_6)).trans hx209_6
                                    have HR209_5 := Aside0.mk hi209_5
                                    have HC209_5 := Aside0.mk hl209_5
                                    clear hi209_5 hl209_5
                                    have HR209_6 := Aside0.mk hi209_6
                                    have HC209_6 := Aside0.mk hl209_6
                                    clear hi209_6 hl209_6
                                    replace p209 := eq_true p209
                                    replace q209 := eq_true q209
                                    go_wp2_with (first | ((with_reducible refine gate_dst (N := 6) rfl ?_); (try (refine gate_guard (by rfl) ?_; dsimp only)); refine box_event ?hg (N := 6) ?hd (cs := #[.string (⟨#[]⟩ : ByteArray), .int .i64 0, .int .i64 0, .bool false, .int .i64 0, .slice none 0 0, .slice none 0 0]) (t := 102) ?hr ?_; (case hd => rfl); (case hg => rfl); (case hr => first | (go_simp; done) | (go_simp; rfl)); intro gb210 hg w77 hbox hb; have n0_ := Aside0.mk (blk_below (g := gb204) (o := .cells #[.slice A0_0 l0_0.length c0_0, .slice (some ad209) l0_1.length c0_1, .slice A0_2 l0_2.length c0_2] 91 (0, 0)) (by (with_reducible repeat (first | refine blk_drewN ?_ _ | refine blk_drew ?_ | refine blk_alloc ?_ _)); exact BK204.out) hb); have n1_ := Aside0.mk (below_step (by repeat (first | (with_reducible first | exact HB.out | apply below_alloc | apply pw_below_drewN | apply below_drew1 | refine below_set ?_ GE204.out) | exact HB.out)) hb); have n2_ := Aside0.mk (hbox); have n3_ := Aside0.mk ((by rw [hg]; exact (below_size (by repeat (first | (with_reducible first | exact HB.out | apply below_alloc | apply pw_below_drewN | apply below_drew1 | refine below_set ?_ GE204.out) | exact HB.out))) : w.heap.size ≤ gb210)); have n4_ := Aside0.mk ((by rw [hg]; exact (below_size (by repeat (first | (with_reducible first | exact HB.out | apply below_alloc | apply pw_below_drewN | apply below_drew1 | refine below_set ?_ GE204.out) | exact HB.out))) : w.heap.size ≤ gb210)); have n5_ := Aside0.mk ((by rw [hg]; exact Nat.ne_of_lt (blk_lt (g := gb204) (o := .cells #[.slice A0_0 l0_0.length c0_0, .slice (some ad209) l0_1.length c0_1, .slice A0_2 l0_2.length c0_2] 91 (0, 0)) (by (with_reducible repeat (first | refine blk_drewN ?_ _ | refine blk_drew ?_ | refine blk_alloc ?_ _)); exact BK204.out)) : gb204 ≠ gb210)); have n6_ := Aside0.mk ((by rw [hg]; exact Nat.ne_of_gt (blk_lt (g := gb204) (o := .cells #[.slice A0_0 l0_0.length c0_0, .slice (some ad209) l0_1.length c0_1, .slice A0_2 l0_2.length c0_2] 91 (0, 0)) (by (with_reducible repeat (first | refine blk_drewN ?_ _ | refine blk_drew ?_ | refine blk_alloc ?_ _)); exact BK204.out)) : gb210 ≠ gb204)); clear BK204; clear HB; have BK204 := n0_; have HB := n1_; have BK210 := n2_; have GW210 := n3_; have GE210 := n4_; have NB204_210 := n5_; have NB210_204 := n6_; clear n0_ n1_ n2_ n3_ n4_ n5_ n6_; clear hb hbox hg; have hnb78 := NB210_204.out; have hnc78 := NB204_210.out; have hcz79_0 : w77.cell? ⟨gb210, 0, none⟩ = some (.string (⟨#[]⟩ : ByteArray)) := (blk_cell BK210.out 0).trans rfl; have hcz79_1 : w77.cell? ⟨gb210, 1, none⟩ = some (.int .i64 0) := (blk_cell BK210.out 1).trans rfl; have hcz79_2 : w77.cell? ⟨gb210, 2, none⟩ = some (.int .i64 0) := (blk_cell BK210.out 2).trans rfl; have hcz79_3 : w77.cell? ⟨gb210, 3, none⟩ = some (.bool false) := (blk_cell BK210.out 3).trans rfl; have hcz79_4 : w77.cell? ⟨gb210, 4, none⟩ = some (.int .i64 0) := (blk_cell BK210.out 4).trans rfl; have hcz79_5 : w77.cell? ⟨gb210, 5, none⟩ = some (.slice none 0 0) := (blk_cell BK210.out 5).trans rfl; have hcz79_6 : w77.cell? ⟨gb210, 6, none⟩ = some (.slice none 0 0) := (blk_cell BK210.out 6).trans rfl; have hfz79_0 := blk_frozen BK210.out 0; have hfz79_1 := blk_frozen BK210.out 1; have hfz79_2 := blk_frozen BK210.out 2; have hfz79_3 := blk_frozen BK210.out 3; have hfz79_4 := blk_frozen BK210.out 4; have hfz79_5 := blk_frozen BK210.out 5; have hfz79_6 := blk_frozen BK210.out 6) | ((with_reducible refine gate_callee (f := 108) rfl ?_); refine goesL_ (some 76) rfl rfl Try.func108 (by kernel_rfl) rfl #[.string ((rd_T102 l0_1 x5_3).f0)] rfl (by (try simp only [List.map_toArray, List.map_cons, List.map_nil]); first | done | rfl | (simp only [List.length_drop, List.length_take]; rfl)) ?_; (with_reducible refine (spliceref09_named.calls k3 ((rd_T102 l0_1 x5_3).f0) true _ A48.out).mono ?_); rintro e w' ⟨rfl, ⟨nd, rfl⟩⟩; refine ⟨_, rfl, ?_⟩))
                                    go_ret
                                    exact ⟨by first | rfl | (simp [errW_none, errW_some] <;> rfl) | (simp [*, errW_none, errW_some] <;> rfl), by repeat (first | (with_reducible first | exact HB.out | apply below_alloc | apply pw_below_drewN | apply below_drew1 | refine below_set ?_ GE204.out | refine below_set ?_ GE210.out) | exact HB.out)⟩
                                  · rw [if_neg c75] at H
                                    have c75b0 : decide (65535 < ((rd_T102 l0_1 x5_3).f4)) = false := decide_eq_false c75
                                    clear c75
                                    by_cases c80 : (((rd_T102 l0_1 x5_3).f5).length : Int) > 4096
                                    · rw [if_pos c80] at H
                                      have c80b0 : decide (4096 < (((rd_T102 l0_1 x5_3).f5).length : Int)) = true := decide_eq_true c80
                                      have c80b1 : decide (4096 < ((rd_T102 l0_1 x5_3).f5).length) = true := decide_eq_true (by omega)
                                      clear c80
                                      obtain rfl := Option.some.inj H
                                      have hcz81_0 : wr.cell? ⟨gb204, 0, none⟩ = some (.slice A0_0 l0_0.length c0_0) := (blk_cell BK204.out 0).trans rfl
                                      have hcz81_1 : wr.cell? ⟨gb204, 1, none⟩ = some (.slice A0_1 l0_1.length c0_1) := (blk_cell BK204.out 1).trans rfl
                                      have hcz81_2 : wr.cell? ⟨gb204, 2, none⟩ = some (.slice A0_2 l0_2.length c0_2) := (blk_cell BK204.out 2).trans rfl
                                      have hfz81_0 := blk_frozen BK204.out 0
                                      have hfz81_1 := blk_frozen BK204.out 1
                                      have hfz81_2 := blk_frozen BK204.out 2
                                      have p209 : 0 ≤ (x5_3 : Int) := of_decide_eq_true (by first | (with_reducible assumption) | assumption)
                                      have q209 : x5_3 < (l0_1.length : Int) := of_decide_eq_true (by first | (with_reducible assumption) | assumption)
                                      obtain ⟨ad209, A209_5, c209_5, A209_6, c209_6, e209, hx209_0, hx209_1, hx209_2, hx209_3, hx209_4, hx209_5, hx209_6, hl209_5, hi209_5, hl209_6, hi209_6⟩ := at_T102 HR0_1.out x5_3 p209 q209
                                      cases e209
                                      replace hx209_0 := (HB.out.cell (World.block_lt_of_cell? w _ hx209_0)).trans hx209_0
                                      replace hx209_1 := (HB.out.cell (World.block_lt_of_cell? w _ hx209_1)).trans hx209_1
                                      replace hx209_2 := (HB.out.cell (World.block_lt_of_cell? w _ hx209_2)).trans hx209_2
                                      replace hx209_3 := (HB.out.cell (World.block_lt_of_cell? w _ hx209_3)).trans hx209_3
                                      replace hx209_4 := (HB.out.cell (World.block_lt_of_cell? w _ hx209_4)).trans hx209_4
                                      replace hx209_5 := (HB.out.cell (World.block_lt_of_cell? w _ hx209_5)).trans hx209_5
                                      replace hx209_6 := (HB.out.cell (World.block_lt_of_cell? w _ hx209_6)).trans hx209_6
                                      have HR209_5 := Aside0.mk hi209_5
                                      have HC209_5 := Aside0.mk hl209_5
                                      clear hi209_5 hl209_5
                                      have HR209_6 := Aside0.mk hi209_6
                                      have HC209_6 := Aside0.mk hl209_6
                                      clear hi209_6 hl209_6
                                      replace p209 := eq_true p209
                                      replace q209 := eq_true q209
                                      go_wp2_with (first | ((with_reducible refine gate_dst (N := 6) rfl ?_); (try (refine gate_guard (by rfl) ?_; dsimp only)); refine box_event ?hg (N := 6) ?hd (cs := #[.string (⟨#[]⟩ : ByteArray), .int .i64 0, .int .i64 0, .bool false, .int .i64 0, .slice none 0 0, .slice none 0 0]) (t := 102) ?hr ?_; (case hd => rfl); (case hg => rfl); (case hr => first | (go_simp; done) | (go_simp; rfl)); intro gb210 hg w82 hbox hb; have n0_ := Aside0.mk (blk_below (g := gb204) (o := .cells #[.slice A0_0 l0_0.length c0_0, .slice (some ad209) l0_1.length c0_1, .slice A0_2 l0_2.length c0_2] 91 (0, 0)) (by (with_reducible repeat (first | refine blk_drewN ?_ _ | refine blk_drew ?_ | refine blk_alloc ?_ _)); exact BK204.out) hb); have n1_ := Aside0.mk (below_step (by repeat (first | (with_reducible first | exact HB.out | apply below_alloc | apply pw_below_drewN | apply below_drew1 | refine below_set ?_ GE204.out) | exact HB.out)) hb); have n2_ := Aside0.mk (hbox); have n3_ := Aside0.mk ((by rw [hg]; exact (below_size (by repeat (first | (with_reducible first | exact HB.out | apply below_alloc | apply pw_below_drewN | apply below_drew1 | refine below_set ?_ GE204.out) | exact HB.out))) : w.heap.size ≤ gb210)); have n4_ := Aside0.mk ((by rw [hg]; exact (below_size (by repeat (first | (with_reducible first | exact HB.out | apply below_alloc | apply pw_below_drewN | apply below_drew1 | refine below_set ?_ GE204.out) | exact HB.out))) : w.heap.size ≤ gb210)); have n5_ := Aside0.mk ((by rw [hg]; exact Nat.ne_of_lt (blk_lt (g := gb204) (o := .cells #[.slice A0_0 l0_0.length c0_0, .slice (some ad209) l0_1.length c0_1, .slice A0_2 l0_2.length c0_2] 91 (0, 0)) (by (with_reducible repeat (first | refine blk_drewN ?_ _ | refine blk_drew ?_ | refine blk_alloc ?_ _)); exact BK204.out)) : gb204 ≠ gb210)); have n6_ := Aside0.mk ((by rw [hg]; exact Nat.ne_of_gt (blk_lt (g := gb204) (o := .cells #[.slice A0_0 l0_0.length c0_0, .slice (some ad209) l0_1.length c0_1, .slice A0_2 l0_2.length c0_2] 91 (0, 0)) (by (with_reducible repeat (first | refine blk_drewN ?_ _ | refine blk_drew ?_ | refine blk_alloc ?_ _)); exact BK204.out)) : gb210 ≠ gb204)); clear BK204; clear HB; have BK204 := n0_; have HB := n1_; have BK210 := n2_; have GW210 := n3_; have GE210 := n4_; have NB204_210 := n5_; have NB210_204 := n6_; clear n0_ n1_ n2_ n3_ n4_ n5_ n6_; clear hb hbox hg; have hnb83 := NB210_204.out; have hnc83 := NB204_210.out; have hcz84_0 : w82.cell? ⟨gb210, 0, none⟩ = some (.string (⟨#[]⟩ : ByteArray)) := (blk_cell BK210.out 0).trans rfl; have hcz84_1 : w82.cell? ⟨gb210, 1, none⟩ = some (.int .i64 0) := (blk_cell BK210.out 1).trans rfl; have hcz84_2 : w82.cell? ⟨gb210, 2, none⟩ = some (.int .i64 0) := (blk_cell BK210.out 2).trans rfl; have hcz84_3 : w82.cell? ⟨gb210, 3, none⟩ = some (.bool false) := (blk_cell BK210.out 3).trans rfl; have hcz84_4 : w82.cell? ⟨gb210, 4, none⟩ = some (.int .i64 0) := (blk_cell BK210.out 4).trans rfl; have hcz84_5 : w82.cell? ⟨gb210, 5, none⟩ = some (.slice none 0 0) := (blk_cell BK210.out 5).trans rfl; have hcz84_6 : w82.cell? ⟨gb210, 6, none⟩ = some (.slice none 0 0) := (blk_cell BK210.out 6).trans rfl; have hfz84_0 := blk_frozen BK210.out 0; have hfz84_1 := blk_frozen BK210.out 1; have hfz84_2 := blk_frozen BK210.out 2; have hfz84_3 := blk_frozen BK210.out 3; have hfz84_4 := blk_frozen BK210.out 4; have hfz84_5 := blk_frozen BK210.out 5; have hfz84_6 := blk_frozen BK210.out 6) | ((with_reducible refine gate_callee (f := 108) rfl ?_); refine goesL_ (some 76) rfl rfl Try.func108 (by kernel_rfl) rfl #[.string ((rd_T102 l0_1 x5_3).f0)] rfl (by (try simp only [List.map_toArray, List.map_cons, List.map_nil]); first | done | rfl | (simp only [List.length_drop, List.length_take]; rfl)) ?_; (with_reducible refine (spliceref09_named.calls k3 ((rd_T102 l0_1 x5_3).f0) true _ A48.out).mono ?_); rintro e w' ⟨rfl, ⟨nd, rfl⟩⟩; refine ⟨_, rfl, ?_⟩))
                                      go_ret
                                      exact ⟨by first | rfl | (simp [errW_none, errW_some] <;> rfl) | (simp [*, errW_none, errW_some] <;> rfl), by repeat (first | (with_reducible first | exact HB.out | apply below_alloc | apply pw_below_drewN | apply below_drew1 | refine below_set ?_ GE204.out | refine below_set ?_ GE210.out) | exact HB.out)⟩
                                    · rw [if_neg c80] at H
                                      have c80b0 : decide (4096 < (((rd_T102 l0_1 x5_3).f5).length : Int)) = false := decide_eq_false c80
                                      have c80b1 : decide (4096 < ((rd_T102 l0_1 x5_3).f5).length) = false := decide_eq_false (by omega)
                                      clear c80
                                      replace H := Option.bind_eq_some_iff.mp H
                                      obtain ⟨t212, A850, H⟩ := H
                                      replace H : (if t212 = true then (spliceref09_May.l1 k3 (wrap64 (x5_3 + 1)) l0_0 l0_1 l0_2) else (some false)) = some r := H
                                      have A85 := Aside0.mk A850
                                      clear A850
                                      by_cases c86 : t212 = true
                                      · subst c86
                                        have H1 : (spliceref09_May.l1 k3 (wrap64 (x5_3 + 1)) l0_0 l0_1 l0_2) = some r := by rw [if_pos rfl] at H; exact H
                                        clear H
                                        have H := H1
                                        clear H1
                                        have H' := Aside0.mk H
                                        clear H
                                        have hcz87_0 : wr.cell? ⟨gb204, 0, none⟩ = some (.slice A0_0 l0_0.length c0_0) := (blk_cell BK204.out 0).trans rfl
                                        have hcz87_1 : wr.cell? ⟨gb204, 1, none⟩ = some (.slice A0_1 l0_1.length c0_1) := (blk_cell BK204.out 1).trans rfl
                                        have hcz87_2 : wr.cell? ⟨gb204, 2, none⟩ = some (.slice A0_2 l0_2.length c0_2) := (blk_cell BK204.out 2).trans rfl
                                        have hfz87_0 := blk_frozen BK204.out 0
                                        have hfz87_1 := blk_frozen BK204.out 1
                                        have hfz87_2 := blk_frozen BK204.out 2
                                        have p209 : 0 ≤ (x5_3 : Int) := of_decide_eq_true (by first | (with_reducible assumption) | assumption)
                                        have q209 : x5_3 < (l0_1.length : Int) := of_decide_eq_true (by first | (with_reducible assumption) | assumption)
                                        obtain ⟨ad209, A209_5, c209_5, A209_6, c209_6, e209, hx209_0, hx209_1, hx209_2, hx209_3, hx209_4, hx209_5, hx209_6, hl209_5, hi209_5, hl209_6, hi209_6⟩ := at_T102 HR0_1.out x5_3 p209 q209
                                        cases e209
                                        replace hx209_0 := (HB.out.cell (World.block_lt_of_cell? w _ hx209_0)).trans hx209_0
                                        replace hx209_1 := (HB.out.cell (World.block_lt_of_cell? w _ hx209_1)).trans hx209_1
                                        replace hx209_2 := (HB.out.cell (World.block_lt_of_cell? w _ hx209_2)).trans hx209_2
                                        replace hx209_3 := (HB.out.cell (World.block_lt_of_cell? w _ hx209_3)).trans hx209_3
                                        replace hx209_4 := (HB.out.cell (World.block_lt_of_cell? w _ hx209_4)).trans hx209_4
                                        replace hx209_5 := (HB.out.cell (World.block_lt_of_cell? w _ hx209_5)).trans hx209_5
                                        replace hx209_6 := (HB.out.cell (World.block_lt_of_cell? w _ hx209_6)).trans hx209_6
                                        have HR209_5 := Aside0.mk hi209_5
                                        have HC209_5 := Aside0.mk hl209_5
                                        clear hi209_5 hl209_5
                                        have HR209_6 := Aside0.mk hi209_6
                                        have HC209_6 := Aside0.mk hl209_6
                                        clear hi209_6 hl209_6
                                        replace p209 := eq_true p209
                                        replace q209 := eq_true q209
                                        go_wp2_with (first | ((with_reducible refine gate_dst (N := 6) rfl ?_); (try (refine gate_guard (by rfl) ?_; dsimp only)); refine box_event ?hg (N := 6) ?hd (cs := #[.string (⟨#[]⟩ : ByteArray), .int .i64 0, .int .i64 0, .bool false, .int .i64 0, .slice none 0 0, .slice none 0 0]) (t := 102) ?hr ?_; (case hd => rfl); (case hg => rfl); (case hr => first | (go_simp; done) | (go_simp; rfl)); intro gb210 hg w88 hbox hb; have n0_ := Aside0.mk (blk_below (g := gb204) (o := .cells #[.slice A0_0 l0_0.length c0_0, .slice (some ad209) l0_1.length c0_1, .slice A0_2 l0_2.length c0_2] 91 (0, 0)) (by (with_reducible repeat (first | refine blk_drewN ?_ _ | refine blk_drew ?_ | refine blk_alloc ?_ _)); exact BK204.out) hb); have n1_ := Aside0.mk (below_step (by repeat (first | (with_reducible first | exact HB.out | apply below_alloc | apply pw_below_drewN | apply below_drew1 | refine below_set ?_ GE204.out) | exact HB.out)) hb); have n2_ := Aside0.mk (hbox); have n3_ := Aside0.mk ((by rw [hg]; exact (below_size (by repeat (first | (with_reducible first | exact HB.out | apply below_alloc | apply pw_below_drewN | apply below_drew1 | refine below_set ?_ GE204.out) | exact HB.out))) : w.heap.size ≤ gb210)); have n4_ := Aside0.mk ((by rw [hg]; exact (below_size (by repeat (first | (with_reducible first | exact HB.out | apply below_alloc | apply pw_below_drewN | apply below_drew1 | refine below_set ?_ GE204.out) | exact HB.out))) : w.heap.size ≤ gb210)); have n5_ := Aside0.mk ((by rw [hg]; exact Nat.ne_of_lt (blk_lt (g := gb204) (o := .cells #[.slice A0_0 l0_0.length c0_0, .slice (some ad209) l0_1.length c0_1, .slice A0_2 l0_2.length c0_2] 91 (0, 0)) (by (with_reducible repeat (first | refine blk_drewN ?_ _ | refine blk_drew ?_ | refine blk_alloc ?_ _)); exact BK204.out)) : gb204 ≠ gb210)); have n6_ := Aside0.mk ((by rw [hg]; exact Nat.ne_of_gt (blk_lt (g := gb204) (o := .cells #[.slice A0_0 l0_0.length c0_0, .slice (some ad209) l0_1.length c0_1, .slice A0_2 l0_2.length c0_2] 91 (0, 0)) (by (with_reducible repeat (first | refine blk_drewN ?_ _ | refine blk_drew ?_ | refine blk_alloc ?_ _)); exact BK204.out)) : gb210 ≠ gb204)); clear BK204; clear HB; have BK204 := n0_; have HB := n1_; have BK210 := n2_; have GW210 := n3_; have GE210 := n4_; have NB204_210 := n5_; have NB210_204 := n6_; clear n0_ n1_ n2_ n3_ n4_ n5_ n6_; clear hb hbox hg; have hnb89 := NB210_204.out; have hnc89 := NB204_210.out; have hcz90_0 : w88.cell? ⟨gb210, 0, none⟩ = some (.string (⟨#[]⟩ : ByteArray)) := (blk_cell BK210.out 0).trans rfl; have hcz90_1 : w88.cell? ⟨gb210, 1, none⟩ = some (.int .i64 0) := (blk_cell BK210.out 1).trans rfl; have hcz90_2 : w88.cell? ⟨gb210, 2, none⟩ = some (.int .i64 0) := (blk_cell BK210.out 2).trans rfl; have hcz90_3 : w88.cell? ⟨gb210, 3, none⟩ = some (.bool false) := (blk_cell BK210.out 3).trans rfl; have hcz90_4 : w88.cell? ⟨gb210, 4, none⟩ = some (.int .i64 0) := (blk_cell BK210.out 4).trans rfl; have hcz90_5 : w88.cell? ⟨gb210, 5, none⟩ = some (.slice none 0 0) := (blk_cell BK210.out 5).trans rfl; have hcz90_6 : w88.cell? ⟨gb210, 6, none⟩ = some (.slice none 0 0) := (blk_cell BK210.out 6).trans rfl; have hfz90_0 := blk_frozen BK210.out 0; have hfz90_1 := blk_frozen BK210.out 1; have hfz90_2 := blk_frozen BK210.out 2; have hfz90_3 := blk_frozen BK210.out 3; have hfz90_4 := blk_frozen BK210.out 4; have hfz90_5 := blk_frozen BK210.out 5; have hfz90_6 := blk_frozen BK210.out 6) | ((with_reducible refine gate_callee (f := 108) rfl ?_); refine goesL_ (some 76) rfl rfl Try.func108 (by kernel_rfl) rfl #[.string ((rd_T102 l0_1 x5_3).f0)] rfl (by (try simp only [List.map_toArray, List.map_cons, List.map_nil]); first | done | rfl | (simp only [List.length_drop, List.length_take]; rfl)) ?_; (with_reducible refine (spliceref09_named.calls k3 ((rd_T102 l0_1 x5_3).f0) true _ A48.out).mono ?_); rintro e w' ⟨rfl, ⟨nd, rfl⟩⟩; refine ⟨_, rfl, ?_⟩) | (go_at_call 109; (with_reducible refine (spliceref09_rels.calls k3 _ _ ((rd_T102 l0_1 x5_3).f6) true _ ?side1 ?side2 A85.out).mono ?_); (case side1 => exact Kd.C_below HR209_6.out (by repeat (first | (with_reducible first | exact HB.out | apply below_alloc | apply pw_below_drewN | apply below_drew1 | refine below_set ?_ GE204.out | refine below_set ?_ GE210.out) | exact HB.out))); (case side2 => exact HC209_6.out); rintro e w91 ⟨rfl, hb⟩; have n0_ := Aside0.mk (blk_below (g := gb204) (o := .cells #[.slice A0_0 l0_0.length c0_0, .slice (some ad209) l0_1.length c0_1, .slice A0_2 l0_2.length c0_2] 91 (0, 0)) (by (with_reducible repeat (first | refine blk_drewN ?_ _ | refine blk_drew ?_ | refine blk_alloc ?_ _)); refine blk_far ?_ NB204_210.out _; (with_reducible repeat (first | refine blk_drewN ?_ _ | refine blk_drew ?_ | refine blk_alloc ?_ _)); refine blk_far ?_ NB204_210.out _; (with_reducible repeat (first | refine blk_drewN ?_ _ | refine blk_drew ?_ | refine blk_alloc ?_ _)); refine blk_far ?_ NB204_210.out _; (with_reducible repeat (first | refine blk_drewN ?_ _ | refine blk_drew ?_ | refine blk_alloc ?_ _)); refine blk_far ?_ NB204_210.out _; (with_reducible repeat (first | refine blk_drewN ?_ _ | refine blk_drew ?_ | refine blk_alloc ?_ _)); refine blk_far ?_ NB204_210.out _; (with_reducible repeat (first | refine blk_drewN ?_ _ | refine blk_drew ?_ | refine blk_alloc ?_ _)); refine blk_far ?_ NB204_210.out _; (with_reducible repeat (first | refine blk_drewN ?_ _ | refine blk_drew ?_ | refine blk_alloc ?_ _)); refine blk_far ?_ NB204_210.out _; (with_reducible repeat (first | refine blk_drewN ?_ _ | refine blk_drew ?_ | refine blk_alloc ?_ _)); exact BK204.out) hb); have n1_ := Aside0.mk (blk_below (g := gb210) (o := .cells #[.string ((rd_T102 l0_1 x5_3).f0), .int .i64 ((rd_T102 l0_1 x5_3).f1), .int .i64 ((rd_T102 l0_1 x5_3).f2), .bool ((rd_T102 l0_1 x5_3).f3), .int .i64 ((rd_T102 l0_1 x5_3).f4), .slice A209_5 ((rd_T102 l0_1 x5_3).f5).length c209_5, .slice A209_6 ((rd_T102 l0_1 x5_3).f6).length c209_6] 102 (0, 0)) (by (with_reducible repeat (first | refine blk_drewN ?_ _ | refine blk_drew ?_ | refine blk_alloc ?_ _)); refine blk_put (cs := #[.string ((rd_T102 l0_1 x5_3).f0), .int .i64 ((rd_T102 l0_1 x5_3).f1), .int .i64 ((rd_T102 l0_1 x5_3).f2), .bool ((rd_T102 l0_1 x5_3).f3), .int .i64 ((rd_T102 l0_1 x5_3).f4), .slice A209_5 ((rd_T102 l0_1 x5_3).f5).length c209_5, .slice none 0 0]) ?_ 6 _ rfl; (with_reducible repeat (first | refine blk_drewN ?_ _ | refine blk_drew ?_ | refine blk_alloc ?_ _)); refine blk_put (cs := #[.string ((rd_T102 l0_1 x5_3).f0), .int .i64 ((rd_T102 l0_1 x5_3).f1), .int .i64 ((rd_T102 l0_1 x5_3).f2), .bool ((rd_T102 l0_1 x5_3).f3), .int .i64 ((rd_T102 l0_1 x5_3).f4), .slice none 0 0, .slice none 0 0]) ?_ 5 _ rfl; (with_reducible repeat (first | refine blk_drewN ?_ _ | refine blk_drew ?_ | refine blk_alloc ?_ _)); refine blk_put (cs := #[.string ((rd_T102 l0_1 x5_3).f0), .int .i64 ((rd_T102 l0_1 x5_3).f1), .int .i64 ((rd_T102 l0_1 x5_3).f2), .bool ((rd_T102 l0_1 x5_3).f3), .int .i64 0, .slice none 0 0, .slice none 0 0]) ?_ 4 _ rfl; (with_reducible repeat (first | refine blk_drewN ?_ _ | refine blk_drew ?_ | refine blk_alloc ?_ _)); refine blk_put (cs := #[.string ((rd_T102 l0_1 x5_3).f0), .int .i64 ((rd_T102 l0_1 x5_3).f1), .int .i64 ((rd_T102 l0_1 x5_3).f2), .bool false, .int .i64 0, .slice none 0 0, .slice none 0 0]) ?_ 3 _ rfl; (with_reducible repeat (first | refine blk_drewN ?_ _ | refine blk_drew ?_ | refine blk_alloc ?_ _)); refine blk_put (cs := #[.string ((rd_T102 l0_1 x5_3).f0), .int .i64 ((rd_T102 l0_1 x5_3).f1), .int .i64 0, .bool false, .int .i64 0, .slice none 0 0, .slice none 0 0]) ?_ 2 _ rfl; (with_reducible repeat (first | refine blk_drewN ?_ _ | refine blk_drew ?_ | refine blk_alloc ?_ _)); refine blk_put (cs := #[.string ((rd_T102 l0_1 x5_3).f0), .int .i64 0, .int .i64 0, .bool false, .int .i64 0, .slice none 0 0, .slice none 0 0]) ?_ 1 _ rfl; (with_reducible repeat (first | refine blk_drewN ?_ _ | refine blk_drew ?_ | refine blk_alloc ?_ _)); refine blk_put (cs := #[.string (⟨#[]⟩ : ByteArray), .int .i64 0, .int .i64 0, .bool false, .int .i64 0, .slice none 0 0, .slice none 0 0]) ?_ 0 _ rfl; (with_reducible repeat (first | refine blk_drewN ?_ _ | refine blk_drew ?_ | refine blk_alloc ?_ _)); exact BK210.out) hb); have n2_ := Aside0.mk (below_step (by repeat (first | (with_reducible first | exact HB.out | apply below_alloc | apply pw_below_drewN | apply below_drew1 | refine below_set ?_ GE204.out | refine below_set ?_ GE210.out) | exact HB.out)) hb); clear BK204; clear BK210; clear HB; have BK204 := n0_; have BK210 := n1_; have HB := n2_; clear n0_ n1_ n2_; (try clear hb); (try clear hb2); (try clear hk); (try clear hi)))
                                        go_roundg k3
                                        case measure => have := HJ1.out; have := HK2.out; have := HK3.out; omega
                                        case rel => exact ⟨(wrap64 (x5_3 + 1)), (by first | rfl | (simp; done) | (simp [*]; done)), H', ⟨by have := HJ1.out; have := HK2.out; have := HK3.out; omega⟩, ⟨by (with_reducible repeat (first | refine blk_drewN ?_ _ | refine blk_drew ?_ | refine blk_alloc ?_ _)); exact BK204.out⟩, ⟨by repeat (first | (with_reducible first | exact HB.out | apply below_alloc | apply pw_below_drewN | apply below_drew1 | refine below_set ?_ GE204.out | refine below_set ?_ GE210.out) | exact HB.out)⟩⟩
                                      · replace c86 := Bool.eq_false_iff.mpr c86
                                        subst c86
                                        have H1 : (some false) = some r := by rw [if_neg (show ¬ (false = true) by decide)] at H; exact H
                                        clear H
                                        have H := H1
                                        clear H1
                                        obtain rfl := Option.some.inj H
                                        have hcz92_0 : wr.cell? ⟨gb204, 0, none⟩ = some (.slice A0_0 l0_0.length c0_0) := (blk_cell BK204.out 0).trans rfl
                                        have hcz92_1 : wr.cell? ⟨gb204, 1, none⟩ = some (.slice A0_1 l0_1.length c0_1) := (blk_cell BK204.out 1).trans rfl
                                        have hcz92_2 : wr.cell? ⟨gb204, 2, none⟩ = some (.slice A0_2 l0_2.length c0_2) := (blk_cell BK204.out 2).trans rfl
                                        have hfz92_0 := blk_frozen BK204.out 0
                                        have hfz92_1 := blk_frozen BK204.out 1
                                        have hfz92_2 := blk_frozen BK204.out 2
                                        have p209 : 0 ≤ (x5_3 : Int) := of_decide_eq_true (by first | (with_reducible assumption) | assumption)
                                        have q209 : x5_3 < (l0_1.length : Int) := of_decide_eq_true (by first | (with_reducible assumption) | assumption)
                                        obtain ⟨ad209, A209_5, c209_5, A209_6, c209_6, e209, hx209_0, hx209_1, hx209_2, hx209_3, hx209_4, hx209_5, hx209_6, hl209_5, hi209_5, hl209_6, hi209_6⟩ := at_T102 HR0_1.out x5_3 p209 q209
                                        cases e209
                                        replace hx209_0 := (HB.out.cell (World.block_lt_of_cell? w _ hx209_0)).trans hx209_0
                                        replace hx209_1 := (HB.out.cell (World.block_lt_of_cell? w _ hx209_1)).trans hx209_1
                                        replace hx209_2 := (HB.out.cell (World.block_lt_of_cell? w _ hx209_2)).trans hx209_2
                                        replace hx209_3 := (HB.out.cell (World.block_lt_of_cell? w _ hx209_3)).trans hx209_3
                                        replace hx209_4 := (HB.out.cell (World.block_lt_of_cell? w _ hx209_4)).trans hx209_4
                                        replace hx209_5 := (HB.out.cell (World.block_lt_of_cell? w _ hx209_5)).trans hx209_5
                                        replace hx209_6 := (HB.out.cell (World.block_lt_of_cell? w _ hx209_6)).trans hx209_6
                                        have HR209_5 := Aside0.mk hi209_5
                                        have HC209_5 := Aside0.mk hl209_5
                                        clear hi209_5 hl209_5
                                        have HR209_6 := Aside0.mk hi209_6
                                        have HC209_6 := Aside0.mk hl209_6
                                        clear hi209_6 hl209_6
                                        replace p209 := eq_true p209
                                        replace q209 := eq_true q209
                                        go_wp2_with (first | ((with_reducible refine gate_dst (N := 6) rfl ?_); (try (refine gate_guard (by rfl) ?_; dsimp only)); refine box_event ?hg (N := 6) ?hd (cs := #[.string (⟨#[]⟩ : ByteArray), .int .i64 0, .int .i64 0, .bool false, .int .i64 0, .slice none 0 0, .slice none 0 0]) (t := 102) ?hr ?_; (case hd => rfl); (case hg => rfl); (case hr => first | (go_simp; done) | (go_simp; rfl)); intro gb210 hg w93 hbox hb; have n0_ := Aside0.mk (blk_below (g := gb204) (o := .cells #[.slice A0_0 l0_0.length c0_0, .slice (some ad209) l0_1.length c0_1, .slice A0_2 l0_2.length c0_2] 91 (0, 0)) (by (with_reducible repeat (first | refine blk_drewN ?_ _ | refine blk_drew ?_ | refine blk_alloc ?_ _)); exact BK204.out) hb); have n1_ := Aside0.mk (below_step (by repeat (first | (with_reducible first | exact HB.out | apply below_alloc | apply pw_below_drewN | apply below_drew1 | refine below_set ?_ GE204.out) | exact HB.out)) hb); have n2_ := Aside0.mk (hbox); have n3_ := Aside0.mk ((by rw [hg]; exact (below_size (by repeat (first | (with_reducible first | exact HB.out | apply below_alloc | apply pw_below_drewN | apply below_drew1 | refine below_set ?_ GE204.out) | exact HB.out))) : w.heap.size ≤ gb210)); have n4_ := Aside0.mk ((by rw [hg]; exact (below_size (by repeat (first | (with_reducible first | exact HB.out | apply below_alloc | apply pw_below_drewN | apply below_drew1 | refine below_set ?_ GE204.out) | exact HB.out))) : w.heap.size ≤ gb210)); have n5_ := Aside0.mk ((by rw [hg]; exact Nat.ne_of_lt (blk_lt (g := gb204) (o := .cells #[.slice A0_0 l0_0.length c0_0, .slice (some ad209) l0_1.length c0_1, .slice A0_2 l0_2.length c0_2] 91 (0, 0)) (by (with_reducible repeat (first | refine blk_drewN ?_ _ | refine blk_drew ?_ | refine blk_alloc ?_ _)); exact BK204.out)) : gb204 ≠ gb210)); have n6_ := Aside0.mk ((by rw [hg]; exact Nat.ne_of_gt (blk_lt (g := gb204) (o := .cells #[.slice A0_0 l0_0.length c0_0, .slice (some ad209) l0_1.length c0_1, .slice A0_2 l0_2.length c0_2] 91 (0, 0)) (by (with_reducible repeat (first | refine blk_drewN ?_ _ | refine blk_drew ?_ | refine blk_alloc ?_ _)); exact BK204.out)) : gb210 ≠ gb204)); clear BK204; clear HB; have BK204 := n0_; have HB := n1_; have BK210 := n2_; have GW210 := n3_; have GE210 := n4_; have NB204_210 := n5_; have NB210_204 := n6_; clear n0_ n1_ n2_ n3_ n4_ n5_ n6_; clear hb hbox hg; have hnb94 := NB210_204.out; have hnc94 := NB204_210.out; have hcz95_0 : w93.cell? ⟨gb210, 0, none⟩ = some (.string (⟨#[]⟩ : ByteArray)) := (blk_cell BK210.out 0).trans rfl; have hcz95_1 : w93.cell? ⟨gb210, 1, none⟩ = some (.int .i64 0) := (blk_cell BK210.out 1).trans rfl; have hcz95_2 : w93.cell? ⟨gb210, 2, none⟩ = some (.int .i64 0) := (blk_cell BK210.out 2).trans rfl; have hcz95_3 : w93.cell? ⟨gb210, 3, none⟩ = some (.bool false) := (blk_cell BK210.out 3).trans rfl; have hcz95_4 : w93.cell? ⟨gb210, 4, none⟩ = some (.int .i64 0) := (blk_cell BK210.out 4).trans rfl; have hcz95_5 : w93.cell? ⟨gb210, 5, none⟩ = some (.slice none 0 0) := (blk_cell BK210.out 5).trans rfl; have hcz95_6 : w93.cell? ⟨gb210, 6, none⟩ = some (.slice none 0 0) := (blk_cell BK210.out 6).trans rfl; have hfz95_0 := blk_frozen BK210.out 0; have hfz95_1 := blk_frozen BK210.out 1; have hfz95_2 := blk_frozen BK210.out 2; have hfz95_3 := blk_frozen BK210.out 3; have hfz95_4 := blk_frozen BK210.out 4; have hfz95_5 := blk_frozen BK210.out 5; have hfz95_6 := blk_frozen BK210.out 6) | ((with_reducible refine gate_callee (f := 108) rfl ?_); refine goesL_ (some 76) rfl rfl Try.func108 (by kernel_rfl) rfl #[.string ((rd_T102 l0_1 x5_3).f0)] rfl (by (try simp only [List.map_toArray, List.map_cons, List.map_nil]); first | done | rfl | (simp only [List.length_drop, List.length_take]; rfl)) ?_; (with_reducible refine (spliceref09_named.calls k3 ((rd_T102 l0_1 x5_3).f0) true _ A48.out).mono ?_); rintro e w' ⟨rfl, ⟨nd, rfl⟩⟩; refine ⟨_, rfl, ?_⟩) | (go_at_call 109; (with_reducible refine (spliceref09_rels.calls k3 _ _ ((rd_T102 l0_1 x5_3).f6) false _ ?side1 ?side2 A85.out).mono ?_); (case side1 => exact Kd.C_below HR209_6.out (by repeat (first | (with_reducible first | exact HB.out | apply below_alloc | apply pw_below_drewN | apply below_drew1 | refine below_set ?_ GE204.out | refine below_set ?_ GE210.out) | exact HB.out))); (case side2 => exact HC209_6.out); rintro e w96 ⟨rfl, hb⟩; have n0_ := Aside0.mk (blk_below (g := gb204) (o := .cells #[.slice A0_0 l0_0.length c0_0, .slice (some ad209) l0_1.length c0_1, .slice A0_2 l0_2.length c0_2] 91 (0, 0)) (by (with_reducible repeat (first | refine blk_drewN ?_ _ | refine blk_drew ?_ | refine blk_alloc ?_ _)); refine blk_far ?_ NB204_210.out _; (with_reducible repeat (first | refine blk_drewN ?_ _ | refine blk_drew ?_ | refine blk_alloc ?_ _)); refine blk_far ?_ NB204_210.out _; (with_reducible repeat (first | refine blk_drewN ?_ _ | refine blk_drew ?_ | refine blk_alloc ?_ _)); refine blk_far ?_ NB204_210.out _; (with_reducible repeat (first | refine blk_drewN ?_ _ | refine blk_drew ?_ | refine blk_alloc ?_ _)); refine blk_far ?_ NB204_210.out _; (with_reducible repeat (first | refine blk_drewN ?_ _ | refine blk_drew ?_ | refine blk_alloc ?_ _)); refine blk_far ?_ NB204_210.out _; (with_reducible repeat (first | refine blk_drewN ?_ _ | refine blk_drew ?_ | refine blk_alloc ?_ _)); refine blk_far ?_ NB204_210.out _; (with_reducible repeat (first | refine blk_drewN ?_ _ | refine blk_drew ?_ | refine blk_alloc ?_ _)); refine blk_far ?_ NB204_210.out _; (with_reducible repeat (first | refine blk_drewN ?_ _ | refine blk_drew ?_ | refine blk_alloc ?_ _)); exact BK204.out) hb); have n1_ := Aside0.mk (blk_below (g := gb210) (o := .cells #[.string ((rd_T102 l0_1 x5_3).f0), .int .i64 ((rd_T102 l0_1 x5_3).f1), .int .i64 ((rd_T102 l0_1 x5_3).f2), .bool ((rd_T102 l0_1 x5_3).f3), .int .i64 ((rd_T102 l0_1 x5_3).f4), .slice A209_5 ((rd_T102 l0_1 x5_3).f5).length c209_5, .slice A209_6 ((rd_T102 l0_1 x5_3).f6).length c209_6] 102 (0, 0)) (by (with_reducible repeat (first | refine blk_drewN ?_ _ | refine blk_drew ?_ | refine blk_alloc ?_ _)); refine blk_put (cs := #[.string ((rd_T102 l0_1 x5_3).f0), .int .i64 ((rd_T102 l0_1 x5_3).f1), .int .i64 ((rd_T102 l0_1 x5_3).f2), .bool ((rd_T102 l0_1 x5_3).f3), .int .i64 ((rd_T102 l0_1 x5_3).f4), .slice A209_5 ((rd_T102 l0_1 x5_3).f5).length c209_5, .slice none 0 0]) ?_ 6 _ rfl; (with_reducible repeat (first | refine blk_drewN ?_ _ | refine blk_drew ?_ | refine blk_alloc ?_ _)); refine blk_put (cs := #[.string ((rd_T102 l0_1 x5_3).f0), .int .i64 ((rd_T102 l0_1 x5_3).f1), .int .i64 ((rd_T102 l0_1 x5_3).f2), .bool ((rd_T102 l0_1 x5_3).f3), .int .i64 ((rd_T102 l0_1 x5_3).f4), .slice none 0 0, .slice none 0 0]) ?_ 5 _ rfl; (with_reducible repeat (first | refine blk_drewN ?_ _ | refine blk_drew ?_ | refine blk_alloc ?_ _)); refine blk_put (cs := #[.string ((rd_T102 l0_1 x5_3).f0), .int .i64 ((rd_T102 l0_1 x5_3).f1), .int .i64 ((rd_T102 l0_1 x5_3).f2), .bool ((rd_T102 l0_1 x5_3).f3), .int .i64 0, .slice none 0 0, .slice none 0 0]) ?_ 4 _ rfl; (with_reducible repeat (first | refine blk_drewN ?_ _ | refine blk_drew ?_ | refine blk_alloc ?_ _)); refine blk_put (cs := #[.string ((rd_T102 l0_1 x5_3).f0), .int .i64 ((rd_T102 l0_1 x5_3).f1), .int .i64 ((rd_T102 l0_1 x5_3).f2), .bool false, .int .i64 0, .slice none 0 0, .slice none 0 0]) ?_ 3 _ rfl; (with_reducible repeat (first | refine blk_drewN ?_ _ | refine blk_drew ?_ | refine blk_alloc ?_ _)); refine blk_put (cs := #[.string ((rd_T102 l0_1 x5_3).f0), .int .i64 ((rd_T102 l0_1 x5_3).f1), .int .i64 0, .bool false, .int .i64 0, .slice none 0 0, .slice none 0 0]) ?_ 2 _ rfl; (with_reducible repeat (first | refine blk_drewN ?_ _ | refine blk_drew ?_ | refine blk_alloc ?_ _)); refine blk_put (cs := #[.string ((rd_T102 l0_1 x5_3).f0), .int .i64 0, .int .i64 0, .bool false, .int .i64 0, .slice none 0 0, .slice none 0 0]) ?_ 1 _ rfl; (with_reducible repeat (first | refine blk_drewN ?_ _ | refine blk_drew ?_ | refine blk_alloc ?_ _)); refine blk_put (cs := #[.string (⟨#[]⟩ : ByteArray), .int .i64 0, .int .i64 0, .bool false, .int .i64 0, .slice none 0 0, .slice none 0 0]) ?_ 0 _ rfl; (with_reducible repeat (first | refine blk_drewN ?_ _ | refine blk_drew ?_ | refine blk_alloc ?_ _)); exact BK210.out) hb); have n2_ := Aside0.mk (below_step (by repeat (first | (with_reducible first | exact HB.out | apply below_alloc | apply pw_below_drewN | apply below_drew1 | refine below_set ?_ GE204.out | refine below_set ?_ GE210.out) | exact HB.out)) hb); clear BK204; clear BK210; clear HB; have BK204 := n0_; have BK210 := n1_; have HB := n2_; clear n0_ n1_ n2_; (try clear hb); (try clear hb2); (try clear hk); (try clear hi)))
                                        go_ret
                                        exact ⟨by first | rfl | (simp [errW_none, errW_some] <;> rfl) | (simp [*, errW_none, errW_some] <;> rfl), by repeat (first | (with_reducible first | exact HB.out | apply below_alloc | apply pw_below_drewN | apply below_drew1 | refine below_set ?_ GE204.out | refine below_set ?_ GE210.out) | exact HB.out)⟩
                      · replace c49 := Bool.eq_false_iff.mpr c49
                        subst c49
                        have H1 : (some false) = some r := by rw [if_neg (show ¬ (false = true) by decide)] at H; exact H
                        clear H
                        have H := H1
                        clear H1
                        obtain rfl := Option.some.inj H
                        have hcz97_0 : wr.cell? ⟨gb204, 0, none⟩ = some (.slice A0_0 l0_0.length c0_0) := (blk_cell BK204.out 0).trans rfl
                        have hcz97_1 : wr.cell? ⟨gb204, 1, none⟩ = some (.slice A0_1 l0_1.length c0_1) := (blk_cell BK204.out 1).trans rfl
                        have hcz97_2 : wr.cell? ⟨gb204, 2, none⟩ = some (.slice A0_2 l0_2.length c0_2) := (blk_cell BK204.out 2).trans rfl
                        have hfz97_0 := blk_frozen BK204.out 0
                        have hfz97_1 := blk_frozen BK204.out 1
                        have hfz97_2 := blk_frozen BK204.out 2
                        have p209 : 0 ≤ (x5_3 : Int) := of_decide_eq_true (by first | (with_reducible assumption) | assumption)
                        have q209 : x5_3 < (l0_1.length : Int) := of_decide_eq_true (by first | (with_reducible assumption) | assumption)
                        obtain ⟨ad209, A209_5, c209_5, A209_6, c209_6, e209, hx209_0, hx209_1, hx209_2, hx209_3, hx209_4, hx209_5, hx209_6, hl209_5, hi209_5, hl209_6, hi209_6⟩ := at_T102 HR0_1.out x5_3 p209 q209
                        cases e209
                        replace hx209_0 := (HB.out.cell (World.block_lt_of_cell? w _ hx209_0)).trans hx209_0
                        replace hx209_1 := (HB.out.cell (World.block_lt_of_cell? w _ hx209_1)).trans hx209_1
                        replace hx209_2 := (HB.out.cell (World.block_lt_of_cell? w _ hx209_2)).trans hx209_2
                        replace hx209_3 := (HB.out.cell (World.block_lt_of_cell? w _ hx209_3)).trans hx209_3
                        replace hx209_4 := (HB.out.cell (World.block_lt_of_cell? w _ hx209_4)).trans hx209_4
                        replace hx209_5 := (HB.out.cell (World.block_lt_of_cell? w _ hx209_5)).trans hx209_5
                        replace hx209_6 := (HB.out.cell (World.block_lt_of_cell? w _ hx209_6)).trans hx209_6
                        have HR209_5 := Aside0.mk hi209_5
                        have HC209_5 := Aside0.mk hl209_5
                        clear hi209_5 hl209_5
                        have HR209_6 := Aside0.mk hi209_6
                        have HC209_6 := Aside0.mk hl209_6
                        clear hi209_6 hl209_6
                        replace p209 := eq_true p209
                        replace q209 := eq_true q209
                        go_wp2_with (first | ((with_reducible refine gate_dst (N := 6) rfl ?_); (try (refine gate_guard (by rfl) ?_; dsimp only)); refine box_event ?hg (N := 6) ?hd (cs := #[.string (⟨#[]⟩ : ByteArray), .int .i64 0, .int .i64 0, .bool false, .int .i64 0, .slice none 0 0, .slice none 0 0]) (t := 102) ?hr ?_; (case hd => rfl); (case hg => rfl); (case hr => first | (go_simp; done) | (go_simp; rfl)); intro gb210 hg w98 hbox hb; have n0_ := Aside0.mk (blk_below (g := gb204) (o := .cells #[.slice A0_0 l0_0.length c0_0, .slice (some ad209) l0_1.length c0_1, .slice A0_2 l0_2.length c0_2] 91 (0, 0)) (by (with_reducible repeat (first | refine blk_drewN ?_ _ | refine blk_drew ?_ | refine blk_alloc ?_ _)); exact BK204.out) hb); have n1_ := Aside0.mk (below_step (by repeat (first | (with_reducible first | exact HB.out | apply below_alloc | apply pw_below_drewN | apply below_drew1 | refine below_set ?_ GE204.out) | exact HB.out)) hb); have n2_ := Aside0.mk (hbox); have n3_ := Aside0.mk ((by rw [hg]; exact (below_size (by repeat (first | (with_reducible first | exact HB.out | apply below_alloc | apply pw_below_drewN | apply below_drew1 | refine below_set ?_ GE204.out) | exact HB.out))) : w.heap.size ≤ gb210)); have n4_ := Aside0.mk ((by rw [hg]; exact (below_size (by repeat (first | (with_reducible first | exact HB.out | apply below_alloc | apply pw_below_drewN | apply below_drew1 | refine below_set ?_ GE204.out) | exact HB.out))) : w.heap.size ≤ gb210)); have n5_ := Aside0.mk ((by rw [hg]; exact Nat.ne_of_lt (blk_lt (g := gb204) (o := .cells #[.slice A0_0 l0_0.length c0_0, .slice (some ad209) l0_1.length c0_1, .slice A0_2 l0_2.length c0_2] 91 (0, 0)) (by (with_reducible repeat (first | refine blk_drewN ?_ _ | refine blk_drew ?_ | refine blk_alloc ?_ _)); exact BK204.out)) : gb204 ≠ gb210)); have n6_ := Aside0.mk ((by rw [hg]; exact Nat.ne_of_gt (blk_lt (g := gb204) (o := .cells #[.slice A0_0 l0_0.length c0_0, .slice (some ad209) l0_1.length c0_1, .slice A0_2 l0_2.length c0_2] 91 (0, 0)) (by (with_reducible repeat (first | refine blk_drewN ?_ _ | refine blk_drew ?_ | refine blk_alloc ?_ _)); exact BK204.out)) : gb210 ≠ gb204)); clear BK204; clear HB; have BK204 := n0_; have HB := n1_; have BK210 := n2_; have GW210 := n3_; have GE210 := n4_; have NB204_210 := n5_; have NB210_204 := n6_; clear n0_ n1_ n2_ n3_ n4_ n5_ n6_; clear hb hbox hg; have hnb99 := NB210_204.out; have hnc99 := NB204_210.out; have hcz100_0 : w98.cell? ⟨gb210, 0, none⟩ = some (.string (⟨#[]⟩ : ByteArray)) := (blk_cell BK210.out 0).trans rfl; have hcz100_1 : w98.cell? ⟨gb210, 1, none⟩ = some (.int .i64 0) := (blk_cell BK210.out 1).trans rfl; have hcz100_2 : w98.cell? ⟨gb210, 2, none⟩ = some (.int .i64 0) := (blk_cell BK210.out 2).trans rfl; have hcz100_3 : w98.cell? ⟨gb210, 3, none⟩ = some (.bool false) := (blk_cell BK210.out 3).trans rfl; have hcz100_4 : w98.cell? ⟨gb210, 4, none⟩ = some (.int .i64 0) := (blk_cell BK210.out 4).trans rfl; have hcz100_5 : w98.cell? ⟨gb210, 5, none⟩ = some (.slice none 0 0) := (blk_cell BK210.out 5).trans rfl; have hcz100_6 : w98.cell? ⟨gb210, 6, none⟩ = some (.slice none 0 0) := (blk_cell BK210.out 6).trans rfl; have hfz100_0 := blk_frozen BK210.out 0; have hfz100_1 := blk_frozen BK210.out 1; have hfz100_2 := blk_frozen BK210.out 2; have hfz100_3 := blk_frozen BK210.out 3; have hfz100_4 := blk_frozen BK210.out 4; have hfz100_5 := blk_frozen BK210.out 5; have hfz100_6 := blk_frozen BK210.out 6) | ((with_reducible refine gate_callee (f := 108) rfl ?_); refine goesL_ (some 76) rfl rfl Try.func108 (by kernel_rfl) rfl #[.string ((rd_T102 l0_1 x5_3).f0)] rfl (by (try simp only [List.map_toArray, List.map_cons, List.map_nil]); first | done | rfl | (simp only [List.length_drop, List.length_take]; rfl)) ?_; (with_reducible refine (spliceref09_named.calls k3 ((rd_T102 l0_1 x5_3).f0) false _ A48.out).mono ?_); rintro e w' ⟨rfl, ⟨nd, rfl⟩⟩; refine ⟨_, rfl, ?_⟩))
                        go_ret
                        exact ⟨by first | rfl | (simp [errW_none, errW_some] <;> rfl) | (simp [*, errW_none, errW_some] <;> rfl), by repeat (first | (with_reducible first | exact HB.out | apply below_alloc | apply pw_below_drewN | apply below_drew1 | refine below_set ?_ GE204.out | refine below_set ?_ GE210.out) | exact HB.out)⟩
                    · rw [if_neg c47] at H
                      exact absurd H (by simp)
                  · rw [if_neg c46] at H
                    have c46b0 : decide (x5_3 < (l0_1.length : Int)) = false := decide_eq_false c46
                    clear c46
                    have H' := Aside0.mk H
                    clear H
                    have hcz101_0 : wr.cell? ⟨gb204, 0, none⟩ = some (.slice A0_0 l0_0.length c0_0) := (blk_cell BK204.out 0).trans rfl
                    have hcz101_1 : wr.cell? ⟨gb204, 1, none⟩ = some (.slice A0_1 l0_1.length c0_1) := (blk_cell BK204.out 1).trans rfl
                    have hcz101_2 : wr.cell? ⟨gb204, 2, none⟩ = some (.slice A0_2 l0_2.length c0_2) := (blk_cell BK204.out 2).trans rfl
                    have hfz101_0 := blk_frozen BK204.out 0
                    have hfz101_1 := blk_frozen BK204.out 1
                    have hfz101_2 := blk_frozen BK204.out 2
                    go_wp2
                    go_loopg [7] k3 (fun kq v7 w' => ∃ (x7_4 : Int), v7 = .int .i64 x7_4 ∧ Aside0 (spliceref09_May.l2 kq x7_4 l0_0 l0_1 l0_2 = some r) ∧ Aside0 (kq ≤ k3) ∧ Aside0 (w'.heap[gb204]? = some (.cells #[(.slice A0_0 l0_0.length c0_0), (.slice A0_1 l0_1.length c0_1), (.slice A0_2 l0_2.length c0_2)] 91 (0, 0))) ∧ Aside0 (Below w.heap.size w w'))
                    case atStart => exact ⟨(0), (by first | rfl | (simp; done) | (simp [*]; done)), H', ⟨Nat.le_refl _⟩, ⟨by (with_reducible repeat (first | refine blk_drewN ?_ _ | refine blk_drew ?_ | refine blk_alloc ?_ _)); exact BK204.out⟩, ⟨by repeat (first | (with_reducible first | exact HB.out | apply below_alloc | apply pw_below_drewN | apply below_drew1 | refine below_set ?_ GE204.out) | exact HB.out)⟩⟩
                    case round =>
                      clear H'
                      try clear c1
                      try clear c2
                      try clear p2
                      try clear q2
                      try clear hx2
                      try clear c3
                      try clear c4
                      try clear c4b0
                      try clear c4b1
                      try clear c5
                      try clear c6
                      try clear c6b0
                      try clear c6b1
                      try clear p6
                      try clear c7
                      try clear c8
                      try clear c9
                      try clear c10
                      try clear c10b0
                      try clear c11
                      try clear c11b0
                      try clear c13
                      try clear c14
                      try clear c14b0
                      try clear c17
                      try clear c19
                      try clear c19b0
                      try clear c20
                      try clear p20
                      try clear q20
                      try clear hx20
                      try clear c22
                      try clear c24
                      try clear c24b0
                      try clear c24b1
                      try clear c27
                      try clear c30
                      try clear c33
                      try clear c38
                      try clear c43
                      try clear c46
                      try clear c46b0
                      try clear c47
                      try clear c47b0
                      try clear c49
                      try clear c50
                      try clear c50b0
                      try clear c53
                      try clear c55
                      try clear c55b0
                      try clear c58
                      try clear c60
                      try clear c60b0
                      try clear c63
                      try clear p64
                      try clear c65
                      try clear c65b0
                      try clear c68
                      try clear c70
                      try clear c70b0
                      try clear c73
                      try clear c75
                      try clear c75b0
                      try clear c78
                      try clear c80
                      try clear c80b0
                      try clear c80b1
                      try clear c83
                      try clear c86
                      try clear c89
                      try clear c94
                      try clear c99
                      try clear hcz100_0
                      try clear hcz100_1
                      try clear hcz100_2
                      try clear hcz100_3
                      try clear hcz100_4
                      try clear hcz100_5
                      try clear hcz100_6
                      try clear hcz101_0
                      try clear hcz101_1
                      try clear hcz101_2
                      try clear hcz15_0
                      try clear hcz15_1
                      try clear hcz15_2
                      try clear hcz18_0
                      try clear hcz18_1
                      try clear hcz18_2
                      try clear hcz18_3
                      try clear hcz20_0
                      try clear hcz20_1
                      try clear hcz20_2
                      try clear hcz23_0
                      try clear hcz23_1
                      try clear hcz23_2
                      try clear hcz23_3
                      try clear hcz25_0
                      try clear hcz25_1
                      try clear hcz25_2
                      try clear hcz28_0
                      try clear hcz28_1
                      try clear hcz28_2
                      try clear hcz28_3
                      try clear hcz31_0
                      try clear hcz31_1
                      try clear hcz31_2
                      try clear hcz34_0
                      try clear hcz34_1
                      try clear hcz34_2
                      try clear hcz34_3
                      try clear hcz36_0
                      try clear hcz36_1
                      try clear hcz36_2
                      try clear hcz39_0
                      try clear hcz39_1
                      try clear hcz39_2
                      try clear hcz39_3
                      try clear hcz41_0
                      try clear hcz41_1
                      try clear hcz41_2
                      try clear hcz44_0
                      try clear hcz44_1
                      try clear hcz44_2
                      try clear hcz44_3
                      try clear hcz45_0
                      try clear hcz45_1
                      try clear hcz45_2
                      try clear hcz51_0
                      try clear hcz51_1
                      try clear hcz51_2
                      try clear hcz54_0
                      try clear hcz54_1
                      try clear hcz54_2
                      try clear hcz54_3
                      try clear hcz54_4
                      try clear hcz54_5
                      try clear hcz54_6
                      try clear hcz56_0
                      try clear hcz56_1
                      try clear hcz56_2
                      try clear hcz59_0
                      try clear hcz59_1
                      try clear hcz59_2
                      try clear hcz59_3
                      try clear hcz59_4
                      try clear hcz59_5
                      try clear hcz59_6
                      try clear hcz5_0
                      try clear hcz5_1
                      try clear hcz5_2
                      try clear hcz61_0
                      try clear hcz61_1
                      try clear hcz61_2
                      try clear hcz64_0
                      try clear hcz64_1
                      try clear hcz64_2
                      try clear hcz64_3
                      try clear hcz64_4
                      try clear hcz64_5
                      try clear hcz64_6
                      try clear hcz66_0
                      try clear hcz66_1
                      try clear hcz66_2
                      try clear hcz69_0
                      try clear hcz69_1
                      try clear hcz69_2
                      try clear hcz69_3
                      try clear hcz69_4
                      try clear hcz69_5
                      try clear hcz69_6
                      try clear hcz71_0
                      try clear hcz71_1
                      try clear hcz71_2
                      try clear hcz74_0
                      try clear hcz74_1
                      try clear hcz74_2
                      try clear hcz74_3
                      try clear hcz74_4
                      try clear hcz74_5
                      try clear hcz74_6
                      try clear hcz76_0
                      try clear hcz76_1
                      try clear hcz76_2
                      try clear hcz79_0
                      try clear hcz79_1
                      try clear hcz79_2
                      try clear hcz79_3
                      try clear hcz79_4
                      try clear hcz79_5
                      try clear hcz79_6
                      try clear hcz7_0
                      try clear hcz7_1
                      try clear hcz7_2
                      try clear hcz81_0
                      try clear hcz81_1
                      try clear hcz81_2
                      try clear hcz84_0
                      try clear hcz84_1
                      try clear hcz84_2
                      try clear hcz84_3
                      try clear hcz84_4
                      try clear hcz84_5
                      try clear hcz84_6
                      try clear hcz87_0
                      try clear hcz87_1
                      try clear hcz87_2
                      try clear hcz8_0
                      try clear hcz8_1
                      try clear hcz8_2
                      try clear hcz90_0
                      try clear hcz90_1
                      try clear hcz90_2
                      try clear hcz90_3
                      try clear hcz90_4
                      try clear hcz90_5
                      try clear hcz90_6
                      try clear hcz92_0
                      try clear hcz92_1
                      try clear hcz92_2
                      try clear hcz95_0
                      try clear hcz95_1
                      try clear hcz95_2
                      try clear hcz95_3
                      try clear hcz95_4
                      try clear hcz95_5
                      try clear hcz95_6
                      try clear hcz97_0
                      try clear hcz97_1
                      try clear hcz97_2
                      try clear hfz100_0
                      try clear hfz100_1
                      try clear hfz100_2
                      try clear hfz100_3
                      try clear hfz100_4
                      try clear hfz100_5
                      try clear hfz100_6
                      try clear hfz101_0
                      try clear hfz101_1
                      try clear hfz101_2
                      try clear hfz15_0
                      try clear hfz15_1
                      try clear hfz15_2
                      try clear hfz18_0
                      try clear hfz18_1
                      try clear hfz18_2
                      try clear hfz18_3
                      try clear hfz20_0
                      try clear hfz20_1
                      try clear hfz20_2
                      try clear hfz23_0
                      try clear hfz23_1
                      try clear hfz23_2
                      try clear hfz23_3
                      try clear hfz25_0
                      try clear hfz25_1
                      try clear hfz25_2
                      try clear hfz28_0
                      try clear hfz28_1
                      try clear hfz28_2
                      try clear hfz28_3
                      try clear hfz31_0
                      try clear hfz31_1
                      try clear hfz31_2
                      try clear hfz34_0
                      try clear hfz34_1
                      try clear hfz34_2
                      try clear hfz34_3
                      try clear hfz36_0
                      try clear hfz36_1
                      try clear hfz36_2
                      try clear hfz39_0
                      try clear hfz39_1
                      try clear hfz39_2
                      try clear hfz39_3
                      try clear hfz41_0
                      try clear hfz41_1
                      try clear hfz41_2
                      try clear hfz44_0
                      try clear hfz44_1
                      try clear hfz44_2
                      try clear hfz44_3
                      try clear hfz45_0
                      try clear hfz45_1
                      try clear hfz45_2
                      try clear hfz51_0
                      try clear hfz51_1
                      try clear hfz51_2
                      try clear hfz54_0
                      try clear hfz54_1
                      try clear hfz54_2
                      try clear hfz54_3
                      try clear hfz54_4
                      try clear hfz54_5
                      try clear hfz54_6
                      try clear hfz56_0
                      try clear hfz56_1
                      try clear hfz56_2
                      try clear hfz59_0
                      try clear hfz59_1
                      try clear hfz59_2
                      try clear hfz59_3
                      try clear hfz59_4
                      try clear hfz59_5
                      try clear hfz59_6
                      try clear hfz5_0
                      try clear hfz5_1
                      try clear hfz5_2
                      try clear hfz61_0
                      try clear hfz61_1
                      try clear hfz61_2
                      try clear hfz64_0
                      try clear hfz64_1
                      try clear hfz64_2
                      try clear hfz64_3
                      try clear hfz64_4
                      try clear hfz64_5
                      try clear hfz64_6
                      try clear hfz66_0
                      try clear hfz66_1
                      try clear hfz66_2
                      try clear hfz69_0
                      try clear hfz69_1
                      try clear hfz69_2
                      try clear hfz69_3
                      try clear hfz69_4
                      try clear hfz69_5
                      try clear hfz69_6
                      try clear hfz71_0
                      try clear hfz71_1
                      try clear hfz71_2
                      try clear hfz74_0
                      try clear hfz74_1
                      try clear hfz74_2
                      try clear hfz74_3
                      try clear hfz74_4
                      try clear hfz74_5
                      try clear hfz74_6
                      try clear hfz76_0
                      try clear hfz76_1
                      try clear hfz76_2
                      try clear hfz79_0
                      try clear hfz79_1
                      try clear hfz79_2
                      try clear hfz79_3
                      try clear hfz79_4
                      try clear hfz79_5
                      try clear hfz79_6
                      try clear hfz7_0
                      try clear hfz7_1
                      try clear hfz7_2
                      try clear hfz81_0
                      try clear hfz81_1
                      try clear hfz81_2
                      try clear hfz84_0
                      try clear hfz84_1
                      try clear hfz84_2
                      try clear hfz84_3
                      try clear hfz84_4
                      try clear hfz84_5
                      try clear hfz84_6
                      try clear hfz87_0
                      try clear hfz87_1
                      try clear hfz87_2
                      try clear hfz8_0
                      try clear hfz8_1
                      try clear hfz8_2
                      try clear hfz90_0
                      try clear hfz90_1
                      try clear hfz90_2
                      try clear hfz90_3
                      try clear hfz90_4
                      try clear hfz90_5
                      try clear hfz90_6
                      try clear hfz92_0
                      try clear hfz92_1
                      try clear hfz92_2
                      try clear hfz95_0
                      try clear hfz95_1
                      try clear hfz95_2
                      try clear hfz95_3
                      try clear hfz95_4
                      try clear hfz95_5
                      try clear hfz95_6
                      try clear hfz97_0
                      try clear hfz97_1
                      try clear hfz97_2
                      try clear hx205_0
                      try clear hx205_1
                      try clear hx205_2
                      try clear hx205_3
                      try clear hx209_0
                      try clear hx209_1
                      try clear hx209_2
                      try clear hx209_3
                      try clear hx209_4
                      try clear hx209_5
                      try clear hx209_6
                      try clear p2
                      try clear p20
                      try clear p205
                      try clear p209
                      try clear p6
                      try clear q2
                      try clear q20
                      try clear q205
                      try clear q209
                      obtain ⟨x7_4, rfl, HA, HK4, BK204, HB⟩ := hrel
                      cases gk with
                      | zero => exact absurd HA.out (by simp [spliceref09_May.l2])
                      | succ k4 =>
                        have H := HA.out
                        clear HA
                        simp only [spliceref09_May.l2] at H
                        by_cases c102 : x7_4 < (l0_2.length : Int)
                        · rw [if_pos c102] at H
                          have c102b0 : decide (x7_4 < (l0_2.length : Int)) = true := decide_eq_true c102
                          clear c102
                          by_cases c103 : 0 ≤ x7_4
                          · rw [if_pos c103] at H
                            have c103b0 : decide (0 ≤ x7_4) = true := decide_eq_true c103
                            clear c103
                            replace H := Option.bind_eq_some_iff.mp H
                            obtain ⟨t214, A1040, H⟩ := H
                            replace H : (if t214 = true then (if ((rd_T122 l0_2 x7_4).f1) < 0 then (some false) else (if ((rd_T122 l0_2 x7_4).f1) > 255 then (some false) else (spliceref09_May.l2 k4 (wrap64 (x7_4 + 1)) l0_0 l0_1 l0_2))) else (some false)) = some r := H
                            have A104 := Aside0.mk A1040
                            clear A1040
                            by_cases c105 : t214 = true
                            · subst c105
                              have H1 : (if ((rd_T122 l0_2 x7_4).f1) < 0 then (some false) else (if ((rd_T122 l0_2 x7_4).f1) > 255 then (some false) else (spliceref09_May.l2 k4 (wrap64 (x7_4 + 1)) l0_0 l0_1 l0_2))) = some r := by rw [if_pos rfl] at H; exact H
                              clear H
                              have H := H1
                              clear H1
                              by_cases c106 : ((rd_T122 l0_2 x7_4).f1) < 0
                              · rw [if_pos c106] at H
                                have c106b0 : decide (((rd_T122 l0_2 x7_4).f1) < 0) = true := decide_eq_true c106
                                clear c106
                                obtain rfl := Option.some.inj H
                                have hcz107_0 : wr.cell? ⟨gb204, 0, none⟩ = some (.slice A0_0 l0_0.length c0_0) := (blk_cell BK204.out 0).trans rfl
                                have hcz107_1 : wr.cell? ⟨gb204, 1, none⟩ = some (.slice A0_1 l0_1.length c0_1) := (blk_cell BK204.out 1).trans rfl
                                have hcz107_2 : wr.cell? ⟨gb204, 2, none⟩ = some (.slice A0_2 l0_2.length c0_2) := (blk_cell BK204.out 2).trans rfl
                                have hfz107_0 := blk_frozen BK204.out 0
                                have hfz107_1 := blk_frozen BK204.out 1
                                have hfz107_2 := blk_frozen BK204.out 2
                                have p213 : 0 ≤ (x7_4 : Int) := of_decide_eq_true (by first | (with_reducible assumption) | assumption)
                                have q213 : x7_4 < (l0_2.length : Int) := of_decide_eq_true (by first | (with_reducible assumption) | assumption)
                                obtain ⟨ad213, e213, hx213_0, hx213_1⟩ := at_T122 HR0_2.out x7_4 p213 q213
                                cases e213
                                replace hx213_0 := (HB.out.cell (World.block_lt_of_cell? w _ hx213_0)).trans hx213_0
                                replace hx213_1 := (HB.out.cell (World.block_lt_of_cell? w _ hx213_1)).trans hx213_1
                                replace p213 := eq_true p213
                                replace q213 := eq_true q213
                                go_wp2_with (first | ((with_reducible refine gate_callee (f := 108) rfl ?_); refine goesL_ (some 133) rfl rfl Try.func108 (by kernel_rfl) rfl #[.string ((rd_T122 l0_2 x7_4).f0)] rfl (by (try simp only [List.map_toArray, List.map_cons, List.map_nil]); first | done | rfl | (simp only [List.length_drop, List.length_take]; rfl)) ?_; (with_reducible refine (spliceref09_named.calls k4 ((rd_T122 l0_2 x7_4).f0) true _ A104.out).mono ?_); rintro e w' ⟨rfl, ⟨nd, rfl⟩⟩; refine ⟨_, rfl, ?_⟩; have p215 : 0 ≤ (x7_4 : Int) := of_decide_eq_true (by first | (with_reducible assumption) | assumption); have q215 : x7_4 < (l0_2.length : Int) := of_decide_eq_true (by first | (with_reducible assumption) | assumption); obtain ⟨ad215, e215, hx215_0, hx215_1⟩ := at_T122 HR0_2.out x7_4 p215 q215; obtain rfl : ad213 = ad215 := (by injection e215); replace hx215_0 := (HB.out.cell (World.block_lt_of_cell? w _ hx215_0)).trans hx215_0; replace hx215_1 := (HB.out.cell (World.block_lt_of_cell? w _ hx215_1)).trans hx215_1; replace p215 := eq_true p215; replace q215 := eq_true q215))
                                go_ret
                                exact ⟨by first | rfl | (simp [errW_none, errW_some] <;> rfl) | (simp [*, errW_none, errW_some] <;> rfl), by repeat (first | (with_reducible first | exact HB.out | apply below_alloc | apply pw_below_drewN | apply below_drew1 | refine below_set ?_ GE204.out) | exact HB.out)⟩
                              · rw [if_neg c106] at H
                                have c106b0 : decide (((rd_T122 l0_2 x7_4).f1) < 0) = false := decide_eq_false c106
                                clear c106
                                by_cases c108 : ((rd_T122 l0_2 x7_4).f1) > 255
                                · rw [if_pos c108] at H
                                  have c108b0 : decide (255 < ((rd_T122 l0_2 x7_4).f1)) = true := decide_eq_true c108
                                  clear c108
                                  obtain rfl := Option.some.inj H
                                  have hcz109_0 : wr.cell? ⟨gb204, 0, none⟩ = some (.slice A0_0 l0_0.length c0_0) := (blk_cell BK204.out 0).trans rfl
                                  have hcz109_1 : wr.cell? ⟨gb204, 1, none⟩ = some (.slice A0_1 l0_1.length c0_1) := (blk_cell BK204.out 1).trans rfl
                                  have hcz109_2 : wr.cell? ⟨gb204, 2, none⟩ = some (.slice A0_2 l0_2.length c0_2) := (blk_cell BK204.out 2).trans rfl
                                  have hfz109_0 := blk_frozen BK204.out 0
                                  have hfz109_1 := blk_frozen BK204.out 1
                                  have hfz109_2 := blk_frozen BK204.out 2
                                  have p213 : 0 ≤ (x7_4 : Int) := of_decide_eq_true (by first | (with_reducible assumption) | assumption)
                                  have q213 : x7_4 < (l0_2.length : Int) := of_decide_eq_true (by first | (with_reducible assumption) | assumption)
                                  obtain ⟨ad213, e213, hx213_0, hx213_1⟩ := at_T122 HR0_2.out x7_4 p213 q213
                                  cases e213
                                  replace hx213_0 := (HB.out.cell (World.block_lt_of_cell? w _ hx213_0)).trans hx213_0
                                  replace hx213_1 := (HB.out.cell (World.block_lt_of_cell? w _ hx213_1)).trans hx213_1
                                  replace p213 := eq_true p213
                                  replace q213 := eq_true q213
                                  go_wp2_with (first | ((with_reducible refine gate_callee (f := 108) rfl ?_); refine goesL_ (some 133) rfl rfl Try.func108 (by kernel_rfl) rfl #[.string ((rd_T122 l0_2 x7_4).f0)] rfl (by (try simp only [List.map_toArray, List.map_cons, List.map_nil]); first | done | rfl | (simp only [List.length_drop, List.length_take]; rfl)) ?_; (with_reducible refine (spliceref09_named.calls k4 ((rd_T122 l0_2 x7_4).f0) true _ A104.out).mono ?_); rintro e w' ⟨rfl, ⟨nd, rfl⟩⟩; refine ⟨_, rfl, ?_⟩; have p215 : 0 ≤ (x7_4 : Int) := of_decide_eq_true (by first | (with_reducible assumption) | assumption); have q215 : x7_4 < (l0_2.length : Int) := of_decide_eq_true (by first | (with_reducible assumption) | assumption); obtain ⟨ad215, e215, hx215_0, hx215_1⟩ := at_T122 HR0_2.out x7_4 p215 q215; obtain rfl : ad213 = ad215 := (by injection e215); replace hx215_0 := (HB.out.cell (World.block_lt_of_cell? w _ hx215_0)).trans hx215_0; replace hx215_1 := (HB.out.cell (World.block_lt_of_cell? w _ hx215_1)).trans hx215_1; replace p215 := eq_true p215; replace q215 := eq_true q215; have p216 : 0 ≤ (x7_4 : Int) := of_decide_eq_true (by first | (with_reducible assumption) | assumption); have q216 : x7_4 < (l0_2.length : Int) := of_decide_eq_true (by first | (with_reducible assumption) | assumption); obtain ⟨ad216, e216, hx216_0, hx216_1⟩ := at_T122 HR0_2.out x7_4 p216 q216; obtain rfl : ad213 = ad216 := (by injection e216); replace hx216_0 := (HB.out.cell (World.block_lt_of_cell? w _ hx216_0)).trans hx216_0; replace hx216_1 := (HB.out.cell (World.block_lt_of_cell? w _ hx216_1)).trans hx216_1; replace p216 := eq_true p216; replace q216 := eq_true q216))
                                  go_ret
                                  exact ⟨by first | rfl | (simp [errW_none, errW_some] <;> rfl) | (simp [*, errW_none, errW_some] <;> rfl), by repeat (first | (with_reducible first | exact HB.out | apply below_alloc | apply pw_below_drewN | apply below_drew1 | refine below_set ?_ GE204.out) | exact HB.out)⟩
                                · rw [if_neg c108] at H
                                  have c108b0 : decide (255 < ((rd_T122 l0_2 x7_4).f1)) = false := decide_eq_false c108
                                  clear c108
                                  have H' := Aside0.mk H
                                  clear H
                                  have hcz110_0 : wr.cell? ⟨gb204, 0, none⟩ = some (.slice A0_0 l0_0.length c0_0) := (blk_cell BK204.out 0).trans rfl
                                  have hcz110_1 : wr.cell? ⟨gb204, 1, none⟩ = some (.slice A0_1 l0_1.length c0_1) := (blk_cell BK204.out 1).trans rfl
                                  have hcz110_2 : wr.cell? ⟨gb204, 2, none⟩ = some (.slice A0_2 l0_2.length c0_2) := (blk_cell BK204.out 2).trans rfl
                                  have hfz110_0 := blk_frozen BK204.out 0
                                  have hfz110_1 := blk_frozen BK204.out 1
                                  have hfz110_2 := blk_frozen BK204.out 2
                                  have p213 : 0 ≤ (x7_4 : Int) := of_decide_eq_true (by first | (with_reducible assumption) | assumption)
                                  have q213 : x7_4 < (l0_2.length : Int) := of_decide_eq_true (by first | (with_reducible assumption) | assumption)
                                  obtain ⟨ad213, e213, hx213_0, hx213_1⟩ := at_T122 HR0_2.out x7_4 p213 q213
                                  cases e213
                                  replace hx213_0 := (HB.out.cell (World.block_lt_of_cell? w _ hx213_0)).trans hx213_0
                                  replace hx213_1 := (HB.out.cell (World.block_lt_of_cell? w _ hx213_1)).trans hx213_1
                                  replace p213 := eq_true p213
                                  replace q213 := eq_true q213
                                  go_wp2_with (first | ((with_reducible refine gate_callee (f := 108) rfl ?_); refine goesL_ (some 133) rfl rfl Try.func108 (by kernel_rfl) rfl #[.string ((rd_T122 l0_2 x7_4).f0)] rfl (by (try simp only [List.map_toArray, List.map_cons, List.map_nil]); first | done | rfl | (simp only [List.length_drop, List.length_take]; rfl)) ?_; (with_reducible refine (spliceref09_named.calls k4 ((rd_T122 l0_2 x7_4).f0) true _ A104.out).mono ?_); rintro e w' ⟨rfl, ⟨nd, rfl⟩⟩; refine ⟨_, rfl, ?_⟩; have p215 : 0 ≤ (x7_4 : Int) := of_decide_eq_true (by first | (with_reducible assumption) | assumption); have q215 : x7_4 < (l0_2.length : Int) := of_decide_eq_true (by first | (with_reducible assumption) | assumption); obtain ⟨ad215, e215, hx215_0, hx215_1⟩ := at_T122 HR0_2.out x7_4 p215 q215; obtain rfl : ad213 = ad215 := (by injection e215); replace hx215_0 := (HB.out.cell (World.block_lt_of_cell? w _ hx215_0)).trans hx215_0; replace hx215_1 := (HB.out.cell (World.block_lt_of_cell? w _ hx215_1)).trans hx215_1; replace p215 := eq_true p215; replace q215 := eq_true q215; have p216 : 0 ≤ (x7_4 : Int) := of_decide_eq_true (by first | (with_reducible assumption) | assumption); have q216 : x7_4 < (l0_2.length : Int) := of_decide_eq_true (by first | (with_reducible assumption) | assumption); obtain ⟨ad216, e216, hx216_0, hx216_1⟩ := at_T122 HR0_2.out x7_4 p216 q216; obtain rfl : ad213 = ad216 := (by injection e216); replace hx216_0 := (HB.out.cell (World.block_lt_of_cell? w _ hx216_0)).trans hx216_0; replace hx216_1 := (HB.out.cell (World.block_lt_of_cell? w _ hx216_1)).trans hx216_1; replace p216 := eq_true p216; replace q216 := eq_true q216))
                                  go_roundg k4
                                  case measure => have := HJ1.out; have := HK2.out; have := HK3.out; have := HK4.out; omega
                                  case rel => exact ⟨(wrap64 (x7_4 + 1)), (by first | rfl | (simp; done) | (simp [*]; done)), H', ⟨by have := HJ1.out; have := HK2.out; have := HK3.out; have := HK4.out; omega⟩, ⟨by (with_reducible repeat (first | refine blk_drewN ?_ _ | refine blk_drew ?_ | refine blk_alloc ?_ _)); exact BK204.out⟩, ⟨by repeat (first | (with_reducible first | exact HB.out | apply below_alloc | apply pw_below_drewN | apply below_drew1 | refine below_set ?_ GE204.out) | exact HB.out)⟩⟩
                            · replace c105 := Bool.eq_false_iff.mpr c105
                              subst c105
                              have H1 : (some false) = some r := by rw [if_neg (show ¬ (false = true) by decide)] at H; exact H
                              clear H
                              have H := H1
                              clear H1
                              obtain rfl := Option.some.inj H
                              have hcz111_0 : wr.cell? ⟨gb204, 0, none⟩ = some (.slice A0_0 l0_0.length c0_0) := (blk_cell BK204.out 0).trans rfl
                              have hcz111_1 : wr.cell? ⟨gb204, 1, none⟩ = some (.slice A0_1 l0_1.length c0_1) := (blk_cell BK204.out 1).trans rfl
                              have hcz111_2 : wr.cell? ⟨gb204, 2, none⟩ = some (.slice A0_2 l0_2.length c0_2) := (blk_cell BK204.out 2).trans rfl
                              have hfz111_0 := blk_frozen BK204.out 0
                              have hfz111_1 := blk_frozen BK204.out 1
                              have hfz111_2 := blk_frozen BK204.out 2
                              have p213 : 0 ≤ (x7_4 : Int) := of_decide_eq_true (by first | (with_reducible assumption) | assumption)
                              have q213 : x7_4 < (l0_2.length : Int) := of_decide_eq_true (by first | (with_reducible assumption) | assumption)
                              obtain ⟨ad213, e213, hx213_0, hx213_1⟩ := at_T122 HR0_2.out x7_4 p213 q213
                              cases e213
                              replace hx213_0 := (HB.out.cell (World.block_lt_of_cell? w _ hx213_0)).trans hx213_0
                              replace hx213_1 := (HB.out.cell (World.block_lt_of_cell? w _ hx213_1)).trans hx213_1
                              replace p213 := eq_true p213
                              replace q213 := eq_true q213
                              go_wp2_with (first | ((with_reducible refine gate_callee (f := 108) rfl ?_); refine goesL_ (some 133) rfl rfl Try.func108 (by kernel_rfl) rfl #[.string ((rd_T122 l0_2 x7_4).f0)] rfl (by (try simp only [List.map_toArray, List.map_cons, List.map_nil]); first | done | rfl | (simp only [List.length_drop, List.length_take]; rfl)) ?_; (with_reducible refine (spliceref09_named.calls k4 ((rd_T122 l0_2 x7_4).f0) false _ A104.out).mono ?_); rintro e w' ⟨rfl, ⟨nd, rfl⟩⟩; refine ⟨_, rfl, ?_⟩))
                              go_ret
                              exact ⟨by first | rfl | (simp [errW_none, errW_some] <;> rfl) | (simp [*, errW_none, errW_some] <;> rfl), by repeat (first | (with_reducible first | exact HB.out | apply below_alloc | apply pw_below_drewN | apply below_drew1 | refine below_set ?_ GE204.out) | exact HB.out)⟩
                          · rw [if_neg c103] at H
                            exact absurd H (by simp)
                        · rw [if_neg c102] at H
                          have c102b0 : decide (x7_4 < (l0_2.length : Int)) = false := decide_eq_false c102
                          clear c102
                          obtain rfl := Option.some.inj H
                          have hcz112_0 : wr.cell? ⟨gb204, 0, none⟩ = some (.slice A0_0 l0_0.length c0_0) := (blk_cell BK204.out 0).trans rfl
                          have hcz112_1 : wr.cell? ⟨gb204, 1, none⟩ = some (.slice A0_1 l0_1.length c0_1) := (blk_cell BK204.out 1).trans rfl
                          have hcz112_2 : wr.cell? ⟨gb204, 2, none⟩ = some (.slice A0_2 l0_2.length c0_2) := (blk_cell BK204.out 2).trans rfl
                          have hfz112_0 := blk_frozen BK204.out 0
                          have hfz112_1 := blk_frozen BK204.out 1
                          have hfz112_2 := blk_frozen BK204.out 2
                          go_wp2
                          go_ret
                          exact ⟨by first | rfl | (simp [errW_none, errW_some] <;> rfl) | (simp [*, errW_none, errW_some] <;> rfl), by repeat (first | (with_reducible first | exact HB.out | apply below_alloc | apply pw_below_drewN | apply below_drew1 | refine below_set ?_ GE204.out) | exact HB.out)⟩
end Go.Proofs.Ytmcfihpbiilbcaa.E
end
