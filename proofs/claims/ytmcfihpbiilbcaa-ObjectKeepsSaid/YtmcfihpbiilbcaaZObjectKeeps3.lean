import Derived.Test.YtmcfihpbiilbcaaZObjectKeeps2
section
-- functions and contracts of this seat, written by the kit's print program for several roots at once; not the print of a statement
namespace Go.Proofs.Ytmcfihpbiilbcaa.E
open Go.RowKit Go.Proofs.YtmcfihpbiilbcaaW.PrintWords Go.Proofs.YtmcfihpbiilbcaaW.PrintLast Go.Proofs.YtmcfihpbiilbcaaW.PrintMore
attribute [local go_sem] max2_int min2_int max_two min_two max_three min_three max_four min_four   -- for this text's walks alone
set_option linter.unusedVariables false
set_option linter.unusedSimpArgs false
mutual
def spliceref09_Few.j0 : Nat → Bool → List (S124) → List (S102) → List (S122) → Option (Bool)
  | 0, _, _, _, _ => none
  | k + 1, x20, x195000, x195001, x195002 => if x20 = true then (some false) else (spliceref09_Few.l0 k 0 x195000 x195001 x195002)
def spliceref09_Few.l0 : Nat → Int → List (S124) → List (S102) → List (S122) → Option (Bool)
  | 0, _, _, _, _ => none
  | k + 1, x3, x195000, x195001, x195002 => if x3 < (x195000.length : Int) then (if 0 ≤ x3 then (if (((rd_T124 x195000 x3).f2).length : Int) > 2100 then (some false) else (if (((rd_T124 x195000 x3).f3).length : Int) > 70 then (some false) else (if (((rd_T124 x195000 x3).f0).size : Int) > 100 then (some false) else (spliceref09_Few.l0 k (wrap64 (x3 + 1)) x195000 x195001 x195002)))) else (none)) else (spliceref09_Few.l1 k 0 x195000 x195001 x195002)
def spliceref09_Few.l1 : Nat → Int → List (S124) → List (S102) → List (S122) → Option (Bool)
  | 0, _, _, _, _ => none
  | k + 1, x4, x195000, x195001, x195002 => if x4 < (x195001.length : Int) then (if 0 ≤ x4 then (if (((rd_T102 x195001 x4).f5).length : Int) > 5000 then (some false) else (if (((rd_T102 x195001 x4).f6).length : Int) > 70 then (some false) else (if (((rd_T102 x195001 x4).f0).size : Int) > 100 then (some false) else (spliceref09_Few.l1 k (wrap64 (x4 + 1)) x195000 x195001 x195002)))) else (none)) else (some true)
end
def spliceref09_Few.f (k : Nat) (l0_0 : List (S124)) (l0_1 : List (S102)) (l0_2 : List (S122)) : Option (Bool) := if (l0_0.length : Int) > 70 then (spliceref09_Few.j0 k true l0_0 l0_1 l0_2) else (if (l0_1.length : Int) > 70 then (spliceref09_Few.j0 k true l0_0 l0_1 l0_2) else (spliceref09_Few.j0 k (decide ((l0_2.length : Int) > 70)) l0_0 l0_1 l0_2))
set_option maxHeartbeats 8000000 in
set_option maxRecDepth 100000 in
theorem spliceref09_Few.calls (k : Nat) (A0_0 : Option Addr) (c0_0 : Nat) (l0_0 : List (S124)) (A0_1 : Option Addr) (c0_1 : Nat) (l0_1 : List (S102)) (A0_2 : Option Addr) (c0_2 : Nat) (l0_2 : List (S122)) (r : Bool) (w : World) (hr0_0 : Kd.C k124 w A0_0 l0_0.length l0_0) (hc0_0 : l0_0.length ≤ c0_0) (hr0_1 : Kd.C k102 w A0_1 l0_1.length l0_1) (hc0_1 : l0_1.length ≤ c0_1) (hr0_2 : Kd.C k122 w A0_2 l0_2.length l0_2) (hc0_2 : l0_2.length ≤ c0_2) (h : spliceref09_Few.f k l0_0 l0_1 l0_2 = some r) :
    Calls Try.prog 69 #[.agg #[.slice A0_0 l0_0.length c0_0, .slice A0_1 l0_1.length c0_1, .slice A0_2 l0_2.length c0_2]] w fun e w' => e = .returned (.bool r) ∧ Below w.heap.size w w' := by
  have hu91 := Try.underlying91
  have HR0_0 := Aside0.mk hr0_0
  have HC0_0 := Aside0.mk hc0_0
  clear hr0_0 hc0_0
  have HR0_1 := Aside0.mk hr0_1
  have HC0_1 := Aside0.mk hc0_1
  clear hr0_1 hc0_1
  have HR0_2 := Aside0.mk hr0_2
  have HC0_2 := Aside0.mk hc0_2
  clear hr0_2 hc0_2
  have HB := Aside0.mk (Below.refl w.heap.size w)
  have H : (if (l0_0.length : Int) > 70 then (spliceref09_Few.j0 k true l0_0 l0_1 l0_2) else (if (l0_1.length : Int) > 70 then (spliceref09_Few.j0 k true l0_0 l0_1 l0_2) else (spliceref09_Few.j0 k (decide ((l0_2.length : Int) > 70)) l0_0 l0_1 l0_2))) = some r := h
  clear h
  have HC2 := Aside0.mk H
  clear H
  go_enter Try.func69, Try.ntmps69
  go_upto_region 1 with (first | ((with_reducible refine gate_dst (N := 1) rfl ?_); (try (refine gate_guard (by rfl) ?_; dsimp only)); refine box_event ?hg (N := 1) ?hd (cs := #[.slice A0_0 l0_0.length c0_0, .slice A0_1 l0_1.length c0_1, .slice A0_2 l0_2.length c0_2]) (t := 91) ?hr ?_; (case hd => rfl); (case hg => rfl); (case hr => first | (go_simp; done) | (go_simp; rfl)); intro gb194 hg w3 hbox hb; have n0_ := Aside0.mk (below_step (by repeat (first | (with_reducible first | exact HB.out | apply below_alloc | apply pw_below_drewN | apply below_drew1) | exact HB.out)) hb); have n1_ := Aside0.mk (hbox); have n2_ := Aside0.mk ((by rw [hg]; exact (below_size (by repeat (first | (with_reducible first | exact HB.out | apply below_alloc | apply pw_below_drewN | apply below_drew1) | exact HB.out))) : w.heap.size ≤ gb194)); have n3_ := Aside0.mk ((by rw [hg]; exact (below_size (by repeat (first | (with_reducible first | exact HB.out | apply below_alloc | apply pw_below_drewN | apply below_drew1) | exact HB.out))) : w.heap.size ≤ gb194)); clear HB; have HB := n0_; have BK194 := n1_; have GW194 := n2_; have GE194 := n3_; clear n0_ n1_ n2_ n3_; clear hb hbox hg))
  (try simp only [Act.put, List.setIfInBounds_toArray, List.set_cons_zero, List.set_cons_succ])
  go_cut [20] (fun v20 wc => ∃ (kq : Nat) (x20_1 : Bool), v20 = .bool x20_1 ∧ Aside0 (spliceref09_Few.j0 kq x20_1 l0_0 l0_1 l0_2 = some r) ∧ Aside0 (kq ≤ k) ∧ Aside0 (wc.heap[gb194]? = some (.cells #[(.slice A0_0 l0_0.length c0_0), (.slice A0_1 l0_1.length c0_1), (.slice A0_2 l0_2.length c0_2)] 91 (0, 0))) ∧ Aside0 (Below w.heap.size w wc))
  case first =>
    have H := HC2.out
    clear HC2
    by_cases c4 : (l0_0.length : Int) > 70
    · rw [if_pos c4] at H
      have c4b0 : decide (70 < (l0_0.length : Int)) = true := decide_eq_true c4
      have c4b1 : decide (70 < l0_0.length) = true := decide_eq_true (by omega)
      clear c4
      (first | rw [c4b0] | (simp only [i64_w, i32_w]; rw [c4b0]) | skip)
      have H' := Aside0.mk H
      clear H
      have hcz5_0 : w3.cell? ⟨gb194, 0, none⟩ = some (.slice A0_0 l0_0.length c0_0) := (blk_cell BK194.out 0).trans rfl
      have hcz5_1 : w3.cell? ⟨gb194, 1, none⟩ = some (.slice A0_1 l0_1.length c0_1) := (blk_cell BK194.out 1).trans rfl
      have hcz5_2 : w3.cell? ⟨gb194, 2, none⟩ = some (.slice A0_2 l0_2.length c0_2) := (blk_cell BK194.out 2).trans rfl
      have hfz5_0 := blk_frozen BK194.out 0
      have hfz5_1 := blk_frozen BK194.out 1
      have hfz5_2 := blk_frozen BK194.out 2
      go_wp2
      go_meet
      case rel => exact ⟨_, (true), (by first | rfl | (simp; done) | (simp [*]; done)), H', ⟨by first | omega | exact Nat.le_refl _⟩, ⟨by (with_reducible repeat (first | refine blk_drewN ?_ _ | refine blk_drew ?_ | refine blk_alloc ?_ _)); exact BK194.out⟩, ⟨by repeat (first | (with_reducible first | exact HB.out | apply below_alloc | apply pw_below_drewN | apply below_drew1 | refine below_set ?_ GE194.out) | exact HB.out)⟩⟩
    · rw [if_neg c4] at H
      have c4b0 : decide (70 < (l0_0.length : Int)) = false := decide_eq_false c4
      have c4b1 : decide (70 < l0_0.length) = false := decide_eq_false (by omega)
      clear c4
      (first | rw [c4b0] | (simp only [i64_w, i32_w]; rw [c4b0]) | skip)
      by_cases c6 : (l0_1.length : Int) > 70
      · rw [if_pos c6] at H
        have c6b0 : decide (70 < (l0_1.length : Int)) = true := decide_eq_true c6
        have c6b1 : decide (70 < l0_1.length) = true := decide_eq_true (by omega)
        clear c6
        have H' := Aside0.mk H
        clear H
        have hcz7_0 : w3.cell? ⟨gb194, 0, none⟩ = some (.slice A0_0 l0_0.length c0_0) := (blk_cell BK194.out 0).trans rfl
        have hcz7_1 : w3.cell? ⟨gb194, 1, none⟩ = some (.slice A0_1 l0_1.length c0_1) := (blk_cell BK194.out 1).trans rfl
        have hcz7_2 : w3.cell? ⟨gb194, 2, none⟩ = some (.slice A0_2 l0_2.length c0_2) := (blk_cell BK194.out 2).trans rfl
        have hfz7_0 := blk_frozen BK194.out 0
        have hfz7_1 := blk_frozen BK194.out 1
        have hfz7_2 := blk_frozen BK194.out 2
        go_wp2
        go_meet
        case rel => exact ⟨_, (true), (by first | rfl | (simp; done) | (simp [*]; done)), H', ⟨by first | omega | exact Nat.le_refl _⟩, ⟨by (with_reducible repeat (first | refine blk_drewN ?_ _ | refine blk_drew ?_ | refine blk_alloc ?_ _)); exact BK194.out⟩, ⟨by repeat (first | (with_reducible first | exact HB.out | apply below_alloc | apply pw_below_drewN | apply below_drew1 | refine below_set ?_ GE194.out) | exact HB.out)⟩⟩
      · rw [if_neg c6] at H
        have c6b0 : decide (70 < (l0_1.length : Int)) = false := decide_eq_false c6
        have c6b1 : decide (70 < l0_1.length) = false := decide_eq_false (by omega)
        clear c6
        have H' := Aside0.mk H
        clear H
        have hcz8_0 : w3.cell? ⟨gb194, 0, none⟩ = some (.slice A0_0 l0_0.length c0_0) := (blk_cell BK194.out 0).trans rfl
        have hcz8_1 : w3.cell? ⟨gb194, 1, none⟩ = some (.slice A0_1 l0_1.length c0_1) := (blk_cell BK194.out 1).trans rfl
        have hcz8_2 : w3.cell? ⟨gb194, 2, none⟩ = some (.slice A0_2 l0_2.length c0_2) := (blk_cell BK194.out 2).trans rfl
        have hfz8_0 := blk_frozen BK194.out 0
        have hfz8_1 := blk_frozen BK194.out 1
        have hfz8_2 := blk_frozen BK194.out 2
        go_wp2
        go_meet
        case rel => exact ⟨_, (decide ((l0_2.length : Int) > 70)), (by first | rfl | (simp; done) | (simp [*]; done)), H', ⟨by first | omega | exact Nat.le_refl _⟩, ⟨by (with_reducible repeat (first | refine blk_drewN ?_ _ | refine blk_drew ?_ | refine blk_alloc ?_ _)); exact BK194.out⟩, ⟨by repeat (first | (with_reducible first | exact HB.out | apply below_alloc | apply pw_below_drewN | apply below_drew1 | refine below_set ?_ GE194.out) | exact HB.out)⟩⟩
  case rest =>
    clear HC2
    try clear p2
    try clear c4
    try clear c4b0
    try clear c4b1
    try clear c6
    try clear c6b0
    try clear c6b1
    try clear hcz5_0
    try clear hcz5_1
    try clear hcz5_2
    try clear hcz7_0
    try clear hcz7_1
    try clear hcz7_2
    try clear hcz8_0
    try clear hcz8_1
    try clear hcz8_2
    try clear hfz5_0
    try clear hfz5_1
    try clear hfz5_2
    try clear hfz7_0
    try clear hfz7_1
    try clear hfz7_2
    try clear hfz8_0
    try clear hfz8_1
    try clear hfz8_2
    obtain ⟨kq, x20_1, rfl, HA, HJ1, BK194, HB⟩ := hcut
    cases kq with
    | zero => exact absurd HA.out (by simp [spliceref09_Few.j0])
    | succ kj1 =>
      have H := HA.out
      clear HA
      simp only [spliceref09_Few.j0] at H
      by_cases c9 : x20_1 = true
      · subst c9
        have H1 : (some false) = some r := by rw [if_pos rfl] at H; exact H
        clear H
        have H := H1
        clear H1
        obtain rfl := Option.some.inj H
        go_wp2
        go_ret
        exact ⟨by first | rfl | (simp [errW_none, errW_some] <;> rfl) | (simp [*, errW_none, errW_some] <;> rfl), by repeat (first | (with_reducible first | exact HB.out | apply below_alloc | apply pw_below_drewN | apply below_drew1 | refine below_set ?_ GE194.out) | exact HB.out)⟩
      · replace c9 := Bool.eq_false_iff.mpr c9
        subst c9
        have H1 : (spliceref09_Few.l0 kj1 0 l0_0 l0_1 l0_2) = some r := by rw [if_neg (show ¬ (false = true) by decide)] at H; exact H
        clear H
        have H := H1
        clear H1
        have H' := Aside0.mk H
        clear H
        go_wp2
        go_loopg [3] kj1 (fun kq v3 w' => ∃ (x3_2 : Int), v3 = .int .i64 x3_2 ∧ Aside0 (spliceref09_Few.l0 kq x3_2 l0_0 l0_1 l0_2 = some r) ∧ Aside0 (kq ≤ kj1) ∧ Aside0 (w'.heap[gb194]? = some (.cells #[(.slice A0_0 l0_0.length c0_0), (.slice A0_1 l0_1.length c0_1), (.slice A0_2 l0_2.length c0_2)] 91 (0, 0))) ∧ Aside0 (Below w.heap.size w w'))
        case atStart => exact ⟨(0), (by first | rfl | (simp; done) | (simp [*]; done)), H', ⟨Nat.le_refl _⟩, ⟨by (with_reducible repeat (first | refine blk_drewN ?_ _ | refine blk_drew ?_ | refine blk_alloc ?_ _)); exact BK194.out⟩, ⟨by repeat (first | (with_reducible first | exact HB.out | apply below_alloc | apply pw_below_drewN | apply below_drew1 | refine below_set ?_ GE194.out) | exact HB.out)⟩⟩
        case round =>
          clear H'
          try clear p2
          try clear c4
          try clear c4b0
          try clear c4b1
          try clear c6
          try clear c6b0
          try clear c6b1
          try clear c9
          try clear hcz5_0
          try clear hcz5_1
          try clear hcz5_2
          try clear hcz7_0
          try clear hcz7_1
          try clear hcz7_2
          try clear hcz8_0
          try clear hcz8_1
          try clear hcz8_2
          try clear hfz5_0
          try clear hfz5_1
          try clear hfz5_2
          try clear hfz7_0
          try clear hfz7_1
          try clear hfz7_2
          try clear hfz8_0
          try clear hfz8_1
          try clear hfz8_2
          try clear p2
          obtain ⟨x3_2, rfl, HA, HK2, BK194, HB⟩ := hrel
          cases gk with
          | zero => exact absurd HA.out (by simp [spliceref09_Few.l0])
          | succ k2 =>
            have H := HA.out
            clear HA
            simp only [spliceref09_Few.l0] at H
            by_cases c10 : x3_2 < (l0_0.length : Int)
            · rw [if_pos c10] at H
              have c10b0 : decide (x3_2 < (l0_0.length : Int)) = true := decide_eq_true c10
              clear c10
              by_cases c11 : 0 ≤ x3_2
              · rw [if_pos c11] at H
                have c11b0 : decide (0 ≤ x3_2) = true := decide_eq_true c11
                clear c11
                by_cases c12 : (((rd_T124 l0_0 x3_2).f2).length : Int) > 2100
                · rw [if_pos c12] at H
                  have c12b0 : decide (2100 < (((rd_T124 l0_0 x3_2).f2).length : Int)) = true := decide_eq_true c12
                  have c12b1 : decide (2100 < ((rd_T124 l0_0 x3_2).f2).length) = true := decide_eq_true (by omega)
                  clear c12
                  obtain rfl := Option.some.inj H
                  have hcz13_0 : wr.cell? ⟨gb194, 0, none⟩ = some (.slice A0_0 l0_0.length c0_0) := (blk_cell BK194.out 0).trans rfl
                  have hcz13_1 : wr.cell? ⟨gb194, 1, none⟩ = some (.slice A0_1 l0_1.length c0_1) := (blk_cell BK194.out 1).trans rfl
                  have hcz13_2 : wr.cell? ⟨gb194, 2, none⟩ = some (.slice A0_2 l0_2.length c0_2) := (blk_cell BK194.out 2).trans rfl
                  have hfz13_0 := blk_frozen BK194.out 0
                  have hfz13_1 := blk_frozen BK194.out 1
                  have hfz13_2 := blk_frozen BK194.out 2
                  have p195 : 0 ≤ (x3_2 : Int) := of_decide_eq_true (by first | (with_reducible assumption) | assumption)
                  have q195 : x3_2 < (l0_0.length : Int) := of_decide_eq_true (by first | (with_reducible assumption) | assumption)
                  obtain ⟨ad195, A195_2, c195_2, A195_3, c195_3, e195, hx195_0, hx195_1, hx195_2, hx195_3, hl195_2, hi195_2, hl195_3, hi195_3⟩ := at_T124 HR0_0.out x3_2 p195 q195
                  cases e195
                  replace hx195_0 := (HB.out.cell (World.block_lt_of_cell? w _ hx195_0)).trans hx195_0
                  replace hx195_1 := (HB.out.cell (World.block_lt_of_cell? w _ hx195_1)).trans hx195_1
                  replace hx195_2 := (HB.out.cell (World.block_lt_of_cell? w _ hx195_2)).trans hx195_2
                  replace hx195_3 := (HB.out.cell (World.block_lt_of_cell? w _ hx195_3)).trans hx195_3
                  have HR195_2 := Aside0.mk hi195_2
                  have HC195_2 := Aside0.mk hl195_2
                  clear hi195_2 hl195_2
                  have HR195_3 := Aside0.mk hi195_3
                  have HC195_3 := Aside0.mk hl195_3
                  clear hi195_3 hl195_3
                  replace p195 := eq_true p195
                  replace q195 := eq_true q195
                  go_wp2
                  go_ret
                  exact ⟨by first | rfl | (simp [errW_none, errW_some] <;> rfl) | (simp [*, errW_none, errW_some] <;> rfl), by repeat (first | (with_reducible first | exact HB.out | apply below_alloc | apply pw_below_drewN | apply below_drew1 | refine below_set ?_ GE194.out) | exact HB.out)⟩
                · rw [if_neg c12] at H
                  have c12b0 : decide (2100 < (((rd_T124 l0_0 x3_2).f2).length : Int)) = false := decide_eq_false c12
                  have c12b1 : decide (2100 < ((rd_T124 l0_0 x3_2).f2).length) = false := decide_eq_false (by omega)
                  clear c12
                  by_cases c14 : (((rd_T124 l0_0 x3_2).f3).length : Int) > 70
                  · rw [if_pos c14] at H
                    have c14b0 : decide (70 < (((rd_T124 l0_0 x3_2).f3).length : Int)) = true := decide_eq_true c14
                    have c14b1 : decide (70 < ((rd_T124 l0_0 x3_2).f3).length) = true := decide_eq_true (by omega)
                    clear c14
                    obtain rfl := Option.some.inj H
                    have hcz15_0 : wr.cell? ⟨gb194, 0, none⟩ = some (.slice A0_0 l0_0.length c0_0) := (blk_cell BK194.out 0).trans rfl
                    have hcz15_1 : wr.cell? ⟨gb194, 1, none⟩ = some (.slice A0_1 l0_1.length c0_1) := (blk_cell BK194.out 1).trans rfl
                    have hcz15_2 : wr.cell? ⟨gb194, 2, none⟩ = some (.slice A0_2 l0_2.length c0_2) := (blk_cell BK194.out 2).trans rfl
                    have hfz15_0 := blk_frozen BK194.out 0
                    have hfz15_1 := blk_frozen BK194.out 1
                    have hfz15_2 := blk_frozen BK194.out 2
                    have p195 : 0 ≤ (x3_2 : Int) := of_decide_eq_true (by first | (with_reducible assumption) | assumption)
                    have q195 : x3_2 < (l0_0.length : Int) := of_decide_eq_true (by first | (with_reducible assumption) | assumption)
                    obtain ⟨ad195, A195_2, c195_2, A195_3, c195_3, e195, hx195_0, hx195_1, hx195_2, hx195_3, hl195_2, hi195_2, hl195_3, hi195_3⟩ := at_T124 HR0_0.out x3_2 p195 q195
                    cases e195
                    replace hx195_0 := (HB.out.cell (World.block_lt_of_cell? w _ hx195_0)).trans hx195_0
                    replace hx195_1 := (HB.out.cell (World.block_lt_of_cell? w _ hx195_1)).trans hx195_1
                    replace hx195_2 := (HB.out.cell (World.block_lt_of_cell? w _ hx195_2)).trans hx195_2
                    replace hx195_3 := (HB.out.cell (World.block_lt_of_cell? w _ hx195_3)).trans hx195_3
                    have HR195_2 := Aside0.mk hi195_2
                    have HC195_2 := Aside0.mk hl195_2
                    clear hi195_2 hl195_2
                    have HR195_3 := Aside0.mk hi195_3
                    have HC195_3 := Aside0.mk hl195_3
                    clear hi195_3 hl195_3
                    replace p195 := eq_true p195
                    replace q195 := eq_true q195
                    have p196 : 0 ≤ (x3_2 : Int) := of_decide_eq_true (by first | (with_reducible assumption) | assumption)
                    have q196 : x3_2 < (l0_0.length : Int) := of_decide_eq_true (by first | (with_reducible assumption) | assumption)
                    obtain ⟨ad196, A196_2, c196_2, A196_3, c196_3, e196, hx196_0, hx196_1, hx196_2, hx196_3, hl196_2, hi196_2, hl196_3, hi196_3⟩ := at_T124 HR0_0.out x3_2 p196 q196
                    obtain rfl : ad195 = ad196 := (by injection e196)
                    replace hx196_0 := (HB.out.cell (World.block_lt_of_cell? w _ hx196_0)).trans hx196_0
                    replace hx196_1 := (HB.out.cell (World.block_lt_of_cell? w _ hx196_1)).trans hx196_1
                    replace hx196_2 := (HB.out.cell (World.block_lt_of_cell? w _ hx196_2)).trans hx196_2
                    replace hx196_3 := (HB.out.cell (World.block_lt_of_cell? w _ hx196_3)).trans hx196_3
                    have HR196_2 := Aside0.mk hi196_2
                    have HC196_2 := Aside0.mk hl196_2
                    clear hi196_2 hl196_2
                    have HR196_3 := Aside0.mk hi196_3
                    have HC196_3 := Aside0.mk hl196_3
                    clear hi196_3 hl196_3
                    replace p196 := eq_true p196
                    replace q196 := eq_true q196
                    have ea_ := Option.some.inj (hx195_2.symm.trans hx196_2)
                    injection ea_ with ea_ en_ ec_
                    subst ea_
                    subst ec_
                    clear en_
                    have ea_ := Option.some.inj (hx195_3.symm.trans hx196_3)
                    injection ea_ with ea_ en_ ec_
                    subst ea_
                    subst ec_
                    clear en_
                    go_wp2
                    go_ret
                    exact ⟨by first | rfl | (simp [errW_none, errW_some] <;> rfl) | (simp [*, errW_none, errW_some] <;> rfl), by repeat (first | (with_reducible first | exact HB.out | apply below_alloc | apply pw_below_drewN | apply below_drew1 | refine below_set ?_ GE194.out) | exact HB.out)⟩
                  · rw [if_neg c14] at H
                    have c14b0 : decide (70 < (((rd_T124 l0_0 x3_2).f3).length : Int)) = false := decide_eq_false c14
                    have c14b1 : decide (70 < ((rd_T124 l0_0 x3_2).f3).length) = false := decide_eq_false (by omega)
                    clear c14
                    by_cases c16 : (((rd_T124 l0_0 x3_2).f0).size : Int) > 100
                    · rw [if_pos c16] at H
                      have c16b0 : decide (100 < (((rd_T124 l0_0 x3_2).f0).size : Int)) = true := decide_eq_true c16
                      have c16b1 : decide (100 < ((rd_T124 l0_0 x3_2).f0).size) = true := decide_eq_true (by omega)
                      clear c16
                      obtain rfl := Option.some.inj H
                      have hcz17_0 : wr.cell? ⟨gb194, 0, none⟩ = some (.slice A0_0 l0_0.length c0_0) := (blk_cell BK194.out 0).trans rfl
                      have hcz17_1 : wr.cell? ⟨gb194, 1, none⟩ = some (.slice A0_1 l0_1.length c0_1) := (blk_cell BK194.out 1).trans rfl
                      have hcz17_2 : wr.cell? ⟨gb194, 2, none⟩ = some (.slice A0_2 l0_2.length c0_2) := (blk_cell BK194.out 2).trans rfl
                      have hfz17_0 := blk_frozen BK194.out 0
                      have hfz17_1 := blk_frozen BK194.out 1
                      have hfz17_2 := blk_frozen BK194.out 2
                      have p195 : 0 ≤ (x3_2 : Int) := of_decide_eq_true (by first | (with_reducible assumption) | assumption)
                      have q195 : x3_2 < (l0_0.length : Int) := of_decide_eq_true (by first | (with_reducible assumption) | assumption)
                      obtain ⟨ad195, A195_2, c195_2, A195_3, c195_3, e195, hx195_0, hx195_1, hx195_2, hx195_3, hl195_2, hi195_2, hl195_3, hi195_3⟩ := at_T124 HR0_0.out x3_2 p195 q195
                      cases e195
                      replace hx195_0 := (HB.out.cell (World.block_lt_of_cell? w _ hx195_0)).trans hx195_0
                      replace hx195_1 := (HB.out.cell (World.block_lt_of_cell? w _ hx195_1)).trans hx195_1
                      replace hx195_2 := (HB.out.cell (World.block_lt_of_cell? w _ hx195_2)).trans hx195_2
                      replace hx195_3 := (HB.out.cell (World.block_lt_of_cell? w _ hx195_3)).trans hx195_3
                      have HR195_2 := Aside0.mk hi195_2
                      have HC195_2 := Aside0.mk hl195_2
                      clear hi195_2 hl195_2
                      have HR195_3 := Aside0.mk hi195_3
                      have HC195_3 := Aside0.mk hl195_3
                      clear hi195_3 hl195_3
                      replace p195 := eq_true p195
                      replace q195 := eq_true q195
                      have p196 : 0 ≤ (x3_2 : Int) := of_decide_eq_true (by first | (with_reducible assumption) | assumption)
                      have q196 : x3_2 < (l0_0.length : Int) := of_decide_eq_true (by first | (with_reducible assumption) | assumption)
                      obtain ⟨ad196, A196_2, c196_2, A196_3, c196_3, e196, hx196_0, hx196_1, hx196_2, hx196_3, hl196_2, hi196_2, hl196_3, hi196_3⟩ := at_T124 HR0_0.out x3_2 p196 q196
                      obtain rfl : ad195 = ad196 := (by injection e196)
                      replace hx196_0 := (HB.out.cell (World.block_lt_of_cell? w _ hx196_0)).trans hx196_0
                      replace hx196_1 := (HB.out.cell (World.block_lt_of_cell? w _ hx196_1)).trans hx196_1
                      replace hx196_2 := (HB.out.cell (World.block_lt_of_cell? w _ hx196_2)).trans hx196_2
                      replace hx196_3 := (HB.out.cell (World.block_lt_of_cell? w _ hx196_3)).trans hx196_3
                      have HR196_2 := Aside0.mk hi196_2
                      have HC196_2 := Aside0.mk hl196_2
                      clear hi196_2 hl196_2
                      have HR196_3 := Aside0.mk hi196_3
                      have HC196_3 := Aside0.mk hl196_3
                      clear hi196_3 hl196_3
                      replace p196 := eq_true p196
                      replace q196 := eq_true q196
                      have ea_ := Option.some.inj (hx195_2.symm.trans hx196_2)
                      injection ea_ with ea_ en_ ec_
                      subst ea_
                      subst ec_
                      clear en_
                      have ea_ := Option.some.inj (hx195_3.symm.trans hx196_3)
                      injection ea_ with ea_ en_ ec_
                      subst ea_
                      subst ec_
                      clear en_
                      have p197 : 0 ≤ (x3_2 : Int) := of_decide_eq_true (by first | (with_reducible assumption) | assumption)
                      have q197 : x3_2 < (l0_0.length : Int) := of_decide_eq_true (by first | (with_reducible assumption) | assumption)
                      obtain ⟨ad197, A197_2, c197_2, A197_3, c197_3, e197, hx197_0, hx197_1, hx197_2, hx197_3, hl197_2, hi197_2, hl197_3, hi197_3⟩ := at_T124 HR0_0.out x3_2 p197 q197
                      obtain rfl : ad195 = ad197 := (by injection e197)
                      replace hx197_0 := (HB.out.cell (World.block_lt_of_cell? w _ hx197_0)).trans hx197_0
                      replace hx197_1 := (HB.out.cell (World.block_lt_of_cell? w _ hx197_1)).trans hx197_1
                      replace hx197_2 := (HB.out.cell (World.block_lt_of_cell? w _ hx197_2)).trans hx197_2
                      replace hx197_3 := (HB.out.cell (World.block_lt_of_cell? w _ hx197_3)).trans hx197_3
                      have HR197_2 := Aside0.mk hi197_2
                      have HC197_2 := Aside0.mk hl197_2
                      clear hi197_2 hl197_2
                      have HR197_3 := Aside0.mk hi197_3
                      have HC197_3 := Aside0.mk hl197_3
                      clear hi197_3 hl197_3
                      replace p197 := eq_true p197
                      replace q197 := eq_true q197
                      have ea_ := Option.some.inj (hx195_2.symm.trans hx197_2)
                      injection ea_ with ea_ en_ ec_
                      subst ea_
                      subst ec_
                      clear en_
                      have ea_ := Option.some.inj (hx195_3.symm.trans hx197_3)
                      injection ea_ with ea_ en_ ec_
                      subst ea_
                      subst ec_
                      clear en_
                      go_wp2
                      go_ret
                      exact ⟨by first | rfl | (simp [errW_none, errW_some] <;> rfl) | (simp [*, errW_none, errW_some] <;> rfl), by repeat (first | (with_reducible first | exact HB.out | apply below_alloc | apply pw_below_drewN | apply below_drew1 | refine below_set ?_ GE194.out) | exact HB.out)⟩
                    · rw [if_neg c16] at H
                      have c16b0 : decide (100 < (((rd_T124 l0_0 x3_2).f0).size : Int)) = false := decide_eq_false c16
                      have c16b1 : decide (100 < ((rd_T124 l0_0 x3_2).f0).size) = false := decide_eq_false (by omega)
                      clear c16
                      have H' := Aside0.mk H
                      clear H
                      have hcz18_0 : wr.cell? ⟨gb194, 0, none⟩ = some (.slice A0_0 l0_0.length c0_0) := (blk_cell BK194.out 0).trans rfl
                      have hcz18_1 : wr.cell? ⟨gb194, 1, none⟩ = some (.slice A0_1 l0_1.length c0_1) := (blk_cell BK194.out 1).trans rfl
                      have hcz18_2 : wr.cell? ⟨gb194, 2, none⟩ = some (.slice A0_2 l0_2.length c0_2) := (blk_cell BK194.out 2).trans rfl
                      have hfz18_0 := blk_frozen BK194.out 0
                      have hfz18_1 := blk_frozen BK194.out 1
                      have hfz18_2 := blk_frozen BK194.out 2
                      have p195 : 0 ≤ (x3_2 : Int) := of_decide_eq_true (by first | (with_reducible assumption) | assumption)
                      have q195 : x3_2 < (l0_0.length : Int) := of_decide_eq_true (by first | (with_reducible assumption) | assumption)
                      obtain ⟨ad195, A195_2, c195_2, A195_3, c195_3, e195, hx195_0, hx195_1, hx195_2, hx195_3, hl195_2, hi195_2, hl195_3, hi195_3⟩ := at_T124 HR0_0.out x3_2 p195 q195
                      cases e195
                      replace hx195_0 := (HB.out.cell (World.block_lt_of_cell? w _ hx195_0)).trans hx195_0
                      replace hx195_1 := (HB.out.cell (World.block_lt_of_cell? w _ hx195_1)).trans hx195_1
                      replace hx195_2 := (HB.out.cell (World.block_lt_of_cell? w _ hx195_2)).trans hx195_2
                      replace hx195_3 := (HB.out.cell (World.block_lt_of_cell? w _ hx195_3)).trans hx195_3
                      have HR195_2 := Aside0.mk hi195_2
                      have HC195_2 := Aside0.mk hl195_2
                      clear hi195_2 hl195_2
                      have HR195_3 := Aside0.mk hi195_3
                      have HC195_3 := Aside0.mk hl195_3
                      clear hi195_3 hl195_3
                      replace p195 := eq_true p195
                      replace q195 := eq_true q195
                      have p196 : 0 ≤ (x3_2 : Int) := of_decide_eq_true (by first | (with_reducible assumption) | assumption)
                      have q196 : x3_2 < (l0_0.length : Int) := of_decide_eq_true (by first | (with_reducible assumption) | assumption)
                      obtain ⟨ad196, A196_2, c196_2, A196_3, c196_3, e196, hx196_0, hx196_1, hx196_2, hx196_3, hl196_2, hi196_2, hl196_3, hi196_3⟩ := at_T124 HR0_0.out x3_2 p196 q196
                      obtain rfl : ad195 = ad196 := (by injection e196)
                      replace hx196_0 := (HB.out.cell (World.block_lt_of_cell? w _ hx196_0)).trans hx196_0
                      replace hx196_1 := (HB.out.cell (World.block_lt_of_cell? w _ hx196_1)).trans hx196_1
                      replace hx196_2 := (HB.out.cell (World.block_lt_of_cell? w _ hx196_2)).trans hx196_2
                      replace hx196_3 := (HB.out.cell (World.block_lt_of_cell? w _ hx196_3)).trans hx196_3
                      have HR196_2 := Aside0.mk hi196_2
                      have HC196_2 := Aside0.mk hl196_2
                      clear hi196_2 hl196_2
                      have HR196_3 := Aside0.mk hi196_3
                      have HC196_3 := Aside0.mk hl196_3
                      clear hi196_3 hl196_3
                      replace p196 := eq_true p196
                      replace q196 := eq_true q196
                      have ea_ := Option.some.inj (hx195_2.symm.trans hx196_2)
                      injection ea_ with ea_ en_ ec_
                      subst ea_
                      subst ec_
                      clear en_
                      have ea_ := Option.some.inj (hx195_3.symm.trans hx196_3)
                      injection ea_ with ea_ en_ ec_
                      subst ea_
                      subst ec_
                      clear en_
                      have p197 : 0 ≤ (x3_2 : Int) := of_decide_eq_true (by first | (with_reducible assumption) | assumption)
                      have q197 : x3_2 < (l0_0.length : Int) := of_decide_eq_true (by first | (with_reducible assumption) | assumption)
                      obtain ⟨ad197, A197_2, c197_2, A197_3, c197_3, e197, hx197_0, hx197_1, hx197_2, hx197_3, hl197_2, hi197_2, hl197_3, hi197_3⟩ := at_T124 HR0_0.out x3_2 p197 q197
                      obtain rfl : ad195 = ad197 := (by injection e197)
                      replace hx197_0 := (HB.out.cell (World.block_lt_of_cell? w _ hx197_0)).trans hx197_0
                      replace hx197_1 := (HB.out.cell (World.block_lt_of_cell? w _ hx197_1)).trans hx197_1
                      replace hx197_2 := (HB.out.cell (World.block_lt_of_cell? w _ hx197_2)).trans hx197_2
                      replace hx197_3 := (HB.out.cell (World.block_lt_of_cell? w _ hx197_3)).trans hx197_3
                      have HR197_2 := Aside0.mk hi197_2
                      have HC197_2 := Aside0.mk hl197_2
                      clear hi197_2 hl197_2
                      have HR197_3 := Aside0.mk hi197_3
                      have HC197_3 := Aside0.mk hl197_3
                      clear hi197_3 hl197_3
                      replace p197 := eq_true p197
                      replace q197 := eq_true q197
                      have ea_ := Option.some.inj (hx195_2.symm.trans hx197_2)
                      injection ea_ with ea_ en_ ec_
                      subst ea_
                      subst ec_
                      clear en_
                      have ea_ := Option.some.inj (hx195_3.symm.trans hx197_3)
                      injection ea_ with ea_ en_ ec_
                      subst ea_
                      subst ec_
                      clear en_
                      go_wp2
                      go_roundg k2
                      case measure => have := HJ1.out; have := HK2.out; omega
                      case rel => exact ⟨(wrap64 (x3_2 + 1)), (by first | rfl | (simp; done) | (simp [*]; done)), H', ⟨by have := HJ1.out; have := HK2.out; omega⟩, ⟨by (with_reducible repeat (first | refine blk_drewN ?_ _ | refine blk_drew ?_ | refine blk_alloc ?_ _)); exact BK194.out⟩, ⟨by repeat (first | (with_reducible first | exact HB.out | apply below_alloc | apply pw_below_drewN | apply below_drew1 | refine below_set ?_ GE194.out) | exact HB.out)⟩⟩
              · rw [if_neg c11] at H
                exact absurd H (by simp)
            · rw [if_neg c10] at H
              have c10b0 : decide (x3_2 < (l0_0.length : Int)) = false := decide_eq_false c10
              clear c10
              have H' := Aside0.mk H
              clear H
              have hcz19_0 : wr.cell? ⟨gb194, 0, none⟩ = some (.slice A0_0 l0_0.length c0_0) := (blk_cell BK194.out 0).trans rfl
              have hcz19_1 : wr.cell? ⟨gb194, 1, none⟩ = some (.slice A0_1 l0_1.length c0_1) := (blk_cell BK194.out 1).trans rfl
              have hcz19_2 : wr.cell? ⟨gb194, 2, none⟩ = some (.slice A0_2 l0_2.length c0_2) := (blk_cell BK194.out 2).trans rfl
              have hfz19_0 := blk_frozen BK194.out 0
              have hfz19_1 := blk_frozen BK194.out 1
              have hfz19_2 := blk_frozen BK194.out 2
              go_wp2
              go_loopg [4] k2 (fun kq v4 w' => ∃ (x4_3 : Int), v4 = .int .i64 x4_3 ∧ Aside0 (spliceref09_Few.l1 kq x4_3 l0_0 l0_1 l0_2 = some r) ∧ Aside0 (kq ≤ k2) ∧ Aside0 (w'.heap[gb194]? = some (.cells #[(.slice A0_0 l0_0.length c0_0), (.slice A0_1 l0_1.length c0_1), (.slice A0_2 l0_2.length c0_2)] 91 (0, 0))) ∧ Aside0 (Below w.heap.size w w'))
              case atStart => exact ⟨(0), (by first | rfl | (simp; done) | (simp [*]; done)), H', ⟨Nat.le_refl _⟩, ⟨by (with_reducible repeat (first | refine blk_drewN ?_ _ | refine blk_drew ?_ | refine blk_alloc ?_ _)); exact BK194.out⟩, ⟨by repeat (first | (with_reducible first | exact HB.out | apply below_alloc | apply pw_below_drewN | apply below_drew1 | refine below_set ?_ GE194.out) | exact HB.out)⟩⟩
              case round =>
                clear H'
                try clear c1
                try clear p1
                try clear q1
                try clear hx1
                try clear p2
                try clear c4
                try clear c4b0
                try clear c4b1
                try clear c6
                try clear c6b0
                try clear c6b1
                try clear p6
                try clear c9
                try clear c10
                try clear c10b0
                try clear c11
                try clear c11b0
                try clear c12
                try clear c12b0
                try clear c12b1
                try clear c14
                try clear c14b0
                try clear c14b1
                try clear c16
                try clear c16b0
                try clear c16b1
                try clear c19
                try clear p19
                try clear q19
                try clear hx19
                try clear hcz13_0
                try clear hcz13_1
                try clear hcz13_2
                try clear hcz15_0
                try clear hcz15_1
                try clear hcz15_2
                try clear hcz17_0
                try clear hcz17_1
                try clear hcz17_2
                try clear hcz18_0
                try clear hcz18_1
                try clear hcz18_2
                try clear hcz19_0
                try clear hcz19_1
                try clear hcz19_2
                try clear hcz5_0
                try clear hcz5_1
                try clear hcz5_2
                try clear hcz7_0
                try clear hcz7_1
                try clear hcz7_2
                try clear hcz8_0
                try clear hcz8_1
                try clear hcz8_2
                try clear hfz13_0
                try clear hfz13_1
                try clear hfz13_2
                try clear hfz15_0
                try clear hfz15_1
                try clear hfz15_2
                try clear hfz17_0
                try clear hfz17_1
                try clear hfz17_2
                try clear hfz18_0
                try clear hfz18_1
                try clear hfz18_2
                try clear hfz19_0
                try clear hfz19_1
                try clear hfz19_2
                try clear hfz5_0
                try clear hfz5_1
                try clear hfz5_2
                try clear hfz7_0
                try clear hfz7_1
                try clear hfz7_2
                try clear hfz8_0
                try clear hfz8_1
                try clear hfz8_2
                try clear hx195_0
                try clear hx195_1
                try clear hx195_2
                try clear hx195_3
                try clear hx196_0
                try clear hx196_1
                try clear hx196_2
                try clear hx196_3
                try clear hx197_0
                try clear hx197_1
                try clear hx197_2
                try clear hx197_3
                try clear p195
                try clear p196
                try clear p197
                try clear p2
                try clear q195
                try clear q196
                try clear q197
                obtain ⟨x4_3, rfl, HA, HK3, BK194, HB⟩ := hrel
                cases gk with
                | zero => exact absurd HA.out (by simp [spliceref09_Few.l1])
                | succ k3 =>
                  have H := HA.out
                  clear HA
                  simp only [spliceref09_Few.l1] at H
                  by_cases c20 : x4_3 < (l0_1.length : Int)
                  · rw [if_pos c20] at H
                    have c20b0 : decide (x4_3 < (l0_1.length : Int)) = true := decide_eq_true c20
                    clear c20
                    by_cases c21 : 0 ≤ x4_3
                    · rw [if_pos c21] at H
                      have c21b0 : decide (0 ≤ x4_3) = true := decide_eq_true c21
                      clear c21
                      by_cases c22 : (((rd_T102 l0_1 x4_3).f5).length : Int) > 5000
                      · rw [if_pos c22] at H
                        have c22b0 : decide (5000 < (((rd_T102 l0_1 x4_3).f5).length : Int)) = true := decide_eq_true c22
                        have c22b1 : decide (5000 < ((rd_T102 l0_1 x4_3).f5).length) = true := decide_eq_true (by omega)
                        clear c22
                        obtain rfl := Option.some.inj H
                        have hcz23_0 : wr.cell? ⟨gb194, 0, none⟩ = some (.slice A0_0 l0_0.length c0_0) := (blk_cell BK194.out 0).trans rfl
                        have hcz23_1 : wr.cell? ⟨gb194, 1, none⟩ = some (.slice A0_1 l0_1.length c0_1) := (blk_cell BK194.out 1).trans rfl
                        have hcz23_2 : wr.cell? ⟨gb194, 2, none⟩ = some (.slice A0_2 l0_2.length c0_2) := (blk_cell BK194.out 2).trans rfl
                        have hfz23_0 := blk_frozen BK194.out 0
                        have hfz23_1 := blk_frozen BK194.out 1
                        have hfz23_2 := blk_frozen BK194.out 2
                        have p198 : 0 ≤ (x4_3 : Int) := of_decide_eq_true (by first | (with_reducible assumption) | assumption)
                        have q198 : x4_3 < (l0_1.length : Int) := of_decide_eq_true (by first | (with_reducible assumption) | assumption)
                        obtain ⟨ad198, A198_5, c198_5, A198_6, c198_6, e198, hx198_0, hx198_1, hx198_2, hx198_3, hx198_4, hx198_5, hx198_6, hl198_5, hi198_5, hl198_6, hi198_6⟩ := at_T102 HR0_1.out x4_3 p198 q198
                        cases e198
                        replace hx198_0 := (HB.out.cell (World.block_lt_of_cell? w _ hx198_0)).trans hx198_0
                        replace hx198_1 := (HB.out.cell (World.block_lt_of_cell? w _ hx198_1)).trans hx198_1
                        replace hx198_2 := (HB.out.cell (World.block_lt_of_cell? w _ hx198_2)).trans hx198_2
                        replace hx198_3 := (HB.out.cell (World.block_lt_of_cell? w _ hx198_3)).trans hx198_3
                        replace hx198_4 := (HB.out.cell (World.block_lt_of_cell? w _ hx198_4)).trans hx198_4
                        replace hx198_5 := (HB.out.cell (World.block_lt_of_cell? w _ hx198_5)).trans hx198_5
                        replace hx198_6 := (HB.out.cell (World.block_lt_of_cell? w _ hx198_6)).trans hx198_6
                        have HR198_5 := Aside0.mk hi198_5
                        have HC198_5 := Aside0.mk hl198_5
                        clear hi198_5 hl198_5
                        have HR198_6 := Aside0.mk hi198_6
                        have HC198_6 := Aside0.mk hl198_6
                        clear hi198_6 hl198_6
                        replace p198 := eq_true p198
                        replace q198 := eq_true q198
                        go_wp2
                        go_ret
                        exact ⟨by first | rfl | (simp [errW_none, errW_some] <;> rfl) | (simp [*, errW_none, errW_some] <;> rfl), by repeat (first | (with_reducible first | exact HB.out | apply below_alloc | apply pw_below_drewN | apply below_drew1 | refine below_set ?_ GE194.out) | exact HB.out)⟩
                      · rw [if_neg c22] at H
                        have c22b0 : decide (5000 < (((rd_T102 l0_1 x4_3).f5).length : Int)) = false := decide_eq_false c22
                        have c22b1 : decide (5000 < ((rd_T102 l0_1 x4_3).f5).length) = false := decide_eq_false (by omega)
                        clear c22
                        by_cases c24 : (((rd_T102 l0_1 x4_3).f6).length : Int) > 70
                        · rw [if_pos c24] at H
                          have c24b0 : decide (70 < (((rd_T102 l0_1 x4_3).f6).length : Int)) = true := decide_eq_true c24
                          have c24b1 : decide (70 < ((rd_T102 l0_1 x4_3).f6).length) = true := decide_eq_true (by omega)
                          clear c24
                          obtain rfl := Option.some.inj H
                          have hcz25_0 : wr.cell? ⟨gb194, 0, none⟩ = some (.slice A0_0 l0_0.length c0_0) := (blk_cell BK194.out 0).trans rfl
                          have hcz25_1 : wr.cell? ⟨gb194, 1, none⟩ = some (.slice A0_1 l0_1.length c0_1) := (blk_cell BK194.out 1).trans rfl
                          have hcz25_2 : wr.cell? ⟨gb194, 2, none⟩ = some (.slice A0_2 l0_2.length c0_2) := (blk_cell BK194.out 2).trans rfl
                          have hfz25_0 := blk_frozen BK194.out 0
                          have hfz25_1 := blk_frozen BK194.out 1
                          have hfz25_2 := blk_frozen BK194.out 2
                          have p198 : 0 ≤ (x4_3 : Int) := of_decide_eq_true (by first | (with_reducible assumption) | assumption)
                          have q198 : x4_3 < (l0_1.length : Int) := of_decide_eq_true (by first | (with_reducible assumption) | assumption)
                          obtain ⟨ad198, A198_5, c198_5, A198_6, c198_6, e198, hx198_0, hx198_1, hx198_2, hx198_3, hx198_4, hx198_5, hx198_6, hl198_5, hi198_5, hl198_6, hi198_6⟩ := at_T102 HR0_1.out x4_3 p198 q198
                          cases e198
                          replace hx198_0 := (HB.out.cell (World.block_lt_of_cell? w _ hx198_0)).trans hx198_0
                          replace hx198_1 := (HB.out.cell (World.block_lt_of_cell? w _ hx198_1)).trans hx198_1
                          replace hx198_2 := (HB.out.cell (World.block_lt_of_cell? w _ hx198_2)).trans hx198_2
                          replace hx198_3 := (HB.out.cell (World.block_lt_of_cell? w _ hx198_3)).trans hx198_3
                          replace hx198_4 := (HB.out.cell (World.block_lt_of_cell? w _ hx198_4)).trans hx198_4
                          replace hx198_5 := (HB.out.cell (World.block_lt_of_cell? w _ hx198_5)).trans hx198_5
                          replace hx198_6 := (HB.out.cell (World.block_lt_of_cell? w _ hx198_6)).trans hx198_6
                          have HR198_5 := Aside0.mk hi198_5
                          have HC198_5 := Aside0.mk hl198_5
                          clear hi198_5 hl198_5
                          have HR198_6 := Aside0.mk hi198_6
                          have HC198_6 := Aside0.mk hl198_6
                          clear hi198_6 hl198_6
                          replace p198 := eq_true p198
                          replace q198 := eq_true q198
                          have p199 : 0 ≤ (x4_3 : Int) := of_decide_eq_true (by first | (with_reducible assumption) | assumption)
                          have q199 : x4_3 < (l0_1.length : Int) := of_decide_eq_true (by first | (with_reducible assumption) | assumption)
                          obtain ⟨ad199, A199_5, c199_5, A199_6, c199_6, e199, hx199_0, hx199_1, hx199_2, hx199_3, hx199_4, hx199_5, hx199_6, hl199_5, hi199_5, hl199_6, hi199_6⟩ := at_T102 HR0_1.out x4_3 p199 q199
                          obtain rfl : ad198 = ad199 := (by injection e199)
                          replace hx199_0 := (HB.out.cell (World.block_lt_of_cell? w _ hx199_0)).trans hx199_0
                          replace hx199_1 := (HB.out.cell (World.block_lt_of_cell? w _ hx199_1)).trans hx199_1
                          replace hx199_2 := (HB.out.cell (World.block_lt_of_cell? w _ hx199_2)).trans hx199_2
                          replace hx199_3 := (HB.out.cell (World.block_lt_of_cell? w _ hx199_3)).trans hx199_3
                          replace hx199_4 := (HB.out.cell (World.block_lt_of_cell? w _ hx199_4)).trans hx199_4
                          replace hx199_5 := (HB.out.cell (World.block_lt_of_cell? w _ hx199_5)).trans hx199_5
                          replace hx199_6 := (HB.out.cell (World.block_lt_of_cell? w _ hx199_6)).trans hx199_6
                          have HR199_5 := Aside0.mk hi199_5
                          have HC199_5 := Aside0.mk hl199_5
                          clear hi199_5 hl199_5
                          have HR199_6 := Aside0.mk hi199_6
                          have HC199_6 := Aside0.mk hl199_6
                          clear hi199_6 hl199_6
                          replace p199 := eq_true p199
                          replace q199 := eq_true q199
                          have ea_ := Option.some.inj (hx198_5.symm.trans hx199_5)
                          injection ea_ with ea_ en_ ec_
                          subst ea_
                          subst ec_
                          clear en_
                          have ea_ := Option.some.inj (hx198_6.symm.trans hx199_6)
                          injection ea_ with ea_ en_ ec_
                          subst ea_
                          subst ec_
                          clear en_
                          go_wp2
                          go_ret
                          exact ⟨by first | rfl | (simp [errW_none, errW_some] <;> rfl) | (simp [*, errW_none, errW_some] <;> rfl), by repeat (first | (with_reducible first | exact HB.out | apply below_alloc | apply pw_below_drewN | apply below_drew1 | refine below_set ?_ GE194.out) | exact HB.out)⟩
                        · rw [if_neg c24] at H
                          have c24b0 : decide (70 < (((rd_T102 l0_1 x4_3).f6).length : Int)) = false := decide_eq_false c24
                          have c24b1 : decide (70 < ((rd_T102 l0_1 x4_3).f6).length) = false := decide_eq_false (by omega)
                          clear c24
                          by_cases c26 : (((rd_T102 l0_1 x4_3).f0).size : Int) > 100
                          · rw [if_pos c26] at H
                            have c26b0 : decide (100 < (((rd_T102 l0_1 x4_3).f0).size : Int)) = true := decide_eq_true c26
                            have c26b1 : decide (100 < ((rd_T102 l0_1 x4_3).f0).size) = true := decide_eq_true (by omega)
                            clear c26
                            obtain rfl := Option.some.inj H
                            have hcz27_0 : wr.cell? ⟨gb194, 0, none⟩ = some (.slice A0_0 l0_0.length c0_0) := (blk_cell BK194.out 0).trans rfl
                            have hcz27_1 : wr.cell? ⟨gb194, 1, none⟩ = some (.slice A0_1 l0_1.length c0_1) := (blk_cell BK194.out 1).trans rfl
                            have hcz27_2 : wr.cell? ⟨gb194, 2, none⟩ = some (.slice A0_2 l0_2.length c0_2) := (blk_cell BK194.out 2).trans rfl
                            have hfz27_0 := blk_frozen BK194.out 0
                            have hfz27_1 := blk_frozen BK194.out 1
                            have hfz27_2 := blk_frozen BK194.out 2
                            have p198 : 0 ≤ (x4_3 : Int) := of_decide_eq_true (by first | (with_reducible assumption) | assumption)
                            have q198 : x4_3 < (l0_1.length : Int) := of_decide_eq_true (by first | (with_reducible assumption) | assumption)
                            obtain ⟨ad198, A198_5, c198_5, A198_6, c198_6, e198, hx198_0, hx198_1, hx198_2, hx198_3, hx198_4, hx198_5, hx198_6, hl198_5, hi198_5, hl198_6, hi198_6⟩ := at_T102 HR0_1.out x4_3 p198 q198
                            cases e198
                            replace hx198_0 := (HB.out.cell (World.block_lt_of_cell? w _ hx198_0)).trans hx198_0
                            replace hx198_1 := (HB.out.cell (World.block_lt_of_cell? w _ hx198_1)).trans hx198_1
                            replace hx198_2 := (HB.out.cell (World.block_lt_of_cell? w _ hx198_2)).trans hx198_2
                            replace hx198_3 := (HB.out.cell (World.block_lt_of_cell? w _ hx198_3)).trans hx198_3
                            replace hx198_4 := (HB.out.cell (World.block_lt_of_cell? w _ hx198_4)).trans hx198_4
                            replace hx198_5 := (HB.out.cell (World.block_lt_of_cell? w _ hx198_5)).trans hx198_5
                            replace hx198_6 := (HB.out.cell (World.block_lt_of_cell? w _ hx198_6)).trans hx198_6
                            have HR198_5 := Aside0.mk hi198_5
                            have HC198_5 := Aside0.mk hl198_5
                            clear hi198_5 hl198_5
                            have HR198_6 := Aside0.mk hi198_6
                            have HC198_6 := Aside0.mk hl198_6
                            clear hi198_6 hl198_6
                            replace p198 := eq_true p198
                            replace q198 := eq_true q198
                            have p199 : 0 ≤ (x4_3 : Int) := of_decide_eq_true (by first | (with_reducible assumption) | assumption)
                            have q199 : x4_3 < (l0_1.length : Int) := of_decide_eq_true (by first | (with_reducible assumption) | assumption)
                            obtain ⟨ad199, A199_5, c199_5, A199_6, c199_6, e199, hx199_0, hx199_1, hx199_2, hx199_3, hx199_4, hx199_5, hx199_6, hl199_5, hi199_5, hl199_6, hi199_6⟩ := at_T102 HR0_1.out x4_3 p199 q199
                            obtain rfl : ad198 = ad199 := (by injection e199)
                            replace hx199_0 := (HB.out.cell (World.block_lt_of_cell? w _ hx199_0)).trans hx199_0
                            replace hx199_1 := (HB.out.cell (World.block_lt_of_cell? w _ hx199_1)).trans hx199_1
                            replace hx199_2 := (HB.out.cell (World.block_lt_of_cell? w _ hx199_2)).trans hx199_2
                            replace hx199_3 := (HB.out.cell (World.block_lt_of_cell? w _ hx199_3)).trans hx199_3
                            replace hx199_4 := (HB.out.cell (World.block_lt_of_cell? w _ hx199_4)).trans hx199_4
                            replace hx199_5 := (HB.out.cell (World.block_lt_of_cell? w _ hx199_5)).trans hx199_5
                            replace hx199_6 := (HB.out.cell (World.block_lt_of_cell? w _ hx199_6)).trans hx199_6
                            have HR199_5 := Aside0.mk hi199_5
                            have HC199_5 := Aside0.mk hl199_5
                            clear hi199_5 hl199_5
                            have HR199_6 := Aside0.mk hi199_6
                            have HC199_6 := Aside0.mk hl199_6
                            clear hi199_6 hl199_6
                            replace p199 := eq_true p199
                            replace q199 := eq_true q199
                            have ea_ := Option.some.inj (hx198_5.symm.trans hx199_5)
                            injection ea_ with ea_ en_ ec_
                            subst ea_
                            subst ec_
                            clear en_
                            have ea_ := Option.some.inj (hx198_6.symm.trans hx199_6)
                            injection ea_ with ea_ en_ ec_
                            subst ea_
                            subst ec_
                            clear en_
                            have p200 : 0 ≤ (x4_3 : Int) := of_decide_eq_true (by first | (with_reducible assumption) | assumption)
                            have q200 : x4_3 < (l0_1.length : Int) := of_decide_eq_true (by first | (with_reducible assumption) | assumption)
                            obtain ⟨ad200, A200_5, c200_5, A200_6, c200_6, e200, hx200_0, hx200_1, hx200_2, hx200_3, hx200_4, hx200_5, hx200_6, hl200_5, hi200_5, hl200_6, hi200_6⟩ := at_T102 HR0_1.out x4_3 p200 q200
                            obtain rfl : ad198 = ad200 := (by injection e200)
                            replace hx200_0 := (HB.out.cell (World.block_lt_of_cell? w _ hx200_0)).trans hx200_0
                            replace hx200_1 := (HB.out.cell (World.block_lt_of_cell? w _ hx200_1)).trans hx200_1
                            replace hx200_2 := (HB.out.cell (World.block_lt_of_cell? w _ hx200_2)).trans hx200_2
                            replace hx200_3 := (HB.out.cell (World.block_lt_of_cell? w _ hx200_3)).trans hx200_3
                            replace hx200_4 := (HB.out.cell (World.block_lt_of_cell? w _ hx200_4)).trans hx200_4
                            replace hx200_5 := (HB.out.cell (World.block_lt_of_cell? w _ hx200_5)).trans hx200_5
                            replace hx200_6 := (HB.out.cell (World.block_lt_of_cell? w _ hx200_6)).trans hx200_6
                            have HR200_5 := Aside0.mk hi200_5
                            have HC200_5 := Aside0.mk hl200_5
                            clear hi200_5 hl200_5
                            have HR200_6 := Aside0.mk hi200_6
                            have HC200_6 := Aside0.mk hl200_6
                            clear hi200_6 hl200_6
                            replace p200 := eq_true p200
                            replace q200 := eq_true q200
                            have ea_ := Option.some.inj (hx198_5.symm.trans hx200_5)
                            injection ea_ with ea_ en_ ec_
                            subst ea_
                            subst ec_
                            clear en_
                            have ea_ := Option.some.inj (hx198_6.symm.trans hx200_6)
                            injection ea_ with ea_ en_ ec_
                            subst ea_
                            subst ec_
                            clear en_
                            go_wp2
                            go_ret
                            exact ⟨by first | rfl | (simp [errW_none, errW_some] <;> rfl) | (simp [*, errW_none, errW_some] <;> rfl), by repeat (first | (with_reducible first | exact HB.out | apply below_alloc | apply pw_below_drewN | apply below_drew1 | refine below_set ?_ GE194.out) | exact HB.out)⟩
                          · rw [if_neg c26] at H
                            have c26b0 : decide (100 < (((rd_T102 l0_1 x4_3).f0).size : Int)) = false := decide_eq_false c26
                            have c26b1 : decide (100 < ((rd_T102 l0_1 x4_3).f0).size) = false := decide_eq_false (by omega)
                            clear c26
                            have H' := Aside0.mk H
                            clear H
                            have hcz28_0 : wr.cell? ⟨gb194, 0, none⟩ = some (.slice A0_0 l0_0.length c0_0) := (blk_cell BK194.out 0).trans rfl
                            have hcz28_1 : wr.cell? ⟨gb194, 1, none⟩ = some (.slice A0_1 l0_1.length c0_1) := (blk_cell BK194.out 1).trans rfl
                            have hcz28_2 : wr.cell? ⟨gb194, 2, none⟩ = some (.slice A0_2 l0_2.length c0_2) := (blk_cell BK194.out 2).trans rfl
                            have hfz28_0 := blk_frozen BK194.out 0
                            have hfz28_1 := blk_frozen BK194.out 1
                            have hfz28_2 := blk_frozen BK194.out 2
                            have p198 : 0 ≤ (x4_3 : Int) := of_decide_eq_true (by first | (with_reducible assumption) | assumption)
                            have q198 : x4_3 < (l0_1.length : Int) := of_decide_eq_true (by first | (with_reducible assumption) | assumption)
                            obtain ⟨ad198, A198_5, c198_5, A198_6, c198_6, e198, hx198_0, hx198_1, hx198_2, hx198_3, hx198_4, hx198_5, hx198_6, hl198_5, hi198_5, hl198_6, hi198_6⟩ := at_T102 HR0_1.out x4_3 p198 q198
                            cases e198
                            replace hx198_0 := (HB.out.cell (World.block_lt_of_cell? w _ hx198_0)).trans hx198_0
                            replace hx198_1 := (HB.out.cell (World.block_lt_of_cell? w _ hx198_1)).trans hx198_1
                            replace hx198_2 := (HB.out.cell (World.block_lt_of_cell? w _ hx198_2)).trans hx198_2
                            replace hx198_3 := (HB.out.cell (World.block_lt_of_cell? w _ hx198_3)).trans hx198_3
                            replace hx198_4 := (HB.out.cell (World.block_lt_of_cell? w _ hx198_4)).trans hx198_4
                            replace hx198_5 := (HB.out.cell (World.block_lt_of_cell? w _ hx198_5)).trans hx198_5
                            replace hx198_6 := (HB.out.cell (World.block_lt_of_cell? w _ hx198_6)).trans hx198_6
                            have HR198_5 := Aside0.mk hi198_5
                            have HC198_5 := Aside0.mk hl198_5
                            clear hi198_5 hl198_5
                            have HR198_6 := Aside0.mk hi198_6
                            have HC198_6 := Aside0.mk hl198_6
                            clear hi198_6 hl198_6
                            replace p198 := eq_true p198
                            replace q198 := eq_true q198
                            have p199 : 0 ≤ (x4_3 : Int) := of_decide_eq_true (by first | (with_reducible assumption) | assumption)
                            have q199 : x4_3 < (l0_1.length : Int) := of_decide_eq_true (by first | (with_reducible assumption) | assumption)
                            obtain ⟨ad199, A199_5, c199_5, A199_6, c199_6, e199, hx199_0, hx199_1, hx199_2, hx199_3, hx199_4, hx199_5, hx199_6, hl199_5, hi199_5, hl199_6, hi199_6⟩ := at_T102 HR0_1.out x4_3 p199 q199
                            obtain rfl : ad198 = ad199 := (by injection e199)
                            replace hx199_0 := (HB.out.cell (World.block_lt_of_cell? w _ hx199_0)).trans hx199_0
                            replace hx199_1 := (HB.out.cell (World.block_lt_of_cell? w _ hx199_1)).trans hx199_1
                            replace hx199_2 := (HB.out.cell (World.block_lt_of_cell? w _ hx199_2)).trans hx199_2
                            replace hx199_3 := (HB.out.cell (World.block_lt_of_cell? w _ hx199_3)).trans hx199_3
                            replace hx199_4 := (HB.out.cell (World.block_lt_of_cell? w _ hx199_4)).trans hx199_4
                            replace hx199_5 := (HB.out.cell (World.block_lt_of_cell? w _ hx199_5)).trans hx199_5
                            replace hx199_6 := (HB.out.cell (World.block_lt_of_cell? w _ hx199_6)).trans hx199_6
                            have HR199_5 := Aside0.mk hi199_5
                            have HC199_5 := Aside0.mk hl199_5
                            clear hi199_5 hl199_5
                            have HR199_6 := Aside0.mk hi199_6
                            have HC199_6 := Aside0.mk hl199_6
                            clear hi199_6 hl199_6
                            replace p199 := eq_true p199
                            replace q199 := eq_true q199
                            have ea_ := Option.some.inj (hx198_5.symm.trans hx199_5)
                            injection ea_ with ea_ en_ ec_
                            subst ea_
                            subst ec_
                            clear en_
                            have ea_ := Option.some.inj (hx198_6.symm.trans hx199_6)
                            injection ea_ with ea_ en_ ec_
                            subst ea_
                            subst ec_
                            clear en_
                            have p200 : 0 ≤ (x4_3 : Int) := of_decide_eq_true (by first | (with_reducible assumption) | assumption)
                            have q200 : x4_3 < (l0_1.length : Int) := of_decide_eq_true (by first | (with_reducible assumption) | assumption)
                            obtain ⟨ad200, A200_5, c200_5, A200_6, c200_6, e200, hx200_0, hx200_1, hx200_2, hx200_3, hx200_4, hx200_5, hx200_6, hl200_5, hi200_5, hl200_6, hi200_6⟩ := at_T102 HR0_1.out x4_3 p200 q200
                            obtain rfl : ad198 = ad200 := (by injection e200)
                            replace hx200_0 := (HB.out.cell (World.block_lt_of_cell? w _ hx200_0)).trans hx200_0
                            replace hx200_1 := (HB.out.cell (World.block_lt_of_cell? w _ hx200_1)).trans hx200_1
                            replace hx200_2 := (HB.out.cell (World.block_lt_of_cell? w _ hx200_2)).trans hx200_2
                            replace hx200_3 := (HB.out.cell (World.block_lt_of_cell? w _ hx200_3)).trans hx200_3
                            replace hx200_4 := (HB.out.cell (World.block_lt_of_cell? w _ hx200_4)).trans hx200_4
                            replace hx200_5 := (HB.out.cell (World.block_lt_of_cell? w _ hx200_5)).trans hx200_5
                            replace hx200_6 := (HB.out.cell (World.block_lt_of_cell? w _ hx200_6)).trans hx200_6
                            have HR200_5 := Aside0.mk hi200_5
                            have HC200_5 := Aside0.mk hl200_5
                            clear hi200_5 hl200_5
                            have HR200_6 := Aside0.mk hi200_6
                            have HC200_6 := Aside0.mk hl200_6
                            clear hi200_6 hl200_6
                            replace p200 := eq_true p200
                            replace q200 := eq_true q200
                            have ea_ := Option.some.inj (hx198_5.symm.trans hx200_5)
                            injection ea_ with ea_ en_ ec_
                            subst ea_
                            subst ec_
                            clear en_
                            have ea_ := Option.some.inj (hx198_6.symm.trans hx200_6)
                            injection ea_ with ea_ en_ ec_
                            subst ea_
                            subst ec_
                            clear en_
                            go_wp2
                            go_roundg k3
                            case measure => have := HJ1.out; have := HK2.out; have := HK3.out; omega
                            case rel => exact ⟨(wrap64 (x4_3 + 1)), (by first | rfl | (simp; done) | (simp [*]; done)), H', ⟨by have := HJ1.out; have := HK2.out; have := HK3.out; omega⟩, ⟨by (with_reducible repeat (first | refine blk_drewN ?_ _ | refine blk_drew ?_ | refine blk_alloc ?_ _)); exact BK194.out⟩, ⟨by repeat (first | (with_reducible first | exact HB.out | apply below_alloc | apply pw_below_drewN | apply below_drew1 | refine below_set ?_ GE194.out) | exact HB.out)⟩⟩
                    · rw [if_neg c21] at H
                      exact absurd H (by simp)
                  · rw [if_neg c20] at H
                    have c20b0 : decide (x4_3 < (l0_1.length : Int)) = false := decide_eq_false c20
                    clear c20
                    obtain rfl := Option.some.inj H
                    have hcz29_0 : wr.cell? ⟨gb194, 0, none⟩ = some (.slice A0_0 l0_0.length c0_0) := (blk_cell BK194.out 0).trans rfl
                    have hcz29_1 : wr.cell? ⟨gb194, 1, none⟩ = some (.slice A0_1 l0_1.length c0_1) := (blk_cell BK194.out 1).trans rfl
                    have hcz29_2 : wr.cell? ⟨gb194, 2, none⟩ = some (.slice A0_2 l0_2.length c0_2) := (blk_cell BK194.out 2).trans rfl
                    have hfz29_0 := blk_frozen BK194.out 0
                    have hfz29_1 := blk_frozen BK194.out 1
                    have hfz29_2 := blk_frozen BK194.out 2
                    go_wp2
                    go_ret
                    exact ⟨by first | rfl | (simp [errW_none, errW_some] <;> rfl) | (simp [*, errW_none, errW_some] <;> rfl), by repeat (first | (with_reducible first | exact HB.out | apply below_alloc | apply pw_below_drewN | apply below_drew1 | refine below_set ?_ GE194.out) | exact HB.out)⟩
end Go.Proofs.Ytmcfihpbiilbcaa.E
end
