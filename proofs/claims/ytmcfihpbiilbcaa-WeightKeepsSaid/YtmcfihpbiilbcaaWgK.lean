/- The law's may and put of layer 24. -/
import Derived.Test.YtmcfihpbiilbcaaWgH
namespace Go.Proofs.Ytmcfihpbiilbcaa.H
open Go.RowKit Go.Proofs.YtmcfihpbiilbcaaW.PrintWords Go.Proofs.YtmcfihpbiilbcaaW.PrintLast Go.Proofs.YtmcfihpbiilbcaaW.PrintMore Go.Proofs.Ytmcfihpbiilbcaa.E
set_option linter.unusedVariables false
set_option linter.unusedSimpArgs false
theorem may_long {s : ByteArray} (h : ¬ (s.size : Int) ≤ 40) : namedB s = false := by
  cases hn : namedB s with
  | false => rfl
  | true => have := (nmS_len hn).2; omega
set_option maxRecDepth 100000 in
set_option maxHeartbeats 1000000 in
theorem may24_c (nm : ByteArray) (fr tq : Int) (b : Nat) (r : Bool) (hr : (namedB nm && inB fr && inB tq) = r) (w : World) :
    Calls Try.prog 59 #[.agg #[.string nm, .int .i64 fr, .int .i64 tq, .float .f64 b]] w fun e w' => e = .returned (.bool r) ∧ Below w.heap.size w w' := by
  have HR := hid hr
  clear hr
  by_cases h0 : (nm.size : Int) ≤ 40
  · go_enter Try.func59, Try.ntmps59
    go_wp2_with fail
    have hk := named_c nm (w.alloc (.cells #[.string nm, .int .i64 fr, .int .i64 tq, .float .f64 b] 73)) (by omega)
    cases hn : namedB nm with
    | false =>
      have e : r = false := by rw [← HR.out, hn]; rfl
      rw [hn] at hk
      clear hn HR
      subst e
      refine hk.mono ?_
      clear hk
      rintro e w1 ⟨rfl, hb⟩
      have HB := hid (below_step (below_alloc (Below.refl _ _) (.cells #[.string nm, .int .i64 fr, .int .i64 tq, .float .f64 b] 73)) hb)
      clear hb
      go_wp2
      go_ret
      exact ⟨rfl, HB.out⟩
    | true =>
      have HN := hid hn
      rw [hn] at hk
      clear hn
      refine hk.mono ?_
      clear hk
      rintro e w1 ⟨rfl, hb⟩
      have b1 := blk_below (blk_new w (.cells #[.string nm, .int .i64 fr, .int .i64 tq, .float .f64 b] 73)) hb
      have c1 : w1.cell? ⟨w.heap.size, 1, none⟩ = some (.int .i64 fr) := blk_cell b1 1
      have c2 : w1.cell? ⟨w.heap.size, 2, none⟩ = some (.int .i64 tq) := blk_cell b1 2
      have HB := hid (below_step (below_alloc (Below.refl _ _) (.cells #[.string nm, .int .i64 fr, .int .i64 tq, .float .f64 b] 73)) hb)
      clear hb b1
      by_cases g1 : 0 ≤ fr
      · by_cases g2 : fr ≤ 65535
        · by_cases g3 : 0 ≤ tq
          · by_cases g4 : tq ≤ 65535
            · have e : r = true := by rw [← HR.out, HN.out]; unfold inB; rw [decide_eq_true ⟨g1, g2⟩, decide_eq_true ⟨g3, g4⟩]; rfl
              clear HR HN
              subst e
              go_wp2
              go_ret
              exact ⟨rfl, HB.out⟩
            · have e : r = false := by rw [← HR.out, HN.out]; unfold inB; rw [decide_eq_true ⟨g1, g2⟩, decide_eq_false (fun h => g4 h.2)]; rfl
              clear HR HN
              subst e
              go_wp2
              go_ret
              refine ⟨?_, HB.out⟩
              show Ending.returned (.bool (decide (tq ≤ 65535))) = _
              rw [decide_eq_false (by omega)]
          · have e : r = false := by rw [← HR.out, HN.out]; unfold inB; rw [decide_eq_true ⟨g1, g2⟩, decide_eq_false (fun h => g3 h.1)]; rfl
            clear HR HN
            subst e
            go_wp2
            go_ret
            exact ⟨rfl, HB.out⟩
        · have e : r = false := by rw [← HR.out, HN.out]; unfold inB; rw [decide_eq_false (fun h => g2 h.2)]; rfl
          clear HR HN
          subst e
          go_wp2
          go_ret
          exact ⟨rfl, HB.out⟩
      · have e : r = false := by rw [← HR.out, HN.out]; unfold inB; rw [decide_eq_false (fun h => g1 h.1)]; rfl
        clear HR HN
        subst e
        go_wp2
        go_ret
        exact ⟨rfl, HB.out⟩
  · have e : r = false := by rw [← HR.out, may_long h0]; rfl
    clear HR
    subst e
    go_enter Try.func59, Try.ntmps59
    go_wp2
    go_ret
    exact ⟨rfl, below_alloc (Below.refl _ _) _⟩
end Go.Proofs.Ytmcfihpbiilbcaa.H
