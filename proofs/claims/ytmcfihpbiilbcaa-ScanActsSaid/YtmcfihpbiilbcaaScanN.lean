/- ScanTries' walk. -/
import Derived.Test.YtmcfihpbiilbcaaScanL
namespace Go.Proofs.Ytmcfihpbiilbcaa.H
open Go.RowKit Go.Proofs.YtmcfihpbiilbcaaW.PrintWords Go.Proofs.YtmcfihpbiilbcaaW.PrintLast Go.Proofs.YtmcfihpbiilbcaaW.PrintMore Go.Proofs.Ytmcfihpbiilbcaa.F
set_option linter.unusedVariables false
set_option linter.unusedSimpArgs false
theorem tries_big (A : Option Addr) (c : Nat) (l : List Int) (n : Int) (ok : Bool) (w : World) (h3 : 300 < (l.length : Int)) :
    Calls Try.prog 3 #[.slice A l.length c, .int .u16 n, .bool ok] w fun e w' => e = .returned (.bool true) ∧ Below w.heap.size w w' := by
  go_enter Try.func3, Try.ntmps3
  go_wp2_with fail
  refine (awake_c _).mono ?_
  rintro e w1 ⟨rfl, hw1⟩
  have H := hid (below_step (below_alloc (below_alloc (Below.refl w.heap.size w) _) _) hw1)
  clear hw1
  go_wp2_with fail
  refine (awake_c _).mono ?_
  rintro e w2 ⟨rfl, hw2⟩
  have H2 := hid (below_step H.out hw2)
  clear hw2
  go_wp2
  go_ret
  exact ⟨rfl, H2.out⟩
theorem tries_small (A : Option Addr) (c : Nat) (l : List Int) (n : Int) (ok : Bool) (w : World) (hC : CB w A l) (hc : l.length ≤ c) (n0 : 0 ≤ n) (n1 : n ≤ 65535) (h3 : (l.length : Int) ≤ 300) :
    Calls Try.prog 3 #[.slice A l.length c, .int .u16 n, .bool ok] w fun e w' => e = .returned (.bool true) ∧ Below w.heap.size w w' := by
  have hmf : ∀ (fn : Fn) (first cap : Array Value) (w : World), (Instr.makeFunc fn first cap).run Try.prog w = .ok (.func fn first cap) w := fun _ _ _ _ => rfl
  have HC := hid hC
  clear hC
  go_enter Try.func3, Try.ntmps3
  go_wp2_with fail
  refine (awake_c _).mono ?_
  rintro e w1 ⟨rfl, hw1⟩
  have hb1 := below_step (below_alloc (below_alloc (Below.refl w.heap.size w) _) _) hw1
  have b0 : w1.heap[w.heap.size]? = some (.cells #[.int .u16 n] 23 (0, 0)) := (hw1.block _ (by simp; omega)).trans ((Below.heap_alloc _ _ _ (by simp)).trans (heap_alloc_new _ _))
  have b1 : w1.heap[w.heap.size + 1]? = some (.cells #[.bool ok] 4 (0, 0)) := (hw1.block _ (by simp)).trans (by simpa using heap_alloc_new (w.alloc _) _)
  have hl : l.length ≤ 140737488351232 := by omega
  have hz1 := hb1.size
  have H := hid (And.intro hb1 (And.intro b0 b1))
  have HC1 := hid (Kd.C_below HC.out hb1)
  have l0 : w.heap.size < w1.heap.size := (Array.getElem?_eq_some_iff.1 b0).1
  have l1 : w.heap.size + 1 < w1.heap.size := (Array.getElem?_eq_some_iff.1 b1).1
  clear hw1 hb1 b0 b1 HC
  go_wp2_with fail
  refine (try_c 26 enter_26 #[] A c l _ HC1.out hc hl (fun w2 x => x = noneS l ∧ Below w1.heap.size w1 w2) (fun w2 B hF => read26 _ w2 B l hF)).mono ?_
  rintro e w3 ⟨x, w2, rfl, ⟨rfl, hB2⟩, ha⟩
  have hb3 : Below w1.heap.size w1 w3 := Aft.below hB2 ha (Nat.le_refl _) hB2.size
  have hb3' : Below w.heap.size w w3 := H.out.1.trans (hb3.mono (by omega))
  have b0 := (hb3.block _ l0).trans H.out.2.1
  have b1 := (hb3.block _ l1).trans H.out.2.2
  have HC3 := hid (Kd.C_below HC1.out hb3)
  have l0' : w.heap.size < w3.heap.size := (Array.getElem?_eq_some_iff.1 b0).1
  have l1' : w.heap.size + 1 < w3.heap.size := (Array.getElem?_eq_some_iff.1 b1).1
  have H3 := hid (And.intro hb3' (And.intro b0 b1))
  clear H hb3 hb3' b0 b1 HC1 ha hB2 l0 l1 hz1
  go_wp2_with fail
  refine (try_c 27 enter_27 #[.pointer (some ⟨w.heap.size + 1, 0, none⟩), .pointer (some ⟨w.heap.size, 0, none⟩)] A c l _ HC3.out hc hl (fun w2 x => x = triesS l n ok ∧ Below w3.heap.size w3 w2)
    (fun w2 B hF => read27 _ w2 B _ _ l n ok hF hl n0 n1 H3.out.2.2 H3.out.2.1)).mono ?_
  rintro e w5 ⟨x, w4, rfl, ⟨rfl, hB4⟩, ha⟩
  have hb5 : Below w3.heap.size w3 w5 := Aft.below hB4 ha (Nat.le_refl _) hB4.size
  have hb5' : Below w.heap.size w w5 := H3.out.1.trans (hb5.mono (by omega))
  have b0 := (hb5.block _ l0').trans H3.out.2.1
  have b1 := (hb5.block _ l1').trans H3.out.2.2
  have c0 : w5.cell? ⟨w.heap.size, 0, none⟩ = some (.int .u16 n) := by simp [World.cell?, b0]
  have c1 : w5.cell? ⟨w.heap.size + 1, 0, none⟩ = some (.bool ok) := by simp [World.cell?, b1]
  have e0 : IntKind.i64.wrap n = n := IntWalk.i64_in _ (by omega)
  have HB := hid hb5'
  clear H3 hb5 hb5' b0 b1 HC3 ha hB4 l0' l1'
  have hN : noneS l = 0 ∧ l.length = 0 ∨ noneS l = 2 ∧ ¬ l.length = 0 := by unfold noneS; by_cases h : l.length = 0 <;> simp [h]
  have hT : triesS l n ok = if ok = false then 4 else if (l.length : Int) < n then 2 else 0 := rfl
  rcases hN with ⟨hN, h0⟩ | ⟨hN, h0⟩
  all_goals rw [hN]
  · obtain rfl : l = [] := List.eq_nil_of_length_eq_zero h0
    cases ok
    · rw [show triesS [] n false = 4 from rfl]
      clear hN h0 hT
      go_wp2
      go_ret
      exact ⟨rfl, HB.out⟩
    · by_cases hn : (0 : Int) < n
      · rw [show triesS [] n true = 2 by rw [hT, if_neg (by decide), if_pos (by simpa using hn)]]
        clear hN h0 hT
        go_wp2
        go_ret
        exact ⟨rfl, HB.out⟩
      · rw [show triesS [] n true = 0 by rw [hT, if_neg (by decide), if_neg (by simpa using hn)]]
        clear hN h0 hT
        obtain rfl : n = 0 := by omega
        go_wp2
        go_ret
        exact ⟨rfl, HB.out⟩
  · have h1 : ((l.length : Int) == 0) = false := beq_eq_false_iff_ne.2 (by omega)
    have h2 : ¬ (l = []) := fun e => h0 (by rw [e]; rfl)
    cases ok
    · rw [show triesS l n false = 4 from rfl]
      clear hN h0 hT
      go_wp2
      go_ret
      exact ⟨rfl, HB.out⟩
    · by_cases hn : (l.length : Int) < n
      · rw [show triesS l n true = 2 by rw [hT, if_neg (by decide), if_pos hn]]
        clear hN h0 hT
        go_wp2
        go_ret
        exact ⟨rfl, HB.out⟩
      · rw [show triesS l n true = 0 by rw [hT, if_neg (by decide), if_neg hn]]
        clear hN h0 hT
        go_wp2
        go_ret
        exact ⟨rfl, HB.out⟩
theorem tries_c (A : Option Addr) (c : Nat) (l : List Int) (n : Int) (ok : Bool) (w : World) (hC : CB w A l) (hc : l.length ≤ c) (n0 : 0 ≤ n) (n1 : n ≤ 65535) :
    Calls Try.prog 3 #[.slice A l.length c, .int .u16 n, .bool ok] w fun e w' => e = .returned (.bool true) ∧ Below w.heap.size w w' := by
  by_cases h : 300 < (l.length : Int)
  · exact tries_big A c l n ok w h
  · exact tries_small A c l n ok w hC hc n0 n1 (by omega)
end Go.Proofs.Ytmcfihpbiilbcaa.H
