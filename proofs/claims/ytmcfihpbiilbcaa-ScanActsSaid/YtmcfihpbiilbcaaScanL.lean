/- ScanTries: its readers and its walk. -/
import Derived.Test.YtmcfihpbiilbcaaScanK
namespace Go.Proofs.Ytmcfihpbiilbcaa.H
open Go.RowKit Go.Proofs.YtmcfihpbiilbcaaW.PrintWords Go.Proofs.YtmcfihpbiilbcaaW.PrintLast Go.Proofs.YtmcfihpbiilbcaaW.PrintMore Go.Proofs.Ytmcfihpbiilbcaa.F
set_option linter.unusedVariables false
set_option linter.unusedSimpArgs false
theorem enter_26 (args : Array Value) (w : World) : (callFunc 26 args).run Try.prog w = .ok (.enter 26 args) w := Go.MuLone.run_callFunc_enter Try.func26 (by kernel_rfl) rfl args w
theorem enter_27 (args : Array Value) (w : World) : (callFunc 27 args).run Try.prog w = .ok (.enter 27 args) w := Go.MuLone.run_callFunc_enter Try.func27 (by kernel_rfl) rfl args w
def noneS (l : List Int) : Int := if l.length = 0 then 0 else 2
theorem read26 (w w1 : World) (B : Nat) (l : List Int) (hF : Fresh w w1 B l) :
    Calls Try.prog 26 (#[.pointer (some ⟨B, 0, none⟩)] ++ #[]) w1 (ReadPost w l B (fun w2 x => x = noneS l ∧ Below w.heap.size w w2)) := by
  have HF := hid hF
  clear hF
  go_enter Try.func26, Try.ntmps26
  go_wp2
  first | go_end0 | refine bodyPost_ret (results_none rfl _ _ _) rfl ?_
  refine .inl ⟨0, rfl, by omega, by omega, HF.out.sc, HF.out.cell, ?_, HF.out.below⟩
  unfold noneS
  by_cases h : l.length = 0
  · rw [if_neg (by omega), if_pos h]
  · rw [if_pos (by omega), if_neg h]
theorem Fresh.e {w w1 : World} {B : Nat} {l : List Int} (h : Fresh w w1 B l) : w.heap.size < w1.heap.size ∧ w.heap.size ≠ B := ⟨(Array.getElem?_eq_some_iff.1 h.cell).1, by have := h.lt; omega⟩
theorem Fresh.aft {w w1 w2 : World} {B : Nat} {l : List Int} (h : Fresh w w1 B l) (k : Aft B w1 w2) : Below w.heap.size w w2 ∧ w2.heap[w.heap.size]? = some (.cells #[.int .i64 0] 25 (0, 0)) :=
  ⟨Aft.below h.below k (by have := h.lt; omega) h.below.size, (k.block _ h.e.1 h.e.2).trans h.cell⟩
def triesS (l : List Int) (n : Int) (ok : Bool) : Int := if ok = false then 4 else if (l.length : Int) < n then 2 else 0
set_option maxRecDepth 100000 in
theorem read27 (w w1 : World) (B K M : Nat) (l : List Int) (n : Int) (ok : Bool) (hF : Fresh w w1 B l) (hl : l.length ≤ 140737488351232) (n0 : 0 ≤ n) (n1 : n ≤ 65535)
    (hK : w.heap[K]? = some (.cells #[.bool ok] 4 (0, 0))) (hM : w.heap[M]? = some (.cells #[.int .u16 n] 23 (0, 0))) :
    Calls Try.prog 27 (#[.pointer (some ⟨B, 0, none⟩)] ++ #[.pointer (some ⟨K, 0, none⟩), .pointer (some ⟨M, 0, none⟩)]) w1 (ReadPost w l B (fun w2 x => x = triesS l n ok ∧ Below w.heap.size w w2)) := by
  have HF := hid hF
  have hKl : K < w.heap.size := (Array.getElem?_eq_some_iff.1 hK).1
  have hMl : M < w.heap.size := (Array.getElem?_eq_some_iff.1 hM).1
  have hK1 := (hF.below.block K hKl).trans hK
  have hM1 := (hF.below.block M hMl).trans hM
  have c0 : w1.cell? ⟨K, 0, none⟩ = some (.bool ok) := by simp [World.cell?, hK1]
  have c1 : w1.cell? ⟨M, 0, none⟩ = some (.int .u16 n) := by simp [World.cell?, hM1]
  have e0 : IntKind.i64.wrap n = n := IntWalk.i64_in _ (by omega)
  have hlt := hF.lt
  have hE := hF.e
  clear hF hK hM hK1 hM1
  cases ok
  · go_enter Try.func27, Try.ntmps27
    go_wp2_with (go_at_call 28; (with_reducible refine (must_no _ _).mono ?_); rintro e w' ⟨rfl, rfl⟩)
    exact ⟨rfl, .inr ⟨4, rfl, HF.out.cell, rfl, HF.out.below⟩⟩
  · by_cases hn : (l.length : Int) < n
    · go_enter Try.func27, Try.ntmps27
      go_wp2_with (first
        | (go_at_call 28; (with_reducible refine (must_c _ _).mono ?_); rintro e w' ⟨rfl, rfl⟩)
        | (go_at_call 29; (with_reducible refine (bytes_no B l 0 n _ HF.out.sc (by omega) (by omega) hl (by omega)).mono ?_); rintro e w' ⟨rfl, hd⟩))
      obtain ⟨h1, h2⟩ := HF.out.aft (Aft.drawn hd)
      exact ⟨rfl, .inr ⟨2, rfl, h2, by simp [triesS, hn], h1⟩⟩
    · go_enter Try.func27, Try.ntmps27
      go_wp2_with fail
      refine (must_c _ _).mono ?_
      rintro e w' ⟨rfl, rfl⟩
      go_wp2_with fail
      have q0 : (0 : Int) + n ≤ l.length := by omega
      have hk := bytes_c B l 0 n w' HF.out.sc (Int.le_refl 0) q0 n0 hl
      rw [Int.zero_add] at hk
      refine hk.mono ?_
      clear hk q0
      rintro e w2 ⟨v, rfl, hR, hw⟩
      have ha := hid (Aft.of_below hw)
      have hS := hid (HF.out.sc.after hw)
      clear hR hw
      have q1 : n ≤ (l.length : Int) := by omega
      have q2 : IntKind.i64.wrap ((l.length : Int) - n) = (l.length : Int) - n := IntWalk.i64_in _ (by omega)
      go_wp2_with fail
      refine (left_c B l n _ hS.out n0 q1 hl).mono ?_
      rintro e w3 ⟨rfl, ⟨nd, rfl⟩⟩
      have hS3 : Sc (w2.drewN nd) B l n := hS.out.keep (fun b _ => rfl)
      have ha3 : Aft B w' (w2.drewN nd) := ha.out.then_ (Aft.drawn ⟨⟨nd, rfl⟩⟩)
      have H3 := hid (And.intro hS3 ha3)
      clear hS3 ha3
      go_wp2_with fail
      refine (bytes_c B l n (l.length - n) _ H3.out.1 n0 (by omega) (by omega) hl).mono ?_
      rintro e w4 ⟨v4, rfl, hR4, hw4⟩
      have ha4 := Aft.of_below hw4
      have hS4 := Sc.after H3.out.1 hw4
      have hx := HF.out.aft (H3.out.2.then_ ha4)
      have H := hid (And.intro hS4 hx)
      clear hR4 hw4 ha4 hS4 hx
      go_wp2
      first | go_end0 | refine bodyPost_ret (results_none rfl _ _ _) rfl ?_
      obtain ⟨a, b, c⟩ := H.out
      refine .inl ⟨_, rfl, ?_, ?_, a, c, ?_, b⟩
      · omega
      · omega
      · rw [if_neg (by omega)]; simp [triesS, hn]
end Go.Proofs.Ytmcfihpbiilbcaa.H
