/- awake of layer 8's statements: its readers. -/
import Derived.Test.YtmcfihpbiilbcaaScanI
import Derived.Test.YtmcfihpbiilbcaaScanH
import Derived.Conc.MuLone
namespace Go.Proofs.Ytmcfihpbiilbcaa.H
open Go.RowKit Go.Proofs.YtmcfihpbiilbcaaW.PrintWords Go.Proofs.YtmcfihpbiilbcaaW.PrintLast Go.Proofs.YtmcfihpbiilbcaaW.PrintMore Go.Proofs.Ytmcfihpbiilbcaa.F
set_option linter.unusedVariables false
set_option linter.unusedSimpArgs false
theorem read78 (w w1 : World) (B : Nat) (hF : Fresh w w1 B [3, 97]) : Calls Try.prog 78 (#[.pointer (some ⟨B, 0, none⟩)] ++ #[]) w1 (ReadPost w [3, 97] B (fun w2 x => x = 2 ∧ Aft B w1 w2)) := by
  have e : nameLen [3, 97] 0 = 3 := by decide +kernel
  have hFE := hF.cell
  have hlt := hF.lt
  have HS := hid hF.sc
  clear hF
  go_enter Try.func78, Try.ntmps78
  go_wp2_with fail
  refine (name_cut2 B [3, 97] 0 _ HS.out (by omega) (by decide) (by rw [e]; decide) (by decide) (by intro x hx; simp at hx; omega)).mono ?_
  rintro e w2 ⟨rfl, ha⟩
  have hE : w.heap.size < w1.heap.size := (Array.getElem?_eq_some_iff.1 hFE).1
  exact ⟨rfl, .inr ⟨2, rfl, (ha.block _ hE (by omega)).trans hFE, rfl, ha⟩⟩
theorem Sc.set_ {w : World} {B : Nat} {l : List Int} {i : Int} (h : Sc w B l i) {N t : Nat} {cs : Array Value} (hN : w.heap[N]? = some (.cells cs t (0, 0))) (ht : t ≠ 5) (hne : B ≠ N) (j : Nat) (u : Value) : Sc (w.setCell ⟨N, j, none⟩ u) B l i := by
  obtain ⟨v, h1, h2⟩ := h
  exact ⟨v, (Below.heap_setCell _ _ _ _ hne).trans h1, Kd.R_set h2 hN (fun q hq => by simp [Kd.int, Kd.scalar] at hq; omega) j u⟩
theorem read77 (w w1 : World) (B N : Nat) (s : ByteArray) (hF : Fresh w w1 B [3, 97, 98, 99]) (hN : N < w.heap.size) (hn : w.heap[N]? = some (.cells #[.string s] 9 (0, 0))) :
    Calls Try.prog 77 (#[.pointer (some ⟨B, 0, none⟩)] ++ #[.pointer (some ⟨N, 0, none⟩)]) w1 (ReadPost w [3, 97, 98, 99] B (fun w2 x => x = 0 ∧ w2.heap[N]? = some (.cells #[.string ⟨#[97, 98, 99]⟩] 9 (0, 0)) ∧ ∃ w3, Aft B w1 w3 ∧ w2 = w3.setCell ⟨N, 0, none⟩ (.string ⟨#[97, 98, 99]⟩))) := by
  have e : nameLen [3, 97, 98, 99] 0 = 3 := by decide +kernel
  have e2 : nameOf [3, 97, 98, 99] 0 = ⟨#[97, 98, 99]⟩ := by decide +kernel
  have e3 : namedB ⟨#[97, 98, 99]⟩ = true := by decide +kernel
  have hFE := hF.cell
  have hlt := hF.lt
  have hb := hF.below
  have HS := hid hF.sc
  clear hF
  go_enter Try.func77, Try.ntmps77
  go_wp2_with fail
  refine (name_c B [3, 97, 98, 99] 0 _ HS.out (by omega) (by decide) (by rw [e]; decide) (by rw [e]; decide) (by decide) (by intro x hx; simp at hx; omega) (by rw [e2]; exact e3)).mono ?_
  rintro e' w2 ⟨rfl, hw⟩
  rw [e2]
  rw [e] at hw
  have ha := Aft.of_below hw
  have hS2 := HS.out.after hw
  have hE : w.heap.size < w1.heap.size := (Array.getElem?_eq_some_iff.1 hFE).1
  have hE2 := (ha.block _ hE (by omega)).trans hFE
  have hN2 : w2.heap[N]? = some (.cells #[.string s] 9 (0, 0)) := (ha.block N (by omega) (by omega)).trans ((hb.block N hN).trans hn)
  have c0 : w2.cell? ⟨N, 0, none⟩ = some (.string s) := by simp [World.cell?, hN2]
  have c1 : w2.frozen? ⟨N, 0, none⟩ = false := by simp [World.frozen?, hN2]
  have H := hid (And.intro ha (And.intro hS2 (And.intro hE2 hN2)))
  clear ha hS2 hE2 hN2 hw hb hFE
  go_wp2
  first | go_end0 | refine bodyPost_ret (results_none rfl _ _ _) rfl ?_
  obtain ⟨ha, hS2, hE2, hN2⟩ := H.out
  exact .inl ⟨4, rfl, by omega, by decide, hS2.set_ hN2 (by decide) (by omega) 0 _, (Below.heap_setCell _ _ _ _ (by simp; omega)).trans hE2, rfl, blk_put hN2 0 _ rfl, w2, ha, rfl⟩
end Go.Proofs.Ytmcfihpbiilbcaa.H
