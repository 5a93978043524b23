/- Try, over whatever reader. -/
import Derived.Test.YtmcfihpbiilbcaaScanT
import Derived.WalkSmall
namespace Go.Proofs.Ytmcfihpbiilbcaa.H
open Go.RowKit Go.Proofs.YtmcfihpbiilbcaaW.PrintWords Go.Proofs.YtmcfihpbiilbcaaW.PrintLast Go.Proofs.YtmcfihpbiilbcaaW.PrintMore Go.Proofs.Ytmcfihpbiilbcaa.F
set_option linter.unusedVariables false
set_option linter.unusedSimpArgs false
/-- The world that a reader meets: the scanner B is new; so is the result's cell (block w.heap.size). -/
structure Fresh (w w1 : World) (B : Nat) (l : List Int) : Prop where
  below : Below w.heap.size w w1
  lt : w.heap.size < B
  sc : Sc w1 B l 0
  cell : w1.heap[w.heap.size]? = some (.cells #[.int .i64 0] 25 (0, 0))
/-- What is behind a reader: nothing but block g has turned. -/
structure Aft (g : Nat) (w w' : World) : Prop where
  os : w'.os = w.os
  tape : w'.tape = w.tape
  output : w'.output = w.output
  size : w.heap.size ≤ w'.heap.size
  block : ∀ k, k < w.heap.size → k ≠ g → w'.heap[k]? = w.heap[k]?
def ReadPost (w : World) (l : List Int) (B : Nat) (R : World → Int → Prop) (e : Ending) (w2 : World) : Prop :=
  (∃ i : Int, e = .returned (.tuple #[]) ∧ 0 ≤ i ∧ i ≤ l.length ∧ Sc w2 B l i ∧ w2.heap[w.heap.size]? = some (.cells #[.int .i64 0] 25 (0, 0)) ∧ R w2 (if i < l.length then 2 else 0)) ∨
  (∃ x : Int, e = .panicked (fail_ x) ∧ w2.heap[w.heap.size]? = some (.cells #[.int .i64 0] 25 (0, 0)) ∧ R w2 x)
theorem cell_one {w : World} {g : Nat} {a : Value} {t : TypeId} (h : w.heap[g]? = some (.cells #[a] t (0, 0))) (u : Value) : (w.setCell ⟨g, 0, none⟩ u).cell? ⟨g, 0, none⟩ = some u := by
  have h0 : g < w.heap.size := (Array.getElem?_eq_some_iff.1 h).1
  simp [World.setCell, World.cell?, Array.getElem?_modify, h]
theorem aft_set (w w2 : World) (g n : Nat) (u : Value) (h : w2 = w.drewN n) : Aft g w (w2.setCell ⟨g, 0, none⟩ u) := by
  subst h
  exact ⟨rfl, rfl, rfl, by simp, fun k _ hk => Below.heap_setCell _ _ _ _ hk⟩
set_option maxRecDepth 100000 in
set_option maxHeartbeats 1600000 in
theorem try_c (G : FuncId) (hG : ∀ (args : Array Value) (w : World), (callFunc G args).run Try.prog w = .ok (.enter G args) w) (caps : Array Value) (A : Option Addr) (c : Nat) (l : List Int) (w : World) (hC : CB w A l) (hc : l.length ≤ c) (hl : l.length ≤ 140737488351232) (R : World → Int → Prop)
    (hread : ∀ w1 B, Fresh w w1 B l → Calls Try.prog G (#[.pointer (some ⟨B, 0, none⟩)] ++ caps) w1 (ReadPost w l B R)) :
    Calls Try.prog 25 #[.slice A l.length c, .func (.func G) #[] caps] w fun e w' => ∃ x w2, e = .returned (.int .i64 x) ∧ R w2 x ∧ Aft w.heap.size w2 w' := by
  have hmf : ∀ (fn : Fn) (first cap : Array Value) (w : World), (Instr.makeFunc fn first cap).run Try.prog w = .ok (.func fn first cap) w := fun _ _ _ _ => rfl
  have HC := hid hC
  clear hC
  have HR := hid hread
  clear hread
  go_enter_defers Try.func25, Try.ntmps25
  go_wp2_with (go_at_call 31; (with_reducible refine (new_c A c l _ (Kd.C_below HC.out (below_alloc (Below.refl _ _) _)) hc hl).mono ?_); rintro e w1 ⟨B, rfl, hB, hS, hw⟩)
  have hF : Fresh w w1 B l := ⟨(below_alloc (Below.refl _ _) _).trans (hw.mono (by simp)), by simp at hB; omega, hS, (hw.block w.heap.size (by simp)).trans (heap_alloc_new _ _)⟩
  refine (HR.out w1 B hF).mono ?_
  clear hF hw hS HC
  rintro e w2 (⟨i, rfl, i0, i1, hS2, hE, hr⟩ | ⟨x, rfl, hE, hr⟩)
  · have HS := hid hS2
    have hz : w2.frozen? ⟨w.heap.size, 0, none⟩ = false := by simp [World.frozen?, hE]
    have hce : w2.cell? ⟨w.heap.size, 0, none⟩ = some (.int .i64 0) := by simp [World.cell?, hE]
    have hlt : w.heap.size < w2.heap.size := (Array.getElem?_eq_some_iff.1 hE).1
    have HE := hid hE
    have HRR := hid hr
    clear hS2 hE hr
    by_cases hi : i < (l.length : Int)
    · rw [show (if i < (l.length : Int) then (2 : Int) else 0) = 2 by simp [hi]] at HRR
      have hd : decide (0 < (l.length : Int) - i) = true := by simp; omega
      go_wp2_with (go_at_call 30; (with_reducible refine (left_c B l i _ HS.out i0 i1 hl).mono ?_); rintro e w' ⟨rfl, ⟨nd, rfl⟩⟩)
      refine leaves_cons (f := 79) (args := #[.pointer (some ⟨w.heap.size, 0, none⟩)]) (by simp) (by simp [go_sem]) ?_
      refine (catch_idle _ _).mono ?_
      rintro e u' w'' ⟨rfl, rfl, rfl⟩
      have hc2 : ((w2.drewN nd).setCell ⟨w.heap.size, 0, none⟩ (.int .i64 2)).cell? ⟨w.heap.size, 0, none⟩ = some (.int .i64 2) := cell_one (w := w2.drewN nd) HE.out _
      simp [Leaves, settle, results, Try.results25, go_sem, hc2]
      exact ⟨w2, HRR.out, aft_set _ _ _ nd _ rfl⟩
    · rw [show (if i < (l.length : Int) then (2 : Int) else 0) = 0 by simp [hi]] at HRR
      have hd : decide (0 < (l.length : Int) - i) = false := by simp; omega
      go_wp2_with (go_at_call 30; (with_reducible refine (left_c B l i _ HS.out i0 i1 hl).mono ?_); rintro e w' ⟨rfl, ⟨nd, rfl⟩⟩)
      refine leaves_cons (f := 79) (args := #[.pointer (some ⟨w.heap.size, 0, none⟩)]) (by simp) (by simp [go_sem]) ?_
      refine (catch_idle _ _).mono ?_
      rintro e u' w'' ⟨rfl, rfl, rfl⟩
      have hc2 : ((w2.drewN nd).setCell ⟨w.heap.size, 0, none⟩ (.int .i64 0)).cell? ⟨w.heap.size, 0, none⟩ = some (.int .i64 0) := cell_one (w := w2.drewN nd) HE.out _
      simp [Leaves, settle, results, Try.results25, go_sem, hc2]
      exact ⟨w2, HRR.out, aft_set _ _ _ nd _ rfl⟩
  · have hz : w2.frozen? ⟨w.heap.size, 0, none⟩ = false := by simp [World.frozen?, hE]
    have hce : w2.cell? ⟨w.heap.size, 0, none⟩ = some (.int .i64 0) := by simp [World.cell?, hE]
    have hlt : w.heap.size < w2.heap.size := (Array.getElem?_eq_some_iff.1 hE).1
    have hE2 : (w2.alloc (.cells #[.int .i64 x] 104)).heap[w.heap.size]? = some (.cells #[.int .i64 0] 25 (0, 0)) := (Below.heap_alloc _ _ _ hlt).trans hE
    refine leaves_cons (f := 79) (args := #[.pointer (some ⟨w.heap.size, 0, none⟩)]) (by simp) (by simp [go_sem]) ?_
    refine (catch_fail ⟨w.heap.size, 0, none⟩ 0 x w2 hce hz hlt).mono ?_
    rintro e u' w'' ⟨rfl, rfl, rfl⟩
    have hc2 : ((w2.alloc (.cells #[.int .i64 x] 104)).setCell ⟨w.heap.size, 0, none⟩ (.int .i64 x)).cell? ⟨w.heap.size, 0, none⟩ = some (.int .i64 x) := cell_one hE2 _
    simp [Leaves, settle, results, Try.results25, go_sem, hc2]
    refine ⟨w2, hr, ⟨rfl, rfl, rfl, by simp, fun k hk hne => (Below.heap_setCell _ _ _ _ hne).trans (Below.heap_alloc _ _ _ hk)⟩⟩
end Go.Proofs.Ytmcfihpbiilbcaa.H
