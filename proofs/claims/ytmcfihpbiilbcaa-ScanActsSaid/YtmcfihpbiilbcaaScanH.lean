/- The bytes of a float. -/
import Derived.Test.YtmcfihpbiilbcaaScanG
import Derived.Deep.RegionLawGrows
import Derived.Laws.Externs
import Derived.ArgAppend
namespace Go.Proofs.Ytmcfihpbiilbcaa.H
open Go.RowKit Go.Proofs.YtmcfihpbiilbcaaW.PrintWords Go.Proofs.YtmcfihpbiilbcaaW.PrintLast Go.Proofs.YtmcfihpbiilbcaaW.PrintMore Go.Proofs.Ytmcfihpbiilbcaa.F
set_option linter.unusedVariables false
set_option linter.unusedSimpArgs false
theorem bits_run (b : Nat) (w : World) : (callFunc 48 #[.float .f64 b]).run Try.prog w = .ok (.value (.int .u64 b)) w := by
  rw [run_callFunc_extern (e := Extern.MathFloatBits.float64bits) Try.func48 (by kernel_rfl) (by kernel_rfl) (by kernel_rfl) (by kernel_rfl)]
  rfl
theorem frombits_run (n : Int) (w : World) : (callFunc 45 #[.int .u64 n]).run Try.prog w = .ok (.value (.float .f64 n.toNat)) w := by
  rw [run_callFunc_extern (e := Extern.MathFloatBits.float64frombits) Try.func45 (by kernel_rfl) (by kernel_rfl) (by kernel_rfl) (by kernel_rfl)]
  rfl
def fourS (x : Int) : List Int := [x % 256, x / 256 % 256, x / 65536 % 256, x / 16777216]
set_option maxRecDepth 100000 in
theorem putfloat_c (b : Nat) (hb : b < 18446744073709551616) (w : World) : Calls Try.prog 46 #[.float .f64 b] w fun e w' => ∃ v, e = .returned v ∧ RB w' w.heap.size v (fourS ((b : Int) % 4294967296) ++ fourS ((b : Int) / 4294967296)) ∧ Below w.heap.size w w' := by
  have hbr := bits_run b
  have e1 : (IntKind.u64.wrap (b : Int)) = b := by rw [IntKind.wrap_u64]; omega
  obtain ⟨lo, hlo⟩ : ∃ x : Int, (b : Int) % 4294967296 = x := ⟨_, rfl⟩
  obtain ⟨hi, hhi⟩ : ∃ x : Int, (b : Int) / 4294967296 = x := ⟨_, rfl⟩
  have e2 : hi % 4294967296 = hi := by omega
  have l0 : 0 ≤ lo := by omega
  have l1 : lo ≤ 4294967295 := by omega
  have h0 : 0 ≤ hi := by omega
  have h1 : hi ≤ 4294967295 := by omega
  rw [hlo, hhi]
  go_enter Try.func46, Try.ntmps46
  go_wp2_with fail
  refine (put_c lo l0 l1 _).mono ?_
  rintro e w1 ⟨rfl, hw1⟩
  go_wp2_with fail
  refine (put_c hi h0 h1 _).mono ?_
  rintro e w2 ⟨rfl, hw2⟩
  have HW := hid (below_step hw1 hw2)
  clear hw1 hw2
  go_wp2_with fail
  generalize hWW : ((w2.alloc (Obj.cells #[Value.int .u8 (lo % 256), .int .u8 (lo / 256 % 256), .int .u8 (lo / 65536 % 256), .int .u8 (lo / 16777216)] 110)).alloc (Obj.cells #[Value.int .u8 (hi % 256), .int .u8 (hi / 256 % 256), .int .u8 (hi / 65536 % 256), .int .u8 (hi / 16777216)] 110)) = W
  have b0 : W.heap[w2.heap.size]? = some (.cells #[Value.int .u8 (lo % 256), .int .u8 (lo / 256 % 256), .int .u8 (lo / 65536 % 256), .int .u8 (lo / 16777216)] 110 (0, 0)) := by rw [← hWW]; exact (Below.heap_alloc _ _ _ (by simp)).trans (heap_alloc_new _ _)
  have b1 : W.heap[w2.heap.size + 1]? = some (.cells #[Value.int .u8 (hi % 256), .int .u8 (hi / 256 % 256), .int .u8 (hi / 65536 % 256), .int .u8 (hi / 16777216)] 110 (0, 0)) := by rw [← hWW]; simpa using heap_alloc_new (w2.alloc _) _
  have hB : Hid (Below w.heap.size w W) := by rw [← hWW]; exact hid (below_alloc (below_alloc HW.out _) _)
  clear hWW
  have B0 := hid b0
  have B1 := hid b1
  clear b0 b1
  go_still_tail 2, (by kernel_rfl)
  change wpList _ _ _ _ _ W.drew
  have B2 : Hid (W.drew.heap[w2.heap.size]? = some (.cells #[Value.int .u8 (lo % 256), .int .u8 (lo / 256 % 256), .int .u8 (lo / 65536 % 256), .int .u8 (lo / 16777216)] 110 (0, 0))) := B0
  have B3 : Hid (W.drew.heap[w2.heap.size + 1]? = some (.cells #[Value.int .u8 (hi % 256), .int .u8 (hi / 256 % 256), .int .u8 (hi / 65536 % 256), .int .u8 (hi / 16777216)] 110 (0, 0))) := B1
  have HB3 : Hid (Below w.heap.size w W.drew) := hid hB.out.drew
  generalize W.drew = W2 at *
  obtain ⟨i5, hi5, hz5, hs5, hb5⟩ := info_parts info5
  go_wp2_with (at_builtin; refine wpList_append_grows W2 rfl (.tmp 15) (.tmp 16) 22 rfl 5 i5 (.int .u8 0) 1 1 Try.underlying22 hi5 hz5 hs5 hb5 rfl (by decide) (some ⟨w2.heap.size, 0, none⟩) 4 4 (encs (Value.int .u8) (fourS lo)) rfl (fun h => by cases h) rfl (fun b hb j u hj => by injection hb with hb; subst hb; rw [add_plain]; simp only [World.cell?, B2.out]; simpa [encs, fourS] using hj) ⟨w2.heap.size + 1, 0, none⟩ 4 4 (encs (Value.int .u8) (fourS hi)) rfl rfl (fun j u hj => by rw [add_plain]; simp only [World.cell?, B3.out]; simpa [encs, fourS] using hj) (fun u hu => by simp [encs, fourS] at hu; rcases hu with rfl | rfl | rfl | rfl <;> rfl) (by decide) (by decide) (by decide) ?_; intro v1 w3 hown hgr)
  go_ret
  refine ⟨v1, rfl, ?_, ?_⟩
  · have ho := own_less hown HB3.out.size
    exact Kd.R_of_own (by simpa [encs, fourS] using ho) (fun _ _ => trivial)
  · exact HB3.out.grown hgr HB3.out.size (fun k h => by cases h)
end Go.Proofs.Ytmcfihpbiilbcaa.H
