/- weight.Read on a profile's bytes, and on bytes that don't begin as one. -/
import Derived.Test.YtmcfihpbiilbcaaWgF
namespace Go.Proofs.Ytmcfihpbiilbcaa.H
open Go.RowKit Go.Proofs.YtmcfihpbiilbcaaW.PrintWords Go.Proofs.YtmcfihpbiilbcaaW.PrintLast Go.Proofs.YtmcfihpbiilbcaaW.PrintMore Go.Proofs.Ytmcfihpbiilbcaa.E
set_option linter.unusedVariables false
set_option linter.unusedSimpArgs false
def NoPost (w : World) (n0 : Nat) (w2 : World) (x : Int) : Prop := x = 4 ∧ Below n0 w w2 ∧ w2.heap[w.heap.size]? = some (.cells #[.int .i64 0] 25 (0, 0))
set_option maxRecDepth 100000 in
theorem read97_no (w w1 : World) (B N n0 : Nat) (l : List Int) (hF : Fresh w w1 B l) (hN : w.heap[N]? = some (.cells #[.slice none 0 0] 69 (0, 0))) (hle : n0 ≤ N) (hby : Bytes l) (hl : l.length ≤ 140737488351232) (h4 : 4 ≤ l.length) (hm : ¬ mid l 0 4 = [83, 80, 80, 49]) :
    Calls Try.prog 97 (#[.pointer (some ⟨B, 0, none⟩)] ++ #[.pointer (some ⟨N, 0, none⟩)]) w1 (ReadPost w l B (NoPost w n0)) := by
  have HS := hid (St.start (t := 69) hF hN hle)
  clear hF hN
  have hmg : ((strOfNums (mid l 0 4)).toList == [83, 80, 80, 49]) = false := by rw [magicP_q l hby]; exact decide_eq_false hm
  have HMG := hid hmg
  clear hmg hm
  go_enter Try.func97, Try.ntmps97
  go_wp2_with fail
  refine (bytes_c B l 0 4 _ HS.out.sc (Int.le_refl 0) (by omega) (by omega) hl).mono ?_
  rintro e w2 ⟨v, rfl, hR, hw⟩
  rw [Int.zero_add] at hw
  obtain ⟨A2, c2, rfl, hc2, hC2⟩ := Kd.R_reads hR
  have hstr := Kd.C_string (c := c2) Try.underlying22 Try.underlying5 Try.underlying9 hC2
  have H2 := hid (HS.out.scan hw)
  clear hw hR hC2 HS
  go_wp2_with fail
  rw [HMG.out]
  refine (must_no _ _).mono ?_
  rintro e w3 ⟨rfl, rfl⟩
  have hf := H2.out.fail (Aft.drawn (Drawn0.refl _))
  exact ⟨rfl, .inr ⟨4, rfl, hf.1, rfl, hf.2, hf.1⟩⟩
set_option maxRecDepth 100000 in
theorem wread_no (A : Option Addr) (c : Nat) (l : List Int) (w : World) (hC : CB w A l) (hc : l.length ≤ c) (hby : Bytes l) (hl : l.length ≤ 140737488351232) (h4 : 4 ≤ l.length) (hm : ¬ mid l 0 4 = [83, 80, 80, 49]) :
    Calls Try.prog 61 #[.slice A l.length c] w fun e w' => e = .returned (.tuple #[.slice none 0 0, .int .i64 4]) ∧ Below w.heap.size w w' := by
  have hmf : ∀ (fn : Fn) (first cap : Array Value) (w : World), (Instr.makeFunc fn first cap).run Try.prog w = .ok (.func fn first cap) w := fun _ _ _ _ => rfl
  have HC := hid hC
  have HM := hid hm
  clear hC hm
  go_enter Try.func61, Try.ntmps61
  go_wp2_with fail
  obtain ⟨W3, hW3⟩ : ∃ W, W = w.alloc (.cells #[.slice none 0 0] 69) := ⟨_, rfl⟩
  have d0 := blk_new w (.cells #[.slice none 0 0] 69)
  have hb := below_alloc (Below.refl w.heap.size w) (.cells #[.slice none 0 0] 69)
  rw [← hW3] at d0 hb
  have hs3 : W3.heap.size = w.heap.size + 1 := by rw [hW3]; simp
  rw [← hW3]
  have H3 := hid (And.intro d0 hb)
  clear d0 hb hW3
  refine (try_c 97 enter_97 #[.pointer (some ⟨w.heap.size, 0, none⟩)] A c l W3 (Kd.C_below HC.out H3.out.2) hc hl (NoPost W3 w.heap.size) (fun w1 B hF => read97_no W3 w1 B w.heap.size w.heap.size l hF H3.out.1 (Nat.le_refl _) hby hl h4 HM.out)).mono ?_
  rintro e w4 ⟨x, w2, rfl, ⟨rfl, hB2, hE2⟩, ha⟩
  have hlt2 := blk_lt hE2
  have hB4 : Below w.heap.size w w4 := Aft.below (H3.out.2.trans hB2) ha (by omega) (by omega)
  have H4 := hid hB4
  clear hB4 ha hB2 hE2
  go_wp2
  go_ret2
  exact ⟨rfl, H4.out⟩
set_option maxRecDepth 100000 in
theorem wread_ok (A : Option Addr) (c : Nat) (b : List Int) (L : List Edge) (w : World) (hb : b = profS L) (hC : CB w A b) (hc : b.length ≤ c) (hL : ∀ e ∈ L, eB e = true ∧ e.2.2.2 < 18446744073709551616) (h2 : L.length ≤ 2000) :
    Calls Try.prog 61 #[.slice A b.length c] w fun e w' => ∃ v, e = .returned (.tuple #[v, .int .i64 0]) ∧ RE w' w.heap.size v L ∧ Below w.heap.size w w' := by
  have hmf : ∀ (fn : Fn) (first cap : Array Value) (w : World), (Instr.makeFunc fn first cap).run Try.prog w = .ok (.func fn first cap) w := fun _ _ _ _ => rfl
  have hpl := pS_len L (fun e he => (hL e he).1) L.length (Nat.le_refl _)
  have hl : b.length ≤ 140737488351232 := by rw [hb]; unfold profS; omega
  have HC := hid hC
  have HL := hid (And.intro hL hb)
  clear hC hL hb hpl
  go_enter Try.func61, Try.ntmps61
  go_wp2_with fail
  obtain ⟨W3, hW3⟩ : ∃ W, W = w.alloc (.cells #[.slice none 0 0] 69) := ⟨_, rfl⟩
  have d0 := blk_new w (.cells #[.slice none 0 0] 69)
  have hb := below_alloc (Below.refl w.heap.size w) (.cells #[.slice none 0 0] 69)
  rw [← hW3] at d0 hb
  have hs3 : W3.heap.size = w.heap.size + 1 := by rw [hW3]; simp
  rw [← hW3]
  have H3 := hid (And.intro d0 hb)
  clear d0 hb hW3
  refine (try_c 97 enter_97 #[.pointer (some ⟨w.heap.size, 0, none⟩)] A c b W3 (Kd.C_below HC.out H3.out.2) hc hl (ProfPost W3 w.heap.size w.heap.size L) (fun w1 B hF => by rw [HL.out.2] at hF ⊢; exact read97 W3 w1 B w.heap.size w.heap.size L hF H3.out.1 (Nat.le_refl _) HL.out.1 h2)).mono ?_
  rintro e w4 ⟨x, w2, rfl, ⟨rfl, hB2, hE2, v, hv, hrv⟩, ha⟩
  have hlt2 := blk_lt hE2
  have hB4 : Below w.heap.size w w4 := Aft.below (H3.out.2.trans hB2) ha (by omega) (by omega)
  have d4 : w4.heap[w.heap.size]? = some (.cells #[v] 69 (0, 0)) := (ha.block _ (blk_lt hv) (by omega)).trans hv
  have rc4 := R_aft hrv ha hE2 (by simp [KE, Kd.pair, Kd.int, Kd.scalar, Kd.string])
  have k0 : w4.cell? ⟨w.heap.size, 0, none⟩ = some v := blk_cell d4 0
  have H4 := hid (And.intro hB4 rc4)
  clear hB4 d4 ha hB2 hE2 hrv rc4 hv
  go_wp2
  go_ret2
  exact ⟨v, rfl, H4.out.2, H4.out.1⟩
end Go.Proofs.Ytmcfihpbiilbcaa.H
