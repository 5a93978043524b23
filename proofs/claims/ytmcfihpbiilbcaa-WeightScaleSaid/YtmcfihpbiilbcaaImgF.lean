/- image.Read. -/
import Derived.Test.YtmcfihpbiilbcaaImgE
namespace Go.Proofs.Ytmcfihpbiilbcaa.H
open Go.RowKit Go.Proofs.YtmcfihpbiilbcaaW.PrintWords Go.Proofs.YtmcfihpbiilbcaaW.PrintLast Go.Proofs.YtmcfihpbiilbcaaW.PrintMore Go.Proofs.Ytmcfihpbiilbcaa.E
set_option linter.unusedVariables false
set_option linter.unusedSimpArgs false
/-- A row lives on where only the errno's cell turns. -/
theorem R_aft {α : Type} {d : Kd α} {e g base : Nat} {ok : Nat → Prop} {w w' : World} {v : Value} {xs : List α} (h : d.R e w base ok v xs) (k : Aft g w w') (hg : w.heap[g]? = some (.cells #[.int .i64 0] 25 (0, 0))) (ht : ∀ q, q ∈ e :: d.E → q ≠ 25) : d.R e w' base ok v xs :=
  Kd.R_mono (Kd.R_step (Kd.R_types h hg ht) (fun b hb hlt => k.block b hlt hb.2)) (fun _ h => h.1)
theorem put5 {w : World} {g : Nat} {t : TypeId} {a0 a1 a2 a3 a4 : Value} (h : w.heap[g]? = some (.cells #[a0, a1, a2, a3, a4] t (0, 0))) (b0 b1 b2 b3 b4 : Value) :
    (((((w.setCell ⟨g, 0, none⟩ b0).setCell ⟨g, 1, none⟩ b1).setCell ⟨g, 2, none⟩ b2).setCell ⟨g, 3, none⟩ b3).setCell ⟨g, 4, none⟩ b4).heap[g]? = some (.cells #[b0, b1, b2, b3, b4] t (0, 0)) :=
  blk_set (blk_set (blk_set (blk_set (blk_set h 0 b0) 1 b1) 2 b2) 3 b3) 4 b4
theorem below5 {w w4 : World} {g n0 : Nat} (h : Below n0 w w4) (hg : n0 ≤ g) (b0 b1 b2 b3 b4 : Value) :
    Below n0 w (((((w4.setCell ⟨g, 0, none⟩ b0).setCell ⟨g, 1, none⟩ b1).setCell ⟨g, 2, none⟩ b2).setCell ⟨g, 3, none⟩ b3).setCell ⟨g, 4, none⟩ b4) :=
  ((((h.setCell (p := ⟨g, 0, none⟩) hg _).setCell (p := ⟨g, 1, none⟩) hg _).setCell (p := ⟨g, 2, none⟩) hg _).setCell (p := ⟨g, 3, none⟩) hg _).setCell (p := ⟨g, 4, none⟩) hg _
theorem set5 {α : Type} {d : Kd α} {e base g t : Nat} {ok : Nat → Prop} {w : World} {v : Value} {xs : List α} {a0 a1 a2 a3 a4 : Value} (h : d.R e w base ok v xs) (hb : w.heap[g]? = some (.cells #[a0, a1, a2, a3, a4] t (0, 0))) (ht : ∀ q, q ∈ e :: d.E → q ≠ t) (b0 b1 b2 b3 b4 : Value) :
    d.R e (((((w.setCell ⟨g, 0, none⟩ b0).setCell ⟨g, 1, none⟩ b1).setCell ⟨g, 2, none⟩ b2).setCell ⟨g, 3, none⟩ b3).setCell ⟨g, 4, none⟩ b4) base ok v xs :=
  Kd.R_set (Kd.R_set (Kd.R_set (Kd.R_set (Kd.R_set h hb ht 0 b0) (blk_set hb 0 b0) ht 1 b1) (blk_set (blk_set hb 0 b0) 1 b1) ht 2 b2) (blk_set (blk_set (blk_set hb 0 b0) 1 b1) 2 b2) ht 3 b3) (blk_set (blk_set (blk_set (blk_set hb 0 b0) 1 b1) 2 b2) 3 b3) ht 4 b4
abbrev zImg : Array Value := #[.slice none 0 0, .int .i64 0, .slice none 0 0, .int .i64 0, .int .i64 0]
set_option maxRecDepth 100000 in
theorem iread_err (A : Option Addr) (c : Nat) (l : List Int) (w : World) (hC : CB w A l) (hc : l.length ≤ c) (hby : Bytes l) (hl : l.length ≤ 140737488351232) (hE : readE l ≠ 0) :
    Calls Try.prog 54 #[.slice A l.length c] w fun e w' => e = .returned (.tuple #[.agg zImg, .int .i64 (readE l)]) ∧ Below w.heap.size w w' := by
  have hmf : ∀ (fn : Fn) (first cap : Array Value) (w : World), (Instr.makeFunc fn first cap).run Try.prog w = .ok (.func fn first cap) w := fun _ _ _ _ => rfl
  have HC := hid hC
  clear hC
  go_enter Try.func54, Try.ntmps54
  go_wp2_with fail
  obtain ⟨W3, hW3⟩ : ∃ W, W = (w.alloc (.cells zImg 60)).alloc (.cells zImg 60) := ⟨_, rfl⟩
  have d0 := blk_alloc (blk_new w (.cells zImg 60)) (.cells zImg 60)
  have d1 := blk_new_at (w.alloc (.cells zImg 60)) (.cells zImg 60) (w.heap.size + 1) (by simp)
  have hb := below_alloc (below_alloc (Below.refl w.heap.size w) (.cells zImg 60)) (.cells zImg 60)
  rw [← hW3] at d0 d1 hb
  have hs3 : W3.heap.size = w.heap.size + 2 := by rw [hW3]; simp
  rw [← hW3]
  have H3 := hid (And.intro d0 (And.intro d1 hb))
  have HE := hid hE
  clear d0 d1 hb hW3 hE
  refine (try_c 90 enter_90 #[.pointer (some ⟨w.heap.size + 1, 0, none⟩)] A c l W3 (Kd.C_below HC.out H3.out.2.2) hc hl (ImgPost W3 (w.heap.size + 1) (w.heap.size + 1) l) (fun w1 B hF => read90 W3 w1 B (w.heap.size + 1) (w.heap.size + 1) l hF H3.out.2.1 (by omega) hby hl)).mono ?_
  rintro e w4 ⟨x, w2, rfl, ⟨rfl, hB2, hE2, hI2⟩, ha⟩
  have hlt2 := blk_lt hE2
  have hB4 : Below w.heap.size w w4 := Aft.below (H3.out.2.2.trans (hB2.mono (by omega))) ha (by omega) (by omega)
  have d4 : w4.heap[w.heap.size]? = some (.cells zImg 60 (0, 0)) := (ha.block _ (by omega) (by omega)).trans ((hB2.block _ (by omega)).trans H3.out.1)
  have k0 : w4.cell? ⟨w.heap.size, 0, none⟩ = some (.slice none 0 0) := blk_cell d4 0
  have k1 : w4.cell? ⟨w.heap.size, 1, none⟩ = some (.int .i64 0) := blk_cell d4 1
  have k2 : w4.cell? ⟨w.heap.size, 2, none⟩ = some (.slice none 0 0) := blk_cell d4 2
  have k3 : w4.cell? ⟨w.heap.size, 3, none⟩ = some (.int .i64 0) := blk_cell d4 3
  have k4 : w4.cell? ⟨w.heap.size, 4, none⟩ = some (.int .i64 0) := blk_cell d4 4
  have z0 : w4.frozen? ⟨w.heap.size, 0, none⟩ = false := blk_frozen d4 0
  have z1 : w4.frozen? ⟨w.heap.size, 1, none⟩ = false := blk_frozen d4 1
  have z2 : w4.frozen? ⟨w.heap.size, 2, none⟩ = false := blk_frozen d4 2
  have z3 : w4.frozen? ⟨w.heap.size, 3, none⟩ = false := blk_frozen d4 3
  have z4 : w4.frozen? ⟨w.heap.size, 4, none⟩ = false := blk_frozen d4 4
  have hx1 : (readE l == 0) = false := beq_eq_false_iff_ne.2 HE.out
  have hx2 : (readE l != 0) = true := bne_iff_ne.2 HE.out
  have H4 := hid (And.intro hB4 d4)
  clear hB4 d4 ha hB2 hE2 hI2 HE
  go_wp2
  refine bodyPost_ret (results_ct rfl _ _ w.heap.size 60 #[.slice none 0 0, .int .i64 0, .slice none 0 0, .int .i64 0, .int .i64 0] (0, 0) _ rfl (put5 H4.out.2 _ _ _ _ _) Try.underlying60 rfl (by kernel_rfl)) rfl ?_
  exact ⟨rfl, below5 H4.out.1 (Nat.le_refl _) _ _ _ _ _⟩
set_option maxRecDepth 100000 in
theorem iread_ok (A : Option Addr) (c : Nat) (l : List Int) (w : World) (hC : CB w A l) (hc : l.length ≤ c) (hby : Bytes l) (hl : l.length ≤ 140737488351232) (hE : readE l = 0) :
    Calls Try.prog 54 #[.slice A l.length c] w fun e w' => ∃ vc vd, e = .returned (.tuple #[.agg #[vc, .int .i64 (rdE l), vd, .int .i64 (rdW l), .int .i64 (rdM l)], .int .i64 0]) ∧ RU w' w.heap.size vc (rdC l (rdN l).toNat) ∧ RB w' w.heap.size vd (rdD l) ∧ Below w.heap.size w w' := by
  have hmf : ∀ (fn : Fn) (first cap : Array Value) (w : World), (Instr.makeFunc fn first cap).run Try.prog w = .ok (.func fn first cap) w := fun _ _ _ _ => rfl
  have HC := hid hC
  clear hC
  go_enter Try.func54, Try.ntmps54
  go_wp2_with fail
  obtain ⟨W3, hW3⟩ : ∃ W, W = (w.alloc (.cells zImg 60)).alloc (.cells zImg 60) := ⟨_, rfl⟩
  have d0 := blk_alloc (blk_new w (.cells zImg 60)) (.cells zImg 60)
  have d1 := blk_new_at (w.alloc (.cells zImg 60)) (.cells zImg 60) (w.heap.size + 1) (by simp)
  have hb := below_alloc (below_alloc (Below.refl w.heap.size w) (.cells zImg 60)) (.cells zImg 60)
  rw [← hW3] at d0 d1 hb
  have hs3 : W3.heap.size = w.heap.size + 2 := by rw [hW3]; simp
  rw [← hW3]
  have H3 := hid (And.intro d0 (And.intro d1 hb))
  have HE := hid hE
  clear d0 d1 hb hW3 hE
  refine (try_c 90 enter_90 #[.pointer (some ⟨w.heap.size + 1, 0, none⟩)] A c l W3 (Kd.C_below HC.out H3.out.2.2) hc hl (ImgPost W3 (w.heap.size + 1) (w.heap.size + 1) l) (fun w1 B hF => read90 W3 w1 B (w.heap.size + 1) (w.heap.size + 1) l hF H3.out.2.1 (by omega) hby hl)).mono ?_
  rintro e w4 ⟨x, w2, rfl, ⟨rfl, hB2, hE2, hI2⟩, ha⟩
  rw [HE.out]
  obtain ⟨vc, vd, hv, hrc, hrd⟩ := hI2 HE.out
  have hlt2 := blk_lt hE2
  have hB4 : Below w.heap.size w w4 := Aft.below (H3.out.2.2.trans (hB2.mono (by omega))) ha (by omega) (by omega)
  have d4 : w4.heap[w.heap.size]? = some (.cells zImg 60 (0, 0)) := (ha.block _ (by omega) (by omega)).trans ((hB2.block _ (by omega)).trans H3.out.1)
  have d5 : w4.heap[w.heap.size + 1]? = some (.cells #[vc, .int .i64 (rdE l), vd, .int .i64 (rdW l), .int .i64 (rdM l)] 60 (0, 0)) := (ha.block _ (blk_lt hv) (by omega)).trans hv
  have rc4 := R_aft hrc ha hE2 (by simp [Kd.int, Kd.scalar])
  have rd4 := R_aft hrd ha hE2 (by simp [Kd.int, Kd.scalar])
  obtain ⟨Ac, cc, rfl, _, _⟩ := Kd.R_reads rc4
  obtain ⟨Ad, cd, rfl, _, _⟩ := Kd.R_reads rd4
  have k0 : w4.cell? ⟨w.heap.size, 0, none⟩ = some (.slice none 0 0) := blk_cell d4 0
  have k1 : w4.cell? ⟨w.heap.size, 1, none⟩ = some (.int .i64 0) := blk_cell d4 1
  have k2 : w4.cell? ⟨w.heap.size, 2, none⟩ = some (.slice none 0 0) := blk_cell d4 2
  have k3 : w4.cell? ⟨w.heap.size, 3, none⟩ = some (.int .i64 0) := blk_cell d4 3
  have k4 : w4.cell? ⟨w.heap.size, 4, none⟩ = some (.int .i64 0) := blk_cell d4 4
  have z0 : w4.frozen? ⟨w.heap.size, 0, none⟩ = false := blk_frozen d4 0
  have z1 : w4.frozen? ⟨w.heap.size, 1, none⟩ = false := blk_frozen d4 1
  have z2 : w4.frozen? ⟨w.heap.size, 2, none⟩ = false := blk_frozen d4 2
  have z3 : w4.frozen? ⟨w.heap.size, 3, none⟩ = false := blk_frozen d4 3
  have z4 : w4.frozen? ⟨w.heap.size, 4, none⟩ = false := blk_frozen d4 4
  have m0 := blk_cell d5 0
  have m1 := blk_cell d5 1
  have m2 := blk_cell d5 2
  have m3 := blk_cell d5 3
  have m4 := blk_cell d5 4
  obtain ⟨nc, hnc⟩ : ∃ n, n = (rdC l (rdN l).toNat).length := ⟨_, rfl⟩
  rw [← hnc] at rc4 m0
  have H4 := hid (And.intro hB4 (And.intro d4 (And.intro rc4 rd4)))
  clear hB4 d4 d5 ha hB2 hE2 hI2 HE hrc hrd rc4 rd4 hv hnc
  simp only [List.getElem?_toArray, List.getElem?_cons_zero, List.getElem?_cons_succ] at m0 m1 m2 m3 m4
  go_wp2
  refine bodyPost_ret (results_ct rfl _ _ w.heap.size 60 #[.slice Ac nc cc, .int .i64 (rdE l), .slice Ad (rdD l).length cd, .int .i64 (rdW l), .int .i64 (rdM l)] (0, 0) _ rfl (put5 H4.out.2.1 _ _ _ _ _) Try.underlying60 rfl (by kernel_rfl)) rfl ?_
  have rc5 := set5 H4.out.2.2.1 H4.out.2.1 (by simp [Kd.int, Kd.scalar]) (.slice Ac nc cc) (.int .i64 (rdE l)) (.slice Ad (rdD l).length cd) (.int .i64 (rdW l)) (.int .i64 (rdM l))
  have rd5 := set5 H4.out.2.2.2 H4.out.2.1 (by simp [Kd.int, Kd.scalar]) (.slice Ac nc cc) (.int .i64 (rdE l)) (.slice Ad (rdD l).length cd) (.int .i64 (rdW l)) (.int .i64 (rdM l))
  exact ⟨_, _, rfl, Kd.R_lower rc5 (by omega), Kd.R_lower rd5 (by omega), below5 H4.out.1 (Nat.le_refl _) _ _ _ _ _⟩
end Go.Proofs.Ytmcfihpbiilbcaa.H
