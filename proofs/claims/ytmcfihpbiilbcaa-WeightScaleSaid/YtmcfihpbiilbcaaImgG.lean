/- awake of layer 15's statements; same images. -/
import Derived.Test.YtmcfihpbiilbcaaImgP
namespace Go.Proofs.Ytmcfihpbiilbcaa.H
open Go.RowKit Go.Proofs.YtmcfihpbiilbcaaW.PrintWords Go.Proofs.YtmcfihpbiilbcaaW.PrintLast Go.Proofs.YtmcfihpbiilbcaaW.PrintMore Go.Proofs.Ytmcfihpbiilbcaa.E
set_option linter.unusedVariables false
set_option linter.unusedSimpArgs false
theorem words_from (a b : List Int) (hlen : a.length = b.length) (hL : a.length ≤ 4611686018427387904) : ∀ (d : Nat) (k : Nat) (i : Int), 0 ≤ i → i ≤ a.length → (a.length : Int) - i = d → d < k →
    spliceref01_Words.l0 k a b i = some (decide (a.drop i.toNat = b.drop i.toNat)) := by
  intro d
  induction d with
  | zero =>
    intro k i h0 h1 hd hk
    obtain ⟨k, rfl⟩ : ∃ m, k = m + 1 := ⟨k - 1, by omega⟩
    simp only [spliceref01_Words.l0]
    rw [if_neg (by omega), List.drop_eq_nil_of_le (by omega), List.drop_eq_nil_of_le (by omega)]
    simp
  | succ d ih =>
    intro k i h0 h1 hd hk
    obtain ⟨k, rfl⟩ : ∃ m, k = m + 1 := ⟨k - 1, by omega⟩
    simp only [spliceref01_Words.l0]
    have ha : i.toNat < a.length := by omega
    have hb : i.toNat < b.length := by omega
    rw [if_pos (by omega), if_pos h0, if_pos (by omega), List.drop_eq_getElem_cons ha, List.drop_eq_getElem_cons hb]
    have ra : rd a i = a[i.toNat] := by unfold rd; rw [List.getD_eq_getElem?_getD, List.getElem?_eq_getElem ha]; rfl
    have rb : rd b i = b[i.toNat] := by unfold rd; rw [List.getD_eq_getElem?_getD, List.getElem?_eq_getElem hb]; rfl
    rw [ra, rb]
    by_cases e : a[i.toNat] = b[i.toNat]
    · rw [if_pos e, wrap64_id (by omega) (by omega), ih k (i + 1) (by omega) (by omega) (by omega) (by omega), show (i + 1).toNat = i.toNat + 1 by omega, e]
      simp only [List.cons.injEq, true_and]
    · rw [if_neg e, decide_eq_false (fun h => e (List.cons.inj h).1)]
theorem refWords_eq (a b : List Int) (hL : a.length ≤ 4611686018427387904) (k : Nat) (hk : a.length < k) : spliceref01_Words.f k a b = some (decide (a = b)) := by
  unfold spliceref01_Words.f
  by_cases h : a.length = b.length
  · rw [if_pos (by omega), words_from a b h hL a.length k 0 (by omega) (by omega) (by omega) (by omega)]
    simp
  · rw [if_neg (by omega)]
    have : a ≠ b := fun e => h (by rw [e])
    simp [this]
theorem refSame_k (a b : List Int) (hL : a.length ≤ 4611686018427387904) (k : Nat) (hk : a.length < k) : spliceref01_Same.f k a b = some (decide (a = b)) :=
  at_rounds (g := fun k => spliceref01_Same.f k a b) (fun k => spliceref01_Same.mono a b k) hk (refSame_eq a b hL)
/-- The same images? -/
def sameI (c1 : List Int) (e1 : Int) (d1 : List Int) (w1 m1 : Int) (c2 : List Int) (e2 : Int) (d2 : List Int) (w2 m2 : Int) : Bool := decide (c1 = c2 ∧ e1 = e2 ∧ d1 = d2 ∧ w1 = w2 ∧ m1 = m2)
theorem same14_q (c1 : List Int) (e1 : Int) (d1 : List Int) (w1 m1 : Int) (c2 : List Int) (e2 : Int) (d2 : List Int) (w2 m2 : Int) (hc : c1.length ≤ 1000000000) (hd : d1.length ≤ 1000000000) :
    spliceref14_Same.f 1000000001 c1 e1 d1 w1 m1 c2 e2 d2 w2 m2 = some (sameI c1 e1 d1 w1 m1 c2 e2 d2 w2 m2) := by
  unfold spliceref14_Same.f sameI
  rw [refWords_eq c1 c2 (by omega) _ (by omega), Option.bind_some]
  by_cases h1 : c1 = c2
  · rw [decide_eq_true h1, if_pos rfl]
    by_cases h2 : e1 = e2
    · rw [if_pos h2, refSame_k d1 d2 (by omega) _ (by omega), Option.bind_some]
      by_cases h3 : d1 = d2
      · rw [decide_eq_true h3, if_pos rfl]
        by_cases h4 : w1 = w2
        · rw [if_pos h4]
          simp [h1, h2, h3, h4]
          exact Bool.beq_eq_decide_eq _ _ |> fun h => by first | exact h | rfl
        · rw [if_neg h4]; simp [h4]
      · rw [decide_eq_false h3]; simp [h3]
    · rw [if_neg h2]; simp [h2]
  · rw [decide_eq_false h1]; simp [h1]
set_option maxRecDepth 100000 in
set_option maxHeartbeats 1000000 in
theorem awake15_c (w : World) : Calls Try.prog 49 #[] w fun e w' => e = .returned (.bool true) ∧ Below w.heap.size w w' := by
  go_enter Try.func49, Try.ntmps49
  go_wp2_with fail
  have b0 := blk_new w (.cells #[.int .u32 7] 36)
  have hC : CU (w.alloc (.cells #[.int .u32 7] 36)) (some ⟨w.heap.size, 0, none⟩) [7] := C_block b0 (by decide) (fun j p h => by match j, h with | 0, h => simp at h ⊢; exact h | j + 1, h => simp at h)
  have hm : mayB [7] 0 [] 0 2 = true := by decide
  have hk := imgWrite_yes (some ⟨w.heap.size, 0, none⟩) 1 [7] 0 none 0 [] 0 2 (w.alloc (.cells #[.int .u32 7] 36)) hC (by decide) (Kd.C_nil _ _) (by decide) (by intro x hx; simp at hx; omega) hm
  refine hk.mono ?_
  rintro e w1 ⟨v, rfl, hR, hb⟩
  obtain ⟨l, hl⟩ : ∃ l, l = imgW [7] 0 [] 0 2 := ⟨_, rfl⟩
  rw [← hl] at hR
  have q1 : readE l = 0 := by rw [hl]; decide +kernel
  have q2 : l.length = 28 := by rw [hl]; decide +kernel
  have q3 : Bytes l := by rw [hl]; intro x hx; revert x; decide +kernel
  have q4 : rdC l (rdN l).toNat = [7] := by rw [hl]; decide +kernel
  have q5 : rdM l = 2 := by rw [hl]; decide +kernel
  clear hl
  obtain ⟨A1, c1, rfl, hc1, hC1⟩ := Kd.R_reads hR
  have H1 := hid (And.intro hC1 (below_step (below_alloc (Below.refl w.heap.size w) _) hb))
  have Q := hid (And.intro q1 (And.intro q2 (And.intro q3 (And.intro q4 q5))))
  clear hC1 hb hR hk hC hm b0 q1 q2 q3 q4 q5
  go_wp2_with fail
  have hk := iread_ok A1 c1 l w1 H1.out.1 hc1 Q.out.2.2.1 (by rw [Q.out.2.1]; decide) Q.out.1
  rw [Q.out.2.2.2.1, Q.out.2.2.2.2] at hk
  refine hk.mono ?_
  clear hk
  rintro e w2 ⟨vc, vd, rfl, hrc, hrd, hb⟩
  obtain ⟨Ac, cc, rfl, hcc, hCc⟩ := Kd.R_reads hrc
  obtain ⟨Ad, cd, rfl, _, _⟩ := Kd.R_reads hrd
  have H2 := hid (And.intro hCc (below_step H1.out.2 hb))
  have HQ := hid Q.out.2.1
  clear hrc hrd hb H1 hCc
  have kc := const_at (w2.alloc (.cells #[.slice Ac 1 cc, .int .i64 (rdE l), .slice Ad (rdD l).length cd, .int .i64 (rdW l), .int .i64 2] 60)) (w2.heap.size + 1) (by simp)
  go_wp2_with fail
  obtain ⟨W3, hW3⟩ : ∃ W, W = (w2.alloc (.cells #[.slice Ac 1 cc, .int .i64 (rdE l), .slice Ad (rdD l).length cd, .int .i64 (rdW l), .int .i64 2] 60)).alloc (.cells #[.int .u8 83, .int .u8 80, .int .u8 76, .int .u8 49] 5 (4, 5)) := ⟨_, rfl⟩
  have d0 := blk_alloc (blk_new w2 (.cells #[.slice Ac 1 cc, .int .i64 (rdE l), .slice Ad (rdD l).length cd, .int .i64 (rdW l), .int .i64 2] 60)) (.cells #[.int .u8 83, .int .u8 80, .int .u8 76, .int .u8 49] 5 (4, 5))
  have d1 := blk_new_at (w2.alloc (.cells #[.slice Ac 1 cc, .int .i64 (rdE l), .slice Ad (rdD l).length cd, .int .i64 (rdW l), .int .i64 2] 60)) (.cells #[.int .u8 83, .int .u8 80, .int .u8 76, .int .u8 49] 5 (4, 5)) (w2.heap.size + 1) (by simp)
  have hb3 := below_alloc (below_alloc H2.out.2 (.cells #[.slice Ac 1 cc, .int .i64 (rdE l), .slice Ad (rdD l).length cd, .int .i64 (rdW l), .int .i64 2] 60)) (.cells #[.int .u8 83, .int .u8 80, .int .u8 76, .int .u8 49] 5 (4, 5))
  have hC3 := Kd.C_alloc (Kd.C_alloc H2.out.1 (.cells #[.slice Ac 1 cc, .int .i64 (rdE l), .slice Ad (rdD l).length cd, .int .i64 (rdW l), .int .i64 2] 60)) (.cells #[.int .u8 83, .int .u8 80, .int .u8 76, .int .u8 49] 5 (4, 5))
  rw [← hW3] at d0 d1 hb3 hC3
  rw [← hW3]
  have H3 := hid (And.intro d0 (And.intro d1 (And.intro hb3 hC3)))
  clear d0 d1 hb3 hC3 hW3 H2 kc
  have hk := iread_err (some ⟨w2.heap.size + 1, 0, none⟩) 4 [83, 80, 76, 49] W3 (const_4 H3.out.2.1) (by decide) (by intro x hx; simp at hx; omega) (by decide) (by decide +kernel)
  rw [show readE [83, 80, 76, 49] = 4 by decide +kernel] at hk
  refine hk.mono ?_
  clear hk
  rintro e w4 ⟨rfl, hb⟩
  have d4 := blk_below H3.out.1 hb
  have m0 : w4.cell? ⟨w2.heap.size, 0, none⟩ = some (.slice Ac 1 cc) := blk_cell d4 0
  have m4 : w4.cell? ⟨w2.heap.size, 4, none⟩ = some (.int .i64 2) := blk_cell d4 4
  have hlt := blk_lt d4
  obtain ⟨ad, rfl, hcell⟩ := wordAt (Kd.C_below H3.out.2.2.2 hb) 0 (by decide)
  have hcell' : w4.cell? (ad.add 0) = some (.int .u32 7) := hcell
  rw [Addr.add_zero'] at hcell'
  have H4 := hid (below_step H3.out.2.2.1 hb)
  have h28 : (l.length : Int) = 28 := by rw [HQ.out]; rfl
  clear hb d4 hcell H3
  have hcell2 : (w4.alloc (.cells #[.slice none 0 0, .int .i64 0, .slice none 0 0, .int .i64 0, .int .i64 0] 60)).cell? ad = some (.int .u32 7) := pw_cell_below (below_alloc (Below.refl _ _) _) hcell'
  go_wp2
  go_ret
  exact ⟨by first | rfl | (simp; done), below_alloc H4.out _⟩
end Go.Proofs.Ytmcfihpbiilbcaa.H
