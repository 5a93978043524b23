/- The reference's Read of layer 15: plain. -/
import Derived.Test.YtmcfihpbiilbcaaImgF
import Derived.Test.YtmcfihpbiilbcaaEx5
namespace Go.Proofs.Ytmcfihpbiilbcaa.H
open Go.RowKit Go.Proofs.YtmcfihpbiilbcaaW.PrintWords Go.Proofs.YtmcfihpbiilbcaaW.PrintLast Go.Proofs.YtmcfihpbiilbcaaW.PrintMore Go.Proofs.Ytmcfihpbiilbcaa.E
set_option linter.unusedVariables false
set_option linter.unusedSimpArgs false
theorem refGet_k (k : Nat) (hk : 5 ≤ k) (l : List Int) (hl : Bytes l) : spliceref01_Get.f k l = some (wordOf l) :=
  at_rounds (g := fun k => spliceref01_Get.f k l) (fun k => spliceref01_Get.mono l k) hk (refGet_eq l hl)
theorem four_q (k : Nat) (hk : 5 ≤ k) (l : List Int) (hl : Bytes l) (hlen : (l.length : Int) ≤ 1000000000) (a : Int) (h0 : 0 ≤ a) (h1 : a ≤ 2000000000) :
    spliceref15_four.f k l a = some (if (l.length : Int) < a + 4 then -1 else N4 l a) := by
  unfold spliceref15_four.f
  have hr := N4_range hl a
  rw [wrap64_id (x := a + 4) (by omega) (by omega)]
  by_cases h : (l.length : Int) < a + 4
  · rw [if_pos h, if_pos h]
  · rw [if_neg (by omega), if_pos h0, if_pos (by omega), if_pos (by omega), if_neg h]
    have e : (l.take (a + 4).toNat).drop a.toNat = mid l a 4 := rfl
    rw [e, refGet_k k hk _ (hl.mid a 4), Option.bind_some]
    rw [wrap64_id (by unfold N4 at hr; omega) (by unfold N4 at hr; omega)]
    rfl
/-- What reading gives. -/
def res (l : List Int) : List Int × Int × List Int × Int × Int × Int :=
  if readE l = 0 then (rdC l (rdN l).toNat, rdE l, rdD l, rdW l, rdM l, 0) else ([], 0, [], 0, 0, readE l)
theorem res_bad {l : List Int} {x : Int} (h : readE l = x) (hx : x ≠ 0) : res l = ([], 0, [], 0, 0, x) := by unfold res; rw [h, if_neg hx]
theorem res_ok {l : List Int} (h : readE l = 0) : res l = (rdC l (rdN l).toNat, rdE l, rdD l, rdW l, rdM l, 0) := by unfold res; rw [if_pos h]
theorem j1_q (k : Nat) (hk : 6 ≤ k) (l : List Int) (hl : Bytes l) (hlen : (l.length : Int) ≤ 1000000000) (hm : magicB l = true) (h8 : ¬ (l.length : Int) < 8) (hn : ¬ 65536 < rdN l) (h0 : 0 ≤ rdN l) (h2 : ¬ (l.length : Int) < rdI l + 4) (he : rdE l = 0 ∨ 0 < rdE l ∧ rdE l < rdN l) :
    spliceref15_Read.j1 k l (rdI l) false (rdC l (rdN l).toNat) (rdE l) 0 0 = some (res l) := by
  obtain ⟨k, rfl⟩ : ∃ m, k = m + 1 := ⟨k - 1, by omega⟩
  have hI : rdI l = 8 + 4 * rdN l := rfl
  have hr := readE_rest l hm h8 hn h0 h2 he
  simp only [spliceref15_Read.j1]
  rw [if_neg (by decide), wrap64_id (x := rdI l + 4) (by omega) (by omega), wrap64_id (x := rdI l + 8) (by omega) (by omega), four_q k (by omega) l hl hlen (rdI l + 4) (by omega) (by omega), Option.bind_some]
  by_cases a4 : (l.length : Int) < rdI l + 8
  · rw [if_pos (by omega : (l.length : Int) < rdI l + 4 + 4), if_pos (by omega)]
    rw [if_pos a4] at hr
    rw [res_bad hr (by decide)]
  rw [if_neg (by omega : ¬ (l.length : Int) < rdI l + 4 + 4), show N4 l (rdI l + 4) = rdZ l from rfl]
  rw [if_neg a4] at hr
  have rz := N4_range hl (rdI l + 4)
  rw [show N4 l (rdI l + 4) = rdZ l from rfl] at rz
  rw [if_neg (by omega)]
  by_cases a5 : 65536 < rdZ l
  · rw [if_pos (by omega)]
    rw [if_pos a5] at hr
    rw [res_bad hr (by decide)]
  rw [if_neg (by omega)]
  rw [if_neg a5] at hr
  rw [wrap64_id (x := rdI l + 8 + rdZ l) (by omega) (by omega)]
  by_cases a6 : (l.length : Int) < rdI l + 8 + rdZ l
  · rw [if_pos (by omega)]
    rw [if_pos a6] at hr
    rw [res_bad hr (by decide)]
  rw [if_neg (by omega)]
  rw [if_neg a6] at hr
  have e : (l.take (rdI l + 8 + rdZ l).toNat).drop (rdI l + 8).toNat = rdD l := rfl
  have hd : ((rdD l).length : Int) = rdZ l := mid_len (by omega) (by omega) (by omega)
  rw [Option.bind_some, if_pos (by omega), if_pos (by omega), if_pos (by omega), e, if_pos (by simp; omega), four_q k (by omega) l hl hlen (rdI l + 8 + rdZ l) (by omega) (by omega), Option.bind_some]
  by_cases a7 : (l.length : Int) < rdI l + 8 + rdZ l + 4
  · rw [if_pos a7, if_pos (by omega)]
    rw [if_pos a7] at hr
    rw [res_bad hr (by decide)]
  rw [if_neg a7] at hr
  rw [if_neg a7, show N4 l (rdI l + 8 + rdZ l) = rdW l from rfl]
  have rw_ := N4_range hl (rdI l + 8 + rdZ l)
  rw [show N4 l (rdI l + 8 + rdZ l) = rdW l from rfl] at rw_
  rw [if_neg (by omega)]
  by_cases a8 : rdZ l < rdW l
  · rw [if_pos (by omega)]
    rw [if_pos a8] at hr
    rw [res_bad hr (by decide)]
  rw [if_neg (by omega)]
  rw [if_neg a8] at hr
  rw [wrap64_id (x := rdI l + 8 + rdZ l + 4) (by omega) (by omega), four_q k (by omega) l hl hlen (rdI l + 8 + rdZ l + 4) (by omega) (by omega), Option.bind_some]
  by_cases a9 : (l.length : Int) < rdI l + 8 + rdZ l + 8
  · rw [if_pos (by omega : (l.length : Int) < rdI l + 8 + rdZ l + 4 + 4), if_pos (by omega)]
    rw [if_pos a9] at hr
    rw [res_bad hr (by decide)]
  rw [if_neg a9] at hr
  rw [if_neg (by omega : ¬ (l.length : Int) < rdI l + 8 + rdZ l + 4 + 4), show N4 l (rdI l + 8 + rdZ l + 4) = rdM l from rfl]
  have rm := N4_range hl (rdI l + 8 + rdZ l + 4)
  rw [show N4 l (rdI l + 8 + rdZ l + 4) = rdM l from rfl] at rm
  rw [if_neg (by omega)]
  by_cases a10 : 65536 < rdM l
  · rw [if_pos (by omega)]
    rw [if_pos a10] at hr
    rw [res_bad hr (by decide)]
  rw [if_neg (by omega)]
  rw [if_neg a10] at hr
  rw [wrap64_id (x := rdI l + 8 + rdZ l + 8) (by omega) (by omega)]
  by_cases a11 : rdI l + 8 + rdZ l + 8 < (l.length : Int)
  · rw [if_pos a11]
    rw [if_pos a11] at hr
    rw [res_bad hr (by decide)]
  · rw [if_neg a11]
    rw [if_neg a11] at hr
    rw [res_ok hr]
    rfl
theorem l0_q (l : List Int) (hl : Bytes l) (hlen : (l.length : Int) ≤ 1000000000) (hm : magicB l = true) (h8 : ¬ (l.length : Int) < 8) (hn : ¬ 65536 < rdN l) (n : Nat) (hnn : rdN l = n) :
    ∀ (d k j : Nat), d + 8 ≤ k → j + d = n → spliceref15_Read.l0 k l n (8 + 4 * (j : Int)) j (rdC l j) 0 0 0 = some (res l) := by
  intro d
  have hI : rdI l = 8 + 4 * rdN l := rfl
  induction d with
  | zero =>
    intro k j hk hj
    obtain ⟨k, rfl⟩ : ∃ m, k = m + 1 := ⟨k - 1, by omega⟩
    have hjn : (8 : Int) + 4 * (j : Int) = rdI l := by omega
    have hjN : j = (rdN l).toNat := by omega
    simp only [spliceref15_Read.l0]
    rw [if_neg (by omega), hjn, four_q k (by omega) l hl hlen (rdI l) (by omega) (by omega), Option.bind_some]
    by_cases a3 : (l.length : Int) < rdI l + 4
    · rw [if_pos a3, if_pos (by omega), res_bad (readE_words l hm h8 hn a3) (by decide)]
    rw [if_neg a3, show N4 l (rdI l) = rdE l from rfl]
    have re := N4_range hl (rdI l)
    rw [show N4 l (rdI l) = rdE l from rfl] at re
    rw [if_neg (by omega), hjN]
    by_cases e1 : rdE l > 0
    · rw [if_pos e1]
      by_cases e2 : rdE l ≥ (n : Int)
      · rw [decide_eq_true e2]
        obtain ⟨k, rfl⟩ : ∃ m, k = m + 1 := ⟨k - 1, by omega⟩
        simp only [spliceref15_Read.j1]
        rw [if_pos trivial, res_bad (readE_entry l hm h8 hn (by omega) a3 (by omega)) (by decide)]
      · rw [decide_eq_false e2]
        exact j1_q k (by omega) l hl hlen hm h8 hn (by omega) a3 (by omega)
    · rw [if_neg e1]
      exact j1_q k (by omega) l hl hlen hm h8 hn (by omega) a3 (by omega)
  | succ d ih =>
    intro k j hk hj
    obtain ⟨k, rfl⟩ : ∃ m, k = m + 1 := ⟨k - 1, by omega⟩
    have hr := N4_range hl (8 + 4 * (j : Int))
    have hc := rdC_len l j
    simp only [spliceref15_Read.l0]
    rw [if_pos (by omega), four_q k (by omega) l hl hlen (8 + 4 * (j : Int)) (by omega) (by omega), Option.bind_some]
    by_cases a3 : (l.length : Int) < 8 + 4 * (j : Int) + 4
    · rw [if_pos a3, if_pos (by omega), res_bad (readE_words l hm h8 hn (by omega)) (by decide)]
    rw [if_neg a3, if_neg (by omega), if_pos (by omega), wrap64_id (x := 8 + 4 * (j : Int) + 4) (by omega) (by omega), wrap64_id (x := (j : Int) + 1) (by omega) (by omega), Int.emod_eq_of_lt (by omega) (by omega), ← rdC_step]
    have := ih k (j + 1) (by omega) (by omega)
    rw [show (8 : Int) + 4 * ((j + 1 : Nat) : Int) = 8 + 4 * (j : Int) + 4 by omega, show ((j + 1 : Nat) : Int) = (j : Int) + 1 by omega] at this
    exact this
theorem refRead_q (k : Nat) (hk : 65600 ≤ k) (l : List Int) (hl : Bytes l) (hlen : (l.length : Int) ≤ 1000000000) : spliceref15_Read.f k l = some (res l) := by
  unfold spliceref15_Read.f
  by_cases a0 : (l.length : Int) < 4
  · rw [if_pos a0, res_bad (readE_cut1 l a0) (by decide)]
  rw [if_neg a0, if_pos (by omega)]
  have hmid : l.take 4 = mid l 0 4 := by unfold mid; simp
  have hmq := magic_q l hl
  rw [hmid]
  cases hm : magicB l
  · rw [hm] at hmq
    rw [if_neg (by simpa using hmq), res_bad (readE_magic l a0 hm) (by decide)]
  · rw [hm] at hmq
    rw [if_pos (by simpa using hmq), four_q k (by omega) l hl hlen 4 (by omega) (by omega), Option.bind_some]
    by_cases a1 : (l.length : Int) < 8
    · rw [if_pos (by omega : (l.length : Int) < 4 + 4), if_pos (by omega), res_bad (readE_cut2 l hm a0 a1) (by decide)]
    rw [if_neg (by omega : ¬ (l.length : Int) < 4 + 4), show N4 l 4 = rdN l from rfl]
    have rn := N4_range hl 4
    rw [show N4 l 4 = rdN l from rfl] at rn
    rw [if_neg (by omega)]
    by_cases a2 : 65536 < rdN l
    · rw [if_pos (by omega), res_bad (readE_many l hm a1 a2) (by decide)]
    rw [if_neg (by omega)]
    obtain ⟨n, hn⟩ := Int.eq_ofNat_of_zero_le rn.1
    have h := l0_q l hl hlen hm a1 a2 n hn n k 0 (by omega) (by omega)
    rw [hn]
    exact h
end Go.Proofs.Ytmcfihpbiilbcaa.H
