/- An image's bytes and what is read of them: plain. -/
import Derived.Test.YtmcfihpbiilbcaaImgI
namespace Go.Proofs.Ytmcfihpbiilbcaa.H
open Go.RowKit Go.Proofs.YtmcfihpbiilbcaaW.PrintWords Go.Proofs.YtmcfihpbiilbcaaW.PrintLast Go.Proofs.YtmcfihpbiilbcaaW.PrintMore Go.Proofs.Ytmcfihpbiilbcaa.E
set_option linter.unusedVariables false
set_option linter.unusedSimpArgs false
theorem readE_iff (l : List Int) (h0 : 0 ≤ rdN l) (h1 : 0 ≤ rdZ l) : readE l = 0 ↔ (8 ≤ (l.length : Int) ∧ magicB l = true ∧ rdN l ≤ 65536 ∧ (rdE l = 0 ∨ 0 < rdE l ∧ rdE l < rdN l) ∧ rdZ l ≤ 65536 ∧ rdW l ≤ rdZ l ∧ rdM l ≤ 65536 ∧ (l.length : Int) = rdI l + 16 + rdZ l) := by
  have hI : rdI l = 8 + 4 * rdN l := rfl
  constructor
  · intro h
    unfold readE at h
    by_cases a1 : (l.length : Int) < 4
    · rw [if_pos a1] at h; omega
    rw [if_neg a1] at h
    by_cases a2 : magicB l = false
    · rw [if_pos a2] at h; omega
    rw [if_neg a2] at h
    by_cases a3 : (l.length : Int) < 8
    · rw [if_pos a3] at h; omega
    rw [if_neg a3] at h
    by_cases a4 : 65536 < rdN l
    · rw [if_pos a4] at h; omega
    rw [if_neg a4] at h
    by_cases a5 : (l.length : Int) < rdI l
    · rw [if_pos a5] at h; omega
    rw [if_neg a5] at h
    by_cases a6 : (l.length : Int) < rdI l + 4
    · rw [if_pos a6] at h; omega
    rw [if_neg a6] at h
    by_cases a7 : ¬ (rdE l = 0 ∨ 0 < rdE l ∧ rdE l < rdN l)
    · rw [if_pos a7] at h; omega
    rw [if_neg a7] at h
    by_cases a8 : (l.length : Int) < rdI l + 8
    · rw [if_pos a8] at h; omega
    rw [if_neg a8] at h
    by_cases a9 : 65536 < rdZ l
    · rw [if_pos a9] at h; omega
    rw [if_neg a9] at h
    by_cases a10 : (l.length : Int) < rdI l + 8 + rdZ l
    · rw [if_pos a10] at h; omega
    rw [if_neg a10] at h
    by_cases a11 : (l.length : Int) < rdI l + 8 + rdZ l + 4
    · rw [if_pos a11] at h; omega
    rw [if_neg a11] at h
    by_cases a12 : rdZ l < rdW l
    · rw [if_pos a12] at h; omega
    rw [if_neg a12] at h
    by_cases a13 : (l.length : Int) < rdI l + 8 + rdZ l + 8
    · rw [if_pos a13] at h; omega
    rw [if_neg a13] at h
    by_cases a14 : 65536 < rdM l
    · rw [if_pos a14] at h; omega
    rw [if_neg a14] at h
    by_cases a15 : rdI l + 8 + rdZ l + 8 < (l.length : Int)
    · rw [if_pos a15] at h; omega
    exact ⟨by omega, by simpa using a2, by omega, Classical.not_not.1 a7, by omega, by omega, by omega, by omega⟩
  · rintro ⟨b1, b2, b3, b4, b5, b6, b7, b8⟩
    unfold readE
    rw [if_neg (by omega), if_neg (by rw [b2]; decide), if_neg (by omega), if_neg (by omega), if_neg (by omega), if_neg (by omega), if_neg (fun h => h b4), if_neg (by omega), if_neg (by omega), if_neg (by omega), if_neg (by omega), if_neg (by omega), if_neg (by omega), if_neg (by omega), if_neg (by omega)]
theorem N4_at (pre post : List Int) (i v : Int) (h0 : 0 ≤ v) (h1 : v ≤ 4294967295) (hi : i = pre.length) : N4 (pre ++ putS v 4 ++ post) i = v := by
  unfold N4
  rw [mid_at pre (putS v 4) post i 4 hi rfl, putS_four v h0 h1, wordOf_four v h0 h1]
/-- The beginning of an image's bytes, up to the data. -/
theorem fields_w (c : List Int) (e : Int) (d : List Int) (wq mo : Int) (hby : ∀ x ∈ c, 0 ≤ x ∧ x ≤ 4294967295) (hm : mayB c e d wq mo = true) :
    magicB (imgW c e d wq mo) = true ∧ rdN (imgW c e d wq mo) = c.length ∧ rdE (imgW c e d wq mo) = e ∧ rdZ (imgW c e d wq mo) = d.length ∧ rdW (imgW c e d wq mo) = wq ∧ rdM (imgW c e d wq mo) = mo ∧ rdD (imgW c e d wq mo) = d ∧ rdC (imgW c e d wq mo) c.length = c ∧ ((imgW c e d wq mo).length : Int) = 24 + 4 * c.length + d.length := by
  have hM : c.length ≤ 65536 ∧ (e = 0 ∨ 0 < e ∧ e < c.length) ∧ d.length ≤ 65536 ∧ 0 ≤ wq ∧ wq ≤ d.length ∧ 0 ≤ mo ∧ mo ≤ 65536 := of_decide_eq_true hm
  have hw := wordsS_len c
  have hp : ∀ n, (putS n 4).length = 4 := fun _ => rfl
  have q0 : imgW c e d wq mo = [] ++ [83, 80, 88, 49] ++ (putS c.length 4 ++ wordsS c ++ putS e 4 ++ putS d.length 4 ++ d ++ putS wq 4 ++ putS mo 4) := by unfold imgW; simp only [List.append_assoc, List.nil_append]
  have q1 : imgW c e d wq mo = [83, 80, 88, 49] ++ putS c.length 4 ++ (wordsS c ++ putS e 4 ++ putS d.length 4 ++ d ++ putS wq 4 ++ putS mo 4) := by unfold imgW; simp only [List.append_assoc]
  have q2 : imgW c e d wq mo = ([83, 80, 88, 49] ++ putS c.length 4 ++ wordsS c) ++ putS e 4 ++ (putS d.length 4 ++ d ++ putS wq 4 ++ putS mo 4) := by unfold imgW; simp only [List.append_assoc]
  have q3 : imgW c e d wq mo = ([83, 80, 88, 49] ++ putS c.length 4 ++ wordsS c ++ putS e 4) ++ putS d.length 4 ++ (d ++ putS wq 4 ++ putS mo 4) := by unfold imgW; simp only [List.append_assoc]
  have q4 : imgW c e d wq mo = ([83, 80, 88, 49] ++ putS c.length 4 ++ wordsS c ++ putS e 4 ++ putS d.length 4) ++ d ++ (putS wq 4 ++ putS mo 4) := by unfold imgW; simp only [List.append_assoc]
  have q5 : imgW c e d wq mo = ([83, 80, 88, 49] ++ putS c.length 4 ++ wordsS c ++ putS e 4 ++ putS d.length 4 ++ d) ++ putS wq 4 ++ putS mo 4 := by unfold imgW; simp only [List.append_assoc]
  have q6 : imgW c e d wq mo = ([83, 80, 88, 49] ++ putS c.length 4 ++ wordsS c ++ putS e 4 ++ putS d.length 4 ++ d ++ putS wq 4) ++ putS mo 4 ++ [] := by unfold imgW; simp only [List.append_assoc, List.append_nil]
  generalize hx : imgW c e d wq mo = x at *
  have r0 : magicB x = true := by unfold magicB; rw [q0, mid_at [] _ _ 0 4 rfl rfl]; rfl
  have r1 : rdN x = c.length := by unfold rdN; rw [q1]; exact N4_at _ _ _ _ (by omega) (by omega) rfl
  have r2 : rdI x = 8 + 4 * c.length := by unfold rdI; rw [r1]
  have r3 : rdE x = e := by
    unfold rdE; rw [r2, q2]
    exact N4_at _ _ _ _ (by omega) (by omega) (by simp only [List.length_append, hp, hw, List.length_cons, List.length_nil]; omega)
  have r4 : rdZ x = d.length := by
    unfold rdZ; rw [r2, q3]
    exact N4_at _ _ _ _ (by omega) (by omega) (by simp only [List.length_append, hp, hw, List.length_cons, List.length_nil]; omega)
  have r5 : rdW x = wq := by
    unfold rdW; rw [r2, r4, q5]
    exact N4_at _ _ _ _ (by omega) (by omega) (by simp only [List.length_append, hp, hw, List.length_cons, List.length_nil]; omega)
  have r6 : rdM x = mo := by
    unfold rdM; rw [r2, r4, q6]
    exact N4_at _ _ _ _ (by omega) (by omega) (by simp only [List.length_append, hp, hw, List.length_cons, List.length_nil]; omega)
  have r7 : rdD x = d := by
    unfold rdD; rw [r2, r4, q4]
    exact mid_at _ _ _ _ _ (by simp only [List.length_append, hp, hw, List.length_cons, List.length_nil]; omega) rfl
  have r8 : rdC x c.length = c := by
    unfold rdC
    refine List.ext_getElem (by simp) fun j h1 h2 => ?_
    rw [List.getElem_map, List.getElem_range]
    have hs : wordsS c = wordsS (c.take j) ++ putS c[j] 4 ++ wordsS (c.drop (j + 1)) := by
      rw [← wordsS_step c j h2]
      unfold wordsS
      rw [← List.flatten_append, ← List.map_append, List.take_append_drop]
    have hj := wordsS_len (c.take j)
    rw [List.length_take] at hj
    rw [q2, hs, show [83, 80, 88, 49] ++ putS (c.length : Int) 4 ++ (wordsS (c.take j) ++ putS c[j] 4 ++ wordsS (c.drop (j + 1))) ++ putS e 4 ++ (putS (d.length : Int) 4 ++ d ++ putS wq 4 ++ putS mo 4) = ([83, 80, 88, 49] ++ putS (c.length : Int) 4 ++ wordsS (c.take j)) ++ putS c[j] 4 ++ (wordsS (c.drop (j + 1)) ++ putS e 4 ++ (putS (d.length : Int) 4 ++ d ++ putS wq 4 ++ putS mo 4)) by simp only [List.append_assoc]]
    have hb := hby c[j] (List.getElem_mem h2)
    exact N4_at _ _ _ _ hb.1 hb.2 (by simp only [List.length_append, hp, hj, List.length_cons, List.length_nil]; omega)
  have r9 : (x.length : Int) = 24 + 4 * c.length + d.length := by
    rw [q6]
    simp only [List.length_append, hp, hw, List.length_cons, List.length_nil]
    omega
  exact ⟨r0, r1, r3, r4, r5, r6, r7, r8, r9⟩
theorem readE_imgW (c : List Int) (e : Int) (d : List Int) (wq mo : Int) (hby : ∀ x ∈ c, 0 ≤ x ∧ x ≤ 4294967295) (hm : mayB c e d wq mo = true) : readE (imgW c e d wq mo) = 0 := by
  have hM : c.length ≤ 65536 ∧ (e = 0 ∨ 0 < e ∧ e < c.length) ∧ d.length ≤ 65536 ∧ 0 ≤ wq ∧ wq ≤ d.length ∧ 0 ≤ mo ∧ mo ≤ 65536 := of_decide_eq_true hm
  obtain ⟨h0, h1, h2, h3, h4, h5, _, _, h8⟩ := fields_w c e d wq mo hby hm
  have hI : rdI (imgW c e d wq mo) = 8 + 4 * rdN (imgW c e d wq mo) := rfl
  rw [readE_iff _ (by omega) (by omega), h2]
  exact ⟨by omega, h0, by omega, by omega, by omega, by omega, by omega, by omega⟩
theorem N4_take (x : List Int) (k : Nat) (i : Int) (h0 : 0 ≤ i) (h : i + 4 ≤ k) : N4 (x.take k) i = N4 x i := by
  unfold N4 mid
  rw [List.take_take, Nat.min_eq_left (by omega)]
/-- No beginning of an image is one. -/
theorem readE_pre (x : List Int) (hx : Bytes x) (h : readE x = 0) (k : Nat) (hk : k < x.length) : readE (x.take k) ≠ 0 := by
  intro hp
  have hb : Bytes (x.take k) := fun y hy => hx y (List.mem_of_mem_take hy)
  have n1 := N4_range hx 4
  have n2 := N4_range hx (rdI x + 4)
  have n3 := N4_range hb 4
  have n4 := N4_range hb (rdI (x.take k) + 4)
  obtain ⟨_, _, _, _, _, _, _, e1⟩ := (readE_iff x n1.1 n2.1).1 h
  obtain ⟨a1, _, _, _, _, _, _, e2⟩ := (readE_iff (x.take k) n3.1 n4.1).1 hp
  have hl : (x.take k).length = k := by rw [List.length_take]; omega
  have i0 : rdN (x.take k) = rdN x := N4_take x k 4 (by omega) (by omega)
  have i1 : rdI (x.take k) = rdI x := by unfold rdI; rw [i0]
  have i2 : rdZ (x.take k) = rdZ x := by
    unfold rdZ; rw [i1]
    have hI : rdI x = 8 + 4 * rdN x := rfl
    have : 0 ≤ rdN x := n1.1
    have : 0 ≤ rdZ (x.take k) := n4.1
    exact N4_take x k _ (by omega) (by omega)
  omega
theorem mid_cat (l : List Int) (i n m : Int) (h0 : 0 ≤ i) (hn : 0 ≤ n) (hm : 0 ≤ m) : mid l i n ++ mid l (i + n) m = mid l i (n + m) := by
  unfold mid
  have e1 : l.take (i + n).toNat = (l.take (i + n + m).toNat).take (i + n).toNat := by rw [List.take_take, Nat.min_eq_left (by omega)]
  rw [e1, ← Int.add_assoc]
  generalize l.take (i + n + m).toNat = q
  rw [List.drop_take, show (i + n).toNat = i.toNat + ((i + n).toNat - i.toNat) by omega, ← List.drop_drop, show i.toNat + ((i + n).toNat - i.toNat) - i.toNat = (i + n).toNat - i.toNat by omega, List.take_append_drop]
theorem mid_all (l : List Int) : mid l 0 l.length = l := by unfold mid; simp
theorem putS_word {s : List Int} (hs : Bytes s) (h : s.length = 4) : putS (wordOf s) 4 = s := by
  obtain ⟨r0, r1⟩ := wordOf_range hs
  rw [putS_four _ r0 r1]
  match s, h with
  | [a, b, c, d], _ =>
    have ha := hs a (by simp)
    have hb := hs b (by simp)
    have hc := hs c (by simp)
    have hd := hs d (by simp)
    unfold fourS wordOf
    simp
    omega
theorem putS_N4 {l : List Int} (h : Bytes l) (i : Int) (h0 : 0 ≤ i) (h1 : i + 4 ≤ l.length) : putS (N4 l i) 4 = mid l i 4 :=
  putS_word (h.mid i 4) (by have := mid_len (l := l) (i := i) (n := 4) h0 (by omega) h1; omega)
theorem wordsS_rd {l : List Int} (h : Bytes l) : ∀ k : Nat, 8 + 4 * (k : Int) ≤ l.length → wordsS (rdC l k) = mid l 8 (4 * (k : Int)) := by
  intro k
  induction k with
  | zero => intro _; unfold wordsS rdC mid; simp
  | succ k ih =>
    intro hk
    have hk' : 8 + 4 * (k : Int) + 4 ≤ l.length := by omega
    have e : wordsS (rdC l k ++ [N4 l (8 + 4 * (k : Int))]) = wordsS (rdC l k) ++ putS (N4 l (8 + 4 * (k : Int))) 4 := by unfold wordsS; simp
    rw [rdC_step, e, ih (by omega), putS_N4 h _ (by omega) hk', mid_cat l 8 _ 4 (by omega) (by omega) (by omega)]
    congr 1
/-- What is read is written as it stood. -/
theorem imgW_rd (l : List Int) (hl : Bytes l) (h : readE l = 0) : mayB (rdC l (rdN l).toNat) (rdE l) (rdD l) (rdW l) (rdM l) = true ∧ imgW (rdC l (rdN l).toNat) (rdE l) (rdD l) (rdW l) (rdM l) = l := by
  have n1 : 0 ≤ rdN l := (N4_range hl 4).1
  have n2 : 0 ≤ rdZ l := (N4_range hl (rdI l + 4)).1
  have n3 : 0 ≤ rdW l := (N4_range hl (rdI l + 8 + rdZ l)).1
  have n4 : 0 ≤ rdM l := (N4_range hl (rdI l + 8 + rdZ l + 4)).1
  obtain ⟨a1, a2, a3, a4, a5, a6, a7, a8⟩ := (readE_iff l n1 n2).1 h
  have hI : rdI l = 8 + 4 * rdN l := rfl
  have hd : ((rdD l).length : Int) = rdZ l := mid_len (by omega) (by omega) (by omega)
  have hc : ((rdC l (rdN l).toNat).length : Int) = rdN l := by rw [rdC_len]; omega
  refine ⟨decide_eq_true ⟨by omega, by omega, by omega, n3, by omega, n4, by omega⟩, ?_⟩
  have m0 : mid l 0 4 = [83, 80, 88, 49] := of_decide_eq_true a2
  have hN : (((rdN l).toNat : Nat) : Int) = rdN l := by omega
  unfold imgW
  rw [hc, hd, wordsS_rd hl _ (by omega), hN, ← m0]
  rw [show putS (rdN l) 4 = mid l (0 + 4) 4 from putS_N4 hl 4 (by omega) (by omega)]
  rw [show putS (rdE l) 4 = mid l (0 + (4 + 4 + 4 * rdN l)) 4 by rw [show 0 + (4 + 4 + 4 * rdN l) = rdI l by omega]; exact putS_N4 hl _ (by omega) (by omega)]
  rw [show putS (rdZ l) 4 = mid l (0 + (4 + 4 + 4 * rdN l + 4)) 4 by rw [show 0 + (4 + 4 + 4 * rdN l + 4) = rdI l + 4 by omega]; exact putS_N4 hl _ (by omega) (by omega)]
  rw [show rdD l = mid l (0 + (4 + 4 + 4 * rdN l + 4 + 4)) (rdZ l) by rw [show 0 + (4 + 4 + 4 * rdN l + 4 + 4) = rdI l + 8 by omega]; rfl]
  rw [show putS (rdW l) 4 = mid l (0 + (4 + 4 + 4 * rdN l + 4 + 4 + rdZ l)) 4 by rw [show 0 + (4 + 4 + 4 * rdN l + 4 + 4 + rdZ l) = rdI l + 8 + rdZ l by omega]; exact putS_N4 hl _ (by omega) (by omega)]
  rw [show putS (rdM l) 4 = mid l (0 + (4 + 4 + 4 * rdN l + 4 + 4 + rdZ l + 4)) 4 by rw [show 0 + (4 + 4 + 4 * rdN l + 4 + 4 + rdZ l + 4) = rdI l + 8 + rdZ l + 4 by omega]; exact putS_N4 hl _ (by omega) (by omega)]
  rw [show mid l 8 (4 * rdN l) = mid l (0 + (4 + 4)) (4 * rdN l) from rfl]
  rw [mid_cat l 0 4 4 (by omega) (by omega) (by omega), mid_cat l 0 _ _ (by omega) (by omega) (by omega), mid_cat l 0 _ _ (by omega) (by omega) (by omega), mid_cat l 0 _ _ (by omega) (by omega) (by omega), mid_cat l 0 _ _ (by omega) (by omega) (by omega), mid_cat l 0 _ _ (by omega) (by omega) (by omega), mid_cat l 0 _ _ (by omega) (by omega) (by omega)]
  rw [show 4 + 4 + 4 * rdN l + 4 + 4 + rdZ l + 4 + 4 = (l.length : Int) by omega, mid_all]
end Go.Proofs.Ytmcfihpbiilbcaa.H
