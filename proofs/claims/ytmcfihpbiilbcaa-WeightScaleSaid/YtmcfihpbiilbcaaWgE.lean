/- A profile's bytes: what stands where. Plain. -/
import Derived.Test.YtmcfihpbiilbcaaWgD
import Derived.Test.YtmcfihpbiilbcaaImgE
namespace Go.Proofs.Ytmcfihpbiilbcaa.H
open Go.RowKit Go.Proofs.YtmcfihpbiilbcaaW.PrintWords Go.Proofs.YtmcfihpbiilbcaaW.PrintLast Go.Proofs.YtmcfihpbiilbcaaW.PrintMore Go.Proofs.Ytmcfihpbiilbcaa.E
set_option linter.unusedVariables false
set_option linter.unusedSimpArgs false
theorem magicP_q (l : List Int) (h : Bytes l) : ((strOfNums (mid l 0 4)).toList == [83, 80, 80, 49]) = decide (mid l 0 4 = [83, 80, 80, 49]) := by
  have hk := strEq (mid l 0 4) [83, 80, 80, 49] (h.mid 0 4) (by intro x hx; simp at hx; omega)
  have e : (strOfNums [83, 80, 80, 49]).toList = [83, 80, 80, 49] := by rw [Lib.strOfNums_toList]; rfl
  rw [e] at hk
  exact hk
theorem wordOf_put2 (x : Int) (h0 : 0 ≤ x) (h1 : x ≤ 65535) : wordOf (putS x 2) = x := by
  unfold putS
  rw [show x % 4294967296 = x by omega]
  unfold fourS wordOf
  simp
  omega
theorem eB_spec {e : Edge} (h : eB e = true) : namedB e.1 = true ∧ e.1.size ≤ 32 ∧ 0 ≤ e.2.1 ∧ e.2.1 ≤ 65535 ∧ 0 ≤ e.2.2.1 ∧ e.2.2.1 ≤ 65535 := by
  unfold eB inB at h
  simp only [Bool.and_eq_true, decide_eq_true_eq] at h
  obtain ⟨⟨h1, h2⟩, h3⟩ := h
  exact ⟨h1, (nmS_len h1).2, h2.1, h2.2, h3.1, h3.2⟩
theorem pS_len_step (L : List Edge) (k : Nat) (hk : k < L.length) : ((pS L (k + 1)).length : Int) = (pS L k).length + 1 + (L[k].1.size : Int) + 2 + 2 + 8 := by
  rw [pS_step L k hk]
  unfold nmS
  simp only [List.length_append, putS2_len, fpS_len, List.length_cons, bytesOf_length]
  omega
theorem pS_split (L : List Edge) (k : Nat) (hk : k ≤ L.length) : ∃ rest, profS L = pS L k ++ rest := by
  refine ⟨((L.drop k).map eS).flatten, ?_⟩
  unfold profS pS
  have e : L = L.take k ++ L.drop k := (List.take_append_drop k L).symm
  rw [List.take_length]
  conv => lhs; rw [show (L.map eS).flatten = ((L.take k ++ L.drop k).map eS).flatten by rw [← e]]
  rw [List.map_append, List.flatten_append]
  simp only [List.append_assoc]
theorem dec (L : List Edge) (k : Nat) (hk : k < L.length) (he : eB L[k] = true) (hb : L[k].2.2.2 < 18446744073709551616) (i n : Int) (hi : i = (pS L k).length) (hn : n = (L[k].1.size : Int)) :
    nameLen (profS L) i = n ∧ nameOf (profS L) i = L[k].1 ∧ wordOf (mid (profS L) (i + 1 + n) 2) = L[k].2.1 ∧ wordOf (mid (profS L) (i + 1 + n + 2) 2) = L[k].2.2.1 ∧ (floatOf (profS L) (i + 1 + n + 2 + 2)).toNat = L[k].2.2.2 ∧ i + 1 + n + 2 + 2 + 8 ≤ (profS L).length := by
  obtain ⟨g1, g2, g3, g4, g5, g6⟩ := eB_spec he
  obtain ⟨rest, hr⟩ := pS_split L (k + 1) hk
  have hls := pS_len_step L k hk
  rw [pS_step L k hk] at hr
  obtain ⟨P, hP⟩ : ∃ P, P = pS L k := ⟨_, rfl⟩
  rw [← hP] at hr hi hls
  have hlen : i + 1 + n + 2 + 2 + 8 ≤ (profS L).length := by
    obtain ⟨rest2, hr2⟩ := pS_split L (k + 1) hk
    rw [hr2, List.length_append]
    omega
  generalize L[k] = E at *
  obtain ⟨nm, fr, tq, f⟩ := E
  simp only at *
  generalize profS L = b at *
  have hbl := bytesOf_length nm
  have q0 : b = P ++ [(nm.size : Int) % 256] ++ (bytesOf nm ++ putS fr 2 ++ putS tq 2 ++ fpS f ++ rest) := by rw [hr]; unfold nmS; simp only [List.append_assoc, List.cons_append, List.nil_append]
  have q1 : b = (P ++ [(nm.size : Int) % 256]) ++ bytesOf nm ++ (putS fr 2 ++ putS tq 2 ++ fpS f ++ rest) := by rw [hr]; unfold nmS; simp only [List.append_assoc, List.cons_append, List.nil_append]
  have q2 : b = (P ++ nmS nm) ++ putS fr 2 ++ (putS tq 2 ++ fpS f ++ rest) := by rw [hr]; simp only [List.append_assoc]
  have q3 : b = (P ++ nmS nm ++ putS fr 2) ++ putS tq 2 ++ (fpS f ++ rest) := by rw [hr]; simp only [List.append_assoc]
  have q4 : b = (P ++ nmS nm ++ putS fr 2 ++ putS tq 2) ++ fourS ((f : Int) % 4294967296) ++ (fourS ((f : Int) / 4294967296) ++ rest) := by rw [hr]; unfold fpS; simp only [List.append_assoc]
  have q5 : b = (P ++ nmS nm ++ putS fr 2 ++ putS tq 2 ++ fourS ((f : Int) % 4294967296)) ++ fourS ((f : Int) / 4294967296) ++ rest := by rw [hr]; unfold fpS; simp only [List.append_assoc]
  have hnl : ((nmS nm).length : Int) = 1 + n := by unfold nmS; rw [List.length_cons, hbl]; omega
  have m0 : mid b i 1 = [(nm.size : Int) % 256] := by rw [q0]; exact mid_at _ _ _ _ _ hi rfl
  have hNL : nameLen b i = n := by unfold nameLen; rw [m0, wordOf_one]; omega
  refine ⟨hNL, ?_, ?_, ?_, ?_, hlen⟩
  · unfold nameOf
    rw [hNL, q1, mid_at _ _ _ _ _ (by rw [List.length_append, List.length_singleton]; omega) (by omega)]
    exact strOfNums_bytesOf nm
  · have e0 : mid b (i + 1 + n) 2 = putS fr 2 := by
      rw [q2]; exact mid_at _ _ _ _ _ (by rw [List.length_append]; omega) rfl
    rw [e0]
    exact wordOf_put2 fr g3 g4
  · have e0 : mid b (i + 1 + n + 2) 2 = putS tq 2 := by
      rw [q3]; exact mid_at _ _ _ _ _ (by rw [List.length_append, List.length_append, putS2_len]; omega) rfl
    rw [e0]
    exact wordOf_put2 tq g5 g6
  · unfold floatOf
    have e0 : mid b (i + 1 + n + 2 + 2) 4 = fourS ((f : Int) % 4294967296) := by
      rw [q4]; exact mid_at _ _ _ _ _ (by simp only [List.length_append, putS2_len]; omega) rfl
    have e1 : mid b (i + 1 + n + 2 + 2 + 4) 4 = fourS ((f : Int) / 4294967296) := by
      rw [q5]; exact mid_at _ _ _ _ _ (by simp only [List.length_append, putS2_len, show (fourS ((f : Int) % 4294967296)).length = 4 from rfl]; omega) rfl
    rw [e0, e1, wordOf_four _ (by omega) (by omega), wordOf_four _ (by omega) (by omega)]
    omega
theorem dec0 (L : List Edge) (hl : L.length ≤ 2000) : mid (profS L) 0 4 = [83, 80, 80, 49] ∧ wordOf (mid (profS L) 4 2) = L.length ∧ 6 ≤ ((profS L).length : Int) ∧ ((pS L 0).length : Int) = 6 := by
  have q0 : profS L = [] ++ [83, 80, 80, 49] ++ (putS L.length 2 ++ ((L.take L.length).map eS).flatten) := by unfold profS pS; simp only [List.append_assoc, List.nil_append]
  have q1 : profS L = [83, 80, 80, 49] ++ putS L.length 2 ++ ((L.take L.length).map eS).flatten := by unfold profS pS; simp only [List.append_assoc]
  refine ⟨by rw [q0]; exact mid_at _ _ _ _ _ rfl rfl, ?_, ?_, ?_⟩
  · have e0 : mid (profS L) 4 2 = putS (L.length : Int) 2 := by rw [q1]; exact mid_at _ _ _ _ _ rfl rfl
    rw [e0]
    exact wordOf_put2 _ (by omega) (by omega)
  · rw [q1]; simp only [List.length_append, putS2_len, List.length_cons, List.length_nil]; omega
  · unfold pS; simp [putS2_len]
theorem profS_bytes (L : List Edge) (hl : ∀ e ∈ L, eB e = true ∧ e.2.2.2 < 18446744073709551616) (h2 : L.length ≤ 2000) : Bytes (profS L) := by
  have p2 : ∀ x : Int, 0 ≤ x → x ≤ 65535 → Bytes (putS x 2) := by
    intro x h0 h1 y hy
    unfold putS at hy
    exact bytes_four (x % 4294967296) (by omega) (by omega) y (List.mem_of_mem_take hy)
  have h4 : Bytes [83, 80, 80, 49] := by intro x hx; simp at hx; omega
  unfold profS pS
  refine (h4.append (p2 _ (by omega) (by omega))).append ?_
  intro y hy
  obtain ⟨s, hs, hy⟩ := List.mem_flatten.1 hy
  obtain ⟨e, he, rfl⟩ := List.mem_map.1 hs
  have hE := hl e (List.mem_of_mem_take he)
  obtain ⟨g1, g2, g3, g4, g5, g6⟩ := eB_spec hE.1
  have hf := hE.2
  have hn : Bytes (nmS e.1) := by
    intro z hz
    unfold nmS at hz
    rcases List.mem_cons.1 hz with rfl | hz
    · omega
    · exact bytes_of _ z hz
  unfold eS fpS at hy
  exact (((hn.append (p2 _ g3 g4)).append (p2 _ g5 g6)).append ((bytes_four _ (by omega) (by omega)).append (bytes_four _ (by omega) (by omega)))) y hy
end Go.Proofs.Ytmcfihpbiilbcaa.H
