/- What is read of whatever bytes is written as it stood: plain. -/
import Derived.Test.YtmcfihpbiilbcaaWgL
namespace Go.Proofs.Ytmcfihpbiilbcaa.H
open Go.RowKit Go.Proofs.YtmcfihpbiilbcaaW.PrintWords Go.Proofs.YtmcfihpbiilbcaaW.PrintLast Go.Proofs.YtmcfihpbiilbcaaW.PrintMore Go.Proofs.Ytmcfihpbiilbcaa.E
set_option linter.unusedVariables false
set_option linter.unusedSimpArgs false
theorem take_cat (l : List Int) (i n : Int) (h0 : 0 ≤ i) (hn : 0 ≤ n) : l.take (i + n).toNat = l.take i.toNat ++ mid l i n := by
  unfold mid
  have h : l.take i.toNat = (l.take (i + n).toNat).take i.toNat := by rw [List.take_take, Nat.min_eq_left (by omega)]
  rw [h, List.take_append_drop]
theorem putS2_word {s : List Int} (hs : Bytes s) (h : s.length = 2) : putS (wordOf s) 2 = s := by
  match s, h with
  | [a, b], _ =>
    have ha := hs a (by simp)
    have hb := hs b (by simp)
    unfold putS wordOf fourS
    simp
    omega
theorem fourS_word {s : List Int} (hs : Bytes s) (h : s.length = 4) : fourS (wordOf s) = s := by
  match s, h with
  | [a, b, c, d], _ =>
    have ha := hs a (by simp)
    have hb := hs b (by simp)
    have hc := hs c (by simp)
    have hd := hs d (by simp)
    unfold fourS wordOf
    simp
    omega
theorem bytesOf_strOfNums (s : List Int) (h : Bytes s) : bytesOf (strOfNums s) = s := by
  have e : ∀ M : List Int, Bytes M → (M.map fun n => UInt8.ofNat n.toNat).map (fun b => (b.toNat : Int)) = M := by
    intro M hM
    rw [List.map_map]
    conv => rhs; rw [← List.map_id M]
    apply List.map_congr_left
    intro x hx
    have := hM x hx
    simp
    omega
  have h2 := e s h
  refine Eq.trans ?_ h2
  unfold bytesOf
  rw [strOfNums_data]
/-- The first bytes, up to i, are those of edges. -/
def Pre (l : List Int) (n : Int) (L : List Edge) (i : Int) : Prop :=
  0 ≤ i ∧ i ≤ l.length ∧ l.take i.toNat = [83, 80, 80, 49] ++ putS n 2 ++ (L.map eS).flatten ∧ ∀ e ∈ L, eB e = true ∧ e.2.2.2 < 18446744073709551616
theorem pre0 {l : List Int} (hl : Bytes l) (h6 : 6 ≤ (l.length : Int)) (hm : mid l 0 4 = [83, 80, 80, 49]) : Pre l (wordOf (mid l 4 2)) [] 6 := by
  refine ⟨by omega, h6, ?_, fun e he => by cases he⟩
  have e1 := take_cat l 4 2 (by omega) (by omega)
  have e2 := take_cat l 0 4 (by omega) (by omega)
  rw [hm] at e2
  have e3 : l.take (4 : Int).toNat = [83, 80, 80, 49] := by simpa using e2
  rw [e3] at e1
  rw [putS2_word (hl.mid 4 2) (by have := mid_len (l := l) (i := 4) (n := 2) (by omega) (by omega) (by omega); omega)]
  simpa using e1
theorem mid_l {l : List Int} {i : Int} (n : Int) (h0 : 0 ≤ i) (hn : 0 ≤ n) (h1 : i + n ≤ l.length) : (mid l i n).length = n.toNat := by
  have := mid_len (l := l) h0 hn h1
  omega
theorem pre_step {l : List Int} {n : Int} {L : List Edge} {i : Int} (hp : Pre l n L i) (hl : Bytes l) (z : Int) (hz : z = nameLen l i) (h1 : i + 1 + z + 2 + 2 + 8 ≤ l.length) (hN : namedB (nameOf l i) = true) :
    Pre l n (L ++ [(nameOf l i, wordOf (mid l (i + 1 + z) 2), wordOf (mid l (i + 1 + z + 2) 2), (floatOf l (i + 1 + z + 2 + 2)).toNat)]) (i + 1 + z + 2 + 2 + 8) := by
  obtain ⟨h0, hi, ht, hL⟩ := hp
  have hnr := wordOf_range (hl.mid i 1)
  have hz0 : 0 ≤ z := by rw [hz]; exact hnr.1
  have hsz : ((nameOf l i).size : Int) = z := by
    unfold nameOf
    rw [strOfNums_size, ← hz, mid_l z (by omega) hz0 (by omega)]
    omega
  have hz32 : z ≤ 32 := by
    have : (nameOf l i).size ≤ 32 := by unfold namedB at hN; simp at hN; omega
    omega
  have b1 := hl.mid (i + 1 + z) 2
  have b2 := hl.mid (i + 1 + z + 2) 2
  have b3 := hl.mid (i + 1 + z + 2 + 2) 4
  have b4 := hl.mid (i + 1 + z + 2 + 2 + 4) 4
  have r3 := wordOf_range b3
  have r4 := wordOf_range b4
  have p1 : putS (wordOf (mid l (i + 1 + z) 2)) 2 = mid l (i + 1 + z) 2 := putS2_word b1 (mid_l 2 (by omega) (by omega) (by omega))
  have p2 : putS (wordOf (mid l (i + 1 + z + 2) 2)) 2 = mid l (i + 1 + z + 2) 2 := putS2_word b2 (mid_l 2 (by omega) (by omega) (by omega))
  have hF0 : floatOf l (i + 1 + z + 2 + 2) = wordOf (mid l (i + 1 + z + 2 + 2) 4) + 4294967296 * wordOf (mid l (i + 1 + z + 2 + 2 + 4) 4) := rfl
  have hf : (((floatOf l (i + 1 + z + 2 + 2)).toNat : Nat) : Int) = wordOf (mid l (i + 1 + z + 2 + 2) 4) + 4294967296 * wordOf (mid l (i + 1 + z + 2 + 2 + 4) 4) := by omega
  have p3 : fpS (floatOf l (i + 1 + z + 2 + 2)).toNat = mid l (i + 1 + z + 2 + 2) 4 ++ mid l (i + 1 + z + 2 + 2 + 4) 4 := by
    unfold fpS
    rw [hf, show (wordOf (mid l (i + 1 + z + 2 + 2) 4) + 4294967296 * wordOf (mid l (i + 1 + z + 2 + 2 + 4) 4)) % 4294967296 = wordOf (mid l (i + 1 + z + 2 + 2) 4) by omega,
      show (wordOf (mid l (i + 1 + z + 2 + 2) 4) + 4294967296 * wordOf (mid l (i + 1 + z + 2 + 2 + 4) 4)) / 4294967296 = wordOf (mid l (i + 1 + z + 2 + 2 + 4) 4) by omega,
      fourS_word b3 (mid_l 4 (by omega) (by omega) (by omega)), fourS_word b4 (mid_l 4 (by omega) (by omega) (by omega))]
  have p0 : nmS (nameOf l i) = mid l i 1 ++ mid l (i + 1) z := by
    unfold nmS
    rw [hsz]
    have e1 : mid l i 1 = [z] := by
      have hlen := mid_l (l := l) 1 h0 (by omega) (by omega)
      match hm : mid l i 1, hlen with
      | [x], _ =>
        have : nameLen l i = x := by unfold nameLen; rw [hm, wordOf_one]
        rw [hz, this]
    rw [e1]
    have e2 : bytesOf (nameOf l i) = mid l (i + 1) z := by unfold nameOf; rw [← hz]; exact bytesOf_strOfNums _ (hl.mid _ _)
    rw [e2, show z % 256 = z by omega]
    rfl
  refine ⟨by omega, h1, ?_, ?_⟩
  · have t1 := take_cat l i 1 h0 (by omega)
    have t2 := take_cat l (i + 1) z (by omega) hz0
    have t3 := take_cat l (i + 1 + z) 2 (by omega) (by omega)
    have t4 := take_cat l (i + 1 + z + 2) 2 (by omega) (by omega)
    have t5 := take_cat l (i + 1 + z + 2 + 2) 4 (by omega) (by omega)
    have t6 := take_cat l (i + 1 + z + 2 + 2 + 4) 4 (by omega) (by omega)
    rw [show i + 1 + z + 2 + 2 + 8 = i + 1 + z + 2 + 2 + 4 + 4 by omega, t6, t5, t4, t3, t2, t1, ht]
    rw [List.map_append, List.flatten_append]
    simp only [List.map_cons, List.map_nil, List.flatten_cons, List.flatten_nil, List.append_nil]
    unfold eS
    simp only
    rw [p0, p1, p2, p3]
    simp only [List.append_assoc]
  · intro e he
    rcases List.mem_append.1 he with he | he
    · exact hL e he
    · obtain rfl := List.mem_singleton.1 he
      have w1 : ∀ s : List Int, Bytes s → s.length = 2 → 0 ≤ wordOf s ∧ wordOf s ≤ 65535 := by
        intro s hs h2
        match s, h2 with
        | [a, b], _ =>
          have ha := hs a (by simp)
          have hb := hs b (by simp)
          unfold wordOf
          simp
          omega
      have q1 := w1 _ b1 (mid_l 2 (by omega) (by omega) (by omega))
      have q2 := w1 _ b2 (mid_l 2 (by omega) (by omega) (by omega))
      refine ⟨?_, by show (floatOf l (i + 1 + z + 2 + 2)).toNat < _; omega⟩
      unfold eB inB
      simp only [hN, Bool.true_and, Bool.and_eq_true, decide_eq_true_eq]
      exact ⟨q1, q2⟩
theorem pre_end {l : List Int} {n : Int} {L : List Edge} {i : Int} (hp : Pre l n L i) (hi : ¬ i < l.length) (hn : n = L.length) : l = profS L := by
  obtain ⟨h0, h1, ht, _⟩ := hp
  rw [List.take_of_length_le (by omega), hn] at ht
  rw [ht]
  unfold profS pS
  rw [List.take_length]
theorem float_cut (B : Nat) (l : List Int) (i : Int) (w : World) (h : Sc w B l i) (h0 : 0 ≤ i) (h1 : i ≤ l.length) (h8 : (l.length : Int) < i + 8) (hl : l.length ≤ 140737488351232) :
    Calls Try.prog 43 #[.pointer (some ⟨B, 0, none⟩)] w fun e w' => e = .panicked (fail_ 2) ∧ Aft B w w' := by
  have HS := hid h
  clear h
  go_enter Try.func43, Try.ntmps43
  go_wp2_with fail
  refine (bytes_no B l i 8 _ HS.out h0 h1 hl (by omega)).mono ?_
  rintro e w2 ⟨rfl, hd⟩
  exact ⟨rfl, rfl, Aft.drawn hd⟩
end Go.Proofs.Ytmcfihpbiilbcaa.H
