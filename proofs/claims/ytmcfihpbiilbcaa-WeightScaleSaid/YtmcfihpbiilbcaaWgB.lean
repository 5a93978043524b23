/- Profiles: edges, the weight of an edge and of a function. -/
import Derived.Test.YtmcfihpbiilbcaaWgA
namespace Go.Proofs.Ytmcfihpbiilbcaa.H
open Go.RowKit Go.Proofs.YtmcfihpbiilbcaaW.PrintWords Go.Proofs.YtmcfihpbiilbcaaW.PrintLast Go.Proofs.YtmcfihpbiilbcaaW.PrintMore Go.Proofs.Ytmcfihpbiilbcaa.E
set_option linter.unusedVariables false
set_option linter.unusedSimpArgs false
/-- A nonnegative float, no NaN. -/
def okF (x : Nat) : Prop := x ≤ 9218868437227405312
def addF (x y : Nat) : Nat := (FloatKind.f64.format.add x y).getD 0
theorem signed_pos (m k : Nat) : 0 ≤ Ieee.signed false m k := by
  show (0 : Int) ≤ ((m <<< k : Nat) : Int)
  exact Int.natCast_nonneg _
theorem signed_neg (m k : Nat) : Ieee.signed true m k ≤ 0 := by
  have h : (0 : Int) ≤ ((m <<< k : Nat) : Int) := Int.natCast_nonneg _
  show -((m <<< k : Nat) : Int) ≤ 0
  exact Int.neg_nonpos_of_nonneg h
theorem read_ok {x : Nat} (h : okF x) : (∃ m i, Ieee.double.read x = .number false m i) ∨ Ieee.double.read x = .infinity false := by
  unfold okF at h
  have e1 : Ieee.double.signWeight = 9223372036854775808 := by decide +kernel
  have e2 : Ieee.double.infRung = 9218868437227405312 := by decide +kernel
  have e3 : x % 9223372036854775808 = x := by omega
  have e4 : (x / 9223372036854775808 % 2 == 1) = false := by rw [show x / 9223372036854775808 = 0 by omega]; rfl
  unfold Ieee.Format.read
  simp only [e1, e2, e3, e4]
  split
  · exact .inl ⟨_, _, rfl⟩
  · split
    · exact .inl ⟨_, _, rfl⟩
    · rw [if_pos (by omega)]; exact .inr rfl
theorem nearest_ok (m : Nat) (p : Int) : okF (Ieee.double.nearest false m p) := by
  have e2 : Ieee.double.infRung = 9218868437227405312 := by decide +kernel
  unfold Ieee.Format.nearest okF
  split
  · show (0 : Nat) ≤ _; omega
  · simp only [Ieee.Format.word, Bool.false_eq_true, if_false, e2]
    omega
theorem inf_ok : okF (Ieee.double.word false Ieee.double.infRung) := by unfold okF; decide +kernel
theorem add_ok {x y : Nat} (hx : okF x) (hy : okF y) : FloatKind.f64.format.add x y = some (addF x y) ∧ okF (addF x y) := by
  have hs : ∃ r, Ieee.double.add x y = some r ∧ okF r := by
    unfold Ieee.Format.add
    rcases read_ok hx with ⟨m, i, h1⟩ | h1 <;> rcases read_ok hy with ⟨n, j, h2⟩ | h2 <;> rw [h1, h2] <;> simp only [Ieee.Datum.sum, if_pos, Option.map_some]
    · have ht : ¬ (Ieee.signed false m (i - min i j).toNat + Ieee.signed false n (j - min i j).toNat < 0) := by
        have h1 := signed_pos m (i - min i j).toNat
        have h2 := signed_pos n (j - min i j).toNat
        omega
      refine ⟨_, rfl, ?_⟩
      have : (if Ieee.signed false m (i - min i j).toNat + Ieee.signed false n (j - min i j).toNat = 0 then (false && false) else decide (Ieee.signed false m (i - min i j).toNat + Ieee.signed false n (j - min i j).toNat < 0)) = false := by
        split
        · rfl
        · exact decide_eq_false ht
      simp only [this]
      exact nearest_ok _ _
    · exact ⟨_, rfl, inf_ok⟩
    · exact ⟨_, rfl, inf_ok⟩
    · exact ⟨_, rfl, inf_ok⟩
  obtain ⟨r, h, ho⟩ := hs
  have h' : FloatKind.f64.format.add x y = some r := h
  unfold addF
  rw [h']
  exact ⟨rfl, ho⟩
theorem read_neg {x : Nat} (h : ¬ okF x) (hx : x < 18446744073709551616) : (∃ m i, Ieee.double.read x = .number true m i) ∨ Ieee.double.read x = .infinity true ∨ ∃ s t, Ieee.double.read x = .nan s t := by
  unfold okF at h
  have e1 : Ieee.double.signWeight = 9223372036854775808 := by decide +kernel
  have e2 : Ieee.double.infRung = 9218868437227405312 := by decide +kernel
  by_cases hs : x < 9223372036854775808
  · have e3 : x % 9223372036854775808 = x := by omega
    have e0 : Ieee.double.binade = 4503599627370496 := by decide +kernel
    unfold Ieee.Format.read
    simp only [e1, e2, e3, e0]
    rw [if_neg (by omega), if_neg (by omega), if_neg (by omega)]
    exact .inr (.inr ⟨_, _, rfl⟩)
  · have e4 : (x / 9223372036854775808 % 2 == 1) = true := by rw [show x / 9223372036854775808 = 1 by omega]; rfl
    unfold Ieee.Format.read
    simp only [e1, e2, e4]
    split
    · exact .inl ⟨_, _, rfl⟩
    · split
      · exact .inl ⟨_, _, rfl⟩
      · split
        · exact .inr (.inl rfl)
        · exact .inr (.inr ⟨_, _, rfl⟩)
theorem read0 : Ieee.double.read 0 = .number false 0 (-1074) := by decide +kernel
theorem clean_ok {x : Nat} (hx : x < 18446744073709551616) : okF (cleanF x) := by
  unfold cleanF
  split
  · unfold okF; omega
  · rename_i h1
    split
    · unfold okF; omega
    · rename_i h2
      split
      · unfold okF maxW; omega
      · refine Classical.byContradiction fun hn => ?_
        rcases read_neg hn hx with ⟨m, i, hr⟩ | hr | ⟨s, t, hr⟩
        · apply h2
          unfold leB fo
          show ((Ieee.double.read x).order (Ieee.double.read 0) == some .lt || (Ieee.double.read x).order (Ieee.double.read 0) == some .eq) = true
          rw [hr, read0]
          simp only [Ieee.Datum.order]
          have : compare (Ieee.signed true m (i - min i (-1074)).toNat) (Ieee.signed false 0 (-1074 - min i (-1074)).toNat) ≠ .gt := by
            rw [Ne, Int.compare_eq_gt]
            have h3 := signed_neg m (i - min i (-1074)).toNat
            have h4 := signed_pos 0 (-1074 - min i (-1074)).toNat
            omega
          revert this
          generalize compare (Ieee.signed true m (i - min i (-1074)).toNat) (Ieee.signed false 0 (-1074 - min i (-1074)).toNat) = o
          cases o <;> simp
        · apply h2
          unfold leB fo
          show ((Ieee.double.read x).order (Ieee.double.read 0) == some .lt || (Ieee.double.read x).order (Ieee.double.read 0) == some .eq) = true
          rw [hr, read0]
          rfl
        · apply h1
          unfold nanB fo
          show ((Ieee.double.read x).order (Ieee.double.read x) != some .eq) = true
          rw [hr]
          rfl
/-- An edge: a function's name, from, to, the weight's bits. -/
abbrev Edge := ByteArray × Int × Int × Nat
def KE : Kd Edge := Kd.pair Kd.string (Kd.pair (Kd.int .i64) (Kd.pair (Kd.int .i64) (Kd.scalar (Value.float .f64) (fun _ => rfl))))
def eCells (e : Edge) : List Value := [.string e.1, .int .i64 e.2.1, .int .i64 e.2.2.1, .float .f64 e.2.2.2]
theorem KE_K {w : World} {e : Edge} {cs : List Value} (h : KE.K w e cs) : cs = eCells e := by
  obtain ⟨c0, c1, rfl, h0, c2, c3, rfl, h2, c4, c5, rfl, h4, h5⟩ := h
  have a0 : c0 = [.string e.1] := h0
  have a1 : c2 = [.int .i64 e.2.1] := h2
  have a2 : c4 = [.int .i64 e.2.2.1] := h4
  have a3 : c5 = [.float .f64 e.2.2.2] := h5
  rw [a0, a1, a2, a3]
  rfl
abbrev CE (w : World) (A : Option Addr) (l : List Edge) : Prop := Kd.C KE w A l.length l
theorem edgeAt {w : World} {A : Option Addr} {l : List Edge} (h : CE w A l) (k : Nat) (hk : k < l.length) : ∃ ad, A = some ad ∧ ∀ i u, (eCells l[k])[i]? = some u → w.cell? (ad.add (k * 4 + i)) = some u := by
  obtain ⟨_, _, h3⟩ := h
  obtain ⟨ad, rfl, h4⟩ := h3 (by omega)
  obtain ⟨cs, _, hK, hc⟩ := h4 k l[k] (List.getElem?_eq_getElem hk)
  refine ⟨ad, rfl, fun i u hu => ?_⟩
  rw [← KE_K hK] at hu
  exact hc i u hu
/-- The weights that a loop has summed up. -/
def ofS (nm : ByteArray) (fr tq : Int) (l : List Edge) : Nat := l.foldl (fun s e => if e.1 = nm ∧ e.2.1 = fr ∧ e.2.2.1 = tq then addF s (cleanF e.2.2.2) else s) 0
def totS (nm : ByteArray) (l : List Edge) : Nat := l.foldl (fun s e => if e.1 = nm then addF s (cleanF e.2.2.2) else s) 0
theorem ofS_step (nm : ByteArray) (fr tq : Int) (l : List Edge) (k : Nat) (h : k < l.length) : ofS nm fr tq (l.take (k + 1)) = if l[k].1 = nm ∧ l[k].2.1 = fr ∧ l[k].2.2.1 = tq then addF (ofS nm fr tq (l.take k)) (cleanF l[k].2.2.2) else ofS nm fr tq (l.take k) := by
  unfold ofS
  rw [List.take_add_one, List.foldl_append, List.getElem?_eq_getElem h]
  rfl
theorem totS_step (nm : ByteArray) (l : List Edge) (k : Nat) (h : k < l.length) : totS nm (l.take (k + 1)) = if l[k].1 = nm then addF (totS nm (l.take k)) (cleanF l[k].2.2.2) else totS nm (l.take k) := by
  unfold totS
  rw [List.take_add_one, List.foldl_append, List.getElem?_eq_getElem h]
  rfl
theorem ofS_ok (nm : ByteArray) (fr tq : Int) (l : List Edge) (hl : ∀ e ∈ l, e.2.2.2 < 18446744073709551616) (k : Nat) (hk : k ≤ l.length) : okF (ofS nm fr tq (l.take k)) := by
  induction k with
  | zero => unfold ofS okF; simp
  | succ k ih =>
    rw [ofS_step nm fr tq l k (by omega)]
    split
    · exact (add_ok (ih (by omega)) (clean_ok (hl _ (List.getElem_mem _)))).2
    · exact ih (by omega)
theorem totS_ok (nm : ByteArray) (l : List Edge) (hl : ∀ e ∈ l, e.2.2.2 < 18446744073709551616) (k : Nat) (hk : k ≤ l.length) : okF (totS nm (l.take k)) := by
  induction k with
  | zero => unfold totS okF; simp
  | succ k ih =>
    rw [totS_step nm l k (by omega)]
    split
    · exact (add_ok (ih (by omega)) (clean_ok (hl _ (List.getElem_mem _)))).2
    · exact ih (by omega)
end Go.Proofs.Ytmcfihpbiilbcaa.H
