/- Plain laws of layer 5: what the functions of store and of its reference come to. -/
import Derived.Test.YtkolcgnembaghaaBitsC
namespace Go.Proofs.Ytkolcgnembaghaa.H
open Go.RowKit Go.Proofs.YtkolcgnembaghaaW.PrintWords Go.Proofs.YtkolcgnembaghaaW.PrintLast Go.Proofs.YtkolcgnembaghaaW.PrintMore Go.Proofs.Ytkolcgnembaghaa.F
set_option linter.unusedVariables false
set_option linter.unusedSimpArgs false

def szS (wide : Bool) : Int := if wide then 4 else 1
/-- May what stands at an address be loaded? n: how many bytes there are. -/
def okS (n : Nat) (at_ : Int) (wide : Bool) : Bool := decide (65536 ≤ at_) && decide (at_ - 65536 + szS wide ≤ n) && decide ((at_ - 65536) % szS wide = 0)
def segS (l : List Int) (at_ : Int) (wide : Bool) : List Int := (l.take (at_ - 65536 + szS wide).toNat).drop (at_ - 65536).toNat
def loadS (l : List Int) (at_ : Int) (wide : Bool) : Int × Bool := if okS l.length at_ wide then (wordOf (segS l at_ wide), true) else (0, false)

theorem szS_range (wide : Bool) : szS wide = 4 ∨ szS wide = 1 := by cases wide <;> simp [szS]
theorem size_eq (wide : Bool) : store_size.f wide = some (szS wide) := by cases wide <;> rfl

theorem place_eq (n0 : Int) (l : List Int) (at_ : Int) (wide : Bool) (hl : l.length ≤ 4611686018427387904) (h0 : 0 ≤ at_) (h1 : at_ ≤ 4294967295) : store_place.f n0 l at_ wide = some (at_ - 65536, okS l.length at_ wide) := by
  unfold store_place.f okS
  rw [size_eq, Option.bind_some, wrap64_id (x := at_) (by omega) (by omega), wrap64_id (x := at_ - 65536) (by omega) (by omega)]
  have hs := szS_range wide
  by_cases c1 : at_ - 65536 ≥ 0
  · rw [if_pos c1, wrap64_id (by omega) (by omega)]
    by_cases c2 : at_ - 65536 + szS wide ≤ (l.length : Int)
    · rw [if_pos c2, if_neg (by omega), Int.tmod_eq_emod_of_nonneg c1]
      have : 65536 ≤ at_ := by omega
      simp only [this, c2, decide_true, Bool.true_and]
      rfl
    · rw [if_neg c2]; simp [c2]
  · rw [if_neg c1]
    have : ¬ 65536 ≤ at_ := by omega
    simp [this]

theorem okS_true {n : Nat} {at_ : Int} {wide : Bool} (h : okS n at_ wide = true) : 65536 ≤ at_ ∧ at_ - 65536 + szS wide ≤ n ∧ (at_ - 65536) % szS wide = 0 := by
  unfold okS at h; simp at h; exact ⟨h.1.1, h.1.2, h.2⟩

theorem segS_length {l : List Int} {at_ : Int} {wide : Bool} (h : okS l.length at_ wide = true) : (segS l at_ wide).length = (szS wide).toNat := by
  obtain ⟨h1, h2, h3⟩ := okS_true h
  have hs := szS_range wide
  unfold segS
  rw [List.length_drop, List.length_take]; omega

theorem Bytes.sub {l m : List Int} (h : Bytes l) (hm : ∀ x ∈ m, x ∈ l) : Bytes m := fun x hx => h x (hm x hx)
theorem Bytes.seg {l : List Int} (h : Bytes l) (at_ : Int) (wide : Bool) : Bytes (segS l at_ wide) := h.sub fun x hx => List.mem_of_mem_take (List.mem_of_mem_drop hx)

theorem load_eq (n0 : Int) (l : List Int) (at_ : Int) (wide : Bool) (hB : Bytes l) (hl : l.length ≤ 4611686018427387904) (h0 : 0 ≤ at_) (h1 : at_ ≤ 4294967295) : store_Load.f 5 n0 l at_ wide = some (loadS l at_ wide) := by
  unfold store_Load.f loadS
  rw [place_eq n0 l at_ wide hl h0 h1, Option.bind_some]
  by_cases c : okS l.length at_ wide = true
  · simp only [c, if_true, size_eq, Option.bind_some]
    obtain ⟨a1, a2, a3⟩ := okS_true c
    have hs := szS_range wide
    rw [if_pos (by omega), wrap64_id (by omega) (by omega), if_pos (by omega), if_pos (by omega)]
    have := bitsGet_eq (segS l at_ wide) (hB.seg at_ wide)
    unfold segS at this
    rw [this]; rfl
  · simp only [c, if_false, Bool.false_eq_true]

theorem There_eq (n0 : Int) (l : List Int) (a : Int) (h0 : -4294967296 ≤ a) (h1 : a ≤ 4294967300) : spliceref05_There.f n0 l a = some (decide (65536 ≤ a) && decide (a - 65536 < l.length)) := by
  unfold spliceref05_There.f
  by_cases c : a ≥ 65536
  · rw [if_pos c, wrap64_id (by omega) (by omega)]; simp [show 65536 ≤ a from c]
  · rw [if_neg c]; simp [show ¬ 65536 ≤ a from c]

theorem segS_one {l : List Int} {at_ : Int} (h : okS l.length at_ false = true) : segS l at_ false = [rd l (at_ - 65536)] := by
  obtain ⟨h1, h2, h3⟩ := okS_true h
  have h2' : at_ - 65536 + 1 ≤ l.length := h2
  have hl : (at_ - 65536).toNat < l.length := by omega
  unfold segS rd
  rw [show (at_ - 65536 + szS false).toNat = (at_ - 65536).toNat + 1 by simp [szS]; omega, List.take_succ_eq_append_getElem hl, List.drop_left' (by rw [List.length_take]; omega), List.getD_eq_getElem?_getD, List.getElem?_eq_getElem hl]
  rfl
theorem j0_true (k : Nat) (x2 : Bool) (x8 a : Int) (l : List Int) : spliceref05_Load.j0 (k + 1) x2 x8 true a l = some (0, false) := by
  simp only [spliceref05_Load.j0]; rfl
theorem j0_wide (n0 : Int) (l : List Int) (at_ : Int) (hB : Bytes l) (h0 : 0 ≤ at_) (h1 : at_ ≤ 4294967295) (h : okS l.length at_ true = true) : spliceref05_Load.j0 6 true at_ false n0 l = some (wordOf (segS l at_ true), true) := by
  obtain ⟨a1, a2, a3⟩ := okS_true h
  have a2' : at_ - 65536 + 4 ≤ l.length := a2
  simp only [spliceref05_Load.j0, Bool.false_eq_true, if_false, if_true]
  rw [wrap64_id (x := at_ - 65536) (by omega) (by omega), if_pos (by omega), wrap64_id (x := at_ - 65536 + 4) (by omega) (by omega), if_pos (by omega), if_pos (by omega)]
  have := refGet_eq (segS l at_ true) (hB.seg at_ true)
  unfold segS at this
  rw [show szS true = 4 from rfl] at this
  rw [this]; rfl
theorem j0_byte (n0 : Int) (l : List Int) (at_ : Int) (hB : Bytes l) (h0 : 0 ≤ at_) (h1 : at_ ≤ 4294967295) (h : okS l.length at_ false = true) : spliceref05_Load.j0 6 false at_ false n0 l = some (wordOf (segS l at_ false), true) := by
  obtain ⟨a1, a2, a3⟩ := okS_true h
  have a2' : at_ - 65536 + 1 ≤ l.length := a2
  simp only [spliceref05_Load.j0, Bool.false_eq_true, if_false]
  rw [wrap64_id (x := at_ - 65536) (by omega) (by omega), if_pos (by omega), if_pos (by omega), segS_one h]
  have hb := hB.get (at_ - 65536).toNat
  have e : rd l (at_ - 65536) = l.getD (at_ - 65536).toNat 0 := rfl
  have e2 : wordOf [rd l (at_ - 65536)] = rd l (at_ - 65536) := by simp [wordOf]
  rw [e2]
  congr 2
  omega

theorem refload_eq (n0 : Int) (l : List Int) (at_ : Int) (wide : Bool) (hB : Bytes l) (h0 : 0 ≤ at_) (h1 : at_ ≤ 4294967295) : spliceref05_Load.f 6 n0 l at_ wide = some (loadS l at_ wide) := by
  unfold spliceref05_Load.f loadS
  rw [wrap64_id (x := at_) (by omega) (by omega), There_eq n0 l at_ (by omega) (by omega), Option.bind_some]
  by_cases c1 : 65536 ≤ at_ ∧ at_ - 65536 < l.length
  · obtain ⟨c2, c3⟩ := c1
    simp only [c2, c3, decide_true, Bool.true_and, if_true]
    cases wide
    · have ho : okS l.length at_ false = true := by unfold okS; simp [szS]; omega
      rw [if_neg (by simp), j0_byte n0 l at_ hB h0 h1 ho, ho, if_pos rfl]
    · rw [if_pos rfl, Int.tmod_eq_emod_of_nonneg h0]
      by_cases c4 : at_ % 4 = 0
      · rw [if_pos c4, wrap64_id (x := at_ + 3) (by omega) (by omega), There_eq n0 l (at_ + 3) (by omega) (by omega), Option.bind_some]
        by_cases c5 : at_ + 3 - 65536 < l.length
        · have ho : okS l.length at_ true = true := by unfold okS; simp [szS]; omega
          have e : (!(decide (65536 ≤ at_ + 3) && decide (at_ + 3 - 65536 < (l.length : Int)))) = false := by simp; omega
          rw [e, j0_wide n0 l at_ hB h0 h1 ho, ho, if_pos rfl]
        · have ho : okS l.length at_ true = false := by unfold okS; simp [szS]; omega
          have e : (!(decide (65536 ≤ at_ + 3) && decide (at_ + 3 - 65536 < (l.length : Int)))) = true := by simp; omega
          rw [e, j0_true, ho, if_neg (by simp)]
      · have ho : okS l.length at_ true = false := by unfold okS; simp [szS]; omega
        rw [if_neg c4, j0_true, ho, if_neg (by simp)]
  · have ho : okS l.length at_ wide = false := by
      have hs := szS_range wide
      cases h : okS l.length at_ wide
      · rfl
      · have := okS_true h; omega
    have e : (decide (65536 ≤ at_) && decide (at_ - 65536 < (l.length : Int))) = false := by simp; omega
    rw [e, if_neg (by simp), j0_true, ho, if_neg (by simp)]

theorem refmemsame_eq (n m : Int) (a b : List Int) (hL : a.length ≤ 4611686018427387904) : spliceref05_Same.f (a.length + 1) n a m b = some (decide (n = m ∧ a = b)) := by
  unfold spliceref05_Same.f
  by_cases h : n = m
  · rw [if_pos h, refSame_eq a b hL, Option.bind_some]; simp [h]
  · rw [if_neg h]; simp [h]

/-- The bytes that are saved. -/
def bsS (w : Int) (wide : Bool) : List Int := if wide then [w % 256, w / 256 % 256, w / 65536 % 256, w / 16777216] else [w % 256]
/-- May a word be saved? -/
def mayS (n : Int) (len : Nat) (at_ : Int) (wide : Bool) : Bool := okS len at_ wide && !decide (at_ - 65536 < n)
def putAt (l : List Int) (i : Nat) (bs : List Int) : List Int := l.take i ++ bs ++ l.drop (i + bs.length)
theorem bsS_length (w : Int) (wide : Bool) : (bsS w wide).length = (szS wide).toNat := by cases wide <;> rfl
theorem putAt_length {l : List Int} {i : Nat} {bs : List Int} (h : i + bs.length ≤ l.length) : (putAt l i bs).length = l.length := by
  unfold putAt; rw [List.length_append, List.length_append, List.length_take, List.length_drop]; omega
theorem bsS_bytes (w : Int) (wide : Bool) (h0 : 0 ≤ w) (h1 : w ≤ 4294967295) : Bytes (bsS w wide) := by
  intro x hx
  cases wide
  · simp [bsS] at hx; omega
  · simp [bsS] at hx; omega
theorem putAt_bytes {l : List Int} {i : Nat} {bs : List Int} (hl : Bytes l) (hb : Bytes bs) : Bytes (putAt l i bs) := by
  intro x hx
  unfold putAt at hx
  rw [List.mem_append, List.mem_append] at hx
  rcases hx with (h | h) | h
  · exact hl x (List.mem_of_mem_take h)
  · exact hb x h
  · exact hl x (List.mem_of_mem_drop h)
/-- The bytes behind a save. -/
def savedS (n : Int) (l : List Int) (at_ w : Int) (wide : Bool) : List Int := if mayS n l.length at_ wide then putAt l (at_ - 65536).toNat (bsS w wide) else l
end Go.Proofs.Ytkolcgnembaghaa.H
