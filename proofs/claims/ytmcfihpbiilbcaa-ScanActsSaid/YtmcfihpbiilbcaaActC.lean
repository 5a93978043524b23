/- ScanActs: step and does in one; how far the acts have come; plain. -/
import Derived.Test.YtmcfihpbiilbcaaActB
namespace Go.Proofs.Ytmcfihpbiilbcaa.H
open Go.RowKit Go.Proofs.YtmcfihpbiilbcaaW.PrintWords Go.Proofs.YtmcfihpbiilbcaaW.PrintLast Go.Proofs.YtmcfihpbiilbcaaW.PrintMore Go.Proofs.Ytmcfihpbiilbcaa.F
set_option linter.unusedVariables false
set_option linter.unusedSimpArgs false
def need (b : List Int) (d n : Int) : Int := if d = 0 then 1 + n % 4 else if d = 1 then n else if d = 2 then 1 + nameLen b 0 else if d = 3 then 8 else if d = 4 then 2 else 0
def badB (b : List Int) (d n : Int) : Bool := (decide (d = 2) && !namedB (nameOf b 0)) || (decide (d = 4) && decide (n < wordOf (mid b 0 2)))
def stepE (b : List Int) (d n : Int) : Int := if (b.length : Int) < need b d n then 2 else if badB b d n = true then 4 else 0
def stepN (b : List Int) (d n : Int) : Int := if stepE b d n = 0 then need b d n else 0
theorem need0 (b : List Int) (n : Int) : need b 0 n = 1 + n % 4 := rfl
theorem need1 (b : List Int) (n : Int) : need b 1 n = n := rfl
theorem need2 (b : List Int) (n : Int) : need b 2 n = 1 + nameLen b 0 := rfl
theorem need3 (b : List Int) (n : Int) : need b 3 n = 8 := rfl
theorem need4 (b : List Int) (n : Int) : need b 4 n = 2 := rfl
theorem needx (b : List Int) (d n : Int) (g0 : ¬ d = 0) (g1 : ¬ d = 1) (g2 : ¬ d = 2) (g3 : ¬ d = 3) (g4 : ¬ d = 4) : need b d n = 0 := by
  unfold need
  rw [if_neg g0, if_neg g1, if_neg g2, if_neg g3, if_neg g4]
theorem bad_no {b : List Int} {d n : Int} (g2 : ¬ d = 2) (g4 : ¬ d = 4) : badB b d n = false := by
  unfold badB
  rw [decide_eq_false g2, decide_eq_false g4]
  rfl
theorem bad2 (b : List Int) (n : Int) : badB b 2 n = !namedB (nameOf b 0) := by
  unfold badB
  simp
theorem bad4 (b : List Int) (n : Int) : badB b 4 n = decide (n < wordOf (mid b 0 2)) := by
  unfold badB
  simp
theorem stepE_s {b : List Int} {d n : Int} (h : (b.length : Int) < need b d n) : stepE b d n = 2 := if_pos h
theorem stepE_b {b : List Int} {d n : Int} (h : ¬ (b.length : Int) < need b d n) (hb : badB b d n = true) : stepE b d n = 4 := by
  unfold stepE
  rw [if_neg h, if_pos hb]
theorem stepE_k {b : List Int} {d n : Int} (h : ¬ (b.length : Int) < need b d n) (hb : badB b d n = false) : stepE b d n = 0 := by
  unfold stepE
  rw [if_neg h, if_neg (by rw [hb]; decide)]
theorem stepE_ok {b : List Int} {d n : Int} (h : stepE b d n = 0) : ¬ (b.length : Int) < need b d n ∧ badB b d n = false := by
  unfold stepE at h
  split at h
  · omega
  · split at h
    · omega
    · rename_i h1 h2
      exact ⟨h1, by cases hb : badB b d n; rfl; exact absurd hb h2⟩
theorem stepN_no {b : List Int} {d n : Int} (h : ¬ stepE b d n = 0) : stepN b d n = 0 := if_neg h
theorem stepN_ok {b : List Int} {d n : Int} (h : stepE b d n = 0) : stepN b d n = need b d n := if_pos h
theorem nameLen_nn {b : List Int} (hb : Bytes b) (i : Int) : 0 ≤ nameLen b i := (wordOf_range (hb.mid i 1)).1
theorem step_c (A : Option Addr) (c : Nat) (b : List Int) (d n : Int) (w : World) (hC : CB w A b) (hc : b.length ≤ c) (hb : Bytes b) (hl : b.length ≤ 1000) (n0 : 0 ≤ n) (n1 : n ≤ 65535) :
    Calls Try.prog 38 #[.slice A b.length c, .agg #[.int .i64 d, .int .i64 n]] w fun e w' => e = .returned (.tuple #[.int .i64 (stepN b d n), .int .i64 (stepE b d n)]) ∧ Below w.heap.size w w' := by
  have hzn := nameLen_nn hb 0
  by_cases hs : (b.length : Int) < need b d n
  · have hE := stepE_s hs
    rw [stepN_no (by omega), hE]
    by_cases g0 : d = 0
    · subst g0; exact step0_s A c b n w hC hc hb hl n0 n1 hs
    by_cases g1 : d = 1
    · subst g1; exact step1_s A c b n w hC hc hb hl n0 n1 hs
    by_cases g2 : d = 2
    · subst g2
      rw [need2] at hs
      by_cases h0 : (b.length : Int) = 0
      · exact step2_e A c b n w hC hc hb hl n0 n1 h0
      · exact step2_s A c b n w hC hc hb hl n0 n1 (nameLen b 0) rfl (by omega) hs
    by_cases g3 : d = 3
    · subst g3; exact step3_s A c b n w hC hc hb hl n0 n1 hs
    by_cases g4 : d = 4
    · subst g4; exact step4_s A c b n w hC hc hb hl n0 n1 hs
    rw [needx b d n g0 g1 g2 g3 g4] at hs
    omega
  · by_cases g2 : d = 2
    · subst g2
      rw [need2] at hs
      cases hN : namedB (nameOf b 0)
      · have hE : stepE b 2 n = 4 := stepE_b hs (by rw [bad2, hN]; rfl)
        rw [stepN_no (by omega), hE]
        exact step2_b A c b n w hC hc hb hl n0 n1 (nameLen b 0) rfl (by omega) hs hN
      · have hE : stepE b 2 n = 0 := stepE_k hs (by rw [bad2, hN]; rfl)
        rw [stepN_ok hE, hE]
        exact step2_k A c b n w hC hc hb hl n0 n1 (nameLen b 0) rfl (by omega) hs hN
    by_cases g4 : d = 4
    · subst g4
      by_cases hN : n < wordOf (mid b 0 2)
      · have hE : stepE b 4 n = 4 := stepE_b hs (by rw [bad4, decide_eq_true hN])
        rw [stepN_no (by omega), hE]
        exact step4_b A c b n w hC hc hb hl n0 n1 hs hN
      · have hE : stepE b 4 n = 0 := stepE_k hs (by rw [bad4, decide_eq_false hN])
        rw [stepN_ok hE, hE]
        exact step4_k A c b n w hC hc hb hl n0 n1 hs hN
    have hE := stepE_k hs (bad_no g2 g4)
    rw [stepN_ok hE, hE]
    by_cases g0 : d = 0
    · subst g0; exact step0_k A c b n w hC hc hb hl n0 n1 hs
    by_cases g1 : d = 1
    · subst g1; exact step1_k A c b n w hC hc hb hl n0 n1 hs
    by_cases g3 : d = 3
    · subst g3; exact step3_k A c b n w hC hc hb hl n0 n1 hs
    rw [needx b d n g0 g1 g2 g3 g4]
    exact stepx_k A c b d n w hC hc hb hl n0 n1 g0 g1 g2 g3 g4
theorem does_c (B : Nat) (l bb : List Int) (i : Int) (A : Option Addr) (c : Nat) (d n : Int) (w : World) (h : Sc w B l i) (h0 : 0 ≤ i) (h1 : i ≤ l.length) (hl : l.length ≤ 1000) (hby : Bytes l) (hbb : bb = l.drop i.toNat) (hC : CB w A bb) (hc : bb.length ≤ c) (hne : 0 < bb.length → ∀ a, A = some a → a.block ≠ B) (n0 : 0 ≤ n) (n1 : n ≤ 65535) (hok : stepE bb d n = 0) :
    Calls Try.prog 40 #[.pointer (some ⟨B, 0, none⟩), .slice A bb.length c, .agg #[.int .i64 d, .int .i64 n]] w fun e w' => e = .returned (.bool true) ∧ Sc w' B l (i + stepN bb d n) ∧ Aft B w w' := by
  rw [stepN_ok hok]
  obtain ⟨hs, hB⟩ := stepE_ok hok
  have hb : Bytes bb := by rw [hbb]; exact fun x hx => hby x (List.mem_of_mem_drop hx)
  have hzn := nameLen_nn hb 0
  by_cases g0 : d = 0
  · subst g0; exact does0 B l bb i A c n w h h0 h1 hl hby hbb hC hc hne n0 n1 hs
  by_cases g1 : d = 1
  · subst g1; exact does1 B l bb i A c n w h h0 h1 hl hby hbb hC hc hne n0 n1 hs
  by_cases g2 : d = 2
  · subst g2
    rw [need2] at hs ⊢
    rw [bad2] at hB
    exact does2 B l bb i A c n w h h0 h1 hl hby hbb hC hc hne n0 n1 (nameLen bb 0) rfl (by omega) hs (by simpa using hB)
  by_cases g3 : d = 3
  · subst g3; exact does3 B l bb i A c n w h h0 h1 hl hby hbb hC hc hne n0 n1 hs
  by_cases g4 : d = 4
  · subst g4
    rw [bad4] at hB
    exact does4 B l bb i A c n w h h0 h1 hl hby hbb hC hc hne n0 n1 hs (of_decide_eq_false hB)
  rw [needx bb d n g0 g1 g2 g3 g4]
  exact doesx B l bb i A c d n w h h0 h1 hl hby hbb hC hc hne n0 n1 g0 g1 g2 g3 g4
/-- Acts: what is taken, and a number. -/
abbrev Ac := Int × Int
def KA : Kd Ac := Kd.pair (Kd.int .i64) (Kd.int .i64)
def aCells (a : Ac) : List Value := [.int .i64 a.1, .int .i64 a.2]
theorem KA_K {w : World} {a : Ac} {cs : List Value} (h : KA.K w a cs) : cs = aCells a := by
  obtain ⟨c0, c1, rfl, h0, h1⟩ := h
  have a0 : c0 = [.int .i64 a.1] := h0
  have a1 : c1 = [.int .i64 a.2] := h1
  rw [a0, a1]
  rfl
abbrev CA (w : World) (A : Option Addr) (l : List Ac) : Prop := Kd.C KA w A l.length l
theorem act_cells {w : World} {A : Option Addr} {l : List Ac} (h : CA w A l) (k : Nat) (hk : k < l.length) : ∃ ad, A = some ad ∧ w.cell? (ad.add (k * 2)) = some (.int .i64 l[k].1) ∧ w.cell? ⟨(ad.add (k * 2)).block, (ad.add (k * 2)).off + 1, none⟩ = some (.int .i64 l[k].2) := by
  obtain ⟨_, _, h3⟩ := h
  obtain ⟨ad, rfl, h4⟩ := h3 (by omega)
  obtain ⟨cs, _, hK, hc⟩ := h4 k l[k] (List.getElem?_eq_getElem hk)
  have e := KA_K hK
  have c0 := hc 0 (.int .i64 l[k].1) (by rw [e]; rfl)
  have c1 := hc 1 (.int .i64 l[k].2) (by rw [e]; rfl)
  have ha : ad.add (k * 2 + 1) = ⟨(ad.add (k * 2)).block, (ad.add (k * 2)).off + 1, none⟩ := by
    unfold Addr.add
    by_cases hm : k * 2 = 0
    · simp [hm]
    · simp [hm]; omega
  exact ⟨ad, rfl, c0, by rw [← ha]; exact c1⟩
theorem CA_aft {w W : World} {B : Nat} {A : Option Addr} {l : List Ac} (h : CA w A l) (k : Aft B w W) (hne : 0 < l.length → ∀ a, A = some a → a.block ≠ B) : CA W A l :=
  ⟨rfl, h.2.1, fun h0 => by
    have hne := hne h0
    obtain ⟨ad, rfl, h4⟩ := h.2.2 h0
    exact ⟨ad, rfl, fun j p hj => by
      obtain ⟨cs, e, hK, hc⟩ := h4 j p hj
      exact ⟨cs, e, hK, fun i u hu => cell_aft (hc i u hu) k (by rw [add_block]; exact hne ad rfl)⟩⟩⟩
/-- How far the acts have come. -/
def posS (b : List Int) (l : List Ac) : Nat → Int
  | 0 => 0
  | k + 1 => posS b l k + match l[k]? with
    | some a => stepN (b.drop (posS b l k).toNat) a.1 a.2
    | none => 0
def errS (b : List Int) (l : List Ac) (k : Nat) : Int := match l[k]? with
  | some a => stepE (b.drop (posS b l k).toNat) a.1 a.2
  | none => 0
theorem posS_step (b : List Int) (l : List Ac) (k : Nat) (h : k < l.length) : posS b l (k + 1) = posS b l k + stepN (b.drop (posS b l k).toNat) l[k].1 l[k].2 := by
  show posS b l k + (match l[k]? with | some a => stepN (b.drop (posS b l k).toNat) a.1 a.2 | none => 0) = _
  rw [List.getElem?_eq_getElem h]
theorem errS_at (b : List Int) (l : List Ac) (k : Nat) (h : k < l.length) : errS b l k = stepE (b.drop (posS b l k).toNat) l[k].1 l[k].2 := by
  unfold errS
  rw [List.getElem?_eq_getElem h]
theorem stepN_bd {b : List Int} (hb : Bytes b) {d n : Int} (n0 : 0 ≤ n) : 0 ≤ stepN b d n ∧ stepN b d n ≤ b.length := by
  by_cases h : stepE b d n = 0
  · rw [stepN_ok h]
    have := (stepE_ok h).1
    have hz := nameLen_nn hb 0
    refine ⟨?_, by omega⟩
    unfold need
    repeat' split
    all_goals omega
  · rw [stepN_no h]
    omega
theorem pos_bd {b : List Int} {l : List Ac} (hb : Bytes b) (hn : ∀ a ∈ l, 0 ≤ a.2 ∧ a.2 ≤ 65535) : ∀ k, k ≤ l.length → 0 ≤ posS b l k ∧ posS b l k ≤ b.length := by
  intro k
  induction k with
  | zero => intro _; exact ⟨Int.le_refl _, by show (0 : Int) ≤ _; omega⟩
  | succ k ih =>
    intro hk
    obtain ⟨h0, h1⟩ := ih (by omega)
    rw [posS_step b l k (by omega)]
    have hbd := stepN_bd (b := b.drop (posS b l k).toNat) (d := l[k].1) (n := l[k].2) (fun x hx => hb x (List.mem_of_mem_drop hx)) (hn _ (List.getElem_mem (by omega))).1
    rw [List.length_drop] at hbd
    omega
end Go.Proofs.Ytmcfihpbiilbcaa.H
