/- WeightScale: plain. -/
import Derived.Test.YtmcfihpbiilbcaaWgU
namespace Go.Proofs.Ytmcfihpbiilbcaa.H
open Go.RowKit Go.Proofs.YtmcfihpbiilbcaaW.PrintWords Go.Proofs.YtmcfihpbiilbcaaW.PrintLast Go.Proofs.YtmcfihpbiilbcaaW.PrintMore Go.Proofs.Ytmcfihpbiilbcaa.E
set_option linter.unusedVariables false
set_option linter.unusedSimpArgs false
abbrev F64 (x : Int) : Nat := floatOfInt .f64 x
abbrev N64 (x : Int) : Nat := Op.negFloat .f64 (floatOfInt .f64 x)
def UU (n : Nat) : Int := ((n * 2 ^ VU : Nat) : Int)
theorem byteF : ∀ x : Fin 256, V (cleanF (F64 (x.val : Int))) = some (UU x.val) ∧ F64 (x.val : Int) < 18446744073709551616 ∧ V (cleanF (N64 (x.val : Int))) = some (UU 0) ∧ N64 (x.val : Int) < 18446744073709551616 := by decide +kernel
theorem sevF : ∀ k : Fin 201, V (F64 (7 * (k.val : Int))) = some (UU (7 * k.val)) := by decide +kernel
theorem sev1 : V (cleanF 4619567317775286272) = some (UU 7) := by decide +kernel
def Fit (e : Edge) : Prop := e.2.2.2 < 18446744073709551616 ∧ ∃ n : Nat, n ≤ 255 ∧ V (cleanF e.2.2.2) = some (UU n)
def nE (e : Edge) : Nat := match V (cleanF e.2.2.2) with
  | some v => v.toNat / 2 ^ VU
  | none => 0
theorem nE_of {e : Edge} {n : Nat} (h : V (cleanF e.2.2.2) = some (UU n)) : nE e = n := by
  unfold nE UU at *
  rw [h]
  show (((n * 2 ^ VU : Nat) : Int).toNat) / 2 ^ VU = n
  rw [Int.toNat_natCast, Nat.mul_div_cancel _ (Nat.two_pow_pos _)]
def sumN (P : Edge → Prop) [DecidablePred P] : List Edge → Nat
  | [] => 0
  | e :: l => (if P e then nE e else 0) + sumN P l
theorem sumN_append (P : Edge → Prop) [DecidablePred P] : ∀ a b : List Edge, sumN P (a ++ b) = sumN P a + sumN P b
  | [], b => by simp [sumN]
  | e :: a, b => by
    show (if P e then nE e else 0) + sumN P (a ++ b) = (if P e then nE e else 0) + sumN P a + sumN P b
    rw [sumN_append P a b]
    omega
theorem add_UU {x y a b : Nat} (hx : V x = some (UU a)) (hy : V y = some (UU b)) (ox : okF x) (oy : okF y) (hab : a + b ≤ 1125899906842624) : V (addF x y) = some (UU (a + b)) := by
  have hle : ∀ c : Nat, c ≤ 1125899906842624 → c * 2 ^ VU ≤ 2 ^ E0 := by
    intro c hc
    refine Nat.le_trans (Nat.mul_le_mul_right _ (show c ≤ 2 ^ 50 from hc)) ?_
    rw [← Nat.pow_add]
    exact Nat.pow_le_pow_right (by decide) (by unfold VU E0; omega)
  have hs : a * 2 ^ VU + b * 2 ^ VU = (a + b) * 2 ^ VU := (Nat.add_mul a b _).symm
  obtain ⟨v, hv, _, h3⟩ := add_V hx hy ox oy E0 (by unfold E0; omega) (by unfold E0; omega) (hle a (by omega)) (hle b (by omega)) (by rw [hs]; exact hle (a + b) hab)
  rw [hv, h3 (a + b) (by omega) hs]
  unfold UU
  rw [hs]
theorem fold_exact (P : Edge → Prop) [DecidablePred P] : ∀ (l : List Edge) (s a : Nat), (∀ e ∈ l, Fit e) → okF s → V s = some (UU a) → a + 255 * l.length ≤ 1125899906842624 →
    okF (l.foldl (fun s e => if P e then addF s (cleanF e.2.2.2) else s) s) ∧ V (l.foldl (fun s e => if P e then addF s (cleanF e.2.2.2) else s) s) = some (UU (a + sumN P l)) ∧ sumN P l ≤ 255 * l.length
  | [], s, a, _, h1, h2, _ => ⟨h1, h2, Nat.le_refl _⟩
  | e :: l, s, a, hf, h1, h2, hb => by
    obtain ⟨f1, n, f2, f3⟩ := hf e (by simp)
    have hn := nE_of f3
    rw [List.length_cons] at hb
    have key : okF (if P e then addF s (cleanF e.2.2.2) else s) ∧ V (if P e then addF s (cleanF e.2.2.2) else s) = some (UU (a + (if P e then nE e else 0))) ∧ (if P e then nE e else 0) ≤ 255 := by
      by_cases hp : P e
      · rw [if_pos hp, if_pos hp, hn]
        exact ⟨(add_ok h1 (clean_ok f1)).2, add_UU h2 f3 h1 (clean_ok f1) (by omega), f2⟩
      · rw [if_neg hp, if_neg hp]
        exact ⟨h1, h2, by omega⟩
    obtain ⟨k1, k2, k3⟩ := key
    have ih := fold_exact P l _ _ (fun e he => hf e (List.mem_cons_of_mem _ he)) k1 k2 (by omega)
    show okF (l.foldl _ _) ∧ V (l.foldl _ _) = some (UU (a + ((if P e then nE e else 0) + sumN P l))) ∧ (if P e then nE e else 0) + sumN P l ≤ 255 * (e :: l).length
    rw [← Nat.add_assoc, List.length_cons]
    exact ⟨ih.1, ih.2.1, by omega⟩
def PO (nm : ByteArray) (fr tq : Int) (e : Edge) : Prop := e.1 = nm ∧ e.2.1 = fr ∧ e.2.2.1 = tq
instance (nm : ByteArray) (fr tq : Int) : DecidablePred (PO nm fr tq) := fun e => inferInstanceAs (Decidable (e.1 = nm ∧ e.2.1 = fr ∧ e.2.2.1 = tq))
def PT (nm : ByteArray) (e : Edge) : Prop := e.1 = nm
instance (nm : ByteArray) : DecidablePred (PT nm) := fun e => inferInstanceAs (Decidable (e.1 = nm))
theorem V0U : V 0 = some (UU 0) := by
  unfold UU
  rw [Nat.zero_mul]
  exact V0
theorem ofS_exact (nm : ByteArray) (fr tq : Int) (l : List Edge) (hf : ∀ e ∈ l, Fit e) (hl : l.length ≤ 10000) : okF (ofS nm fr tq l) ∧ V (ofS nm fr tq l) = some (UU (sumN (PO nm fr tq) l)) ∧ sumN (PO nm fr tq) l ≤ 255 * l.length := by
  have h := fold_exact (PO nm fr tq) l 0 0 hf (by unfold okF; omega) V0U (by omega)
  rw [Nat.zero_add] at h
  exact h
theorem totS_exact (nm : ByteArray) (l : List Edge) (hf : ∀ e ∈ l, Fit e) (hl : l.length ≤ 10000) : okF (totS nm l) ∧ V (totS nm l) = some (UU (sumN (PT nm) l)) ∧ sumN (PT nm) l ≤ 255 * l.length := by
  have h := fold_exact (PT nm) l 0 0 hf (by unfold okF; omega) V0U (by omega)
  rw [Nat.zero_add] at h
  exact h
theorem fg : ¬ ((⟨#[102]⟩ : ByteArray) = ⟨#[103]⟩) := by decide
theorem pt_no (a b : Int) (c : Nat) : ¬ PT ⟨#[103]⟩ (⟨#[102]⟩, a, b, c) := fg
theorem pt_yes (a b : Int) (c : Nat) : PT ⟨#[103]⟩ (⟨#[103]⟩, a, b, c) := rfl
def aE (x : Int) : List Edge := [(⟨#[102]⟩, 1, 2, F64 x), (⟨#[103]⟩, 1, 2, 4619567317775286272), (⟨#[102]⟩, 2, 1, 4619567317775286272)]
def bE (x : Int) : List Edge := [(⟨#[102]⟩, 1, 2, F64 x), (⟨#[102]⟩, 1, 2, N64 x)]
def aS (l : List Int) (k : Nat) : List Edge := ((l.take k).map aE).flatten
def bS (l : List Int) (k : Nat) : List Edge := ((l.take k).map bE).flatten
theorem aS_step (l : List Int) (k : Nat) (h : k < l.length) : aS l k ++ aE l[k] = aS l (k + 1) := by
  unfold aS
  rw [List.take_add_one, List.map_append, List.flatten_append, List.getElem?_eq_getElem h]
  simp
theorem bS_step (l : List Int) (k : Nat) (h : k < l.length) : bS l k ++ bE l[k] = bS l (k + 1) := by
  unfold bS
  rw [List.take_add_one, List.map_append, List.flatten_append, List.getElem?_eq_getElem h]
  simp
theorem flat_len {f : Int → List Edge} {c : Nat} (h : ∀ x, (f x).length = c) : ∀ l : List Int, ((l.map f).flatten).length = c * l.length
  | [] => by simp
  | x :: l => by
    rw [List.map_cons, List.flatten_cons, List.length_append, h, flat_len h l, List.length_cons, Nat.mul_succ]
    omega
theorem aS_len (l : List Int) (k : Nat) (h : k ≤ l.length) : (aS l k).length = 3 * k := by
  unfold aS
  rw [flat_len (c := 3) (fun _ => rfl), List.length_take, Nat.min_eq_left h]
theorem bS_len (l : List Int) (k : Nat) (h : k ≤ l.length) : (bS l k).length = 2 * k := by
  unfold bS
  rw [flat_len (c := 2) (fun _ => rfl), List.length_take, Nat.min_eq_left h]
theorem byte_fin {x : Int} (h0 : 0 ≤ x) (h1 : x ≤ 255) : V (cleanF (F64 x)) = some (UU x.toNat) ∧ F64 x < 18446744073709551616 ∧ V (cleanF (N64 x)) = some (UU 0) ∧ N64 x < 18446744073709551616 := by
  have h := byteF ⟨x.toNat, by omega⟩
  simp only [Int.toNat_of_nonneg h0] at h
  exact h
theorem flat_fit {f : Int → List Edge} (h : ∀ x, 0 ≤ x → x ≤ 255 → ∀ e ∈ f x, Fit e) (l : List Int) (hb : Bytes l) : ∀ e ∈ (l.map f).flatten, Fit e := by
  intro e he
  obtain ⟨s, hs, he⟩ := List.mem_flatten.1 he
  obtain ⟨x, hx, rfl⟩ := List.mem_map.1 hs
  exact h x (hb x hx).1 (hb x hx).2 e he
theorem aE_fit (x : Int) (h0 : 0 ≤ x) (h1 : x ≤ 255) : ∀ e ∈ aE x, Fit e := by
  obtain ⟨q1, q2, q3, q4⟩ := byte_fin h0 h1
  intro e he
  unfold aE at he
  rcases List.mem_cons.1 he with rfl | he
  · exact ⟨q2, x.toNat, by omega, q1⟩
  rcases List.mem_cons.1 he with rfl | he
  · exact ⟨by decide, 7, by omega, sev1⟩
  obtain rfl := List.mem_singleton.1 he
  exact ⟨by decide, 7, by omega, sev1⟩
theorem bE_fit (x : Int) (h0 : 0 ≤ x) (h1 : x ≤ 255) : ∀ e ∈ bE x, Fit e := by
  obtain ⟨q1, q2, q3, q4⟩ := byte_fin h0 h1
  intro e he
  unfold bE at he
  rcases List.mem_cons.1 he with rfl | he
  · exact ⟨q2, x.toNat, by omega, q1⟩
  obtain rfl := List.mem_singleton.1 he
  exact ⟨q4, 0, by omega, q3⟩
theorem aS_fit (l : List Int) (hb : Bytes l) (k : Nat) : ∀ e ∈ aS l k, Fit e := flat_fit aE_fit _ (fun x hx => hb x (List.mem_of_mem_take hx))
theorem bS_fit (l : List Int) (hb : Bytes l) (k : Nat) : ∀ e ∈ bS l k, Fit e := flat_fit bE_fit _ (fun x hx => hb x (List.mem_of_mem_take hx))
theorem sum_a : ∀ l : List Int, sumN (PT ⟨#[103]⟩) ((l.map aE).flatten) = 7 * l.length
  | [] => rfl
  | x :: l => by
    have e : sumN (PT ⟨#[103]⟩) (aE x) = 7 := by
      have hn : nE (⟨#[103]⟩, 1, 2, 4619567317775286272) = 7 := nE_of sev1
      unfold aE sumN sumN sumN sumN
      rw [if_neg (pt_no _ _ _), if_pos (pt_yes _ _ _), if_neg (pt_no _ _ _), hn]
    rw [List.map_cons, List.flatten_cons, sumN_append, e, sum_a l, List.length_cons]
    omega
theorem sum_b : ∀ l : List Int, sumN (PT ⟨#[103]⟩) ((l.map bE).flatten) = 0
  | [] => rfl
  | x :: l => by
    have e : sumN (PT ⟨#[103]⟩) (bE x) = 0 := by
      unfold bE sumN sumN sumN
      rw [if_neg (pt_no _ _ _), if_neg (pt_no _ _ _)]
    rw [List.map_cons, List.flatten_cons, sumN_append, e, sum_b l]
theorem eq_V {x y : Nat} {v : Int} (hx : V x = some v) (hy : V y = some v) : (FloatKind.f64.format.order x y == some .eq) = true := by
  have : fo x y = some .eq := by rw [fo_some hx hy, Int.compare_eq_eq.2 rfl]
  unfold fo at this
  rw [this]
  rfl
theorem scale_facts (l m : List Int) (hl : Bytes l) (hm : Bytes m) (h1 : l.length ≤ 200) (h2 : m.length ≤ 200) (A B : List Edge) (hA : A = aS l l.length) (hB : B = bS m m.length) :
    A.length ≤ 600 ∧ B.length ≤ 400 ∧ (∀ e ∈ A ++ B, e.2.2.2 < 18446744073709551616) ∧
    ∃ s : Nat, FloatKind.f64.format.add (ofS ⟨#[102]⟩ 1 2 A) (ofS ⟨#[102]⟩ 1 2 B) = some s ∧ (FloatKind.f64.format.order (ofS ⟨#[102]⟩ 1 2 (A ++ B)) s == some .eq) = true ∧ (FloatKind.f64.format.order (totS ⟨#[103]⟩ (A ++ B)) (floatOfInt .f64 (7 * (l.length : Int))) == some .eq) = true := by
  have la := aS_len l l.length (Nat.le_refl _)
  have lb := bS_len m m.length (Nat.le_refl _)
  rw [← hA] at la
  rw [← hB] at lb
  have fa : ∀ e ∈ A, Fit e := by rw [hA]; exact aS_fit l hl _
  have fb : ∀ e ∈ B, Fit e := by rw [hB]; exact bS_fit m hm _
  have fab : ∀ e ∈ A ++ B, Fit e := fun e he => (List.mem_append.1 he).elim (fa e) (fb e)
  obtain ⟨oa, va, na⟩ := ofS_exact ⟨#[102]⟩ 1 2 A fa (by omega)
  obtain ⟨ob, vb, nb⟩ := ofS_exact ⟨#[102]⟩ 1 2 B fb (by omega)
  obtain ⟨oab, vab, nab⟩ := ofS_exact ⟨#[102]⟩ 1 2 (A ++ B) fab (by rw [List.length_append]; omega)
  obtain ⟨ot, vt, nt⟩ := totS_exact ⟨#[103]⟩ (A ++ B) fab (by rw [List.length_append]; omega)
  refine ⟨by omega, by omega, fun e he => (fab e he).1, addF (ofS ⟨#[102]⟩ 1 2 A) (ofS ⟨#[102]⟩ 1 2 B), (add_ok oa ob).1, ?_, ?_⟩
  · have h := add_UU va vb oa ob (by omega)
    rw [sumN_append] at vab
    exact eq_V vab h
  · have e1 : sumN (PT ⟨#[103]⟩) (A ++ B) = 7 * l.length := by
      rw [sumN_append, hA, hB]
      unfold aS bS
      rw [List.take_length, List.take_length, sum_a, sum_b, Nat.add_zero]
    rw [e1] at vt
    exact eq_V vt (sevF ⟨l.length, by omega⟩)
end Go.Proofs.Ytmcfihpbiilbcaa.H
