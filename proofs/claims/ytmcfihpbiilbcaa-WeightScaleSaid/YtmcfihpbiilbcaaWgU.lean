/- WeightSums: plain facts and the walk. -/
import Derived.Test.YtmcfihpbiilbcaaWgT
import Derived.Laws.BitsAllLaws
namespace Go.Proofs.Ytmcfihpbiilbcaa.H
open Go.RowKit Go.Proofs.YtmcfihpbiilbcaaW.PrintWords Go.Proofs.YtmcfihpbiilbcaaW.PrintLast Go.Proofs.YtmcfihpbiilbcaaW.PrintMore Go.Proofs.Ytmcfihpbiilbcaa.E
set_option linter.unusedVariables false
set_option linter.unusedSimpArgs false
def E0 : Nat := 1124
theorem VM2 : ∃ M : Nat, V maxW = some (M : Int) ∧ 0 < M ∧ M ≤ 2 ^ E0 := by
  have h : Ieee.double.read maxW = .number false 8000000000000000 (-3) := by decide +kernel
  refine ⟨8000000000000000 * 2 ^ (-3 + 1074 : Int).toNat, ?_, Nat.mul_pos (by decide) (Nat.two_pow_pos _), ?_⟩
  · unfold V
    rw [h, ← Nat.shiftLeft_eq]
    rfl
  · refine Nat.le_trans (Nat.mul_le_mul_right _ (show 8000000000000000 ≤ 2 ^ 53 by decide)) ?_
    rw [← Nat.pow_add]
    exact Nat.pow_le_pow_right (by decide) (by unfold E0; decide)
theorem clean_Vn {M : Nat} (hM : V maxW = some (M : Int)) (h0 : 0 < M) (x : Nat) : ∃ v : Nat, V (cleanF x) = some (v : Int) ∧ v ≤ M := by
  have h := clean_V hM (by omega) x
  have hb := cl_bd (M := (M : Int)) (by omega) (V x)
  refine ⟨(cl M (V x)).toNat, ?_, by omega⟩
  rw [h, Int.toNat_of_nonneg hb.1]
theorem clean3 (x : Nat) : (gtB x 0 = false ∧ cleanF x = 0) ∨ (gtB x 0 = true ∧ gtB x maxW = false ∧ cleanF x = x) ∨ (gtB x 0 = true ∧ gtB x maxW = true ∧ cleanF x = maxW) := by
  unfold cleanF
  cases hx : V x with
  | none =>
    have hn : nanB x = true := by unfold nanB; rw [fo_V, hx]; rfl
    rw [if_pos hn]
    exact .inl ⟨by unfold gtB; rw [fo_V, hx]; rfl, rfl⟩
  | some a =>
    rw [if_neg (by rw [nan_V hx]; decide), le_V hx V0, gt_V hx V0]
    by_cases h1 : a ≤ 0
    · rw [if_pos (decide_eq_true h1)]
      exact .inl ⟨decide_eq_false (by omega), rfl⟩
    · rw [if_neg (by rw [decide_eq_false h1]; decide)]
      cases hg : gtB x maxW
      · exact .inr (.inl ⟨decide_eq_true (by omega), rfl, if_neg (by decide)⟩)
      · exact .inr (.inr ⟨decide_eq_true (by omega), rfl, if_pos rfl⟩)
theorem add_step {s c k : Nat} {v : Nat} {M : Nat} (hs : V s = some (v : Int)) (os : okF s) (oc : okF (cleanF c)) (hM : V maxW = some (M : Int)) (h0 : 0 < M) (hM2 : M ≤ 2 ^ E0) (hv : v ≤ 2 ^ (E0 + k)) (hk : k < 300) : ∃ u : Nat, V (addF s (cleanF c)) = some (u : Int) ∧ u ≤ 2 ^ (E0 + (k + 1)) := by
  obtain ⟨b, hb, hbM⟩ := clean_Vn hM h0 c
  have h1 : 2 ^ E0 ≤ 2 ^ (E0 + k) := Nat.pow_le_pow_right (by decide) (by omega)
  have h2 : 2 ^ (E0 + (k + 1)) = 2 ^ (E0 + k) + 2 ^ (E0 + k) := by rw [show E0 + (k + 1) = E0 + k + 1 by omega, Nat.pow_succ]; omega
  obtain ⟨u, hu, hu2, _⟩ := add_V hs hb os oc (E0 + (k + 1)) (by unfold E0; omega) (by unfold E0; omega) (by omega) (by omega) (by omega)
  exact ⟨u, hu, hu2⟩
theorem ofS_V (nm : ByteArray) (fr tq : Int) (l : List Edge) (hl : ∀ e ∈ l, e.2.2.2 < 18446744073709551616) (hn : l.length ≤ 300) (k : Nat) (hk : k ≤ l.length) : ∃ v : Nat, V (ofS nm fr tq (l.take k)) = some (v : Int) ∧ v ≤ 2 ^ (E0 + k) := by
  obtain ⟨M, hM, h0, hM2⟩ := VM2
  induction k with
  | zero => exact ⟨0, V0, Nat.zero_le _⟩
  | succ k ih =>
    obtain ⟨v, hv, hv2⟩ := ih (by omega)
    rw [ofS_step nm fr tq l k (by omega)]
    split
    · exact add_step hv (ofS_ok nm fr tq l hl k (by omega)) (clean_ok (hl _ (List.getElem_mem _))) hM h0 hM2 hv2 (by omega)
    · exact ⟨v, hv, Nat.le_trans hv2 (Nat.pow_le_pow_right (by decide) (by omega))⟩
theorem totS_V (nm : ByteArray) (l : List Edge) (hl : ∀ e ∈ l, e.2.2.2 < 18446744073709551616) (hn : l.length ≤ 300) (k : Nat) (hk : k ≤ l.length) : ∃ v : Nat, V (totS nm (l.take k)) = some (v : Int) ∧ v ≤ 2 ^ (E0 + k) := by
  obtain ⟨M, hM, h0, hM2⟩ := VM2
  induction k with
  | zero => exact ⟨0, V0, Nat.zero_le _⟩
  | succ k ih =>
    obtain ⟨v, hv, hv2⟩ := ih (by omega)
    rw [totS_step nm l k (by omega)]
    split
    · exact add_step hv (totS_ok nm l hl k (by omega)) (clean_ok (hl _ (List.getElem_mem _))) hM h0 hM2 hv2 (by omega)
    · exact ⟨v, hv, Nat.le_trans hv2 (Nat.pow_le_pow_right (by decide) (by omega))⟩
def maxF : Nat := 9218868437227405311
theorem VF : ∃ F : Int, V maxF = some F ∧ ∀ v e : Nat, v ≤ 2 ^ e → e ≤ 2000 → (v : Int) < F := by
  have h : Ieee.double.read maxF = .number false 9007199254740991 971 := by decide +kernel
  refine ⟨((9007199254740991 * 2 ^ (971 + 1074 : Int).toNat : Nat) : Int), ?_, fun v e hv he => ?_⟩
  · unfold V
    rw [h, ← Nat.shiftLeft_eq]
    rfl
  · have h2 : 2 ^ e < 2 ^ (971 + 1074 : Int).toNat := Nat.pow_lt_pow_right (by decide) (by show e < 2045; omega)
    generalize 2 ^ (971 + 1074 : Int).toNat = z at *
    omega
theorem eq_self {x : Nat} {v : Int} (h : V x = some v) : (FloatKind.f64.format.order x x == some .eq) = true := by
  have : fo x x = some .eq := by rw [fo_some h h, Int.compare_eq_eq.2 rfl]
  unfold fo at this
  rw [this]
  rfl
theorem sums_facts (nm : ByteArray) (fr tq : Int) (l : List Edge) (hl : ∀ e ∈ l, e.2.2.2 < 18446744073709551616) (hn : l.length ≤ 300) :
    okF (ofS nm fr tq l) ∧ okF (totS nm l) ∧ (FloatKind.f64.format.order (ofS nm fr tq l) (ofS nm fr tq l) == some .eq) = true ∧ (FloatKind.f64.format.order (totS nm l) (totS nm l) == some .eq) = true ∧ (FloatKind.f64.format.order (ofS nm fr tq l) 0 == some .gt || FloatKind.f64.format.order (ofS nm fr tq l) 0 == some .eq) = true ∧ (FloatKind.f64.format.order (totS nm l) 9218868437227405311 == some .gt) = false := by
  have o1 := ofS_ok nm fr tq l hl l.length (Nat.le_refl _)
  have o2 := totS_ok nm l hl l.length (Nat.le_refl _)
  obtain ⟨a, ha, ha2⟩ := ofS_V nm fr tq l hl hn l.length (Nat.le_refl _)
  obtain ⟨b, hb, hb2⟩ := totS_V nm l hl hn l.length (Nat.le_refl _)
  rw [List.take_length] at o1 o2 ha hb
  obtain ⟨F, hF, hFl⟩ := VF
  refine ⟨o1, o2, eq_self ha, eq_self hb, ?_, ?_⟩
  · have h := ge_V ha V0
    rw [decide_eq_true (by omega)] at h
    exact h
  · have h := gt_V hb hF
    have hlt := hFl b (E0 + l.length) hb2 (by unfold E0; omega)
    rw [decide_eq_false (by omega)] at h
    exact h
theorem abs_bits (b : Nat) (h : okF b) : bits BinOp.andNot IntKind.u64 (b : Int) 9223372036854775808 = (b : Int) := by
  unfold okF at h
  have e := u64_andNot_nat b 9223372036854775808 (by omega) (by decide)
  rw [show ((9223372036854775808 : Nat) : Int) = 9223372036854775808 from rfl] at e
  rw [e, show 18446744073709551615 - 9223372036854775808 = 2 ^ 63 - 1 by decide, Nat.and_two_pow_sub_one_eq_mod, Nat.mod_eq_of_lt (by omega)]
theorem abs_c (b : Nat) (h : okF b) (w : World) : Calls Try.prog 99 #[.float .f64 b] w fun e w' => e = .returned (.float .f64 b) ∧ w' = w := by
  have hbr := bits_run b
  have fr := frombits_run b
  have ea := abs_bits b h
  rw [Int.toNat_natCast] at fr
  go_enter Try.func99, Try.ntmps99
  go_wp2
  try rw [ea]
  try go_wp2
  go_ret
  exact ⟨rfl, rfl⟩
theorem isinf_c (b : Nat) (h : okF b) (hg : (FloatKind.f64.format.order b 9218868437227405311 == some .gt) = false) (w : World) : Calls Try.prog 67 #[.float .f64 b, .int .i64 0] w fun e w' => e = .returned (.bool false) ∧ w' = w := by
  go_enter Try.func67, Try.ntmps67
  go_wp2_with fail
  refine (abs_c b h _).mono ?_
  rintro e w1 ⟨rfl, rfl⟩
  go_wp2
  go_ret
  exact ⟨rfl, rfl⟩
theorem round_facts (nm : ByteArray) (fr tq : Int) (l : List Edge) (hl : ∀ e ∈ l, e.2.2.2 < 18446744073709551616) (k : Nat) (hk : k < l.length) (o t o' t' : Nat) (ho : o = ofS nm fr tq (l.take k)) (ht : t = totS nm (l.take k)) (ho' : ofS nm fr tq (l.take (k + 1)) = o') (ht' : totS nm (l.take (k + 1)) = t') :
    (l[k].1 = nm → l[k].2.1 = fr → l[k].2.2.1 = tq → FloatKind.f64.format.add t (cleanF l[k].2.2.2) = some t' ∧ FloatKind.f64.format.add o (cleanF l[k].2.2.2) = some o') ∧
    (l[k].1 = nm → ¬ (l[k].2.1 = fr ∧ l[k].2.2.1 = tq) → FloatKind.f64.format.add t (cleanF l[k].2.2.2) = some t' ∧ o' = o) ∧
    (¬ l[k].1 = nm → t' = t ∧ o' = o) := by
  have s1 := ofS_step nm fr tq l k hk
  have s2 := totS_step nm l k hk
  have hx := hl _ (List.getElem_mem hk)
  have a1 := (add_ok (ofS_ok nm fr tq l hl k (by omega)) (clean_ok hx)).1
  have a2 := (add_ok (totS_ok nm l hl k (by omega)) (clean_ok hx)).1
  rw [ho', ← ho] at s1
  rw [ht', ← ht] at s2
  rw [← ho] at a1
  rw [← ht] at a2
  refine ⟨fun h1 h2 h3 => ?_, fun h1 h2 => ?_, fun h1 => ?_⟩
  · rw [if_pos ⟨h1, h2, h3⟩] at s1
    rw [if_pos h1] at s2
    rw [s1, s2]
    exact ⟨a2, a1⟩
  · rw [if_neg (fun h => h2 h.2)] at s1
    rw [if_pos h1] at s2
    rw [s2]
    exact ⟨a2, s1⟩
  · rw [if_neg (fun h => h1 h.1)] at s1
    rw [if_neg h1] at s2
    exact ⟨s2, s1⟩
set_option maxRecDepth 100000 in
set_option maxHeartbeats 4000000 in
theorem wsums_walk (A : Option Addr) (c : Nat) (l : List Edge) (nm : ByteArray) (fr tq : Int) (w : World) (hC : CE w A l) (hc : l.length ≤ c) (hl : ∀ e ∈ l, e.2.2.2 < 18446744073709551616) (n1 : ¬ (300 : Int) < (l.length : Int)) :
    Calls Try.prog 17 #[.slice A l.length c, .string nm, .int .i64 fr, .int .i64 tq] w fun e w' => e = .returned (.bool true) ∧ Below w.heap.size w w' := by
  have HF := hid (sums_facts nm fr tq l hl (by omega))
  have HC := hid hC
  have HL := hid hl
  clear hC hl
  go_enter Try.func17, Try.ntmps17
  go_wp2_with fail
  refine (awake24_c _).mono ?_
  rintro e w1 ⟨rfl, hb⟩
  have H1 := hid hb
  clear hb
  go_wp2
  go_loopw [9, 10, 11, 12] (fun s9 s10 s11 _ wx => ∃ (k : Nat), k ≤ l.length ∧ s11 = .int .i64 k ∧ s9 = .float .f64 (ofS nm fr tq (l.take k)) ∧ s10 = .float .f64 (totS nm (l.take k)) ∧ Hid (Below w.heap.size w wx)) (fun _ _ s11 _ _ => l.length - (intOf s11).toNat)
  case atStart => exact ⟨0, by omega, rfl, rfl, rfl, hid H1.out⟩
  case round =>
    obtain ⟨k, hk, rfl, rfl, rfl, hI⟩ := hrel
    by_cases hlt : (k : Int) < (l.length : Int)
    · have hk1 : k < l.length := by omega
      obtain ⟨ad, rfl, c0, c1, c2, c3⟩ := edge_cells (Kd.C_below HC.out hI.out) k hk1
      have e3 : IntKind.i64.wrap ((k : Int) + 1) = (k : Int) + 1 := IntWalk.i64_in _ (by omega)
      obtain ⟨o, ho⟩ : ∃ o, o = ofS nm fr tq (l.take k) := ⟨_, rfl⟩
      obtain ⟨t, ht⟩ : ∃ t, t = totS nm (l.take k) := ⟨_, rfl⟩
      obtain ⟨o', ho'⟩ : ∃ o, ofS nm fr tq (l.take (k + 1)) = o := ⟨_, rfl⟩
      obtain ⟨t', ht'⟩ : ∃ t, totS nm (l.take (k + 1)) = t := ⟨_, rfl⟩
      have hr := round_facts nm fr tq l HL.out k hk1 o t o' t' ho ht ho' ht'
      rw [← ho, ← ht]
      have HR := hid hr
      have HN := hid (And.intro ho' ht')
      clear hr ho ht ho' ht'
      generalize l[k] = E at *
      obtain ⟨x, hx⟩ : ∃ x, x = E.2.2.2 := ⟨_, rfl⟩
      rw [← hx] at c3 HR
      have q0 : (FloatKind.f64.format.order 0 4831355200913801216 == some .gt) = false := by decide +kernel
      clear hx
      rcases clean3 x with ⟨p1, hcl⟩ | ⟨p1, p2, hcl⟩ | ⟨p1, p2, hcl⟩
      · have p1' : (FloatKind.f64.format.order x 0 == some .gt) = false := p1
        clear p1
        by_cases g1 : E.1 = nm
        · have hb := str_eq g1
          by_cases g2 : E.2.1 = fr
          · have hb1 : (E.2.1 == fr) = true := beq_iff_eq.2 g2
            by_cases g3 : E.2.2.1 = tq
            · have hb2 : (E.2.2.1 == tq) = true := beq_iff_eq.2 g3
              obtain ⟨a1, a2⟩ := HR.out.1 g1 g2 g3
              rw [hcl] at a1 a2
              have hs := HN.out
              have HS := hid hs
              have bin1 : ∀ w, (binOp .add 50 (.float .f64 t) (.float .f64 0)).run Try.prog w = .ok (.float .f64 t') w := fun w => run_float_arith w .add 50 .f64 _ _ _ a1
              have bin2 : ∀ w, (binOp .add 50 (.float .f64 o) (.float .f64 0)).run Try.prog w = .ok (.float .f64 o') w := fun w => run_float_arith w .add 50 .f64 _ _ _ a2
              clear g1 g2 g3 a1 a2 hs HR
              go_wp2
              go_roundw
              case rel => exact ⟨k + 1, by omega, by go_num, by rw [HS.out.1], by rw [HS.out.2], hid hI.out⟩
              case measure => simp [intOf]; omega
            · have hb2 : (E.2.2.1 == tq) = false := beq_eq_false_iff_ne.2 g3
              obtain ⟨a1, a2⟩ := HR.out.2.1 g1 (fun h => g3 h.2)
              rw [hcl] at a1
              have hs : ofS nm fr tq (l.take (k + 1)) = o ∧ totS nm (l.take (k + 1)) = t' := ⟨HN.out.1.trans a2, HN.out.2⟩
              have HS := hid hs
              have bin1 : ∀ w, (binOp .add 50 (.float .f64 t) (.float .f64 0)).run Try.prog w = .ok (.float .f64 t') w := fun w => run_float_arith w .add 50 .f64 _ _ _ a1
              clear g1 g2 g3 a1 a2 hs HR
              go_wp2
              go_roundw
              case rel => exact ⟨k + 1, by omega, by go_num, by rw [HS.out.1], by rw [HS.out.2], hid hI.out⟩
              case measure => simp [intOf]; omega
          · have hb1 : (E.2.1 == fr) = false := beq_eq_false_iff_ne.2 g2
            obtain ⟨a1, a2⟩ := HR.out.2.1 g1 (fun h => g2 h.1)
            rw [hcl] at a1
            have hs : ofS nm fr tq (l.take (k + 1)) = o ∧ totS nm (l.take (k + 1)) = t' := ⟨HN.out.1.trans a2, HN.out.2⟩
            have HS := hid hs
            have bin1 : ∀ w, (binOp .add 50 (.float .f64 t) (.float .f64 0)).run Try.prog w = .ok (.float .f64 t') w := fun w => run_float_arith w .add 50 .f64 _ _ _ a1
            clear g1 g2 a1 a2 hs HR
            go_wp2
            go_roundw
            case rel => exact ⟨k + 1, by omega, by go_num, by rw [HS.out.1], by rw [HS.out.2], hid hI.out⟩
            case measure => simp [intOf]; omega
        · have hb := str_ne g1
          obtain ⟨a1, a2⟩ := HR.out.2.2 g1
          have hs : ofS nm fr tq (l.take (k + 1)) = o ∧ totS nm (l.take (k + 1)) = t := ⟨HN.out.1.trans a2, HN.out.2.trans a1⟩
          have HS := hid hs
          clear g1 a1 a2 hs HR
          go_wp2
          go_roundw
          case rel => exact ⟨k + 1, by omega, by go_num, by rw [HS.out.1], by rw [HS.out.2], hid hI.out⟩
          case measure => simp [intOf]; omega
      · have p1' : (FloatKind.f64.format.order x 0 == some .gt) = true := p1
        have p2' : (FloatKind.f64.format.order x 4831355200913801216 == some .gt) = false := p2
        clear p1 p2
        by_cases g1 : E.1 = nm
        · have hb := str_eq g1
          by_cases g2 : E.2.1 = fr
          · have hb1 : (E.2.1 == fr) = true := beq_iff_eq.2 g2
            by_cases g3 : E.2.2.1 = tq
            · have hb2 : (E.2.2.1 == tq) = true := beq_iff_eq.2 g3
              obtain ⟨a1, a2⟩ := HR.out.1 g1 g2 g3
              rw [hcl] at a1 a2
              have hs := HN.out
              have HS := hid hs
              have bin1 : ∀ w, (binOp .add 50 (.float .f64 t) (.float .f64 x)).run Try.prog w = .ok (.float .f64 t') w := fun w => run_float_arith w .add 50 .f64 _ _ _ a1
              have bin2 : ∀ w, (binOp .add 50 (.float .f64 o) (.float .f64 x)).run Try.prog w = .ok (.float .f64 o') w := fun w => run_float_arith w .add 50 .f64 _ _ _ a2
              clear g1 g2 g3 a1 a2 hs HR
              go_wp2
              go_roundw
              case rel => exact ⟨k + 1, by omega, by go_num, by rw [HS.out.1], by rw [HS.out.2], hid hI.out⟩
              case measure => simp [intOf]; omega
            · have hb2 : (E.2.2.1 == tq) = false := beq_eq_false_iff_ne.2 g3
              obtain ⟨a1, a2⟩ := HR.out.2.1 g1 (fun h => g3 h.2)
              rw [hcl] at a1
              have hs : ofS nm fr tq (l.take (k + 1)) = o ∧ totS nm (l.take (k + 1)) = t' := ⟨HN.out.1.trans a2, HN.out.2⟩
              have HS := hid hs
              have bin1 : ∀ w, (binOp .add 50 (.float .f64 t) (.float .f64 x)).run Try.prog w = .ok (.float .f64 t') w := fun w => run_float_arith w .add 50 .f64 _ _ _ a1
              clear g1 g2 g3 a1 a2 hs HR
              go_wp2
              go_roundw
              case rel => exact ⟨k + 1, by omega, by go_num, by rw [HS.out.1], by rw [HS.out.2], hid hI.out⟩
              case measure => simp [intOf]; omega
          · have hb1 : (E.2.1 == fr) = false := beq_eq_false_iff_ne.2 g2
            obtain ⟨a1, a2⟩ := HR.out.2.1 g1 (fun h => g2 h.1)
            rw [hcl] at a1
            have hs : ofS nm fr tq (l.take (k + 1)) = o ∧ totS nm (l.take (k + 1)) = t' := ⟨HN.out.1.trans a2, HN.out.2⟩
            have HS := hid hs
            have bin1 : ∀ w, (binOp .add 50 (.float .f64 t) (.float .f64 x)).run Try.prog w = .ok (.float .f64 t') w := fun w => run_float_arith w .add 50 .f64 _ _ _ a1
            clear g1 g2 a1 a2 hs HR
            go_wp2
            go_roundw
            case rel => exact ⟨k + 1, by omega, by go_num, by rw [HS.out.1], by rw [HS.out.2], hid hI.out⟩
            case measure => simp [intOf]; omega
        · have hb := str_ne g1
          obtain ⟨a1, a2⟩ := HR.out.2.2 g1
          have hs : ofS nm fr tq (l.take (k + 1)) = o ∧ totS nm (l.take (k + 1)) = t := ⟨HN.out.1.trans a2, HN.out.2.trans a1⟩
          have HS := hid hs
          clear g1 a1 a2 hs HR
          go_wp2
          go_roundw
          case rel => exact ⟨k + 1, by omega, by go_num, by rw [HS.out.1], by rw [HS.out.2], hid hI.out⟩
          case measure => simp [intOf]; omega
      · have p1' : (FloatKind.f64.format.order x 0 == some .gt) = true := p1
        have p2' : (FloatKind.f64.format.order x 4831355200913801216 == some .gt) = true := p2
        clear p1 p2
        unfold maxW at hcl
        by_cases g1 : E.1 = nm
        · have hb := str_eq g1
          by_cases g2 : E.2.1 = fr
          · have hb1 : (E.2.1 == fr) = true := beq_iff_eq.2 g2
            by_cases g3 : E.2.2.1 = tq
            · have hb2 : (E.2.2.1 == tq) = true := beq_iff_eq.2 g3
              obtain ⟨a1, a2⟩ := HR.out.1 g1 g2 g3
              rw [hcl] at a1 a2
              have hs := HN.out
              have HS := hid hs
              have bin1 : ∀ w, (binOp .add 50 (.float .f64 t) (.float .f64 4831355200913801216)).run Try.prog w = .ok (.float .f64 t') w := fun w => run_float_arith w .add 50 .f64 _ _ _ a1
              have bin2 : ∀ w, (binOp .add 50 (.float .f64 o) (.float .f64 4831355200913801216)).run Try.prog w = .ok (.float .f64 o') w := fun w => run_float_arith w .add 50 .f64 _ _ _ a2
              clear g1 g2 g3 a1 a2 hs HR
              go_wp2
              go_roundw
              case rel => exact ⟨k + 1, by omega, by go_num, by rw [HS.out.1], by rw [HS.out.2], hid hI.out⟩
              case measure => simp [intOf]; omega
            · have hb2 : (E.2.2.1 == tq) = false := beq_eq_false_iff_ne.2 g3
              obtain ⟨a1, a2⟩ := HR.out.2.1 g1 (fun h => g3 h.2)
              rw [hcl] at a1
              have hs : ofS nm fr tq (l.take (k + 1)) = o ∧ totS nm (l.take (k + 1)) = t' := ⟨HN.out.1.trans a2, HN.out.2⟩
              have HS := hid hs
              have bin1 : ∀ w, (binOp .add 50 (.float .f64 t) (.float .f64 4831355200913801216)).run Try.prog w = .ok (.float .f64 t') w := fun w => run_float_arith w .add 50 .f64 _ _ _ a1
              clear g1 g2 g3 a1 a2 hs HR
              go_wp2
              go_roundw
              case rel => exact ⟨k + 1, by omega, by go_num, by rw [HS.out.1], by rw [HS.out.2], hid hI.out⟩
              case measure => simp [intOf]; omega
          · have hb1 : (E.2.1 == fr) = false := beq_eq_false_iff_ne.2 g2
            obtain ⟨a1, a2⟩ := HR.out.2.1 g1 (fun h => g2 h.1)
            rw [hcl] at a1
            have hs : ofS nm fr tq (l.take (k + 1)) = o ∧ totS nm (l.take (k + 1)) = t' := ⟨HN.out.1.trans a2, HN.out.2⟩
            have HS := hid hs
            have bin1 : ∀ w, (binOp .add 50 (.float .f64 t) (.float .f64 4831355200913801216)).run Try.prog w = .ok (.float .f64 t') w := fun w => run_float_arith w .add 50 .f64 _ _ _ a1
            clear g1 g2 a1 a2 hs HR
            go_wp2
            go_roundw
            case rel => exact ⟨k + 1, by omega, by go_num, by rw [HS.out.1], by rw [HS.out.2], hid hI.out⟩
            case measure => simp [intOf]; omega
        · have hb := str_ne g1
          obtain ⟨a1, a2⟩ := HR.out.2.2 g1
          have hs : ofS nm fr tq (l.take (k + 1)) = o ∧ totS nm (l.take (k + 1)) = t := ⟨HN.out.1.trans a2, HN.out.2.trans a1⟩
          have HS := hid hs
          clear g1 a1 a2 hs HR
          go_wp2
          go_roundw
          case rel => exact ⟨k + 1, by omega, by go_num, by rw [HS.out.1], by rw [HS.out.2], hid hI.out⟩
          case measure => simp [intOf]; omega
    · have hk1 : k = l.length := by omega
      subst hk1
      rw [List.take_length]
      obtain ⟨o, ho⟩ : ∃ o, o = ofS nm fr tq l := ⟨_, rfl⟩
      obtain ⟨t, ht⟩ : ∃ t, t = totS nm l := ⟨_, rfl⟩
      have k1 := of_c A c l nm fr tq wr (Kd.C_below HC.out hI.out) hc (by omega) HL.out
      have hF := HF.out
      rw [← ho, ← ht] at hF
      rw [← ho, ← ht]
      rw [← ho] at k1
      have HT := hid ht
      obtain ⟨f1, f2, f3, f4, f5, f6⟩ := hF
      clear ho ht HF
      go_wp2_with fail
      refine k1.mono ?_
      clear k1
      rintro e w2 ⟨rfl, hb⟩
      have H2 := hid (below_step hI.out hb)
      clear hb
      have k2 := total_c A c l nm w2 (Kd.C_below HC.out H2.out) hc (by omega) HL.out
      rw [← HT.out] at k2
      go_wp2_with fail
      refine k2.mono ?_
      clear k2
      rintro e w3 ⟨rfl, hb⟩
      have H3 := hid (below_step H2.out hb)
      clear hb
      go_wp2_with fail
      refine (signbit_c o f1 _).mono ?_
      rintro e w4 ⟨rfl, rfl⟩
      go_wp2_with fail
      refine (isinf_c t f2 f6 _).mono ?_
      rintro e w5 ⟨rfl, rfl⟩
      go_wp2
      go_ret
      exact ⟨rfl, H3.out⟩
theorem wsums_c (A : Option Addr) (c : Nat) (l : List Edge) (nm : ByteArray) (fr tq : Int) (w : World) (hC : CE w A l) (hc : l.length ≤ c) (hl : ∀ e ∈ l, e.2.2.2 < 18446744073709551616 ∧ e.1.size ≤ 140737488351232) :
    Calls Try.prog 17 #[.slice A l.length c, .string nm, .int .i64 fr, .int .i64 tq] w fun e w' => e = .returned (.bool true) ∧ Below w.heap.size w w' := by
  by_cases n1 : (300 : Int) < (l.length : Int)
  · clear hC hl
    go_enter Try.func17, Try.ntmps17
    go_wp2_with fail
    refine (awake24_c _).mono ?_
    rintro e w1 ⟨rfl, hb⟩
    have H1 := hid hb
    clear hb
    go_wp2_with fail
    refine (awake24_c _).mono ?_
    rintro e w2 ⟨rfl, hb⟩
    have H2 := hid (below_step H1.out hb)
    clear hb
    go_wp2
    go_ret
    exact ⟨rfl, H2.out⟩
  · exact wsums_walk A c l nm fr tq w hC hc (fun e he => (hl e he).1) n1
end Go.Proofs.Ytmcfihpbiilbcaa.H
