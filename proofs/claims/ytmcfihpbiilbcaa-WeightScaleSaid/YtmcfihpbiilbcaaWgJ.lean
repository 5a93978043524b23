/- WeightClean's walk. -/
import Derived.Test.YtmcfihpbiilbcaaWgH
import Derived.Test.YtmcfihpbiilbcaaWgI
namespace Go.Proofs.Ytmcfihpbiilbcaa.H
open Go.RowKit Go.Proofs.YtmcfihpbiilbcaaW.PrintWords Go.Proofs.YtmcfihpbiilbcaaW.PrintLast Go.Proofs.YtmcfihpbiilbcaaW.PrintMore Go.Proofs.Ytmcfihpbiilbcaa.E
set_option linter.unusedVariables false
set_option linter.unusedSimpArgs false
theorem V0 : V 0 = some 0 := by decide +kernel
theorem VM : ∃ M, V maxW = some M ∧ 0 < M := by
  have h : fo 0 maxW = some .lt := by decide +kernel
  rw [fo_V, V0] at h
  cases hm : V maxW with
  | none => rw [hm] at h; cases h
  | some M =>
    rw [hm] at h
    refine ⟨M, rfl, ?_⟩
    have h2 : compare (0 : Int) M = .lt := by simpa using h
    exact Int.compare_eq_lt.1 h2
def cl (M : Int) : Option Int → Int
  | none => 0
  | some a => if a ≤ 0 then 0 else if M < a then M else a
theorem le_V {x y : Nat} {a b : Int} (hx : V x = some a) (hy : V y = some b) : leB x y = decide (a ≤ b) := by
  unfold leB
  rw [fo_some hx hy]
  rcases Int.lt_trichotomy a b with h | h | h
  · rw [Int.compare_eq_lt.2 h, decide_eq_true (by omega)]; rfl
  · rw [Int.compare_eq_eq.2 h, decide_eq_true (by omega)]; rfl
  · rw [Int.compare_eq_gt.2 h, decide_eq_false (by omega)]; rfl
theorem gt_V {x y : Nat} {a b : Int} (hx : V x = some a) (hy : V y = some b) : gtB x y = decide (b < a) := by
  unfold gtB
  rw [fo_some hx hy]
  rcases Int.lt_trichotomy a b with h | h | h
  · rw [Int.compare_eq_lt.2 h, decide_eq_false (by omega)]; rfl
  · rw [Int.compare_eq_eq.2 h, decide_eq_false (by omega)]; rfl
  · rw [Int.compare_eq_gt.2 h, decide_eq_true (by omega)]; rfl
theorem nan_V {x : Nat} {a : Int} (hx : V x = some a) : nanB x = false := by
  unfold nanB
  rw [fo_some hx hx, Int.compare_eq_eq.2 rfl]
  rfl
theorem clean_V {M : Int} (hM : V maxW = some M) (h0 : 0 < M) (x : Nat) : V (cleanF x) = some (cl M (V x)) := by
  unfold cleanF
  cases hx : V x with
  | none =>
    have hn : nanB x = true := by unfold nanB; rw [fo_V, hx]; rfl
    rw [if_pos hn]
    exact V0
  | some a =>
    rw [if_neg (by rw [nan_V hx]; decide), le_V hx V0, gt_V hx hM]
    show _ = some (if a ≤ 0 then 0 else if M < a then M else a)
    by_cases h1 : a ≤ 0
    · rw [if_pos (decide_eq_true h1), if_pos h1]; exact V0
    · rw [if_neg (by rw [decide_eq_false h1]; decide), if_neg h1]
      by_cases h2 : M < a
      · rw [if_pos (decide_eq_true h2), if_pos h2]; exact hM
      · rw [if_neg (by rw [decide_eq_false h2]; decide), if_neg h2]; exact hx
theorem cl_bd {M : Int} (h0 : 0 < M) (o : Option Int) : 0 ≤ cl M o ∧ cl M o ≤ M := by
  unfold cl
  split
  · omega
  · split
    · omega
    · split <;> omega
def geB (x y : Nat) : Bool := fo x y == some .gt || fo x y == some .eq
def neB (x y : Nat) : Bool := fo x y != some .eq
theorem ge_V {x y : Nat} {a b : Int} (hx : V x = some a) (hy : V y = some b) : geB x y = decide (b ≤ a) := by
  unfold geB
  rw [fo_some hx hy]
  rcases Int.lt_trichotomy a b with h | h | h
  · rw [Int.compare_eq_lt.2 h, decide_eq_false (by omega)]; rfl
  · rw [Int.compare_eq_eq.2 h, decide_eq_true (by omega)]; rfl
  · rw [Int.compare_eq_gt.2 h, decide_eq_true (by omega)]; rfl
theorem ne_V {x y : Nat} {a b : Int} (hx : V x = some a) (hy : V y = some b) (h : a = b) : neB x y = false := by
  unfold neB
  rw [fo_some hx hy, Int.compare_eq_eq.2 h]
  rfl
theorem signbit_c (c : Nat) (h : okF c) (w : World) : Calls Try.prog 66 #[.float .f64 c] w fun e w' => e = .returned (.bool false) ∧ w' = w := by
  have hbr := bits_run c
  have e1 : IntKind.i64.wrap (c : Int) = c := IntWalk.i64_in _ (by unfold okF at h; omega)
  have e2 : ¬ ((c : Int) < 0) := by omega
  go_enter Try.func66, Try.ntmps66
  go_wp2
  go_ret
  exact ⟨rfl, rfl⟩
/-- What is asked of x and its clean weight c. -/
theorem clean_class (x : Nat) (hx : x < 18446744073709551616) : okF (cleanF x) ∧ geB (cleanF x) 0 = true ∧ leB (cleanF x) maxW = true ∧ neB (cleanF (cleanF x)) (cleanF x) = false ∧
    ((gtB x 0 = false ∧ gtB x maxW = false ∧ neB (cleanF x) 0 = false) ∨ (gtB x 0 = true ∧ leB x maxW = true ∧ gtB x maxW = false ∧ neB (cleanF x) x = false) ∨ (gtB x 0 = true ∧ leB x maxW = false ∧ gtB x maxW = true ∧ neB (cleanF x) maxW = false)) := by
  obtain ⟨M, hM, h0⟩ := VM
  have hv := clean_V hM h0 x
  have hb := cl_bd h0 (V x)
  have hvv := clean_V hM h0 (cleanF x)
  rw [hv] at hvv
  have e : cl M (some (cl M (V x))) = cl M (V x) := by
    generalize cl M (V x) = q at hb
    unfold cl
    simp only
    split
    · omega
    · split <;> omega
  refine ⟨clean_ok hx, by rw [ge_V hv V0, decide_eq_true hb.1], by rw [le_V hv hM, decide_eq_true hb.2], ne_V hvv hv e, ?_⟩
  cases hq : V x with
  | none =>
    rw [hq] at hv
    have g1 : gtB x 0 = false := by unfold gtB; rw [fo_V, hq]; rfl
    have g2 : gtB x maxW = false := by unfold gtB; rw [fo_V, hq]; rfl
    exact .inl ⟨g1, g2, ne_V hv V0 rfl⟩
  | some a =>
    rw [hq] at hv
    by_cases h1 : a ≤ 0
    · refine .inl ⟨by rw [gt_V hq V0, decide_eq_false (by omega)], by rw [gt_V hq hM, decide_eq_false (by omega)], ne_V hv V0 ?_⟩
      unfold cl; simp only; rw [if_pos h1]
    · by_cases h2 : M < a
      · refine .inr (.inr ⟨by rw [gt_V hq V0, decide_eq_true (by omega)], by rw [le_V hq hM, decide_eq_false (by omega)], by rw [gt_V hq hM, decide_eq_true h2], ne_V hv hM ?_⟩)
        unfold cl; simp only; rw [if_neg h1, if_pos h2]
      · refine .inr (.inl ⟨by rw [gt_V hq V0, decide_eq_true (by omega)], by rw [le_V hq hM, decide_eq_true (by omega)], by rw [gt_V hq hM, decide_eq_false h2], ne_V hv hq ?_⟩)
        unfold cl; simp only; rw [if_neg h1, if_neg h2]
theorem clean_mono (x y : Nat) (h : leB x y = true) : leB (cleanF x) (cleanF y) = true := by
  obtain ⟨M, hM, h0⟩ := VM
  have hv := clean_V hM h0 x
  have hw := clean_V hM h0 y
  cases hx : V x with
  | none => unfold leB at h; rw [fo_V, hx] at h; cases h
  | some a =>
    cases hy : V y with
    | none => unfold leB at h; rw [fo_V, hx, hy] at h; cases h
    | some b =>
      rw [hx] at hv
      rw [hy] at hw
      rw [le_V hx hy] at h
      have hab := of_decide_eq_true h
      rw [le_V hv hw]
      refine decide_eq_true ?_
      unfold cl
      simp only
      repeat' split
      all_goals omega
set_option maxRecDepth 100000 in
set_option maxHeartbeats 2000000 in
theorem wclean_walk (a b : Int) (x y c d cc : Nat) (hx : a.toNat = x) (hy : b.toNat = y) (hc : cleanF x = c) (hd : cleanF y = d) (hcc : cleanF c = cc) (ok : okF c) (f1 : geB c 0 = true) (f2 : leB c maxW = true) (f3 : neB cc c = false)
    (hcl : (gtB x 0 = false ∧ gtB x maxW = false ∧ neB c 0 = false) ∨ (gtB x 0 = true ∧ leB x maxW = true ∧ gtB x maxW = false ∧ neB c x = false) ∨ (gtB x 0 = true ∧ leB x maxW = false ∧ gtB x maxW = true ∧ neB c maxW = false)) (t : Bool) (g4 : leB x y = t) (g5 : t = true → leB c d = true) (w : World) :
    Calls Try.prog 16 #[.int .u64 a, .int .u64 b] w fun e w' => e = .returned (.bool true) ∧ Below w.heap.size w w' := by
  have r1 := frombits_run a
  have r2 := frombits_run b
  rw [hx] at r1
  rw [hy] at r2
  have k1 := clean_c x
  have k2 := clean_c y
  have k3 := clean_c c
  rw [hc] at k1
  rw [hd] at k2
  rw [hcc] at k3
  have K := hid (And.intro k1 (And.intro k2 (And.intro k3 ok)))
  clear k1 k2 k3 hx hy hc hd hcc ok
  have f1' : (FloatKind.f64.format.order c 0 == some .gt || FloatKind.f64.format.order c 0 == some .eq) = true := f1
  have f2' : (FloatKind.f64.format.order c 4831355200913801216 == some .lt || FloatKind.f64.format.order c 4831355200913801216 == some .eq) = true := f2
  have f3' : (FloatKind.f64.format.order cc c != some .eq) = false := f3
  have g4' : (FloatKind.f64.format.order x y == some .lt || FloatKind.f64.format.order x y == some .eq) = t := g4
  clear f1 f2 f3 g4
  rcases hcl with ⟨p1, p2, p3⟩ | ⟨p1, p2, p3, p4⟩ | ⟨p1, p2, p3, p4⟩
  · have p1' : (FloatKind.f64.format.order x 0 == some .gt) = false := p1
    have p2' : (FloatKind.f64.format.order x 4831355200913801216 == some .gt) = false := p2
    have p3' : (FloatKind.f64.format.order c 0 != some .eq) = false := p3
    clear p1 p2 p3
    cases t
    · clear g5
      go_enter Try.func16, Try.ntmps16
      go_wp2_with fail
      refine (K.out.1 _).mono ?_
      rintro e w1 ⟨rfl, rfl⟩
      go_wp2_with fail
      refine (K.out.2.1 _).mono ?_
      rintro e w2 ⟨rfl, rfl⟩
      go_wp2_with fail
      refine (awake24_c _).mono ?_
      rintro e w3 ⟨rfl, hb⟩
      have HB := hid hb
      clear hb
      go_wp2_with fail
      refine (signbit_c c K.out.2.2.2 _).mono ?_
      rintro e w4 ⟨rfl, rfl⟩
      go_wp2_with fail
      refine (K.out.2.2.1 _).mono ?_
      rintro e w5 ⟨rfl, rfl⟩
      go_wp2
      go_ret
      exact ⟨rfl, HB.out⟩
    · have g5' : (FloatKind.f64.format.order c d == some .lt || FloatKind.f64.format.order c d == some .eq) = true := g5 rfl
      clear g5
      go_enter Try.func16, Try.ntmps16
      go_wp2_with fail
      refine (K.out.1 _).mono ?_
      rintro e w1 ⟨rfl, rfl⟩
      go_wp2_with fail
      refine (K.out.2.1 _).mono ?_
      rintro e w2 ⟨rfl, rfl⟩
      go_wp2_with fail
      refine (awake24_c _).mono ?_
      rintro e w3 ⟨rfl, hb⟩
      have HB := hid hb
      clear hb
      go_wp2_with fail
      refine (signbit_c c K.out.2.2.2 _).mono ?_
      rintro e w4 ⟨rfl, rfl⟩
      go_wp2_with fail
      refine (K.out.2.2.1 _).mono ?_
      rintro e w5 ⟨rfl, rfl⟩
      go_wp2
      go_ret
      exact ⟨rfl, HB.out⟩
  · have p1' : (FloatKind.f64.format.order x 0 == some .gt) = true := p1
    have p2' : (FloatKind.f64.format.order x 4831355200913801216 == some .lt || FloatKind.f64.format.order x 4831355200913801216 == some .eq) = true := p2
    have p3' : (FloatKind.f64.format.order x 4831355200913801216 == some .gt) = false := p3
    have p4' : (FloatKind.f64.format.order c x != some .eq) = false := p4
    clear p1 p2 p3 p4
    cases t
    · clear g5
      go_enter Try.func16, Try.ntmps16
      go_wp2_with fail
      refine (K.out.1 _).mono ?_
      rintro e w1 ⟨rfl, rfl⟩
      go_wp2_with fail
      refine (K.out.2.1 _).mono ?_
      rintro e w2 ⟨rfl, rfl⟩
      go_wp2_with fail
      refine (awake24_c _).mono ?_
      rintro e w3 ⟨rfl, hb⟩
      have HB := hid hb
      clear hb
      go_wp2_with fail
      refine (signbit_c c K.out.2.2.2 _).mono ?_
      rintro e w4 ⟨rfl, rfl⟩
      go_wp2_with fail
      refine (K.out.2.2.1 _).mono ?_
      rintro e w5 ⟨rfl, rfl⟩
      go_wp2
      go_ret
      exact ⟨rfl, HB.out⟩
    · have g5' : (FloatKind.f64.format.order c d == some .lt || FloatKind.f64.format.order c d == some .eq) = true := g5 rfl
      clear g5
      go_enter Try.func16, Try.ntmps16
      go_wp2_with fail
      refine (K.out.1 _).mono ?_
      rintro e w1 ⟨rfl, rfl⟩
      go_wp2_with fail
      refine (K.out.2.1 _).mono ?_
      rintro e w2 ⟨rfl, rfl⟩
      go_wp2_with fail
      refine (awake24_c _).mono ?_
      rintro e w3 ⟨rfl, hb⟩
      have HB := hid hb
      clear hb
      go_wp2_with fail
      refine (signbit_c c K.out.2.2.2 _).mono ?_
      rintro e w4 ⟨rfl, rfl⟩
      go_wp2_with fail
      refine (K.out.2.2.1 _).mono ?_
      rintro e w5 ⟨rfl, rfl⟩
      go_wp2
      go_ret
      exact ⟨rfl, HB.out⟩
  · have p1' : (FloatKind.f64.format.order x 0 == some .gt) = true := p1
    have p2' : (FloatKind.f64.format.order x 4831355200913801216 == some .lt || FloatKind.f64.format.order x 4831355200913801216 == some .eq) = false := p2
    have p3' : (FloatKind.f64.format.order x 4831355200913801216 == some .gt) = true := p3
    have p4' : (FloatKind.f64.format.order c 4831355200913801216 != some .eq) = false := p4
    clear p1 p2 p3 p4
    cases t
    · clear g5
      go_enter Try.func16, Try.ntmps16
      go_wp2_with fail
      refine (K.out.1 _).mono ?_
      rintro e w1 ⟨rfl, rfl⟩
      go_wp2_with fail
      refine (K.out.2.1 _).mono ?_
      rintro e w2 ⟨rfl, rfl⟩
      go_wp2_with fail
      refine (awake24_c _).mono ?_
      rintro e w3 ⟨rfl, hb⟩
      have HB := hid hb
      clear hb
      go_wp2_with fail
      refine (signbit_c c K.out.2.2.2 _).mono ?_
      rintro e w4 ⟨rfl, rfl⟩
      go_wp2_with fail
      refine (K.out.2.2.1 _).mono ?_
      rintro e w5 ⟨rfl, rfl⟩
      go_wp2
      go_ret
      exact ⟨rfl, HB.out⟩
    · have g5' : (FloatKind.f64.format.order c d == some .lt || FloatKind.f64.format.order c d == some .eq) = true := g5 rfl
      clear g5
      go_enter Try.func16, Try.ntmps16
      go_wp2_with fail
      refine (K.out.1 _).mono ?_
      rintro e w1 ⟨rfl, rfl⟩
      go_wp2_with fail
      refine (K.out.2.1 _).mono ?_
      rintro e w2 ⟨rfl, rfl⟩
      go_wp2_with fail
      refine (awake24_c _).mono ?_
      rintro e w3 ⟨rfl, hb⟩
      have HB := hid hb
      clear hb
      go_wp2_with fail
      refine (signbit_c c K.out.2.2.2 _).mono ?_
      rintro e w4 ⟨rfl, rfl⟩
      go_wp2_with fail
      refine (K.out.2.2.1 _).mono ?_
      rintro e w5 ⟨rfl, rfl⟩
      go_wp2
      go_ret
      exact ⟨rfl, HB.out⟩
theorem wclean_all (a b : Int) (w : World) (ha0 : 0 ≤ a) (ha1 : a ≤ 18446744073709551615) : Calls Try.prog 16 #[.int .u64 a, .int .u64 b] w fun e w' => e = .returned (.bool true) ∧ Below w.heap.size w w' := by
  obtain ⟨h1, h2, h3, h4, h5⟩ := clean_class a.toNat (by omega)
  exact wclean_walk a b a.toNat b.toNat (cleanF a.toNat) (cleanF b.toNat) (cleanF (cleanF a.toNat)) rfl rfl rfl rfl rfl h1 h2 h3 h4 h5 (leB a.toNat b.toNat) rfl (clean_mono a.toNat b.toNat) w
end Go.Proofs.Ytmcfihpbiilbcaa.H
