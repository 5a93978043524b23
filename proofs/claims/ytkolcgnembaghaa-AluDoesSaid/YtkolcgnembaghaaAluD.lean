/- AluDoes, in plain Lean. -/
import Derived.Test.YtkolcgnembaghaaAluP
import Derived.Test.YtkolcgnembaghaaQx5
import Derived.OpenShut
namespace Go.Proofs.Ytkolcgnembaghaa.H
open Go.RowKit Go.Proofs.YtkolcgnembaghaaW.PrintWords Go.Proofs.YtkolcgnembaghaaW.PrintLast Go.Proofs.YtkolcgnembaghaaW.PrintMore Go.Proofs.Ytkolcgnembaghaa.Q
set_option linter.unusedVariables false
set_option linter.unusedSimpArgs false

theorem three_q (n : Int) : spliceref02_three.f n = some (decide (n ≥ 1 ∧ n ≤ 7)) := by
  unfold spliceref02_three.f; by_cases h : n ≥ 1
  · rw [if_pos h]; simp only [h, true_and]
  · rw [if_neg h]; simp only [h, false_and, decide_false]
theorem reg_q (n : Int) : spliceref02_reg.f n = some (decide (n ≥ 0 ∧ n ≤ 15)) := by
  unfold spliceref02_reg.f; by_cases h : n ≥ 0
  · rw [if_pos h]; simp only [h, true_and]
  · rw [if_neg h]; simp only [h, false_and, decide_false]
theorem branch_q (n : Int) : spliceref02_branch.f n = some (decide (n ≥ 15 ∧ n ≤ 18)) := by
  unfold spliceref02_branch.f; by_cases h : n ≥ 15
  · rw [if_pos h]; simp only [h, true_and]
  · rw [if_neg h]; simp only [h, false_and, decide_false]
theorem near_q (n : Int) : spliceref02_near.f n = some (decide (n = 8 ∨ n ≥ 11 ∧ n ≤ 14)) := by
  unfold spliceref02_near.f
  by_cases g : n = 8
  · rw [if_pos g]; simp [g]
  rw [if_neg g]; by_cases h : n ≥ 11
  · rw [if_pos h]; simp only [g, false_or, h, true_and]
  · rw [if_neg h]; simp only [g, h, false_or, false_and, decide_false]
theorem one_q (n : Int) : spliceref02_one.f n = some (decide (n = 0 ∨ n = 22 ∨ n = 23)) := by
  unfold spliceref02_one.f
  by_cases g : n = 0
  · rw [if_pos g]; simp [g]
  rw [if_neg g]; by_cases h : n = 22
  · rw [if_pos h]; simp [h]
  · rw [if_neg h]; by_cases e : n = 23 <;> simp [g, h, e]
theorem far_q (n : Int) : spliceref02_far.f n = some (decide (n = 19 ∨ n = 20)) := by
  unfold spliceref02_far.f
  by_cases g : n = 19
  · rw [if_pos g]; simp [g]
  rw [if_neg g]; by_cases e : n = 20 <;> simp [g, e]
def RightIs (o n : Int) (x : Option Bool) : Prop := ∃ r, x = some r ∧ (r = true → 0 ≤ o ∧ o ≤ 25 ∧ (o = 8 → -32768 ≤ n ∧ n ≤ 32767) ∧ (o = 9 ∨ o = 10 → 0 ≤ n ∧ n ≤ 65535))
theorem rightIs_ite {o n : Int} {c : Prop} [Decidable c] {x y : Option Bool} (h : c → RightIs o n x) (k : ¬ c → RightIs o n y) : RightIs o n (if c then x else y) := by
  by_cases d : c
  · rw [if_pos d]; exact h d
  · rw [if_neg d]; exact k d
theorem rightIs_no {o n : Int} : RightIs o n (some false) := ⟨false, rfl, fun h => by cases h⟩
theorem rightIs_yes {o n : Int} (b : Bool) (h : b = true → 0 ≤ o ∧ o ≤ 25 ∧ (o = 8 → -32768 ≤ n ∧ n ≤ 32767) ∧ (o = 9 ∨ o = 10 → 0 ≤ n ∧ n ≤ 65535)) : RightIs o n (some b) := ⟨b, rfl, h⟩
theorem right_some (o a b c n : Int) : RightIs o n (spliceref02_Right.f o a b c n) := by
  unfold spliceref02_Right.f
  simp only [three_q, reg_q, near_q, branch_q, one_q, far_q, Option.bind_some, decide_eq_true_eq]
  repeat' (first | exact rightIs_no | (refine rightIs_ite (fun h => ?_) (fun h => ?_)))
  all_goals refine rightIs_yes _ (fun h => ?_)
  all_goals first | (have h' := of_decide_eq_true h; omega) | (have h' := eq_of_beq h; omega)
theorem tmod_32 (x : Int) : (if Int.tmod x 4294967296 < 0 then Int.tmod x 4294967296 + 4294967296 else Int.tmod x 4294967296) = x % 4294967296 := by
  by_cases h : 0 ≤ x
  · rw [Int.tmod_eq_emod_of_nonneg h, if_neg (by omega)]
  · have e : Int.tmod x 4294967296 = -((-x) % 4294967296) := by
      rw [← Int.tmod_eq_emod_of_nonneg (a := -x) (by omega), Int.neg_tmod, Int.neg_neg]
    rw [e]; split <;> omega
theorem mod_q (x : Int) : spliceref01_Mod.f x 4294967296 = some (x % 4294967296) := by
  have := tmod_32 x
  unfold spliceref01_Mod.f
  rw [if_neg (by decide)]
  split
  · rename_i h
    rw [if_pos h] at this
    rw [this, wrap64_id (by omega) (by omega)]
  · rename_i h
    rw [if_neg h] at this
    rw [this]
theorem word_q (x : Int) : spliceref04_word.f x = some (x % 4294967296) := by
  unfold spliceref04_word.f
  rw [mod_q, Option.bind_some, show x % 4294967296 % 4294967296 = x % 4294967296 by omega]

theorem and_step (p q : Nat) : p &&& q = 2 * (p / 2 &&& q / 2) + (p % 2) * (q % 2) := by
  have h1 := Nat.and_div_two (a := p) (b := q)
  have h2 := Nat.and_mod_two_pow (a := p) (b := q) (n := 1)
  rw [show 2 ^ 1 = 2 from rfl] at h2
  generalize p &&& q = z at *
  generalize p / 2 &&& q / 2 = y at *
  rcases Nat.mod_two_eq_zero_or_one p with a | a <;> rcases Nat.mod_two_eq_zero_or_one q with b | b <;> rw [a, b] at h2 ⊢ <;> (have h3 : z % 2 = _ := h2) <;> (have h4 := Nat.div_add_mod z 2) <;> rw [h1, h2] at h4 <;> rw [← h4] <;> rfl
theorem or_step (p q : Nat) : p ||| q = 2 * (p / 2 ||| q / 2) + ((p % 2) + (q % 2) - (p % 2) * (q % 2)) := by
  have h1 := Nat.or_div_two (a := p) (b := q)
  have h2 := Nat.or_mod_two_pow (a := p) (b := q) (n := 1)
  rw [show 2 ^ 1 = 2 from rfl] at h2
  generalize p ||| q = z at *
  generalize p / 2 ||| q / 2 = y at *
  rcases Nat.mod_two_eq_zero_or_one p with a | a <;> rcases Nat.mod_two_eq_zero_or_one q with b | b <;> rw [a, b] at h2 ⊢ <;> (have h3 : z % 2 = _ := h2) <;> (have h4 := Nat.div_add_mod z 2) <;> rw [h1, h2] at h4 <;> rw [← h4] <;> rfl
theorem xor_step (p q : Nat) : p ^^^ q = 2 * (p / 2 ^^^ q / 2) + ((p % 2) + (q % 2)) % 2 := by
  have h1 := Nat.xor_div_two (a := p) (b := q)
  have h2 := Nat.xor_mod_two_pow (a := p) (b := q) (n := 1)
  rw [show 2 ^ 1 = 2 from rfl] at h2
  generalize p ^^^ q = z at *
  generalize p / 2 ^^^ q / 2 = y at *
  rcases Nat.mod_two_eq_zero_or_one p with a | a <;> rcases Nat.mod_two_eq_zero_or_one q with b | b <;> rw [a, b] at h2 ⊢ <;> (have h3 : z % 2 = _ := h2) <;> (have h4 := Nat.div_add_mod z 2) <;> rw [h1, h2] at h4 <;> rw [← h4] <;> rfl
def opN (how : Int) (p q : Nat) : Nat := if how = 0 then p &&& q else if how = 1 then p ||| q else p ^^^ q
def bitN (how : Int) (p q : Nat) : Nat := if how = 0 then (p % 2) * (q % 2) else if how = 1 then (p % 2) + (q % 2) - (p % 2) * (q % 2) else ((p % 2) + (q % 2)) % 2
theorem opN_step (how : Int) (p q : Nat) : opN how p q = 2 * opN how (p / 2) (q / 2) + bitN how p q := by
  unfold opN bitN
  split
  · exact and_step p q
  split
  · exact or_step p q
  · exact xor_step p q
theorem opN_lt (how : Int) (p q n : Nat) (hp : p < 2 ^ n) (hq : q < 2 ^ n) : opN how p q < 2 ^ n := by
  unfold opN
  split
  · exact Nat.and_lt_two_pow _ hq
  split
  · exact Nat.or_lt_two_pow hp hq
  · exact Nat.xor_lt_two_pow hp hq
theorem shr_q (a i : Nat) (hi : i ≤ 31) : shr .u32 (a : Int) (IntKind.u64.wrap (i : Int)) = ((a / 2 ^ i : Nat) : Int) := by
  have e : IntKind.u64.wrap (i : Int) = i := by rw [IntKind.wrap_u64]; omega
  rw [e]
  show (a : Int) / 2 ^ min (i : Int).toNat 32 = _
  rw [show min (i : Int).toNat 32 = i by omega]
  simp
theorem bit_q (a i : Nat) (ha : a < 4294967296) (hi : i ≤ 31) : Int.tmod (wrap64 (shr .u32 (a : Int) (IntKind.u64.wrap (i : Int)))) 2 = ((a / 2 ^ i % 2 : Nat) : Int) := by
  have : a / 2 ^ i ≤ a := Nat.div_le_self _ _
  rw [shr_q a i hi]
  generalize a / 2 ^ i = z at *
  rw [wrap64_id (by omega) (by omega), Int.tmod_eq_emod_of_nonneg (by omega)]
  omega
theorem bitwise_from (a b : Nat) (ha : a < 4294967296) (hb : b < 4294967296) (how : Int) (hh : how = 0 ∨ how = 1 ∨ how = 2) : ∀ i : Nat, i ≤ 32 → ∀ k,
    spliceref04_bitwise.l0 (k + i + 1) a b how ((opN how (a / 2 ^ i) (b / 2 ^ i) : Nat) : Int) ((i : Int) - 1) = some ((opN how a b : Nat) : Int) := by
  intro i
  induction i with
  | zero =>
    intro _ k
    have := opN_lt how a b 32 (by omega) (by omega)
    rw [spliceref04_bitwise.l0, if_neg (by simp)]
    simp only [Nat.pow_zero, Nat.div_one]
    rw [Int.emod_eq_of_lt (by omega) (by omega)]
  | succ i ih =>
    intro hi k
    have hi' : i ≤ 31 := by omega
    have ih' := ih (by omega) k
    have hs := opN_step how (a / 2 ^ i) (b / 2 ^ i)
    rw [Nat.div_div_eq_div_mul, Nat.div_div_eq_div_mul, ← Nat.pow_succ] at hs
    have la : a / 2 ^ (i + 1) ≤ a := Nat.div_le_self _ _
    have lb : b / 2 ^ (i + 1) ≤ b := Nat.div_le_self _ _
    have hlt := opN_lt how (a / 2 ^ (i + 1)) (b / 2 ^ (i + 1)) 32 (by omega) (by omega)
    have e0 : (((i + 1 : Nat) : Int) - 1) = (i : Int) := by omega
    have e1 : 0 ≤ IntKind.u64.wrap (i : Int) := by rw [IntKind.wrap_u64]; omega
    have e2 : wrap64 ((i : Int) - 1) = (i : Int) - 1 := wrap64_id (by omega) (by omega)
    have p2 : a / 2 ^ i % 2 < 2 := Nat.mod_lt _ (by decide)
    have q2 : b / 2 ^ i % 2 < 2 := Nat.mod_lt _ (by decide)
    rw [show k + (i + 1) + 1 = (k + i + 1) + 1 by omega, spliceref04_bitwise.l0, e0, if_pos (by omega), if_pos e1, bit_q a i ha hi', bit_q b i hb hi', e2, ← ih', hs]
    generalize hX : opN how (a / 2 ^ (i + 1)) (b / 2 ^ (i + 1)) = X at *
    unfold bitN
    generalize a / 2 ^ i % 2 = p at *
    generalize b / 2 ^ i % 2 = q at *
    have pq : p * q ≤ 1 := by
      have : p * q ≤ 1 * 1 := Nat.mul_le_mul (by omega) (by omega)
      omega
    have pqm : p * q ≤ p := by
      have : p * q ≤ p * 1 := Nat.mul_le_mul (Nat.le_refl _) (by omega)
      omega
    have epq : ((p : Int) * (q : Int)) = ((p * q : Nat) : Int) := by simp
    rcases hh with rfl | rfl | rfl
    · rw [if_neg (by decide), if_neg (by decide), if_pos rfl, epq, wrap64_id (x := 2 * (X : Int)) (by omega) (by omega), wrap64_id (x := ((p * q : Nat) : Int)) (by omega) (by omega), wrap64_id (by omega) (by omega)]
      congr 1
    · rw [if_pos rfl, if_neg (by decide), if_neg (by decide), if_pos rfl, epq, wrap64_id (x := 2 * (X : Int)) (by omega) (by omega), wrap64_id (x := ((p * q : Nat) : Int)) (by omega) (by omega), wrap64_id (x := (p : Int) + q) (by omega) (by omega), wrap64_id (x := (p : Int) + q - _) (by omega) (by omega), wrap64_id (by omega) (by omega)]
      congr 1; first | done | omega
    · rw [if_neg (by decide), if_pos rfl, if_neg (by decide), if_neg (by decide), wrap64_id (x := 2 * (X : Int)) (by omega) (by omega), wrap64_id (x := (p : Int) + q) (by omega) (by omega), Int.tmod_eq_emod_of_nonneg (by omega), wrap64_id (by omega) (by omega)]
      congr 1; first | done | omega
theorem bitwise_q (a b : Int) (a0 : 0 ≤ a) (a1 : a ≤ 4294967295) (b0 : 0 ≤ b) (b1 : b ≤ 4294967295) (how : Int) (hh : how = 0 ∨ how = 1 ∨ how = 2) (k : Nat) (hk : 33 ≤ k) :
    spliceref04_bitwise.f k a b how = some ((opN how a.toNat b.toNat : Nat) : Int) := by
  obtain ⟨n, rfl⟩ := Int.eq_ofNat_of_zero_le a0
  obtain ⟨m, rfl⟩ := Int.eq_ofNat_of_zero_le b0
  have := bitwise_from n m (by omega) (by omega) how hh 32 (by decide) (k - 33)
  have e1 : n / 2 ^ 32 = 0 := Nat.div_eq_of_lt (by omega)
  have e2 : m / 2 ^ 32 = 0 := Nat.div_eq_of_lt (by omega)
  rw [e1, e2, show k - 33 + 32 + 1 = k by omega] at this
  unfold spliceref04_bitwise.f
  rw [show opN how 0 0 = 0 by unfold opN; split <;> (try split) <;> rfl] at this
  exact this

theorem toNat_bits (op : BinOp) (how : Int) (a b : Int) (a0 : 0 ≤ a) (a1 : a ≤ 4294967295) (b0 : 0 ≤ b) (b1 : b ≤ 4294967295)
    (h : (how = 0 ∧ op = .and) ∨ (how = 1 ∧ op = .or) ∨ (how = 2 ∧ op = .xor)) : Go.bits op .u32 a b = ((opN how a.toNat b.toNat : Nat) : Int) := by
  obtain ⟨n, rfl⟩ := Int.eq_ofNat_of_zero_le a0
  obtain ⟨m, rfl⟩ := Int.eq_ofNat_of_zero_le b0
  rcases h with ⟨rfl, rfl⟩ | ⟨rfl, rfl⟩ | ⟨rfl, rfl⟩
  · exact u32_and_nat n m (by omega) (by omega)
  · exact u32_or_nat n m (by omega) (by omega)
  · exact u32_xor_nat n m (by omega) (by omega)
theorem mul_split (x y : Int) (x0 : 0 ≤ x) (x1 : x ≤ 4294967295) (y0 : 0 ≤ y) (y1 : y ≤ 4294967295) :
    spliceref04_word.f (wrap64 ((wrap64 ((Int.tmod x 65536) * y)) + (wrap64 ((wrap64 ((wrap64 (Int.tdiv x 65536)) * (Int.tmod y 65536))) * 65536)))) = some (x * y % 4294967296) := by
  rw [Int.tmod_eq_emod_of_nonneg x0, Int.tmod_eq_emod_of_nonneg y0, Int.tdiv_eq_ediv_of_nonneg x0, wrap64_id (x := x / 65536) (by omega) (by omega)]
  have hx : x = 65536 * (x / 65536) + x % 65536 := by omega
  have hy : y = 65536 * (y / 65536) + y % 65536 := by omega
  have a0 : 0 ≤ x % 65536 := by omega
  have a1 : x % 65536 ≤ 65535 := by omega
  have c0 : 0 ≤ x / 65536 := by omega
  have c1 : x / 65536 ≤ 65535 := by omega
  have d0 : 0 ≤ y % 65536 := by omega
  have d1 : y % 65536 ≤ 65535 := by omega
  generalize x % 65536 = xl at *
  generalize x / 65536 = xh at *
  generalize y % 65536 = yl at *
  generalize y / 65536 = yh at *
  have p0 : 0 ≤ xl * y := Int.mul_nonneg a0 y0
  have p1 : xl * y ≤ 65535 * 4294967295 := Int.mul_le_mul a1 y1 y0 (by omega)
  have q0 : 0 ≤ xh * yl := Int.mul_nonneg c0 d0
  have q1 : xh * yl ≤ 65535 * 65535 := Int.mul_le_mul c1 d1 d0 (by omega)
  have e : x * y = xl * y + 65536 * (xh * yl) + 4294967296 * (xh * yh) := by
    have : x * y = 65536 * (xh * y) + xl * y := by rw [hx, Int.add_mul, Int.mul_assoc]
    rw [this]
    have : xh * y = 65536 * (xh * yh) + xh * yl := by rw [hy, Int.mul_add, ← Int.mul_assoc, Int.mul_comm xh 65536, Int.mul_assoc]
    rw [this]; omega
  rw [e]
  generalize xl * y = P at *
  generalize xh * yl = R at *
  generalize xh * yh = S at *
  rw [wrap64_id (x := P) (by omega) (by omega), wrap64_id (x := R) (by omega) (by omega), wrap64_id (x := R * 65536) (by omega) (by omega), wrap64_id (by omega) (by omega), word_q]
  congr 1
  omega

theorem do_same (o a b c n x y : Int) (x0 : 0 ≤ x) (x1 : x ≤ 4294967295) (y0 : 0 ≤ y) (y1 : y ≤ 4294967295) (hi : -9223372036854775808 ≤ n) (hj : n ≤ 9223372036854775807)
    (h0 : 0 ≤ o) (h1 : o ≤ 25) (h8 : o = 8 → -32768 ≤ n ∧ n ≤ 32767) (h9 : o = 9 ∨ o = 10 → 0 ≤ n ∧ n ≤ 65535) (hk : (1 ≤ o ∧ o ≤ 10) ∨ o = 24) :
    ∃ r, alu_Do.f o a b c n x y = some r ∧ spliceref04_Do.f 44 o a b c n x y = some r := by
  have wx := wrap64_id (x := x) (by omega) (by omega)
  have wy := wrap64_id (x := y) (by omega) (by omega)
  have sx := qsign x x0 x1
  have sy := qsign y y0 y1
  have key : ∀ (k : Nat) (z : Bool), spliceref04_Do.j0 (k + 1) x y x y false o a b c n = if o = 6 then ((spliceref01_Sign.f k x 32).bind fun t160 => ((spliceref01_Sign.f k y 32).bind fun t161 => (spliceref04_Do.j1 k x x y (decide (t160 < t161)) o a b c n))) else (spliceref04_Do.j1 k x x y false o a b c n) := fun k z => by rw [spliceref04_Do.j0]; exact if_neg (by decide)
  unfold spliceref04_Do.f
  rw [wx, wy]
  by_cases c1 : o = 1
  · subst c1
    refine ⟨_, rfl, ?_⟩
    rw [if_pos rfl, wrap64_id (by omega) (by omega), word_q]; rfl
  rw [if_neg c1]
  by_cases c2 : o = 2
  · subst c2
    refine ⟨_, rfl, ?_⟩
    rw [if_pos rfl, wrap64_id (by omega) (by omega), word_q]; rfl
  rw [if_neg c2, if_pos (by omega)]
  by_cases c3 : o ≤ 5
  · rw [show decide (o ≤ 5) = true by simp [c3], show (44 : Nat) = 43 + 1 from rfl, spliceref04_Do.j0, if_pos rfl, wrap64_id (x := o - 3) (by omega) (by omega)]
    have h3 : o = 3 ∨ o = 4 ∨ o = 5 := by omega
    rw [bitwise_q x y x0 x1 y0 y1 (o - 3) (by omega) 43 (by omega)]
    rcases h3 with rfl | rfl | rfl
    · exact ⟨_, rfl, by rw [toNat_bits .and 0 x y x0 x1 y0 y1 (.inl ⟨rfl, rfl⟩)]; rfl⟩
    · exact ⟨_, rfl, by rw [toNat_bits .or 1 x y x0 x1 y0 y1 (.inr (.inl ⟨rfl, rfl⟩))]; rfl⟩
    · exact ⟨_, rfl, by rw [toNat_bits .xor 2 x y x0 x1 y0 y1 (.inr (.inr ⟨rfl, rfl⟩))]; rfl⟩
  rw [show decide (o ≤ 5) = false by simp; omega, show (44 : Nat) = 43 + 1 from rfl, key 43 true]
  by_cases c6 : o = 6
  · subst c6
    have m := fun z => spliceref01_Sign.mono z 32 41
    have m' := fun z => spliceref01_Sign.mono z 32 42
    have sx43 : spliceref01_Sign.f 43 x 32 = some (signS x 32) := m' x _ (m x _ sx)
    have sy43 : spliceref01_Sign.f 43 y 32 = some (signS y 32) := m' y _ (m y _ sy)
    rw [if_pos rfl, sx43, sy43, Option.bind_some, Option.bind_some]
    have hl := qless x y x0 x1 y0 y1
    have ha : alu_Do.f 6 a b c n x y = (alu_less.f x y).bind fun t103 => (if t103 = true then (some 1) else (some 0)) := rfl
    rw [ha, hl, Option.bind_some, show (43 : Nat) = 42 + 1 from rfl, spliceref04_Do.j1]
    by_cases d : signS x 32 < signS y 32
    · rw [show decide (signS x 32 < signS y 32) = true by simp [d]]; exact ⟨_, rfl, rfl⟩
    · rw [show decide (signS x 32 < signS y 32) = false by simp [d]]; exact ⟨_, rfl, rfl⟩
  rw [if_neg c6, show (43 : Nat) = 42 + 1 from rfl, spliceref04_Do.j1, if_neg (by decide)]
  by_cases c7 : o = 7
  · subst c7
    refine ⟨_, rfl, ?_⟩
    rw [if_pos rfl, mul_split x y x0 x1 y0 y1]; rfl
  rw [if_neg c7]
  by_cases c8 : o = 8
  · subst c8
    have := h8 rfl
    have ha : alu_Do.f 8 a b c n x y = (bits_Cut.f n 32).bind fun t => some ((x + t) % 4294967296) := rfl
    rw [ha, qcut, cut32, if_pos rfl, wrap64_id (x := x + n) (by omega) (by omega), word_q]
    refine ⟨_, rfl, ?_⟩
    rw [Option.bind_some]; congr 1; omega
  rw [if_neg c8]
  by_cases c9 : o = 9
  · subst c9
    have := h9 (.inl rfl)
    have ha : alu_Do.f 9 a b c n x y = (bits_Cut.f n 16).bind fun t => some ((t * 65536) % 4294967296) := rfl
    rw [ha, qcut, cut16, if_pos rfl, wrap64_id (x := n * 65536) (by omega) (by omega), word_q]
    refine ⟨_, rfl, ?_⟩
    rw [Option.bind_some]; congr 1; omega
  rw [if_neg c9]
  by_cases c10 : o = 10
  · subst c10
    have := h9 (.inr rfl)
    have ha : alu_Do.f 10 a b c n x y = (bits_Cut.f n 16).bind fun t => some (Go.bits .or .u32 x t) := rfl
    rw [ha, qcut, cut16, if_pos rfl, show n % 4294967296 = n % 65536 by omega, bitwise_q x (n % 65536) x0 x1 (by omega) (by omega) 1 (.inr (.inl rfl)) 42 (by omega)]
    refine ⟨_, rfl, ?_⟩
    rw [toNat_bits .or 1 x (n % 65536) x0 x1 (by omega) (by omega) (.inr (.inl ⟨rfl, rfl⟩))]; rfl
  rw [if_neg c10]
  obtain rfl : o = 24 := by omega
  exact ⟨_, rfl, rfl⟩
theorem do_none (o a b c n x y : Int) (h : o < 1 ∨ o > 10) : alu_Do.f o a b c n x y = some 0 := by
  unfold alu_Do.f
  rw [if_neg (by omega), if_neg (by omega), if_neg (by omega), if_neg (by omega), if_neg (by omega), if_neg (by omega), if_neg (by omega), if_neg (by omega), if_neg (by omega), if_neg (by omega)]
theorem kind_q (o a b c n : Int) (h0 : 0 ≤ o) (h1 : o ≤ 25) : ∃ r, spliceref03_Kind.f o a b c n = some r ∧ (r = 0 ↔ (1 ≤ o ∧ o ≤ 10) ∨ o = 24) := by
  have : o = 0 ∨ o = 1 ∨ o = 2 ∨ o = 3 ∨ o = 4 ∨ o = 5 ∨ o = 6 ∨ o = 7 ∨ o = 8 ∨ o = 9 ∨ o = 10 ∨ o = 11 ∨ o = 12 ∨ o = 13 ∨ o = 14 ∨ o = 15 ∨ o = 16 ∨ o = 17 ∨ o = 18 ∨ o = 19 ∨ o = 20 ∨ o = 21 ∨ o = 22 ∨ o = 23 ∨ o = 24 ∨ o = 25 := by omega
  rcases this with rfl | rfl | rfl | rfl | rfl | rfl | rfl | rfl | rfl | rfl | rfl | rfl | rfl | rfl | rfl | rfl | rfl | rfl | rfl | rfl | rfl | rfl | rfl | rfl | rfl | rfl <;> exact ⟨_, rfl, by decide⟩
theorem aluDoes_pure (o a b c n x y : Int) (x0 : 0 ≤ x) (x1 : x ≤ 4294967295) (y0 : 0 ≤ y) (y1 : y ≤ 4294967295) (hi : -9223372036854775808 ≤ n) (hj : n ≤ 9223372036854775807) :
    splicelaw04_AluDoes.f 45 o a b c n x y = some true := by
  unfold splicelaw04_AluDoes.f
  rw [show (45 : Nat) = 44 + 1 from rfl, awake_k 44, Option.bind_some, if_pos rfl]
  obtain ⟨r, hr, hr2⟩ := right_some o a b c n
  rw [hr, Option.bind_some, splicelaw04_AluDoes.j0]
  cases r
  · rw [if_pos (by decide), show (44 : Nat) = 43 + 1 from rfl, awake_k 43]; rfl
  · rw [if_neg (by decide)]
    obtain ⟨h0, h1, h8, h9⟩ := hr2 rfl
    obtain ⟨q, hq, hq2⟩ := kind_q o a b c n h0 h1
    rw [hq, Option.bind_some]
    by_cases z : q = 0
    · rw [if_pos z]
      obtain ⟨v, e1, e2⟩ := do_same o a b c n x y x0 x1 y0 y1 hi hj h0 h1 h8 h9 (hq2.1 z)
      rw [e1, e2]; simp
    · rw [if_neg z, do_none o a b c n x y (by have : ¬ ((1 ≤ o ∧ o ≤ 10) ∨ o = 24) := fun h => z (hq2.2 h); omega)]; rfl
end Go.Proofs.Ytkolcgnembaghaa.H
