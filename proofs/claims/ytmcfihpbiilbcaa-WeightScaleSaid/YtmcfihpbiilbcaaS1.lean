/- The scanner (layer 8): contracts of its functions, and the plain laws that they want. -/
import Derived.Test.YtmcfihpbiilbcaaEx2
import Derived.Laws.CopyOwn
import Derived.Deep.RegionLaw
import Derived.Deep.RegionHeld3
import Derived.WalkSmall
import Derived.StillTailTactics
import Derived.Laws.BytesArg
import Derived.Test.YtmcfihpbiilbcaaEx3
import Derived.Deep.QuietTactic
import Derived.BigQuiet
import Derived.Defers
import Derived.Recover
import Derived.Deep.RegionLawGrows
import Derived.Laws.Externs
import Derived.ArgAppend
import Derived.Conc.MuLone
import Derived.WalkLawsBesides
namespace Go.Proofs.Ytmcfihpbiilbcaa.H
open Go.RowKit Go.Proofs.YtmcfihpbiilbcaaW.PrintWords Go.Proofs.YtmcfihpbiilbcaaW.PrintLast Go.Proofs.YtmcfihpbiilbcaaW.PrintMore Go.Proofs.Ytmcfihpbiilbcaa.E
set_option linter.unusedVariables false
set_option linter.unusedSimpArgs false

theorem wrap64_id {x : Int} (h0 : -9223372036854775808 ≤ x) (h1 : x ≤ 9223372036854775807) : wrap64 x = x := by unfold wrap64; omega
theorem hid {p : Prop} (h : p) : Hid p := h
def Bytes (l : List Int) : Prop := ∀ x ∈ l, 0 ≤ x ∧ x ≤ 255
def wordOf (l : List Int) : Int := l.getD 0 0 + 256 * l.getD 1 0 + 65536 * l.getD 2 0 + 16777216 * l.getD 3 0

theorem Bytes.get {l : List Int} (h : Bytes l) (i : Nat) : 0 ≤ l.getD i 0 ∧ l.getD i 0 ≤ 255 := by
  rw [List.getD_eq_getElem?_getD]
  rcases Nat.lt_or_ge i l.length with hi | hi
  · rw [List.getElem?_eq_getElem hi]; exact h _ (List.getElem_mem hi)
  · rw [List.getElem?_eq_none hi]; simp
theorem wordOf_range {l : List Int} (h : Bytes l) : 0 ≤ wordOf l ∧ wordOf l ≤ 4294967295 := by
  have h0 := h.get 0; have h1 := h.get 1; have h2 := h.get 2; have h3 := h.get 3
  unfold wordOf; omega

theorem or_join (p : Nat) (P : Int) (hP : P = 2 ^ p) (hp : p ≤ 24) (acc b : Int) (h0 : 0 ≤ acc) (h1 : acc < P) (h2 : 0 ≤ b) (h3 : b ≤ 255) : bits .or .u32 acc (b * P) = acc + b * P := by
  subst hP
  obtain ⟨A, rfl⟩ := Int.eq_ofNat_of_zero_le h0
  obtain ⟨B, rfl⟩ := Int.eq_ofNat_of_zero_le h2
  have hA : A < 2 ^ p := by have : ((A : Nat) : Int) < ((2 ^ p : Nat) : Int) := by simpa using h1
                            omega
  have hq : 2 ^ p ≤ 2 ^ 24 := Nat.pow_le_pow_right (by decide) hp
  have hB : B * 2 ^ p ≤ 255 * 2 ^ 24 := Nat.mul_le_mul (by omega) hq
  have e : ((B : Int) * 2 ^ p) = ((B * 2 ^ p : Nat) : Int) := by simp
  rw [e, u32_or_nat _ _ (by omega) (by omega), Nat.or_comm, nat_join p _ _ (by simp) hA]
  omega

theorem get_step (k : Nat) (l : List Int) (hl : Bytes l) (acc m i : Int) (p : Nat) (P : Int) (hP : P = 2 ^ p) (hp : (p : Int) = 8 * i) (hi0 : 0 ≤ i) (hi : i < m) (hm : m ≤ 4) (hil : i < (l.length : Int)) (h0 : 0 ≤ acc) (h1 : acc < P) :
    bits_Get.l0 (k + 1) l acc m i = bits_Get.l0 k l (acc + rd l i * P) m (i + 1) := by
  simp only [bits_Get.l0]
  have hb := hl.get i.toNat
  have hb' : 0 ≤ rd l i ∧ rd l i ≤ 255 := hb
  rw [if_pos hi, if_pos hi0, if_pos hil, wrap64_id (x := 8 * i) (by omega) (by omega), wrap64_id (x := i + 1) (by omega) (by omega), if_pos (by omega)]
  rw [show rd l i % 4294967296 = rd l i by omega]
  have e : shl .u32 (rd l i) (8 * i) = rd l i * P := by
    unfold shl
    rw [show (8 * i).toNat = p by omega, Nat.min_eq_left (by simp [IntKind.bits]; omega), ← hP, IntKind.wrap_u32']
    have hq : P ≤ 16777216 := by
      rw [hP]
      have : 2 ^ p ≤ 2 ^ 24 := Nat.pow_le_pow_right (by decide) (by omega)
      have h2 : ((2 ^ p : Nat) : Int) ≤ ((2 ^ 24 : Nat) : Int) := by omega
      simpa using h2
    have h3 : rd l i * P ≤ 255 * 16777216 := Int.mul_le_mul hb'.2 hq (by omega) (by omega)
    have h4 : 0 ≤ rd l i * P := Int.mul_nonneg hb'.1 (by omega)
    omega
  rw [e, or_join p P hP (by omega) acc (rd l i) h0 h1 hb'.1 hb'.2]

theorem get_end (k : Nat) (l : List Int) (acc m i : Int) (h : ¬ i < m) : bits_Get.l0 (k + 1) l acc m i = some acc := by
  simp only [bits_Get.l0]; rw [if_neg h]

theorem bitsGet_eq (l : List Int) (hl : Bytes l) : bits_Get.f 5 l = some (wordOf l) := by
  unfold bits_Get.f
  have h0 := hl.get 0; have h1 := hl.get 1; have h2 := hl.get 2; have h3 := hl.get 3
  have r0 : rd l 0 = l.getD 0 0 := rfl
  have r1 : rd l 1 = l.getD 1 0 := rfl
  have r2 : rd l 2 = l.getD 2 0 := rfl
  have r3 : rd l 3 = l.getD 3 0 := rfl
  have hd : ∀ j, l.length ≤ j → l.getD j 0 = 0 := fun j hj => by rw [List.getD_eq_getElem?_getD, List.getElem?_eq_none hj]; rfl
  unfold wordOf
  by_cases c0 : l.length = 0
  · rw [hd 0 (by omega), hd 1 (by omega), hd 2 (by omega), hd 3 (by omega)]
    rw [show mn 4 (l.length : Int) = 0 by unfold mn; rw [if_pos (by omega)]; omega, get_end _ _ _ _ _ (by omega)]
    rfl
  by_cases c1 : l.length = 1
  · rw [hd 1 (by omega), hd 2 (by omega), hd 3 (by omega)]
    rw [show mn 4 (l.length : Int) = 1 by unfold mn; rw [if_pos (by omega)]; omega, get_step 4 l hl 0 1 0 0 1 rfl (by omega) (by omega) (by omega) (by omega) (by omega) (by omega) (by omega), get_end _ _ _ _ _ (by omega), r0]
    congr 1; omega
  by_cases c2 : l.length = 2
  · rw [hd 2 (by omega), hd 3 (by omega)]
    rw [show mn 4 (l.length : Int) = 2 by unfold mn; rw [if_pos (by omega)]; omega, get_step 4 l hl 0 2 0 0 1 rfl (by omega) (by omega) (by omega) (by omega) (by omega) (by omega) (by omega),
      get_step 3 l hl _ 2 _ 8 256 rfl (by omega) (by omega) (by omega) (by omega) (by omega) (by omega) (by omega), get_end _ _ _ _ _ (by omega), r0, show (0 : Int) + 1 = 1 from rfl, r1]
    congr 1; omega
  by_cases c3 : l.length = 3
  · rw [hd 3 (by omega)]
    rw [show mn 4 (l.length : Int) = 3 by unfold mn; rw [if_pos (by omega)]; omega, get_step 4 l hl 0 3 0 0 1 rfl (by omega) (by omega) (by omega) (by omega) (by omega) (by omega) (by omega),
      get_step 3 l hl _ 3 _ 8 256 rfl (by omega) (by omega) (by omega) (by omega) (by omega) (by omega) (by omega), show (0 : Int) + 1 = 1 from rfl, get_step 2 l hl _ 3 _ 16 65536 rfl (by omega) (by omega) (by omega) (by omega) (by omega) (by omega) (by omega), get_end _ _ _ _ _ (by omega), r0, show (1 : Int) + 1 = 2 from rfl, r1, r2]
    congr 1; omega
  · rw [show mn 4 (l.length : Int) = 4 by unfold mn; split <;> omega, get_step 4 l hl 0 4 0 0 1 rfl (by omega) (by omega) (by omega) (by omega) (by omega) (by omega) (by omega),
      get_step 3 l hl _ 4 _ 8 256 rfl (by omega) (by omega) (by omega) (by omega) (by omega) (by omega) (by omega), show (0 : Int) + 1 = 1 from rfl, get_step 2 l hl _ 4 _ 16 65536 rfl (by omega) (by omega) (by omega) (by omega) (by omega) (by omega) (by omega), show (1 : Int) + 1 = 2 from rfl,
      get_step 1 l hl _ 4 _ 24 16777216 rfl (by omega) (by omega) (by omega) (by omega) (by omega) (by omega) (by omega), get_end _ _ _ _ _ (by omega), r0, show (2 : Int) + 1 = 3 from rfl, r1, r2, r3]
    congr 1; omega

theorem rget_in (k : Nat) (l : List Int) (hl : Bytes l) (acc i : Int) (h0 : 0 ≤ acc) (h1 : acc ≤ 4294967295) (hi0 : 0 ≤ i) (hi : i < (l.length : Int)) (h4 : i ≤ 3) :
    spliceref01_Get.l0 (k + 1) l acc i = spliceref01_Get.l0 k l (256 * acc + l.getD i.toNat 0) (i - 1) := by
  have hb := hl.get i.toNat
  simp only [spliceref01_Get.l0]
  rw [if_pos hi0, if_pos hi, if_pos hi0, show rd l i = l.getD i.toNat 0 from rfl, wrap64_id (x := l.getD i.toNat 0) (by omega) (by omega), wrap64_id (x := 256 * acc) (by omega) (by omega), wrap64_id (by omega) (by omega), wrap64_id (by omega) (by omega)]
theorem rget_out (k : Nat) (l : List Int) (acc i : Int) (h0 : 0 ≤ acc) (h1 : acc ≤ 4294967295) (hi0 : 0 ≤ i) (hi : ¬ i < (l.length : Int)) (h4 : i ≤ 3) :
    spliceref01_Get.l0 (k + 1) l acc i = spliceref01_Get.l0 k l (256 * acc + l.getD i.toNat 0) (i - 1) := by
  simp only [spliceref01_Get.l0]
  rw [if_pos hi0, if_neg hi, wrap64_id (x := 256 * acc) (by omega) (by omega), wrap64_id (by omega) (by omega), List.getD_eq_getElem?_getD, List.getElem?_eq_none (by omega)]
  simp
theorem rget (k : Nat) (l : List Int) (hl : Bytes l) (acc i : Int) (h0 : 0 ≤ acc) (h1 : acc ≤ 4294967295) (hi0 : 0 ≤ i) (h4 : i ≤ 3) :
    spliceref01_Get.l0 (k + 1) l acc i = spliceref01_Get.l0 k l (256 * acc + l.getD i.toNat 0) (i - 1) := by
  by_cases hi : i < (l.length : Int)
  · exact rget_in k l hl acc i h0 h1 hi0 hi h4
  · exact rget_out k l acc i h0 h1 hi0 hi h4

theorem refGet_eq (l : List Int) (hl : Bytes l) : spliceref01_Get.f 5 l = some (wordOf l) := by
  unfold spliceref01_Get.f
  have h0 := hl.get 0; have h1 := hl.get 1; have h2 := hl.get 2; have h3 := hl.get 3
  have e3 : ((3 : Int)).toNat = 3 := rfl
  have e2 : ((3 : Int) - 1) = 2 := rfl
  have e1 : ((2 : Int) - 1) = 1 := rfl
  have e0 : ((1 : Int) - 1) = 0 := rfl
  have t2 : ((2 : Int)).toNat = 2 := rfl
  have t1 : ((1 : Int)).toNat = 1 := rfl
  have t0 : ((0 : Int)).toNat = 0 := rfl
  rw [rget 4 l hl 0 3 (by omega) (by omega) (by omega) (by omega), e3, e2, rget 3 l hl _ 2 (by omega) (by omega) (by omega) (by omega), t2, e1, rget 2 l hl _ 1 (by omega) (by omega) (by omega) (by omega), t1, e0, rget 1 l hl _ 0 (by omega) (by omega) (by omega) (by omega), t0]
  simp only [spliceref01_Get.l0]
  rw [if_neg (by omega)]
  unfold wordOf
  congr 1
  omega

theorem refPut_eq (x : Int) (h0 : 0 ≤ x) (h1 : x ≤ 4294967295) : spliceref01_Put.f x = some [x % 256, x / 256 % 256, x / 65536 % 256, x / 16777216] := by
  unfold spliceref01_Put.f
  have hx : wrap64 x = x := wrap64_id (by omega) (by omega)
  rw [hx]
  simp only [Int.tmod_eq_emod_of_nonneg, Int.tdiv_eq_ediv_of_nonneg h0]
  rw [wrap64_id (x := x / 256) (by omega) (by omega), wrap64_id (x := x / 65536) (by omega) (by omega), wrap64_id (x := x / 16777216) (by omega) (by omega),
    Int.tmod_eq_emod_of_nonneg h0, Int.tmod_eq_emod_of_nonneg (show 0 ≤ x / 256 by omega), Int.tmod_eq_emod_of_nonneg (show 0 ≤ x / 65536 by omega)]
  congr 1
  simp only [List.cons.injEq, and_true]
  refine ⟨by omega, by omega, by omega, by omega⟩

theorem same_from (a b : List Int) (hlen : a.length = b.length) (hL : a.length ≤ 4611686018427387904) : ∀ (d : Nat) (k : Nat) (i : Int), 0 ≤ i → i ≤ a.length → (a.length : Int) - i = d → d < k →
    spliceref01_Same.l0 k a b i = some (decide (a.drop i.toNat = b.drop i.toNat)) := by
  intro d
  induction d with
  | zero =>
    intro k i h0 h1 hd hk
    obtain ⟨k, rfl⟩ : ∃ m, k = m + 1 := ⟨k - 1, by omega⟩
    simp only [spliceref01_Same.l0]
    rw [if_neg (by omega), List.drop_eq_nil_of_le (by omega), List.drop_eq_nil_of_le (by omega)]
    simp
  | succ d ih =>
    intro k i h0 h1 hd hk
    obtain ⟨k, rfl⟩ : ∃ m, k = m + 1 := ⟨k - 1, by omega⟩
    simp only [spliceref01_Same.l0]
    have ha : i.toNat < a.length := by omega
    have hb : i.toNat < b.length := by omega
    rw [if_pos (by omega), if_pos h0, if_pos (by omega), List.drop_eq_getElem_cons ha, List.drop_eq_getElem_cons hb]
    have ra : rd a i = a[i.toNat] := by unfold rd; rw [List.getD_eq_getElem?_getD, List.getElem?_eq_getElem ha]; rfl
    have rb : rd b i = b[i.toNat] := by unfold rd; rw [List.getD_eq_getElem?_getD, List.getElem?_eq_getElem hb]; rfl
    rw [ra, rb]
    by_cases e : a[i.toNat] = b[i.toNat]
    · rw [if_pos e, wrap64_id (by omega) (by omega), ih k (i + 1) (by omega) (by omega) (by omega) (by omega), show (i + 1).toNat = i.toNat + 1 by omega, e]
      simp only [List.cons.injEq, true_and]
    · rw [if_neg e, decide_eq_false (fun h => e (List.cons.inj h).1)]

theorem refSame_eq (a b : List Int) (hL : a.length ≤ 4611686018427387904) : spliceref01_Same.f (a.length + 1) a b = some (decide (a = b)) := by
  unfold spliceref01_Same.f
  by_cases h : a.length = b.length
  · rw [if_pos (by omega), same_from a b h hL a.length (a.length + 1) 0 (by omega) (by omega) (by omega) (by omega)]
    simp
  · rw [if_neg (by omega)]
    have : a ≠ b := fun e => h (by rw [e])
    simp [this]

abbrev RB (w : World) (base : Nat) (v : Value) (l : List Int) : Prop := Kd.R (Kd.int .u8) 5 w base (fun _ => True) v l
abbrev CB (w : World) (A : Option Addr) (l : List Int) : Prop := Kd.C (Kd.int .u8) w A l.length l

theorem info5 : (Try.prog.info? 5).map (fun i => (i.zero, i.size, i.bytes)) = some (some (.int .u8 0), 1, 1) := by kernel_rfl
theorem app_c {ops : Array Oper} {rest : List Oper} {o : Oper} {a : Act} {Q : Exit → Act → World → Prop} {w0 W : World} (base : Nat) (hgd : o.guard = none) (s x : Operand)
    (ho : o.op = .call { callee := .builtin .append, args := #[s, x], argTypes := #[22, 22] }) (v : Value) (xs ys : List Int) (A : Option Addr) (c : Nat) (hs : a.eval s = v) (hx : a.eval x = .slice A ys.length c)
    (HO : RB W base v xs) (HR : CB W A ys) (HB : Below base w0 W) (hbase : base ≤ W.heap.size) (hl : xs.length + ys.length ≤ 140737488355328)
    (h : ∀ v1 w1, RB w1 base v1 (xs ++ ys) → Below base w0 w1 → W.grownBy w1 v.ownBlock → (v1.ownBlock = v.ownBlock ∨ ∃ b, v1.ownBlock = some b ∧ W.heap.size ≤ b) → wpList Try.prog ops Q rest (a.put o.dst v1) w1) :
    wpList Try.prog ops Q (o :: rest) a W :=
  Kd.R_append_row (Value.int .u8) 0 base hgd s x 22 5 (.int .u8 0) 1 ho Try.underlying22 info5 rfl (by omega) v xs ys A ys.length c (fun _ => True) hs hx (fun _ _ => trivial) HO HR HB hbase (by omega) h

theorem R_empty (w : World) : RB (w.alloc (.cells #[] 5)) w.heap.size (.slice (some ⟨w.heap.size, 0, none⟩) 0 0) [] :=
  ⟨fun _ _ => trivial, [], ⟨World.ownsRow_made w #[] 0 (Nat.le_refl _) (by decide) (by simp), Reps.none _ _⟩⟩

theorem eq_nil_some (a : Addr) (n c : Nat) (w : World) : (binOp .eql 22 (.slice (some a) n c) (.slice none 0 0)).run Try.prog w = .ok (.bool false) w := by
  have h : ∀ d : Nat, (Op.equalIn (d + 1) 22 (.slice (some a) n c) (.slice none 0 0)).run Try.prog w = .ok false w := fun d => by
    simp [Op.equalIn, run_underlying Try.underlying22]
  simp only [binOp]
  simp [Op.equal, Op.maxDepth, h 9999]
theorem eq_nil_none (n c : Nat) (w : World) : (binOp .eql 22 (.slice none n c) (.slice none 0 0)).run Try.prog w = .ok (.bool true) w := by
  have h : ∀ d : Nat, (Op.equalIn (d + 1) 22 (.slice none n c) (.slice none 0 0)).run Try.prog w = .ok true w := fun d => by
    simp [Op.equalIn, run_underlying Try.underlying22]
  simp only [binOp]
  simp [Op.equal, Op.maxDepth, h 9999]

theorem clone_c (A : Option Addr) (c : Nat) (l : List Int) (w : World) (hC : CB w A l) (hc : l.length ≤ c) (hl : l.length ≤ 140737488351232) :
    Calls Try.prog 80 #[.slice A l.length c] w fun e w' => ∃ v, e = .returned v ∧ RB w' w.heap.size v l ∧ Below w.heap.size w w' := by
  have HC := hid hC
  clear hC
  rcases A with _ | a
  · have hn : l = [] := by
      have := HC.out.2.2
      rcases Nat.eq_zero_or_pos l.length with h | h
      · exact List.eq_nil_of_length_eq_zero h
      · obtain ⟨ad, h, _⟩ := this h; cases h
    subst hn
    have he := eq_nil_none 0 c
    go_enter Try.func80, Try.ntmps80
    go_wp2
    go_ret
    exact ⟨_, rfl, Kd.R_nil _ _ _ _ _, Below.refl _ _⟩
  · have he := eq_nil_some a l.length c
    go_enter Try.func80, Try.ntmps80
    go_wp2_with (at_builtin; refine app_c (w0 := w) w.heap.size rfl (.tmp 5) (.tmp 6) rfl _ [] l (some a) c rfl rfl (R_empty w) (Kd.C_below HC.out ((Below.refl _ _).alloc (Nat.le_refl _) _)) ((Below.refl _ _).alloc (Nat.le_refl _) _) (by simp) (by simp; omega) ?_; intro v1 w1 hr hb hg hat)
    go_ret
    exact ⟨_, rfl, hr, hb⟩

/-- A scanner: its block B holds the bytes (a row of the call's own, in another block) and how many are taken. -/
def Sc (w : World) (B : Nat) (l : List Int) (i : Int) : Prop :=
  ∃ v, w.heap[B]? = some (.cells #[v, .int .i64 i] 106 (0, 0)) ∧ Kd.R (Kd.int .u8) 5 w 0 (fun k => k ≠ B) v l
theorem Sc.lt {w : World} {B : Nat} {l : List Int} {i : Int} (h : Sc w B l i) : B < w.heap.size := by
  obtain ⟨v, h, _⟩ := h
  exact (Array.getElem?_eq_some_iff.1 h).1
theorem Sc.keep {w w' : World} {B : Nat} {l : List Int} {i : Int} (h : Sc w B l i) (k : ∀ b, b < w.heap.size → w'.heap[b]? = w.heap[b]?) : Sc w' B l i := by
  obtain ⟨v, h1, h2⟩ := h
  exact ⟨v, (k B (Array.getElem?_eq_some_iff.1 h1).1).trans h1, Kd.R_step h2 (fun b _ hb => k b hb)⟩
theorem Sc.below {w w' : World} {B : Nat} {l : List Int} {i : Int} (h : Sc w B l i) (k : Below w.heap.size w w') : Sc w' B l i := h.keep k.block
theorem heap_set (w : World) (B : Nat) (a b u : Value) (t : TypeId) (h : w.heap[B]? = some (.cells #[a, b] t (0, 0))) : (w.setCell ⟨B, 1, none⟩ u).heap[B]? = some (.cells #[a, u] t (0, 0)) := by
  have h0 : B < w.heap.size := (Array.getElem?_eq_some_iff.1 h).1
  simp [World.setCell, Array.getElem?_modify, h]
theorem Sc.move {w : World} {B : Nat} {l : List Int} {i j : Int} (h : Sc w B l i) : Sc (w.setCell ⟨B, 1, none⟩ (.int .i64 j)) B l j := by
  obtain ⟨v, h1, h2⟩ := h
  exact ⟨v, heap_set w B _ _ _ _ h1, Kd.R_step h2 (fun b hb _ => Below.heap_setCell _ _ _ _ hb)⟩

theorem new_c (A : Option Addr) (c : Nat) (l : List Int) (w : World) (hC : CB w A l) (hc : l.length ≤ c) (hl : l.length ≤ 140737488351232) :
    Calls Try.prog 31 #[.slice A l.length c] w fun e w' => ∃ B, e = .returned (.pointer (some ⟨B, 0, none⟩)) ∧ w.heap.size ≤ B ∧ Sc w' B l 0 ∧ Below w.heap.size w w' := by
  have HC := hid hC
  clear hC
  go_enter Try.func31, Try.ntmps31
  go_wp2_with fail
  refine (clone_c A c l _ HC.out hc hl).mono ?_
  rintro e w1 ⟨v, rfl, hR, hb⟩
  obtain ⟨A1, c1, rfl, _, _⟩ := Kd.R_reads hR
  go_wp2
  go_ret
  refine ⟨w1.heap.size, rfl, hb.size, ⟨_, heap_alloc_new _ _, ?_⟩, below_alloc hb _⟩
  have h1 := Kd.R_bound hR
  exact Kd.R_lower (Kd.R_step (Kd.R_mono h1 (fun k hk => by have := hk.2.2.1; omega)) (fun b _ hb => Below.heap_alloc _ _ _ hb)) (Nat.zero_le _)
/-- What a scanner's block says to a walk. -/
theorem Sc.cells {w : World} {B : Nat} {l : List Int} {i : Int} (h : Sc w B l i) : ∃ A c, w.cell? ⟨B, 0, none⟩ = some (.slice A l.length c) ∧ w.cell? ⟨B, 1, none⟩ = some (.int .i64 i) ∧ w.frozen? ⟨B, 1, none⟩ = false ∧ l.length ≤ c ∧ CB w A l ∧ (∀ a, A = some a → a.block ≠ B) := by
  obtain ⟨v, h1, h2⟩ := h
  obtain ⟨A, c, rfl, h3, h4⟩ := Kd.R_reads h2
  refine ⟨A, c, by simp [World.cell?, h1], by simp [World.cell?, h1], by simp [World.frozen?, h1], h3, h4, fun a ha => ?_⟩
  subst ha
  exact h2.1 a.block rfl
theorem blk2 {w : World} {B : Nat} {a b : Value} {t : TypeId} (h : w.heap[B]? = some (.cells #[a, b] t (0, 0))) :
    w.cell? ⟨B, 0, none⟩ = some a ∧ w.cell? ⟨B, 1, none⟩ = some b ∧ w.frozen? ⟨B, 0, none⟩ = false ∧ w.frozen? ⟨B, 1, none⟩ = false ∧ B < w.heap.size := by
  refine ⟨by simp [World.cell?, h], by simp [World.cell?, h], by simp [World.frozen?, h], by simp [World.frozen?, h], (Array.getElem?_eq_some_iff.1 h).1⟩
theorem left_c (B : Nat) (l : List Int) (i : Int) (w : World) (h : Sc w B l i) (h0 : 0 ≤ i) (h1 : i ≤ l.length) (hl : l.length ≤ 140737488351232) :
    Calls Try.prog 30 #[.pointer (some ⟨B, 0, none⟩)] w fun e w' => e = .returned (.int .i64 (l.length - i)) ∧ Drawn0 w w' := by
  obtain ⟨A, c, c0, c1, f1, hc, hC, hA⟩ := h.cells
  have HC := hid hC
  clear hC h
  have e0 : IntKind.i64.wrap ((l.length : Int) - i) = (l.length : Int) - i := IntWalk.i64_in _ (by omega)
  go_enter Try.func30, Try.ntmps30
  go_wp2
  go_quiet (fail)
  go_wp2
  go_ret
  exact ⟨rfl, ⟨⟨_, rfl⟩⟩⟩
def fail_ (e : Int) : List PanicEntry := [{ v := .iface 104 (.agg #[.int .i64 e]), recovered := false }]
theorem must_c (p : Value) (w : World) : Calls Try.prog 28 #[p, .bool true] w fun e w' => e = .returned (.tuple #[]) ∧ w' = w := by
  go_enter Try.func28, Try.ntmps28
  go_wp2
  first | go_end0 | refine bodyPost_ret (results_none rfl _ _ _) rfl ?_
  exact ⟨rfl, rfl⟩
theorem must_no (p : Value) (w : World) : Calls Try.prog 28 #[p, .bool false] w fun e w' => e = .panicked (fail_ 4) ∧ w' = w := by
  go_enter Try.func28, Try.ntmps28
  go_wp2
  exact ⟨rfl, rfl, rfl⟩
theorem bytes_no (B : Nat) (l : List Int) (i n : Int) (w : World) (h : Sc w B l i) (h0 : 0 ≤ i) (h1 : i ≤ l.length) (hl : l.length ≤ 140737488351232) (hn : (l.length : Int) - i < n) :
    Calls Try.prog 29 #[.pointer (some ⟨B, 0, none⟩), .int .i64 n] w fun e w' => e = .panicked (fail_ 2) ∧ Drawn0 w w' := by
  have HS := hid h
  clear h
  go_enter Try.func29, Try.ntmps29
  go_wp2_with (go_at_call 30; (with_reducible refine (left_c B l i _ HS.out h0 h1 hl).mono ?_); rintro e w' ⟨rfl, ⟨nd, rfl⟩⟩)
  exact ⟨rfl, rfl, ⟨⟨_, rfl⟩⟩⟩
/-- The piece of n bytes from i on. -/
def mid (l : List Int) (i n : Int) : List Int := (l.take (i + n).toNat).drop i.toNat
theorem mid_length {l : List Int} {i n : Int} (h0 : 0 ≤ i) (hn : 0 ≤ n) (h1 : i + n ≤ l.length) : (mid l i n).length = (i + n).toNat - i.toNat := by
  unfold mid; rw [List.length_drop, List.length_take]; omega
theorem mid_len {l : List Int} {i n : Int} (h0 : 0 ≤ i) (hn : 0 ≤ n) (h1 : i + n ≤ l.length) : ((mid l i n).length : Int) = n := by
  rw [mid_length h0 hn h1]; omega
set_option maxRecDepth 100000 in
theorem bytes_c (B : Nat) (l : List Int) (i n : Int) (w : World) (h : Sc w B l i) (h0 : 0 ≤ i) (h1 : i + n ≤ l.length) (hn : 0 ≤ n) (hl : l.length ≤ 140737488351232) :
    Calls Try.prog 29 #[.pointer (some ⟨B, 0, none⟩), .int .i64 n] w fun e w' => ∃ v, e = .returned v ∧ RB w' w.heap.size v (mid l i n) ∧ Below w.heap.size (w.setCell ⟨B, 1, none⟩ (.int .i64 (i + n))) w' := by
  have HS := hid h
  obtain ⟨v0, b1, b2⟩ := h
  obtain ⟨A, c, rfl, hc, _⟩ := Kd.R_reads b2
  have b3 : Kd.R (Kd.int .u8) 5 (w.setCell ⟨B, 1, none⟩ (.int .i64 (i + n))) 0 (fun k => k ≠ B) (.slice A l.length c) l := Kd.R_step b2 (fun b hb _ => Below.heap_setCell _ _ _ _ hb)
  obtain ⟨_, _, hC⟩ := Kd.R_reads' b3
  obtain ⟨q0, q1, q2, q3, q4⟩ := blk2 b1
  have q := hid b1
  clear b1 b2 b3
  obtain ⟨i5, hi5, _, hs5, _⟩ := info_parts info5
  have hcut := cut_mid 22 5 .i64 .i64 Try.underlying22 hi5 1 hs5 A l.length c i (i + n) h0 (by omega) h1 hc
  have hCm := Kd.C_mid (lo := i.toNat) (hi := (i + n).toNat) hC (by omega) (by omega) hc
  have hlm := mid_length h0 hn h1
  rw [← hlm] at hcut
  generalize hA' : (if c = i.toNat then A else A.map (·.add (i.toNat * 1))) = A' at hcut
  have HC : Hid (CB (w.setCell ⟨B, 1, none⟩ (.int .i64 (i + n))) A' (mid l i n)) := hid (hA' ▸ hCm)
  have hc' : (mid l i n).length ≤ c - i.toNat := by rw [hlm]; omega
  have hl' : (mid l i n).length ≤ 140737488351232 := by rw [hlm]; omega
  clear hA' hCm hC hlm
  have g0 : IntKind.i64.wrap (i + n) = i + n := IntWalk.i64_in _ (by omega)
  have g1 : IntKind.i64.wrap i = i := IntWalk.i64_in _ (by omega)
  have g2 : ¬ ((l.length : Int) - i < n) := by omega
  go_enter Try.func29, Try.ntmps29
  go_wp2_with (go_at_call 30; (with_reducible refine (left_c B l i _ HS.out h0 (by omega) hl).mono ?_); rintro e w' ⟨rfl, ⟨nd, rfl⟩⟩)
  have s0 : ((w.drewN nd).setCell ⟨B, 1, none⟩ (.int .i64 (i + n))).cell? ⟨B, 0, none⟩ = some (.slice A l.length c) := (blk2 (heap_set (w.drewN nd) B _ _ _ _ q.out)).1
  have s1 : ((w.drewN nd).setCell ⟨B, 1, none⟩ (.int .i64 (i + n))).cell? ⟨B, 1, none⟩ = some (.int .i64 (i + n)) := (blk2 (heap_set (w.drewN nd) B _ _ _ _ q.out)).2.1
  have HC2 : Hid (CB ((w.drewN nd).setCell ⟨B, 1, none⟩ (.int .i64 (i + n))) A' (mid l i n)) := HC
  have HB2 : Hid (Below w.heap.size (w.setCell ⟨B, 1, none⟩ (.int .i64 (i + n))) ((w.drewN nd).setCell ⟨B, 1, none⟩ (.int .i64 (i + n)))) := hid ⟨rfl, rfl, rfl, Nat.le_refl _, fun _ _ => rfl⟩
  have HZ : Hid (((w.drewN nd).setCell ⟨B, 1, none⟩ (.int .i64 (i + n))).heap.size = w.heap.size) := hid (by simp)
  generalize (w.drewN nd).setCell ⟨B, 1, none⟩ (.int .i64 (i + n)) = W at *
  go_still_tail 15, (by kernel_rfl)
  change wpList _ _ _ _ _ W.drew
  have HC3 : Hid (CB W.drew A' (mid l i n)) := HC2
  have HB3 : Hid (Below w.heap.size (w.setCell ⟨B, 1, none⟩ (.int .i64 (i + n))) W.drew) := hid HB2.out.drew
  have HZ3 : Hid (W.drew.heap.size = w.heap.size) := HZ
  generalize W.drew = W2 at *
  go_wp2_with (go_at_call 80; (with_reducible refine (clone_c A' (c - i.toNat) (mid l i n) _ HC3.out hc' hl').mono ?_); rintro e w' ⟨v, rfl, hR, hb⟩)
  go_ret
  have hz := HZ3.out
  rw [hz] at hR hb
  exact ⟨v, rfl, hR, HB3.out.trans hb⟩
theorem Bytes.mid {l : List Int} (h : Bytes l) (i n : Int) : Bytes (mid l i n) := fun x hx => h x (List.mem_of_mem_take (List.mem_of_mem_drop hx))
theorem get_c (A : Option Addr) (c : Nat) (l : List Int) (w : World) (hr : CB w A l) (hc : l.length ≤ c) (hl : Bytes l) :
    Calls Try.prog 87 #[.slice A l.length c] w fun e w' => e = .returned (.int .u32 (wordOf l)) ∧ Below w.heap.size w w' := bits_Get.calls 5 A c l _ w hr hc (bitsGet_eq l hl)
theorem number_c (B : Nat) (l : List Int) (i n : Int) (w : World) (h : Sc w B l i) (h0 : 0 ≤ i) (h1 : i + n ≤ l.length) (hn : 0 ≤ n) (hl : l.length ≤ 140737488351232) (hb : Bytes l) :
    Calls Try.prog 41 #[.pointer (some ⟨B, 0, none⟩), .int .i64 n] w fun e w' => e = .returned (.int .i64 (wordOf (mid l i n))) ∧ Below w.heap.size (w.setCell ⟨B, 1, none⟩ (.int .i64 (i + n))) w' := by
  have hr := wordOf_range (hb.mid i n)
  have g0 : IntKind.i64.wrap (wordOf (mid l i n)) = wordOf (mid l i n) := IntWalk.i64_in _ (by omega)
  have HS := hid h
  clear h hr
  go_enter Try.func41, Try.ntmps41
  go_wp2_with fail
  refine (bytes_c B l i n _ HS.out h0 h1 hn hl).mono ?_
  rintro e w1 ⟨v, rfl, hR, hw⟩
  obtain ⟨A, c, rfl, hc, hC⟩ := Kd.R_reads hR
  have HW := hid hw
  have HC := hid hC
  clear hw hR hC
  go_wp2_with fail
  refine (get_c A c (mid l i n) _ HC.out hc (hb.mid i n)).mono ?_
  rintro e w2 ⟨rfl, hw2⟩
  have hz := HW.out.size
  have hz2 := hw2.mono (B' := w.heap.size) (by simpa using hz)
  have HW2 := hid (HW.out.trans hz2)
  clear hw2 hz hz2
  go_wp2
  go_ret
  exact ⟨rfl, HW2.out⟩
theorem number_no (B : Nat) (l : List Int) (i n : Int) (w : World) (h : Sc w B l i) (h0 : 0 ≤ i) (h1 : i ≤ l.length) (hl : l.length ≤ 140737488351232) (hn : (l.length : Int) - i < n) :
    Calls Try.prog 41 #[.pointer (some ⟨B, 0, none⟩), .int .i64 n] w fun e w' => e = .panicked (fail_ 2) ∧ Drawn0 w w' := by
  have HS := hid h
  clear h
  go_enter Try.func41, Try.ntmps41
  go_wp2_with fail
  refine (bytes_no B l i n _ HS.out h0 h1 hl hn).mono ?_
  rintro e w1 ⟨rfl, hd⟩
  exact ⟨rfl, rfl, hd⟩
def letterB (x : Int) : Bool := decide (97 ≤ x ∧ x ≤ 122 ∨ 65 ≤ x ∧ x ≤ 90 ∨ 48 ≤ x ∧ x ≤ 57 ∨ x = 95 ∨ x = 46)
theorem letter_q (x : Int) : scan_letter.f x = some (letterB x) := by
  unfold scan_letter.f letterB
  have e : ∀ (p : Prop) [Decidable p] (b : Bool), (p ↔ b = true) → some (decide p) = some b := fun p _ b h => by
    cases b <;> simp at h <;> simp [h]
  by_cases h1 : x ≥ 97 <;> by_cases h2 : x ≤ 122 <;> by_cases h3 : x ≥ 65 <;> by_cases h4 : x ≤ 90 <;> by_cases h5 : x ≥ 48 <;> by_cases h6 : x ≤ 57 <;> by_cases h7 : x = 95 <;> by_cases h8 : x = 46 <;> simp only [h1, h2, h3, h4, h5, h6, h7, h8, if_true, if_false, ge_iff_le] <;> first | omega | (symm; refine e _ _ ?_; first | (simp; done) | (simp; omega))
theorem named1_c (x : Int) (w : World) : Calls Try.prog 82 #[.int .u8 x] w fun e w' => e = .returned (.bool (!letterB x)) ∧ Drawn0 w w' := by
  go_enter Try.func82, Try.ntmps82
  go_wp2_with (go_at_call 83; (with_reducible refine (scan_letter.calls x _ _ (letter_q x)).mono ?_); rintro e w' ⟨rfl, ⟨nd, rfl⟩⟩)
  go_ret
  exact ⟨rfl, by repeat (first | exact Drawn0.refl _ | apply Drawn0.step)⟩
theorem index_c (A : Option Addr) (c : Nat) (l : List Int) (w : World) (hC : CB w A l) (hc : l.length ≤ c) (hl : l.length ≤ 140737488351232) :
    Calls Try.prog 128 #[.slice A l.length c, .func (.func 82) #[] #[]] w fun e w' => ∃ r : Int, e = .returned (.int .i64 r) ∧ decide (0 ≤ r) = !(l.all letterB) ∧ Drawn0 w w' := by
  have HC := hid hC
  clear hC
  go_enter Try.func128, Try.ntmps128
  go_wp2
  go_loopw [8] (fun s8 wx => ∃ k : Nat, k ≤ l.length ∧ s8 = .int .i64 k ∧ Hid ((l.take k).all letterB = true) ∧ Drawn0 w wx) (fun s8 _ => l.length - (intOf s8).toNat)
  case atStart => exact ⟨0, by omega, rfl, hid (by simp), Drawn0.refl _⟩
  case round =>
    obtain ⟨k, hk, rfl, hall, ⟨m, rfl⟩⟩ := hrel
    by_cases hlt : (k : Int) < (l.length : Int)
    · obtain ⟨ad, e, hcell⟩ := Kd.at_int HC.out (k : Int) (by omega) hlt
      subst e
      rw [Int.toNat_natCast] at hcell
      have q0 : 0 ≤ (k : Int) := by omega
      have hk1 : k < l.length := by omega
      have hx : rd l (k : Int) = l[k] := by simp [rd, List.getD_eq_getElem?_getD, List.getElem?_eq_getElem hk1]
      have HX := hid hx
      clear hx
      cases hb : letterB (rd l (k : Int))
      · have HB := hid hb
        have hv : (!letterB (rd l (k : Int))) = true := by rw [hb]; rfl
        clear hb
        go_wp2_with (go_at_call 82; (with_reducible refine (named1_c _ _).mono ?_); rw [hv]; rintro e w' ⟨rfl, ⟨nd, rfl⟩⟩)
        go_ret
        refine ⟨k, rfl, ?_, ⟨⟨_, rfl⟩⟩⟩
        have : l.all letterB = false := by
          rw [List.all_eq_false]
          exact ⟨l[k], List.getElem_mem hk1, by rw [← HX.out, HB.out]; decide⟩
        rw [this]; simp
      · have HB := hid hb
        have hv : (!letterB (rd l (k : Int))) = false := by rw [hb]; rfl
        clear hb
        have hw1 : IntKind.i64.wrap ((k : Int) + 1) = (k : Int) + 1 := IntWalk.i64_in _ (by omega)
        go_wp2_with (go_at_call 82; (with_reducible refine (named1_c _ _).mono ?_); rw [hv]; rintro e w' ⟨rfl, ⟨nd, rfl⟩⟩)
        go_roundw
        case rel =>
          refine ⟨k + 1, by omega, by go_num, hid ?_, ⟨⟨_, rfl⟩⟩⟩
          rw [List.take_add_one, List.all_append, hall.out]
          simp [List.getElem?_eq_getElem hk1, ← HX.out, HB.out]
        case measure => simp [intOf]; omega
    · have hk1 : k = l.length := by omega
      go_wp2
      go_ret
      refine ⟨-1, rfl, ?_, ⟨⟨_, rfl⟩⟩⟩
      have := hall.out
      rw [hk1, List.take_length] at this
      rw [this]; rfl
theorem contains_c (A : Option Addr) (c : Nat) (l : List Int) (w : World) (hC : CB w A l) (hc : l.length ≤ c) (hl : l.length ≤ 140737488351232) :
    Calls Try.prog 81 #[.slice A l.length c, .func (.func 82) #[] #[]] w fun e w' => e = .returned (.bool (!(l.all letterB))) ∧ Drawn0 w w' := by
  have HC := hid hC
  clear hC
  go_enter Try.func81, Try.ntmps81
  go_wp2_with fail
  refine (index_c A c l _ HC.out hc hl).mono ?_
  rintro e w' ⟨r, rfl, hr, ⟨nd, rfl⟩⟩
  go_wp2
  go_ret
  exact ⟨by simp [← hr], ⟨⟨_, rfl⟩⟩⟩
def namedB (s : ByteArray) : Bool := decide (1 ≤ s.size) && decide (s.size ≤ 32) && (bytesOf s).all letterB
theorem named_c (s : ByteArray) (w : World) (hs : s.size ≤ 140737488351232) : Calls Try.prog 33 #[.string s] w fun e w' => e = .returned (.bool (namedB s)) ∧ Below w.heap.size w w' := by
  have kb := fun W => print_bytes (P := Try.prog) 9 22 5 Try.underlying9 Try.underlying22 Try.underlying5 s W
  by_cases h1 : (1 : Int) ≤ (s.size : Int)
  · by_cases h2 : (s.size : Int) ≤ 32
    · have e : namedB s = (bytesOf s).all letterB := by unfold namedB; simp [show 1 ≤ s.size by omega, show s.size ≤ 32 by omega]
      rw [e]
      clear e
      have hlen := bytesOf_length s
      go_enter Try.func33, Try.ntmps33
      go_wp2_with fail
      have hC : CB (Lib.bytesWorld w 5 s) (some ⟨w.heap.size, 0, none⟩) (bytesOf s) := by
        have := Kd.C_of_reads (enc := Value.int .u8) (d := (0 : Int)) (h1 := fun _ => rfl) (bytes_reads w 5 s (by omega))
        show Kd.C (Kd.int .u8) _ _ (bytesOf s).length (bytesOf s)
        rw [hlen]; exact this
      have hb : Below w.heap.size w (Lib.bytesWorld w 5 s) := bytes_below (Below.refl _ _) (Nat.le_refl _) 5 s
      have hcc := contains_c (some ⟨w.heap.size, 0, none⟩) (grownCap w s.size 0 5) (bytesOf s) _ hC (by rw [hlen]; exact grownCap_ge _ _ _ _) (by omega)
      rw [hlen] at hcc
      refine hcc.mono ?_
      rintro e w' ⟨rfl, ⟨nd, rfl⟩⟩
      have HB := hid hb
      clear hb hC hcc
      go_wp2
      go_ret
      exact ⟨by simp, pw_below_drewN HB.out _⟩
    · have e : namedB s = false := by unfold namedB; simp; omega
      rw [e]
      clear e
      go_enter Try.func33, Try.ntmps33
      go_wp2
      go_ret
      exact ⟨by simp, Below.refl _ _⟩
  · have e : namedB s = false := by unfold namedB; simp; omega
    rw [e]
    clear e
    go_enter Try.func33, Try.ntmps33
    go_wp2
    go_ret
    exact ⟨by simp, Below.refl _ _⟩
/-- The deferred closure, of a frame that returns: nothing is recovered. -/
theorem catch_idle (p : Addr) (w : World) :
    CallsD Try.prog 79 #[.pointer (some p)] .returning w fun e u' w' => e = .returned (.tuple #[]) ∧ u' = .returning ∧ w' = w := by
  refine callsD_of_wpS Try.func79 rfl fun c₀ cs hu => ?_
  apply wpS_seq
  apply wpS_region
  simp [wpOpsS, go_sem, recoverD, hu, Try.ntmps79, Exit.thenS]
  refine wpS_of_wp ?_
  go_wp2
  refine ⟨rfl, .returning, ?_, .tuple #[], by simp [results, Try.results79, go_sem], rfl, rfl, rfl⟩
  rw [← hu]
theorem is_fail (v : Value) (w : World) : (Instr.typeAssert (.iface 104 v) 20 104 true).run Try.prog w = .ok (.tuple #[v, .bool true]) w := by
  obtain ⟨i, hi⟩ : ∃ i, Try.prog.info? 104 = some i := by
    have : (Try.prog.info? 104).isSome = true := by kernel_rfl
    exact Option.isSome_iff_exists.1 this
  simp [Instr.typeAssert, go_sem, run_underlying Try.underlying104]
set_option maxRecDepth 100000 in
set_option maxHeartbeats 1600000 in
/-- The deferred closure, of a frame that dies of a failure e: it is caught, e is laid into the result. -/
theorem catch_fail (p : Addr) (x e : Int) (w : World) (hc : w.cell? p = some (.int .i64 x)) (hz : w.frozen? p = false) (hp : p.block < w.heap.size) :
    CallsD Try.prog 79 #[.pointer (some p)] (.panicking (fail_ e)) w fun r u' w' =>
      r = .returned (.tuple #[]) ∧ u' = .panicking [{ v := .iface 104 (.agg #[.int .i64 e]), recovered := true }] ∧ w' = (w.alloc (.cells #[.int .i64 e] 104)).setCell p (.int .i64 e) := by
  have hta := is_fail (.agg #[.int .i64 e])
  have hfz : (w.alloc (.cells #[.int .i64 e] 104)).frozen? p = false := ((below_alloc (Below.refl w.heap.size w) _).frozen hp).trans hz
  have hne : ¬ p.block = w.heap.size := by omega
  have hne' : ¬ w.heap.size = p.block := by omega
  refine callsD_of_wpS Try.func79 rfl fun c₀ cs hu => ?_
  apply wpS_seq
  apply wpS_region
  simp [wpOpsS, go_sem, recoverD, hu, Try.ntmps79, Exit.thenS, fail_]
  refine wpS_of_wp ?_
  go_wp2
  exact ⟨rfl, .panicking [{ v := .iface 104 (.agg #[.int .i64 e]), recovered := true }], rfl, .tuple #[], by simp [results, Try.results79, go_sem], rfl, rfl, rfl⟩
/-- The world that a reader meets: the scanner B is new; so is the result's cell (block w.heap.size). -/
structure Fresh (w w1 : World) (B : Nat) (l : List Int) : Prop where
  below : Below w.heap.size w w1
  lt : w.heap.size < B
  sc : Sc w1 B l 0
  cell : w1.heap[w.heap.size]? = some (.cells #[.int .i64 0] 25 (0, 0))
/-- What is behind a reader: nothing but block g has turned. -/
structure Aft (g : Nat) (w w' : World) : Prop where
  os : w'.os = w.os
  tape : w'.tape = w.tape
  output : w'.output = w.output
  size : w.heap.size ≤ w'.heap.size
  block : ∀ k, k < w.heap.size → k ≠ g → w'.heap[k]? = w.heap[k]?
def ReadPost (w : World) (l : List Int) (B : Nat) (R : World → Int → Prop) (e : Ending) (w2 : World) : Prop :=
  (∃ i : Int, e = .returned (.tuple #[]) ∧ 0 ≤ i ∧ i ≤ l.length ∧ Sc w2 B l i ∧ w2.heap[w.heap.size]? = some (.cells #[.int .i64 0] 25 (0, 0)) ∧ R w2 (if i < l.length then 2 else 0)) ∨
  (∃ x : Int, e = .panicked (fail_ x) ∧ w2.heap[w.heap.size]? = some (.cells #[.int .i64 0] 25 (0, 0)) ∧ R w2 x)
theorem cell_one {w : World} {g : Nat} {a : Value} {t : TypeId} (h : w.heap[g]? = some (.cells #[a] t (0, 0))) (u : Value) : (w.setCell ⟨g, 0, none⟩ u).cell? ⟨g, 0, none⟩ = some u := by
  have h0 : g < w.heap.size := (Array.getElem?_eq_some_iff.1 h).1
  simp [World.setCell, World.cell?, Array.getElem?_modify, h]
theorem aft_set (w w2 : World) (g n : Nat) (u : Value) (h : w2 = w.drewN n) : Aft g w (w2.setCell ⟨g, 0, none⟩ u) := by
  subst h
  exact ⟨rfl, rfl, rfl, by simp, fun k _ hk => Below.heap_setCell _ _ _ _ hk⟩
set_option maxRecDepth 100000 in
set_option maxHeartbeats 1600000 in
theorem try_c (G : FuncId) (hG : ∀ (args : Array Value) (w : World), (callFunc G args).run Try.prog w = .ok (.enter G args) w) (caps : Array Value) (A : Option Addr) (c : Nat) (l : List Int) (w : World) (hC : CB w A l) (hc : l.length ≤ c) (hl : l.length ≤ 140737488351232) (R : World → Int → Prop)
    (hread : ∀ w1 B, Fresh w w1 B l → Calls Try.prog G (#[.pointer (some ⟨B, 0, none⟩)] ++ caps) w1 (ReadPost w l B R)) :
    Calls Try.prog 25 #[.slice A l.length c, .func (.func G) #[] caps] w fun e w' => ∃ x w2, e = .returned (.int .i64 x) ∧ R w2 x ∧ Aft w.heap.size w2 w' := by
  have hmf : ∀ (fn : Fn) (first cap : Array Value) (w : World), (Instr.makeFunc fn first cap).run Try.prog w = .ok (.func fn first cap) w := fun _ _ _ _ => rfl
  have HC := hid hC
  clear hC
  have HR := hid hread
  clear hread
  go_enter_defers Try.func25, Try.ntmps25
  go_wp2_with (go_at_call 31; (with_reducible refine (new_c A c l _ (Kd.C_below HC.out (below_alloc (Below.refl _ _) _)) hc hl).mono ?_); rintro e w1 ⟨B, rfl, hB, hS, hw⟩)
  have hF : Fresh w w1 B l := ⟨(below_alloc (Below.refl _ _) _).trans (hw.mono (by simp)), by simp at hB; omega, hS, (hw.block w.heap.size (by simp)).trans (heap_alloc_new _ _)⟩
  refine (HR.out w1 B hF).mono ?_
  clear hF hw hS HC
  rintro e w2 (⟨i, rfl, i0, i1, hS2, hE, hr⟩ | ⟨x, rfl, hE, hr⟩)
  · have HS := hid hS2
    have hz : w2.frozen? ⟨w.heap.size, 0, none⟩ = false := by simp [World.frozen?, hE]
    have hce : w2.cell? ⟨w.heap.size, 0, none⟩ = some (.int .i64 0) := by simp [World.cell?, hE]
    have hlt : w.heap.size < w2.heap.size := (Array.getElem?_eq_some_iff.1 hE).1
    have HE := hid hE
    have HRR := hid hr
    clear hS2 hE hr
    by_cases hi : i < (l.length : Int)
    · rw [show (if i < (l.length : Int) then (2 : Int) else 0) = 2 by simp [hi]] at HRR
      have hd : decide (0 < (l.length : Int) - i) = true := by simp; omega
      go_wp2_with (go_at_call 30; (with_reducible refine (left_c B l i _ HS.out i0 i1 hl).mono ?_); rintro e w' ⟨rfl, ⟨nd, rfl⟩⟩)
      refine leaves_cons (f := 79) (args := #[.pointer (some ⟨w.heap.size, 0, none⟩)]) (by simp) (by simp [go_sem]) ?_
      refine (catch_idle _ _).mono ?_
      rintro e u' w'' ⟨rfl, rfl, rfl⟩
      have hc2 : ((w2.drewN nd).setCell ⟨w.heap.size, 0, none⟩ (.int .i64 2)).cell? ⟨w.heap.size, 0, none⟩ = some (.int .i64 2) := cell_one (w := w2.drewN nd) HE.out _
      simp [Leaves, settle, results, Try.results25, go_sem, hc2]
      exact ⟨w2, HRR.out, aft_set _ _ _ nd _ rfl⟩
    · rw [show (if i < (l.length : Int) then (2 : Int) else 0) = 0 by simp [hi]] at HRR
      have hd : decide (0 < (l.length : Int) - i) = false := by simp; omega
      go_wp2_with (go_at_call 30; (with_reducible refine (left_c B l i _ HS.out i0 i1 hl).mono ?_); rintro e w' ⟨rfl, ⟨nd, rfl⟩⟩)
      refine leaves_cons (f := 79) (args := #[.pointer (some ⟨w.heap.size, 0, none⟩)]) (by simp) (by simp [go_sem]) ?_
      refine (catch_idle _ _).mono ?_
      rintro e u' w'' ⟨rfl, rfl, rfl⟩
      have hc2 : ((w2.drewN nd).setCell ⟨w.heap.size, 0, none⟩ (.int .i64 0)).cell? ⟨w.heap.size, 0, none⟩ = some (.int .i64 0) := cell_one (w := w2.drewN nd) HE.out _
      simp [Leaves, settle, results, Try.results25, go_sem, hc2]
      exact ⟨w2, HRR.out, aft_set _ _ _ nd _ rfl⟩
  · have hz : w2.frozen? ⟨w.heap.size, 0, none⟩ = false := by simp [World.frozen?, hE]
    have hce : w2.cell? ⟨w.heap.size, 0, none⟩ = some (.int .i64 0) := by simp [World.cell?, hE]
    have hlt : w.heap.size < w2.heap.size := (Array.getElem?_eq_some_iff.1 hE).1
    have hE2 : (w2.alloc (.cells #[.int .i64 x] 104)).heap[w.heap.size]? = some (.cells #[.int .i64 0] 25 (0, 0)) := (Below.heap_alloc _ _ _ hlt).trans hE
    refine leaves_cons (f := 79) (args := #[.pointer (some ⟨w.heap.size, 0, none⟩)]) (by simp) (by simp [go_sem]) ?_
    refine (catch_fail ⟨w.heap.size, 0, none⟩ 0 x w2 hce hz hlt).mono ?_
    rintro e u' w'' ⟨rfl, rfl, rfl⟩
    have hc2 : ((w2.alloc (.cells #[.int .i64 x] 104)).setCell ⟨w.heap.size, 0, none⟩ (.int .i64 x)).cell? ⟨w.heap.size, 0, none⟩ = some (.int .i64 x) := cell_one hE2 _
    simp [Leaves, settle, results, Try.results25, go_sem, hc2]
    refine ⟨w2, hr, ⟨rfl, rfl, rfl, by simp, fun k hk hne => (Below.heap_setCell _ _ _ _ hne).trans (Below.heap_alloc _ _ _ hk)⟩⟩
theorem put_c (x : Int) (h0 : 0 ≤ x) (h1 : x ≤ 4294967295) (w : World) :
    Calls Try.prog 85 #[.int .u32 x] w fun e w' => e = .returned (.agg #[.int .u8 (x % 256), .int .u8 (x / 256 % 256), .int .u8 (x / 65536 % 256), .int .u8 (x / 16777216)]) ∧ Below w.heap.size w w' := by
  go_enter Try.func85, Try.ntmps85
  go_wp2
  refine bodyPost_ret (v := .agg #[.int .u8 (x % 256), .int .u8 (x / 256 % 256), .int .u8 (x / 65536 % 256), .int .u8 (x / 16777216)]) (by simp [results, Try.results85, go_sem]) rfl ⟨rfl, (Below.refl _ _).alloc (Nat.le_refl _) _⟩
/-- Behind two methods of one scanner. -/
theorem step2 {w w1 w2 : World} {B : Nat} {l : List Int} {i j k : Int} (h : Sc w B l i) (h1 : Below w.heap.size (w.setCell ⟨B, 1, none⟩ (.int .i64 j)) w1) (h2 : Below w1.heap.size (w1.setCell ⟨B, 1, none⟩ (.int .i64 k)) w2) :
    Below w.heap.size (w.setCell ⟨B, 1, none⟩ (.int .i64 k)) w2 := by
  have hz : w.heap.size ≤ w1.heap.size := by have := h1.size; simpa using this
  refine ⟨h2.os.trans h1.os, h2.tape.trans h1.tape, h2.output.trans h1.output, ?_, fun b hb => ?_⟩
  · have := h2.size; simp at this ⊢; omega
  · rw [h2.block b (by omega)]
    by_cases e : b = B
    · subst e
      obtain ⟨v, hc, _⟩ := h
      rw [heap_set w b v (.int .i64 i) (.int .i64 k) 106 hc]
      have h3 := h1.block b hb
      rw [heap_set w b v (.int .i64 i) (.int .i64 j) 106 hc] at h3
      exact heap_set w1 b v (.int .i64 j) (.int .i64 k) 106 h3
    · rw [Below.heap_setCell w1 _ _ b e, Below.heap_setCell w _ _ b e, h1.block b hb, Below.heap_setCell w _ _ b e]
theorem Sc.after {w w1 : World} {B : Nat} {l : List Int} {i j : Int} (h : Sc w B l i) (h1 : Below w.heap.size (w.setCell ⟨B, 1, none⟩ (.int .i64 j)) w1) : Sc w1 B l j :=
  (h.move (j := j)).below (by simpa using h1)
/-- How long the name from i on is; whether it stands there, and is one. -/
def nameLen (l : List Int) (i : Int) : Int := wordOf (mid l i 1)
def nameOf (l : List Int) (i : Int) : ByteArray := strOfNums (mid l (i + 1) (nameLen l i))
set_option maxRecDepth 100000 in
theorem name_c (B : Nat) (l : List Int) (i : Int) (w : World) (h : Sc w B l i) (h0 : 0 ≤ i) (h1 : i + 1 ≤ l.length) (h2 : i + 1 + nameLen l i ≤ l.length) (hn : 0 ≤ nameLen l i) (hl : l.length ≤ 140737488351232) (hb : Bytes l) (hN : namedB (nameOf l i) = true) :
    Calls Try.prog 42 #[.pointer (some ⟨B, 0, none⟩)] w fun e w' => e = .returned (.string (nameOf l i)) ∧ Below w.heap.size (w.setCell ⟨B, 1, none⟩ (.int .i64 (i + 1 + nameLen l i))) w' := by
  have HS := hid h
  clear h
  go_enter Try.func42, Try.ntmps42
  go_wp2_with fail
  refine (number_c B l i 1 _ HS.out h0 h1 (by omega) hl hb).mono ?_
  rintro e w1 ⟨rfl, hw1⟩
  rw [show wordOf (mid l i 1) = nameLen l i from rfl]
  have HS1 := hid (HS.out.after hw1)
  have HW1 := hid hw1
  clear hw1
  go_wp2_with fail
  refine (bytes_c B l (i + 1) (nameLen l i) _ HS1.out (by omega) h2 hn hl).mono ?_
  rintro e w2 ⟨v, rfl, hR, hw2⟩
  obtain ⟨A, c, rfl, hc, hC⟩ := Kd.R_reads hR
  have hstr : (convert 22 9 (.slice A (mid l (i + 1) (nameLen l i)).length c)).run Try.prog w2 = .ok (.string (nameOf l i)) w2 := Kd.C_string Try.underlying22 Try.underlying5 Try.underlying9 hC
  have HW2 := hid (step2 HS.out HW1.out hw2)
  have hsz : (nameOf l i).size ≤ 140737488351232 := by
    show (strOfNums _).size ≤ _
    rw [strOfNums_size, mid_length (by omega) hn h2]; omega
  clear hR hC hw2
  go_wp2_with fail
  refine (named_c (nameOf l i) _ hsz).mono ?_
  rintro e w3 ⟨rfl, hw3⟩
  rw [hN]
  have HW3 := hid (HW2.out.trans (hw3.mono (by have := HW2.out.size; simpa using this)))
  clear hw3
  go_wp2_with (go_at_call 28; (with_reducible refine (must_c _ _).mono ?_); rintro e w' ⟨rfl, rfl⟩)
  go_ret
  exact ⟨rfl, HW3.out⟩
theorem bits_run (b : Nat) (w : World) : (callFunc 48 #[.float .f64 b]).run Try.prog w = .ok (.value (.int .u64 b)) w := by
  rw [run_callFunc_extern (e := Extern.MathFloatBits.float64bits) Try.func48 (by kernel_rfl) (by kernel_rfl) (by kernel_rfl) (by kernel_rfl)]
  rfl
theorem frombits_run (n : Int) (w : World) : (callFunc 45 #[.int .u64 n]).run Try.prog w = .ok (.value (.float .f64 n.toNat)) w := by
  rw [run_callFunc_extern (e := Extern.MathFloatBits.float64frombits) Try.func45 (by kernel_rfl) (by kernel_rfl) (by kernel_rfl) (by kernel_rfl)]
  rfl
def fourS (x : Int) : List Int := [x % 256, x / 256 % 256, x / 65536 % 256, x / 16777216]
set_option maxRecDepth 100000 in
theorem putfloat_c (b : Nat) (hb : b < 18446744073709551616) (w : World) : Calls Try.prog 46 #[.float .f64 b] w fun e w' => ∃ v, e = .returned v ∧ RB w' w.heap.size v (fourS ((b : Int) % 4294967296) ++ fourS ((b : Int) / 4294967296)) ∧ Below w.heap.size w w' := by
  have hbr := bits_run b
  have e1 : (IntKind.u64.wrap (b : Int)) = b := by rw [IntKind.wrap_u64]; omega
  obtain ⟨lo, hlo⟩ : ∃ x : Int, (b : Int) % 4294967296 = x := ⟨_, rfl⟩
  obtain ⟨hi, hhi⟩ : ∃ x : Int, (b : Int) / 4294967296 = x := ⟨_, rfl⟩
  have e2 : hi % 4294967296 = hi := by omega
  have l0 : 0 ≤ lo := by omega
  have l1 : lo ≤ 4294967295 := by omega
  have h0 : 0 ≤ hi := by omega
  have h1 : hi ≤ 4294967295 := by omega
  rw [hlo, hhi]
  go_enter Try.func46, Try.ntmps46
  go_wp2_with fail
  refine (put_c lo l0 l1 _).mono ?_
  rintro e w1 ⟨rfl, hw1⟩
  go_wp2_with fail
  refine (put_c hi h0 h1 _).mono ?_
  rintro e w2 ⟨rfl, hw2⟩
  have HW := hid (below_step hw1 hw2)
  clear hw1 hw2
  go_wp2_with fail
  generalize hWW : ((w2.alloc (Obj.cells #[Value.int .u8 (lo % 256), .int .u8 (lo / 256 % 256), .int .u8 (lo / 65536 % 256), .int .u8 (lo / 16777216)] 110)).alloc (Obj.cells #[Value.int .u8 (hi % 256), .int .u8 (hi / 256 % 256), .int .u8 (hi / 65536 % 256), .int .u8 (hi / 16777216)] 110)) = W
  have b0 : W.heap[w2.heap.size]? = some (.cells #[Value.int .u8 (lo % 256), .int .u8 (lo / 256 % 256), .int .u8 (lo / 65536 % 256), .int .u8 (lo / 16777216)] 110 (0, 0)) := by rw [← hWW]; exact (Below.heap_alloc _ _ _ (by simp)).trans (heap_alloc_new _ _)
  have b1 : W.heap[w2.heap.size + 1]? = some (.cells #[Value.int .u8 (hi % 256), .int .u8 (hi / 256 % 256), .int .u8 (hi / 65536 % 256), .int .u8 (hi / 16777216)] 110 (0, 0)) := by rw [← hWW]; simpa using heap_alloc_new (w2.alloc _) _
  have hB : Hid (Below w.heap.size w W) := by rw [← hWW]; exact hid (below_alloc (below_alloc HW.out _) _)
  clear hWW
  have B0 := hid b0
  have B1 := hid b1
  clear b0 b1
  go_still_tail 2, (by kernel_rfl)
  change wpList _ _ _ _ _ W.drew
  have B2 : Hid (W.drew.heap[w2.heap.size]? = some (.cells #[Value.int .u8 (lo % 256), .int .u8 (lo / 256 % 256), .int .u8 (lo / 65536 % 256), .int .u8 (lo / 16777216)] 110 (0, 0))) := B0
  have B3 : Hid (W.drew.heap[w2.heap.size + 1]? = some (.cells #[Value.int .u8 (hi % 256), .int .u8 (hi / 256 % 256), .int .u8 (hi / 65536 % 256), .int .u8 (hi / 16777216)] 110 (0, 0))) := B1
  have HB3 : Hid (Below w.heap.size w W.drew) := hid hB.out.drew
  generalize W.drew = W2 at *
  obtain ⟨i5, hi5, hz5, hs5, hb5⟩ := info_parts info5
  go_wp2_with (at_builtin; refine wpList_append_grows W2 rfl (.tmp 15) (.tmp 16) 22 rfl 5 i5 (.int .u8 0) 1 1 Try.underlying22 hi5 hz5 hs5 hb5 rfl (by decide) (some ⟨w2.heap.size, 0, none⟩) 4 4 (encs (Value.int .u8) (fourS lo)) rfl (fun h => by cases h) rfl (fun b hb j u hj => by injection hb with hb; subst hb; rw [add_plain]; simp only [World.cell?, B2.out]; simpa [encs, fourS] using hj) ⟨w2.heap.size + 1, 0, none⟩ 4 4 (encs (Value.int .u8) (fourS hi)) rfl rfl (fun j u hj => by rw [add_plain]; simp only [World.cell?, B3.out]; simpa [encs, fourS] using hj) (fun u hu => by simp [encs, fourS] at hu; rcases hu with rfl | rfl | rfl | rfl <;> rfl) (by decide) (by decide) (by decide) ?_; intro v1 w3 hown hgr)
  go_ret
  refine ⟨v1, rfl, ?_, ?_⟩
  · have ho := own_less hown HB3.out.size
    exact Kd.R_of_own (by simpa [encs, fourS] using ho) (fun _ _ => trivial)
  · exact HB3.out.grown hgr HB3.out.size (fun k h => by cases h)
theorem Aft.of_below {w w1 : World} {B : Nat} {j : Int} (h : Below w.heap.size (w.setCell ⟨B, 1, none⟩ (.int .i64 j)) w1) : Aft B w w1 :=
  ⟨h.os, h.tape, h.output, by have := h.size; simpa using this, fun k hk hne => (h.block k hk).trans (Below.heap_setCell w _ _ k hne)⟩
theorem Aft.then_ {w w1 w2 : World} {B : Nat} (h : Aft B w w1) (k : Aft B w1 w2) : Aft B w w2 :=
  ⟨k.os.trans h.os, k.tape.trans h.tape, k.output.trans h.output, Nat.le_trans h.size k.size, fun i hi hne => (k.block i (Nat.lt_of_lt_of_le hi h.size) hne).trans (h.block i hi hne)⟩
theorem Aft.drawn {w w1 : World} {B : Nat} (h : Drawn0 w w1) : Aft B w w1 := by
  obtain ⟨⟨n, rfl⟩⟩ := h
  exact ⟨rfl, rfl, rfl, Nat.le_refl _, fun _ _ _ => rfl⟩
theorem name_cut1 (B : Nat) (l : List Int) (i : Int) (w : World) (h : Sc w B l i) (h0 : 0 ≤ i) (h1 : i = l.length) (hl : l.length ≤ 140737488351232) :
    Calls Try.prog 42 #[.pointer (some ⟨B, 0, none⟩)] w fun e w' => e = .panicked (fail_ 2) ∧ Aft B w w' := by
  have HS := hid h
  clear h
  go_enter Try.func42, Try.ntmps42
  go_wp2_with fail
  refine (number_no B l i 1 _ HS.out h0 (by omega) hl (by omega)).mono ?_
  rintro e w1 ⟨rfl, hd⟩
  exact ⟨rfl, rfl, Aft.drawn hd⟩
theorem name_cut2 (B : Nat) (l : List Int) (i : Int) (w : World) (h : Sc w B l i) (h0 : 0 ≤ i) (h1 : i + 1 ≤ l.length) (h2 : (l.length : Int) < i + 1 + nameLen l i) (hl : l.length ≤ 140737488351232) (hb : Bytes l) :
    Calls Try.prog 42 #[.pointer (some ⟨B, 0, none⟩)] w fun e w' => e = .panicked (fail_ 2) ∧ Aft B w w' := by
  have HS := hid h
  clear h
  go_enter Try.func42, Try.ntmps42
  go_wp2_with fail
  refine (number_c B l i 1 _ HS.out h0 h1 (by omega) hl hb).mono ?_
  rintro e w1 ⟨rfl, hw1⟩
  rw [show wordOf (mid l i 1) = nameLen l i from rfl]
  have HS1 := hid (HS.out.after hw1)
  have HW1 := hid (Aft.of_below hw1)
  clear hw1
  go_wp2_with fail
  refine (bytes_no B l (i + 1) (nameLen l i) _ HS1.out (by omega) h1 hl (by omega)).mono ?_
  rintro e w2 ⟨rfl, hd⟩
  exact ⟨rfl, rfl, HW1.out.then_ (Aft.drawn hd)⟩
set_option maxRecDepth 100000 in
theorem name_form (B : Nat) (l : List Int) (i : Int) (w : World) (h : Sc w B l i) (h0 : 0 ≤ i) (h1 : i + 1 ≤ l.length) (h2 : i + 1 + nameLen l i ≤ l.length) (hn : 0 ≤ nameLen l i) (hl : l.length ≤ 140737488351232) (hb : Bytes l) (hN : namedB (nameOf l i) = false) :
    Calls Try.prog 42 #[.pointer (some ⟨B, 0, none⟩)] w fun e w' => e = .panicked (fail_ 4) ∧ Aft B w w' := by
  have HS := hid h
  clear h
  go_enter Try.func42, Try.ntmps42
  go_wp2_with fail
  refine (number_c B l i 1 _ HS.out h0 h1 (by omega) hl hb).mono ?_
  rintro e w1 ⟨rfl, hw1⟩
  rw [show wordOf (mid l i 1) = nameLen l i from rfl]
  have HS1 := hid (HS.out.after hw1)
  have HW1 := hid hw1
  clear hw1
  go_wp2_with fail
  refine (bytes_c B l (i + 1) (nameLen l i) _ HS1.out (by omega) h2 hn hl).mono ?_
  rintro e w2 ⟨v, rfl, hR, hw2⟩
  obtain ⟨A, c, rfl, hc, hC⟩ := Kd.R_reads hR
  have hstr : (convert 22 9 (.slice A (mid l (i + 1) (nameLen l i)).length c)).run Try.prog w2 = .ok (.string (nameOf l i)) w2 := Kd.C_string Try.underlying22 Try.underlying5 Try.underlying9 hC
  have HW2 := hid (step2 HS.out HW1.out hw2)
  have hsz : (nameOf l i).size ≤ 140737488351232 := by
    show (strOfNums _).size ≤ _
    rw [strOfNums_size, mid_length (by omega) hn h2]; omega
  clear hR hC hw2
  go_wp2_with fail
  refine (named_c (nameOf l i) _ hsz).mono ?_
  rintro e w3 ⟨rfl, hw3⟩
  rw [hN]
  have HW3 := hid (HW2.out.trans (hw3.mono (by have := HW2.out.size; simpa using this)))
  clear hw3
  go_wp2_with (go_at_call 28; (with_reducible refine (must_no _ _).mono ?_); rintro e w' ⟨rfl, rfl⟩)
  exact ⟨rfl, rfl, Aft.of_below HW3.out⟩
theorem Sc.set_ {w : World} {B : Nat} {l : List Int} {i : Int} (h : Sc w B l i) {N t : Nat} {cs : Array Value} (hN : w.heap[N]? = some (.cells cs t (0, 0))) (ht : t ≠ 5) (hne : B ≠ N) (j : Nat) (u : Value) : Sc (w.setCell ⟨N, j, none⟩ u) B l i := by
  obtain ⟨v, h1, h2⟩ := h
  exact ⟨v, (Below.heap_setCell _ _ _ _ hne).trans h1, Kd.R_set h2 hN (fun q hq => by simp [Kd.int, Kd.scalar] at hq; omega) j u⟩
theorem C_block {k : IntKind} {w : World} {g : Nat} {l : List Int} {cs : Array Value} {t : TypeId} {fr : Nat × Nat} (hb : w.heap[g]? = some (.cells cs t fr)) (hl : l.length ≤ 9223372036854775807) (h : ∀ (j : Nat) (p : Int), l[j]? = some p → cs[j]? = some (Value.int k p)) :
    Kd.C (Kd.int k) w (some ⟨g, 0, none⟩) l.length l :=
  ⟨rfl, hl, fun _ => ⟨⟨g, 0, none⟩, rfl, fun j p hj => ⟨[.int k p], rfl, rfl, fun i u hu => by
    match i, hu with
    | 0, hu => simp at hu; subst hu; rw [show j * (Kd.int k).sz + 0 = j from Nat.mul_one j, add_plain]; simp [World.cell?, hb, h j p hj]
    | i + 1, hu => simp at hu⟩⟩⟩
theorem ReadPost.imp {w : World} {l : List Int} {B : Nat} {R R' : World → Int → Prop} (h : ∀ w2 x, R w2 x → R' w2 x) {e : Ending} {w2 : World} (k : ReadPost w l B R e w2) : ReadPost w l B R' e w2 := by
  rcases k with ⟨i, a, b, c, d, f, g⟩ | ⟨x, a, b, c⟩
  · exact .inl ⟨i, a, b, c, d, f, h _ _ g⟩
  · exact .inr ⟨x, a, b, h _ _ c⟩
/-- Of an old world's blocks: what a Try leaves. -/
theorem Aft.below {w w1 w2 : World} {B n : Nat} (h : Below n w w1) (k : Aft B w1 w2) (hB : n ≤ B) (hn : n ≤ w1.heap.size) : Below n w w2 :=
  ⟨k.os.trans h.os, k.tape.trans h.tape, k.output.trans h.output, Nat.le_trans h.size k.size, fun i hi => (k.block i (by omega) (by omega)).trans (h.block i hi)⟩
theorem Fresh.e {w w1 : World} {B : Nat} {l : List Int} (h : Fresh w w1 B l) : w.heap.size < w1.heap.size ∧ w.heap.size ≠ B := ⟨(Array.getElem?_eq_some_iff.1 h.cell).1, by have := h.lt; omega⟩
theorem Fresh.aft {w w1 w2 : World} {B : Nat} {l : List Int} (h : Fresh w w1 B l) (k : Aft B w1 w2) : Below w.heap.size w w2 ∧ w2.heap[w.heap.size]? = some (.cells #[.int .i64 0] 25 (0, 0)) :=
  ⟨Aft.below h.below k (by have := h.lt; omega) h.below.size, (k.block _ h.e.1 h.e.2).trans h.cell⟩
/-- The new scanner lives on wherever the blocks that were made by New are as they were. -/
def Foot0 (n m : Nat) (w1 : World) (P : World → Prop) : Prop := ∀ W : World, (∀ k, n ≤ k → k < m → W.heap[k]? = w1.heap[k]?) → P W
theorem new_f (A : Option Addr) (c : Nat) (l : List Int) (w : World) (hC : CB w A l) (hc : l.length ≤ c) (hl : l.length ≤ 140737488351232) :
    Calls Try.prog 31 #[.slice A l.length c] w fun e w' => ∃ B, e = .returned (.pointer (some ⟨B, 0, none⟩)) ∧ w.heap.size ≤ B ∧ B < w'.heap.size ∧ Foot0 w.heap.size w'.heap.size w' (fun W => Sc W B l 0) ∧ Below w.heap.size w w' := by
  have HC := hid hC
  clear hC
  go_enter Try.func31, Try.ntmps31
  go_wp2_with fail
  refine (clone_c A c l _ HC.out hc hl).mono ?_
  rintro e w1 ⟨v, rfl, hR, hb⟩
  obtain ⟨A1, c1, rfl, _, _⟩ := Kd.R_reads hR
  go_wp2
  go_ret
  refine ⟨w1.heap.size, rfl, hb.size, by simp, fun W hW => ⟨_, (hW _ hb.size (by simp)).trans (heap_alloc_new _ _), ?_⟩, below_alloc hb _⟩
  have h1 := Kd.R_bound hR
  exact Kd.R_lower (Kd.R_mono (Kd.R_step h1 (fun b hk hb => (hW b hk.2.1 (by simp; omega)).trans (Below.heap_alloc _ _ _ hb))) (fun k hk => (by have := hk.2.2.1; omega : k ≠ w1.heap.size))) (Nat.zero_le _)
theorem C_cells {k : IntKind} {w : World} {ad : Addr} {l : List Int} (hl : l.length ≤ 9223372036854775807) (h : ∀ j p, l[j]? = some p → w.cell? (ad.add j) = some (.int k p)) : Kd.C (Kd.int k) w (some ad) l.length l :=
  ⟨rfl, hl, fun _ => ⟨ad, rfl, fun j p hj => ⟨[.int k p], rfl, rfl, fun i u hu => by
    match i, hu with
    | 0, hu => simp at hu; subst hu; rw [show j * (Kd.int k).sz + 0 = j from Nat.mul_one j]; exact h j p hj
    | i + 1, hu => simp at hu⟩⟩⟩
/-- A number's bytes, the lowest ones. -/
def putS (n : Int) (k : Int) : List Int := (fourS (n % 4294967296)).take k.toNat
theorem putS_len (n k : Int) (h0 : 0 ≤ k) (h1 : k ≤ 4) : ((putS n k).length : Int) = k := by unfold putS fourS; simp; omega
theorem sput_c (n k : Int) (h0 : 0 ≤ k) (h1 : k ≤ 4) (w : World) :
    Calls Try.prog 35 #[.int .i64 n, .int .i64 k] w fun e w' => ∃ A c, e = .returned (.slice A (putS n k).length c) ∧ (putS n k).length ≤ c ∧ CB w' A (putS n k) ∧ Below w.heap.size w w' := by
  have e1 : IntKind.u32.wrap n = n % 4294967296 := IntKind.wrap_u32' n
  go_enter Try.func35, Try.ntmps35
  go_wp2_with fail
  refine (put_c (n % 4294967296) (by omega) (by omega) _).mono ?_
  rintro e w1 ⟨rfl, hw1⟩
  go_wp2
  go_ret
  have hl := putS_len n k h0 h1
  have e2 : n % 4294967296 % 256 = n % 256 := by omega
  refine ⟨some ⟨w1.heap.size, 0, none⟩, 4, by rw [show (putS n k).length = k.toNat by omega]; rfl, by omega, ?_, below_alloc hw1 _⟩
  refine C_block (blk_new _ _) (by omega) fun j p hj => ?_
  unfold putS fourS at hj
  rw [List.getElem?_take, e2] at hj
  split at hj
  · match j, hj with
    | 0, h => simp at h ⊢; exact h
    | 1, h => simp at h ⊢; exact h
    | 2, h => simp at h ⊢; exact h
    | 3, h => simp at h ⊢; exact h
    | j + 4, h => simp at h
  · cases hj
theorem count_c (B : Nat) (l : List Int) (i n : Int) (w : World) (h : Sc w B l i) (h0 : 0 ≤ i) (h1 : i + 2 ≤ l.length) (hl : l.length ≤ 140737488351232) (hb : Bytes l) (hn : wordOf (mid l i 2) ≤ n) :
    Calls Try.prog 44 #[.pointer (some ⟨B, 0, none⟩), .int .i64 n] w fun e w' => e = .returned (.int .i64 (wordOf (mid l i 2))) ∧ Below w.heap.size (w.setCell ⟨B, 1, none⟩ (.int .i64 (i + 2))) w' := by
  have HS := hid h
  clear h
  go_enter Try.func44, Try.ntmps44
  go_wp2_with fail
  refine (number_c B l i 2 _ HS.out h0 h1 (by omega) hl hb).mono ?_
  rintro e w1 ⟨rfl, hw1⟩
  have HW1 := hid hw1
  have hn2 : decide (wordOf (mid l i 2) ≤ n) = true := decide_eq_true hn
  clear hw1
  go_wp2_with fail
  refine (must_c _ _).mono ?_
  rintro e w2 ⟨rfl, rfl⟩
  go_wp2
  go_ret
  exact ⟨rfl, HW1.out⟩
theorem count_form (B : Nat) (l : List Int) (i n : Int) (w : World) (h : Sc w B l i) (h0 : 0 ≤ i) (h1 : i + 2 ≤ l.length) (hl : l.length ≤ 140737488351232) (hb : Bytes l) (hn : n < wordOf (mid l i 2)) :
    Calls Try.prog 44 #[.pointer (some ⟨B, 0, none⟩), .int .i64 n] w fun e w' => e = .panicked (fail_ 4) ∧ Aft B w w' := by
  have HS := hid h
  clear h
  go_enter Try.func44, Try.ntmps44
  go_wp2_with fail
  refine (number_c B l i 2 _ HS.out h0 h1 (by omega) hl hb).mono ?_
  rintro e w1 ⟨rfl, hw1⟩
  have HW1 := hid (Aft.of_below hw1)
  have hn2 : decide (wordOf (mid l i 2) ≤ n) = false := decide_eq_false (by omega)
  clear hw1
  go_wp2_with fail
  refine (must_no _ _).mono ?_
  rintro e w2 ⟨rfl, rfl⟩
  exact ⟨rfl, rfl, HW1.out⟩
theorem count_cut (B : Nat) (l : List Int) (i n : Int) (w : World) (h : Sc w B l i) (h0 : 0 ≤ i) (h1 : i ≤ l.length) (h2 : (l.length : Int) < i + 2) (hl : l.length ≤ 140737488351232) :
    Calls Try.prog 44 #[.pointer (some ⟨B, 0, none⟩), .int .i64 n] w fun e w' => e = .panicked (fail_ 2) ∧ Aft B w w' := by
  have HS := hid h
  clear h
  go_enter Try.func44, Try.ntmps44
  go_wp2_with fail
  refine (number_no B l i 2 _ HS.out h0 h1 hl (by omega)).mono ?_
  rintro e w1 ⟨rfl, hd⟩
  exact ⟨rfl, rfl, Aft.drawn hd⟩
/-- The float that stands in eight bytes, as its bits. -/
def floatOf (l : List Int) (i : Int) : Int := wordOf (mid l i 4) + 4294967296 * wordOf (mid l (i + 4) 4)
theorem wordOf_take (l : List Int) (n : Nat) (h : 4 ≤ n) : wordOf (l.take n) = wordOf l := by
  unfold wordOf
  simp only [List.getD_eq_getElem?_getD]
  rw [List.getElem?_take_of_lt (by omega), List.getElem?_take_of_lt (by omega), List.getElem?_take_of_lt (by omega), List.getElem?_take_of_lt (by omega)]
theorem mid8a (l : List Int) (i : Int) (h0 : 0 ≤ i) : wordOf (mid l i 8) = wordOf (mid l i 4) := by
  have e : mid l i 4 = (mid l i 8).take 4 := by
    unfold mid
    rw [List.take_drop, List.take_take, show min (i.toNat + 4) (i + 8).toNat = (i + 4).toNat by omega]
  rw [e, wordOf_take _ _ (by omega)]
theorem mid8b (l : List Int) (i : Int) (h0 : 0 ≤ i) : (mid l i 8).drop 4 = mid l (i + 4) 4 := by
  unfold mid
  rw [List.drop_drop, show i + 4 + 4 = i + 8 by omega, show i.toNat + 4 = (i + 4).toNat by omega]
theorem cutFrom {A : Option Addr} {c : Nat} {l : List Int} {w : World} (hC : CB w A l) (hc : l.length ≤ c) (j : Int) (h0 : 0 ≤ j) (h1 : j ≤ l.length) :
    ∃ A' c', (∀ W : World, (Instr.slice 22 (.slice A l.length c) (some (.int .i64 j)) none none).run Try.prog W = .ok (.slice A' (l.drop j.toNat).length c') W) ∧ CB w A' (l.drop j.toNat) ∧ (l.drop j.toNat).length ≤ c' := by
  obtain ⟨i5, hi5, _, hs5, _⟩ := info_parts info5
  have hcut := cut_from 22 5 .i64 Try.underlying22 hi5 1 hs5 A l.length c j h0 h1
  have hCd := Kd.C_drop (m := j.toNat) (c := c) hC (by omega) hc
  exact ⟨_, _, fun W => by rw [hcut W, List.length_drop]; rfl, hCd, by rw [List.length_drop]; omega⟩
theorem cutTo {A : Option Addr} {c : Nat} {l : List Int} {w : World} (hC : CB w A l) (hc : l.length ≤ c) (j : Int) (h0 : 0 ≤ j) (h1 : j ≤ l.length) :
    (∀ W : World, (Instr.slice 22 (.slice A l.length c) none (some (.int .i64 j)) none).run Try.prog W = .ok (.slice A (l.take j.toNat).length c) W) ∧ CB w A (l.take j.toNat) ∧ (l.take j.toNat).length ≤ c := by
  obtain ⟨i5, hi5, _, hs5, _⟩ := info_parts info5
  have hcut := cut_to 22 5 .i64 Try.underlying22 hi5 A l.length c j h0 h1 hc
  exact ⟨fun W => by rw [hcut W, List.length_take, Nat.min_eq_left (by omega)], Kd.C_take hC (by omega), by rw [List.length_take]; omega⟩
theorem cutMid {A : Option Addr} {c : Nat} {l : List Int} {w : World} (hC : CB w A l) (hc : l.length ≤ c) (i j : Int) (h0 : 0 ≤ i) (hij : i ≤ j) (h1 : j ≤ l.length) :
    ∃ A' c', (∀ W : World, (Instr.slice 22 (.slice A l.length c) (some (.int .i64 i)) (some (.int .i64 j)) none).run Try.prog W = .ok (.slice A' ((l.take j.toNat).drop i.toNat).length c') W) ∧ CB w A' ((l.take j.toNat).drop i.toNat) ∧ ((l.take j.toNat).drop i.toNat).length ≤ c' := by
  obtain ⟨i5, hi5, _, hs5, _⟩ := info_parts info5
  have hcut := cut_mid 22 5 .i64 .i64 Try.underlying22 hi5 1 hs5 A l.length c i j h0 hij h1 hc
  have hCm := Kd.C_mid (lo := i.toNat) (hi := j.toNat) (c := c) hC (by omega) (by omega) hc
  have hlm : ((l.take j.toNat).drop i.toNat).length = j.toNat - i.toNat := by rw [List.length_drop, List.length_take]; omega
  exact ⟨_, _, fun W => by rw [hcut W, hlm]; rfl, hCm, by rw [hlm]; omega⟩
theorem or64 (a b : Int) (a0 : 0 ≤ a) (a1 : a ≤ 4294967295) (b0 : 0 ≤ b) (b1 : b ≤ 4294967295) : bits BinOp.or IntKind.u64 a (IntKind.u64.wrap (b * 4294967296)) = a + 4294967296 * b := by
  have e : IntKind.u64.wrap (b * 4294967296) = b * 4294967296 := by rw [IntKind.wrap_u64]; omega
  rw [e]
  obtain ⟨A, rfl⟩ := Int.eq_ofNat_of_zero_le a0
  obtain ⟨B, rfl⟩ := Int.eq_ofNat_of_zero_le b0
  have e1 : ((B : Int) * 4294967296) = ((B * 2 ^ 32 : Nat) : Int) := by simp
  have hA : A < 2 ^ 32 := by omega
  have hB : B * 2 ^ 32 < 2 ^ 64 := by omega
  rw [e1, (bits_nat .u64 64 (Nat.le_refl _) (fun n h0 h1 => by rw [IntKind.wrap_u64]; omega) A (B * 2 ^ 32) (by omega) hB).2, Nat.or_comm, nat_join 32 _ _ (by simp) hA]
  omega
set_option maxRecDepth 100000 in
theorem float_c (B : Nat) (l : List Int) (i : Int) (w : World) (h : Sc w B l i) (h0 : 0 ≤ i) (h1 : i + 8 ≤ l.length) (hl : l.length ≤ 140737488351232) (hb : Bytes l) :
    Calls Try.prog 43 #[.pointer (some ⟨B, 0, none⟩)] w fun e w' => e = .returned (.float .f64 (floatOf l i).toNat) ∧ Below w.heap.size (w.setCell ⟨B, 1, none⟩ (.int .i64 (i + 8))) w' := by
  have HS := hid h
  clear h
  have hr1 := wordOf_range (hb.mid i 4)
  have hr2 := wordOf_range (hb.mid (i + 4) 4)
  have em := mid_len (l := l) h0 (show (0 : Int) ≤ 8 by omega) h1
  go_enter Try.func43, Try.ntmps43
  go_wp2_with fail
  refine (bytes_c B l i 8 _ HS.out h0 h1 (by omega) hl).mono ?_
  rintro e w1 ⟨v, rfl, hR, hw1⟩
  obtain ⟨A, c, rfl, hc, hC⟩ := Kd.R_reads hR
  have HW := hid hw1
  obtain ⟨A4, c4, hcut, hC4, hc4⟩ := cutFrom hC hc 4 (by omega) (by omega)
  rw [show ((4 : Int)).toNat = 4 from rfl, mid8b l i h0] at hcut hC4 hc4
  have HC := hid (And.intro hC hC4)
  have fr := frombits_run
  have k0 : IntKind.u64.wrap (wordOf (mid l i 8)) = wordOf (mid l i 4) := by rw [mid8a l i h0, IntKind.wrap_u64]; omega
  have k1 : IntKind.u64.wrap (wordOf (mid l (i + 4) 4)) = wordOf (mid l (i + 4) 4) := by rw [IntKind.wrap_u64]; omega
  have HR := hid (And.intro hr1 hr2)
  clear hC hC4 hR hw1 em hr1 hr2
  go_wp2
  go_region_with (first | (go_at_call 87; (with_reducible refine (get_c A c (mid l i 8) _ (Kd.C_drew HC.out.1) hc (hb.mid i 8)).mono ?_); rintro e w2 ⟨rfl, hb2⟩) | (go_at_call 87; (with_reducible refine (get_c A4 c4 (mid l (i + 4) 4) _ (Kd.C_below (Kd.C_drew HC.out.2) hb2) hc4 (hb.mid (i + 4) 4)).mono ?_); rintro e w3 ⟨rfl, hb3⟩))
  go_wp2
  go_ret
  obtain ⟨r1, r2⟩ := HR.out
  have e : bits BinOp.or IntKind.u64 (wordOf (mid l i 4)) (IntKind.u64.wrap (wordOf (mid l (i + 4) 4) * 4294967296)) = floatOf l i := or64 _ _ r1.1 r1.2 r2.1 r2.2
  refine ⟨by rw [← e]; rfl, ?_⟩
  have hz1 := HW.out.size
  have hz2 := hb2.size
  have hz1' : w.heap.size ≤ w1.drew.heap.size := by simpa using hz1
  exact HW.out.drew.trans ((hb2.mono hz1').trans (hb3.mono (Nat.le_trans hz1' hz2)))
theorem lletter_q (x : Int) : splicelaw08_letter.f x = some (letterB x) := by
  have e : splicelaw08_letter.f x = scan_letter.f x := rfl
  rw [e, letter_q]
theorem lnamed_from (s : ByteArray) (hs : s.size ≤ 9223372036854775807) : ∀ (d : Nat) (k : Nat) (i : Int), 0 ≤ i → i ≤ s.size → (s.size : Int) - i = d → d < k →
    splicelaw08_named.l0 k s i = some (((bytesOf s).drop i.toNat).all letterB) := by
  intro d
  have hlen := bytesOf_length s
  induction d with
  | zero =>
    intro k i h0 h1 hd hk
    obtain ⟨k, rfl⟩ : ∃ m, k = m + 1 := ⟨k - 1, by omega⟩
    simp only [splicelaw08_named.l0]
    rw [if_neg (by omega), List.drop_eq_nil_of_le (by omega)]
    rfl
  | succ d ih =>
    intro k i h0 h1 hd hk
    obtain ⟨k, rfl⟩ : ∃ m, k = m + 1 := ⟨k - 1, by omega⟩
    simp only [splicelaw08_named.l0]
    have ha : i.toNat < (bytesOf s).length := by omega
    rw [if_pos (by omega), if_pos h0, lletter_q, Option.bind_some, List.drop_eq_getElem_cons ha, List.all_cons]
    have ra : bt s i = (bytesOf s)[i.toNat] := by rw [← rd_bytesOf]; unfold rd; rw [List.getD_eq_getElem?_getD, List.getElem?_eq_getElem ha]; rfl
    rw [ra]
    cases hb : letterB (bytesOf s)[i.toNat]
    · simp
    · rw [if_pos rfl, wrap64_id (by omega) (by omega), ih k (i + 1) (by omega) (by omega) (by omega) (by omega), show (i + 1).toNat = i.toNat + 1 by omega]
      simp
theorem lnamed_q (s : ByteArray) (hs : s.size ≤ 9223372036854775807) : splicelaw08_named.f (s.size + 2) s = some (namedB s) := by
  unfold splicelaw08_named.f namedB
  have h := lnamed_from s (by omega) s.size (s.size + 1) 0 (by omega) (by omega) (by omega) (by omega)
  rw [show ((0 : Int)).toNat = 0 from rfl, List.drop_zero] at h
  by_cases h1 : (s.size : Int) < 1
  · rw [if_pos h1]
    simp only [splicelaw08_named.j0]
    simp
    omega
  · rw [if_neg h1]
    simp only [splicelaw08_named.j0]
    by_cases h2 : (s.size : Int) > 32
    · simp [h2]
      omega
    · simp [h2]
      rw [h]
      simp
      intro _
      omega
theorem lnamed_c (s : ByteArray) (w : World) (hs : s.size ≤ 9223372036854775807) : Calls Try.prog 34 #[.string s] w fun e w' => e = .returned (.bool (namedB s)) ∧ Drawn0 w w' :=
  splicelaw08_named.calls _ s _ w (lnamed_q s hs)
theorem refPut_c (n : Int) (n0 : 0 ≤ n) (n1 : n ≤ 4294967295) (w : World) :
    Calls Try.prog 36 #[.int .u32 n] w fun e w' => ∃ v, e = .returned v ∧ RB w' w.heap.size v (fourS n) ∧ Below w.heap.size w w' := by
  refine (spliceref01_Put.calls n _ w (refPut_eq n n0 n1)).mono ?_
  rintro e w' ⟨v, rfl, h1, h2⟩
  exact ⟨v, rfl, h1, h2⟩
theorem putName_c (s : ByteArray) (hs : s.size ≤ 140737488351232) (w : World) :
    Calls Try.prog 37 #[.string s] w fun e w' => ∃ v, e = .returned v ∧ RB w' w.heap.size v ((s.size : Int) % 256 :: bytesOf s) ∧ Below w.heap.size w w' := by
  refine (scan_PutName.calls s ((s.size : Int) % 256 :: bytesOf s) w ?_).mono ?_
  · unfold scan_PutName.f
    rw [Option.bind_some, if_pos (by simp; omega)]
    rfl
  rintro e w' ⟨v, rfl, h1, h2⟩
  exact ⟨v, rfl, h1, h2⟩
theorem strOfNums_cons (x : Int) (s : ByteArray) : strOfNums (x :: bytesOf s) = strOfNums [x] ++ s := by
  apply ByteArray.ext
  apply Array.ext'
  rw [strOfNums_data, ByteArray.data_append, Array.toList_append, strOfNums_data]
  simp only [List.map_cons, List.map_nil, List.singleton_append, List.cons.injEq, true_and]
  unfold bytesOf
  rw [List.map_map]
  conv => rhs; rw [← List.map_id s.data.toList]
  apply List.map_congr_left
  intro b _
  simp
theorem app_s {ops : Array Oper} {o : Oper} {a : Act} {Q : Exit → Act → World → Prop} {Kc : Act → World → Prop} {w0 W : World} (base : Nat) (hw : Region.wanted o (yielded ops a.tmps) = true) (s x : Operand)
    (ho : o.op = .call { callee := .builtin .append, args := #[s, x], argTypes := #[22, 22] }) (v : Value) (xs ys : List Int) (A : Option Addr) (c : Nat) (hs : a.eval s = v) (hx : a.eval x = .slice A ys.length c)
    (HO : RB W base v xs) (HR : CB W A ys) (HB : Below base w0 W) (hbase : base ≤ W.heap.size) (hl : xs.length + ys.length ≤ 140737488355328)
    (h : ∀ v1 w1, RB w1 base v1 (xs ++ ys) → Below base w0 w1 → W.grownBy w1 v.ownBlock → (v1.ownBlock = v.ownBlock ∨ ∃ b, v1.ownBlock = some b ∧ W.heap.size ≤ b) → Kc (a.put o.dst v1) w1) :
    if Region.wanted o (yielded ops a.tmps) = true then Oper.wp Try.prog o a W Kc Q else Kc (a.put o.dst undef) W :=
  Kd.R_append_rows_step (Kd.int .u8) (Rr := (Kd.int .u8).K W) base hw s x 22 5 (.int .u8 0) 1 ho Try.underlying22 info5 rfl (by decide) (by decide) v xs ys A ys.length c (fun _ => True) (fun _ => False) hs hx HO HR (fun _ _ h => h) (fun _ h => h.elim) (fun _ _ => trivial) HB hbase (by omega) h
theorem mid_at (pre x post : List Int) (i n : Int) (hi : i = pre.length) (hn : n = x.length) : mid (pre ++ x ++ post) i n = x := by
  subst hi hn
  unfold mid
  rw [show ((pre.length : Int) + x.length).toNat = (pre ++ x).length by simp; omega, List.take_left, Int.toNat_natCast, List.drop_left]
theorem wordOf_four (x : Int) (h0 : 0 ≤ x) (h1 : x ≤ 4294967295) : wordOf (fourS x) = x := by
  unfold wordOf fourS
  simp only [List.getD_cons_zero, List.getD_cons_succ]
  omega
theorem wordOf_one (x : Int) : wordOf [x] = x := by
  unfold wordOf
  simp
theorem Bytes.append {a b : List Int} (ha : Bytes a) (hb : Bytes b) : Bytes (a ++ b) := fun x hx => (List.mem_append.1 hx).elim (ha x) (hb x)
theorem bytes_four (x : Int) (h0 : 0 ≤ x) (h1 : x ≤ 4294967295) : Bytes (fourS x) := by
  intro y hy
  unfold fourS at hy
  simp at hy
  omega
theorem bytes_of (s : ByteArray) : Bytes (bytesOf s) := by
  intro y hy
  unfold bytesOf at hy
  obtain ⟨b, _, rfl⟩ := List.mem_map.1 hy
  have := b.toNat_lt
  omega
theorem strOfNums_bytesOf (s : ByteArray) : strOfNums (bytesOf s) = s := by
  apply ByteArray.ext
  apply Array.ext'
  rw [strOfNums_data]
  unfold bytesOf
  rw [List.map_map]
  conv => rhs; rw [← List.map_id s.data.toList]
  apply List.map_congr_left
  intro b _
  simp
theorem putS_four (n : Int) (h0 : 0 ≤ n) (h1 : n ≤ 4294967295) : putS n 4 = fourS n := by
  unfold putS
  rw [show n % 4294967296 = n by omega]
  rfl
theorem Fresh.keep {w w1 wc : World} {B : Nat} {l : List Int} (h : Fresh w w1 B l) (k : Aft B w1 wc) {N : Nat} {o : Obj} (hN : w.heap[N]? = some o) : wc.heap[N]? = some o := by
  have h0 := blk_lt hN
  have h1 := h.below.size
  have h2 := h.lt
  exact (k.block N (by omega) (by omega)).trans ((h.below.block N h0).trans hN)
theorem blk_new_at (w : World) (o : Obj) (n : Nat) (h : w.heap.size = n) : (w.alloc o).heap[n]? = some o := by subst h; exact heap_alloc_new w o
theorem three_new (w : World) (o0 o1 o2 : Obj) : (((w.alloc o0).alloc o1).alloc o2).heap[w.heap.size]? = some o0 ∧ (((w.alloc o0).alloc o1).alloc o2).heap[w.heap.size + 1]? = some o1 ∧ (((w.alloc o0).alloc o1).alloc o2).heap[w.heap.size + 2]? = some o2 :=
  ⟨blk_alloc (blk_alloc (blk_new _ _) _) _, blk_alloc (blk_new_at _ _ _ (by simp)) _, blk_new_at _ _ _ (by simp)⟩
theorem store_new_float (w : World) (b : Nat) (g : Nat) (hg : w.heap.size = g) : (store ⟨g, 0, none⟩ (.float .f64 b)).run Try.prog (w.alloc (.cells #[.float .f64 0] 50)) = .ok () (w.alloc (.cells #[.float .f64 b] 50)) := by
  subst hg
  rw [run_store _ _ _ _ _ rfl]
  have h := blk_new w (.cells #[.float .f64 0] 50)
  rw [blk_cell h 0, blk_frozen h 0]
  simp [World.setCell_alloc_at]
end Go.Proofs.Ytmcfihpbiilbcaa.H
