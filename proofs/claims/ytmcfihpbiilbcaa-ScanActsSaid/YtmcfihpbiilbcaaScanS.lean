/- ScanTakes: what is put, as one list; its reader. -/
import Derived.Test.YtmcfihpbiilbcaaScanR
namespace Go.Proofs.Ytmcfihpbiilbcaa.H
open Go.RowKit Go.Proofs.YtmcfihpbiilbcaaW.PrintWords Go.Proofs.YtmcfihpbiilbcaaW.PrintLast Go.Proofs.YtmcfihpbiilbcaaW.PrintMore Go.Proofs.Ytmcfihpbiilbcaa.F
set_option linter.unusedVariables false
set_option linter.unusedSimpArgs false
theorem app_s {ops : Array Oper} {o : Oper} {a : Act} {Q : Exit → Act → World → Prop} {Kc : Act → World → Prop} {w0 W : World} (base : Nat) (hw : Region.wanted o (yielded ops a.tmps) = true) (s x : Operand)
    (ho : o.op = .call { callee := .builtin .append, args := #[s, x], argTypes := #[22, 22] }) (v : Value) (xs ys : List Int) (A : Option Addr) (c : Nat) (hs : a.eval s = v) (hx : a.eval x = .slice A ys.length c)
    (HO : RB W base v xs) (HR : CB W A ys) (HB : Below base w0 W) (hbase : base ≤ W.heap.size) (hl : xs.length + ys.length ≤ 140737488355328)
    (h : ∀ v1 w1, RB w1 base v1 (xs ++ ys) → Below base w0 w1 → W.grownBy w1 v.ownBlock → (v1.ownBlock = v.ownBlock ∨ ∃ b, v1.ownBlock = some b ∧ W.heap.size ≤ b) → Kc (a.put o.dst v1) w1) :
    if Region.wanted o (yielded ops a.tmps) = true then Oper.wp Try.prog o a W Kc Q else Kc (a.put o.dst undef) W :=
  Kd.R_append_rows_step (Kd.int .u8) (Rr := (Kd.int .u8).K W) base hw s x 22 5 (.int .u8 0) 1 ho Try.underlying22 info5 rfl (by decide) (by decide) v xs ys A ys.length c (fun _ => True) (fun _ => False) hs hx HO HR (fun _ _ h => h) (fun _ h => h.elim) (fun _ _ => trivial) HB hbase (by omega) h
theorem mid_at (pre x post : List Int) (i n : Int) (hi : i = pre.length) (hn : n = x.length) : mid (pre ++ x ++ post) i n = x := by
  subst hi hn
  unfold mid
  rw [show ((pre.length : Int) + x.length).toNat = (pre ++ x).length by simp; omega, List.take_left, Int.toNat_natCast, List.drop_left]
theorem wordOf_four (x : Int) (h0 : 0 ≤ x) (h1 : x ≤ 4294967295) : wordOf (fourS x) = x := by
  unfold wordOf fourS
  simp only [List.getD_cons_zero, List.getD_cons_succ]
  omega
theorem wordOf_one (x : Int) : wordOf [x] = x := by
  unfold wordOf
  simp
theorem Bytes.append {a b : List Int} (ha : Bytes a) (hb : Bytes b) : Bytes (a ++ b) := fun x hx => (List.mem_append.1 hx).elim (ha x) (hb x)
theorem bytes_four (x : Int) (h0 : 0 ≤ x) (h1 : x ≤ 4294967295) : Bytes (fourS x) := by
  intro y hy
  unfold fourS at hy
  simp at hy
  omega
theorem bytes_of (s : ByteArray) : Bytes (bytesOf s) := by
  intro y hy
  unfold bytesOf at hy
  obtain ⟨b, _, rfl⟩ := List.mem_map.1 hy
  have := b.toNat_lt
  omega
theorem strOfNums_bytesOf (s : ByteArray) : strOfNums (bytesOf s) = s := by
  apply ByteArray.ext
  apply Array.ext'
  rw [strOfNums_data]
  unfold bytesOf
  rw [List.map_map]
  conv => rhs; rw [← List.map_id s.data.toList]
  apply List.map_congr_left
  intro b _
  simp
/-- What ScanTakes puts. -/
def takesL (n : Int) (s : ByteArray) (b : Nat) (m : List Int) : List Int := putS n 4 ++ ((s.size : Int) :: bytesOf s) ++ (fourS ((b : Int) % 4294967296) ++ fourS ((b : Int) / 4294967296)) ++ m
theorem putS_four (n : Int) (h0 : 0 ≤ n) (h1 : n ≤ 4294967295) : putS n 4 = fourS n := by
  unfold putS
  rw [show n % 4294967296 = n by omega]
  rfl
theorem takes_facts (n : Int) (s : ByteArray) (b : Nat) (m : List Int) (n0 : 0 ≤ n) (n1 : n ≤ 4294967295) (hs : s.size ≤ 32) (hb : b < 18446744073709551616) (hm : Bytes m) :
    ((takesL n s b m).length : Int) = 13 + s.size + m.length ∧ Bytes (takesL n s b m) ∧ wordOf (mid (takesL n s b m) 0 4) = n ∧ nameLen (takesL n s b m) 4 = s.size ∧ nameOf (takesL n s b m) 4 = s ∧ floatOf (takesL n s b m) (5 + s.size) = b ∧ mid (takesL n s b m) (13 + s.size) m.length = m := by
  obtain ⟨lo, hlo⟩ : ∃ x : Int, (b : Int) % 4294967296 = x := ⟨_, rfl⟩
  obtain ⟨hi, hhi⟩ : ∃ x : Int, (b : Int) / 4294967296 = x := ⟨_, rfl⟩
  have hlen := bytesOf_length s
  have f4 : ∀ x, (fourS x).length = 4 := fun _ => rfl
  unfold takesL
  rw [putS_four n n0 n1, hlo, hhi]
  have e1 : mid (fourS n ++ ((s.size : Int) :: bytesOf s) ++ (fourS lo ++ fourS hi) ++ m) 0 4 = fourS n := by
    have := mid_at [] (fourS n) (((s.size : Int) :: bytesOf s) ++ (fourS lo ++ fourS hi) ++ m) 0 4 rfl rfl
    simpa using this
  have e2 : mid (fourS n ++ ((s.size : Int) :: bytesOf s) ++ (fourS lo ++ fourS hi) ++ m) 4 1 = [(s.size : Int)] := by
    have := mid_at (fourS n) [(s.size : Int)] (bytesOf s ++ (fourS lo ++ fourS hi) ++ m) 4 1 rfl rfl
    simpa using this
  have e3 : mid (fourS n ++ ((s.size : Int) :: bytesOf s) ++ (fourS lo ++ fourS hi) ++ m) 5 s.size = bytesOf s := by
    have := mid_at (fourS n ++ [(s.size : Int)]) (bytesOf s) ((fourS lo ++ fourS hi) ++ m) 5 s.size rfl (by rw [hlen])
    simpa using this
  have e4 : mid (fourS n ++ ((s.size : Int) :: bytesOf s) ++ (fourS lo ++ fourS hi) ++ m) (5 + s.size) 4 = fourS lo := by
    have := mid_at (fourS n ++ ((s.size : Int) :: bytesOf s)) (fourS lo) (fourS hi ++ m) (5 + s.size) 4 (by simp [f4, hlen]; omega) rfl
    simpa using this
  have e5 : mid (fourS n ++ ((s.size : Int) :: bytesOf s) ++ (fourS lo ++ fourS hi) ++ m) (5 + s.size + 4) 4 = fourS hi := by
    have := mid_at (fourS n ++ ((s.size : Int) :: bytesOf s) ++ fourS lo) (fourS hi) m (5 + s.size + 4) 4 (by simp [f4, hlen]; omega) rfl
    simpa using this
  have e6 : mid (fourS n ++ ((s.size : Int) :: bytesOf s) ++ (fourS lo ++ fourS hi) ++ m) (13 + s.size) m.length = m := by
    have := mid_at (fourS n ++ ((s.size : Int) :: bytesOf s) ++ (fourS lo ++ fourS hi)) m [] (13 + s.size) m.length (by simp [f4, hlen]; omega) rfl
    simpa using this
  refine ⟨by simp [f4, hlen]; omega, ?_, by rw [e1]; exact wordOf_four n n0 n1, by unfold nameLen; rw [e2, wordOf_one], ?_, ?_, e6⟩
  · refine Bytes.append (Bytes.append (Bytes.append (bytes_four n n0 n1) (fun x hx => ?_)) (Bytes.append (bytes_four lo (by omega) (by omega)) (bytes_four hi (by omega) (by omega)))) hm
    rcases List.mem_cons.1 hx with rfl | hx
    · omega
    · exact bytes_of s x hx
  · unfold nameOf nameLen
    rw [e2, wordOf_one, show (4 : Int) + 1 = 5 from rfl, e3, strOfNums_bytesOf]
  · unfold floatOf
    rw [e4, e5, wordOf_four lo (by omega) (by omega), wordOf_four hi (by omega) (by omega)]
    omega
end Go.Proofs.Ytmcfihpbiilbcaa.H
