/- slices.Grow, slices.Concat at bytes; append that must grow. -/
import Derived.Test.YtmcfihpbiilbcaaS1
import Derived.Lib.SlBytesConst
namespace Go.Proofs.Ytmcfihpbiilbcaa.H
open Go.RowKit Go.Proofs.YtmcfihpbiilbcaaW.PrintWords Go.Proofs.YtmcfihpbiilbcaaW.PrintLast Go.Proofs.YtmcfihpbiilbcaaW.PrintMore Go.Proofs.Ytmcfihpbiilbcaa.E
set_option linter.unusedVariables false
set_option linter.unusedSimpArgs false
/-- What a row of bytes that is read has in its cells. -/
theorem CB_cells {W : World} {ad : Addr} {ys : List Int} (h : CB W (some ad) ys) (hy : 0 < ys.length) : ∀ j u, (encs (Value.int .u8) ys)[j]? = some u → W.cell? (ad.add j) = some u := by
  intro j u hj
  have hjl : j < ys.length := by
    rcases Nat.lt_or_ge j ys.length with h | h
    · exact h
    · rw [List.getElem?_eq_none (by rw [encs_length]; exact h)] at hj; cases hj
  have hr : ReadsOf (Value.int .u8) 0 W (some ad) ys.length ys := Kd.reads_of_C (h1 := fun _ => rfl) h
  obtain ⟨ad', e, hc⟩ := hr.2.2 hy
  injection e with e
  subst e
  rw [hc j hjl]
  simp [encs, List.getElem?_eq_getElem hjl] at hj
  subst hj
  simp [List.getD_eq_getElem?_getD, List.getElem?_eq_getElem hjl]
theorem one_encs (ys : List Int) : ∀ u ∈ encs (Value.int .u8) ys, u.oneCell' = true := by
  intro u hu
  simp only [encs, List.mem_map] at hu
  obtain ⟨q, _, rfl⟩ := hu
  rfl
set_option maxRecDepth 100000 in
theorem grow_c {ops : Array Oper} {rest : List Oper} {o : Oper} {a : Act} {Q : Exit → Act → World → Prop} {W : World} (hgd : o.guard = none) (s x : Operand)
    (ho : o.op = .call { callee := .builtin .append, args := #[s, x], argTypes := #[22, 22] }) (ad1 ad2 : Addr) (xs ys : List Int) (c2 : Nat) (hs : a.eval s = .slice (some ad1) xs.length xs.length) (hx : a.eval x = .slice (some ad2) ys.length c2)
    (HX : CB W (some ad1) xs) (HY : CB W (some ad2) ys) (hx0 : 0 < xs.length) (hy : 0 < ys.length) (hl : xs.length + ys.length ≤ 140737488355328)
    (h : ∀ v1 w1, RB w1 W.heap.size v1 (xs ++ ys) → Below W.heap.size W w1 → wpList Try.prog ops Q rest (a.put o.dst v1) w1) :
    wpList Try.prog ops Q (o :: rest) a W := by
  obtain ⟨i5, hi5, hz5, hs5, hb5⟩ := info_parts info5
  refine wpList_append_grows W hgd s x 22 ho 5 i5 (.int .u8 0) 1 1 Try.underlying22 hi5 hz5 hs5 hb5 rfl (by decide) (some ad1) xs.length xs.length (encs (Value.int .u8) xs) hs (fun h => by cases h) (by rw [encs_length, Nat.mul_one]) (fun b hb j u hj => by injection hb with hb; subst hb; exact CB_cells HX hx0 j u hj)
    ad2 ys.length c2 (encs (Value.int .u8) ys) hx (by rw [encs_length, Nat.mul_one]) (CB_cells HY hy) (one_encs ys) (by omega) (Nat.le_trans hl (by decide)) (by omega) ?_
  intro v1 w1 hown hg
  refine h v1 w1 (Kd.R_of_own (by rw [List.length_append]; simpa [encs] using hown) (fun _ _ => trivial)) ((Below.refl _ _).grown hg (Nat.le_refl _) (fun k h => by cases h))
theorem C_some {W : World} {A : Option Addr} {l : List Int} (h : CB W A l) (hl : 0 < l.length) : ∃ ad, A = some ad := by
  obtain ⟨ad, e, _⟩ := h.2.2 hl
  exact ⟨ad, e⟩
set_option maxRecDepth 100000 in
theorem grownil_c (n : Int) (h0 : 0 ≤ n) (h1 : n ≤ 140737488351232) (w : World) :
    Calls Try.prog 130 #[.slice none 0 0, .int .i64 n] w fun e w' => ∃ v, e = .returned v ∧ RB w' w.heap.size v [] ∧ Below w.heap.size w w' := by
  have e0 : IntKind.i64.wrap n = n := IntWalk.i64_in _ (by omega)
  by_cases hn : 0 < n
  · obtain ⟨i5, hi5, hz5, hs5, hb5⟩ := info_parts info5
    go_enter Try.func130, Try.ntmps130
    go_wp2_with (at_builtin; refine Kd.R_append_zeros (Kd.int .u8) (w0 := w) w.heap.size rfl (.tmp 20) (.tmp 21) 22 3 5 (.int .u8 0) 1 rfl Try.underlying22 Try.underlying3 info5 rfl (by decide) (by decide) (.slice none 0 0) [] 0 n (fun _ => True) rfl rfl rfl (fun _ _ => trivial) (Kd.R_nil _ _ _ _ _) h0 (Below.refl _ _) (Nat.le_refl _) (by simp; omega) ?_; intro v1 w1 hr hb hg hat; rw [List.nil_append] at hr; obtain ⟨A1, c1, e1, hc1, _⟩ := Kd.R_reads hr; rw [List.length_replicate] at e1 hc1; subst e1; have hcut := cut_to 22 5 .i64 Try.underlying22 hi5 A1 n.toNat c1 0 (by omega) (by omega) hc1; have HR := hid (And.intro hr hb); clear hr hb hg hat)
    go_ret
    refine ⟨_, rfl, ?_, HR.out.2⟩
    have := Kd.R_take (m := 0) HR.out.1 (Nat.zero_le _)
    simpa using this
  · obtain rfl : n = 0 := by omega
    go_enter Try.func130, Try.ntmps130
    go_wp2
    go_ret
    exact ⟨_, rfl, Kd.R_nil _ _ _ _ _, Below.refl _ _⟩
/-- A row of byte slices that is read. -/
abbrev LS : Kd (List (List Int)) := Kd.slice 22 (Kd.slice 5 (Kd.int .u8))
abbrev CL (w : World) (A : Option Addr) (ls : List (List Int)) : Prop := Kd.C (Kd.slice 5 (Kd.int .u8)) w A ls.length ls
theorem flat_step (ls : List (List Int)) (k : Nat) (h : k < ls.length) : (ls.take (k + 1)).flatten = (ls.take k).flatten ++ ls[k] := by
  rw [List.take_add_one, List.flatten_append, List.getElem?_eq_getElem h]
  simp
theorem flat_le (ls : List (List Int)) (k : Nat) : (ls.take k).flatten.length ≤ ls.flatten.length := by
  conv => rhs; rw [← List.take_append_drop k ls, List.flatten_append, List.length_append]
  omega
theorem CL_at {w : World} {A : Option Addr} {ls : List (List Int)} (h : CL w A ls) (k : Nat) (hk : k < ls.length) : ∃ ad A' c', A = some ad ∧ w.cell? (ad.add k) = some (.slice A' ls[k].length c') ∧ ls[k].length ≤ c' ∧ CB w A' ls[k] := by
  obtain ⟨ad, c, e, hl, hK, hcell⟩ := Kd.C_get h [] (k : Int) (by omega) (by omega)
  obtain ⟨A', c', rfl, h1, h2⟩ := hK
  have e2 : ls.getD (k : Int).toNat [] = ls[k] := by rw [Int.toNat_natCast, List.getD_eq_getElem?_getD, List.getElem?_eq_getElem hk]; rfl
  rw [e2] at hcell h1 h2
  refine ⟨ad, A', c', e, ?_, h1, h2⟩
  have := hcell 0 _ rfl
  rw [Int.toNat_natCast] at this
  simpa [Kd.slice] using this
def psum (ls : List (List Int)) (k : Nat) : Int := ((ls.take k).flatten.length : Int)
theorem psum_step (ls : List (List Int)) (k : Nat) (h : k < ls.length) : psum ls (k + 1) = psum ls k + (ls[k].length : Int) := by
  unfold psum
  rw [flat_step ls k h, List.length_append]
  omega
theorem psum_bd (ls : List (List Int)) (k : Nat) : 0 ≤ psum ls k ∧ psum ls k ≤ ls.flatten.length := by
  unfold psum
  have := flat_le ls k
  omega
theorem psum_all (ls : List (List Int)) : psum ls ls.length = ls.flatten.length := by
  unfold psum
  rw [List.take_length]
set_option maxRecDepth 100000 in
theorem concat_c (A : Option Addr) (c : Nat) (ls : List (List Int)) (w : World) (hC : CL w A ls) (hc : ls.length ≤ c) (hn : ls.length ≤ 1000000) (hl : ls.flatten.length ≤ 140737488351232) :
    Calls Try.prog 89 #[.slice A ls.length c] w fun e w' => ∃ v, e = .returned v ∧ RB w' w.heap.size v ls.flatten ∧ Below w.heap.size w w' := by
  have HC := hid hC
  clear hC
  go_enter Try.func89, Try.ntmps89
  go_wp2
  go_loop [3, 11] (fun s3 s11 => ∃ k : Nat, k ≤ ls.length ∧ s11 = .int .i64 k ∧ s3 = .int .i64 (psum ls k)) (fun _ s11 => ls.length - (intOf s11).toNat)
  case atStart => exact ⟨0, by omega, rfl, by simp [psum]⟩
  case round =>
    obtain ⟨k, hk, rfl, rfl⟩ := hrel
    by_cases hlt : (k : Int) < (ls.length : Int)
    · have hk1 : k < ls.length := by omega
      obtain ⟨ad, A', c', rfl, hcell, _, _⟩ := CL_at HC.out k hk1
      have hst := psum_step ls k hk1
      have hle := psum_bd ls (k + 1)
      have hle0 := psum_bd ls k
      have e1 : IntKind.i64.wrap (psum ls k + (ls[k].length : Int)) = psum ls (k + 1) := by rw [← hst]; exact IntWalk.i64_in _ (by omega)
      have e2 : ¬ (psum ls (k + 1) < 0) := by omega
      have e3 : IntKind.i64.wrap ((k : Int) + 1) = (k : Int) + 1 := IntWalk.i64_in _ (by omega)
      have e4 : wrap64 (psum ls k + (ls[k].length : Int)) = psum ls (k + 1) := by rw [wrap64_id (by omega) (by omega)]; exact hst.symm
      clear hst hle hle0
      go_wp2
      go_round
      case rel => exact ⟨k + 1, by omega, by go_num, rfl⟩
      case measure => simp [intOf]; omega
    · have hk1 : k = ls.length := by omega
      subst hk1
      have hps := psum_all ls
      have hb0 := psum_bd ls ls.length
      obtain ⟨s, hs⟩ : ∃ s, s = psum ls ls.length := ⟨_, rfl⟩
      rw [← hs] at hps hb0 ⊢
      have HS := hid hps
      clear hps hs
      go_wp2_with fail
      refine (grownil_c s hb0.1 (by have := HS.out; omega) _).mono ?_
      rintro e w1 ⟨v, rfl, hR, hb⟩
      have H1 := hid (And.intro hR hb)
      clear hR hb hb0
      go_wp2
      go_loopw [6, 27] (fun s6 s27 wx => ∃ (k : Nat), k ≤ ls.length ∧ s27 = .int .i64 k ∧ Hid (RB wx w.heap.size s6 (ls.take k).flatten ∧ Below w.heap.size w wx)) (fun _ s27 _ => ls.length - (intOf s27).toNat)
      case atStart => exact ⟨0, by omega, rfl, hid ⟨by simpa using H1.out.1, H1.out.2⟩⟩
      case round =>
        obtain ⟨k, hk, rfl, hI⟩ := hrel
        obtain ⟨A6, c6, rfl, hc6, _⟩ := Kd.R_reads hI.out.1
        by_cases hlt : (k : Int) < (ls.length : Int)
        · have hk1 : k < ls.length := by omega
          obtain ⟨ad, A', c', rfl, hcell0, hc', hCk⟩ := CL_at HC.out k hk1
          have hcell : wr.cell? (ad.add k) = some (.slice A' ls[k].length c') := pw_cell_below hI.out.2 hcell0
          have hst := psum_step ls k hk1
          have hle := psum_bd ls (k + 1)
          have e3 : IntKind.i64.wrap ((k : Int) + 1) = (k : Int) + 1 := IntWalk.i64_in _ (by omega)
          have hbd : (ls.take k).flatten.length + ls[k].length ≤ 140737488355328 := by unfold psum at hst hle; omega
          have hCk' := hid (Kd.C_below hCk hI.out.2)
          have hfl := hid (flat_step ls k hk1)
          clear hst hle hCk hcell0
          go_wp2_with (at_builtin; refine app_c (w0 := w) w.heap.size rfl (.tmp 31) (.tmp 32) rfl _ (ls.take k).flatten ls[k] A' c' rfl rfl hI.out.1 hCk'.out hI.out.2 hI.out.2.size hbd ?_; intro v1 w2 hr hb hg hat; rw [← hfl.out] at hr; have H2 := hid (And.intro hr hb); clear hr hb hg hat)
          go_roundw
          case rel => exact ⟨k + 1, by omega, by go_num, H2⟩
          case measure => simp [intOf]; omega
        · have hk1 : k = ls.length := by omega
          subst hk1
          go_wp2
          go_ret
          have h1 := hI.out.1
          rw [List.take_length] at h1
          exact ⟨.slice A6 ls.flatten.length c6, by rw [List.length_flatten]; rfl, h1, hI.out.2⟩
end Go.Proofs.Ytmcfihpbiilbcaa.H
