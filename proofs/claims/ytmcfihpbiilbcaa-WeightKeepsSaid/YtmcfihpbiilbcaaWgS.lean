/- WeightKeeps' walk. -/
import Derived.Test.YtmcfihpbiilbcaaWgO
namespace Go.Proofs.Ytmcfihpbiilbcaa.H
open Go.RowKit Go.Proofs.YtmcfihpbiilbcaaW.PrintWords Go.Proofs.YtmcfihpbiilbcaaW.PrintLast Go.Proofs.YtmcfihpbiilbcaaW.PrintMore Go.Proofs.Ytmcfihpbiilbcaa.E
set_option linter.unusedVariables false
set_option linter.unusedSimpArgs false
theorem app_e {ops : Array Oper} {rest : List Oper} {o : Oper} {a : Act} {Q : Exit → Act → World → Prop} {w0 W : World} (base : Nat) (hgd : o.guard = none) (s x : Operand)
    (ho : o.op = .call { callee := .builtin .append, args := #[s, x], argTypes := #[69, 69] }) (v : Value) (xs ys : List Edge) (A : Option Addr) (c : Nat) (hs : a.eval s = v) (hx : a.eval x = .slice A ys.length c)
    (HO : RE W base v xs) (HR : CE W A ys) (HB : Below base w0 W) (hbase : base ≤ W.heap.size) (hl : (xs.length + ys.length) * 40 ≤ 140737488355328)
    (h : ∀ v1 w1, RE w1 base v1 (xs ++ ys) → Below base w0 w1 → W.grownBy w1 v.ownBlock → (v1.ownBlock = v.ownBlock ∨ ∃ b, v1.ownBlock = some b ∧ W.heap.size ≤ b) → wpList Try.prog ops Q rest (a.put o.dst v1) w1) :
    wpList Try.prog ops Q (o :: rest) a W :=
  Kd.R_append_rows KE (Rr := KE.K W) base hgd s x 69 73 (.agg #[.string ⟨#[]⟩, .int .i64 0, .int .i64 0, .float .f64 0]) 40 ho Try.underlying69 info73 rfl (by decide) (by decide) v xs ys A ys.length c (fun _ => True) (fun _ => False) hs hx HO HR (fun x cs h => by obtain ⟨nm, fr, tq, f⟩ := x; rw [KE_K h]; exact KE_M) (fun _ h => h.elim) (fun _ _ => trivial) HB hbase hl h
theorem RE_empty (w : World) : RE (w.alloc (.cells #[] 73)) w.heap.size (.slice (some ⟨w.heap.size, 0, none⟩) 0 0) [] :=
  ⟨fun _ _ => trivial, [], ⟨World.ownsRow_made w #[] 0 (Nat.le_refl _) (by decide) (by simp), Reps.none _ _⟩⟩
/-- A row that stands above another's block is kept by what turns in it. -/
theorem R_over {α : Type} {k : Kd α} {t : Nat} {w wx : World} {b0 : Nat} {v : Value} {xs : List α} {row : Option Nat} (h : k.R t w b0 (fun _ => True) v xs) (hg : w.grownBy wx row) (hlt : ∀ j, row = some j → j < b0) : k.R t wx b0 (fun _ => True) v xs := by
  refine Kd.R_mono (Kd.R_step (Kd.R_bound h) (fun j hj hjl => hg.block j hjl (fun e => ?_))) (fun _ _ => trivial)
  have := hlt j e.symm
  have := hj.2.1
  omega
theorem keeps_facts {l : List Edge} (h : wB l = true) : ∃ (Q : List Int), Q = profS l ∧ (Q.length : Int) ≤ 100000 ∧ l.length ≤ 2000 ∧ ∀ e ∈ l, eB e = true := by
  have h2 : l.length ≤ 2000 ∧ ∀ e ∈ l, eB e = true := by
    unfold wB at h
    simpa only [Bool.and_eq_true, List.all_eq_true, decide_eq_true_eq] using h
  have hlen := pS_len l h2.2 l.length (Nat.le_refl _)
  refine ⟨profS l, rfl, ?_, h2⟩
  unfold profS
  omega
set_option maxRecDepth 100000 in
set_option maxHeartbeats 2000000 in
theorem wkeeps_no (A : Option Addr) (c : Nat) (l : List Edge) (w : World) (hC : CE w A l) (hc : l.length ≤ c) (hl : ∀ e ∈ l, e.2.2.2 < 18446744073709551616 ∧ e.1.size ≤ 140737488351232)
    (n1 : ¬ (300 : Int) < (l.length : Int)) (hw : wB l = false) :
    Calls Try.prog 14 #[.slice A l.length c] w fun e w' => e = .returned (.bool true) ∧ Below w.heap.size w w' := by
  have HC := hid hC
  have HL := hid hl
  have HW := hid hw
  clear hC hl hw
  go_enter Try.func14, Try.ntmps14
  go_wp2_with fail
  refine (awake24_c _).mono ?_
  rintro e w1 ⟨rfl, hb⟩
  have H1 := hid hb
  clear hb
  go_wp2_with (at_builtin; refine app_e (w0 := w1) w1.heap.size rfl (.tmp 19) (.tmp 20) rfl _ [] l A c rfl rfl (RE_empty w1) (Kd.C_alloc (Kd.C_below HC.out H1.out) _) (below_alloc (Below.refl _ _) _) (by simp) (by simp only [List.length_nil]; omega) ?_; intro v3 w3 hr hb hg hat; rw [List.nil_append] at hr; obtain ⟨A3, c3, rfl, hc3, hC3⟩ := Kd.R_reads hr; have H3 := hid (And.intro (below_step H1.out hb) hC3); clear hr hb hg hat hC3)
  refine (wwrite_c A c l w3 (Kd.C_below HC.out H3.out.1) hc HL.out).mono ?_
  rintro e w4 ⟨hp_, hb⟩
  have hp2 : e = .returned (.tuple #[.slice none 0 0, .int .i64 4]) := by
    rcases hp_ with ⟨h1, _⟩ | ⟨_, h1⟩
    · rw [HW.out] at h1
      cases h1
    · exact h1
  subst hp2
  have H4 := hid (And.intro (below_step H3.out.1 hb) (Kd.C_below H3.out.2 hb))
  clear hp_ hb H1 H3
  go_wp2_with fail
  refine (same62_c A A3 c c3 l w4 (Kd.C_below HC.out H4.out.1) hc H4.out.2 hc3 (by omega)).mono ?_
  rintro e w5 ⟨rfl, ⟨nd, rfl⟩⟩
  have H5 := hid (pw_below_drewN H4.out.1 nd)
  go_wp2
  go_ret
  exact ⟨rfl, H5.out⟩
set_option maxRecDepth 100000 in
set_option maxHeartbeats 2000000 in
theorem wkeeps_yes (A : Option Addr) (c : Nat) (l : List Edge) (w : World) (hC : CE w A l) (hc : l.length ≤ c) (hl : ∀ e ∈ l, e.2.2.2 < 18446744073709551616 ∧ e.1.size ≤ 140737488351232)
    (n1 : ¬ (300 : Int) < (l.length : Int)) (hw : wB l = true) :
    Calls Try.prog 14 #[.slice A l.length c] w fun e w' => e = .returned (.bool true) ∧ Below w.heap.size w w' := by
  obtain ⟨Q, hQ, q1, q2⟩ := keeps_facts hw
  have HC := hid hC
  have HL := hid hl
  have HW := hid hw
  have HQ := hid hQ
  have HE := hid q2
  clear hC hl hw hQ q2
  go_enter Try.func14, Try.ntmps14
  go_wp2_with fail
  refine (awake24_c _).mono ?_
  rintro e w1 ⟨rfl, hb⟩
  have H1 := hid hb
  clear hb
  go_wp2_with (at_builtin; refine app_e (w0 := w1) w1.heap.size rfl (.tmp 19) (.tmp 20) rfl _ [] l A c rfl rfl (RE_empty w1) (Kd.C_alloc (Kd.C_below HC.out H1.out) _) (below_alloc (Below.refl _ _) _) (by simp) (by simp only [List.length_nil]; omega) ?_; intro v3 w3 hr hb hg hat; rw [List.nil_append] at hr; obtain ⟨A3, c3, rfl, hc3, hC3⟩ := Kd.R_reads hr; have H3 := hid (And.intro (below_step H1.out hb) hC3); clear hr hb hg hat hC3)
  refine (wwrite_c A c l w3 (Kd.C_below HC.out H3.out.1) hc HL.out).mono ?_
  rintro e w4 ⟨hp_, hb⟩
  have hp2 : ∃ v4, e = .returned (.tuple #[v4, .int .i64 0]) ∧ RB w4 w3.heap.size v4 Q := by
    rcases hp_ with ⟨_, v9, rfl, hR⟩ | ⟨h1, _⟩
    · rw [← HQ.out] at hR
      exact ⟨v9, rfl, hR⟩
    · rw [HW.out] at h1
      cases h1
  obtain ⟨v4, rfl, hR⟩ := hp2
  obtain ⟨A4, c4, rfl, hc4, hC4⟩ := Kd.R_reads hR
  have hg4 := Kd.R_lt hR
  have H4 := hid (And.intro H3.out.1 (And.intro H3.out.2 (And.intro hb (And.intro hR hC4))))
  have HG := hid hg4
  clear hp_ hb H1 H3 hR hC4 hg4
  go_wp2_with fail
  refine (wread_ok A4 c4 Q l w4 HQ.out H4.out.2.2.2.2 hc4 (fun e he => ⟨HE.out.2 e he, (HL.out e he).1⟩) HE.out.1).mono ?_
  rintro e w5 ⟨v6, rfl, hR6, hb⟩
  obtain ⟨A6, c6, rfl, hc6, hC6⟩ := Kd.R_reads hR6
  have hs34 := H4.out.2.2.1.size
  have H5 := hid (And.intro H4.out.1 (And.intro H4.out.2.1 (And.intro (H4.out.2.2.1.trans (hb.mono hs34)) (And.intro (Kd.R_below H4.out.2.2.2.1 hb) hR6))))
  clear hb hR6 hC6 H4
  go_wp2
  go_loopw [8] (fun s8 wx => ∃ (k : Nat) (ys : List Int), k ≤ Q.length ∧ s8 = .int .i64 k ∧ Hid (ys.length = Q.length ∧ RB wx w3.heap.size (.slice A4 Q.length c4) ys ∧ w5.grownBy wx (Value.slice A4 Q.length c4).ownBlock)) (fun s8 _ => Q.length - (intOf s8).toNat)
  case atStart => exact ⟨0, Q, by omega, rfl, hid ⟨rfl, H5.out.2.2.2.1, World.grownBy.refl _ _⟩⟩
  case round =>
    obtain ⟨k, ys, hk, rfl, hI⟩ := hrel
    by_cases hlt : (k : Int) < (Q.length : Int)
    · have ho := Kd.own_of_R hI.out.2.1
      rw [hI.out.1] at ho
      obtain ⟨g, cap, he, hgb, hgl⟩ := ho.form (by omega)
      obtain ⟨rfl, rfl⟩ : A4 = some ⟨g, 0, none⟩ ∧ c4 = cap := by injection he with h1 h2 h3; exact ⟨h1, h3⟩
      obtain ⟨q1, q2⟩ := own_at ho k (by omega) (by exact_mod_cast hlt)
      rw [Int.toNat_natCast] at q1 q2
      have HO := hid ho
      have hw1 : IntKind.i64.wrap ((k : Int) + 1) = (k : Int) + 1 := IntWalk.i64_in _ (by omega)
      clear ho he
      go_wp2
      go_roundw
      case rel =>
        obtain ⟨s1, s2⟩ := own_store HO.out (k : Int) (bits BinOp.xor IntKind.u8 (rd ys k) 255)
        exact ⟨k + 1, ys.set k (bits BinOp.xor IntKind.u8 (rd ys k) 255), by omega, by go_num, hid ⟨by rw [List.length_set]; exact hI.out.1, Kd.R_of_own (by rw [List.length_set, hI.out.1]; exact s1) (fun _ _ => trivial), hI.out.2.2.trans s2⟩⟩
      case measure => simp [intOf]; omega
    · have hg := hI.out.2.2
      have hB3 : Below w3.heap.size w3 wr := H5.out.2.2.1.grown hg (by have := H5.out.2.2.1.size; omega) (fun j hj => Kd.R_base hI.out.2.1 j hj)
      have hB : Below w.heap.size w wr := below_step H5.out.1 hB3
      have u6 := R_over H5.out.2.2.2.2 hg (fun j hj => HG.out j hj)
      have HR := hid (And.intro hB (And.intro (Kd.C_below H5.out.2.1 hB3) (Kd.R_reads' u6).2.2))
      clear hg hB hB3 u6 hI H5 HG
      go_wp2_with fail
      refine (wwrite_c A c l wr (Kd.C_below HC.out HR.out.1) hc HL.out).mono ?_
      rintro e w7 ⟨hp_, hb⟩
      have hp2 : ∃ A9 c9, e = .returned (.tuple #[.slice A9 Q.length c9, .int .i64 0]) := by
        rcases hp_ with ⟨_, v9, rfl, hR⟩ | ⟨h1, _⟩
        · rw [← HQ.out] at hR
          obtain ⟨A9, c9, rfl, h3, h4⟩ := Kd.R_reads hR
          exact ⟨A9, c9, rfl⟩
        · rw [HW.out] at h1
          cases h1
      obtain ⟨A9, c9, rfl⟩ := hp2
      have H7 := hid (And.intro (below_step HR.out.1 hb) (And.intro (Kd.C_below HR.out.2.1 hb) (Kd.C_below HR.out.2.2 hb)))
      clear hp_ hb HR HQ
      go_wp2_with fail
      refine (same62_c A6 A c6 c l w7 H7.out.2.2 hc6 (Kd.C_below HC.out H7.out.1) hc (by omega)).mono ?_
      rintro e w8 ⟨rfl, ⟨nd, rfl⟩⟩
      have H8 := hid (And.intro (pw_below_drewN H7.out.1 nd) (Kd.C_below H7.out.2.1 (pw_below_drewN (Below.refl _ _) nd)))
      clear H7
      go_wp2_with fail
      refine (same62_c A A3 c c3 l _ (Kd.C_below HC.out H8.out.1) hc H8.out.2 hc3 (by omega)).mono ?_
      rintro e w9 ⟨rfl, ⟨nd2, rfl⟩⟩
      have H9 := hid (pw_below_drewN H8.out.1 nd2)
      go_wp2
      go_ret
      exact ⟨rfl, by simpa using H9.out⟩
theorem wkeeps_c (A : Option Addr) (c : Nat) (l : List Edge) (w : World) (hC : CE w A l) (hc : l.length ≤ c) (hl : ∀ e ∈ l, e.2.2.2 < 18446744073709551616 ∧ e.1.size ≤ 140737488351232) :
    Calls Try.prog 14 #[.slice A l.length c] w fun e w' => e = .returned (.bool true) ∧ Below w.heap.size w w' := by
  by_cases n1 : (300 : Int) < (l.length : Int)
  · clear hC hl
    go_enter Try.func14, Try.ntmps14
    go_wp2_with fail
    refine (awake24_c _).mono ?_
    rintro e w1 ⟨rfl, hb⟩
    have H1 := hid hb
    clear hb
    go_wp2_with fail
    refine (awake24_c _).mono ?_
    rintro e w2 ⟨rfl, hb⟩
    have H2 := hid (below_step H1.out hb)
    clear hb
    go_wp2
    go_ret
    exact ⟨rfl, H2.out⟩
  cases hw : wB l
  · exact wkeeps_no A c l w hC hc hl n1 hw
  · exact wkeeps_yes A c l w hC hc hl n1 hw
end Go.Proofs.Ytmcfihpbiilbcaa.H
