/- WeightScale's walk. -/
import Derived.Test.YtmcfihpbiilbcaaWgV
namespace Go.Proofs.Ytmcfihpbiilbcaa.H
open Go.RowKit Go.Proofs.YtmcfihpbiilbcaaW.PrintWords Go.Proofs.YtmcfihpbiilbcaaW.PrintLast Go.Proofs.YtmcfihpbiilbcaaW.PrintMore Go.Proofs.Ytmcfihpbiilbcaa.E
set_option linter.unusedVariables false
set_option linter.unusedSimpArgs false
theorem app_e2 {ops : Array Oper} {rest : List Oper} {o : Oper} {a : Act} {Q : Exit → Act → World → Prop} {w0 W : World} (base : Nat) (hgd : o.guard = none) (s x : Operand)
    (ho : o.op = .call { callee := .builtin .append, args := #[s, x], argTypes := #[69, 69] }) (v : Value) (xs ys : List Edge) (A : Option Addr) (c n : Nat) (hn : ys.length = n) (hs : a.eval s = v) (hx : a.eval x = .slice A n c)
    (HO : RE W base v xs) (HR : CE W A ys) (HB : Below base w0 W) (hbase : base ≤ W.heap.size) (hl : (xs.length + ys.length) * 40 ≤ 140737488355328)
    (h : ∀ v1 w1, RE w1 base v1 (xs ++ ys) → Below base w0 w1 → W.grownBy w1 v.ownBlock → (v1.ownBlock = v.ownBlock ∨ ∃ b, v1.ownBlock = some b ∧ W.heap.size ≤ b) → wpList Try.prog ops Q rest (a.put o.dst v1) w1) :
    wpList Try.prog ops Q (o :: rest) a W := by
  subst hn
  exact Kd.R_append_rows KE (Rr := KE.K W) base hgd s x 69 73 (.agg #[.string ⟨#[]⟩, .int .i64 0, .int .i64 0, .float .f64 0]) 40 ho Try.underlying69 info73 rfl (by decide) (by decide) v xs ys A ys.length c (fun _ => True) (fun _ => False) hs hx HO HR (fun x cs h => by obtain ⟨nm, fr, tq, f⟩ := x; rw [KE_K h]; exact KE_M) (fun _ h => h.elim) (fun _ _ => trivial) HB hbase hl h
theorem RE_none (w : World) : RE (w.alloc (.cells #[] 73)) w.heap.size (.slice (some ⟨w.heap.size, 0, none⟩) 0 0) [] :=
  ⟨fun _ _ => trivial, [], ⟨World.ownsRow_made w #[] 0 (Nat.le_refl _) (by decide) (by simp), Reps.none _ _⟩⟩
theorem KE_is (w : World) (e : Edge) : KE.K w e (eCells e) :=
  ⟨[.string e.1], [.int .i64 e.2.1, .int .i64 e.2.2.1, .float .f64 e.2.2.2], rfl, rfl, [.int .i64 e.2.1], [.int .i64 e.2.2.1, .float .f64 e.2.2.2], rfl, rfl, [.int .i64 e.2.2.1], [.float .f64 e.2.2.2], rfl, rfl, rfl⟩
theorem CE_blk {w : World} {g : Nat} {cs : Array Value} {l : List Edge} (h : w.heap[g]? = some (.cells cs 73 (0, 0))) (hl : l.length ≤ 9223372036854775807) (hcs : ∀ (j : Nat) (e : Edge), l[j]? = some e → ∀ (i : Nat) (u : Value), (eCells e)[i]? = some u → cs[j * 4 + i]? = some u) : CE w (some ⟨g, 0, none⟩) l :=
  ⟨rfl, hl, fun _ => ⟨_, rfl, fun j p hj => ⟨eCells p, rfl, KE_is w p, fun i u hu => by
    have e0 : (⟨g, 0, none⟩ : Addr).add (j * 4 + i) = ⟨g, j * 4 + i, none⟩ := by first | rw [add_plain, Nat.zero_add] | rw [add_plain]
    have := hcs j p hj i u hu
    show w.cell? ((⟨g, 0, none⟩ : Addr).add (j * 4 + i)) = some u
    rw [e0, blk_cell h]
    exact this⟩⟩⟩
theorem cells4 {e : Edge} {i : Nat} {u : Value} {cs : Array Value} {n : Nat} (h0 : cs[n]? = some (.string e.1)) (h1 : cs[n + 1]? = some (.int .i64 e.2.1)) (h2 : cs[n + 2]? = some (.int .i64 e.2.2.1)) (h3 : cs[n + 3]? = some (.float .f64 e.2.2.2)) (hu : (eCells e)[i]? = some u) : cs[n + i]? = some u := by
  match i, hu with
  | 0, hu => have e1 : Value.string e.1 = u := Option.some.inj hu; rw [← e1]; exact h0
  | 1, hu => have e1 : Value.int .i64 e.2.1 = u := Option.some.inj hu; rw [← e1]; exact h1
  | 2, hu => have e1 : Value.int .i64 e.2.2.1 = u := Option.some.inj hu; rw [← e1]; exact h2
  | 3, hu => have e1 : Value.float .f64 e.2.2.2 = u := Option.some.inj hu; rw [← e1]; exact h3
  | i + 4, hu => cases hu
def aC (x : Int) : Array Value := #[.string ⟨#[102]⟩, .int .i64 1, .int .i64 2, .float .f64 (floatOfInt .f64 x), .string ⟨#[103]⟩, .int .i64 1, .int .i64 2, .float .f64 4619567317775286272, .string ⟨#[102]⟩, .int .i64 2, .int .i64 1, .float .f64 4619567317775286272]
theorem CE_a (w : World) (x : Int) : CE (w.alloc (.cells #[.string ⟨#[102]⟩, .int .i64 1, .int .i64 2, .float .f64 (floatOfInt .f64 x), .string ⟨#[103]⟩, .int .i64 1, .int .i64 2, .float .f64 4619567317775286272, .string ⟨#[102]⟩, .int .i64 2, .int .i64 1, .float .f64 4619567317775286272] 73)) (some ⟨w.heap.size, 0, none⟩) (aE x) := by
  refine CE_blk (blk_new w _) (show (3 : Nat) ≤ _ by decide) fun j e hj i u hu => ?_
  unfold aE at hj
  match j, hj with
  | 0, hj => obtain rfl := Option.some.inj hj; exact cells4 rfl rfl rfl rfl hu
  | 1, hj => obtain rfl := Option.some.inj hj; exact cells4 rfl rfl rfl rfl hu
  | 2, hj => obtain rfl := Option.some.inj hj; exact cells4 rfl rfl rfl rfl hu
  | j + 3, hj => cases hj
theorem CE_b (w : World) (x : Int) : CE (w.alloc (.cells #[.string ⟨#[102]⟩, .int .i64 1, .int .i64 2, .float .f64 (floatOfInt .f64 x), .string ⟨#[102]⟩, .int .i64 1, .int .i64 2, .float .f64 (Op.negFloat .f64 (floatOfInt .f64 x))] 73)) (some ⟨w.heap.size, 0, none⟩) (bE x) := by
  refine CE_blk (blk_new w _) (show (2 : Nat) ≤ _ by decide) fun j e hj i u hu => ?_
  unfold bE at hj
  match j, hj with
  | 0, hj => obtain rfl := Option.some.inj hj; exact cells4 rfl rfl rfl rfl hu
  | 1, hj => obtain rfl := Option.some.inj hj; exact cells4 rfl rfl rfl rfl hu
  | j + 2, hj => cases hj
theorem byteAt {w : World} {A : Option Addr} {l : List Int} (h : CB w A l) (k : Nat) (hk : k < l.length) : ∃ ad, A = some ad ∧ w.cell? (ad.add k) = some (.int .u8 l[k]) := by
  obtain ⟨_, _, h3⟩ := h
  obtain ⟨ad, rfl, h4⟩ := h3 (by omega)
  obtain ⟨cs, hlen, hK, hc⟩ := h4 k l[k] (List.getElem?_eq_getElem hk)
  have hK' : cs = [.int .u8 l[k]] := hK
  subst hK'
  refine ⟨ad, rfl, ?_⟩
  have := hc 0 (.int .u8 l[k]) rfl
  rw [show k * (Kd.int .u8).sz + 0 = k from Nat.mul_one k] at this
  exact this
set_option maxRecDepth 100000 in
set_option maxHeartbeats 4000000 in
theorem wscale_walk (A1 A2 : Option Addr) (d1 d2 : Nat) (l m : List Int) (w : World) (hC1 : CB w A1 l) (hc1 : l.length ≤ d1) (hb1 : Bytes l) (hC2 : CB w A2 m) (hc2 : m.length ≤ d2) (hb2 : Bytes m) (n1 : ¬ (200 : Int) < (l.length : Int)) (n2 : ¬ (200 : Int) < (m.length : Int)) :
    Calls Try.prog 15 #[.slice A1 l.length d1, .slice A2 m.length d2] w fun e w' => e = .returned (.bool true) ∧ Below w.heap.size w w' := by
  obtain ⟨LA, hLA⟩ : ∃ A, A = aS l l.length := ⟨_, rfl⟩
  obtain ⟨LB, hLB⟩ : ∃ B, B = bS m m.length := ⟨_, rfl⟩
  have hF := scale_facts l m hb1 hb2 (by omega) (by omega) LA LB hLA hLB
  have HF := hid hF
  have HLA := hid hLA
  have HLB := hid hLB
  have HC := hid (And.intro hC1 hC2)
  have HY := hid (And.intro hb1 hb2)
  clear hC1 hC2 hb1 hb2 hF hLA hLB
  go_enter Try.func15, Try.ntmps15
  go_wp2_with fail
  refine (awake24_c _).mono ?_
  rintro e w1 ⟨rfl, hb⟩
  have H1 := hid hb
  clear hb
  go_wp2
  go_loopw [5, 7] (fun s5 s7 wx => ∃ (k : Nat), k ≤ l.length ∧ s7 = .int .i64 k ∧ Hid (RE wx w.heap.size s5 (aS l k) ∧ Below w.heap.size w wx)) (fun _ s7 _ => l.length - (intOf s7).toNat)
  case atStart => exact ⟨0, by omega, rfl, hid ⟨Kd.R_nil _ _ _ _ _, H1.out⟩⟩
  case round =>
    obtain ⟨k, hk, rfl, hI⟩ := hrel
    by_cases hlt : (k : Int) < (l.length : Int)
    · have hk1 : k < l.length := by omega
      obtain ⟨ld, rfl, cl⟩ := byteAt (Kd.C_below HC.out.1 hI.out.2) k hk1
      have hst := aS_step l k hk1
      have hln := aS_len l k hk
      obtain ⟨x, hx⟩ : ∃ x, x = l[k] := ⟨_, rfl⟩
      obtain ⟨T, hT⟩ : ∃ T, T = aS l k := ⟨_, rfl⟩
      rw [← hx, ← hT] at hst
      rw [← hx] at cl
      rw [← hT] at hln
      have hR := hI.out.1
      rw [← hT] at hR
      have HR := hid (And.intro hR hI.out.2)
      have HT := hid hst
      have HTL := hid hln
      have e3 : IntKind.i64.wrap ((k : Int) + 1) = (k : Int) + 1 := IntWalk.i64_in _ (by omega)
      clear hx hT hst hln hR hI
      go_wp2_with (at_builtin; refine app_e2 (w0 := w) w.heap.size rfl (.tmp 29) (.tmp 38) rfl _ T (aE x) (some ⟨wr.heap.size, 0, none⟩) 3 3 rfl rfl rfl (Kd.R_alloc HR.out.1 _) (CE_a wr x) (below_alloc HR.out.2 _) (below_alloc HR.out.2 _).size (by have h := HTL.out; show (T.length + 3) * 40 ≤ _; omega) ?_; intro v1 w1 hr hb hg hat; rw [HT.out] at hr; have H3 := hid (And.intro hr hb); clear hr hb hg hat)
      go_roundw
      case rel => exact ⟨k + 1, by omega, by go_num, H3⟩
      case measure => simp [intOf]; omega
    · have hk1 : k = l.length := by omega
      subst hk1
      obtain ⟨hRa, hB⟩ := hI.out
      rw [← HLA.out] at hRa
      obtain ⟨A5, c5, rfl, hc5, hC5⟩ := Kd.R_reads hRa
      obtain ⟨wL, hwL⟩ : ∃ W, W = wr := ⟨_, rfl⟩
      rw [← hwL] at hRa hB hC5 ⊢
      have HL := hid (And.intro hB hC5)
      clear hRa hB hC5 hI hwL
      go_wp2
      go_loopw [6, 8] (fun s6 s8 wx => ∃ (k : Nat), k ≤ m.length ∧ s8 = .int .i64 k ∧ Hid (RE wx wL.heap.size s6 (bS m k) ∧ Below wL.heap.size wL wx)) (fun _ s8 _ => m.length - (intOf s8).toNat)
      case atStart => exact ⟨0, by omega, rfl, hid ⟨Kd.R_nil _ _ _ _ _, Below.refl _ _⟩⟩
      case round =>
        obtain ⟨k, hk, rfl, hI⟩ := hrel
        have HWW := hid (below_step HL.out.1 hI.out.2)
        by_cases hlt : (k : Int) < (m.length : Int)
        · have hk1 : k < m.length := by omega
          obtain ⟨md, rfl, cm⟩ := byteAt (Kd.C_below HC.out.2 HWW.out) k hk1
          have hst := bS_step m k hk1
          have hln := bS_len m k hk
          obtain ⟨x, hx⟩ : ∃ x, x = m[k] := ⟨_, rfl⟩
          obtain ⟨T, hT⟩ : ∃ T, T = bS m k := ⟨_, rfl⟩
          rw [← hx, ← hT] at hst
          rw [← hx] at cm
          rw [← hT] at hln
          obtain ⟨hR, hB⟩ := hI.out
          rw [← hT] at hR
          have HD := hid (And.intro (Kd.R_drew hR) hB.drew)
          have HT := hid hst
          have HTL := hid hln
          have e3 : IntKind.i64.wrap ((k : Int) + 1) = (k : Int) + 1 := IntWalk.i64_in _ (by omega)
          have hng : ∀ w, (Op.unary .neg (.float .f64 (floatOfInt .f64 x))).run Try.prog w = .ok (.float .f64 (Op.negFloat .f64 (floatOfInt .f64 x))) w := fun _ => rfl
          clear hx hT hst hln hR hB hI
          go_wp2
          refine start_ (n := 17) (S := fun W => W.cell? (md.add k) = some (.int .u8 x)) (ds := [15]) #[false, false, false, false, false, false, false, false, false, false, false, false, false, false, false, false, false] (by kernel_rfl) rfl rfl cm (fun hHeld => ?_)
          refine pure_ (i := 0) (N := (some 46)) (v := ?_) (a' := ?_) #[true, false, false, false, false, false, false, false, false, false, false, false, false, false, false, false, false] rfl rfl (by kernel_rfl) (fun _ _ _ h => h) (Or.inl ⟨by rfl, ?_⟩) ?_ ?_
          rotate_left
          · intro w'
            go_simp
            with_reducible rfl
          rotate_left
          · simp only [Act.put, List.setIfInBounds_toArray, List.set_cons_zero, List.set_cons_succ, i64_w]
            rfl
          refine pure_ (i := 1) (N := (some 47)) (v := ?_) (a' := ?_) #[true, true, false, false, false, false, false, false, false, false, false, false, false, false, false, false, false] rfl rfl (by kernel_rfl) (fun _ _ _ h => h) (Or.inl ⟨by rfl, ?_⟩) ?_ ?_
          rotate_left
          · intro w'
            go_simp
            with_reducible rfl
          rotate_left
          · simp only [Act.put, List.setIfInBounds_toArray, List.set_cons_zero, List.set_cons_succ, i64_w]
            rfl
          refine pure_ (i := 2) (N := (some 48)) (v := ?_) (a' := ?_) #[true, true, true, false, false, false, false, false, false, false, false, false, false, false, false, false, false] rfl rfl (by kernel_rfl) (fun _ _ _ h => h) (Or.inl ⟨by rfl, ?_⟩) ?_ ?_
          rotate_left
          · intro w'
            go_simp
            with_reducible rfl
          rotate_left
          · simp only [Act.put, List.setIfInBounds_toArray, List.set_cons_zero, List.set_cons_succ, i64_w]
            rfl
          refine pure_ (i := 3) (N := (some 49)) (v := ?_) (a' := ?_) #[true, true, true, true, false, false, false, false, false, false, false, false, false, false, false, false, false] rfl rfl (by kernel_rfl) (fun _ _ _ h => h) (Or.inl ⟨by rfl, ?_⟩) ?_ ?_
          rotate_left
          · intro w'
            go_simp
            with_reducible rfl
          rotate_left
          · simp only [Act.put, List.setIfInBounds_toArray, List.set_cons_zero, List.set_cons_succ, i64_w]
            rfl
          refine take_ (i := 4) (N := (some 50)) (v := ?_) (a' := ?_) #[true, true, true, true, true, false, false, false, false, false, false, false, false, false, false, false, false] rfl rfl (by kernel_rfl) (fun _ _ _ h => h) (Or.inl ⟨by rfl, ?_⟩) hHeld ?_ ?_
          rotate_left
          · rintro w' s0
            go_simp
            with_reducible rfl
          rotate_left
          · simp only [Act.put, List.setIfInBounds_toArray, List.set_cons_zero, List.set_cons_succ, i64_w]
            rfl
          refine pure_ (i := 5) (N := (some 51)) (v := ?_) (a' := ?_) #[true, true, true, true, true, true, false, false, false, false, false, false, false, false, false, false, false] rfl rfl (by kernel_rfl) (fun _ _ _ h => h) (Or.inl ⟨by rfl, ?_⟩) ?_ ?_
          rotate_left
          · intro w'
            go_simp
            with_reducible rfl
          rotate_left
          · simp only [Act.put, List.setIfInBounds_toArray, List.set_cons_zero, List.set_cons_succ, i64_w]
            rfl
          refine pure_ (i := 6) (N := (some 52)) (v := ?_) (a' := ?_) #[true, true, true, true, true, true, true, false, false, false, false, false, false, false, false, false, false] rfl rfl (by kernel_rfl) (fun _ _ _ h => h) (Or.inl ⟨by rfl, ?_⟩) ?_ ?_
          rotate_left
          · intro w'
            go_simp
            with_reducible rfl
          rotate_left
          · simp only [Act.put, List.setIfInBounds_toArray, List.set_cons_zero, List.set_cons_succ, i64_w]
            rfl
          refine pure_ (i := 7) (N := (some 53)) (v := ?_) (a' := ?_) #[true, true, true, true, true, true, true, true, false, false, false, false, false, false, false, false, false] rfl rfl (by kernel_rfl) (fun _ _ _ h => h) (Or.inl ⟨by rfl, ?_⟩) ?_ ?_
          rotate_left
          · intro w'
            go_simp
            with_reducible rfl
          rotate_left
          · simp only [Act.put, List.setIfInBounds_toArray, List.set_cons_zero, List.set_cons_succ, i64_w]
            rfl
          refine pure_ (i := 8) (N := (some 54)) (v := ?_) (a' := ?_) #[true, true, true, true, true, true, true, true, true, false, false, false, false, false, false, false, false] rfl rfl (by kernel_rfl) (fun _ _ _ h => h) (Or.inl ⟨by rfl, ?_⟩) ?_ ?_
          rotate_left
          · intro w'
            go_simp
            with_reducible rfl
          rotate_left
          · simp only [Act.put, List.setIfInBounds_toArray, List.set_cons_zero, List.set_cons_succ, i64_w]
            rfl
          refine pure_ (i := 9) (N := (some 55)) (v := ?_) (a' := ?_) #[true, true, true, true, true, true, true, true, true, true, false, false, false, false, false, false, false] rfl rfl (by kernel_rfl) (fun _ _ _ h => h) (Or.inl ⟨by rfl, ?_⟩) ?_ ?_
          rotate_left
          · intro w'
            go_simp
            with_reducible rfl
          rotate_left
          · simp only [Act.put, List.setIfInBounds_toArray, List.set_cons_zero, List.set_cons_succ, i64_w]
            rfl
          refine take_ (i := 10) (N := (some 56)) (v := ?_) (a' := ?_) #[true, true, true, true, true, true, true, true, true, true, true, false, false, false, false, false, false] rfl rfl (by kernel_rfl) (fun _ _ _ h => h) (Or.inl ⟨by rfl, ?_⟩) hHeld ?_ ?_
          rotate_left
          · rintro w' s0
            go_simp
            with_reducible rfl
          rotate_left
          · simp only [Act.put, List.setIfInBounds_toArray, List.set_cons_zero, List.set_cons_succ, i64_w]
            rfl
          refine pure_ (i := 11) (N := (some 57)) (v := ?_) (a' := ?_) #[true, true, true, true, true, true, true, true, true, true, true, true, false, false, false, false, false] rfl rfl (by kernel_rfl) (fun _ _ _ h => h) (Or.inl ⟨by rfl, ?_⟩) ?_ ?_
          rotate_left
          · intro w'
            go_simp
            with_reducible rfl
          rotate_left
          · simp only [Act.put, List.setIfInBounds_toArray, List.set_cons_zero, List.set_cons_succ, i64_w]
            rfl
          refine pure_ (i := 12) (N := (some 58)) (v := ?_) (a' := ?_) #[true, true, true, true, true, true, true, true, true, true, true, true, true, false, false, false, false] rfl rfl (by kernel_rfl) (fun _ _ _ h => h) (Or.inl ⟨by rfl, ?_⟩) ?_ ?_
          rotate_left
          · intro w'
            go_simp
            with_reducible rfl
          rotate_left
          · simp only [Act.put, List.setIfInBounds_toArray, List.set_cons_zero, List.set_cons_succ, i64_w]
            rfl
          refine pure_ (i := 13) (N := (some 59)) (v := ?_) (a' := ?_) #[true, true, true, true, true, true, true, true, true, true, true, true, true, true, false, false, false] rfl rfl (by kernel_rfl) (fun _ _ _ h => h) (Or.inl ⟨by rfl, ?_⟩) ?_ ?_
          rotate_left
          · intro w'
            go_simp
            with_reducible rfl
          rotate_left
          · simp only [Act.put, List.setIfInBounds_toArray, List.set_cons_zero, List.set_cons_succ, i64_w]
            rfl
          refine one_ (i := 14) (N := (some 60)) #[true, true, true, true, true, true, true, true, true, true, true, true, true, true, true, false, false] rfl rfl (by kernel_rfl) (by decide) (fun K hK => ?_)
          go_simp
          have HD14 := hid (And.intro (Kd.R_alloc HD.out.1 (.cells #[.string ⟨#[102]⟩, .int .i64 1, .int .i64 2, .float .f64 (floatOfInt .f64 x), .string ⟨#[102]⟩, .int .i64 1, .int .i64 2, .float .f64 (Op.negFloat .f64 (floatOfInt .f64 x))] 73)) (And.intro (below_alloc HD.out.2 (.cells #[.string ⟨#[102]⟩, .int .i64 1, .int .i64 2, .float .f64 (floatOfInt .f64 x), .string ⟨#[102]⟩, .int .i64 1, .int .i64 2, .float .f64 (Op.negFloat .f64 (floatOfInt .f64 x))] 73)) (CE_b wr.drew x)))
          clear HD
          refine hK.out _ _ (((below_alloc (Below.refl _ _) _).cell (World.block_lt_of_cell? _ _ hHeld)).trans hHeld) (fun hHeld => ?_)
          clear hK K
          refine last_ (i := 15) (N := (some 61)) #[true, true, true, true, true, true, true, true, true, true, true, true, true, true, true, true, false] rfl rfl (by kernel_rfl) (by decide) (fun K hK => ?_)
          refine Kd.R_append_rows_step KE (Rr := KE.K _) (w0 := wL) wL.heap.size (by rfl) (.tmp 46) (.tmp 60) 69 73 (.agg #[.string ⟨#[]⟩, .int .i64 0, .int .i64 0, .float .f64 0]) 40 (by rfl) Try.underlying69 info73 rfl (by decide) (by decide) u6 T (bE x) (some ⟨wr.heap.size, 0, none⟩) 2 2 (fun _ => True) (fun _ => False) (by rfl) (by rfl) HD14.out.1 HD14.out.2.2 (fun x cs h => by obtain ⟨nm, fr, tq, f⟩ := x; rw [KE_K h]; exact KE_M) (fun _ h => h.elim) (fun _ _ => trivial) HD14.out.2.1 HD14.out.2.1.size (by have := HTL.out; omega) ?_
          intro v7 w7 hr hb hg hat
          rw [HT.out] at hr
          have HW7 := hid (And.intro hr hb)
          clear hr hb hg hat
          refine hK.out _ _ ?_
          clear hK K
          refine norm_ (a' := ?_) ?_ ?_
          rotate_left
          · show Act.put _ (some 61) _ = _
            simp only [Act.put, List.setIfInBounds_toArray, List.set_cons_zero, List.set_cons_succ, i64_w]
            rfl
          refine pure_ (i := 16) (N := (some 6)) (v := ?_) (a' := ?_) #[true, true, true, true, true, true, true, true, true, true, true, true, true, true, true, true, true] rfl rfl (by kernel_rfl) (fun _ _ _ h => h) (Or.inl ⟨by rfl, ?_⟩) ?_ ?_
          rotate_left
          · intro w'
            go_simp
            with_reducible rfl
          rotate_left
          · simp only [Act.put, List.setIfInBounds_toArray, List.set_cons_zero, List.set_cons_succ, i64_w]
            rfl
          refine done_ (by kernel_rfl) ?_
          go_wp2
          go_roundw
          case rel => exact ⟨k + 1, by omega, by go_num, HW7⟩
          case measure => simp [intOf]; omega
        · have hk1 : k = m.length := by omega
          subst hk1
          obtain ⟨hRb, hB⟩ := hI.out
          rw [← HLB.out] at hRb
          obtain ⟨A6, c6, rfl, hc6, hC6⟩ := Kd.R_reads hRb
          have H2 := hid (And.intro HWW.out (And.intro (Kd.C_below HL.out.2 hB) hC6))
          have hl1 := HF.out.1
          have hl2 := HF.out.2.1
          clear hRb hB hC6 hI HWW
          go_wp2_with (at_builtin; first | (refine app_e2 (w0 := wr) wr.heap.size rfl (.tmp 62) (.tmp 63) rfl _ [] LA A5 c5 LA.length rfl rfl rfl (RE_none wr) (Kd.C_alloc H2.out.2.1 _) (below_alloc (Below.refl _ _) _) (by simp) (by simp only [List.length_nil]; omega) ?_; intro v9 w9 hr hb hg hat; rw [List.nil_append] at hr; have H9 := hid (And.intro hr hb); clear hr hb hg hat) | (refine app_e2 (w0 := wr) wr.heap.size rfl (.tmp 64) (.tmp 65) rfl v9 LA LB A6 c6 LB.length rfl rfl rfl H9.out.1 (Kd.C_below H2.out.2.2 H9.out.2) H9.out.2 H9.out.2.size (by omega) ?_; intro v10 w10 hr hb hg hat; have H10 := hid (And.intro hr hb); clear hr hb hg hat))
          obtain ⟨LC, hLC⟩ : ∃ C, C = LA ++ LB := ⟨_, rfl⟩
          have hcl : LC.length ≤ 1000 := by rw [hLC, List.length_append]; omega
          obtain ⟨hR, hB⟩ := H10.out
          rw [← hLC] at hR
          have hF := HF.out
          rw [← hLC] at hF
          obtain ⟨f1, f2, f3, s, f4, f5, f6⟩ := hF
          have g1 : ∀ e ∈ LA, e.2.2.2 < 18446744073709551616 := fun e he => f3 e (by rw [hLC]; exact List.mem_append_left _ he)
          have g2 : ∀ e ∈ LB, e.2.2.2 < 18446744073709551616 := fun e he => f3 e (by rw [hLC]; exact List.mem_append_right _ he)
          have HLC := hid hLC
          have HG := hid (And.intro f3 (And.intro g1 g2))
          obtain ⟨A10, c10, rfl, hc10, hC10⟩ := Kd.R_reads hR
          have H11 := hid (And.intro (below_step H2.out.1 hB) (And.intro (Kd.C_below H2.out.2.1 hB) (And.intro (Kd.C_below H2.out.2.2 hB) hC10)))
          obtain ⟨ua, hua⟩ : ∃ u, u = ofS ⟨#[102]⟩ 1 2 LA := ⟨_, rfl⟩
          obtain ⟨ub, hub⟩ : ∃ u, u = ofS ⟨#[102]⟩ 1 2 LB := ⟨_, rfl⟩
          obtain ⟨uc, huc⟩ : ∃ u, u = ofS ⟨#[102]⟩ 1 2 LC := ⟨_, rfl⟩
          obtain ⟨tc, htc⟩ : ∃ u, u = totS ⟨#[103]⟩ LC := ⟨_, rfl⟩
          rw [← hua, ← hub] at f4
          rw [← huc] at f5
          rw [← htc] at f6
          have HU := hid (And.intro hua (And.intro hub (And.intro huc htc)))
          have bin1 : ∀ w, (binOp .add 50 (.float .f64 ua) (.float .f64 ub)).run Try.prog w = .ok (.float .f64 s) w := fun w => run_float_arith w .add 50 .f64 _ _ _ f4
          have em : IntKind.i64.wrap (7 * (l.length : Int)) = 7 * (l.length : Int) := IntWalk.i64_in _ (by omega)
          have z0 : (FloatKind.f64.format.order 0 0 == some .eq) = true := by decide +kernel
          clear hua hub huc htc f1 f2 f3 f4 g1 g2 hLC hR hB hC10 H9 H10 H2 HF HLA HLB
          go_wp2_with fail
          refine (of_c A10 c10 LC ⟨#[102]⟩ 1 2 _ H11.out.2.2.2 hc10 (by omega) HG.out.1).mono ?_
          rintro e w12 ⟨rfl, hb⟩
          rw [← HU.out.2.2.1]
          have H12 := hid (And.intro (below_step H11.out.1 hb) (And.intro (Kd.C_below H11.out.2.1 hb) (And.intro (Kd.C_below H11.out.2.2.1 hb) (Kd.C_below H11.out.2.2.2 hb))))
          clear hb H11
          go_wp2_with fail
          refine (of_c A5 c5 LA ⟨#[102]⟩ 1 2 _ H12.out.2.1 hc5 (by omega) HG.out.2.1).mono ?_
          rintro e w13 ⟨rfl, hb⟩
          rw [← HU.out.1]
          have H13 := hid (And.intro (below_step H12.out.1 hb) (And.intro (Kd.C_below H12.out.2.2.1 hb) (Kd.C_below H12.out.2.2.2 hb)))
          clear hb H12
          go_wp2_with fail
          refine (of_c A6 c6 LB ⟨#[102]⟩ 1 2 _ H13.out.2.1 hc6 (by omega) HG.out.2.2).mono ?_
          rintro e w14 ⟨rfl, hb⟩
          rw [← HU.out.2.1]
          have H14 := hid (And.intro (below_step H13.out.1 hb) (Kd.C_below H13.out.2.2 hb))
          clear hb H13
          go_wp2_with fail
          refine (total_c A10 c10 LC ⟨#[103]⟩ _ H14.out.2 hc10 (by omega) HG.out.1).mono ?_
          rintro e w15 ⟨rfl, hb⟩
          rw [← HU.out.2.2.2]
          have H15 := hid (below_step H14.out.1 hb)
          clear hb H14
          go_wp2_with fail
          refine (total_c none 0 [] ⟨#[102]⟩ _ (Kd.C_nil _ _) (Nat.le_refl _) (by decide) (fun e he => by cases he)).mono ?_
          rintro e w16 ⟨rfl, hb⟩
          rw [show totS ⟨#[102]⟩ [] = 0 from rfl]
          have H16 := hid (below_step H15.out hb)
          clear hb H15
          go_wp2
          go_ret
          exact ⟨rfl, H16.out⟩
theorem wscale_c (A1 A2 : Option Addr) (d1 d2 : Nat) (l m : List Int) (w : World) (hC1 : CB w A1 l) (hc1 : l.length ≤ d1) (hb1 : Bytes l) (hC2 : CB w A2 m) (hc2 : m.length ≤ d2) (hb2 : Bytes m) :
    Calls Try.prog 15 #[.slice A1 l.length d1, .slice A2 m.length d2] w fun e w' => e = .returned (.bool true) ∧ Below w.heap.size w w' := by
  by_cases n1 : (200 : Int) < (l.length : Int)
  · clear hC1 hC2 hb1 hb2
    go_enter Try.func15, Try.ntmps15
    go_wp2_with fail
    refine (awake24_c _).mono ?_
    rintro e w1 ⟨rfl, hb⟩
    have H1 := hid hb
    clear hb
    go_wp2_with fail
    refine (awake24_c _).mono ?_
    rintro e w2 ⟨rfl, hb⟩
    have H2 := hid (below_step H1.out hb)
    clear hb
    go_wp2
    go_ret
    exact ⟨rfl, H2.out⟩
  by_cases n2 : (200 : Int) < (m.length : Int)
  · clear hC1 hC2 hb1 hb2
    go_enter Try.func15, Try.ntmps15
    go_wp2_with fail
    refine (awake24_c _).mono ?_
    rintro e w1 ⟨rfl, hb⟩
    have H1 := hid hb
    clear hb
    go_wp2_with fail
    refine (awake24_c _).mono ?_
    rintro e w2 ⟨rfl, hb⟩
    have H2 := hid (below_step H1.out hb)
    clear hb
    go_wp2
    go_ret
    exact ⟨rfl, H2.out⟩
  exact wscale_walk A1 A2 d1 d2 l m w hC1 hc1 hb1 hC2 hc2 hb2 n1 n2
end Go.Proofs.Ytmcfihpbiilbcaa.H
