/- awake of layer 24. -/
import Derived.Test.YtmcfihpbiilbcaaWgG
namespace Go.Proofs.Ytmcfihpbiilbcaa.H
open Go.RowKit Go.Proofs.YtmcfihpbiilbcaaW.PrintWords Go.Proofs.YtmcfihpbiilbcaaW.PrintLast Go.Proofs.YtmcfihpbiilbcaaW.PrintMore Go.Proofs.Ytmcfihpbiilbcaa.E
set_option linter.unusedVariables false
set_option linter.unusedSimpArgs false
theorem inf_c (w : World) : Calls Try.prog 95 #[.int .i64 (-1)] w fun e w' => e = .returned (.float .f64 18442240474082181120) ∧ w' = w := by
  have fr := frombits_run 18442240474082181120
  go_enter Try.func95, Try.ntmps95
  go_wp2
  go_ret
  exact ⟨rfl, rfl⟩
def L0 : List Edge := [(⟨#[102]⟩, 1, 2, 4613937818241073152)]
theorem CE_new (w : World) : CE (w.alloc (.cells #[.string ⟨#[102]⟩, .int .i64 1, .int .i64 2, .float .f64 4613937818241073152] 73)) (some ⟨w.heap.size, 0, none⟩) L0 :=
  ⟨rfl, by decide, fun _ => ⟨_, rfl, fun j p hj => by
    match j, hj with
    | 0, hj =>
      simp [L0] at hj
      subst hj
      refine ⟨eCells (⟨#[102]⟩, 1, 2, 4613937818241073152), rfl, ⟨[.string ⟨#[102]⟩], [.int .i64 1, .int .i64 2, .float .f64 4613937818241073152], rfl, rfl, [.int .i64 1], [.int .i64 2, .float .f64 4613937818241073152], rfl, rfl, [.int .i64 2], [.float .f64 4613937818241073152], rfl, rfl, rfl⟩, fun i u hu => ?_⟩
      rw [Nat.zero_mul, Nat.zero_add, add_plain]
      have h := blk_new w (.cells #[.string ⟨#[102]⟩, .int .i64 1, .int .i64 2, .float .f64 4613937818241073152] 73)
      rw [blk_cell h i]
      simpa [eCells] using hu
    | j + 1, hj => simp [L0] at hj⟩⟩
theorem edge0 {w : World} {A : Option Addr} {l : List Edge} {e : Edge} (h : CE w A l) (hl : l = [e]) : ∃ ad, A = some ad ∧ w.cell? ad = some (.string e.1) ∧ w.cell? ⟨ad.block, ad.off + 1, none⟩ = some (.int .i64 e.2.1) ∧ w.cell? ⟨ad.block, ad.off + 2, none⟩ = some (.int .i64 e.2.2.1) ∧ w.cell? ⟨ad.block, ad.off + 3, none⟩ = some (.float .f64 e.2.2.2) := by
  subst hl
  obtain ⟨ad, rfl, c0, c1, c2, c3⟩ := edge_cells h 0 (by simp)
  have e0 : ad.add (0 * 4) = ad := by rw [Nat.zero_mul]; rfl
  rw [e0] at c0 c1 c2 c3
  exact ⟨ad, rfl, c0, c1, c2, c3⟩
theorem eqf (w : World) : (Op.equalIn 9999 50 (.float .f64 4613937818241073152) (.float .f64 4613937818241073152)).run Try.prog w = .ok true w := by
  have o3 : Op.floatEq .f64 4613937818241073152 4613937818241073152 = true := by decide +kernel
  unfold Op.equalIn
  simp [run_underlying Try.underlying50, o3]
theorem w0_ (A : Option Addr) (c : Nat) (w : World) (hC : CE w A L0) (hc : 1 ≤ c) : Calls Try.prog 58 #[.slice A 1 c] w fun e w' => ∃ A1 c1, e = .returned (.tuple #[.slice A1 20 c1, .int .i64 0]) ∧ 20 ≤ c1 ∧ CB w' A1 (profS L0) ∧ Below w.heap.size w w' := by
  have z0 : wB L0 = true := by decide +kernel
  have z1 : (profS L0).length = 20 := by decide +kernel
  have z6 : ∀ e ∈ L0, e.2.2.2 < 18446744073709551616 ∧ e.1.size ≤ 140737488351232 := by intro e he; simp [L0] at he; subst he; exact ⟨by decide, by decide⟩
  refine (wwrite_c A c L0 w hC hc z6).mono ?_
  rintro e w1 ⟨⟨_, v1, rfl, hR⟩ | ⟨h, _⟩, hb⟩
  · obtain ⟨A1, c1, rfl, hc1, hC1⟩ := Kd.R_reads hR
    rw [z1] at hc1 ⊢
    exact ⟨A1, c1, rfl, hc1, hC1, hb⟩
  · rw [z0] at h
    cases h
theorem z2_ : ∀ e ∈ L0, eB e = true ∧ e.2.2.2 < 18446744073709551616 := by intro e he; simp [L0] at he; subst he; exact ⟨by decide +kernel, by decide⟩
theorem r0_ (A : Option Addr) (c : Nat) (w : World) (hC : CB w A (profS L0)) (hc : 20 ≤ c) : Calls Try.prog 61 #[.slice A 20 c] w fun e w' => ∃ A1 c1, e = .returned (.tuple #[.slice A1 1 c1, .int .i64 0]) ∧ 1 ≤ c1 ∧ CE w' A1 L0 ∧ Below w.heap.size w w' := by
  have z1 : (profS L0).length = 20 := by decide +kernel
  have h := wread_ok A c (profS L0) L0 w rfl hC (by rw [z1]; exact hc) z2_ (by decide)
  rw [z1] at h
  refine h.mono ?_
  rintro e w2 ⟨v2, rfl, hR, hb⟩
  obtain ⟨A2, c2, rfl, hc2, hC2⟩ := Kd.R_reads hR
  exact ⟨A2, c2, rfl, hc2, hC2, hb⟩
theorem o0_ (A : Option Addr) (c : Nat) (w : World) (hC : CE w A L0) (hc : 1 ≤ c) : Calls Try.prog 63 #[.slice A 1 c, .string ⟨#[102]⟩, .int .i64 1, .int .i64 2] w fun e w' => e = .returned (.float .f64 4613937818241073152) ∧ Below w.heap.size w w' := by
  have z4 : ofS ⟨#[102]⟩ 1 2 L0 = 4613937818241073152 := by decide +kernel
  have h := of_c A c L0 ⟨#[102]⟩ 1 2 w hC hc (by decide) (fun e he => (z2_ e he).2)
  rw [z4] at h
  exact h
theorem t0_ (A : Option Addr) (c : Nat) (w : World) (hC : CE w A L0) (hc : 1 ≤ c) : Calls Try.prog 64 #[.slice A 1 c, .string ⟨#[103]⟩] w fun e w' => e = .returned (.float .f64 0) ∧ Below w.heap.size w w' := by
  have z5 : totS ⟨#[103]⟩ L0 = 0 := by decide +kernel
  have h := total_c A c L0 ⟨#[103]⟩ w hC hc (by decide) (fun e he => (z2_ e he).2)
  rw [z5] at h
  exact h
theorem k0_ (w : World) : Calls Try.prog 65 #[.float .f64 18442240474082181120] w fun e w' => e = .returned (.float .f64 0) ∧ w' = w := by
  have z3 : cleanF 18442240474082181120 = 0 := by decide +kernel
  have h := clean_c 18442240474082181120 w
  rw [z3] at h
  exact h
theorem n0_ (w : World) : Calls Try.prog 61 #[.slice (some ⟨w.heap.size, 0, none⟩) 4 4] (w.alloc (.cells #[.int .u8 83, .int .u8 80, .int .u8 80, .int .u8 50] 5 (4, 5))) fun e w' => e = .returned (.tuple #[.slice none 0 0, .int .i64 4]) ∧ Below (w.heap.size + 1) (w.alloc (.cells #[.int .u8 83, .int .u8 80, .int .u8 80, .int .u8 50] 5 (4, 5))) w' := by
  have h := wread_no (some ⟨w.heap.size, 0, none⟩) 4 [83, 80, 80, 50] (w.alloc (.cells #[.int .u8 83, .int .u8 80, .int .u8 80, .int .u8 50] 5 (4, 5))) (const_4 (blk_new w _)) (by decide) (by intro x hx; simp at hx; omega) (by decide) (by decide) (by decide)
  simpa using h
theorem awake_facts : ∃ (L : List Edge) (b : List Int), (∀ w : World, CE (w.alloc (.cells #[.string ⟨#[102]⟩, .int .i64 1, .int .i64 2, .float .f64 4613937818241073152] 73)) (some ⟨w.heap.size, 0, none⟩) L) ∧
    (∀ (A : Option Addr) (w : World), CE w A L → ∃ ad, A = some ad ∧ w.cell? ad = some (.string ⟨#[102]⟩) ∧ w.cell? ⟨ad.block, ad.off + 1, none⟩ = some (.int .i64 1) ∧ w.cell? ⟨ad.block, ad.off + 2, none⟩ = some (.int .i64 2) ∧ w.cell? ⟨ad.block, ad.off + 3, none⟩ = some (.float .f64 4613937818241073152)) ∧
    (∀ (A : Option Addr) (c : Nat) (w : World), CE w A L → 1 ≤ c → Calls Try.prog 58 #[.slice A 1 c] w fun e w' => ∃ A1 c1, e = .returned (.tuple #[.slice A1 20 c1, .int .i64 0]) ∧ 20 ≤ c1 ∧ CB w' A1 b ∧ Below w.heap.size w w') ∧
    (∀ (A : Option Addr) (c : Nat) (w : World), CB w A b → 20 ≤ c → Calls Try.prog 61 #[.slice A 20 c] w fun e w' => ∃ A1 c1, e = .returned (.tuple #[.slice A1 1 c1, .int .i64 0]) ∧ 1 ≤ c1 ∧ CE w' A1 L ∧ Below w.heap.size w w') ∧
    (∀ (A : Option Addr) (c : Nat) (w : World), CE w A L → 1 ≤ c → Calls Try.prog 63 #[.slice A 1 c, .string ⟨#[102]⟩, .int .i64 1, .int .i64 2] w fun e w' => e = .returned (.float .f64 4613937818241073152) ∧ Below w.heap.size w w') ∧
    (∀ (A : Option Addr) (c : Nat) (w : World), CE w A L → 1 ≤ c → Calls Try.prog 64 #[.slice A 1 c, .string ⟨#[103]⟩] w fun e w' => e = .returned (.float .f64 0) ∧ Below w.heap.size w w') :=
  ⟨L0, profS L0, CE_new, fun A w h => edge0 h rfl, w0_, r0_, o0_, t0_⟩
set_option maxRecDepth 100000 in
set_option maxHeartbeats 1000000 in
theorem awake24_c (w : World) : Calls Try.prog 57 #[] w fun e w' => e = .returned (.bool true) ∧ Below w.heap.size w w' := by
  obtain ⟨L, b, hnew, hed, hw, hr, ho, ht⟩ := awake_facts
  have HN := hid hnew
  have HE := hid hed
  have HW := hid hw
  have HR := hid hr
  have HO := hid ho
  have HT := hid ht
  clear hnew hed hw hr ho ht
  have o1 : FloatKind.f64.format.order 4613937818241073152 4613937818241073152 = some .eq := by decide +kernel
  have o2 : FloatKind.f64.format.order 0 0 = some .eq := by decide +kernel
  have hq := eqf
  go_enter Try.func57, Try.ntmps57
  go_wp2_with fail
  refine (HW.out (some ⟨w.heap.size, 0, none⟩) 1 _ (HN.out w) (by decide)).mono ?_
  rintro e w1 ⟨A1, c1, rfl, hc1, hC1, hb⟩
  have H1 := hid (And.intro hC1 (below_step (below_alloc (Below.refl _ _) _) hb))
  clear hb hC1
  go_wp2_with fail
  refine (HR.out A1 c1 w1 H1.out.1 hc1).mono ?_
  rintro e w2 ⟨A2, c2, rfl, hc2, hC2, hb⟩
  have H2 := hid (And.intro hC2 (below_step H1.out.2 hb))
  have kc := const_at w2 w2.heap.size rfl
  clear hb hC2 H1
  go_wp2_with fail
  refine (n0_ w2).mono ?_
  clear kc
  rintro e w3 ⟨rfl, hb⟩
  have hb' : Below (w2.alloc (.cells #[.int .u8 83, .int .u8 80, .int .u8 80, .int .u8 50] 5 (4, 5))).heap.size (w2.alloc (.cells #[.int .u8 83, .int .u8 80, .int .u8 80, .int .u8 50] 5 (4, 5))) w3 := by simpa using hb
  have hB3 := below_step (below_alloc H2.out.2 (.cells #[.int .u8 83, .int .u8 80, .int .u8 80, .int .u8 50] 5 (4, 5))) hb'
  have hC3 := Kd.C_below (Kd.C_alloc H2.out.1 (.cells #[.int .u8 83, .int .u8 80, .int .u8 80, .int .u8 50] 5 (4, 5))) hb'
  obtain ⟨ad, rfl, k0, k1, k2, k3⟩ := HE.out _ _ hC3
  have H3 := hid (And.intro hC3 hB3)
  clear hB3 hC3 hb hb' H2
  go_wp2_with fail
  refine (inf_c _).mono ?_
  rintro e w4 ⟨rfl, rfl⟩
  go_wp2_with fail
  refine (k0_ _).mono ?_
  rintro e w5 ⟨rfl, rfl⟩
  go_wp2_with fail
  refine (HO.out (some ad) c2 w5 H3.out.1 hc2).mono ?_
  rintro e w6 ⟨rfl, hb⟩
  have H6 := hid (And.intro (Kd.C_below H3.out.1 hb) (below_step H3.out.2 hb))
  clear hb H3 k0 k1 k2 k3
  go_wp2_with fail
  refine (HT.out (some ad) c2 w6 H6.out.1 hc2).mono ?_
  rintro e w7 ⟨rfl, hb⟩
  have H7 := hid (below_step H6.out.2 hb)
  clear hb H6
  go_wp2
  go_ret
  exact ⟨rfl, H7.out⟩
end Go.Proofs.Ytmcfihpbiilbcaa.H
