-- functions and contracts of this seat, written by the kit's print program for several roots at once; not the print of a statement
import Derived.Test.YtkolcgnembaghaaQx0
import Derived.Test.YtkolcgnembaghaaQx2
import Derived.Test.YtkolcgnembaghaaQx7
namespace Go.Proofs.Ytkolcgnembaghaa.Q
open Go.RowKit Go.Proofs.YtkolcgnembaghaaW.PrintWords Go.Proofs.YtkolcgnembaghaaW.PrintLast Go.Proofs.YtkolcgnembaghaaW.PrintMore
attribute [local go_sem] max2_int min2_int max_two min_two max_three min_three max_four min_four   -- for this text's walks alone
set_option linter.unusedVariables false
set_option linter.unusedSimpArgs false

/-! ### splicelaw04_AluKeeps: function 17 -/
def splicelaw04_AluKeeps.l0 : Nat → Int → Int → List (S51) → List (S51) → Int → Option (Bool)
  | 0, _, _, _, _, _ => none
  | k + 1, x0, x1, x5, x6, x7 => if x7 < (x5.length : Int) then (if 0 ≤ x7 then (if x6.length < 3518437208883 then (splicelaw04_AluKeeps.l0 k x0 x1 (x5.set (x7 : Int).toNat (⟨99, (rd_T51 x5 x7).f1, (rd_T51 x5 x7).f2, (rd_T51 x5 x7).f3, (rd_T51 x5 x7).f4⟩ : S51)) (x6 ++ [(⟨(rd_T51 x5 x7).f0, (rd_T51 x5 x7).f1, (rd_T51 x5 x7).f2, (rd_T51 x5 x7).f3, (rd_T51 x5 x7).f4⟩ : S51)]) (wrap64 (x7 + 1))) else (none)) else (none)) else ((splicelaw04_awake.f k).bind fun t233 => (if t233 = true then ((alu_Const.f k x0 x1).bind fun t234 => ((spliceref02_Same.f k t234 x6).bind fun t237 => (some t237))) else (some false)))
def splicelaw04_AluKeeps.f (k : Nat) (a0 : Int) (a1 : Int) : Option (Bool) := (alu_Const.f k a0 a1).bind fun t225 => (splicelaw04_AluKeeps.l0 k a0 a1 t225 ([] : List (S51)) 0)
theorem splicelaw04_AluKeeps.mono_l : ∀ k, (∀ y0 y1 y2 y3 y4, LeO (splicelaw04_AluKeeps.l0 k y0 y1 y2 y3 y4) (splicelaw04_AluKeeps.l0 (k + 1) y0 y1 y2 y3 y4))
  | 0 => fun _ _ _ _ _ r h => by simp [splicelaw04_AluKeeps.l0] at h
  | k + 1 => by
    have ih0 := splicelaw04_AluKeeps.mono_l k
    · intro y0 y1 y2 y3 y4
      unfold splicelaw04_AluKeeps.l0
      repeat' first
      | (with_reducible exact ih0 _ _ _ _ _)
      | (with_reducible exact alu_Const.mono _ _ _)
      | (with_reducible exact splicelaw04_awake.mono _)
      | (with_reducible exact spliceref02_Same.mono _ _ _)
      | (with_reducible exact LeO.refl _)
      | (with_reducible exact LeO.none _)
      | (with_reducible refine LeO.ite ?_ ?_)
      | (with_reducible refine LeO.bind ?_ (fun _ => ?_))
      | exact ih0 _ _ _ _ _
      | exact alu_Const.mono _ _ _
      | exact splicelaw04_awake.mono _
      | exact spliceref02_Same.mono _ _ _
      | exact LeO.none _
      | refine LeO.ite ?_ ?_
      | refine LeO.bind ?_ (fun _ => ?_)
theorem splicelaw04_AluKeeps.mono : ∀ a0 a1 k, LeO (splicelaw04_AluKeeps.f k a0 a1) (splicelaw04_AluKeeps.f (k + 1) a0 a1) := by
  intro a0 a1 k
  have ih0 := splicelaw04_AluKeeps.mono_l k
  unfold splicelaw04_AluKeeps.f
  repeat' first
      | (with_reducible exact ih0 _ _ _ _ _)
      | (with_reducible exact alu_Const.mono _ _ _)
      | (with_reducible exact splicelaw04_awake.mono _)
      | (with_reducible exact spliceref02_Same.mono _ _ _)
      | (with_reducible exact LeO.refl _)
      | (with_reducible exact LeO.none _)
      | (with_reducible refine LeO.ite ?_ ?_)
      | (with_reducible refine LeO.bind ?_ (fun _ => ?_))
      | exact ih0 _ _ _ _ _
      | exact alu_Const.mono _ _ _
      | exact splicelaw04_awake.mono _
      | exact spliceref02_Same.mono _ _ _
      | exact LeO.none _
      | refine LeO.ite ?_ ?_
      | refine LeO.bind ?_ (fun _ => ?_)
set_option maxHeartbeats 8000000 in
set_option maxRecDepth 100000 in
theorem splicelaw04_AluKeeps.calls (k : Nat) (a0 : Int) (a1 : Int) (r : Bool) (w : World) (h : splicelaw04_AluKeeps.f k a0 a1 = some r) :
    Calls Try.prog 17 #[.int .i64 a0, .int .u32 a1] w fun e w' => e = .returned (.bool r) ∧ Below w.heap.size w w' := by
  have hu51 := Try.underlying51
  have HB := Aside0.mk (Below.refl w.heap.size w)
  have H : ((alu_Const.f k a0 a1).bind fun t225 => (splicelaw04_AluKeeps.l0 k a0 a1 t225 ([] : List (S51)) 0)) = some r := h
  clear h
  replace H := Option.bind_eq_some_iff.mp H
  obtain ⟨t225, A30, H⟩ := H
  replace H : (splicelaw04_AluKeeps.l0 k a0 a1 t225 ([] : List (S51)) 0) = some r := H
  have A3 := Aside0.mk A30
  clear A30
  have H' := Aside0.mk H
  clear H
  go_enter Try.func17, Try.ntmps17
  go_wp2_with (first | ((with_reducible refine gate_callee (f := 45) rfl ?_); refine goesL_ (some 10) rfl rfl Try.func45 (by kernel_rfl) rfl #[.int .i64 a0, .int .u32 a1] rfl (by (try simp only [List.map_toArray, List.map_cons, List.map_nil]); first | done | rfl | (simp only [List.length_drop, List.length_take]; rfl)) ?_; (with_reducible refine (alu_Const.calls k a0 a1 t225 _ A3.out).mono ?_); rintro e w4 ⟨v226, rfl, ho0, hb⟩; refine ⟨_, rfl, ?_⟩; have n0_ := Aside0.mk (Kd.R_lower ho0 (below_size (by repeat (first | (with_reducible first | exact HB.out | apply below_alloc | apply pw_below_drewN | apply below_drew1) | exact HB.out)))); have n1_ := Aside0.mk (below_step (by repeat (first | (with_reducible first | exact HB.out | apply below_alloc | apply pw_below_drewN | apply below_drew1) | exact HB.out)) hb); clear HB; have HO227 := n0_; have HB := n1_; clear n0_ n1_; (try clear hb); (try clear hb2); (try clear hk); (try clear hi); (try clear ho0)))
  go_loopg [6, 7] k (fun kq v6 v7 w' => ∃ (x5_1 : List (S51)) (x6_1 : List (S51)) (x7_1 : Int), v7 = .int .i64 x7_1 ∧ Aside0 (splicelaw04_AluKeeps.l0 kq a0 a1 x5_1 x6_1 x7_1 = some r) ∧ Aside0 (kq ≤ k) ∧ Aside0 (Kd.R k51 51 w' w.heap.size (fun k_ => some k_ ≠ (v6 : Value).ownBlock) v226 x5_1) ∧ Aside0 (Kd.R k51 51 w' w.heap.size (fun k_ => some k_ ≠ (v226 : Value).ownBlock) v6 x6_1) ∧ Aside0 (Below w.heap.size w w'))
  case atStart => exact ⟨(t225), (([] : List (S51))), (0), (by first | rfl | (simp; done) | (simp [*]; done)), H', ⟨Nat.le_refl _⟩, ⟨by (with_reducible repeat (first | apply Kd.R_alloc | apply Kd.R_drewN | apply Kd.R_drew)); exact Kd.R_mono HO227.out (fun _ hk => (by simp [Value.ownBlock]))⟩, ⟨by first | exact Kd.R_nil _ _ _ _ _ | exact Kd.N_nil _ _ _ _ _ | exact Kd.V_nil _ _ _ _ _ | exact Kd.Q_nil _ _ _ _ _ | exact Kd.S_nil _ _ _ _ _⟩, ⟨by repeat (first | (with_reducible first | exact HB.out | apply below_alloc | apply pw_below_drewN | apply below_drew1) | exact HB.out)⟩⟩
  case round =>
    clear H'
    try clear c1
    try clear p2
    try clear c4
    obtain ⟨x5_1, x6_1, x7_1, rfl, HA, HK1, HO_5, HO_6, HB⟩ := hrel
    cases gk with
    | zero => exact absurd HA.out (by simp [splicelaw04_AluKeeps.l0])
    | succ k1 =>
      have H := HA.out
      clear HA
      simp only [splicelaw04_AluKeeps.l0] at H
      by_cases c5 : x7_1 < (x5_1.length : Int)
      · rw [if_pos c5] at H
        have c5b0 : decide (x7_1 < (x5_1.length : Int)) = true := decide_eq_true c5
        clear c5
        by_cases c6 : 0 ≤ x7_1
        · rw [if_pos c6] at H
          have c6b0 : decide (0 ≤ x7_1) = true := decide_eq_true c6
          clear c6
          by_cases c7 : x6_1.length < 3518437208883
          · rw [if_pos c7] at H
            have LMc7 := Aside0.mk c7
            clear c7
            obtain ⟨y229, hy229⟩ : ∃ y_ : List (S51), y_ = (x6_1 ++ [(⟨(rd_T51 x5_1 x7_1).f0, (rd_T51 x5_1 x7_1).f1, (rd_T51 x5_1 x7_1).f2, (rd_T51 x5_1 x7_1).f3, (rd_T51 x5_1 x7_1).f4⟩ : S51)]) := ⟨_, rfl⟩
            replace H : (splicelaw04_AluKeeps.l0 k1 a0 a1 (x5_1.set (x7_1 : Int).toNat (⟨99, (rd_T51 x5_1 x7_1).f1, (rd_T51 x5_1 x7_1).f2, (rd_T51 x5_1 x7_1).f3, (rd_T51 x5_1 x7_1).f4⟩ : S51)) y229 (wrap64 (x7_1 + 1))) = some r := by first | (rw [hy229]; with_reducible exact H) | (have H2_ := (Option.bind_some _ _).symm.trans H; rw [hy229]; with_reducible exact H2_) | (have H2_ := (Option.bind_some _ _).symm.trans H; with_reducible exact H2_) | with_reducible exact H | (rw [hy229]; exact H) | exact H
            have Ny229 := Aside0.mk hy229
            clear hy229
            obtain ⟨y232, hy232⟩ : ∃ y_ : List (S51), y_ = (x5_1.set (x7_1 : Int).toNat (⟨99, (rd_T51 x5_1 x7_1).f1, (rd_T51 x5_1 x7_1).f2, (rd_T51 x5_1 x7_1).f3, (rd_T51 x5_1 x7_1).f4⟩ : S51)) := ⟨_, rfl⟩
            replace H : (splicelaw04_AluKeeps.l0 k1 a0 a1 y232 y229 (wrap64 (x7_1 + 1))) = some r := by first | (rw [hy232]; with_reducible exact H) | (have H2_ := (Option.bind_some _ _).symm.trans H; rw [hy232]; with_reducible exact H2_) | (have H2_ := (Option.bind_some _ _).symm.trans H; with_reducible exact H2_) | with_reducible exact H | (rw [hy232]; exact H) | exact H
            have Ny232 := Aside0.mk hy232
            clear hy232
            have H' := Aside0.mk H
            clear H
            obtain ⟨Ao9, co9, eo9⟩ := Kd.R_slice HO_5.out
            subst eo9
            have p228 : 0 ≤ (x7_1 : Int) := of_decide_eq_true (by first | (with_reducible assumption) | assumption)
            have q228 : x7_1 < (x5_1.length : Int) := of_decide_eq_true (by first | (with_reducible assumption) | assumption)
            obtain ⟨ad228, e228, hx228_0, hx228_1, hx228_2, hx228_3, hx228_4⟩ := at_T51 (Kd.R_reads' HO_5.out).2.2 x7_1 p228 q228
            cases e228
            replace p228 := eq_true p228
            replace q228 := eq_true q228
            go_wp2_with (first | ((with_reducible refine gate_builtin (b := .append) (xs := #[.tmp 17, .tmp 22]) rfl ?_); at_builtin; refine Kd.R_append k51 (w0 := w) w.heap.size rfl (.tmp 17) (.tmp 22) 57 51 (.agg #[(.int .i64 0), (.int .i64 0), (.int .i64 0), (.int .i64 0), (.int .i64 0)]) 40 rfl Try.underlying57 info51 rfl (by decide) (by omega) u6 x6_1 (⟨(rd_T51 x5_1 x7_1).f0, (rd_T51 x5_1 x7_1).f1, (rd_T51 x5_1 x7_1).f2, (rd_T51 x5_1 x7_1).f3, (rd_T51 x5_1 x7_1).f4⟩ : S51) [.int .i64 ((rd_T51 x5_1 x7_1).f0), .int .i64 ((rd_T51 x5_1 x7_1).f1), .int .i64 ((rd_T51 x5_1 x7_1).f2), .int .i64 ((rd_T51 x5_1 x7_1).f3), .int .i64 ((rd_T51 x5_1 x7_1).f4)] (fun k_ => some k_ ≠ (.slice (some ad228) x5_1.length co9 : Value).ownBlock) (fun _ => False) rfl rfl ?aP (fun _ hk => hk.elim) ?aF ?aO ?aB ?aS ?aL ?_; (case aP => exact k51_mkM _ _ _ (⟨(rd_T51 x5_1 x7_1).f0, (rd_T51 x5_1 x7_1).f1, (rd_T51 x5_1 x7_1).f2, (rd_T51 x5_1 x7_1).f3, (rd_T51 x5_1 x7_1).f4⟩ : S51)); (case aB => exact (by repeat (first | (with_reducible first | exact HB.out | apply below_alloc | apply pw_below_drewN | apply below_drew1) | exact HB.out))); (case aF => exact (fun k_ hk => Kd.fresh' (Kd.R_lt (by (with_reducible repeat (first | apply Kd.R_alloc | apply Kd.R_drewN | apply Kd.R_drew)); exact HO_5.out)) k_ hk)); (case aO => exact (by (with_reducible repeat (first | apply Kd.R_alloc | apply Kd.R_drewN | apply Kd.R_drew)); exact HO_6.out)); (case aS => exact (below_size (by repeat (first | (with_reducible first | exact HB.out | apply below_alloc | apply pw_below_drewN | apply below_drew1) | exact HB.out)))); (case aL => have := LMc7.out; omega); intro v230 w10 ho hb hg hat; rw [← Ny229.out] at ho; have n0_ := Aside0.mk (Kd.R_after (ok := (fun _ => True)) (by (with_reducible repeat (first | apply Kd.R_alloc | apply Kd.R_drewN | apply Kd.R_drew)); exact Kd.R_mono HO_5.out (fun _ hk => ⟨trivial, hk⟩)) hg hat); have n1_ := Aside0.mk (hb); have n2_ := Aside0.mk (ho); clear HO_5; clear HB; clear HO_6; have HO_5 := n0_; have HB := n1_; have HO231 := n2_; clear n0_ n1_ n2_; clear ho hb hg hat; have p8 : 0 ≤ (x7_1 : Int) := of_decide_eq_true (by first | (with_reducible assumption) | assumption); have q8 : (x7_1 : Int) < ((x5_1.length : Int) : Int) := of_decide_eq_true (by first | (with_reducible assumption) | assumption); obtain ⟨go8, co8, eo8, gb8, gl8, cl8, HG8⟩ := Kd.R_form HO_5.out (by omega); (first | cases eo8 | (injection eo8 with ea_ en_ ec_; (first | subst ea_ | (injection ea_ with ea_; subst ea_)); subst ec_; clear en_)); have GB8 := Aside0.mk gb8; have GG8 := Aside0.mk HG8; clear gb8 gl8 HG8; (first | simp only [add_plain] at hx228_0 | skip); (first | simp only [add_plain] at hx228_1 | skip); (first | simp only [add_plain] at hx228_2 | skip); (first | simp only [add_plain] at hx228_3 | skip); (first | simp only [add_plain] at hx228_4 | skip); obtain ⟨ce8, hcl8, hM8, hcc8, hfr8⟩ := Kd.R_elem HO_5.out z51 (x7_1 : Int) p8 q8; obtain rfl := k51_openM hM8; have hx8_0 : w10.cell? ⟨go8, (x7_1 : Int).toNat * 5, none⟩ = some (.int .i64 ((rd_T51 x5_1 x7_1).f0)) := hcc8 0 _ rfl; have hx8_1 : w10.cell? ⟨go8, (x7_1 : Int).toNat * 5 + 1, none⟩ = some (.int .i64 ((rd_T51 x5_1 x7_1).f1)) := hcc8 1 _ rfl; have hx8_2 : w10.cell? ⟨go8, (x7_1 : Int).toNat * 5 + 2, none⟩ = some (.int .i64 ((rd_T51 x5_1 x7_1).f2)) := hcc8 2 _ rfl; have hx8_3 : w10.cell? ⟨go8, (x7_1 : Int).toNat * 5 + 3, none⟩ = some (.int .i64 ((rd_T51 x5_1 x7_1).f3)) := hcc8 3 _ rfl; have hx8_4 : w10.cell? ⟨go8, (x7_1 : Int).toNat * 5 + 4, none⟩ = some (.int .i64 ((rd_T51 x5_1 x7_1).f4)) := hcc8 4 _ rfl; have hf8_0 : w10.frozen? ⟨go8, (x7_1 : Int).toNat * 5, none⟩ = false := hfr8 0; have hf8_1 : w10.frozen? ⟨go8, (x7_1 : Int).toNat * 5 + 1, none⟩ = false := hfr8 1; have hf8_2 : w10.frozen? ⟨go8, (x7_1 : Int).toNat * 5 + 2, none⟩ = false := hfr8 2; have hf8_3 : w10.frozen? ⟨go8, (x7_1 : Int).toNat * 5 + 3, none⟩ = false := hfr8 3; have hf8_4 : w10.frozen? ⟨go8, (x7_1 : Int).toNat * 5 + 4, none⟩ = false := hfr8 4; clear hcl8 hcc8 hfr8 hM8; replace p8 := eq_true p8; replace q8 := eq_true q8; have n_ := Aside0.mk (Kd.R_mono (ok' := (fun k_ => some k_ ≠ (v230 : Value).ownBlock)) HO_5.out (fun k_ hk => hk.2)); clear HO_5; have HO_5 := n_; clear n_; have HX11 := Aside0.mk (show Kd.R k51 51 w10 w.heap.size (fun k_ => some k_ ≠ (v230 : Value).ownBlock) (.slice (some ⟨go8, 0, none⟩) x5_1.length co9) x5_1 from (by (with_reducible repeat (first | apply Kd.R_alloc | apply Kd.R_drewN | apply Kd.R_drew)); exact HO_5.out)); obtain ⟨ce11, hcl11, hM11, hcc11, hfr11⟩ := Kd.R_elem HX11.out z51 (x7_1 : Int) (of_decide_eq_true (by first | (with_reducible assumption) | assumption)) (by have h_ : (x7_1 : Int) < ((x5_1.length : Int) : Int) := of_decide_eq_true (by first | (with_reducible assumption) | assumption); first | exact h_ | (have e_ := (Kd.R_reads' HO_5.out).1; omega) | simpa using h_); obtain rfl := k51_openM hM11; have HP11 := Kd.R_seg HX11.out (x7_1 : Int) (of_decide_eq_true (by first | (with_reducible assumption) | assumption)) (by have h_ : (x7_1 : Int) < ((x5_1.length : Int) : Int) := of_decide_eq_true (by first | (with_reducible assumption) | assumption); first | exact h_ | (have e_ := (Kd.R_reads' HO_5.out).1; omega) | simpa using h_) (seg := [.int .i64 99]) (j := 0) hcl11 hcc11 (show 1 ≤ 5 from by decide) (x' := (⟨99, (rd_T51 x5_1 x7_1).f1, (rd_T51 x5_1 x7_1).f2, (rd_T51 x5_1 x7_1).f3, (rd_T51 x5_1 x7_1).f4⟩ : S51)) (k51_mkM _ _ _ (⟨99, (rd_T51 x5_1 x7_1).f1, (rd_T51 x5_1 x7_1).f2, (rd_T51 x5_1 x7_1).f3, (rd_T51 x5_1 x7_1).f4⟩ : S51) ) (fun _ hk => hk); have hx11_0 := hcc11 0 _ rfl; (try simp only [show (k51).sz = 5 from rfl, Nat.mul_one, Nat.add_zero] at hx11_0); have hf11_0 := hfr11 0; (try simp only [show (k51).sz = 5 from rfl, Nat.mul_one, Nat.add_zero] at hf11_0); clear hcl11 hcc11 hfr11 hM11) | ((with_reducible refine gate_store (t := 3) (p := 27) rfl ?_); refine store_event (t := 3) (p := 27) (v := ?vo_w12) (w1 := (w10.setCell ⟨go8, (x7_1 : Int).toNat * 5, none⟩ (.int .i64 99))) ?hg ?ho ?hn ?hr ?_; (case ho => rfl); (case hg => rfl); (case hn => rfl); (case hr => first | (go_simp; done) | (go_simp; rfl)); intro w12 hw; have hg : w10.grownBy w12 (some go8) := (by rw [hw]; exact HP11.2); have hp_ : Kd.R k51 51 w12 w.heap.size (fun k_ => some k_ ≠ (v230 : Value).ownBlock) (.slice (some ⟨go8, 0, none⟩) x5_1.length co9) y232 := (by rw [hw, Ny232.out]; exact HP11.1); clear HP11; have n0_ := Aside0.mk (hp_); have n1_ := Aside0.mk (Kd.R_after (v := (.slice (some ⟨go8, 0, none⟩) x5_1.length co9)) (v1 := (.slice (some ⟨go8, 0, none⟩) x5_1.length co9)) (ok := (fun _ => True)) (by (with_reducible repeat (first | apply Kd.R_alloc | apply Kd.R_drewN | apply Kd.R_drew)); exact Kd.R_mono HO231.out (fun _ hk => ⟨trivial, hk⟩)) hg (.inl rfl)); have n2_ := Aside0.mk ((by rw [hw]; exact below_set (HB.out) GB8.out : Below w.heap.size w w12)); clear HO_5; clear HO231; clear HB; have HO_5 := n0_; have HO231 := n1_; have HB := n2_; clear n0_ n1_ n2_; clear hg hw hp_))
            go_roundg k1
            case measure => have := HK1.out; omega
            case rel => exact ⟨(y232), (y229), (wrap64 (x7_1 + 1)), (by first | rfl | (simp; done) | (simp [*]; done)), H', ⟨by have := HK1.out; omega⟩, ⟨by (with_reducible repeat (first | apply Kd.R_alloc | apply Kd.R_drewN | apply Kd.R_drew)); exact HO_5.out⟩, ⟨by (with_reducible repeat (first | apply Kd.R_alloc | apply Kd.R_drewN | apply Kd.R_drew)); exact Kd.R_mono HO231.out (fun _ hk => hk.2)⟩, ⟨by repeat (first | (with_reducible first | exact HB.out | apply below_alloc | apply pw_below_drewN | apply below_drew1) | exact HB.out)⟩⟩
          · rw [if_neg c7] at H
            exact absurd H (by simp)
        · rw [if_neg c6] at H
          exact absurd H (by simp)
      · rw [if_neg c5] at H
        have c5b0 : decide (x7_1 < (x5_1.length : Int)) = false := decide_eq_false c5
        clear c5
        replace H := Option.bind_eq_some_iff.mp H
        obtain ⟨t233, A130, H⟩ := H
        replace H : (if t233 = true then ((alu_Const.f k1 a0 a1).bind fun t234 => ((spliceref02_Same.f k1 t234 x6_1).bind fun t237 => (some t237))) else (some false)) = some r := H
        have A13 := Aside0.mk A130
        clear A130
        by_cases c14 : t233 = true
        · subst c14
          have H1 : ((alu_Const.f k1 a0 a1).bind fun t234 => ((spliceref02_Same.f k1 t234 x6_1).bind fun t237 => (some t237))) = some r := by rw [if_pos rfl] at H; exact H
          clear H
          have H := H1
          clear H1
          replace H := Option.bind_eq_some_iff.mp H
          obtain ⟨t234, A150, H⟩ := H
          replace H : ((spliceref02_Same.f k1 t234 x6_1).bind fun t237 => (some t237)) = some r := H
          have A15 := Aside0.mk A150
          clear A150
          replace H := Option.bind_eq_some_iff.mp H
          obtain ⟨t237, A160, H⟩ := H
          replace H : (some t237) = some r := H
          have A16 := Aside0.mk A160
          clear A160
          obtain rfl := Option.some.inj H
          obtain ⟨Ao17, co17, eo17⟩ := Kd.R_slice HO_5.out
          subst eo17
          go_wp2_with (first | ((with_reducible refine gate_callee (f := 38) rfl ?_); refine goesL_ (some 28) rfl rfl Try.func38 (by kernel_rfl) rfl #[] rfl (by (try simp only [List.map_toArray, List.map_cons, List.map_nil]); first | done | rfl | (simp only [List.length_drop, List.length_take]; rfl)) ?_; (with_reducible refine (splicelaw04_awake.calls k1  true _ A13.out).mono ?_); rintro e w18 ⟨rfl, hb⟩; refine ⟨_, rfl, ?_⟩; have n0_ := Aside0.mk (Kd.R_below (by (with_reducible repeat (first | apply Kd.R_alloc | apply Kd.R_drewN | apply Kd.R_drew)); exact HO_5.out) hb); have n1_ := Aside0.mk (Kd.R_below (by (with_reducible repeat (first | apply Kd.R_alloc | apply Kd.R_drewN | apply Kd.R_drew)); exact HO_6.out) hb); have n2_ := Aside0.mk (below_step (by repeat (first | (with_reducible first | exact HB.out | apply below_alloc | apply pw_below_drewN | apply below_drew1) | exact HB.out)) hb); clear HO_5; clear HO_6; clear HB; have HO_5 := n0_; have HO_6 := n1_; have HB := n2_; clear n0_ n1_ n2_; (try clear hb); (try clear hb2); (try clear hk); (try clear hi)) | (go_at_call 45; (with_reducible refine (alu_Const.calls k1 a0 a1 t234 _ A15.out).mono ?_); rintro e w19 ⟨v235, rfl, ho0, hb⟩; have n0_ := Aside0.mk (Kd.R_elder' (by (with_reducible repeat (first | apply Kd.R_alloc | apply Kd.R_drewN | apply Kd.R_drew)); exact HO_5.out) (Kd.R_base ho0) hb); have n1_ := Aside0.mk (Kd.R_elder' (by (with_reducible repeat (first | apply Kd.R_alloc | apply Kd.R_drewN | apply Kd.R_drew)); exact HO_6.out) (Kd.R_base ho0) hb); have n2_ := Aside0.mk (Kd.R_lower (Kd.R_new' (Kd.R_new' ho0 (Kd.R_lt (by (with_reducible repeat (first | apply Kd.R_alloc | apply Kd.R_drewN | apply Kd.R_drew)); exact HO_5.out))) (Kd.R_lt (by (with_reducible repeat (first | apply Kd.R_alloc | apply Kd.R_drewN | apply Kd.R_drew)); exact HO_6.out))) (below_size (by repeat (first | (with_reducible first | exact HB.out | apply below_alloc | apply pw_below_drewN | apply below_drew1) | exact HB.out)))); have n3_ := Aside0.mk (below_step (by repeat (first | (with_reducible first | exact HB.out | apply below_alloc | apply pw_below_drewN | apply below_drew1) | exact HB.out)) hb); clear HO_5; clear HO_6; clear HB; have HO_5 := n0_; have HO_6 := n1_; have HO236 := n2_; have HB := n3_; clear n0_ n1_ n2_ n3_; (try clear hb); (try clear hb2); (try clear hk); (try clear hi); (try clear ho0); obtain ⟨Ao20, co20, eo20⟩ := Kd.R_slice HO236.out; subst eo20; obtain ⟨Ao21, co21, eo21⟩ := Kd.R_slice HO_6.out; subst eo21) | (go_at_call 47; (with_reducible refine (spliceref02_Same.calls k1 _ _ t234 _ _ x6_1 t237 _ ?side1 ?side2 ?side3 ?side4 A16.out).mono ?_); (case side1 => repeat (first | exact (Kd.R_reads' HO236.out).2.2 | (with_reducible refine Kd.C_alloc ?_ _) | (with_reducible refine Kd.C_drewN ?_ _) | (with_reducible refine Kd.C_drew ?_))); (case side2 => exact (Kd.R_reads' HO236.out).2.1); (case side3 => repeat (first | exact (Kd.R_reads' HO_6.out).2.2 | (with_reducible refine Kd.C_alloc ?_ _) | (with_reducible refine Kd.C_drewN ?_ _) | (with_reducible refine Kd.C_drew ?_))); (case side4 => exact (Kd.R_reads' HO_6.out).2.1); rintro e w' ⟨rfl, ⟨nd, rfl⟩⟩))
          go_ret
          exact ⟨by first | rfl | (simp [errW_none, errW_some] <;> rfl) | (simp [*, errW_none, errW_some] <;> rfl), by repeat (first | (with_reducible first | exact HB.out | apply below_alloc | apply pw_below_drewN | apply below_drew1) | exact HB.out)⟩
        · replace c14 := Bool.eq_false_iff.mpr c14
          subst c14
          have H1 : (some false) = some r := by rw [if_neg (show ¬ (false = true) by decide)] at H; exact H
          clear H
          have H := H1
          clear H1
          obtain rfl := Option.some.inj H
          obtain ⟨Ao22, co22, eo22⟩ := Kd.R_slice HO_5.out
          subst eo22
          go_wp2_with (first | ((with_reducible refine gate_callee (f := 38) rfl ?_); refine goesL_ (some 28) rfl rfl Try.func38 (by kernel_rfl) rfl #[] rfl (by (try simp only [List.map_toArray, List.map_cons, List.map_nil]); first | done | rfl | (simp only [List.length_drop, List.length_take]; rfl)) ?_; (with_reducible refine (splicelaw04_awake.calls k1  false _ A13.out).mono ?_); rintro e w23 ⟨rfl, hb⟩; refine ⟨_, rfl, ?_⟩; have n0_ := Aside0.mk (Kd.R_below (by (with_reducible repeat (first | apply Kd.R_alloc | apply Kd.R_drewN | apply Kd.R_drew)); exact HO_5.out) hb); have n1_ := Aside0.mk (Kd.R_below (by (with_reducible repeat (first | apply Kd.R_alloc | apply Kd.R_drewN | apply Kd.R_drew)); exact HO_6.out) hb); have n2_ := Aside0.mk (below_step (by repeat (first | (with_reducible first | exact HB.out | apply below_alloc | apply pw_below_drewN | apply below_drew1) | exact HB.out)) hb); clear HO_5; clear HO_6; clear HB; have HO_5 := n0_; have HO_6 := n1_; have HB := n2_; clear n0_ n1_ n2_; (try clear hb); (try clear hb2); (try clear hk); (try clear hi)))
          go_ret
          exact ⟨by first | rfl | (simp [errW_none, errW_some] <;> rfl) | (simp [*, errW_none, errW_some] <;> rfl), by repeat (first | (with_reducible first | exact HB.out | apply below_alloc | apply pw_below_drewN | apply below_drew1) | exact HB.out)⟩

/-- THE ONE PURE STATEMENT of splicelaw04_AluKeeps: yours. -/
def splicelaw04_AluKeeps.Pure : Prop := ∀ (a0 : Int) (a1 : Int), (Lit.int .i64 a0).wf = true → (Lit.int .u32 a1).wf = true → ∃ k, splicelaw04_AluKeeps.f k a0 a1 = some true
theorem splicelaw04_AluKeeps.walk (P : splicelaw04_AluKeeps.Pure) (a0 : Int) (a1 : Int) (w : World) (w0 : (Lit.int .i64 a0).wf = true) (w1 : (Lit.int .u32 a1).wf = true) :
    Calls Try.prog 17 #[.int .i64 a0, .int .u32 a1] w fun e w' => e = .returned (.bool true) ∧ Below w.heap.size w w' := by
  obtain ⟨k, h⟩ := P a0 a1 w0 w1
  refine (splicelaw04_AluKeeps.calls k a0 a1 true w h).mono ?_
  rintro e w' ⟨rfl, hd⟩
  exact ⟨rfl, hd⟩

end Go.Proofs.Ytkolcgnembaghaa.Q
