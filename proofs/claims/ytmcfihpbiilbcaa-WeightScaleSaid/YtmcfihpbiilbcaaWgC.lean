/- weight.Of, weight.Total. -/
import Derived.Test.YtmcfihpbiilbcaaWgB
import Derived.Lib.SlicesS
namespace Go.Proofs.Ytmcfihpbiilbcaa.H
open Go.RowKit Go.Proofs.YtmcfihpbiilbcaaW.PrintWords Go.Proofs.YtmcfihpbiilbcaaW.PrintLast Go.Proofs.YtmcfihpbiilbcaaW.PrintMore Go.Proofs.Ytmcfihpbiilbcaa.E
set_option linter.unusedVariables false
set_option linter.unusedSimpArgs false
theorem str_eq {x y : ByteArray} (h : x = y) : (x.toList == y.toList) = true := (Lib.bytes_beq_iff x y).2 h
theorem str_ne {x y : ByteArray} (h : ¬ x = y) : (x.toList == y.toList) = false := (Lib.bytes_beq_false_iff x y).2 h
theorem store_edge (w : World) (v0 v1 v2 : Value) (x : Nat) : (store ⟨w.heap.size, 3, none⟩ (.float .f64 x)).run Try.prog (w.alloc (.cells #[v0, v1, v2, .float .f64 0] 73)) = .ok () (w.alloc (.cells #[v0, v1, v2, .float .f64 x] 73)) := by
  rw [run_store _ _ _ _ _ rfl]
  have h := blk_new w (.cells #[v0, v1, v2, .float .f64 0] 73)
  rw [blk_cell h 3, blk_frozen h 3]
  simp [World.setCell_alloc_at]
/-- An edge's cells, as a walk loads them. -/
theorem edge_cells {w : World} {A : Option Addr} {l : List Edge} (h : CE w A l) (k : Nat) (hk : k < l.length) : ∃ ad, A = some ad ∧ w.cell? (ad.add (k * 4)) = some (.string l[k].1) ∧ w.cell? ⟨(ad.add (k * 4)).block, (ad.add (k * 4)).off + 1, none⟩ = some (.int .i64 l[k].2.1) ∧
    w.cell? ⟨(ad.add (k * 4)).block, (ad.add (k * 4)).off + 2, none⟩ = some (.int .i64 l[k].2.2.1) ∧ w.cell? ⟨(ad.add (k * 4)).block, (ad.add (k * 4)).off + 3, none⟩ = some (.float .f64 l[k].2.2.2) := by
  obtain ⟨ad, rfl, hc⟩ := edgeAt h k hk
  have ha : ∀ m j : Nat, ad.add (m + (j + 1)) = ⟨(ad.add m).block, (ad.add m).off + (j + 1), none⟩ := by
    intro m j
    unfold Addr.add
    by_cases hm : m = 0
    · simp [hm]
    · simp [hm]; omega
  refine ⟨ad, rfl, hc 0 _ rfl, ?_, ?_, ?_⟩
  · rw [← ha]; exact hc 1 _ rfl
  · rw [← ha]; exact hc 2 _ rfl
  · rw [← ha]; exact hc 3 _ rfl
set_option maxRecDepth 100000 in
theorem total_c (A : Option Addr) (c : Nat) (l : List Edge) (nm : ByteArray) (w : World) (hC : CE w A l) (hc : l.length ≤ c) (hn : l.length ≤ 1000000) (hl : ∀ e ∈ l, e.2.2.2 < 18446744073709551616) :
    Calls Try.prog 64 #[.slice A l.length c, .string nm] w fun e w' => e = .returned (.float .f64 (totS nm l)) ∧ Below w.heap.size w w' := by
  have HC := hid hC
  have HL := hid hl
  clear hC hl
  go_enter Try.func64, Try.ntmps64
  go_wp2
  go_loopw [5, 10] (fun s5 s10 wx => ∃ (k : Nat), k ≤ l.length ∧ s10 = .int .i64 k ∧ s5 = .float .f64 (totS nm (l.take k)) ∧ Hid (Below w.heap.size w wx)) (fun _ s10 _ => l.length - (intOf s10).toNat)
  case atStart => exact ⟨0, by omega, rfl, rfl, hid (Below.refl _ _)⟩
  case round =>
    obtain ⟨k, hk, rfl, rfl, hI⟩ := hrel
    by_cases hlt : (k : Int) < (l.length : Int)
    · have hk1 : k < l.length := by omega
      obtain ⟨ad, rfl, c0, c1, c2, c3⟩ := edge_cells (Kd.C_below HC.out hI.out) k hk1
      have e3 : IntKind.i64.wrap ((k : Int) + 1) = (k : Int) + 1 := IntWalk.i64_in _ (by omega)
      have hst := store_edge wr (.string l[k].1) (.int .i64 l[k].2.1) (.int .i64 l[k].2.2.1) l[k].2.2.2
      by_cases hnm : l[k].1 = nm
      · have hb := str_eq hnm
        have hx := HL.out _ (List.getElem_mem hk1)
        have hadd := (add_ok (totS_ok nm l HL.out k hk) (clean_ok hx)).1
        have hstep := totS_step nm l k hk1
        rw [if_pos hnm] at hstep
        rw [← hstep] at hadd
        have HS := hid hadd
        clear hx hadd hstep hnm
        obtain ⟨W, hW⟩ : ∃ W, W = wr.alloc (.cells #[.string l[k].1, .int .i64 l[k].2.1, .int .i64 l[k].2.2.1, .float .f64 l[k].2.2.2] 73) := ⟨_, rfl⟩
        have hB := below_alloc hI.out (.cells #[.string l[k].1, .int .i64 l[k].2.1, .int .i64 l[k].2.2.1, .float .f64 l[k].2.2.2] 73)
        rw [← hW] at hB
        have HB := hid hB
        clear hB
        go_wp2_with fail
        rw [← hW]
        clear hW hst c0 c1 c2 c3 hb
        refine (clean_c _ _).mono ?_
        rintro e' w1 ⟨rfl, rfl⟩
        have hbin : ∀ w, (binOp .add 50 (.float .f64 (totS nm (l.take k))) (.float .f64 (cleanF l[k].2.2.2))).run Try.prog w = .ok (.float .f64 (totS nm (l.take (k + 1)))) w := fun w => run_float_arith w .add 50 .f64 _ _ _ HS.out
        go_wp2
        go_roundw
        case rel => exact ⟨k + 1, by omega, by go_num, rfl, HB⟩
        case measure => simp [intOf]; omega
      · have hb := str_ne hnm
        have hno := totS_step nm l k hk1
        rw [if_neg hnm] at hno
        have HN := hid hno
        clear hno hnm
        go_wp2
        go_roundw
        case rel => exact ⟨k + 1, by omega, by go_num, by rw [HN.out], hid (below_alloc hI.out _)⟩
        case measure => simp [intOf]; omega
    · have hk1 : k = l.length := by omega
      subst hk1
      go_wp2
      go_ret
      exact ⟨rfl, hI.out⟩
set_option maxRecDepth 100000 in
theorem of_c (A : Option Addr) (c : Nat) (l : List Edge) (nm : ByteArray) (fr tq : Int) (w : World) (hC : CE w A l) (hc : l.length ≤ c) (hn : l.length ≤ 1000000) (hl : ∀ e ∈ l, e.2.2.2 < 18446744073709551616) :
    Calls Try.prog 63 #[.slice A l.length c, .string nm, .int .i64 fr, .int .i64 tq] w fun e w' => e = .returned (.float .f64 (ofS nm fr tq l)) ∧ Below w.heap.size w w' := by
  have HC := hid hC
  have HL := hid hl
  clear hC hl
  go_enter Try.func63, Try.ntmps63
  go_wp2
  go_loopw [9, 14] (fun s5 s10 wx => ∃ (k : Nat), k ≤ l.length ∧ s10 = .int .i64 k ∧ s5 = .float .f64 (ofS nm fr tq (l.take k)) ∧ Hid (Below w.heap.size w wx)) (fun _ s10 _ => l.length - (intOf s10).toNat)
  case atStart => exact ⟨0, by omega, rfl, rfl, hid (Below.refl _ _)⟩
  case round =>
    obtain ⟨k, hk, rfl, rfl, hI⟩ := hrel
    by_cases hlt : (k : Int) < (l.length : Int)
    · have hk1 : k < l.length := by omega
      obtain ⟨ad, rfl, c0, c1, c2, c3⟩ := edge_cells (Kd.C_below HC.out hI.out) k hk1
      have e3 : IntKind.i64.wrap ((k : Int) + 1) = (k : Int) + 1 := IntWalk.i64_in _ (by omega)
      have hst := store_edge wr (.string l[k].1) (.int .i64 l[k].2.1) (.int .i64 l[k].2.2.1) l[k].2.2.2
      by_cases hnm : l[k].1 = nm ∧ l[k].2.1 = fr ∧ l[k].2.2.1 = tq
      · have hb := str_eq hnm.1
        have hb1 : (l[k].2.1 == fr) = true := beq_iff_eq.2 hnm.2.1
        have hb2 : (l[k].2.2.1 == tq) = true := beq_iff_eq.2 hnm.2.2
        have hx := HL.out _ (List.getElem_mem hk1)
        have hadd := (add_ok (ofS_ok nm fr tq l HL.out k hk) (clean_ok hx)).1
        have hstep := ofS_step nm fr tq l k hk1
        rw [if_pos hnm] at hstep
        rw [← hstep] at hadd
        have HS := hid hadd
        clear hx hadd hstep hnm
        obtain ⟨W, hW⟩ : ∃ W, W = wr.alloc (.cells #[.string l[k].1, .int .i64 l[k].2.1, .int .i64 l[k].2.2.1, .float .f64 l[k].2.2.2] 73) := ⟨_, rfl⟩
        have hB := below_alloc hI.out (.cells #[.string l[k].1, .int .i64 l[k].2.1, .int .i64 l[k].2.2.1, .float .f64 l[k].2.2.2] 73)
        rw [← hW] at hB
        have HB := hid hB
        clear hB
        go_wp2_with fail
        rw [← hW]
        clear hW hst c0 c1 c2 c3 hb hb1 hb2
        refine (clean_c _ _).mono ?_
        rintro e' w1 ⟨rfl, rfl⟩
        have hbin : ∀ w, (binOp .add 50 (.float .f64 (ofS nm fr tq (l.take k))) (.float .f64 (cleanF l[k].2.2.2))).run Try.prog w = .ok (.float .f64 (ofS nm fr tq (l.take (k + 1)))) w := fun w => run_float_arith w .add 50 .f64 _ _ _ HS.out
        go_wp2
        go_roundw
        case rel => exact ⟨k + 1, by omega, by go_num, rfl, HB⟩
        case measure => simp [intOf]; omega
      · have hno : ofS nm fr tq (l.take (k + 1)) = ofS nm fr tq (l.take k) := by rw [ofS_step nm fr tq l k hk1, if_neg hnm]
        have HN := hid hno
        clear hno
        by_cases g1 : l[k].1 = nm
        · have hb := str_eq g1
          by_cases g2 : l[k].2.1 = fr
          · have hb1 : (l[k].2.1 == fr) = true := beq_iff_eq.2 g2
            have hb2 : (l[k].2.2.1 == tq) = false := beq_eq_false_iff_ne.2 (fun g3 => hnm ⟨g1, g2, g3⟩)
            clear g1 g2 hnm
            go_wp2
            go_roundw
            case rel => exact ⟨k + 1, by omega, by go_num, by rw [HN.out], hid (below_alloc hI.out _)⟩
            case measure => simp [intOf]; omega
          · have hb1 : (l[k].2.1 == fr) = false := beq_eq_false_iff_ne.2 g2
            clear g1 g2 hnm
            go_wp2
            go_roundw
            case rel => exact ⟨k + 1, by omega, by go_num, by rw [HN.out], hid (below_alloc hI.out _)⟩
            case measure => simp [intOf]; omega
        · have hb := str_ne g1
          clear g1 hnm
          go_wp2
          go_roundw
          case rel => exact ⟨k + 1, by omega, by go_num, by rw [HN.out], hid (below_alloc hI.out _)⟩
          case measure => simp [intOf]; omega
    · have hk1 : k = l.length := by omega
      subst hk1
      go_wp2
      go_ret
      exact ⟨rfl, hI.out⟩
end Go.Proofs.Ytmcfihpbiilbcaa.H
