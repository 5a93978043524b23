/- ScanKeeps' walk. -/
import Derived.Test.YtmcfihpbiilbcaaScanN
namespace Go.Proofs.Ytmcfihpbiilbcaa.H
open Go.RowKit Go.Proofs.YtmcfihpbiilbcaaW.PrintWords Go.Proofs.YtmcfihpbiilbcaaW.PrintLast Go.Proofs.YtmcfihpbiilbcaaW.PrintMore Go.Proofs.Ytmcfihpbiilbcaa.F
set_option linter.unusedVariables false
set_option linter.unusedSimpArgs false
/-- The new scanner lives on wherever the blocks that were made by New are as they were. -/
def Foot0 (n m : Nat) (w1 : World) (P : World → Prop) : Prop := ∀ W : World, (∀ k, n ≤ k → k < m → W.heap[k]? = w1.heap[k]?) → P W
theorem new_f (A : Option Addr) (c : Nat) (l : List Int) (w : World) (hC : CB w A l) (hc : l.length ≤ c) (hl : l.length ≤ 140737488351232) :
    Calls Try.prog 31 #[.slice A l.length c] w fun e w' => ∃ B, e = .returned (.pointer (some ⟨B, 0, none⟩)) ∧ w.heap.size ≤ B ∧ B < w'.heap.size ∧ Foot0 w.heap.size w'.heap.size w' (fun W => Sc W B l 0) ∧ Below w.heap.size w w' := by
  have HC := hid hC
  clear hC
  go_enter Try.func31, Try.ntmps31
  go_wp2_with fail
  refine (clone_c A c l _ HC.out hc hl).mono ?_
  rintro e w1 ⟨v, rfl, hR, hb⟩
  obtain ⟨A1, c1, rfl, _, _⟩ := Kd.R_reads hR
  go_wp2
  go_ret
  refine ⟨w1.heap.size, rfl, hb.size, by simp, fun W hW => ⟨_, (hW _ hb.size (by simp)).trans (heap_alloc_new _ _), ?_⟩, below_alloc hb _⟩
  have h1 := Kd.R_bound hR
  exact Kd.R_lower (Kd.R_mono (Kd.R_step h1 (fun b hk hb => (hW b hk.2.1 (by simp; omega)).trans (Below.heap_alloc _ _ _ hb))) (fun k hk => (by have := hk.2.2.1; omega : k ≠ w1.heap.size))) (Nat.zero_le _)
theorem keeps_big (A : Option Addr) (c : Nat) (l : List Int) (w : World) (h3 : 300 < (l.length : Int)) :
    Calls Try.prog 4 #[.slice A l.length c] w fun e w' => e = .returned (.bool true) ∧ Below w.heap.size w w' := by
  go_enter Try.func4, Try.ntmps4
  go_wp2_with fail
  refine (awake_c _).mono ?_
  rintro e w1 ⟨rfl, hw1⟩
  have H := hid hw1
  clear hw1
  go_wp2_with fail
  refine (awake_c _).mono ?_
  rintro e w2 ⟨rfl, hw2⟩
  have H2 := hid (below_step H.out hw2)
  clear hw2
  go_wp2
  go_ret
  exact ⟨rfl, H2.out⟩
theorem keeps_small (A : Option Addr) (c : Nat) (l : List Int) (w : World) (hC : CB w A l) (hc : l.length ≤ c) (h3 : (l.length : Int) ≤ 300) :
    Calls Try.prog 4 #[.slice A l.length c] w fun e w' => e = .returned (.bool true) ∧ Below w.heap.size w w' := by
  have HC := hid hC
  clear hC
  go_enter Try.func4, Try.ntmps4
  go_wp2_with fail
  refine (awake_c _).mono ?_
  rintro e w1 ⟨rfl, hw1⟩
  have HC1 := hid (Kd.C_below HC.out hw1)
  have H1 := hid hw1
  clear hw1
  go_wp2_with (at_builtin; refine app_c (w0 := w1) w1.heap.size rfl (.tmp 18) (.tmp 19) rfl _ [] l A c rfl rfl (R_empty w1) (Kd.C_below HC1.out ((Below.refl _ _).alloc (Nat.le_refl _) _)) ((Below.refl _ _).alloc (Nat.le_refl _) _) (by simp) (by simp; omega) ?_; intro v1 w2 hr hb hg hat)
  obtain ⟨A1, c1, rfl, hc1, hC1⟩ := Kd.R_reads hr
  simp only [List.nil_append] at hr hb hg hat hc1 hC1 ⊢
  have hB2 : Below w.heap.size w w2 := H1.out.trans (hb.mono H1.out.size)
  have hs12 := hb.size
  have HR := hid (And.intro hr hB2)
  have HC2 := hid hC1
  clear hr hb hg hat hC1 HC1 hB2
  go_wp2_with fail
  refine (new_f A1 c1 l _ HC2.out hc1 (by omega)).mono ?_
  rintro e w3 ⟨B, rfl, hB1, hB2, hF, hb⟩
  have hz3 := hb.size
  have hB3 : Below w.heap.size w w3 := HR.out.2.trans (hb.mono HR.out.2.size)
  have HR3 := hid (And.intro (Kd.R_below HR.out.1 hb) (And.intro hB3 hF))
  have hg3 := Kd.R_lt HR.out.1
  have HG := hid hg3
  clear hb hF hB3 HR hg3 HC2
  go_wp2
  go_loopw [5] (fun s5 wx => ∃ (k : Nat) (ys : List Int), k ≤ l.length ∧ s5 = .int .i64 k ∧ Hid (ys.length = l.length ∧ RB wx w1.heap.size (.slice A1 l.length c1) ys ∧ w3.grownBy wx (Value.slice A1 l.length c1).ownBlock)) (fun s5 _ => l.length - (intOf s5).toNat)
  case atStart => exact ⟨0, l, by omega, rfl, hid ⟨rfl, HR3.out.1, World.grownBy.refl _ _⟩⟩
  case round =>
    obtain ⟨k, ys, hk, rfl, hI⟩ := hrel
    by_cases hlt : (k : Int) < (l.length : Int)
    · have ho := Kd.own_of_R hI.out.2.1
      rw [hI.out.1] at ho
      obtain ⟨g, cap, he, hgb, hgl⟩ := ho.form (by omega)
      obtain ⟨rfl, rfl⟩ : A1 = some ⟨g, 0, none⟩ ∧ c1 = cap := by injection he with h1 h2 h3; exact ⟨h1, h3⟩
      obtain ⟨q1, q2⟩ := own_at ho k (by omega) (by exact_mod_cast hlt)
      rw [Int.toNat_natCast] at q1 q2
      have HO := hid ho
      have hw1 : IntKind.i64.wrap ((k : Int) + 1) = (k : Int) + 1 := IntWalk.i64_in _ (by omega)
      clear ho he
      go_wp2
      go_roundw
      case rel =>
        obtain ⟨s1, s2⟩ := own_store HO.out (k : Int) (bits BinOp.xor IntKind.u8 (rd ys k) 255)
        exact ⟨k + 1, ys.set k (bits BinOp.xor IntKind.u8 (rd ys k) 255), by omega, by go_num, hid ⟨by rw [List.length_set]; exact hI.out.1, Kd.R_of_own (by rw [List.length_set, hI.out.1]; exact s1) (fun _ _ => trivial), hI.out.2.2.trans s2⟩⟩
      case measure => simp [intOf]; omega
    · have hF := HR3.out.2.2
      have hS : Sc wr B l 0 := hF wr (fun j h1 h2 => hI.out.2.2.block j h2 (fun e => by have := HG.out j e.symm; omega))
      have hBr : Below w.heap.size w wr := HR3.out.2.1.grown hI.out.2.2 (by have := HR3.out.2.1.size; omega) (fun j hj => by have := Kd.R_base hI.out.2.1 j hj; have := H1.out.size; omega)
      have hm : mid l 0 l.length = l := by unfold mid; simp
      have H4 := hid (And.intro hS hBr)
      have hwB : w.heap.size ≤ B := by have := H1.out.size; omega
      clear hF hS hBr HR3 HG hI
      go_wp2_with fail
      refine (bytes_c B l 0 l.length _ H4.out.1 (Int.le_refl 0) (by omega) (by omega) (by omega)).mono ?_
      rintro e w5 ⟨v, rfl, hR, hb⟩
      rw [hm] at hR
      have hB5 : Below w.heap.size w w5 := (H4.out.2.setCell (p := ⟨B, 1, none⟩) hwB _).trans (hb.mono H4.out.2.size)
      have hC5 := Kd.C_below HC.out hB5
      obtain ⟨A5, c5, rfl, hc5, hC5'⟩ := Kd.R_reads hR
      have hz5 : wr.heap.size ≤ w5.heap.size := by have := hb.size; simpa using this
      have hzr := H4.out.2.size
      have H5 := hid (And.intro hR (And.intro hB5 (And.intro hC5 hC5')))
      clear hR hb hB5 hC5 hC5' H4
      go_wp2_with fail
      refine (spliceref01_Same.calls (l.length + 1) A5 c5 l A c l true _ H5.out.2.2.2 hc5 H5.out.2.2.1 hc ?_).mono ?_
      · rw [refSame_eq l l (by omega)]; simp
      rintro e w6 ⟨rfl, ⟨nd, rfl⟩⟩
      go_wp2
      go_loopw [8] (fun s8 wx => ∃ (k : Nat) (ys : List Int), k ≤ l.length ∧ s8 = .int .i64 k ∧ Hid (ys.length = l.length ∧ RB wx wr.heap.size (.slice A5 l.length c5) ys ∧ Below w.heap.size w wx)) (fun s8 _ => l.length - (intOf s8).toNat)
      case atStart => exact ⟨0, l, by omega, rfl, hid ⟨rfl, Kd.R_drewN H5.out.1 _, pw_below_drewN H5.out.2.1 _⟩⟩
      case round =>
        obtain ⟨k, ys, hk, rfl, hI⟩ := hrel
        by_cases hlt : (k : Int) < (l.length : Int)
        · have ho := Kd.own_of_R hI.out.2.1
          rw [hI.out.1] at ho
          obtain ⟨g, cap, he, hgb, hgl⟩ := ho.form (by omega)
          obtain ⟨rfl, rfl⟩ : A5 = some ⟨g, 0, none⟩ ∧ c5 = cap := by injection he with h1 h2 h3; exact ⟨h1, h3⟩
          obtain ⟨q1, q2⟩ := own_at ho k (by omega) (by exact_mod_cast hlt)
          rw [Int.toNat_natCast] at q1 q2
          have HO := hid ho
          have hw1 : IntKind.i64.wrap ((k : Int) + 1) = (k : Int) + 1 := IntWalk.i64_in _ (by omega)
          clear ho he
          go_wp2
          go_roundw
          case rel =>
            obtain ⟨s1, s2⟩ := own_store HO.out (k : Int) 7
            exact ⟨k + 1, ys.set k 7, by omega, by go_num, hid ⟨by rw [List.length_set]; exact hI.out.1, Kd.R_of_own (by rw [List.length_set, hI.out.1]; exact s1) (fun _ _ => trivial), hI.out.2.2.setCell (by show _ ≤ g; omega) _⟩⟩
          case measure => simp [intOf]; omega
        · have hB7 := hid hI.out.2.2
          have hC7 := hid (Kd.C_below HC.out hI.out.2.2)
          clear hI H5
          go_wp2_with fail
          refine (new_c A c l _ hC7.out hc (by omega)).mono ?_
          rintro e w8 ⟨B8, rfl, hB8, hS8, hb⟩
          have hz := hB7.out.size
          have hB8' := hid (hB7.out.trans (hb.mono hz))
          have hS := hid hS8
          have hwB8 : w.heap.size ≤ B8 := by omega
          clear hS8 hb hC7
          go_wp2_with fail
          refine (bytes_c B8 l 0 l.length _ hS.out (Int.le_refl 0) (by omega) (by omega) (by omega)).mono ?_
          rintro e w9 ⟨v, rfl, hR, hb⟩
          rw [hm] at hR
          obtain ⟨A9, c9, rfl, hc9, hC9⟩ := Kd.R_reads hR
          have hB9 : Below w.heap.size w w9 := (hB8'.out.setCell (p := ⟨B8, 1, none⟩) hwB8 _).trans (hb.mono hB8'.out.size)
          have H9 := hid (And.intro hC9 (And.intro hB9 (And.intro (Kd.C_below HC.out hB9) (hS.out.after hb))))
          clear hR hC9 hB9 hb hB8' hS
          go_wp2_with fail
          refine (spliceref01_Same.calls (l.length + 1) A9 c9 l A c l true _ H9.out.1 hc9 H9.out.2.2.1 hc ?_).mono ?_
          · rw [refSame_eq l l (by omega)]; simp
          rintro e w10 ⟨rfl, ⟨nd2, rfl⟩⟩
          have hS10 : Sc (w9.drewN nd2) B8 l l.length := (by simpa using H9.out.2.2.2 : Sc w9 B8 l l.length).keep (fun b _ => rfl)
          have HS := hid hS10
          clear hS10
          go_wp2_with fail
          refine (left_c B8 l l.length _ HS.out (by omega) (by omega) (by omega)).mono ?_
          rintro e w11 ⟨rfl, ⟨nd3, rfl⟩⟩
          rw [Int.sub_self]
          go_wp2
          go_ret
          exact ⟨rfl, pw_below_drewN H9.out.2.1 _⟩
theorem keeps_c (A : Option Addr) (c : Nat) (l : List Int) (w : World) (hC : CB w A l) (hc : l.length ≤ c) :
    Calls Try.prog 4 #[.slice A l.length c] w fun e w' => e = .returned (.bool true) ∧ Below w.heap.size w w' := by
  by_cases h : 300 < (l.length : Int)
  · exact keeps_big A c l w h
  · exact keeps_small A c l w hC hc (by omega)
end Go.Proofs.Ytmcfihpbiilbcaa.H
