/- Named: whether a text is a name. -/
import Derived.Test.YtmcfihpbiilbcaaScanE
import Derived.Test.YtmcfihpbiilbcaaFx1
import Derived.Deep.QuietTactic
import Derived.BigQuiet
namespace Go.Proofs.Ytmcfihpbiilbcaa.H
open Go.RowKit Go.Proofs.YtmcfihpbiilbcaaW.PrintWords Go.Proofs.YtmcfihpbiilbcaaW.PrintLast Go.Proofs.YtmcfihpbiilbcaaW.PrintMore Go.Proofs.Ytmcfihpbiilbcaa.F
set_option linter.unusedVariables false
set_option linter.unusedSimpArgs false
def letterB (x : Int) : Bool := decide (97 ≤ x ∧ x ≤ 122 ∨ 65 ≤ x ∧ x ≤ 90 ∨ 48 ≤ x ∧ x ≤ 57 ∨ x = 95 ∨ x = 46)
theorem letter_q (x : Int) : scan_letter.f x = some (letterB x) := by
  unfold scan_letter.f letterB
  have e : ∀ (p : Prop) [Decidable p] (b : Bool), (p ↔ b = true) → some (decide p) = some b := fun p _ b h => by
    cases b <;> simp at h <;> simp [h]
  by_cases h1 : x ≥ 97 <;> by_cases h2 : x ≤ 122 <;> by_cases h3 : x ≥ 65 <;> by_cases h4 : x ≤ 90 <;> by_cases h5 : x ≥ 48 <;> by_cases h6 : x ≤ 57 <;> by_cases h7 : x = 95 <;> by_cases h8 : x = 46 <;> simp only [h1, h2, h3, h4, h5, h6, h7, h8, if_true, if_false, ge_iff_le] <;> first | omega | (symm; refine e _ _ ?_; first | (simp; done) | (simp; omega))
theorem named1_c (x : Int) (w : World) : Calls Try.prog 82 #[.int .u8 x] w fun e w' => e = .returned (.bool (!letterB x)) ∧ Drawn0 w w' := by
  go_enter Try.func82, Try.ntmps82
  go_wp2_with (go_at_call 83; (with_reducible refine (scan_letter.calls x _ _ (letter_q x)).mono ?_); rintro e w' ⟨rfl, ⟨nd, rfl⟩⟩)
  go_ret
  exact ⟨rfl, by repeat (first | exact Drawn0.refl _ | apply Drawn0.step)⟩
theorem index_c (A : Option Addr) (c : Nat) (l : List Int) (w : World) (hC : CB w A l) (hc : l.length ≤ c) (hl : l.length ≤ 140737488351232) :
    Calls Try.prog 128 #[.slice A l.length c, .func (.func 82) #[] #[]] w fun e w' => ∃ r : Int, e = .returned (.int .i64 r) ∧ decide (0 ≤ r) = !(l.all letterB) ∧ Drawn0 w w' := by
  have HC := hid hC
  clear hC
  go_enter Try.func128, Try.ntmps128
  go_wp2
  go_loopw [8] (fun s8 wx => ∃ k : Nat, k ≤ l.length ∧ s8 = .int .i64 k ∧ Hid ((l.take k).all letterB = true) ∧ Drawn0 w wx) (fun s8 _ => l.length - (intOf s8).toNat)
  case atStart => exact ⟨0, by omega, rfl, hid (by simp), Drawn0.refl _⟩
  case round =>
    obtain ⟨k, hk, rfl, hall, ⟨m, rfl⟩⟩ := hrel
    by_cases hlt : (k : Int) < (l.length : Int)
    · obtain ⟨ad, e, hcell⟩ := Kd.at_int HC.out (k : Int) (by omega) hlt
      subst e
      rw [Int.toNat_natCast] at hcell
      have q0 : 0 ≤ (k : Int) := by omega
      have hk1 : k < l.length := by omega
      have hx : rd l (k : Int) = l[k] := by simp [rd, List.getD_eq_getElem?_getD, List.getElem?_eq_getElem hk1]
      have HX := hid hx
      clear hx
      cases hb : letterB (rd l (k : Int))
      · have HB := hid hb
        have hv : (!letterB (rd l (k : Int))) = true := by rw [hb]; rfl
        clear hb
        go_wp2_with (go_at_call 82; (with_reducible refine (named1_c _ _).mono ?_); rw [hv]; rintro e w' ⟨rfl, ⟨nd, rfl⟩⟩)
        go_ret
        refine ⟨k, rfl, ?_, ⟨⟨_, rfl⟩⟩⟩
        have : l.all letterB = false := by
          rw [List.all_eq_false]
          exact ⟨l[k], List.getElem_mem hk1, by rw [← HX.out, HB.out]; decide⟩
        rw [this]; simp
      · have HB := hid hb
        have hv : (!letterB (rd l (k : Int))) = false := by rw [hb]; rfl
        clear hb
        have hw1 : IntKind.i64.wrap ((k : Int) + 1) = (k : Int) + 1 := IntWalk.i64_in _ (by omega)
        go_wp2_with (go_at_call 82; (with_reducible refine (named1_c _ _).mono ?_); rw [hv]; rintro e w' ⟨rfl, ⟨nd, rfl⟩⟩)
        go_roundw
        case rel =>
          refine ⟨k + 1, by omega, by go_num, hid ?_, ⟨⟨_, rfl⟩⟩⟩
          rw [List.take_add_one, List.all_append, hall.out]
          simp [List.getElem?_eq_getElem hk1, ← HX.out, HB.out]
        case measure => simp [intOf]; omega
    · have hk1 : k = l.length := by omega
      go_wp2
      go_ret
      refine ⟨-1, rfl, ?_, ⟨⟨_, rfl⟩⟩⟩
      have := hall.out
      rw [hk1, List.take_length] at this
      rw [this]; rfl
theorem contains_c (A : Option Addr) (c : Nat) (l : List Int) (w : World) (hC : CB w A l) (hc : l.length ≤ c) (hl : l.length ≤ 140737488351232) :
    Calls Try.prog 81 #[.slice A l.length c, .func (.func 82) #[] #[]] w fun e w' => e = .returned (.bool (!(l.all letterB))) ∧ Drawn0 w w' := by
  have HC := hid hC
  clear hC
  go_enter Try.func81, Try.ntmps81
  go_wp2_with fail
  refine (index_c A c l _ HC.out hc hl).mono ?_
  rintro e w' ⟨r, rfl, hr, ⟨nd, rfl⟩⟩
  go_wp2
  go_ret
  exact ⟨by simp [← hr], ⟨⟨_, rfl⟩⟩⟩
def namedB (s : ByteArray) : Bool := decide (1 ≤ s.size) && decide (s.size ≤ 32) && (bytesOf s).all letterB
theorem named_c (s : ByteArray) (w : World) (hs : s.size ≤ 140737488351232) : Calls Try.prog 33 #[.string s] w fun e w' => e = .returned (.bool (namedB s)) ∧ Below w.heap.size w w' := by
  have kb := fun W => print_bytes (P := Try.prog) 9 22 5 Try.underlying9 Try.underlying22 Try.underlying5 s W
  by_cases h1 : (1 : Int) ≤ (s.size : Int)
  · by_cases h2 : (s.size : Int) ≤ 32
    · have e : namedB s = (bytesOf s).all letterB := by unfold namedB; simp [show 1 ≤ s.size by omega, show s.size ≤ 32 by omega]
      rw [e]
      clear e
      have hlen := bytesOf_length s
      go_enter Try.func33, Try.ntmps33
      go_wp2_with fail
      have hC : CB (Lib.bytesWorld w 5 s) (some ⟨w.heap.size, 0, none⟩) (bytesOf s) := by
        have := Kd.C_of_reads (enc := Value.int .u8) (d := (0 : Int)) (h1 := fun _ => rfl) (bytes_reads w 5 s (by omega))
        show Kd.C (Kd.int .u8) _ _ (bytesOf s).length (bytesOf s)
        rw [hlen]; exact this
      have hb : Below w.heap.size w (Lib.bytesWorld w 5 s) := bytes_below (Below.refl _ _) (Nat.le_refl _) 5 s
      have hcc := contains_c (some ⟨w.heap.size, 0, none⟩) (grownCap w s.size 0 5) (bytesOf s) _ hC (by rw [hlen]; exact grownCap_ge _ _ _ _) (by omega)
      rw [hlen] at hcc
      refine hcc.mono ?_
      rintro e w' ⟨rfl, ⟨nd, rfl⟩⟩
      have HB := hid hb
      clear hb hC hcc
      go_wp2
      go_ret
      exact ⟨by simp, pw_below_drewN HB.out _⟩
    · have e : namedB s = false := by unfold namedB; simp; omega
      rw [e]
      clear e
      go_enter Try.func33, Try.ntmps33
      go_wp2
      go_ret
      exact ⟨by simp, Below.refl _ _⟩
  · have e : namedB s = false := by unfold namedB; simp; omega
    rw [e]
    clear e
    go_enter Try.func33, Try.ntmps33
    go_wp2
    go_ret
    exact ⟨by simp, Below.refl _ _⟩
end Go.Proofs.Ytmcfihpbiilbcaa.H
