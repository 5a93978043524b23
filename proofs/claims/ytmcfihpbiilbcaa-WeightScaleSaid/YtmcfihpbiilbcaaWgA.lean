/- Profiles: the clean weight. -/
import Derived.Test.YtmcfihpbiilbcaaS2
import Derived.Laws.FloatArith
namespace Go.Proofs.Ytmcfihpbiilbcaa.H
open Go.RowKit Go.Proofs.YtmcfihpbiilbcaaW.PrintWords Go.Proofs.YtmcfihpbiilbcaaW.PrintLast Go.Proofs.YtmcfihpbiilbcaaW.PrintMore Go.Proofs.Ytmcfihpbiilbcaa.E
set_option linter.unusedVariables false
set_option linter.unusedSimpArgs false
/-- How two floats stand. -/
def fo (x y : Nat) : Option Ordering := FloatKind.f64.format.order x y
def nanB (x : Nat) : Bool := fo x x != some .eq
def leB (x y : Nat) : Bool := fo x y == some .lt || fo x y == some .eq
def gtB (x y : Nat) : Bool := fo x y == some .gt
def maxW : Nat := 4831355200913801216
def cleanF (x : Nat) : Nat := if nanB x = true then 0 else if leB x 0 = true then 0 else if gtB x maxW = true then maxW else x
theorem isnan_c (x : Nat) (w : World) : Calls Try.prog 98 #[.float .f64 x] w fun e w' => e = .returned (.bool (nanB x)) ∧ w' = w := by
  go_enter Try.func98, Try.ntmps98
  go_wp2
  go_ret
  exact ⟨rfl, rfl⟩
theorem clean_c (x : Nat) (w : World) : Calls Try.prog 65 #[.float .f64 x] w fun e w' => e = .returned (.float .f64 (cleanF x)) ∧ w' = w := by
  by_cases h1 : nanB x = true
  · have hc : cleanF x = 0 := by unfold cleanF; rw [if_pos h1]
    rw [hc]
    go_enter Try.func65, Try.ntmps65
    go_wp2_with fail
    have hk := isnan_c x w
    rw [h1] at hk
    refine hk.mono ?_
    clear hk
    rintro e w1 ⟨rfl, rfl⟩
    go_wp2
    go_ret
    exact ⟨rfl, rfl⟩
  · have h1' : nanB x = false := by simpa using h1
    by_cases h2 : leB x 0 = true
    · have hc : cleanF x = 0 := by unfold cleanF; rw [if_neg h1, if_pos h2]
      rw [hc]
      have h3 : (FloatKind.f64.format.order x 0 == some .lt || FloatKind.f64.format.order x 0 == some .eq) = true := h2
      go_enter Try.func65, Try.ntmps65
      go_wp2_with fail
      have hk := isnan_c x w
      rw [h1'] at hk
      refine hk.mono ?_
      clear hk
      rintro e w1 ⟨rfl, rfl⟩
      go_wp2
      go_ret
      exact ⟨rfl, rfl⟩
    · have h2' : leB x 0 = false := by simpa using h2
      have h3 : (FloatKind.f64.format.order x 0 == some .lt || FloatKind.f64.format.order x 0 == some .eq) = false := h2'
      by_cases h4 : gtB x maxW = true
      · have hc : cleanF x = maxW := by unfold cleanF; rw [if_neg h1, if_neg h2, if_pos h4]
        rw [hc]
        have h5 : (FloatKind.f64.format.order x 4831355200913801216 == some .gt) = true := h4
        go_enter Try.func65, Try.ntmps65
        go_wp2_with fail
        have hk := isnan_c x w
        rw [h1'] at hk
        refine hk.mono ?_
        clear hk
        rintro e w1 ⟨rfl, rfl⟩
        go_wp2
        go_ret
        exact ⟨rfl, rfl⟩
      · have h4' : gtB x maxW = false := by simpa using h4
        have hc : cleanF x = x := by unfold cleanF; rw [if_neg h1, if_neg h2, if_neg h4]
        rw [hc]
        have h5 : (FloatKind.f64.format.order x 4831355200913801216 == some .gt) = false := h4'
        go_enter Try.func65, Try.ntmps65
        go_wp2_with fail
        have hk := isnan_c x w
        rw [h1'] at hk
        refine hk.mono ?_
        clear hk
        rintro e w1 ⟨rfl, rfl⟩
        go_wp2
        go_ret
        exact ⟨rfl, rfl⟩
end Go.Proofs.Ytmcfihpbiilbcaa.H
