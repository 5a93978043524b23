import Derived.Test.YtmcfihpbiilbcaaProg
import Derived.Below
import Derived.Deep.Draws
import Derived.Deep.AppendLies
import Derived.Maps.AppendAt
import Derived.OwnWalk
import Derived.Laws.BytesArg
import Derived.Laws.MakeOwn
import Derived.Laws.OwnMore
import Derived.Deep.OwnRows
import Derived.Tactics
import Derived.Lib.ConvBytes
import Derived.Laws.Slices
import Derived.WalkKit
import Derived.KernelRfl
import Derived.RowKit3
import Derived.Deep.LoopGhost
import Derived.Deep.QuietTactic
import Derived.BigQuiet
import Derived.WideLaws
import Derived.Deep.DeepCutAuto
import Derived.Deep.CutBlock
import Derived.Deep.RegionHeld3
import Derived.Laws.Rows
import Derived.Lib.AppendStr
import Derived.ArgAppend
import Derived.Laws.IdiomCopy
import Derived.OrdersHeld
import Derived.Laws.BitsLemmas
import Derived.RowKit
import Derived.Laws.CopyOwn
import Derived.Deep.RegionLaw
import Derived.WalkSmall
import Derived.StillTailTactics
import Derived.Defers
import Derived.Recover
import Derived.Deep.RegionLawGrows
import Derived.Laws.Externs
import Derived.Conc.MuLone
import Derived.WalkLawsBesides
import Derived.Lib.SlBytesConst
import Derived.Test.YtmcfihpbiilbcaaZObjectReads1
section
-- functions and contracts of this seat, written by the kit's print program for several roots at once; not the print of a statement
namespace Go.Proofs.Ytmcfihpbiilbcaa.E
open Go.RowKit Go.Proofs.YtmcfihpbiilbcaaW.PrintWords Go.Proofs.YtmcfihpbiilbcaaW.PrintLast Go.Proofs.YtmcfihpbiilbcaaW.PrintMore
attribute [local go_sem] max2_int min2_int max_two min_two max_three min_three max_four min_four   -- for this text's walks alone
set_option linter.unusedVariables false
set_option linter.unusedSimpArgs false
def errW : Option Int → Value
  | none => .nilIface
  | some c => .iface 0 (.int .i64 c)
theorem errW_none : errW none = .nilIface := rfl
theorem errW_some (c : Int) : errW (some c) = .iface 0 (.int .i64 c) := rfl
theorem info5 : (Try.prog.info? 5).map (fun i => (i.zero, i.size, i.bytes)) = some (some (.int .u8 0), 1, 1) := by kernel_rfl
theorem info36 : (Try.prog.info? 36).map (fun i => (i.zero, i.size, i.bytes)) = some (some (.int .u32 0), 1, 4) := by kernel_rfl
-- the values' own types
structure S153 where
  f0 : Int
  f1 : Int
  f2 : ByteArray
  f3 : Int
def z153 : S153 := ⟨(0 : Int), (0 : Int), (⟨#[]⟩ : ByteArray), (0 : Int)⟩
def k153 : Kd S153 := Kd.iso (Kd.pair (Kd.int .i64) (Kd.pair (Kd.int .i64) (Kd.pair Kd.string (Kd.int .i64)))) (fun x : S153 => (x.f0, x.f1, x.f2, x.f3))
theorem k153_open {w : World} {x : S153} {cs : List Value} (h : k153.K w x cs) : cs = [.int .i64 x.f0, .int .i64 x.f1, .string x.f2, .int .i64 x.f3] := by
  obtain ⟨_, _, rfl, rfl, ⟨_, _, rfl, rfl, ⟨_, _, rfl, rfl, rfl⟩⟩⟩ := h
  exact rfl
theorem k153_mkM (w : World) (base : Nat) (ok : Nat → Prop) (x : S153)  : k153.M w base ok x [.int .i64 x.f0, .int .i64 x.f1, .string x.f2, .int .i64 x.f3] := ⟨[.int .i64 x.f0], [.int .i64 x.f1, .string x.f2, .int .i64 x.f3], rfl, rfl, ⟨[.int .i64 x.f1], [.string x.f2, .int .i64 x.f3], rfl, rfl, ⟨[.string x.f2], [.int .i64 x.f3], rfl, rfl, rfl⟩⟩⟩
def rd_T153 (xs : List S153) (i : Int) : S153 := xs.getD i.toNat z153
theorem at_T153 {w : World} {A : Option Addr} {n : Nat} {xs : List S153} (h : Kd.C k153 w A n xs) (i : Int) (h0 : 0 ≤ i) (h1 : i < n) : ∃ ad , A = some ad ∧ w.cell? (ad.add (i.toNat * 4)) = some (.int .i64 (rd_T153 xs i).f0) ∧ w.cell? ⟨(ad.add (i.toNat * 4)).block, (ad.add (i.toNat * 4)).off + 1, none⟩ = some (.int .i64 (rd_T153 xs i).f1) ∧ w.cell? ⟨(ad.add (i.toNat * 4)).block, (ad.add (i.toNat * 4)).off + 2, none⟩ = some (.string (rd_T153 xs i).f2) ∧ w.cell? ⟨(ad.add (i.toNat * 4)).block, (ad.add (i.toNat * 4)).off + 3, none⟩ = some (.int .i64 (rd_T153 xs i).f3) := by
  obtain ⟨ad, c, e, _, hK, hc0⟩ := Kd.C_get h z153 i h0 h1
  have hc : ∀ j u, c[j]? = some u → w.cell? (ad.add (i.toNat * 4 + j)) = some u := hc0
  obtain rfl := k153_open hK
  exact ⟨ad, e, hc 0 _ rfl, by rw [← add_field _ _ 1 (by omega)]; exact hc 1 _ rfl, by rw [← add_field _ _ 2 (by omega)]; exact hc 2 _ rfl, by rw [← add_field _ _ 3 (by omega)]; exact hc 3 _ rfl⟩
structure S124 where
  f0 : ByteArray
  f1 : Int
  f2 : (List Int)
  f3 : (List S153)
def z124 : S124 := ⟨(⟨#[]⟩ : ByteArray), (0 : Int), ([] : List Int), ([] : List S153)⟩
def k124 : Kd S124 := Kd.iso (Kd.pair Kd.string (Kd.pair (Kd.int .i64) (Kd.pair (Kd.slice 36 (Kd.int .u32)) (Kd.slice 153 k153)))) (fun x : S124 => (x.f0, x.f1, x.f2, x.f3))
theorem k124_open {w : World} {x : S124} {cs : List Value} (h : k124.K w x cs) : ∃ A2 c2 A3 c3, cs = [.string x.f0, .int .i64 x.f1, .slice A2 x.f2.length c2, .slice A3 x.f3.length c3] ∧ x.f2.length ≤ c2 ∧ (Kd.int .u32).C w A2 x.f2.length x.f2 ∧ x.f3.length ≤ c3 ∧ k153.C w A3 x.f3.length x.f3 := by
  obtain ⟨_, _, rfl, rfl, ⟨_, _, rfl, rfl, ⟨_, _, rfl, ⟨A2, c2, rfl, l2, g2⟩, ⟨A3, c3, rfl, l3, g3⟩⟩⟩⟩ := h
  exact ⟨A2, c2, A3, c3, rfl, l2, g2, l3, g3⟩
theorem k124_openM {w : World} {base : Nat} {ok : Nat → Prop} {x : S124} {cs : List Value} (h : k124.M w base ok x cs) : ∃ v2 v3, cs = [.string x.f0, .int .i64 x.f1, v2, v3] ∧ (Kd.int .u32).R 36 w base ok v2 x.f2 ∧ k153.R 153 w base ok v3 x.f3 := by
  obtain ⟨_, _, rfl, rfl, ⟨_, _, rfl, rfl, ⟨_, _, rfl, ⟨v2, rfl, g2⟩, ⟨v3, rfl, g3⟩⟩⟩⟩ := h
  exact ⟨v2, v3, rfl, g2, g3⟩
theorem k124_mkM (w : World) (base : Nat) (ok : Nat → Prop) (x : S124) {v2 : Value} (g2 : (Kd.int .u32).R 36 w base ok v2 x.f2) {v3 : Value} (g3 : k153.R 153 w base ok v3 x.f3) : k124.M w base ok x [.string x.f0, .int .i64 x.f1, v2, v3] := ⟨[.string x.f0], [.int .i64 x.f1, v2, v3], rfl, rfl, ⟨[.int .i64 x.f1], [v2, v3], rfl, rfl, ⟨[v2], [v3], rfl, ⟨v2, rfl, g2⟩, ⟨v3, rfl, g3⟩⟩⟩⟩
def rd_T124 (xs : List S124) (i : Int) : S124 := xs.getD i.toNat z124
theorem at_T124 {w : World} {A : Option Addr} {n : Nat} {xs : List S124} (h : Kd.C k124 w A n xs) (i : Int) (h0 : 0 ≤ i) (h1 : i < n) : ∃ ad A2 c2 A3 c3, A = some ad ∧ w.cell? (ad.add (i.toNat * 4)) = some (.string (rd_T124 xs i).f0) ∧ w.cell? ⟨(ad.add (i.toNat * 4)).block, (ad.add (i.toNat * 4)).off + 1, none⟩ = some (.int .i64 (rd_T124 xs i).f1) ∧ w.cell? ⟨(ad.add (i.toNat * 4)).block, (ad.add (i.toNat * 4)).off + 2, none⟩ = some (.slice A2 (rd_T124 xs i).f2.length c2) ∧ w.cell? ⟨(ad.add (i.toNat * 4)).block, (ad.add (i.toNat * 4)).off + 3, none⟩ = some (.slice A3 (rd_T124 xs i).f3.length c3) ∧ (rd_T124 xs i).f2.length ≤ c2 ∧ (Kd.int .u32).C w A2 (rd_T124 xs i).f2.length (rd_T124 xs i).f2 ∧ (rd_T124 xs i).f3.length ≤ c3 ∧ k153.C w A3 (rd_T124 xs i).f3.length (rd_T124 xs i).f3 := by
  obtain ⟨ad, c, e, _, hK, hc0⟩ := Kd.C_get h z124 i h0 h1
  have hc : ∀ j u, c[j]? = some u → w.cell? (ad.add (i.toNat * 4 + j)) = some u := hc0
  obtain ⟨A2, c2, A3, c3, rfl, l2, g2, l3, g3⟩ := k124_open hK
  exact ⟨ad, A2, c2, A3, c3, e, hc 0 _ rfl, by rw [← add_field _ _ 1 (by omega)]; exact hc 1 _ rfl, by rw [← add_field _ _ 2 (by omega)]; exact hc 2 _ rfl, by rw [← add_field _ _ 3 (by omega)]; exact hc 3 _ rfl, l2, g2, l3, g3⟩
structure S102 where
  f0 : ByteArray
  f1 : Int
  f2 : Int
  f3 : Bool
  f4 : Int
  f5 : (List Int)
  f6 : (List S153)
def z102 : S102 := ⟨(⟨#[]⟩ : ByteArray), (0 : Int), (0 : Int), false, (0 : Int), ([] : List Int), ([] : List S153)⟩
def k102 : Kd S102 := Kd.iso (Kd.pair Kd.string (Kd.pair (Kd.int .i64) (Kd.pair (Kd.int .i64) (Kd.pair Kd.bool (Kd.pair (Kd.int .i64) (Kd.pair (Kd.slice 5 (Kd.int .u8)) (Kd.slice 153 k153))))))) (fun x : S102 => (x.f0, x.f1, x.f2, x.f3, x.f4, x.f5, x.f6))
theorem k102_open {w : World} {x : S102} {cs : List Value} (h : k102.K w x cs) : ∃ A5 c5 A6 c6, cs = [.string x.f0, .int .i64 x.f1, .int .i64 x.f2, .bool x.f3, .int .i64 x.f4, .slice A5 x.f5.length c5, .slice A6 x.f6.length c6] ∧ x.f5.length ≤ c5 ∧ (Kd.int .u8).C w A5 x.f5.length x.f5 ∧ x.f6.length ≤ c6 ∧ k153.C w A6 x.f6.length x.f6 := by
  obtain ⟨_, _, rfl, rfl, ⟨_, _, rfl, rfl, ⟨_, _, rfl, rfl, ⟨_, _, rfl, rfl, ⟨_, _, rfl, rfl, ⟨_, _, rfl, ⟨A5, c5, rfl, l5, g5⟩, ⟨A6, c6, rfl, l6, g6⟩⟩⟩⟩⟩⟩⟩ := h
  exact ⟨A5, c5, A6, c6, rfl, l5, g5, l6, g6⟩
theorem k102_openM {w : World} {base : Nat} {ok : Nat → Prop} {x : S102} {cs : List Value} (h : k102.M w base ok x cs) : ∃ v5 v6, cs = [.string x.f0, .int .i64 x.f1, .int .i64 x.f2, .bool x.f3, .int .i64 x.f4, v5, v6] ∧ (Kd.int .u8).R 5 w base ok v5 x.f5 ∧ k153.R 153 w base ok v6 x.f6 := by
  obtain ⟨_, _, rfl, rfl, ⟨_, _, rfl, rfl, ⟨_, _, rfl, rfl, ⟨_, _, rfl, rfl, ⟨_, _, rfl, rfl, ⟨_, _, rfl, ⟨v5, rfl, g5⟩, ⟨v6, rfl, g6⟩⟩⟩⟩⟩⟩⟩ := h
  exact ⟨v5, v6, rfl, g5, g6⟩
theorem k102_mkM (w : World) (base : Nat) (ok : Nat → Prop) (x : S102) {v5 : Value} (g5 : (Kd.int .u8).R 5 w base ok v5 x.f5) {v6 : Value} (g6 : k153.R 153 w base ok v6 x.f6) : k102.M w base ok x [.string x.f0, .int .i64 x.f1, .int .i64 x.f2, .bool x.f3, .int .i64 x.f4, v5, v6] := ⟨[.string x.f0], [.int .i64 x.f1, .int .i64 x.f2, .bool x.f3, .int .i64 x.f4, v5, v6], rfl, rfl, ⟨[.int .i64 x.f1], [.int .i64 x.f2, .bool x.f3, .int .i64 x.f4, v5, v6], rfl, rfl, ⟨[.int .i64 x.f2], [.bool x.f3, .int .i64 x.f4, v5, v6], rfl, rfl, ⟨[.bool x.f3], [.int .i64 x.f4, v5, v6], rfl, rfl, ⟨[.int .i64 x.f4], [v5, v6], rfl, rfl, ⟨[v5], [v6], rfl, ⟨v5, rfl, g5⟩, ⟨v6, rfl, g6⟩⟩⟩⟩⟩⟩⟩
def rd_T102 (xs : List S102) (i : Int) : S102 := xs.getD i.toNat z102
theorem at_T102 {w : World} {A : Option Addr} {n : Nat} {xs : List S102} (h : Kd.C k102 w A n xs) (i : Int) (h0 : 0 ≤ i) (h1 : i < n) : ∃ ad A5 c5 A6 c6, A = some ad ∧ w.cell? (ad.add (i.toNat * 7)) = some (.string (rd_T102 xs i).f0) ∧ w.cell? ⟨(ad.add (i.toNat * 7)).block, (ad.add (i.toNat * 7)).off + 1, none⟩ = some (.int .i64 (rd_T102 xs i).f1) ∧ w.cell? ⟨(ad.add (i.toNat * 7)).block, (ad.add (i.toNat * 7)).off + 2, none⟩ = some (.int .i64 (rd_T102 xs i).f2) ∧ w.cell? ⟨(ad.add (i.toNat * 7)).block, (ad.add (i.toNat * 7)).off + 3, none⟩ = some (.bool (rd_T102 xs i).f3) ∧ w.cell? ⟨(ad.add (i.toNat * 7)).block, (ad.add (i.toNat * 7)).off + 4, none⟩ = some (.int .i64 (rd_T102 xs i).f4) ∧ w.cell? ⟨(ad.add (i.toNat * 7)).block, (ad.add (i.toNat * 7)).off + 5, none⟩ = some (.slice A5 (rd_T102 xs i).f5.length c5) ∧ w.cell? ⟨(ad.add (i.toNat * 7)).block, (ad.add (i.toNat * 7)).off + 6, none⟩ = some (.slice A6 (rd_T102 xs i).f6.length c6) ∧ (rd_T102 xs i).f5.length ≤ c5 ∧ (Kd.int .u8).C w A5 (rd_T102 xs i).f5.length (rd_T102 xs i).f5 ∧ (rd_T102 xs i).f6.length ≤ c6 ∧ k153.C w A6 (rd_T102 xs i).f6.length (rd_T102 xs i).f6 := by
  obtain ⟨ad, c, e, _, hK, hc0⟩ := Kd.C_get h z102 i h0 h1
  have hc : ∀ j u, c[j]? = some u → w.cell? (ad.add (i.toNat * 7 + j)) = some u := hc0
  obtain ⟨A5, c5, A6, c6, rfl, l5, g5, l6, g6⟩ := k102_open hK
  exact ⟨ad, A5, c5, A6, c6, e, hc 0 _ rfl, by rw [← add_field _ _ 1 (by omega)]; exact hc 1 _ rfl, by rw [← add_field _ _ 2 (by omega)]; exact hc 2 _ rfl, by rw [← add_field _ _ 3 (by omega)]; exact hc 3 _ rfl, by rw [← add_field _ _ 4 (by omega)]; exact hc 4 _ rfl, by rw [← add_field _ _ 5 (by omega)]; exact hc 5 _ rfl, by rw [← add_field _ _ 6 (by omega)]; exact hc 6 _ rfl, l5, g5, l6, g6⟩
structure S122 where
  f0 : ByteArray
  f1 : Int
def z122 : S122 := ⟨(⟨#[]⟩ : ByteArray), (0 : Int)⟩
def k122 : Kd S122 := Kd.iso (Kd.pair Kd.string (Kd.int .i64)) (fun x : S122 => (x.f0, x.f1))
theorem k122_open {w : World} {x : S122} {cs : List Value} (h : k122.K w x cs) : cs = [.string x.f0, .int .i64 x.f1] := by
  obtain ⟨_, _, rfl, rfl, rfl⟩ := h
  exact rfl
theorem k122_mkM (w : World) (base : Nat) (ok : Nat → Prop) (x : S122)  : k122.M w base ok x [.string x.f0, .int .i64 x.f1] := ⟨[.string x.f0], [.int .i64 x.f1], rfl, rfl, rfl⟩
def rd_T122 (xs : List S122) (i : Int) : S122 := xs.getD i.toNat z122
theorem at_T122 {w : World} {A : Option Addr} {n : Nat} {xs : List S122} (h : Kd.C k122 w A n xs) (i : Int) (h0 : 0 ≤ i) (h1 : i < n) : ∃ ad , A = some ad ∧ w.cell? (ad.add (i.toNat * 2)) = some (.string (rd_T122 xs i).f0) ∧ w.cell? ⟨(ad.add (i.toNat * 2)).block, (ad.add (i.toNat * 2)).off + 1, none⟩ = some (.int .i64 (rd_T122 xs i).f1) := by
  obtain ⟨ad, c, e, _, hK, hc0⟩ := Kd.C_get h z122 i h0 h1
  have hc : ∀ j u, c[j]? = some u → w.cell? (ad.add (i.toNat * 2 + j)) = some u := hc0
  obtain rfl := k122_open hK
  exact ⟨ad, e, hc 0 _ rfl, by rw [← add_field _ _ 1 (by omega)]; exact hc 1 _ rfl⟩
end Go.Proofs.Ytmcfihpbiilbcaa.E
end
section
-- functions and contracts of this seat, written by the kit's print program for several roots at once; not the print of a statement
namespace Go.Proofs.Ytmcfihpbiilbcaa.E
open Go.RowKit Go.Proofs.YtmcfihpbiilbcaaW.PrintWords Go.Proofs.YtmcfihpbiilbcaaW.PrintLast Go.Proofs.YtmcfihpbiilbcaaW.PrintMore
attribute [local go_sem] max2_int min2_int max_two min_two max_three min_three max_four min_four   -- for this text's walks alone
set_option linter.unusedVariables false
set_option linter.unusedSimpArgs false
def scan_letter.f (a0 : Int) : Option (Bool) := if a0 ≥ 97 then (if a0 ≤ 122 then (some true) else (if a0 ≥ 65 then (if a0 ≤ 90 then (some true) else (if a0 ≥ 48 then (if a0 ≤ 57 then (some true) else (if a0 = 95 then (some true) else (some (a0 == 46)))) else (if a0 = 95 then (some true) else (some (a0 == 46))))) else (if a0 ≥ 48 then (if a0 ≤ 57 then (some true) else (if a0 = 95 then (some true) else (some (a0 == 46)))) else (if a0 = 95 then (some true) else (some (a0 == 46)))))) else (if a0 ≥ 65 then (if a0 ≤ 90 then (some true) else (if a0 ≥ 48 then (if a0 ≤ 57 then (some true) else (if a0 = 95 then (some true) else (some (a0 == 46)))) else (if a0 = 95 then (some true) else (some (a0 == 46))))) else (if a0 ≥ 48 then (if a0 ≤ 57 then (some true) else (if a0 = 95 then (some true) else (some (a0 == 46)))) else (if a0 = 95 then (some true) else (some (a0 == 46)))))
set_option maxHeartbeats 8000000 in
set_option maxRecDepth 100000 in
theorem scan_letter.calls (a0 : Int) (r : Bool) (w : World) (h : scan_letter.f a0 = some r) :
    Calls Try.prog 83 #[.int .u8 a0] w fun e w' => e = .returned (.bool r) ∧ Drawn0 w w' := by
  have H : (if a0 ≥ 97 then (if a0 ≤ 122 then (some true) else (if a0 ≥ 65 then (if a0 ≤ 90 then (some true) else (if a0 ≥ 48 then (if a0 ≤ 57 then (some true) else (if a0 = 95 then (some true) else (some (a0 == 46)))) else (if a0 = 95 then (some true) else (some (a0 == 46))))) else (if a0 ≥ 48 then (if a0 ≤ 57 then (some true) else (if a0 = 95 then (some true) else (some (a0 == 46)))) else (if a0 = 95 then (some true) else (some (a0 == 46)))))) else (if a0 ≥ 65 then (if a0 ≤ 90 then (some true) else (if a0 ≥ 48 then (if a0 ≤ 57 then (some true) else (if a0 = 95 then (some true) else (some (a0 == 46)))) else (if a0 = 95 then (some true) else (some (a0 == 46))))) else (if a0 ≥ 48 then (if a0 ≤ 57 then (some true) else (if a0 = 95 then (some true) else (some (a0 == 46)))) else (if a0 = 95 then (some true) else (some (a0 == 46)))))) = some r := h
  clear h
  by_cases c2 : a0 ≥ 97
  · rw [if_pos c2] at H
    have c2b0 : decide (97 ≤ a0) = true := decide_eq_true c2
    clear c2
    by_cases c3 : a0 ≤ 122
    · rw [if_pos c3] at H
      have c3b0 : decide (a0 ≤ 122) = true := decide_eq_true c3
      clear c3
      obtain rfl := Option.some.inj H
      go_enter Try.func83, Try.ntmps83
      go_wp2
      go_ret
      exact ⟨by first | rfl | (simp; done) | (simp [*]; done), by repeat (first | exact Drawn0.refl _ | apply Drawn0.step)⟩
    · rw [if_neg c3] at H
      have c3b0 : decide (a0 ≤ 122) = false := decide_eq_false c3
      clear c3
      by_cases c4 : a0 ≥ 65
      · rw [if_pos c4] at H
        have c4b0 : decide (65 ≤ a0) = true := decide_eq_true c4
        clear c4
        by_cases c5 : a0 ≤ 90
        · rw [if_pos c5] at H
          have c5b0 : decide (a0 ≤ 90) = true := decide_eq_true c5
          clear c5
          obtain rfl := Option.some.inj H
          go_enter Try.func83, Try.ntmps83
          go_wp2
          go_ret
          exact ⟨by first | rfl | (simp; done) | (simp [*]; done), by repeat (first | exact Drawn0.refl _ | apply Drawn0.step)⟩
        · rw [if_neg c5] at H
          have c5b0 : decide (a0 ≤ 90) = false := decide_eq_false c5
          clear c5
          by_cases c6 : a0 ≥ 48
          · rw [if_pos c6] at H
            have c6b0 : decide (48 ≤ a0) = true := decide_eq_true c6
            clear c6
            by_cases c7 : a0 ≤ 57
            · rw [if_pos c7] at H
              have c7b0 : decide (a0 ≤ 57) = true := decide_eq_true c7
              clear c7
              obtain rfl := Option.some.inj H
              go_enter Try.func83, Try.ntmps83
              go_wp2
              go_ret
              exact ⟨by first | rfl | (simp; done) | (simp [*]; done), by repeat (first | exact Drawn0.refl _ | apply Drawn0.step)⟩
            · rw [if_neg c7] at H
              have c7b0 : decide (a0 ≤ 57) = false := decide_eq_false c7
              clear c7
              by_cases c8 : a0 = 95
              · rw [if_pos c8] at H
                have c8b0 : (a0 == 95) = true := beq_iff_eq.mpr c8
                have c8b1 : (a0 != 95) = false := bne_eq_false_iff_eq.mpr c8
                clear c8
                obtain rfl := Option.some.inj H
                go_enter Try.func83, Try.ntmps83
                go_wp2
                go_ret
                exact ⟨by first | rfl | (simp; done) | (simp [*]; done), by repeat (first | exact Drawn0.refl _ | apply Drawn0.step)⟩
              · rw [if_neg c8] at H
                have c8b0 : (a0 == 95) = false := beq_eq_false_iff_ne.mpr c8
                have c8b1 : (a0 != 95) = true := bne_iff_ne.mpr c8
                obtain rfl := Option.some.inj H
                go_enter Try.func83, Try.ntmps83
                go_wp2
                go_ret
                exact ⟨by first | rfl | (simp; done) | (simp [*]; done), by repeat (first | exact Drawn0.refl _ | apply Drawn0.step)⟩
          · rw [if_neg c6] at H
            have c6b0 : decide (48 ≤ a0) = false := decide_eq_false c6
            clear c6
            by_cases c9 : a0 = 95
            · rw [if_pos c9] at H
              have c9b0 : (a0 == 95) = true := beq_iff_eq.mpr c9
              have c9b1 : (a0 != 95) = false := bne_eq_false_iff_eq.mpr c9
              clear c9
              obtain rfl := Option.some.inj H
              go_enter Try.func83, Try.ntmps83
              go_wp2
              go_ret
              exact ⟨by first | rfl | (simp; done) | (simp [*]; done), by repeat (first | exact Drawn0.refl _ | apply Drawn0.step)⟩
            · rw [if_neg c9] at H
              have c9b0 : (a0 == 95) = false := beq_eq_false_iff_ne.mpr c9
              have c9b1 : (a0 != 95) = true := bne_iff_ne.mpr c9
              obtain rfl := Option.some.inj H
              go_enter Try.func83, Try.ntmps83
              go_wp2
              go_ret
              exact ⟨by first | rfl | (simp; done) | (simp [*]; done), by repeat (first | exact Drawn0.refl _ | apply Drawn0.step)⟩
      · rw [if_neg c4] at H
        have c4b0 : decide (65 ≤ a0) = false := decide_eq_false c4
        clear c4
        by_cases c10 : a0 ≥ 48
        · rw [if_pos c10] at H
          have c10b0 : decide (48 ≤ a0) = true := decide_eq_true c10
          clear c10
          by_cases c11 : a0 ≤ 57
          · rw [if_pos c11] at H
            have c11b0 : decide (a0 ≤ 57) = true := decide_eq_true c11
            clear c11
            obtain rfl := Option.some.inj H
            go_enter Try.func83, Try.ntmps83
            go_wp2
            go_ret
            exact ⟨by first | rfl | (simp; done) | (simp [*]; done), by repeat (first | exact Drawn0.refl _ | apply Drawn0.step)⟩
          · rw [if_neg c11] at H
            have c11b0 : decide (a0 ≤ 57) = false := decide_eq_false c11
            clear c11
            by_cases c12 : a0 = 95
            · rw [if_pos c12] at H
              have c12b0 : (a0 == 95) = true := beq_iff_eq.mpr c12
              have c12b1 : (a0 != 95) = false := bne_eq_false_iff_eq.mpr c12
              clear c12
              obtain rfl := Option.some.inj H
              go_enter Try.func83, Try.ntmps83
              go_wp2
              go_ret
              exact ⟨by first | rfl | (simp; done) | (simp [*]; done), by repeat (first | exact Drawn0.refl _ | apply Drawn0.step)⟩
            · rw [if_neg c12] at H
              have c12b0 : (a0 == 95) = false := beq_eq_false_iff_ne.mpr c12
              have c12b1 : (a0 != 95) = true := bne_iff_ne.mpr c12
              obtain rfl := Option.some.inj H
              go_enter Try.func83, Try.ntmps83
              go_wp2
              go_ret
              exact ⟨by first | rfl | (simp; done) | (simp [*]; done), by repeat (first | exact Drawn0.refl _ | apply Drawn0.step)⟩
        · rw [if_neg c10] at H
          have c10b0 : decide (48 ≤ a0) = false := decide_eq_false c10
          clear c10
          by_cases c13 : a0 = 95
          · rw [if_pos c13] at H
            have c13b0 : (a0 == 95) = true := beq_iff_eq.mpr c13
            have c13b1 : (a0 != 95) = false := bne_eq_false_iff_eq.mpr c13
            clear c13
            obtain rfl := Option.some.inj H
            go_enter Try.func83, Try.ntmps83
            go_wp2
            go_ret
            exact ⟨by first | rfl | (simp; done) | (simp [*]; done), by repeat (first | exact Drawn0.refl _ | apply Drawn0.step)⟩
          · rw [if_neg c13] at H
            have c13b0 : (a0 == 95) = false := beq_eq_false_iff_ne.mpr c13
            have c13b1 : (a0 != 95) = true := bne_iff_ne.mpr c13
            obtain rfl := Option.some.inj H
            go_enter Try.func83, Try.ntmps83
            go_wp2
            go_ret
            exact ⟨by first | rfl | (simp; done) | (simp [*]; done), by repeat (first | exact Drawn0.refl _ | apply Drawn0.step)⟩
  · rw [if_neg c2] at H
    have c2b0 : decide (97 ≤ a0) = false := decide_eq_false c2
    clear c2
    by_cases c14 : a0 ≥ 65
    · rw [if_pos c14] at H
      have c14b0 : decide (65 ≤ a0) = true := decide_eq_true c14
      clear c14
      by_cases c15 : a0 ≤ 90
      · rw [if_pos c15] at H
        have c15b0 : decide (a0 ≤ 90) = true := decide_eq_true c15
        clear c15
        obtain rfl := Option.some.inj H
        go_enter Try.func83, Try.ntmps83
        go_wp2
        go_ret
        exact ⟨by first | rfl | (simp; done) | (simp [*]; done), by repeat (first | exact Drawn0.refl _ | apply Drawn0.step)⟩
      · rw [if_neg c15] at H
        have c15b0 : decide (a0 ≤ 90) = false := decide_eq_false c15
        clear c15
        by_cases c16 : a0 ≥ 48
        · rw [if_pos c16] at H
          have c16b0 : decide (48 ≤ a0) = true := decide_eq_true c16
          clear c16
          by_cases c17 : a0 ≤ 57
          · rw [if_pos c17] at H
            have c17b0 : decide (a0 ≤ 57) = true := decide_eq_true c17
            clear c17
            obtain rfl := Option.some.inj H
            go_enter Try.func83, Try.ntmps83
            go_wp2
            go_ret
            exact ⟨by first | rfl | (simp; done) | (simp [*]; done), by repeat (first | exact Drawn0.refl _ | apply Drawn0.step)⟩
          · rw [if_neg c17] at H
            have c17b0 : decide (a0 ≤ 57) = false := decide_eq_false c17
            clear c17
            by_cases c18 : a0 = 95
            · rw [if_pos c18] at H
              have c18b0 : (a0 == 95) = true := beq_iff_eq.mpr c18
              have c18b1 : (a0 != 95) = false := bne_eq_false_iff_eq.mpr c18
              clear c18
              obtain rfl := Option.some.inj H
              go_enter Try.func83, Try.ntmps83
              go_wp2
              go_ret
              exact ⟨by first | rfl | (simp; done) | (simp [*]; done), by repeat (first | exact Drawn0.refl _ | apply Drawn0.step)⟩
            · rw [if_neg c18] at H
              have c18b0 : (a0 == 95) = false := beq_eq_false_iff_ne.mpr c18
              have c18b1 : (a0 != 95) = true := bne_iff_ne.mpr c18
              obtain rfl := Option.some.inj H
              go_enter Try.func83, Try.ntmps83
              go_wp2
              go_ret
              exact ⟨by first | rfl | (simp; done) | (simp [*]; done), by repeat (first | exact Drawn0.refl _ | apply Drawn0.step)⟩
        · rw [if_neg c16] at H
          have c16b0 : decide (48 ≤ a0) = false := decide_eq_false c16
          clear c16
          by_cases c19 : a0 = 95
          · rw [if_pos c19] at H
            have c19b0 : (a0 == 95) = true := beq_iff_eq.mpr c19
            have c19b1 : (a0 != 95) = false := bne_eq_false_iff_eq.mpr c19
            clear c19
            obtain rfl := Option.some.inj H
            go_enter Try.func83, Try.ntmps83
            go_wp2
            go_ret
            exact ⟨by first | rfl | (simp; done) | (simp [*]; done), by repeat (first | exact Drawn0.refl _ | apply Drawn0.step)⟩
          · rw [if_neg c19] at H
            have c19b0 : (a0 == 95) = false := beq_eq_false_iff_ne.mpr c19
            have c19b1 : (a0 != 95) = true := bne_iff_ne.mpr c19
            obtain rfl := Option.some.inj H
            go_enter Try.func83, Try.ntmps83
            go_wp2
            go_ret
            exact ⟨by first | rfl | (simp; done) | (simp [*]; done), by repeat (first | exact Drawn0.refl _ | apply Drawn0.step)⟩
    · rw [if_neg c14] at H
      have c14b0 : decide (65 ≤ a0) = false := decide_eq_false c14
      clear c14
      by_cases c20 : a0 ≥ 48
      · rw [if_pos c20] at H
        have c20b0 : decide (48 ≤ a0) = true := decide_eq_true c20
        clear c20
        by_cases c21 : a0 ≤ 57
        · rw [if_pos c21] at H
          have c21b0 : decide (a0 ≤ 57) = true := decide_eq_true c21
          clear c21
          obtain rfl := Option.some.inj H
          go_enter Try.func83, Try.ntmps83
          go_wp2
          go_ret
          exact ⟨by first | rfl | (simp; done) | (simp [*]; done), by repeat (first | exact Drawn0.refl _ | apply Drawn0.step)⟩
        · rw [if_neg c21] at H
          have c21b0 : decide (a0 ≤ 57) = false := decide_eq_false c21
          clear c21
          by_cases c22 : a0 = 95
          · rw [if_pos c22] at H
            have c22b0 : (a0 == 95) = true := beq_iff_eq.mpr c22
            have c22b1 : (a0 != 95) = false := bne_eq_false_iff_eq.mpr c22
            clear c22
            obtain rfl := Option.some.inj H
            go_enter Try.func83, Try.ntmps83
            go_wp2
            go_ret
            exact ⟨by first | rfl | (simp; done) | (simp [*]; done), by repeat (first | exact Drawn0.refl _ | apply Drawn0.step)⟩
          · rw [if_neg c22] at H
            have c22b0 : (a0 == 95) = false := beq_eq_false_iff_ne.mpr c22
            have c22b1 : (a0 != 95) = true := bne_iff_ne.mpr c22
            obtain rfl := Option.some.inj H
            go_enter Try.func83, Try.ntmps83
            go_wp2
            go_ret
            exact ⟨by first | rfl | (simp; done) | (simp [*]; done), by repeat (first | exact Drawn0.refl _ | apply Drawn0.step)⟩
      · rw [if_neg c20] at H
        have c20b0 : decide (48 ≤ a0) = false := decide_eq_false c20
        clear c20
        by_cases c23 : a0 = 95
        · rw [if_pos c23] at H
          have c23b0 : (a0 == 95) = true := beq_iff_eq.mpr c23
          have c23b1 : (a0 != 95) = false := bne_eq_false_iff_eq.mpr c23
          clear c23
          obtain rfl := Option.some.inj H
          go_enter Try.func83, Try.ntmps83
          go_wp2
          go_ret
          exact ⟨by first | rfl | (simp; done) | (simp [*]; done), by repeat (first | exact Drawn0.refl _ | apply Drawn0.step)⟩
        · rw [if_neg c23] at H
          have c23b0 : (a0 == 95) = false := beq_eq_false_iff_ne.mpr c23
          have c23b1 : (a0 != 95) = true := bne_iff_ne.mpr c23
          obtain rfl := Option.some.inj H
          go_enter Try.func83, Try.ntmps83
          go_wp2
          go_ret
          exact ⟨by first | rfl | (simp; done) | (simp [*]; done), by repeat (first | exact Drawn0.refl _ | apply Drawn0.step)⟩
def spliceref01_Same.l0 : Nat → List Int → List Int → Int → Option (Bool)
  | 0, _, _, _ => none
  | k + 1, x0, x1, x5 => if x5 < (x0.length : Int) then (if 0 ≤ x5 then (if x5 < (x1.length : Int) then (if (rd x0 x5) = (rd x1 x5) then (spliceref01_Same.l0 k x0 x1 (wrap64 (x5 + 1))) else (some false)) else (none)) else (none)) else (some true)
def spliceref01_Same.f (k : Nat) (l0 : List Int) (l1 : List Int) : Option (Bool) := if (l0.length : Int) = (l1.length : Int) then (spliceref01_Same.l0 k l0 l1 0) else (some false)
theorem spliceref01_Same.mono_l : ∀ k, (∀ y0 y1 y2, LeO (spliceref01_Same.l0 k y0 y1 y2) (spliceref01_Same.l0 (k + 1) y0 y1 y2))
  | 0 => fun _ _ _ r h => by simp [spliceref01_Same.l0] at h
  | k + 1 => by
    have ih0 := spliceref01_Same.mono_l k
    · intro y0 y1 y2
      unfold spliceref01_Same.l0
      repeat' first
      | (with_reducible exact ih0 _ _ _)
      | (with_reducible exact LeO.refl _)
      | (with_reducible exact LeO.none _)
      | (with_reducible refine LeO.ite ?_ ?_)
      | (with_reducible refine LeO.bind ?_ (fun _ => ?_))
      | exact ih0 _ _ _
      | exact LeO.none _
      | refine LeO.ite ?_ ?_
      | refine LeO.bind ?_ (fun _ => ?_)
theorem spliceref01_Same.mono : ∀ a0 a1 k, LeO (spliceref01_Same.f k a0 a1) (spliceref01_Same.f (k + 1) a0 a1) := by
  intro a0 a1 k
  have ih0 := spliceref01_Same.mono_l k
  unfold spliceref01_Same.f
  repeat' first
      | (with_reducible exact ih0 _ _ _)
      | (with_reducible exact LeO.refl _)
      | (with_reducible exact LeO.none _)
      | (with_reducible refine LeO.ite ?_ ?_)
      | (with_reducible refine LeO.bind ?_ (fun _ => ?_))
      | exact ih0 _ _ _
      | exact LeO.none _
      | refine LeO.ite ?_ ?_
      | refine LeO.bind ?_ (fun _ => ?_)
set_option maxHeartbeats 8000000 in
set_option maxRecDepth 100000 in
theorem spliceref01_Same.calls (k : Nat) (A0 : Option Addr) (c0 : Nat) (l0 : List Int) (A1 : Option Addr) (c1 : Nat) (l1 : List Int) (r : Bool) (w : World) (hr0 : Kd.C (Kd.int .u8) w A0 l0.length l0) (hc0 : l0.length ≤ c0) (hr1 : Kd.C (Kd.int .u8) w A1 l1.length l1) (hc1 : l1.length ≤ c1) (h : spliceref01_Same.f k l0 l1 = some r) :
    Calls Try.prog 32 #[.slice A0 l0.length c0, .slice A1 l1.length c1] w fun e w' => e = .returned (.bool r) ∧ Drawn0 w w' := by
  have HR0 := Aside0.mk hr0
  have HC0 := Aside0.mk hc0
  clear hr0 hc0
  have HR1 := Aside0.mk hr1
  have HC1 := Aside0.mk hc1
  clear hr1 hc1
  have H : (if (l0.length : Int) = (l1.length : Int) then (spliceref01_Same.l0 k l0 l1 0) else (some false)) = some r := h
  clear h
  by_cases c3 : (l0.length : Int) = (l1.length : Int)
  · rw [if_pos c3] at H
    have c3b0 : ((l0.length : Int) == (l1.length : Int)) = true := beq_iff_eq.mpr c3
    have c3b1 : ((l0.length : Int) != (l1.length : Int)) = false := bne_eq_false_iff_eq.mpr c3
    have c3b2 : (l0.length == l1.length) = true := by first | simpa using c3 | (simp at c3 ⊢; omega)
    clear c3
    have H' := Aside0.mk H
    clear H
    go_enter Try.func32, Try.ntmps32
    go_wp2
    repeat (go_quiet (fail); try go_wp2)
    go_loopg [5] k (fun kq v5 w' => ∃ (x5_1 : Int), v5 = .int .i64 x5_1 ∧ Aside0 (spliceref01_Same.l0 kq l0 l1 x5_1 = some r) ∧ Aside0 (kq ≤ k) ∧ Drawn0 w w')
    case atStart => exact ⟨(0), (by first | rfl | (simp; done) | (simp [*]; done)), H', ⟨Nat.le_refl _⟩, by repeat (first | exact Drawn0.refl _ | apply Drawn0.step)⟩
    case round =>
      clear H'
      try clear c1
      try clear p2
      try clear c3
      try clear c3b0
      try clear c3b1
      try clear c3b2
      obtain ⟨x5_1, rfl, HA, HK1, ⟨m1, rfl⟩⟩ := hrel
      cases gk with
      | zero => exact absurd HA.out (by simp [spliceref01_Same.l0])
      | succ k1 =>
        have H := HA.out
        clear HA
        simp only [spliceref01_Same.l0] at H
        by_cases c4 : x5_1 < (l0.length : Int)
        · rw [if_pos c4] at H
          have c4b0 : decide (x5_1 < (l0.length : Int)) = true := decide_eq_true c4
          clear c4
          by_cases c5 : 0 ≤ x5_1
          · rw [if_pos c5] at H
            have c5b0 : decide (0 ≤ x5_1) = true := decide_eq_true c5
            clear c5
            by_cases c6 : x5_1 < (l1.length : Int)
            · rw [if_pos c6] at H
              have c6b0 : decide (x5_1 < (l1.length : Int)) = true := decide_eq_true c6
              clear c6
              by_cases c7 : (rd l0 x5_1) = (rd l1 x5_1)
              · rw [if_pos c7] at H
                have c7b0 : ((rd l0 x5_1) == (rd l1 x5_1)) = true := beq_iff_eq.mpr c7
                have c7b1 : ((rd l0 x5_1) != (rd l1 x5_1)) = false := bne_eq_false_iff_eq.mpr c7
                clear c7
                have H' := Aside0.mk H
                clear H
                have p101 : 0 ≤ (x5_1 : Int) := of_decide_eq_true (by first | (with_reducible assumption) | assumption)
                have q101 : x5_1 < (l0.length : Int) := of_decide_eq_true (by first | (with_reducible assumption) | assumption)
                obtain ⟨ad101, e101, hx101_0⟩ := Kd.at_int HR0.out x5_1 p101 q101
                cases e101
                replace p101 := eq_true p101
                replace q101 := eq_true q101
                have p102 : 0 ≤ (x5_1 : Int) := of_decide_eq_true (by first | (with_reducible assumption) | assumption)
                have q102 : x5_1 < (l1.length : Int) := of_decide_eq_true (by first | (with_reducible assumption) | assumption)
                obtain ⟨ad102, e102, hx102_0⟩ := Kd.at_int HR1.out x5_1 p102 q102
                cases e102
                replace p102 := eq_true p102
                replace q102 := eq_true q102
                go_wp2
                repeat (go_quiet (fail); try go_wp2)
                go_roundg k1
                case measure => have := HK1.out; omega
                case rel => exact ⟨(wrap64 (x5_1 + 1)), (by first | rfl | (simp; done) | (simp [*]; done)), H', ⟨by have := HK1.out; omega⟩, by repeat (first | exact Drawn0.refl _ | apply Drawn0.step)⟩
              · rw [if_neg c7] at H
                have c7b0 : ((rd l0 x5_1) == (rd l1 x5_1)) = false := beq_eq_false_iff_ne.mpr c7
                have c7b1 : ((rd l0 x5_1) != (rd l1 x5_1)) = true := bne_iff_ne.mpr c7
                obtain rfl := Option.some.inj H
                have p101 : 0 ≤ (x5_1 : Int) := of_decide_eq_true (by first | (with_reducible assumption) | assumption)
                have q101 : x5_1 < (l0.length : Int) := of_decide_eq_true (by first | (with_reducible assumption) | assumption)
                obtain ⟨ad101, e101, hx101_0⟩ := Kd.at_int HR0.out x5_1 p101 q101
                cases e101
                replace p101 := eq_true p101
                replace q101 := eq_true q101
                have p102 : 0 ≤ (x5_1 : Int) := of_decide_eq_true (by first | (with_reducible assumption) | assumption)
                have q102 : x5_1 < (l1.length : Int) := of_decide_eq_true (by first | (with_reducible assumption) | assumption)
                obtain ⟨ad102, e102, hx102_0⟩ := Kd.at_int HR1.out x5_1 p102 q102
                cases e102
                replace p102 := eq_true p102
                replace q102 := eq_true q102
                go_wp2
                repeat (go_quiet (fail); try go_wp2)
                go_ret
                exact ⟨by first | rfl | (simp; done) | (simp [*]; done), by repeat (first | exact Drawn0.refl _ | apply Drawn0.step)⟩
            · rw [if_neg c6] at H
              exact absurd H (by simp)
          · rw [if_neg c5] at H
            exact absurd H (by simp)
        · rw [if_neg c4] at H
          have c4b0 : decide (x5_1 < (l0.length : Int)) = false := decide_eq_false c4
          clear c4
          obtain rfl := Option.some.inj H
          go_wp2
          repeat (go_quiet (fail); try go_wp2)
          go_ret
          exact ⟨by first | rfl | (simp; done) | (simp [*]; done), by repeat (first | exact Drawn0.refl _ | apply Drawn0.step)⟩
  · rw [if_neg c3] at H
    have c3b0 : ((l0.length : Int) == (l1.length : Int)) = false := beq_eq_false_iff_ne.mpr c3
    have c3b1 : ((l0.length : Int) != (l1.length : Int)) = true := bne_iff_ne.mpr c3
    have c3b2 : (l0.length == l1.length) = false := by first | simpa using c3 | (simp at c3 ⊢; omega)
    obtain rfl := Option.some.inj H
    go_enter Try.func32, Try.ntmps32
    go_wp2
    repeat (go_quiet (fail); try go_wp2)
    go_ret
    exact ⟨by first | rfl | (simp; done) | (simp [*]; done), by repeat (first | exact Drawn0.refl _ | apply Drawn0.step)⟩
def spliceref01_Get.l0 : Nat → List Int → Int → Int → Option (Int)
  | 0, _, _, _ => none
  | k + 1, x0, x3, x4 => if x4 ≥ 0 then (if x4 < (x0.length : Int) then (if 0 ≤ x4 then (spliceref01_Get.l0 k x0 (wrap64 ((wrap64 (256 * x3)) + (wrap64 (rd x0 x4)))) (wrap64 (x4 - 1))) else (none)) else (spliceref01_Get.l0 k x0 (wrap64 (256 * x3)) (wrap64 (x4 - 1)))) else (some ((x3) % 4294967296))
def spliceref01_Get.f (k : Nat) (l0 : List Int) : Option (Int) := spliceref01_Get.l0 k l0 0 3
theorem spliceref01_Get.mono_l : ∀ k, (∀ y0 y1 y2, LeO (spliceref01_Get.l0 k y0 y1 y2) (spliceref01_Get.l0 (k + 1) y0 y1 y2))
  | 0 => fun _ _ _ r h => by simp [spliceref01_Get.l0] at h
  | k + 1 => by
    have ih0 := spliceref01_Get.mono_l k
    · intro y0 y1 y2
      unfold spliceref01_Get.l0
      repeat' first
      | (with_reducible exact ih0 _ _ _)
      | (with_reducible exact LeO.refl _)
      | (with_reducible exact LeO.none _)
      | (with_reducible refine LeO.ite ?_ ?_)
      | (with_reducible refine LeO.bind ?_ (fun _ => ?_))
      | exact ih0 _ _ _
      | exact LeO.none _
      | refine LeO.ite ?_ ?_
      | refine LeO.bind ?_ (fun _ => ?_)
theorem spliceref01_Get.mono : ∀ a0 k, LeO (spliceref01_Get.f k a0) (spliceref01_Get.f (k + 1) a0) := by
  intro a0 k
  have ih0 := spliceref01_Get.mono_l k
  unfold spliceref01_Get.f
  repeat' first
      | (with_reducible exact ih0 _ _ _)
      | (with_reducible exact LeO.refl _)
      | (with_reducible exact LeO.none _)
      | (with_reducible refine LeO.ite ?_ ?_)
      | (with_reducible refine LeO.bind ?_ (fun _ => ?_))
      | exact ih0 _ _ _
      | exact LeO.none _
      | refine LeO.ite ?_ ?_
      | refine LeO.bind ?_ (fun _ => ?_)
set_option maxHeartbeats 8000000 in
set_option maxRecDepth 100000 in
theorem spliceref01_Get.calls (k : Nat) (A0 : Option Addr) (c0 : Nat) (l0 : List Int) (r : Int) (w : World) (hr0 : Kd.C (Kd.int .u8) w A0 l0.length l0) (hc0 : l0.length ≤ c0) (h : spliceref01_Get.f k l0 = some r) :
    Calls Try.prog 86 #[.slice A0 l0.length c0] w fun e w' => e = .returned (.int .u32 r) ∧ Drawn0 w w' := by
  have HR0 := Aside0.mk hr0
  have HC0 := Aside0.mk hc0
  clear hr0 hc0
  have H : (spliceref01_Get.l0 k l0 0 3) = some r := h
  clear h
  have H' := Aside0.mk H
  clear H
  go_enter Try.func86, Try.ntmps86
  go_wp2
  go_loopg [3, 4] k (fun kq v3 v4 w' => ∃ (x3_1 : Int) (x4_1 : Int), v3 = .int .i64 x3_1 ∧ v4 = .int .i64 x4_1 ∧ Aside0 (spliceref01_Get.l0 kq l0 x3_1 x4_1 = some r) ∧ Aside0 (kq ≤ k) ∧ Drawn0 w w')
  case atStart => exact ⟨(0), (3), (by first | rfl | (simp; done) | (simp [*]; done)), (by first | rfl | (simp; done) | (simp [*]; done)), H', ⟨Nat.le_refl _⟩, by repeat (first | exact Drawn0.refl _ | apply Drawn0.step)⟩
  case round =>
    clear H'
    obtain ⟨x3_1, x4_1, rfl, rfl, HA, HK1, ⟨m1, rfl⟩⟩ := hrel
    cases gk with
    | zero => exact absurd HA.out (by simp [spliceref01_Get.l0])
    | succ k1 =>
      have H := HA.out
      clear HA
      simp only [spliceref01_Get.l0] at H
      by_cases c2 : x4_1 ≥ 0
      · rw [if_pos c2] at H
        have c2b0 : decide (0 ≤ x4_1) = true := decide_eq_true c2
        clear c2
        by_cases c3 : x4_1 < (l0.length : Int)
        · rw [if_pos c3] at H
          have c3b0 : decide (x4_1 < (l0.length : Int)) = true := decide_eq_true c3
          clear c3
          by_cases c4 : 0 ≤ x4_1
          · rw [if_pos c4] at H
            have c4b0 : decide (0 ≤ x4_1) = true := decide_eq_true c4
            clear c4
            have H' := Aside0.mk H
            clear H
            have p106 : 0 ≤ (x4_1 : Int) := of_decide_eq_true (by first | (with_reducible assumption) | assumption)
            have q106 : x4_1 < (l0.length : Int) := of_decide_eq_true (by first | (with_reducible assumption) | assumption)
            obtain ⟨ad106, e106, hx106_0⟩ := Kd.at_int HR0.out x4_1 p106 q106
            cases e106
            replace p106 := eq_true p106
            replace q106 := eq_true q106
            go_wp2
            go_roundg k1
            case measure => have := HK1.out; omega
            case rel => exact ⟨(wrap64 ((wrap64 (256 * x3_1)) + (wrap64 (rd l0 x4_1)))), (wrap64 (x4_1 - 1)), (by first | rfl | (simp; done) | (simp [*]; done)), (by first | rfl | (simp; done) | (simp [*]; done)), H', ⟨by have := HK1.out; omega⟩, by repeat (first | exact Drawn0.refl _ | apply Drawn0.step)⟩
          · rw [if_neg c4] at H
            exact absurd H (by simp)
        · rw [if_neg c3] at H
          have c3b0 : decide (x4_1 < (l0.length : Int)) = false := decide_eq_false c3
          clear c3
          have H' := Aside0.mk H
          clear H
          go_wp2
          go_roundg k1
          case measure => have := HK1.out; omega
          case rel => exact ⟨(wrap64 (256 * x3_1)), (wrap64 (x4_1 - 1)), (by first | rfl | (simp; done) | (simp [*]; done)), (by first | rfl | (simp; done) | (simp [*]; done)), H', ⟨by have := HK1.out; omega⟩, by repeat (first | exact Drawn0.refl _ | apply Drawn0.step)⟩
      · rw [if_neg c2] at H
        have c2b0 : decide (0 ≤ x4_1) = false := decide_eq_false c2
        clear c2
        obtain rfl := Option.some.inj H
        go_wp2
        go_ret
        exact ⟨by first | rfl | (simp; done) | (simp [*]; done), by repeat (first | exact Drawn0.refl _ | apply Drawn0.step)⟩
def bits_Get.l0 : Nat → List Int → Int → Int → Int → Option (Int)
  | 0, _, _, _, _ => none
  | k + 1, x0, x3, x7, x8 => if x8 < x7 then (if 0 ≤ x8 then (if x8 < (x0.length : Int) then (if 0 ≤ (wrap64 (8 * x8)) then (bits_Get.l0 k x0 (Go.bits .or .u32 x3 (shl .u32 ((rd x0 x8) % 4294967296) (wrap64 (8 * x8)))) x7 (wrap64 (x8 + 1))) else (none)) else (none)) else (none)) else (some x3)
def bits_Get.f (k : Nat) (l0 : List Int) : Option (Int) := bits_Get.l0 k l0 0 (mn 4 (l0.length : Int)) 0
set_option maxHeartbeats 8000000 in
set_option maxRecDepth 100000 in
theorem bits_Get.calls (k : Nat) (A0 : Option Addr) (c0 : Nat) (l0 : List Int) (r : Int) (w : World) (hr0 : Kd.C (Kd.int .u8) w A0 l0.length l0) (hc0 : l0.length ≤ c0) (h : bits_Get.f k l0 = some r) :
    Calls Try.prog 87 #[.slice A0 l0.length c0] w fun e w' => e = .returned (.int .u32 r) ∧ Below w.heap.size w w' := by
  have HR0 := Aside0.mk hr0
  have HC0 := Aside0.mk hc0
  clear hr0 hc0
  have HB := Aside0.mk (Below.refl w.heap.size w)
  have H : (bits_Get.l0 k l0 0 (mn 4 (l0.length : Int)) 0) = some r := h
  clear h
  obtain ⟨ji2, hji2⟩ : ∃ j_ : Int, (mn 4 (l0.length : Int)) = j_ := ⟨_, rfl⟩
  replace H : (bits_Get.l0 k l0 0 ji2 0) = some r := by first | (rw [hji2] at H; exact H) | (simp only [hji2] at H ⊢; exact H)
  (try (have hji2h : ji2 ≤ 4 := by (rw [← hji2]; unfold mn; (repeat' split) <;> omega)))
  (try (have hji2g : ji2 ≤ 64 := by omega))
  (try (have hji2l : 0 ≤ ji2 := by (rw [← hji2]; unfold mn; (repeat' split) <;> omega)))
  (try (have hji2m : 0 ≤ ji2 := by omega))
  have hji2_ : (if (l0.length : Int) < 4 then (l0.length : Int) else 4) = ji2 := hji2
  have H' := Aside0.mk H
  clear H
  go_enter Try.func87, Try.ntmps87
  go_wp2
  go_loopg [3, 8] k (fun kq v3 v8 w' => ∃ (x3_1 : Int) (x8_1 : Int), v3 = .int .u32 x3_1 ∧ v8 = .int .i64 x8_1 ∧ Aside0 (bits_Get.l0 kq l0 x3_1 ji2 x8_1 = some r) ∧ Aside0 (kq ≤ k) ∧ Aside0 (Below w.heap.size w w'))
  case atStart => exact ⟨(0), (0), (by first | rfl | (simp; done) | (simp [*]; done)), (by first | rfl | (simp; done) | (simp [*]; done)), H', ⟨Nat.le_refl _⟩, ⟨by repeat (first | (with_reducible first | exact HB.out | apply below_alloc | apply pw_below_drewN | apply below_drew1) | exact HB.out)⟩⟩
  case round =>
    clear H'
    try clear p2
    obtain ⟨x3_1, x8_1, rfl, rfl, HA, HK1, HB⟩ := hrel
    cases gk with
    | zero => exact absurd HA.out (by simp [bits_Get.l0])
    | succ k1 =>
      have H := HA.out
      clear HA
      simp only [bits_Get.l0] at H
      by_cases c3 : x8_1 < ji2
      · rw [if_pos c3] at H
        have c3b0 : decide (x8_1 < ji2) = true := decide_eq_true c3
        clear c3
        by_cases c4 : 0 ≤ x8_1
        · rw [if_pos c4] at H
          have c4b0 : decide (0 ≤ x8_1) = true := decide_eq_true c4
          clear c4
          by_cases c5 : x8_1 < (l0.length : Int)
          · rw [if_pos c5] at H
            have c5b0 : decide (x8_1 < (l0.length : Int)) = true := decide_eq_true c5
            clear c5
            obtain ⟨ji6, hji6⟩ : ∃ j_ : Int, (wrap64 (8 * x8_1)) = j_ := ⟨_, rfl⟩
            replace H : (if 0 ≤ (ji6) then (bits_Get.l0 k1 l0 (Go.bits .or .u32 x3_1 (shl .u32 ((rd l0 x8_1) % 4294967296) (ji6))) ji2 (wrap64 (x8_1 + 1))) else (none)) = some r := by first | (rw [hji6] at H; exact H) | (simp only [hji6] at H ⊢; exact H)
            have hji6w : (IntKind.i64.wrap (8 * x8_1)) = ji6 := (i64_w _).trans hji6
            by_cases c7 : 0 ≤ (ji6)
            · rw [if_pos c7] at H
              have c7b0 := eq_true c7
              have c7b1 : decide (0 ≤ (ji6)) = true := decide_eq_true c7
              clear c7
              obtain ⟨ji8, hji8⟩ : ∃ j_ : Int, (shl .u32 ((rd l0 x8_1) % 4294967296) (ji6)) = j_ := ⟨_, rfl⟩
              replace H : (bits_Get.l0 k1 l0 (Go.bits .or .u32 x3_1 (ji8)) ji2 (wrap64 (x8_1 + 1))) = some r := by first | (rw [hji8] at H; exact H) | (simp only [hji8] at H ⊢; exact H)
              have hji8_ : (IntKind.u32.wrap (((rd l0 x8_1) % 4294967296) * 2 ^ min (ji6).toNat 32)) = ji8 := hji8
              have hji8z : (ji6) ≤ 32 → (IntKind.u32.wrap (((rd l0 x8_1) % 4294967296) * 2 ^ (ji6).toNat)) = ji8 := shl_small hji8
              have H' := Aside0.mk H
              clear H
              have p107 : 0 ≤ (x8_1 : Int) := of_decide_eq_true (by first | (with_reducible assumption) | assumption)
              have q107 : x8_1 < (l0.length : Int) := of_decide_eq_true (by first | (with_reducible assumption) | assumption)
              obtain ⟨ad107, e107, hx107_0⟩ := Kd.at_int HR0.out x8_1 p107 q107
              cases e107
              replace hx107_0 := (HB.out.cell (World.block_lt_of_cell? w _ hx107_0)).trans hx107_0
              replace p107 := eq_true p107
              replace q107 := eq_true q107
              go_wp2
              go_roundg k1
              case measure => have := HK1.out; omega
              case rel => exact ⟨(Go.bits .or .u32 x3_1 (ji8)), (wrap64 (x8_1 + 1)), (by first | rfl | (simp; done) | (simp only [← hji8] <;> (first | rfl | simp)) | (simp [*]; done)), (by first | rfl | (simp; done) | (simp [*]; done)), H', ⟨by have := HK1.out; omega⟩, ⟨by repeat (first | (with_reducible first | exact HB.out | apply below_alloc | apply pw_below_drewN | apply below_drew1) | exact HB.out)⟩⟩
            · rw [if_neg c7] at H
              exact absurd H (by simp)
          · rw [if_neg c5] at H
            exact absurd H (by simp)
        · rw [if_neg c4] at H
          exact absurd H (by simp)
      · rw [if_neg c3] at H
        have c3b0 : decide (x8_1 < ji2) = false := decide_eq_false c3
        clear c3
        obtain rfl := Option.some.inj H
        go_wp2
        go_ret
        exact ⟨by first | rfl | (simp [errW_none, errW_some] <;> rfl) | (simp only [← hji2]; first | rfl | (simp [errW_none, errW_some] <;> rfl)) | (simp [*, errW_none, errW_some] <;> rfl), by repeat (first | (with_reducible first | exact HB.out | apply below_alloc | apply pw_below_drewN | apply below_drew1) | exact HB.out)⟩
def scan_PutName.f (a0 : ByteArray) : Option (List Int) := (some (([((a0.size : Int)) % 256] : List Int) : List Int)).bind fun y108 => (if y108.length + a0.size < 140737488355328 then (some (y108 ++ bytesOf a0)) else (none))
set_option maxHeartbeats 8000000 in
set_option maxRecDepth 100000 in
theorem scan_PutName.calls (a0 : ByteArray) (r : List Int) (w : World) (h : scan_PutName.f a0 = some r) :
    Calls Try.prog 37 #[.string a0] w fun e w' => ∃ v0_ : Value, e = .returned (v0_) ∧ Kd.R (Kd.int .u8) 5 w' w.heap.size (fun _ => True) v0_ r ∧ Below w.heap.size w w' := by
  have HB := Aside0.mk (Below.refl w.heap.size w)
  have H : ((some (([((a0.size : Int)) % 256] : List Int) : List Int)).bind fun y108 => (if y108.length + a0.size < 140737488355328 then (some (y108 ++ bytesOf a0)) else (none))) = some r := h
  clear h
  obtain ⟨y108, hy108⟩ : ∃ y_ : List Int, y_ = (([((a0.size : Int)) % 256] : List Int)) := ⟨_, rfl⟩
  replace H : (if y108.length + a0.size < 140737488355328 then (some (y108 ++ bytesOf a0)) else (none)) = some r := by first | (rw [hy108]; with_reducible exact H) | (have H2_ := (Option.bind_some _ _).symm.trans H; rw [hy108]; with_reducible exact H2_) | (have H2_ := (Option.bind_some _ _).symm.trans H; with_reducible exact H2_) | with_reducible exact H | (rw [hy108]; exact H) | exact H
  have Ny108 := Aside0.mk hy108
  clear hy108
  by_cases c2 : y108.length + a0.size < 140737488355328
  · rw [if_pos c2] at H
    have LMc2 := Aside0.mk c2
    clear c2
    obtain ⟨y111, hy111⟩ : ∃ y_ : List Int, y_ = (y108 ++ bytesOf a0) := ⟨_, rfl⟩
    replace H : (some y111) = some r := by first | (rw [hy111]; with_reducible exact H) | (have H2_ := (Option.bind_some _ _).symm.trans H; rw [hy111]; with_reducible exact H2_) | (have H2_ := (Option.bind_some _ _).symm.trans H; with_reducible exact H2_) | with_reducible exact H | (rw [hy111]; exact H) | exact H
    have Ny111 := Aside0.mk hy111
    clear hy111
    obtain rfl := Option.some.inj H
    go_enter Try.func37, Try.ntmps37
    go_wp2_with (first | ((with_reducible refine gate_dst (N := 6) rfl ?_); refine Kd.R_lit (Kd.int .u8) _ 5 ?hg (N := 6) ?hd (xs := ([((a0.size : Int)) % 256] : List Int)) (inner := [.int .u8 (((a0.size : Int)) % 256)]) (ok := fun _ => True) (okp := fun _ => True) ?hr ?hp (fun _ hk => hk) trivial (Below.refl _ _) (Nat.le_refl _) (by simp) ?_; (case hd => rfl); (case hg => rfl); (case hr => first | (go_simp; done) | (go_simp; rfl)); (case hp => exact (Reps.one (show Kd.M (Kd.int .u8) _ _ _ (((a0.size : Int)) % 256) [.int .u8 (((a0.size : Int)) % 256)] from rfl) (Reps.none _ _))); intro v109 w3 ho4 hb hg_ hnew_; clear hg_ hnew_; (first | rw [← Ny108.out] at ho4 | (simp only [Int.reduceToNat] at ho4; rw [← Ny108.out] at ho4)); have n0_ := Aside0.mk (Kd.R_lower ho4 (below_size (by repeat (first | (with_reducible first | exact HB.out | apply below_alloc | apply pw_below_drewN | apply below_drew1) | exact HB.out)))); have n1_ := Aside0.mk (below_step (by repeat (first | (with_reducible first | exact HB.out | apply below_alloc | apply pw_below_drewN | apply below_drew1) | exact HB.out)) hb); clear HB; have HO110 := n0_; have HB := n1_; clear n0_ n1_; clear hb ho4) | (at_builtin; refine print_append_str (w0 := w) w.heap.size rfl (.tmp 6) _ 22 9 5 rfl Try.underlying22 Try.underlying9 info5 v109 y108 a0 rfl rfl ?aO ?aB ?aS ?aL ?_; (case aB => exact (by repeat (first | (with_reducible first | exact HB.out | apply below_alloc | apply pw_below_drewN | apply below_drew1) | exact HB.out))); (case aO => exact (Kd.own_of_R (by (with_reducible repeat (first | apply Kd.R_alloc | apply Kd.R_drewN | apply Kd.R_drew)); exact HO110.out))); (case aS => exact (below_size (by repeat (first | (with_reducible first | exact HB.out | apply below_alloc | apply pw_below_drewN | apply below_drew1) | exact HB.out)))); (case aL => have := LMc2.out; omega); intro v112 w5 ho0 hb hg; have ho := Kd.R_of_own (h1 := fun _ => rfl) (ok := fun _ => True) ho0 (fun _ _ => trivial); clear ho0; have hat := True.intro; rw [← Ny111.out] at ho; change Kd.R (Kd.int .u8) 5 w5 w.heap.size (fun _ => True) v112 y111 at ho; have n0_ := Aside0.mk (hb); have n1_ := Aside0.mk (ho); clear HB; clear HO110; have HB := n0_; have HO113 := n1_; clear n0_ n1_; clear ho hb hg hat))
    go_ret
    exact ⟨_, by first | rfl | (simp [errW_none, errW_some] <;> rfl) | (simp [*, errW_none, errW_some] <;> rfl), by (with_reducible repeat (first | apply Kd.R_alloc | apply Kd.R_drewN | apply Kd.R_drew)); exact HO113.out, by repeat (first | (with_reducible first | exact HB.out | apply below_alloc | apply pw_below_drewN | apply below_drew1) | exact HB.out)⟩
  · rw [if_neg c2] at H
    exact absurd H (by simp)
end Go.Proofs.Ytmcfihpbiilbcaa.E
end
section
-- functions and contracts of this seat, written by the kit's print program for several roots at once; not the print of a statement
namespace Go.Proofs.Ytmcfihpbiilbcaa.E
open Go.RowKit Go.Proofs.YtmcfihpbiilbcaaW.PrintWords Go.Proofs.YtmcfihpbiilbcaaW.PrintLast Go.Proofs.YtmcfihpbiilbcaaW.PrintMore
attribute [local go_sem] max2_int min2_int max_two min_two max_three min_three max_four min_four   -- for this text's walks alone
set_option linter.unusedVariables false
set_option linter.unusedSimpArgs false
def spliceref01_Words.l0 : Nat → List Int → List Int → Int → Option (Bool)
  | 0, _, _, _ => none
  | k + 1, x0, x1, x5 => if x5 < (x0.length : Int) then (if 0 ≤ x5 then (if x5 < (x1.length : Int) then (if (rd x0 x5) = (rd x1 x5) then (spliceref01_Words.l0 k x0 x1 (wrap64 (x5 + 1))) else (some false)) else (none)) else (none)) else (some true)
def spliceref01_Words.f (k : Nat) (l0 : List Int) (l1 : List Int) : Option (Bool) := if (l0.length : Int) = (l1.length : Int) then (spliceref01_Words.l0 k l0 l1 0) else (some false)
theorem spliceref01_Words.mono_l : ∀ k, (∀ y0 y1 y2, LeO (spliceref01_Words.l0 k y0 y1 y2) (spliceref01_Words.l0 (k + 1) y0 y1 y2))
  | 0 => fun _ _ _ r h => by simp [spliceref01_Words.l0] at h
  | k + 1 => by
    have ih0 := spliceref01_Words.mono_l k
    · intro y0 y1 y2
      unfold spliceref01_Words.l0
      repeat' first
      | (with_reducible exact ih0 _ _ _)
      | (with_reducible exact LeO.refl _)
      | (with_reducible exact LeO.none _)
      | (with_reducible refine LeO.ite ?_ ?_)
      | (with_reducible refine LeO.bind ?_ (fun _ => ?_))
      | exact ih0 _ _ _
      | exact LeO.none _
      | refine LeO.ite ?_ ?_
      | refine LeO.bind ?_ (fun _ => ?_)
theorem spliceref01_Words.mono : ∀ a0 a1 k, LeO (spliceref01_Words.f k a0 a1) (spliceref01_Words.f (k + 1) a0 a1) := by
  intro a0 a1 k
  have ih0 := spliceref01_Words.mono_l k
  unfold spliceref01_Words.f
  repeat' first
      | (with_reducible exact ih0 _ _ _)
      | (with_reducible exact LeO.refl _)
      | (with_reducible exact LeO.none _)
      | (with_reducible refine LeO.ite ?_ ?_)
      | (with_reducible refine LeO.bind ?_ (fun _ => ?_))
      | exact ih0 _ _ _
      | exact LeO.none _
      | refine LeO.ite ?_ ?_
      | refine LeO.bind ?_ (fun _ => ?_)
set_option maxHeartbeats 8000000 in
set_option maxRecDepth 100000 in
theorem spliceref01_Words.calls (k : Nat) (A0 : Option Addr) (c0 : Nat) (l0 : List Int) (A1 : Option Addr) (c1 : Nat) (l1 : List Int) (r : Bool) (w : World) (hr0 : Kd.C (Kd.int .u32) w A0 l0.length l0) (hc0 : l0.length ≤ c0) (hr1 : Kd.C (Kd.int .u32) w A1 l1.length l1) (hc1 : l1.length ≤ c1) (h : spliceref01_Words.f k l0 l1 = some r) :
    Calls Try.prog 94 #[.slice A0 l0.length c0, .slice A1 l1.length c1] w fun e w' => e = .returned (.bool r) ∧ Drawn0 w w' := by
  have HR0 := Aside0.mk hr0
  have HC0 := Aside0.mk hc0
  clear hr0 hc0
  have HR1 := Aside0.mk hr1
  have HC1 := Aside0.mk hc1
  clear hr1 hc1
  have H : (if (l0.length : Int) = (l1.length : Int) then (spliceref01_Words.l0 k l0 l1 0) else (some false)) = some r := h
  clear h
  by_cases c3 : (l0.length : Int) = (l1.length : Int)
  · rw [if_pos c3] at H
    have c3b0 : ((l0.length : Int) == (l1.length : Int)) = true := beq_iff_eq.mpr c3
    have c3b1 : ((l0.length : Int) != (l1.length : Int)) = false := bne_eq_false_iff_eq.mpr c3
    have c3b2 : (l0.length == l1.length) = true := by first | simpa using c3 | (simp at c3 ⊢; omega)
    clear c3
    have H' := Aside0.mk H
    clear H
    go_enter Try.func94, Try.ntmps94
    go_wp2
    repeat (go_quiet (fail); try go_wp2)
    go_loopg [5] k (fun kq v5 w' => ∃ (x5_1 : Int), v5 = .int .i64 x5_1 ∧ Aside0 (spliceref01_Words.l0 kq l0 l1 x5_1 = some r) ∧ Aside0 (kq ≤ k) ∧ Drawn0 w w')
    case atStart => exact ⟨(0), (by first | rfl | (simp; done) | (simp [*]; done)), H', ⟨Nat.le_refl _⟩, by repeat (first | exact Drawn0.refl _ | apply Drawn0.step)⟩
    case round =>
      clear H'
      try clear c1
      try clear p2
      try clear c3
      try clear c3b0
      try clear c3b1
      try clear c3b2
      obtain ⟨x5_1, rfl, HA, HK1, ⟨m1, rfl⟩⟩ := hrel
      cases gk with
      | zero => exact absurd HA.out (by simp [spliceref01_Words.l0])
      | succ k1 =>
        have H := HA.out
        clear HA
        simp only [spliceref01_Words.l0] at H
        by_cases c4 : x5_1 < (l0.length : Int)
        · rw [if_pos c4] at H
          have c4b0 : decide (x5_1 < (l0.length : Int)) = true := decide_eq_true c4
          clear c4
          by_cases c5 : 0 ≤ x5_1
          · rw [if_pos c5] at H
            have c5b0 : decide (0 ≤ x5_1) = true := decide_eq_true c5
            clear c5
            by_cases c6 : x5_1 < (l1.length : Int)
            · rw [if_pos c6] at H
              have c6b0 : decide (x5_1 < (l1.length : Int)) = true := decide_eq_true c6
              clear c6
              by_cases c7 : (rd l0 x5_1) = (rd l1 x5_1)
              · rw [if_pos c7] at H
                have c7b0 : ((rd l0 x5_1) == (rd l1 x5_1)) = true := beq_iff_eq.mpr c7
                have c7b1 : ((rd l0 x5_1) != (rd l1 x5_1)) = false := bne_eq_false_iff_eq.mpr c7
                clear c7
                have H' := Aside0.mk H
                clear H
                have p115 : 0 ≤ (x5_1 : Int) := of_decide_eq_true (by first | (with_reducible assumption) | assumption)
                have q115 : x5_1 < (l0.length : Int) := of_decide_eq_true (by first | (with_reducible assumption) | assumption)
                obtain ⟨ad115, e115, hx115_0⟩ := Kd.at_int HR0.out x5_1 p115 q115
                cases e115
                replace p115 := eq_true p115
                replace q115 := eq_true q115
                have p116 : 0 ≤ (x5_1 : Int) := of_decide_eq_true (by first | (with_reducible assumption) | assumption)
                have q116 : x5_1 < (l1.length : Int) := of_decide_eq_true (by first | (with_reducible assumption) | assumption)
                obtain ⟨ad116, e116, hx116_0⟩ := Kd.at_int HR1.out x5_1 p116 q116
                cases e116
                replace p116 := eq_true p116
                replace q116 := eq_true q116
                go_wp2
                repeat (go_quiet (fail); try go_wp2)
                go_roundg k1
                case measure => have := HK1.out; omega
                case rel => exact ⟨(wrap64 (x5_1 + 1)), (by first | rfl | (simp; done) | (simp [*]; done)), H', ⟨by have := HK1.out; omega⟩, by repeat (first | exact Drawn0.refl _ | apply Drawn0.step)⟩
              · rw [if_neg c7] at H
                have c7b0 : ((rd l0 x5_1) == (rd l1 x5_1)) = false := beq_eq_false_iff_ne.mpr c7
                have c7b1 : ((rd l0 x5_1) != (rd l1 x5_1)) = true := bne_iff_ne.mpr c7
                obtain rfl := Option.some.inj H
                have p115 : 0 ≤ (x5_1 : Int) := of_decide_eq_true (by first | (with_reducible assumption) | assumption)
                have q115 : x5_1 < (l0.length : Int) := of_decide_eq_true (by first | (with_reducible assumption) | assumption)
                obtain ⟨ad115, e115, hx115_0⟩ := Kd.at_int HR0.out x5_1 p115 q115
                cases e115
                replace p115 := eq_true p115
                replace q115 := eq_true q115
                have p116 : 0 ≤ (x5_1 : Int) := of_decide_eq_true (by first | (with_reducible assumption) | assumption)
                have q116 : x5_1 < (l1.length : Int) := of_decide_eq_true (by first | (with_reducible assumption) | assumption)
                obtain ⟨ad116, e116, hx116_0⟩ := Kd.at_int HR1.out x5_1 p116 q116
                cases e116
                replace p116 := eq_true p116
                replace q116 := eq_true q116
                go_wp2
                repeat (go_quiet (fail); try go_wp2)
                go_ret
                exact ⟨by first | rfl | (simp; done) | (simp [*]; done), by repeat (first | exact Drawn0.refl _ | apply Drawn0.step)⟩
            · rw [if_neg c6] at H
              exact absurd H (by simp)
          · rw [if_neg c5] at H
            exact absurd H (by simp)
        · rw [if_neg c4] at H
          have c4b0 : decide (x5_1 < (l0.length : Int)) = false := decide_eq_false c4
          clear c4
          obtain rfl := Option.some.inj H
          go_wp2
          repeat (go_quiet (fail); try go_wp2)
          go_ret
          exact ⟨by first | rfl | (simp; done) | (simp [*]; done), by repeat (first | exact Drawn0.refl _ | apply Drawn0.step)⟩
  · rw [if_neg c3] at H
    have c3b0 : ((l0.length : Int) == (l1.length : Int)) = false := beq_eq_false_iff_ne.mpr c3
    have c3b1 : ((l0.length : Int) != (l1.length : Int)) = true := bne_iff_ne.mpr c3
    have c3b2 : (l0.length == l1.length) = false := by first | simpa using c3 | (simp at c3 ⊢; omega)
    obtain rfl := Option.some.inj H
    go_enter Try.func94, Try.ntmps94
    go_wp2
    repeat (go_quiet (fail); try go_wp2)
    go_ret
    exact ⟨by first | rfl | (simp; done) | (simp [*]; done), by repeat (first | exact Drawn0.refl _ | apply Drawn0.step)⟩
end Go.Proofs.Ytmcfihpbiilbcaa.E
end
section
namespace Go.Proofs.Ytmcfihpbiilbcaa.H
open Go.RowKit Go.Proofs.YtmcfihpbiilbcaaW.PrintWords Go.Proofs.YtmcfihpbiilbcaaW.PrintLast Go.Proofs.YtmcfihpbiilbcaaW.PrintMore Go.Proofs.Ytmcfihpbiilbcaa.E
set_option linter.unusedVariables false
set_option linter.unusedSimpArgs false
theorem wrap64_id {x : Int} (h0 : -9223372036854775808 ≤ x) (h1 : x ≤ 9223372036854775807) : wrap64 x = x := by unfold wrap64; omega
theorem hid {p : Prop} (h : p) : Hid p := h
def Bytes (l : List Int) : Prop := ∀ x ∈ l, 0 ≤ x ∧ x ≤ 255
def wordOf (l : List Int) : Int := l.getD 0 0 + 256 * l.getD 1 0 + 65536 * l.getD 2 0 + 16777216 * l.getD 3 0
theorem Bytes.get {l : List Int} (h : Bytes l) (i : Nat) : 0 ≤ l.getD i 0 ∧ l.getD i 0 ≤ 255 := by
  rw [List.getD_eq_getElem?_getD]
  rcases Nat.lt_or_ge i l.length with hi | hi
  · rw [List.getElem?_eq_getElem hi]; exact h _ (List.getElem_mem hi)
  · rw [List.getElem?_eq_none hi]; simp
theorem wordOf_range {l : List Int} (h : Bytes l) : 0 ≤ wordOf l ∧ wordOf l ≤ 4294967295 := by
  have h0 := h.get 0; have h1 := h.get 1; have h2 := h.get 2; have h3 := h.get 3
  unfold wordOf; omega
theorem or_join (p : Nat) (P : Int) (hP : P = 2 ^ p) (hp : p ≤ 24) (acc b : Int) (h0 : 0 ≤ acc) (h1 : acc < P) (h2 : 0 ≤ b) (h3 : b ≤ 255) : bits .or .u32 acc (b * P) = acc + b * P := by
  subst hP
  obtain ⟨A, rfl⟩ := Int.eq_ofNat_of_zero_le h0
  obtain ⟨B, rfl⟩ := Int.eq_ofNat_of_zero_le h2
  have hA : A < 2 ^ p := by have : ((A : Nat) : Int) < ((2 ^ p : Nat) : Int) := by simpa using h1
                            omega
  have hq : 2 ^ p ≤ 2 ^ 24 := Nat.pow_le_pow_right (by decide) hp
  have hB : B * 2 ^ p ≤ 255 * 2 ^ 24 := Nat.mul_le_mul (by omega) hq
  have e : ((B : Int) * 2 ^ p) = ((B * 2 ^ p : Nat) : Int) := by simp
  rw [e, u32_or_nat _ _ (by omega) (by omega), Nat.or_comm, nat_join p _ _ (by simp) hA]
  omega
theorem get_step (k : Nat) (l : List Int) (hl : Bytes l) (acc m i : Int) (p : Nat) (P : Int) (hP : P = 2 ^ p) (hp : (p : Int) = 8 * i) (hi0 : 0 ≤ i) (hi : i < m) (hm : m ≤ 4) (hil : i < (l.length : Int)) (h0 : 0 ≤ acc) (h1 : acc < P) :
    bits_Get.l0 (k + 1) l acc m i = bits_Get.l0 k l (acc + rd l i * P) m (i + 1) := by
  simp only [bits_Get.l0]
  have hb := hl.get i.toNat
  have hb' : 0 ≤ rd l i ∧ rd l i ≤ 255 := hb
  rw [if_pos hi, if_pos hi0, if_pos hil, wrap64_id (x := 8 * i) (by omega) (by omega), wrap64_id (x := i + 1) (by omega) (by omega), if_pos (by omega)]
  rw [show rd l i % 4294967296 = rd l i by omega]
  have e : shl .u32 (rd l i) (8 * i) = rd l i * P := by
    unfold shl
    rw [show (8 * i).toNat = p by omega, Nat.min_eq_left (by simp [IntKind.bits]; omega), ← hP, IntKind.wrap_u32']
    have hq : P ≤ 16777216 := by
      rw [hP]
      have : 2 ^ p ≤ 2 ^ 24 := Nat.pow_le_pow_right (by decide) (by omega)
      have h2 : ((2 ^ p : Nat) : Int) ≤ ((2 ^ 24 : Nat) : Int) := by omega
      simpa using h2
    have h3 : rd l i * P ≤ 255 * 16777216 := Int.mul_le_mul hb'.2 hq (by omega) (by omega)
    have h4 : 0 ≤ rd l i * P := Int.mul_nonneg hb'.1 (by omega)
    omega
  rw [e, or_join p P hP (by omega) acc (rd l i) h0 h1 hb'.1 hb'.2]
theorem get_end (k : Nat) (l : List Int) (acc m i : Int) (h : ¬ i < m) : bits_Get.l0 (k + 1) l acc m i = some acc := by
  simp only [bits_Get.l0]; rw [if_neg h]
theorem bitsGet_eq (l : List Int) (hl : Bytes l) : bits_Get.f 5 l = some (wordOf l) := by
  unfold bits_Get.f
  have h0 := hl.get 0; have h1 := hl.get 1; have h2 := hl.get 2; have h3 := hl.get 3
  have r0 : rd l 0 = l.getD 0 0 := rfl
  have r1 : rd l 1 = l.getD 1 0 := rfl
  have r2 : rd l 2 = l.getD 2 0 := rfl
  have r3 : rd l 3 = l.getD 3 0 := rfl
  have hd : ∀ j, l.length ≤ j → l.getD j 0 = 0 := fun j hj => by rw [List.getD_eq_getElem?_getD, List.getElem?_eq_none hj]; rfl
  unfold wordOf
  by_cases c0 : l.length = 0
  · rw [hd 0 (by omega), hd 1 (by omega), hd 2 (by omega), hd 3 (by omega)]
    rw [show mn 4 (l.length : Int) = 0 by unfold mn; rw [if_pos (by omega)]; omega, get_end _ _ _ _ _ (by omega)]
    rfl
  by_cases c1 : l.length = 1
  · rw [hd 1 (by omega), hd 2 (by omega), hd 3 (by omega)]
    rw [show mn 4 (l.length : Int) = 1 by unfold mn; rw [if_pos (by omega)]; omega, get_step 4 l hl 0 1 0 0 1 rfl (by omega) (by omega) (by omega) (by omega) (by omega) (by omega) (by omega), get_end _ _ _ _ _ (by omega), r0]
    congr 1; omega
  by_cases c2 : l.length = 2
  · rw [hd 2 (by omega), hd 3 (by omega)]
    rw [show mn 4 (l.length : Int) = 2 by unfold mn; rw [if_pos (by omega)]; omega, get_step 4 l hl 0 2 0 0 1 rfl (by omega) (by omega) (by omega) (by omega) (by omega) (by omega) (by omega),
      get_step 3 l hl _ 2 _ 8 256 rfl (by omega) (by omega) (by omega) (by omega) (by omega) (by omega) (by omega), get_end _ _ _ _ _ (by omega), r0, show (0 : Int) + 1 = 1 from rfl, r1]
    congr 1; omega
  by_cases c3 : l.length = 3
  · rw [hd 3 (by omega)]
    rw [show mn 4 (l.length : Int) = 3 by unfold mn; rw [if_pos (by omega)]; omega, get_step 4 l hl 0 3 0 0 1 rfl (by omega) (by omega) (by omega) (by omega) (by omega) (by omega) (by omega),
      get_step 3 l hl _ 3 _ 8 256 rfl (by omega) (by omega) (by omega) (by omega) (by omega) (by omega) (by omega), show (0 : Int) + 1 = 1 from rfl, get_step 2 l hl _ 3 _ 16 65536 rfl (by omega) (by omega) (by omega) (by omega) (by omega) (by omega) (by omega), get_end _ _ _ _ _ (by omega), r0, show (1 : Int) + 1 = 2 from rfl, r1, r2]
    congr 1; omega
  · rw [show mn 4 (l.length : Int) = 4 by unfold mn; split <;> omega, get_step 4 l hl 0 4 0 0 1 rfl (by omega) (by omega) (by omega) (by omega) (by omega) (by omega) (by omega),
      get_step 3 l hl _ 4 _ 8 256 rfl (by omega) (by omega) (by omega) (by omega) (by omega) (by omega) (by omega), show (0 : Int) + 1 = 1 from rfl, get_step 2 l hl _ 4 _ 16 65536 rfl (by omega) (by omega) (by omega) (by omega) (by omega) (by omega) (by omega), show (1 : Int) + 1 = 2 from rfl,
      get_step 1 l hl _ 4 _ 24 16777216 rfl (by omega) (by omega) (by omega) (by omega) (by omega) (by omega) (by omega), get_end _ _ _ _ _ (by omega), r0, show (2 : Int) + 1 = 3 from rfl, r1, r2, r3]
    congr 1; omega
theorem rget_in (k : Nat) (l : List Int) (hl : Bytes l) (acc i : Int) (h0 : 0 ≤ acc) (h1 : acc ≤ 4294967295) (hi0 : 0 ≤ i) (hi : i < (l.length : Int)) (h4 : i ≤ 3) :
    spliceref01_Get.l0 (k + 1) l acc i = spliceref01_Get.l0 k l (256 * acc + l.getD i.toNat 0) (i - 1) := by
  have hb := hl.get i.toNat
  simp only [spliceref01_Get.l0]
  rw [if_pos hi0, if_pos hi, if_pos hi0, show rd l i = l.getD i.toNat 0 from rfl, wrap64_id (x := l.getD i.toNat 0) (by omega) (by omega), wrap64_id (x := 256 * acc) (by omega) (by omega), wrap64_id (by omega) (by omega), wrap64_id (by omega) (by omega)]
theorem rget_out (k : Nat) (l : List Int) (acc i : Int) (h0 : 0 ≤ acc) (h1 : acc ≤ 4294967295) (hi0 : 0 ≤ i) (hi : ¬ i < (l.length : Int)) (h4 : i ≤ 3) :
    spliceref01_Get.l0 (k + 1) l acc i = spliceref01_Get.l0 k l (256 * acc + l.getD i.toNat 0) (i - 1) := by
  simp only [spliceref01_Get.l0]
  rw [if_pos hi0, if_neg hi, wrap64_id (x := 256 * acc) (by omega) (by omega), wrap64_id (by omega) (by omega), List.getD_eq_getElem?_getD, List.getElem?_eq_none (by omega)]
  simp
theorem rget (k : Nat) (l : List Int) (hl : Bytes l) (acc i : Int) (h0 : 0 ≤ acc) (h1 : acc ≤ 4294967295) (hi0 : 0 ≤ i) (h4 : i ≤ 3) :
    spliceref01_Get.l0 (k + 1) l acc i = spliceref01_Get.l0 k l (256 * acc + l.getD i.toNat 0) (i - 1) := by
  by_cases hi : i < (l.length : Int)
  · exact rget_in k l hl acc i h0 h1 hi0 hi h4
  · exact rget_out k l acc i h0 h1 hi0 hi h4
theorem refGet_eq (l : List Int) (hl : Bytes l) : spliceref01_Get.f 5 l = some (wordOf l) := by
  unfold spliceref01_Get.f
  have h0 := hl.get 0; have h1 := hl.get 1; have h2 := hl.get 2; have h3 := hl.get 3
  have e3 : ((3 : Int)).toNat = 3 := rfl
  have e2 : ((3 : Int) - 1) = 2 := rfl
  have e1 : ((2 : Int) - 1) = 1 := rfl
  have e0 : ((1 : Int) - 1) = 0 := rfl
  have t2 : ((2 : Int)).toNat = 2 := rfl
  have t1 : ((1 : Int)).toNat = 1 := rfl
  have t0 : ((0 : Int)).toNat = 0 := rfl
  rw [rget 4 l hl 0 3 (by omega) (by omega) (by omega) (by omega), e3, e2, rget 3 l hl _ 2 (by omega) (by omega) (by omega) (by omega), t2, e1, rget 2 l hl _ 1 (by omega) (by omega) (by omega) (by omega), t1, e0, rget 1 l hl _ 0 (by omega) (by omega) (by omega) (by omega), t0]
  simp only [spliceref01_Get.l0]
  rw [if_neg (by omega)]
  unfold wordOf
  congr 1
  omega
theorem same_from (a b : List Int) (hlen : a.length = b.length) (hL : a.length ≤ 4611686018427387904) : ∀ (d : Nat) (k : Nat) (i : Int), 0 ≤ i → i ≤ a.length → (a.length : Int) - i = d → d < k →
    spliceref01_Same.l0 k a b i = some (decide (a.drop i.toNat = b.drop i.toNat)) := by
  intro d
  induction d with
  | zero =>
    intro k i h0 h1 hd hk
    obtain ⟨k, rfl⟩ : ∃ m, k = m + 1 := ⟨k - 1, by omega⟩
    simp only [spliceref01_Same.l0]
    rw [if_neg (by omega), List.drop_eq_nil_of_le (by omega), List.drop_eq_nil_of_le (by omega)]
    simp
  | succ d ih =>
    intro k i h0 h1 hd hk
    obtain ⟨k, rfl⟩ : ∃ m, k = m + 1 := ⟨k - 1, by omega⟩
    simp only [spliceref01_Same.l0]
    have ha : i.toNat < a.length := by omega
    have hb : i.toNat < b.length := by omega
    rw [if_pos (by omega), if_pos h0, if_pos (by omega), List.drop_eq_getElem_cons ha, List.drop_eq_getElem_cons hb]
    have ra : rd a i = a[i.toNat] := by unfold rd; rw [List.getD_eq_getElem?_getD, List.getElem?_eq_getElem ha]; rfl
    have rb : rd b i = b[i.toNat] := by unfold rd; rw [List.getD_eq_getElem?_getD, List.getElem?_eq_getElem hb]; rfl
    rw [ra, rb]
    by_cases e : a[i.toNat] = b[i.toNat]
    · rw [if_pos e, wrap64_id (by omega) (by omega), ih k (i + 1) (by omega) (by omega) (by omega) (by omega), show (i + 1).toNat = i.toNat + 1 by omega, e]
      simp only [List.cons.injEq, true_and]
    · rw [if_neg e, decide_eq_false (fun h => e (List.cons.inj h).1)]
theorem refSame_eq (a b : List Int) (hL : a.length ≤ 4611686018427387904) : spliceref01_Same.f (a.length + 1) a b = some (decide (a = b)) := by
  unfold spliceref01_Same.f
  by_cases h : a.length = b.length
  · rw [if_pos (by omega), same_from a b h hL a.length (a.length + 1) 0 (by omega) (by omega) (by omega) (by omega)]
    simp
  · rw [if_neg (by omega)]
    have : a ≠ b := fun e => h (by rw [e])
    simp [this]
abbrev RB (w : World) (base : Nat) (v : Value) (l : List Int) : Prop := Kd.R (Kd.int .u8) 5 w base (fun _ => True) v l
abbrev CB (w : World) (A : Option Addr) (l : List Int) : Prop := Kd.C (Kd.int .u8) w A l.length l
theorem info5 : (Try.prog.info? 5).map (fun i => (i.zero, i.size, i.bytes)) = some (some (.int .u8 0), 1, 1) := by kernel_rfl
theorem app_c {ops : Array Oper} {rest : List Oper} {o : Oper} {a : Act} {Q : Exit → Act → World → Prop} {w0 W : World} (base : Nat) (hgd : o.guard = none) (s x : Operand)
    (ho : o.op = .call { callee := .builtin .append, args := #[s, x], argTypes := #[22, 22] }) (v : Value) (xs ys : List Int) (A : Option Addr) (c : Nat) (hs : a.eval s = v) (hx : a.eval x = .slice A ys.length c)
    (HO : RB W base v xs) (HR : CB W A ys) (HB : Below base w0 W) (hbase : base ≤ W.heap.size) (hl : xs.length + ys.length ≤ 140737488355328)
    (h : ∀ v1 w1, RB w1 base v1 (xs ++ ys) → Below base w0 w1 → W.grownBy w1 v.ownBlock → (v1.ownBlock = v.ownBlock ∨ ∃ b, v1.ownBlock = some b ∧ W.heap.size ≤ b) → wpList Try.prog ops Q rest (a.put o.dst v1) w1) :
    wpList Try.prog ops Q (o :: rest) a W :=
  Kd.R_append_row (Value.int .u8) 0 base hgd s x 22 5 (.int .u8 0) 1 ho Try.underlying22 info5 rfl (by omega) v xs ys A ys.length c (fun _ => True) hs hx (fun _ _ => trivial) HO HR HB hbase (by omega) h
theorem R_empty (w : World) : RB (w.alloc (.cells #[] 5)) w.heap.size (.slice (some ⟨w.heap.size, 0, none⟩) 0 0) [] :=
  ⟨fun _ _ => trivial, [], ⟨World.ownsRow_made w #[] 0 (Nat.le_refl _) (by decide) (by simp), Reps.none _ _⟩⟩
theorem eq_nil_some (a : Addr) (n c : Nat) (w : World) : (binOp .eql 22 (.slice (some a) n c) (.slice none 0 0)).run Try.prog w = .ok (.bool false) w := by
  have h : ∀ d : Nat, (Op.equalIn (d + 1) 22 (.slice (some a) n c) (.slice none 0 0)).run Try.prog w = .ok false w := fun d => by
    simp [Op.equalIn, run_underlying Try.underlying22]
  simp only [binOp]
  simp [Op.equal, Op.maxDepth, h 9999]
theorem eq_nil_none (n c : Nat) (w : World) : (binOp .eql 22 (.slice none n c) (.slice none 0 0)).run Try.prog w = .ok (.bool true) w := by
  have h : ∀ d : Nat, (Op.equalIn (d + 1) 22 (.slice none n c) (.slice none 0 0)).run Try.prog w = .ok true w := fun d => by
    simp [Op.equalIn, run_underlying Try.underlying22]
  simp only [binOp]
  simp [Op.equal, Op.maxDepth, h 9999]
theorem clone_c (A : Option Addr) (c : Nat) (l : List Int) (w : World) (hC : CB w A l) (hc : l.length ≤ c) (hl : l.length ≤ 140737488351232) :
    Calls Try.prog 80 #[.slice A l.length c] w fun e w' => ∃ v, e = .returned v ∧ RB w' w.heap.size v l ∧ Below w.heap.size w w' := by
  have HC := hid hC
  clear hC
  rcases A with _ | a
  · have hn : l = [] := by
      have := HC.out.2.2
      rcases Nat.eq_zero_or_pos l.length with h | h
      · exact List.eq_nil_of_length_eq_zero h
      · obtain ⟨ad, h, _⟩ := this h; cases h
    subst hn
    have he := eq_nil_none 0 c
    go_enter Try.func80, Try.ntmps80
    go_wp2
    go_ret
    exact ⟨_, rfl, Kd.R_nil _ _ _ _ _, Below.refl _ _⟩
  · have he := eq_nil_some a l.length c
    go_enter Try.func80, Try.ntmps80
    go_wp2_with (at_builtin; refine app_c (w0 := w) w.heap.size rfl (.tmp 5) (.tmp 6) rfl _ [] l (some a) c rfl rfl (R_empty w) (Kd.C_below HC.out ((Below.refl _ _).alloc (Nat.le_refl _) _)) ((Below.refl _ _).alloc (Nat.le_refl _) _) (by simp) (by simp; omega) ?_; intro v1 w1 hr hb hg hat)
    go_ret
    exact ⟨_, rfl, hr, hb⟩
def Sc (w : World) (B : Nat) (l : List Int) (i : Int) : Prop :=
  ∃ v, w.heap[B]? = some (.cells #[v, .int .i64 i] 106 (0, 0)) ∧ Kd.R (Kd.int .u8) 5 w 0 (fun k => k ≠ B) v l
theorem Sc.lt {w : World} {B : Nat} {l : List Int} {i : Int} (h : Sc w B l i) : B < w.heap.size := by
  obtain ⟨v, h, _⟩ := h
  exact (Array.getElem?_eq_some_iff.1 h).1
theorem Sc.keep {w w' : World} {B : Nat} {l : List Int} {i : Int} (h : Sc w B l i) (k : ∀ b, b < w.heap.size → w'.heap[b]? = w.heap[b]?) : Sc w' B l i := by
  obtain ⟨v, h1, h2⟩ := h
  exact ⟨v, (k B (Array.getElem?_eq_some_iff.1 h1).1).trans h1, Kd.R_step h2 (fun b _ hb => k b hb)⟩
theorem Sc.below {w w' : World} {B : Nat} {l : List Int} {i : Int} (h : Sc w B l i) (k : Below w.heap.size w w') : Sc w' B l i := h.keep k.block
theorem heap_set (w : World) (B : Nat) (a b u : Value) (t : TypeId) (h : w.heap[B]? = some (.cells #[a, b] t (0, 0))) : (w.setCell ⟨B, 1, none⟩ u).heap[B]? = some (.cells #[a, u] t (0, 0)) := by
  have h0 : B < w.heap.size := (Array.getElem?_eq_some_iff.1 h).1
  simp [World.setCell, Array.getElem?_modify, h]
theorem Sc.move {w : World} {B : Nat} {l : List Int} {i j : Int} (h : Sc w B l i) : Sc (w.setCell ⟨B, 1, none⟩ (.int .i64 j)) B l j := by
  obtain ⟨v, h1, h2⟩ := h
  exact ⟨v, heap_set w B _ _ _ _ h1, Kd.R_step h2 (fun b hb _ => Below.heap_setCell _ _ _ _ hb)⟩
theorem new_c (A : Option Addr) (c : Nat) (l : List Int) (w : World) (hC : CB w A l) (hc : l.length ≤ c) (hl : l.length ≤ 140737488351232) :
    Calls Try.prog 31 #[.slice A l.length c] w fun e w' => ∃ B, e = .returned (.pointer (some ⟨B, 0, none⟩)) ∧ w.heap.size ≤ B ∧ Sc w' B l 0 ∧ Below w.heap.size w w' := by
  have HC := hid hC
  clear hC
  go_enter Try.func31, Try.ntmps31
  go_wp2_with fail
  refine (clone_c A c l _ HC.out hc hl).mono ?_
  rintro e w1 ⟨v, rfl, hR, hb⟩
  obtain ⟨A1, c1, rfl, _, _⟩ := Kd.R_reads hR
  go_wp2
  go_ret
  refine ⟨w1.heap.size, rfl, hb.size, ⟨_, heap_alloc_new _ _, ?_⟩, below_alloc hb _⟩
  have h1 := Kd.R_bound hR
  exact Kd.R_lower (Kd.R_step (Kd.R_mono h1 (fun k hk => by have := hk.2.2.1; omega)) (fun b _ hb => Below.heap_alloc _ _ _ hb)) (Nat.zero_le _)
theorem Sc.cells {w : World} {B : Nat} {l : List Int} {i : Int} (h : Sc w B l i) : ∃ A c, w.cell? ⟨B, 0, none⟩ = some (.slice A l.length c) ∧ w.cell? ⟨B, 1, none⟩ = some (.int .i64 i) ∧ w.frozen? ⟨B, 1, none⟩ = false ∧ l.length ≤ c ∧ CB w A l ∧ (∀ a, A = some a → a.block ≠ B) := by
  obtain ⟨v, h1, h2⟩ := h
  obtain ⟨A, c, rfl, h3, h4⟩ := Kd.R_reads h2
  refine ⟨A, c, by simp [World.cell?, h1], by simp [World.cell?, h1], by simp [World.frozen?, h1], h3, h4, fun a ha => ?_⟩
  subst ha
  exact h2.1 a.block rfl
theorem blk2 {w : World} {B : Nat} {a b : Value} {t : TypeId} (h : w.heap[B]? = some (.cells #[a, b] t (0, 0))) :
    w.cell? ⟨B, 0, none⟩ = some a ∧ w.cell? ⟨B, 1, none⟩ = some b ∧ w.frozen? ⟨B, 0, none⟩ = false ∧ w.frozen? ⟨B, 1, none⟩ = false ∧ B < w.heap.size := by
  refine ⟨by simp [World.cell?, h], by simp [World.cell?, h], by simp [World.frozen?, h], by simp [World.frozen?, h], (Array.getElem?_eq_some_iff.1 h).1⟩
theorem left_c (B : Nat) (l : List Int) (i : Int) (w : World) (h : Sc w B l i) (h0 : 0 ≤ i) (h1 : i ≤ l.length) (hl : l.length ≤ 140737488351232) :
    Calls Try.prog 30 #[.pointer (some ⟨B, 0, none⟩)] w fun e w' => e = .returned (.int .i64 (l.length - i)) ∧ Drawn0 w w' := by
  obtain ⟨A, c, c0, c1, f1, hc, hC, hA⟩ := h.cells
  have HC := hid hC
  clear hC h
  have e0 : IntKind.i64.wrap ((l.length : Int) - i) = (l.length : Int) - i := IntWalk.i64_in _ (by omega)
  go_enter Try.func30, Try.ntmps30
  go_wp2
  go_quiet (fail)
  go_wp2
  go_ret
  exact ⟨rfl, ⟨⟨_, rfl⟩⟩⟩
def fail_ (e : Int) : List PanicEntry := [{ v := .iface 104 (.agg #[.int .i64 e]), recovered := false }]
theorem must_c (p : Value) (w : World) : Calls Try.prog 28 #[p, .bool true] w fun e w' => e = .returned (.tuple #[]) ∧ w' = w := by
  go_enter Try.func28, Try.ntmps28
  go_wp2
  first | go_end0 | refine bodyPost_ret (results_none rfl _ _ _) rfl ?_
  exact ⟨rfl, rfl⟩
theorem must_no (p : Value) (w : World) : Calls Try.prog 28 #[p, .bool false] w fun e w' => e = .panicked (fail_ 4) ∧ w' = w := by
  go_enter Try.func28, Try.ntmps28
  go_wp2
  exact ⟨rfl, rfl, rfl⟩
theorem bytes_no (B : Nat) (l : List Int) (i n : Int) (w : World) (h : Sc w B l i) (h0 : 0 ≤ i) (h1 : i ≤ l.length) (hl : l.length ≤ 140737488351232) (hn : (l.length : Int) - i < n) :
    Calls Try.prog 29 #[.pointer (some ⟨B, 0, none⟩), .int .i64 n] w fun e w' => e = .panicked (fail_ 2) ∧ Drawn0 w w' := by
  have HS := hid h
  clear h
  go_enter Try.func29, Try.ntmps29
  go_wp2_with (go_at_call 30; (with_reducible refine (left_c B l i _ HS.out h0 h1 hl).mono ?_); rintro e w' ⟨rfl, ⟨nd, rfl⟩⟩)
  exact ⟨rfl, rfl, ⟨⟨_, rfl⟩⟩⟩
def mid (l : List Int) (i n : Int) : List Int := (l.take (i + n).toNat).drop i.toNat
theorem mid_length {l : List Int} {i n : Int} (h0 : 0 ≤ i) (hn : 0 ≤ n) (h1 : i + n ≤ l.length) : (mid l i n).length = (i + n).toNat - i.toNat := by
  unfold mid; rw [List.length_drop, List.length_take]; omega
theorem mid_len {l : List Int} {i n : Int} (h0 : 0 ≤ i) (hn : 0 ≤ n) (h1 : i + n ≤ l.length) : ((mid l i n).length : Int) = n := by
  rw [mid_length h0 hn h1]; omega
set_option maxRecDepth 100000 in
theorem bytes_c (B : Nat) (l : List Int) (i n : Int) (w : World) (h : Sc w B l i) (h0 : 0 ≤ i) (h1 : i + n ≤ l.length) (hn : 0 ≤ n) (hl : l.length ≤ 140737488351232) :
    Calls Try.prog 29 #[.pointer (some ⟨B, 0, none⟩), .int .i64 n] w fun e w' => ∃ v, e = .returned v ∧ RB w' w.heap.size v (mid l i n) ∧ Below w.heap.size (w.setCell ⟨B, 1, none⟩ (.int .i64 (i + n))) w' := by
  have HS := hid h
  obtain ⟨v0, b1, b2⟩ := h
  obtain ⟨A, c, rfl, hc, _⟩ := Kd.R_reads b2
  have b3 : Kd.R (Kd.int .u8) 5 (w.setCell ⟨B, 1, none⟩ (.int .i64 (i + n))) 0 (fun k => k ≠ B) (.slice A l.length c) l := Kd.R_step b2 (fun b hb _ => Below.heap_setCell _ _ _ _ hb)
  obtain ⟨_, _, hC⟩ := Kd.R_reads' b3
  obtain ⟨q0, q1, q2, q3, q4⟩ := blk2 b1
  have q := hid b1
  clear b1 b2 b3
  obtain ⟨i5, hi5, _, hs5, _⟩ := info_parts info5
  have hcut := cut_mid 22 5 .i64 .i64 Try.underlying22 hi5 1 hs5 A l.length c i (i + n) h0 (by omega) h1 hc
  have hCm := Kd.C_mid (lo := i.toNat) (hi := (i + n).toNat) hC (by omega) (by omega) hc
  have hlm := mid_length h0 hn h1
  rw [← hlm] at hcut
  generalize hA' : (if c = i.toNat then A else A.map (·.add (i.toNat * 1))) = A' at hcut
  have HC : Hid (CB (w.setCell ⟨B, 1, none⟩ (.int .i64 (i + n))) A' (mid l i n)) := hid (hA' ▸ hCm)
  have hc' : (mid l i n).length ≤ c - i.toNat := by rw [hlm]; omega
  have hl' : (mid l i n).length ≤ 140737488351232 := by rw [hlm]; omega
  clear hA' hCm hC hlm
  have g0 : IntKind.i64.wrap (i + n) = i + n := IntWalk.i64_in _ (by omega)
  have g1 : IntKind.i64.wrap i = i := IntWalk.i64_in _ (by omega)
  have g2 : ¬ ((l.length : Int) - i < n) := by omega
  go_enter Try.func29, Try.ntmps29
  go_wp2_with (go_at_call 30; (with_reducible refine (left_c B l i _ HS.out h0 (by omega) hl).mono ?_); rintro e w' ⟨rfl, ⟨nd, rfl⟩⟩)
  have s0 : ((w.drewN nd).setCell ⟨B, 1, none⟩ (.int .i64 (i + n))).cell? ⟨B, 0, none⟩ = some (.slice A l.length c) := (blk2 (heap_set (w.drewN nd) B _ _ _ _ q.out)).1
  have s1 : ((w.drewN nd).setCell ⟨B, 1, none⟩ (.int .i64 (i + n))).cell? ⟨B, 1, none⟩ = some (.int .i64 (i + n)) := (blk2 (heap_set (w.drewN nd) B _ _ _ _ q.out)).2.1
  have HC2 : Hid (CB ((w.drewN nd).setCell ⟨B, 1, none⟩ (.int .i64 (i + n))) A' (mid l i n)) := HC
  have HB2 : Hid (Below w.heap.size (w.setCell ⟨B, 1, none⟩ (.int .i64 (i + n))) ((w.drewN nd).setCell ⟨B, 1, none⟩ (.int .i64 (i + n)))) := hid ⟨rfl, rfl, rfl, Nat.le_refl _, fun _ _ => rfl⟩
  have HZ : Hid (((w.drewN nd).setCell ⟨B, 1, none⟩ (.int .i64 (i + n))).heap.size = w.heap.size) := hid (by simp)
  generalize (w.drewN nd).setCell ⟨B, 1, none⟩ (.int .i64 (i + n)) = W at *
  go_still_tail 15, (by kernel_rfl)
  change wpList _ _ _ _ _ W.drew
  have HC3 : Hid (CB W.drew A' (mid l i n)) := HC2
  have HB3 : Hid (Below w.heap.size (w.setCell ⟨B, 1, none⟩ (.int .i64 (i + n))) W.drew) := hid HB2.out.drew
  have HZ3 : Hid (W.drew.heap.size = w.heap.size) := HZ
  generalize W.drew = W2 at *
  go_wp2_with (go_at_call 80; (with_reducible refine (clone_c A' (c - i.toNat) (mid l i n) _ HC3.out hc' hl').mono ?_); rintro e w' ⟨v, rfl, hR, hb⟩)
  go_ret
  have hz := HZ3.out
  rw [hz] at hR hb
  exact ⟨v, rfl, hR, HB3.out.trans hb⟩
theorem Bytes.mid {l : List Int} (h : Bytes l) (i n : Int) : Bytes (mid l i n) := fun x hx => h x (List.mem_of_mem_take (List.mem_of_mem_drop hx))
theorem get_c (A : Option Addr) (c : Nat) (l : List Int) (w : World) (hr : CB w A l) (hc : l.length ≤ c) (hl : Bytes l) :
    Calls Try.prog 87 #[.slice A l.length c] w fun e w' => e = .returned (.int .u32 (wordOf l)) ∧ Below w.heap.size w w' := bits_Get.calls 5 A c l _ w hr hc (bitsGet_eq l hl)
theorem number_c (B : Nat) (l : List Int) (i n : Int) (w : World) (h : Sc w B l i) (h0 : 0 ≤ i) (h1 : i + n ≤ l.length) (hn : 0 ≤ n) (hl : l.length ≤ 140737488351232) (hb : Bytes l) :
    Calls Try.prog 41 #[.pointer (some ⟨B, 0, none⟩), .int .i64 n] w fun e w' => e = .returned (.int .i64 (wordOf (mid l i n))) ∧ Below w.heap.size (w.setCell ⟨B, 1, none⟩ (.int .i64 (i + n))) w' := by
  have hr := wordOf_range (hb.mid i n)
  have g0 : IntKind.i64.wrap (wordOf (mid l i n)) = wordOf (mid l i n) := IntWalk.i64_in _ (by omega)
  have HS := hid h
  clear h hr
  go_enter Try.func41, Try.ntmps41
  go_wp2_with fail
  refine (bytes_c B l i n _ HS.out h0 h1 hn hl).mono ?_
  rintro e w1 ⟨v, rfl, hR, hw⟩
  obtain ⟨A, c, rfl, hc, hC⟩ := Kd.R_reads hR
  have HW := hid hw
  have HC := hid hC
  clear hw hR hC
  go_wp2_with fail
  refine (get_c A c (mid l i n) _ HC.out hc (hb.mid i n)).mono ?_
  rintro e w2 ⟨rfl, hw2⟩
  have hz := HW.out.size
  have hz2 := hw2.mono (B' := w.heap.size) (by simpa using hz)
  have HW2 := hid (HW.out.trans hz2)
  clear hw2 hz hz2
  go_wp2
  go_ret
  exact ⟨rfl, HW2.out⟩
theorem number_no (B : Nat) (l : List Int) (i n : Int) (w : World) (h : Sc w B l i) (h0 : 0 ≤ i) (h1 : i ≤ l.length) (hl : l.length ≤ 140737488351232) (hn : (l.length : Int) - i < n) :
    Calls Try.prog 41 #[.pointer (some ⟨B, 0, none⟩), .int .i64 n] w fun e w' => e = .panicked (fail_ 2) ∧ Drawn0 w w' := by
  have HS := hid h
  clear h
  go_enter Try.func41, Try.ntmps41
  go_wp2_with fail
  refine (bytes_no B l i n _ HS.out h0 h1 hl hn).mono ?_
  rintro e w1 ⟨rfl, hd⟩
  exact ⟨rfl, rfl, hd⟩
def letterB (x : Int) : Bool := decide (97 ≤ x ∧ x ≤ 122 ∨ 65 ≤ x ∧ x ≤ 90 ∨ 48 ≤ x ∧ x ≤ 57 ∨ x = 95 ∨ x = 46)
theorem letter_q (x : Int) : scan_letter.f x = some (letterB x) := by
  unfold scan_letter.f letterB
  have e : ∀ (p : Prop) [Decidable p] (b : Bool), (p ↔ b = true) → some (decide p) = some b := fun p _ b h => by
    cases b <;> simp at h <;> simp [h]
  by_cases h1 : x ≥ 97 <;> by_cases h2 : x ≤ 122 <;> by_cases h3 : x ≥ 65 <;> by_cases h4 : x ≤ 90 <;> by_cases h5 : x ≥ 48 <;> by_cases h6 : x ≤ 57 <;> by_cases h7 : x = 95 <;> by_cases h8 : x = 46 <;> simp only [h1, h2, h3, h4, h5, h6, h7, h8, if_true, if_false, ge_iff_le] <;> first | omega | (symm; refine e _ _ ?_; first | (simp; done) | (simp; omega))
theorem named1_c (x : Int) (w : World) : Calls Try.prog 82 #[.int .u8 x] w fun e w' => e = .returned (.bool (!letterB x)) ∧ Drawn0 w w' := by
  go_enter Try.func82, Try.ntmps82
  go_wp2_with (go_at_call 83; (with_reducible refine (scan_letter.calls x _ _ (letter_q x)).mono ?_); rintro e w' ⟨rfl, ⟨nd, rfl⟩⟩)
  go_ret
  exact ⟨rfl, by repeat (first | exact Drawn0.refl _ | apply Drawn0.step)⟩
theorem index_c (A : Option Addr) (c : Nat) (l : List Int) (w : World) (hC : CB w A l) (hc : l.length ≤ c) (hl : l.length ≤ 140737488351232) :
    Calls Try.prog 128 #[.slice A l.length c, .func (.func 82) #[] #[]] w fun e w' => ∃ r : Int, e = .returned (.int .i64 r) ∧ decide (0 ≤ r) = !(l.all letterB) ∧ Drawn0 w w' := by
  have HC := hid hC
  clear hC
  go_enter Try.func128, Try.ntmps128
  go_wp2
  go_loopw [8] (fun s8 wx => ∃ k : Nat, k ≤ l.length ∧ s8 = .int .i64 k ∧ Hid ((l.take k).all letterB = true) ∧ Drawn0 w wx) (fun s8 _ => l.length - (intOf s8).toNat)
  case atStart => exact ⟨0, by omega, rfl, hid (by simp), Drawn0.refl _⟩
  case round =>
    obtain ⟨k, hk, rfl, hall, ⟨m, rfl⟩⟩ := hrel
    by_cases hlt : (k : Int) < (l.length : Int)
    · obtain ⟨ad, e, hcell⟩ := Kd.at_int HC.out (k : Int) (by omega) hlt
      subst e
      rw [Int.toNat_natCast] at hcell
      have q0 : 0 ≤ (k : Int) := by omega
      have hk1 : k < l.length := by omega
      have hx : rd l (k : Int) = l[k] := by simp [rd, List.getD_eq_getElem?_getD, List.getElem?_eq_getElem hk1]
      have HX := hid hx
      clear hx
      cases hb : letterB (rd l (k : Int))
      · have HB := hid hb
        have hv : (!letterB (rd l (k : Int))) = true := by rw [hb]; rfl
        clear hb
        go_wp2_with (go_at_call 82; (with_reducible refine (named1_c _ _).mono ?_); rw [hv]; rintro e w' ⟨rfl, ⟨nd, rfl⟩⟩)
        go_ret
        refine ⟨k, rfl, ?_, ⟨⟨_, rfl⟩⟩⟩
        have : l.all letterB = false := by
          rw [List.all_eq_false]
          exact ⟨l[k], List.getElem_mem hk1, by rw [← HX.out, HB.out]; decide⟩
        rw [this]; simp
      · have HB := hid hb
        have hv : (!letterB (rd l (k : Int))) = false := by rw [hb]; rfl
        clear hb
        have hw1 : IntKind.i64.wrap ((k : Int) + 1) = (k : Int) + 1 := IntWalk.i64_in _ (by omega)
        go_wp2_with (go_at_call 82; (with_reducible refine (named1_c _ _).mono ?_); rw [hv]; rintro e w' ⟨rfl, ⟨nd, rfl⟩⟩)
        go_roundw
        case rel =>
          refine ⟨k + 1, by omega, by go_num, hid ?_, ⟨⟨_, rfl⟩⟩⟩
          rw [List.take_add_one, List.all_append, hall.out]
          simp [List.getElem?_eq_getElem hk1, ← HX.out, HB.out]
        case measure => simp [intOf]; omega
    · have hk1 : k = l.length := by omega
      go_wp2
      go_ret
      refine ⟨-1, rfl, ?_, ⟨⟨_, rfl⟩⟩⟩
      have := hall.out
      rw [hk1, List.take_length] at this
      rw [this]; rfl
theorem contains_c (A : Option Addr) (c : Nat) (l : List Int) (w : World) (hC : CB w A l) (hc : l.length ≤ c) (hl : l.length ≤ 140737488351232) :
    Calls Try.prog 81 #[.slice A l.length c, .func (.func 82) #[] #[]] w fun e w' => e = .returned (.bool (!(l.all letterB))) ∧ Drawn0 w w' := by
  have HC := hid hC
  clear hC
  go_enter Try.func81, Try.ntmps81
  go_wp2_with fail
  refine (index_c A c l _ HC.out hc hl).mono ?_
  rintro e w' ⟨r, rfl, hr, ⟨nd, rfl⟩⟩
  go_wp2
  go_ret
  exact ⟨by simp [← hr], ⟨⟨_, rfl⟩⟩⟩
def namedB (s : ByteArray) : Bool := decide (1 ≤ s.size) && decide (s.size ≤ 32) && (bytesOf s).all letterB
theorem named_c (s : ByteArray) (w : World) (hs : s.size ≤ 140737488351232) : Calls Try.prog 33 #[.string s] w fun e w' => e = .returned (.bool (namedB s)) ∧ Below w.heap.size w w' := by
  have kb := fun W => print_bytes (P := Try.prog) 9 22 5 Try.underlying9 Try.underlying22 Try.underlying5 s W
  by_cases h1 : (1 : Int) ≤ (s.size : Int)
  · by_cases h2 : (s.size : Int) ≤ 32
    · have e : namedB s = (bytesOf s).all letterB := by unfold namedB; simp [show 1 ≤ s.size by omega, show s.size ≤ 32 by omega]
      rw [e]
      clear e
      have hlen := bytesOf_length s
      go_enter Try.func33, Try.ntmps33
      go_wp2_with fail
      have hC : CB (Lib.bytesWorld w 5 s) (some ⟨w.heap.size, 0, none⟩) (bytesOf s) := by
        have := Kd.C_of_reads (enc := Value.int .u8) (d := (0 : Int)) (h1 := fun _ => rfl) (bytes_reads w 5 s (by omega))
        show Kd.C (Kd.int .u8) _ _ (bytesOf s).length (bytesOf s)
        rw [hlen]; exact this
      have hb : Below w.heap.size w (Lib.bytesWorld w 5 s) := bytes_below (Below.refl _ _) (Nat.le_refl _) 5 s
      have hcc := contains_c (some ⟨w.heap.size, 0, none⟩) (grownCap w s.size 0 5) (bytesOf s) _ hC (by rw [hlen]; exact grownCap_ge _ _ _ _) (by omega)
      rw [hlen] at hcc
      refine hcc.mono ?_
      rintro e w' ⟨rfl, ⟨nd, rfl⟩⟩
      have HB := hid hb
      clear hb hC hcc
      go_wp2
      go_ret
      exact ⟨by simp, pw_below_drewN HB.out _⟩
    · have e : namedB s = false := by unfold namedB; simp; omega
      rw [e]
      clear e
      go_enter Try.func33, Try.ntmps33
      go_wp2
      go_ret
      exact ⟨by simp, Below.refl _ _⟩
  · have e : namedB s = false := by unfold namedB; simp; omega
    rw [e]
    clear e
    go_enter Try.func33, Try.ntmps33
    go_wp2
    go_ret
    exact ⟨by simp, Below.refl _ _⟩
theorem catch_idle (p : Addr) (w : World) :
    CallsD Try.prog 79 #[.pointer (some p)] .returning w fun e u' w' => e = .returned (.tuple #[]) ∧ u' = .returning ∧ w' = w := by
  refine callsD_of_wpS Try.func79 rfl fun c₀ cs hu => ?_
  apply wpS_seq
  apply wpS_region
  simp [wpOpsS, go_sem, recoverD, hu, Try.ntmps79, Exit.thenS]
  refine wpS_of_wp ?_
  go_wp2
  refine ⟨rfl, .returning, ?_, .tuple #[], by simp [results, Try.results79, go_sem], rfl, rfl, rfl⟩
  rw [← hu]
theorem is_fail (v : Value) (w : World) : (Instr.typeAssert (.iface 104 v) 20 104 true).run Try.prog w = .ok (.tuple #[v, .bool true]) w := by
  obtain ⟨i, hi⟩ : ∃ i, Try.prog.info? 104 = some i := by
    have : (Try.prog.info? 104).isSome = true := by kernel_rfl
    exact Option.isSome_iff_exists.1 this
  simp [Instr.typeAssert, go_sem, run_underlying Try.underlying104]
set_option maxRecDepth 100000 in
set_option maxHeartbeats 1600000 in
theorem catch_fail (p : Addr) (x e : Int) (w : World) (hc : w.cell? p = some (.int .i64 x)) (hz : w.frozen? p = false) (hp : p.block < w.heap.size) :
    CallsD Try.prog 79 #[.pointer (some p)] (.panicking (fail_ e)) w fun r u' w' =>
      r = .returned (.tuple #[]) ∧ u' = .panicking [{ v := .iface 104 (.agg #[.int .i64 e]), recovered := true }] ∧ w' = (w.alloc (.cells #[.int .i64 e] 104)).setCell p (.int .i64 e) := by
  have hta := is_fail (.agg #[.int .i64 e])
  have hfz : (w.alloc (.cells #[.int .i64 e] 104)).frozen? p = false := ((below_alloc (Below.refl w.heap.size w) _).frozen hp).trans hz
  have hne : ¬ p.block = w.heap.size := by omega
  have hne' : ¬ w.heap.size = p.block := by omega
  refine callsD_of_wpS Try.func79 rfl fun c₀ cs hu => ?_
  apply wpS_seq
  apply wpS_region
  simp [wpOpsS, go_sem, recoverD, hu, Try.ntmps79, Exit.thenS, fail_]
  refine wpS_of_wp ?_
  go_wp2
  exact ⟨rfl, .panicking [{ v := .iface 104 (.agg #[.int .i64 e]), recovered := true }], rfl, .tuple #[], by simp [results, Try.results79, go_sem], rfl, rfl, rfl⟩
structure Fresh (w w1 : World) (B : Nat) (l : List Int) : Prop where
  below : Below w.heap.size w w1
  lt : w.heap.size < B
  sc : Sc w1 B l 0
  cell : w1.heap[w.heap.size]? = some (.cells #[.int .i64 0] 25 (0, 0))
structure Aft (g : Nat) (w w' : World) : Prop where
  os : w'.os = w.os
  tape : w'.tape = w.tape
  output : w'.output = w.output
  size : w.heap.size ≤ w'.heap.size
  block : ∀ k, k < w.heap.size → k ≠ g → w'.heap[k]? = w.heap[k]?
def ReadPost (w : World) (l : List Int) (B : Nat) (R : World → Int → Prop) (e : Ending) (w2 : World) : Prop :=
  (∃ i : Int, e = .returned (.tuple #[]) ∧ 0 ≤ i ∧ i ≤ l.length ∧ Sc w2 B l i ∧ w2.heap[w.heap.size]? = some (.cells #[.int .i64 0] 25 (0, 0)) ∧ R w2 (if i < l.length then 2 else 0)) ∨
  (∃ x : Int, e = .panicked (fail_ x) ∧ w2.heap[w.heap.size]? = some (.cells #[.int .i64 0] 25 (0, 0)) ∧ R w2 x)
theorem cell_one {w : World} {g : Nat} {a : Value} {t : TypeId} (h : w.heap[g]? = some (.cells #[a] t (0, 0))) (u : Value) : (w.setCell ⟨g, 0, none⟩ u).cell? ⟨g, 0, none⟩ = some u := by
  have h0 : g < w.heap.size := (Array.getElem?_eq_some_iff.1 h).1
  simp [World.setCell, World.cell?, Array.getElem?_modify, h]
theorem aft_set (w w2 : World) (g n : Nat) (u : Value) (h : w2 = w.drewN n) : Aft g w (w2.setCell ⟨g, 0, none⟩ u) := by
  subst h
  exact ⟨rfl, rfl, rfl, by simp, fun k _ hk => Below.heap_setCell _ _ _ _ hk⟩
set_option maxRecDepth 100000 in
set_option maxHeartbeats 1600000 in
theorem try_c (G : FuncId) (hG : ∀ (args : Array Value) (w : World), (callFunc G args).run Try.prog w = .ok (.enter G args) w) (caps : Array Value) (A : Option Addr) (c : Nat) (l : List Int) (w : World) (hC : CB w A l) (hc : l.length ≤ c) (hl : l.length ≤ 140737488351232) (R : World → Int → Prop)
    (hread : ∀ w1 B, Fresh w w1 B l → Calls Try.prog G (#[.pointer (some ⟨B, 0, none⟩)] ++ caps) w1 (ReadPost w l B R)) :
    Calls Try.prog 25 #[.slice A l.length c, .func (.func G) #[] caps] w fun e w' => ∃ x w2, e = .returned (.int .i64 x) ∧ R w2 x ∧ Aft w.heap.size w2 w' := by
  have hmf : ∀ (fn : Fn) (first cap : Array Value) (w : World), (Instr.makeFunc fn first cap).run Try.prog w = .ok (.func fn first cap) w := fun _ _ _ _ => rfl
  have HC := hid hC
  clear hC
  have HR := hid hread
  clear hread
  go_enter_defers Try.func25, Try.ntmps25
  go_wp2_with (go_at_call 31; (with_reducible refine (new_c A c l _ (Kd.C_below HC.out (below_alloc (Below.refl _ _) _)) hc hl).mono ?_); rintro e w1 ⟨B, rfl, hB, hS, hw⟩)
  have hF : Fresh w w1 B l := ⟨(below_alloc (Below.refl _ _) _).trans (hw.mono (by simp)), by simp at hB; omega, hS, (hw.block w.heap.size (by simp)).trans (heap_alloc_new _ _)⟩
  refine (HR.out w1 B hF).mono ?_
  clear hF hw hS HC
  rintro e w2 (⟨i, rfl, i0, i1, hS2, hE, hr⟩ | ⟨x, rfl, hE, hr⟩)
  · have HS := hid hS2
    have hz : w2.frozen? ⟨w.heap.size, 0, none⟩ = false := by simp [World.frozen?, hE]
    have hce : w2.cell? ⟨w.heap.size, 0, none⟩ = some (.int .i64 0) := by simp [World.cell?, hE]
    have hlt : w.heap.size < w2.heap.size := (Array.getElem?_eq_some_iff.1 hE).1
    have HE := hid hE
    have HRR := hid hr
    clear hS2 hE hr
    by_cases hi : i < (l.length : Int)
    · rw [show (if i < (l.length : Int) then (2 : Int) else 0) = 2 by simp [hi]] at HRR
      have hd : decide (0 < (l.length : Int) - i) = true := by simp; omega
      go_wp2_with (go_at_call 30; (with_reducible refine (left_c B l i _ HS.out i0 i1 hl).mono ?_); rintro e w' ⟨rfl, ⟨nd, rfl⟩⟩)
      refine leaves_cons (f := 79) (args := #[.pointer (some ⟨w.heap.size, 0, none⟩)]) (by simp) (by simp [go_sem]) ?_
      refine (catch_idle _ _).mono ?_
      rintro e u' w'' ⟨rfl, rfl, rfl⟩
      have hc2 : ((w2.drewN nd).setCell ⟨w.heap.size, 0, none⟩ (.int .i64 2)).cell? ⟨w.heap.size, 0, none⟩ = some (.int .i64 2) := cell_one (w := w2.drewN nd) HE.out _
      simp [Leaves, settle, results, Try.results25, go_sem, hc2]
      exact ⟨w2, HRR.out, aft_set _ _ _ nd _ rfl⟩
    · rw [show (if i < (l.length : Int) then (2 : Int) else 0) = 0 by simp [hi]] at HRR
      have hd : decide (0 < (l.length : Int) - i) = false := by simp; omega
      go_wp2_with (go_at_call 30; (with_reducible refine (left_c B l i _ HS.out i0 i1 hl).mono ?_); rintro e w' ⟨rfl, ⟨nd, rfl⟩⟩)
      refine leaves_cons (f := 79) (args := #[.pointer (some ⟨w.heap.size, 0, none⟩)]) (by simp) (by simp [go_sem]) ?_
      refine (catch_idle _ _).mono ?_
      rintro e u' w'' ⟨rfl, rfl, rfl⟩
      have hc2 : ((w2.drewN nd).setCell ⟨w.heap.size, 0, none⟩ (.int .i64 0)).cell? ⟨w.heap.size, 0, none⟩ = some (.int .i64 0) := cell_one (w := w2.drewN nd) HE.out _
      simp [Leaves, settle, results, Try.results25, go_sem, hc2]
      exact ⟨w2, HRR.out, aft_set _ _ _ nd _ rfl⟩
  · have hz : w2.frozen? ⟨w.heap.size, 0, none⟩ = false := by simp [World.frozen?, hE]
    have hce : w2.cell? ⟨w.heap.size, 0, none⟩ = some (.int .i64 0) := by simp [World.cell?, hE]
    have hlt : w.heap.size < w2.heap.size := (Array.getElem?_eq_some_iff.1 hE).1
    have hE2 : (w2.alloc (.cells #[.int .i64 x] 104)).heap[w.heap.size]? = some (.cells #[.int .i64 0] 25 (0, 0)) := (Below.heap_alloc _ _ _ hlt).trans hE
    refine leaves_cons (f := 79) (args := #[.pointer (some ⟨w.heap.size, 0, none⟩)]) (by simp) (by simp [go_sem]) ?_
    refine (catch_fail ⟨w.heap.size, 0, none⟩ 0 x w2 hce hz hlt).mono ?_
    rintro e u' w'' ⟨rfl, rfl, rfl⟩
    have hc2 : ((w2.alloc (.cells #[.int .i64 x] 104)).setCell ⟨w.heap.size, 0, none⟩ (.int .i64 x)).cell? ⟨w.heap.size, 0, none⟩ = some (.int .i64 x) := cell_one hE2 _
    simp [Leaves, settle, results, Try.results25, go_sem, hc2]
    refine ⟨w2, hr, ⟨rfl, rfl, rfl, by simp, fun k hk hne => (Below.heap_setCell _ _ _ _ hne).trans (Below.heap_alloc _ _ _ hk)⟩⟩
theorem put_c (x : Int) (h0 : 0 ≤ x) (h1 : x ≤ 4294967295) (w : World) :
    Calls Try.prog 85 #[.int .u32 x] w fun e w' => e = .returned (.agg #[.int .u8 (x % 256), .int .u8 (x / 256 % 256), .int .u8 (x / 65536 % 256), .int .u8 (x / 16777216)]) ∧ Below w.heap.size w w' := by
  go_enter Try.func85, Try.ntmps85
  go_wp2
  refine bodyPost_ret (v := .agg #[.int .u8 (x % 256), .int .u8 (x / 256 % 256), .int .u8 (x / 65536 % 256), .int .u8 (x / 16777216)]) (by simp [results, Try.results85, go_sem]) rfl ⟨rfl, (Below.refl _ _).alloc (Nat.le_refl _) _⟩
theorem step2 {w w1 w2 : World} {B : Nat} {l : List Int} {i j k : Int} (h : Sc w B l i) (h1 : Below w.heap.size (w.setCell ⟨B, 1, none⟩ (.int .i64 j)) w1) (h2 : Below w1.heap.size (w1.setCell ⟨B, 1, none⟩ (.int .i64 k)) w2) :
    Below w.heap.size (w.setCell ⟨B, 1, none⟩ (.int .i64 k)) w2 := by
  have hz : w.heap.size ≤ w1.heap.size := by have := h1.size; simpa using this
  refine ⟨h2.os.trans h1.os, h2.tape.trans h1.tape, h2.output.trans h1.output, ?_, fun b hb => ?_⟩
  · have := h2.size; simp at this ⊢; omega
  · rw [h2.block b (by omega)]
    by_cases e : b = B
    · subst e
      obtain ⟨v, hc, _⟩ := h
      rw [heap_set w b v (.int .i64 i) (.int .i64 k) 106 hc]
      have h3 := h1.block b hb
      rw [heap_set w b v (.int .i64 i) (.int .i64 j) 106 hc] at h3
      exact heap_set w1 b v (.int .i64 j) (.int .i64 k) 106 h3
    · rw [Below.heap_setCell w1 _ _ b e, Below.heap_setCell w _ _ b e, h1.block b hb, Below.heap_setCell w _ _ b e]
theorem Sc.after {w w1 : World} {B : Nat} {l : List Int} {i j : Int} (h : Sc w B l i) (h1 : Below w.heap.size (w.setCell ⟨B, 1, none⟩ (.int .i64 j)) w1) : Sc w1 B l j :=
  (h.move (j := j)).below (by simpa using h1)
def nameLen (l : List Int) (i : Int) : Int := wordOf (mid l i 1)
def nameOf (l : List Int) (i : Int) : ByteArray := strOfNums (mid l (i + 1) (nameLen l i))
set_option maxRecDepth 100000 in
theorem name_c (B : Nat) (l : List Int) (i : Int) (w : World) (h : Sc w B l i) (h0 : 0 ≤ i) (h1 : i + 1 ≤ l.length) (h2 : i + 1 + nameLen l i ≤ l.length) (hn : 0 ≤ nameLen l i) (hl : l.length ≤ 140737488351232) (hb : Bytes l) (hN : namedB (nameOf l i) = true) :
    Calls Try.prog 42 #[.pointer (some ⟨B, 0, none⟩)] w fun e w' => e = .returned (.string (nameOf l i)) ∧ Below w.heap.size (w.setCell ⟨B, 1, none⟩ (.int .i64 (i + 1 + nameLen l i))) w' := by
  have HS := hid h
  clear h
  go_enter Try.func42, Try.ntmps42
  go_wp2_with fail
  refine (number_c B l i 1 _ HS.out h0 h1 (by omega) hl hb).mono ?_
  rintro e w1 ⟨rfl, hw1⟩
  rw [show wordOf (mid l i 1) = nameLen l i from rfl]
  have HS1 := hid (HS.out.after hw1)
  have HW1 := hid hw1
  clear hw1
  go_wp2_with fail
  refine (bytes_c B l (i + 1) (nameLen l i) _ HS1.out (by omega) h2 hn hl).mono ?_
  rintro e w2 ⟨v, rfl, hR, hw2⟩
  obtain ⟨A, c, rfl, hc, hC⟩ := Kd.R_reads hR
  have hstr : (convert 22 9 (.slice A (mid l (i + 1) (nameLen l i)).length c)).run Try.prog w2 = .ok (.string (nameOf l i)) w2 := Kd.C_string Try.underlying22 Try.underlying5 Try.underlying9 hC
  have HW2 := hid (step2 HS.out HW1.out hw2)
  have hsz : (nameOf l i).size ≤ 140737488351232 := by
    show (strOfNums _).size ≤ _
    rw [strOfNums_size, mid_length (by omega) hn h2]; omega
  clear hR hC hw2
  go_wp2_with fail
  refine (named_c (nameOf l i) _ hsz).mono ?_
  rintro e w3 ⟨rfl, hw3⟩
  rw [hN]
  have HW3 := hid (HW2.out.trans (hw3.mono (by have := HW2.out.size; simpa using this)))
  clear hw3
  go_wp2_with (go_at_call 28; (with_reducible refine (must_c _ _).mono ?_); rintro e w' ⟨rfl, rfl⟩)
  go_ret
  exact ⟨rfl, HW3.out⟩
def fourS (x : Int) : List Int := [x % 256, x / 256 % 256, x / 65536 % 256, x / 16777216]
theorem Aft.of_below {w w1 : World} {B : Nat} {j : Int} (h : Below w.heap.size (w.setCell ⟨B, 1, none⟩ (.int .i64 j)) w1) : Aft B w w1 :=
  ⟨h.os, h.tape, h.output, by have := h.size; simpa using this, fun k hk hne => (h.block k hk).trans (Below.heap_setCell w _ _ k hne)⟩
theorem Aft.then_ {w w1 w2 : World} {B : Nat} (h : Aft B w w1) (k : Aft B w1 w2) : Aft B w w2 :=
  ⟨k.os.trans h.os, k.tape.trans h.tape, k.output.trans h.output, Nat.le_trans h.size k.size, fun i hi hne => (k.block i (Nat.lt_of_lt_of_le hi h.size) hne).trans (h.block i hi hne)⟩
theorem Aft.drawn {w w1 : World} {B : Nat} (h : Drawn0 w w1) : Aft B w w1 := by
  obtain ⟨⟨n, rfl⟩⟩ := h
  exact ⟨rfl, rfl, rfl, Nat.le_refl _, fun _ _ _ => rfl⟩
theorem name_cut1 (B : Nat) (l : List Int) (i : Int) (w : World) (h : Sc w B l i) (h0 : 0 ≤ i) (h1 : i = l.length) (hl : l.length ≤ 140737488351232) :
    Calls Try.prog 42 #[.pointer (some ⟨B, 0, none⟩)] w fun e w' => e = .panicked (fail_ 2) ∧ Aft B w w' := by
  have HS := hid h
  clear h
  go_enter Try.func42, Try.ntmps42
  go_wp2_with fail
  refine (number_no B l i 1 _ HS.out h0 (by omega) hl (by omega)).mono ?_
  rintro e w1 ⟨rfl, hd⟩
  exact ⟨rfl, rfl, Aft.drawn hd⟩
theorem name_cut2 (B : Nat) (l : List Int) (i : Int) (w : World) (h : Sc w B l i) (h0 : 0 ≤ i) (h1 : i + 1 ≤ l.length) (h2 : (l.length : Int) < i + 1 + nameLen l i) (hl : l.length ≤ 140737488351232) (hb : Bytes l) :
    Calls Try.prog 42 #[.pointer (some ⟨B, 0, none⟩)] w fun e w' => e = .panicked (fail_ 2) ∧ Aft B w w' := by
  have HS := hid h
  clear h
  go_enter Try.func42, Try.ntmps42
  go_wp2_with fail
  refine (number_c B l i 1 _ HS.out h0 h1 (by omega) hl hb).mono ?_
  rintro e w1 ⟨rfl, hw1⟩
  rw [show wordOf (mid l i 1) = nameLen l i from rfl]
  have HS1 := hid (HS.out.after hw1)
  have HW1 := hid (Aft.of_below hw1)
  clear hw1
  go_wp2_with fail
  refine (bytes_no B l (i + 1) (nameLen l i) _ HS1.out (by omega) h1 hl (by omega)).mono ?_
  rintro e w2 ⟨rfl, hd⟩
  exact ⟨rfl, rfl, HW1.out.then_ (Aft.drawn hd)⟩
set_option maxRecDepth 100000 in
theorem name_form (B : Nat) (l : List Int) (i : Int) (w : World) (h : Sc w B l i) (h0 : 0 ≤ i) (h1 : i + 1 ≤ l.length) (h2 : i + 1 + nameLen l i ≤ l.length) (hn : 0 ≤ nameLen l i) (hl : l.length ≤ 140737488351232) (hb : Bytes l) (hN : namedB (nameOf l i) = false) :
    Calls Try.prog 42 #[.pointer (some ⟨B, 0, none⟩)] w fun e w' => e = .panicked (fail_ 4) ∧ Aft B w w' := by
  have HS := hid h
  clear h
  go_enter Try.func42, Try.ntmps42
  go_wp2_with fail
  refine (number_c B l i 1 _ HS.out h0 h1 (by omega) hl hb).mono ?_
  rintro e w1 ⟨rfl, hw1⟩
  rw [show wordOf (mid l i 1) = nameLen l i from rfl]
  have HS1 := hid (HS.out.after hw1)
  have HW1 := hid hw1
  clear hw1
  go_wp2_with fail
  refine (bytes_c B l (i + 1) (nameLen l i) _ HS1.out (by omega) h2 hn hl).mono ?_
  rintro e w2 ⟨v, rfl, hR, hw2⟩
  obtain ⟨A, c, rfl, hc, hC⟩ := Kd.R_reads hR
  have hstr : (convert 22 9 (.slice A (mid l (i + 1) (nameLen l i)).length c)).run Try.prog w2 = .ok (.string (nameOf l i)) w2 := Kd.C_string Try.underlying22 Try.underlying5 Try.underlying9 hC
  have HW2 := hid (step2 HS.out HW1.out hw2)
  have hsz : (nameOf l i).size ≤ 140737488351232 := by
    show (strOfNums _).size ≤ _
    rw [strOfNums_size, mid_length (by omega) hn h2]; omega
  clear hR hC hw2
  go_wp2_with fail
  refine (named_c (nameOf l i) _ hsz).mono ?_
  rintro e w3 ⟨rfl, hw3⟩
  rw [hN]
  have HW3 := hid (HW2.out.trans (hw3.mono (by have := HW2.out.size; simpa using this)))
  clear hw3
  go_wp2_with (go_at_call 28; (with_reducible refine (must_no _ _).mono ?_); rintro e w' ⟨rfl, rfl⟩)
  exact ⟨rfl, rfl, Aft.of_below HW3.out⟩
theorem Sc.set_ {w : World} {B : Nat} {l : List Int} {i : Int} (h : Sc w B l i) {N t : Nat} {cs : Array Value} (hN : w.heap[N]? = some (.cells cs t (0, 0))) (ht : t ≠ 5) (hne : B ≠ N) (j : Nat) (u : Value) : Sc (w.setCell ⟨N, j, none⟩ u) B l i := by
  obtain ⟨v, h1, h2⟩ := h
  exact ⟨v, (Below.heap_setCell _ _ _ _ hne).trans h1, Kd.R_set h2 hN (fun q hq => by simp [Kd.int, Kd.scalar] at hq; omega) j u⟩
theorem C_block {k : IntKind} {w : World} {g : Nat} {l : List Int} {cs : Array Value} {t : TypeId} {fr : Nat × Nat} (hb : w.heap[g]? = some (.cells cs t fr)) (hl : l.length ≤ 9223372036854775807) (h : ∀ (j : Nat) (p : Int), l[j]? = some p → cs[j]? = some (Value.int k p)) :
    Kd.C (Kd.int k) w (some ⟨g, 0, none⟩) l.length l :=
  ⟨rfl, hl, fun _ => ⟨⟨g, 0, none⟩, rfl, fun j p hj => ⟨[.int k p], rfl, rfl, fun i u hu => by
    match i, hu with
    | 0, hu => simp at hu; subst hu; rw [show j * (Kd.int k).sz + 0 = j from Nat.mul_one j, add_plain]; simp [World.cell?, hb, h j p hj]
    | i + 1, hu => simp at hu⟩⟩⟩
theorem Aft.below {w w1 w2 : World} {B n : Nat} (h : Below n w w1) (k : Aft B w1 w2) (hB : n ≤ B) (hn : n ≤ w1.heap.size) : Below n w w2 :=
  ⟨k.os.trans h.os, k.tape.trans h.tape, k.output.trans h.output, Nat.le_trans h.size k.size, fun i hi => (k.block i (by omega) (by omega)).trans (h.block i hi)⟩
theorem Fresh.e {w w1 : World} {B : Nat} {l : List Int} (h : Fresh w w1 B l) : w.heap.size < w1.heap.size ∧ w.heap.size ≠ B := ⟨(Array.getElem?_eq_some_iff.1 h.cell).1, by have := h.lt; omega⟩
theorem Fresh.aft {w w1 w2 : World} {B : Nat} {l : List Int} (h : Fresh w w1 B l) (k : Aft B w1 w2) : Below w.heap.size w w2 ∧ w2.heap[w.heap.size]? = some (.cells #[.int .i64 0] 25 (0, 0)) :=
  ⟨Aft.below h.below k (by have := h.lt; omega) h.below.size, (k.block _ h.e.1 h.e.2).trans h.cell⟩
theorem C_cells {k : IntKind} {w : World} {ad : Addr} {l : List Int} (hl : l.length ≤ 9223372036854775807) (h : ∀ j p, l[j]? = some p → w.cell? (ad.add j) = some (.int k p)) : Kd.C (Kd.int k) w (some ad) l.length l :=
  ⟨rfl, hl, fun _ => ⟨ad, rfl, fun j p hj => ⟨[.int k p], rfl, rfl, fun i u hu => by
    match i, hu with
    | 0, hu => simp at hu; subst hu; rw [show j * (Kd.int k).sz + 0 = j from Nat.mul_one j]; exact h j p hj
    | i + 1, hu => simp at hu⟩⟩⟩
def putS (n : Int) (k : Int) : List Int := (fourS (n % 4294967296)).take k.toNat
theorem putS_len (n k : Int) (h0 : 0 ≤ k) (h1 : k ≤ 4) : ((putS n k).length : Int) = k := by unfold putS fourS; simp; omega
theorem sput_c (n k : Int) (h0 : 0 ≤ k) (h1 : k ≤ 4) (w : World) :
    Calls Try.prog 35 #[.int .i64 n, .int .i64 k] w fun e w' => ∃ A c, e = .returned (.slice A (putS n k).length c) ∧ (putS n k).length ≤ c ∧ CB w' A (putS n k) ∧ Below w.heap.size w w' := by
  have e1 : IntKind.u32.wrap n = n % 4294967296 := IntKind.wrap_u32' n
  go_enter Try.func35, Try.ntmps35
  go_wp2_with fail
  refine (put_c (n % 4294967296) (by omega) (by omega) _).mono ?_
  rintro e w1 ⟨rfl, hw1⟩
  go_wp2
  go_ret
  have hl := putS_len n k h0 h1
  have e2 : n % 4294967296 % 256 = n % 256 := by omega
  refine ⟨some ⟨w1.heap.size, 0, none⟩, 4, by rw [show (putS n k).length = k.toNat by omega]; rfl, by omega, ?_, below_alloc hw1 _⟩
  refine C_block (blk_new _ _) (by omega) fun j p hj => ?_
  unfold putS fourS at hj
  rw [List.getElem?_take, e2] at hj
  split at hj
  · match j, hj with
    | 0, h => simp at h ⊢; exact h
    | 1, h => simp at h ⊢; exact h
    | 2, h => simp at h ⊢; exact h
    | 3, h => simp at h ⊢; exact h
    | j + 4, h => simp at h
  · cases hj
theorem count_c (B : Nat) (l : List Int) (i n : Int) (w : World) (h : Sc w B l i) (h0 : 0 ≤ i) (h1 : i + 2 ≤ l.length) (hl : l.length ≤ 140737488351232) (hb : Bytes l) (hn : wordOf (mid l i 2) ≤ n) :
    Calls Try.prog 44 #[.pointer (some ⟨B, 0, none⟩), .int .i64 n] w fun e w' => e = .returned (.int .i64 (wordOf (mid l i 2))) ∧ Below w.heap.size (w.setCell ⟨B, 1, none⟩ (.int .i64 (i + 2))) w' := by
  have HS := hid h
  clear h
  go_enter Try.func44, Try.ntmps44
  go_wp2_with fail
  refine (number_c B l i 2 _ HS.out h0 h1 (by omega) hl hb).mono ?_
  rintro e w1 ⟨rfl, hw1⟩
  have HW1 := hid hw1
  have hn2 : decide (wordOf (mid l i 2) ≤ n) = true := decide_eq_true hn
  clear hw1
  go_wp2_with fail
  refine (must_c _ _).mono ?_
  rintro e w2 ⟨rfl, rfl⟩
  go_wp2
  go_ret
  exact ⟨rfl, HW1.out⟩
theorem count_form (B : Nat) (l : List Int) (i n : Int) (w : World) (h : Sc w B l i) (h0 : 0 ≤ i) (h1 : i + 2 ≤ l.length) (hl : l.length ≤ 140737488351232) (hb : Bytes l) (hn : n < wordOf (mid l i 2)) :
    Calls Try.prog 44 #[.pointer (some ⟨B, 0, none⟩), .int .i64 n] w fun e w' => e = .panicked (fail_ 4) ∧ Aft B w w' := by
  have HS := hid h
  clear h
  go_enter Try.func44, Try.ntmps44
  go_wp2_with fail
  refine (number_c B l i 2 _ HS.out h0 h1 (by omega) hl hb).mono ?_
  rintro e w1 ⟨rfl, hw1⟩
  have HW1 := hid (Aft.of_below hw1)
  have hn2 : decide (wordOf (mid l i 2) ≤ n) = false := decide_eq_false (by omega)
  clear hw1
  go_wp2_with fail
  refine (must_no _ _).mono ?_
  rintro e w2 ⟨rfl, rfl⟩
  exact ⟨rfl, rfl, HW1.out⟩
theorem count_cut (B : Nat) (l : List Int) (i n : Int) (w : World) (h : Sc w B l i) (h0 : 0 ≤ i) (h1 : i ≤ l.length) (h2 : (l.length : Int) < i + 2) (hl : l.length ≤ 140737488351232) :
    Calls Try.prog 44 #[.pointer (some ⟨B, 0, none⟩), .int .i64 n] w fun e w' => e = .panicked (fail_ 2) ∧ Aft B w w' := by
  have HS := hid h
  clear h
  go_enter Try.func44, Try.ntmps44
  go_wp2_with fail
  refine (number_no B l i 2 _ HS.out h0 h1 hl (by omega)).mono ?_
  rintro e w1 ⟨rfl, hd⟩
  exact ⟨rfl, rfl, Aft.drawn hd⟩
theorem putName_c (s : ByteArray) (hs : s.size ≤ 140737488351232) (w : World) :
    Calls Try.prog 37 #[.string s] w fun e w' => ∃ v, e = .returned v ∧ RB w' w.heap.size v ((s.size : Int) % 256 :: bytesOf s) ∧ Below w.heap.size w w' := by
  refine (scan_PutName.calls s ((s.size : Int) % 256 :: bytesOf s) w ?_).mono ?_
  · unfold scan_PutName.f
    rw [Option.bind_some, if_pos (by simp; omega)]
    rfl
  rintro e w' ⟨v, rfl, h1, h2⟩
  exact ⟨v, rfl, h1, h2⟩
theorem wordOf_four (x : Int) (h0 : 0 ≤ x) (h1 : x ≤ 4294967295) : wordOf (fourS x) = x := by
  unfold wordOf fourS
  simp only [List.getD_cons_zero, List.getD_cons_succ]
  omega
theorem wordOf_one (x : Int) : wordOf [x] = x := by
  unfold wordOf
  simp
theorem Bytes.append {a b : List Int} (ha : Bytes a) (hb : Bytes b) : Bytes (a ++ b) := fun x hx => (List.mem_append.1 hx).elim (ha x) (hb x)
theorem strOfNums_bytesOf (s : ByteArray) : strOfNums (bytesOf s) = s := by
  apply ByteArray.ext
  apply Array.ext'
  rw [strOfNums_data]
  unfold bytesOf
  rw [List.map_map]
  conv => rhs; rw [← List.map_id s.data.toList]
  apply List.map_congr_left
  intro b _
  simp
theorem Fresh.keep {w w1 wc : World} {B : Nat} {l : List Int} (h : Fresh w w1 B l) (k : Aft B w1 wc) {N : Nat} {o : Obj} (hN : w.heap[N]? = some o) : wc.heap[N]? = some o := by
  have h0 := blk_lt hN
  have h1 := h.below.size
  have h2 := h.lt
  exact (k.block N (by omega) (by omega)).trans ((h.below.block N h0).trans hN)
theorem blk_new_at (w : World) (o : Obj) (n : Nat) (h : w.heap.size = n) : (w.alloc o).heap[n]? = some o := by subst h; exact heap_alloc_new w o
end Go.Proofs.Ytmcfihpbiilbcaa.H
end
section
namespace Go.Proofs.Ytmcfihpbiilbcaa.H
open Go.RowKit Go.Proofs.YtmcfihpbiilbcaaW.PrintWords Go.Proofs.YtmcfihpbiilbcaaW.PrintLast Go.Proofs.YtmcfihpbiilbcaaW.PrintMore Go.Proofs.Ytmcfihpbiilbcaa.E
set_option linter.unusedVariables false
set_option linter.unusedSimpArgs false
theorem CB_cells {W : World} {ad : Addr} {ys : List Int} (h : CB W (some ad) ys) (hy : 0 < ys.length) : ∀ j u, (encs (Value.int .u8) ys)[j]? = some u → W.cell? (ad.add j) = some u := by
  intro j u hj
  have hjl : j < ys.length := by
    rcases Nat.lt_or_ge j ys.length with h | h
    · exact h
    · rw [List.getElem?_eq_none (by rw [encs_length]; exact h)] at hj; cases hj
  have hr : ReadsOf (Value.int .u8) 0 W (some ad) ys.length ys := Kd.reads_of_C (h1 := fun _ => rfl) h
  obtain ⟨ad', e, hc⟩ := hr.2.2 hy
  injection e with e
  subst e
  rw [hc j hjl]
  simp [encs, List.getElem?_eq_getElem hjl] at hj
  subst hj
  simp [List.getD_eq_getElem?_getD, List.getElem?_eq_getElem hjl]
theorem one_encs (ys : List Int) : ∀ u ∈ encs (Value.int .u8) ys, u.oneCell' = true := by
  intro u hu
  simp only [encs, List.mem_map] at hu
  obtain ⟨q, _, rfl⟩ := hu
  rfl
set_option maxRecDepth 100000 in
theorem grow_c {ops : Array Oper} {rest : List Oper} {o : Oper} {a : Act} {Q : Exit → Act → World → Prop} {W : World} (hgd : o.guard = none) (s x : Operand)
    (ho : o.op = .call { callee := .builtin .append, args := #[s, x], argTypes := #[22, 22] }) (ad1 ad2 : Addr) (xs ys : List Int) (c2 : Nat) (hs : a.eval s = .slice (some ad1) xs.length xs.length) (hx : a.eval x = .slice (some ad2) ys.length c2)
    (HX : CB W (some ad1) xs) (HY : CB W (some ad2) ys) (hx0 : 0 < xs.length) (hy : 0 < ys.length) (hl : xs.length + ys.length ≤ 140737488355328)
    (h : ∀ v1 w1, RB w1 W.heap.size v1 (xs ++ ys) → Below W.heap.size W w1 → wpList Try.prog ops Q rest (a.put o.dst v1) w1) :
    wpList Try.prog ops Q (o :: rest) a W := by
  obtain ⟨i5, hi5, hz5, hs5, hb5⟩ := info_parts info5
  refine wpList_append_grows W hgd s x 22 ho 5 i5 (.int .u8 0) 1 1 Try.underlying22 hi5 hz5 hs5 hb5 rfl (by decide) (some ad1) xs.length xs.length (encs (Value.int .u8) xs) hs (fun h => by cases h) (by rw [encs_length, Nat.mul_one]) (fun b hb j u hj => by injection hb with hb; subst hb; exact CB_cells HX hx0 j u hj)
    ad2 ys.length c2 (encs (Value.int .u8) ys) hx (by rw [encs_length, Nat.mul_one]) (CB_cells HY hy) (one_encs ys) (by omega) (Nat.le_trans hl (by decide)) (by omega) ?_
  intro v1 w1 hown hg
  refine h v1 w1 (Kd.R_of_own (by rw [List.length_append]; simpa [encs] using hown) (fun _ _ => trivial)) ((Below.refl _ _).grown hg (Nat.le_refl _) (fun k h => by cases h))
theorem C_some {W : World} {A : Option Addr} {l : List Int} (h : CB W A l) (hl : 0 < l.length) : ∃ ad, A = some ad := by
  obtain ⟨ad, e, _⟩ := h.2.2 hl
  exact ⟨ad, e⟩
set_option maxRecDepth 100000 in
theorem grownil_c (n : Int) (h0 : 0 ≤ n) (h1 : n ≤ 140737488351232) (w : World) :
    Calls Try.prog 130 #[.slice none 0 0, .int .i64 n] w fun e w' => ∃ v, e = .returned v ∧ RB w' w.heap.size v [] ∧ Below w.heap.size w w' := by
  have e0 : IntKind.i64.wrap n = n := IntWalk.i64_in _ (by omega)
  by_cases hn : 0 < n
  · obtain ⟨i5, hi5, hz5, hs5, hb5⟩ := info_parts info5
    go_enter Try.func130, Try.ntmps130
    go_wp2_with (at_builtin; refine Kd.R_append_zeros (Kd.int .u8) (w0 := w) w.heap.size rfl (.tmp 20) (.tmp 21) 22 3 5 (.int .u8 0) 1 rfl Try.underlying22 Try.underlying3 info5 rfl (by decide) (by decide) (.slice none 0 0) [] 0 n (fun _ => True) rfl rfl rfl (fun _ _ => trivial) (Kd.R_nil _ _ _ _ _) h0 (Below.refl _ _) (Nat.le_refl _) (by simp; omega) ?_; intro v1 w1 hr hb hg hat; rw [List.nil_append] at hr; obtain ⟨A1, c1, e1, hc1, _⟩ := Kd.R_reads hr; rw [List.length_replicate] at e1 hc1; subst e1; have hcut := cut_to 22 5 .i64 Try.underlying22 hi5 A1 n.toNat c1 0 (by omega) (by omega) hc1; have HR := hid (And.intro hr hb); clear hr hb hg hat)
    go_ret
    refine ⟨_, rfl, ?_, HR.out.2⟩
    have := Kd.R_take (m := 0) HR.out.1 (Nat.zero_le _)
    simpa using this
  · obtain rfl : n = 0 := by omega
    go_enter Try.func130, Try.ntmps130
    go_wp2
    go_ret
    exact ⟨_, rfl, Kd.R_nil _ _ _ _ _, Below.refl _ _⟩
abbrev CL (w : World) (A : Option Addr) (ls : List (List Int)) : Prop := Kd.C (Kd.slice 5 (Kd.int .u8)) w A ls.length ls
theorem flat_step (ls : List (List Int)) (k : Nat) (h : k < ls.length) : (ls.take (k + 1)).flatten = (ls.take k).flatten ++ ls[k] := by
  rw [List.take_add_one, List.flatten_append, List.getElem?_eq_getElem h]
  simp
theorem flat_le (ls : List (List Int)) (k : Nat) : (ls.take k).flatten.length ≤ ls.flatten.length := by
  conv => rhs; rw [← List.take_append_drop k ls, List.flatten_append, List.length_append]
  omega
theorem CL_at {w : World} {A : Option Addr} {ls : List (List Int)} (h : CL w A ls) (k : Nat) (hk : k < ls.length) : ∃ ad A' c', A = some ad ∧ w.cell? (ad.add k) = some (.slice A' ls[k].length c') ∧ ls[k].length ≤ c' ∧ CB w A' ls[k] := by
  obtain ⟨ad, c, e, hl, hK, hcell⟩ := Kd.C_get h [] (k : Int) (by omega) (by omega)
  obtain ⟨A', c', rfl, h1, h2⟩ := hK
  have e2 : ls.getD (k : Int).toNat [] = ls[k] := by rw [Int.toNat_natCast, List.getD_eq_getElem?_getD, List.getElem?_eq_getElem hk]; rfl
  rw [e2] at hcell h1 h2
  refine ⟨ad, A', c', e, ?_, h1, h2⟩
  have := hcell 0 _ rfl
  rw [Int.toNat_natCast] at this
  simpa [Kd.slice] using this
def psum (ls : List (List Int)) (k : Nat) : Int := ((ls.take k).flatten.length : Int)
theorem psum_step (ls : List (List Int)) (k : Nat) (h : k < ls.length) : psum ls (k + 1) = psum ls k + (ls[k].length : Int) := by
  unfold psum
  rw [flat_step ls k h, List.length_append]
  omega
theorem psum_bd (ls : List (List Int)) (k : Nat) : 0 ≤ psum ls k ∧ psum ls k ≤ ls.flatten.length := by
  unfold psum
  have := flat_le ls k
  omega
theorem psum_all (ls : List (List Int)) : psum ls ls.length = ls.flatten.length := by
  unfold psum
  rw [List.take_length]
set_option maxRecDepth 100000 in
theorem concat_c (A : Option Addr) (c : Nat) (ls : List (List Int)) (w : World) (hC : CL w A ls) (hc : ls.length ≤ c) (hn : ls.length ≤ 1000000) (hl : ls.flatten.length ≤ 140737488351232) :
    Calls Try.prog 89 #[.slice A ls.length c] w fun e w' => ∃ v, e = .returned v ∧ RB w' w.heap.size v ls.flatten ∧ Below w.heap.size w w' := by
  have HC := hid hC
  clear hC
  go_enter Try.func89, Try.ntmps89
  go_wp2
  go_loop [3, 11] (fun s3 s11 => ∃ k : Nat, k ≤ ls.length ∧ s11 = .int .i64 k ∧ s3 = .int .i64 (psum ls k)) (fun _ s11 => ls.length - (intOf s11).toNat)
  case atStart => exact ⟨0, by omega, rfl, by simp [psum]⟩
  case round =>
    obtain ⟨k, hk, rfl, rfl⟩ := hrel
    by_cases hlt : (k : Int) < (ls.length : Int)
    · have hk1 : k < ls.length := by omega
      obtain ⟨ad, A', c', rfl, hcell, _, _⟩ := CL_at HC.out k hk1
      have hst := psum_step ls k hk1
      have hle := psum_bd ls (k + 1)
      have hle0 := psum_bd ls k
      have e1 : IntKind.i64.wrap (psum ls k + (ls[k].length : Int)) = psum ls (k + 1) := by rw [← hst]; exact IntWalk.i64_in _ (by omega)
      have e2 : ¬ (psum ls (k + 1) < 0) := by omega
      have e3 : IntKind.i64.wrap ((k : Int) + 1) = (k : Int) + 1 := IntWalk.i64_in _ (by omega)
      have e4 : wrap64 (psum ls k + (ls[k].length : Int)) = psum ls (k + 1) := by rw [wrap64_id (by omega) (by omega)]; exact hst.symm
      clear hst hle hle0
      go_wp2
      go_round
      case rel => exact ⟨k + 1, by omega, by go_num, rfl⟩
      case measure => simp [intOf]; omega
    · have hk1 : k = ls.length := by omega
      subst hk1
      have hps := psum_all ls
      have hb0 := psum_bd ls ls.length
      obtain ⟨s, hs⟩ : ∃ s, s = psum ls ls.length := ⟨_, rfl⟩
      rw [← hs] at hps hb0 ⊢
      have HS := hid hps
      clear hps hs
      go_wp2_with fail
      refine (grownil_c s hb0.1 (by have := HS.out; omega) _).mono ?_
      rintro e w1 ⟨v, rfl, hR, hb⟩
      have H1 := hid (And.intro hR hb)
      clear hR hb hb0
      go_wp2
      go_loopw [6, 27] (fun s6 s27 wx => ∃ (k : Nat), k ≤ ls.length ∧ s27 = .int .i64 k ∧ Hid (RB wx w.heap.size s6 (ls.take k).flatten ∧ Below w.heap.size w wx)) (fun _ s27 _ => ls.length - (intOf s27).toNat)
      case atStart => exact ⟨0, by omega, rfl, hid ⟨by simpa using H1.out.1, H1.out.2⟩⟩
      case round =>
        obtain ⟨k, hk, rfl, hI⟩ := hrel
        obtain ⟨A6, c6, rfl, hc6, _⟩ := Kd.R_reads hI.out.1
        by_cases hlt : (k : Int) < (ls.length : Int)
        · have hk1 : k < ls.length := by omega
          obtain ⟨ad, A', c', rfl, hcell0, hc', hCk⟩ := CL_at HC.out k hk1
          have hcell : wr.cell? (ad.add k) = some (.slice A' ls[k].length c') := pw_cell_below hI.out.2 hcell0
          have hst := psum_step ls k hk1
          have hle := psum_bd ls (k + 1)
          have e3 : IntKind.i64.wrap ((k : Int) + 1) = (k : Int) + 1 := IntWalk.i64_in _ (by omega)
          have hbd : (ls.take k).flatten.length + ls[k].length ≤ 140737488355328 := by unfold psum at hst hle; omega
          have hCk' := hid (Kd.C_below hCk hI.out.2)
          have hfl := hid (flat_step ls k hk1)
          clear hst hle hCk hcell0
          go_wp2_with (at_builtin; refine app_c (w0 := w) w.heap.size rfl (.tmp 31) (.tmp 32) rfl _ (ls.take k).flatten ls[k] A' c' rfl rfl hI.out.1 hCk'.out hI.out.2 hI.out.2.size hbd ?_; intro v1 w2 hr hb hg hat; rw [← hfl.out] at hr; have H2 := hid (And.intro hr hb); clear hr hb hg hat)
          go_roundw
          case rel => exact ⟨k + 1, by omega, by go_num, H2⟩
          case measure => simp [intOf]; omega
        · have hk1 : k = ls.length := by omega
          subst hk1
          go_wp2
          go_ret
          have h1 := hI.out.1
          rw [List.take_length] at h1
          exact ⟨.slice A6 ls.flatten.length c6, by rw [List.length_flatten]; rfl, h1, hI.out.2⟩
end Go.Proofs.Ytmcfihpbiilbcaa.H
end
section
-- functions and contracts of this seat, written by the kit's print program for several roots at once; not the print of a statement
namespace Go.Proofs.Ytmcfihpbiilbcaa.E
open Go.RowKit Go.Proofs.YtmcfihpbiilbcaaW.PrintWords Go.Proofs.YtmcfihpbiilbcaaW.PrintLast Go.Proofs.YtmcfihpbiilbcaaW.PrintMore
attribute [local go_sem] max2_int min2_int max_two min_two max_three min_three max_four min_four   -- for this text's walks alone
set_option linter.unusedVariables false
set_option linter.unusedSimpArgs false
theorem eqA153 (d : Nat) (w : World) (x0 y0 : Int) (x1 y1 : Int) (x2 y2 : ByteArray) (x3 y3 : Int) :
    (Op.equalIn (d + 2) 153 (.agg #[.int .i64 x0, .int .i64 x1, .string x2, .int .i64 x3]) (.agg #[.int .i64 y0, .int .i64 y1, .string y2, .int .i64 y3])).run Try.prog w = .ok (x0 == y0 && (x1 == y1 && (x2.toList == y2.toList && (x3 == y3)))) w := by
  refine eqA_of Try.underlying153 (by kernel_rfl) ?_
  refine eqf_cons (by rfl) (by go_simp; rfl) (by go_simp; rfl) (by go_simp) ?_
  refine eqf_cons (by rfl) (by go_simp; rfl) (by go_simp; rfl) (by go_simp) ?_
  refine eqf_cons (by rfl) (by go_simp; rfl) (by go_simp; rfl) (by go_simp) ?_
  exact eqf_last (by rfl) (by go_simp; rfl) (by go_simp; rfl) (by go_simp)
end Go.Proofs.Ytmcfihpbiilbcaa.E
end
section
-- functions and contracts of this seat, written by the kit's print program for several roots at once; not the print of a statement
namespace Go.Proofs.Ytmcfihpbiilbcaa.E
open Go.RowKit Go.Proofs.YtmcfihpbiilbcaaW.PrintWords Go.Proofs.YtmcfihpbiilbcaaW.PrintLast Go.Proofs.YtmcfihpbiilbcaaW.PrintMore
attribute [local go_sem] max2_int min2_int max_two min_two max_three min_three max_four min_four   -- for this text's walks alone
set_option linter.unusedVariables false
set_option linter.unusedSimpArgs false
attribute [local go_sem high] eqA153
def object_in.f (a0 : Int) (a1 : Int) (a2 : Int) : Option (Bool) := if a0 ≥ a1 then (some (decide (a0 ≤ a2))) else (some false)
set_option maxHeartbeats 8000000 in
set_option maxRecDepth 100000 in
theorem object_in.calls (a0 : Int) (a1 : Int) (a2 : Int) (r : Bool) (w : World) (h : object_in.f a0 a1 a2 = some r) :
    Calls Try.prog 133 #[.int .i64 a0, .int .i64 a1, .int .i64 a2] w fun e w' => e = .returned (.bool r) ∧ Drawn0 w w' := by
  have H : (if a0 ≥ a1 then (some (decide (a0 ≤ a2))) else (some false)) = some r := h
  clear h
  by_cases c4 : a0 ≥ a1
  · rw [if_pos c4] at H
    have c4b0 : decide (a1 ≤ a0) = true := decide_eq_true c4
    clear c4
    obtain rfl := Option.some.inj H
    go_enter Try.func133, Try.ntmps133
    go_wp2
    go_ret
    exact ⟨by first | rfl | (simp; done) | (simp [*]; done), by repeat (first | exact Drawn0.refl _ | apply Drawn0.step)⟩
  · rw [if_neg c4] at H
    have c4b0 : decide (a1 ≤ a0) = false := decide_eq_false c4
    clear c4
    obtain rfl := Option.some.inj H
    go_enter Try.func133, Try.ntmps133
    go_wp2
    go_ret
    exact ⟨by first | rfl | (simp; done) | (simp [*]; done), by repeat (first | exact Drawn0.refl _ | apply Drawn0.step)⟩
def slices_Equal_uint32_uint32.l0 : Nat → List Int → List Int → Int → Int → Option (Bool)
  | 0, _, _, _, _ => none
  | k + 1, x0, x1, x12, x13 => if x13 < x12 then (if 0 ≤ x13 then (if x13 < (x0.length : Int) then (if x13 < (x1.length : Int) then (if (rd x0 x13) = (rd x1 x13) then (slices_Equal_uint32_uint32.l0 k x0 x1 x12 (wrap64 (x13 + 1))) else (some false)) else (none)) else (none)) else (none)) else (some true)
def slices_Equal_uint32_uint32.f (k : Nat) (l0 : List Int) (l1 : List Int) : Option (Bool) := if (l0.length : Int) = (l1.length : Int) then (slices_Equal_uint32_uint32.l0 k l0 l1 (l0.length : Int) 0) else (some false)
theorem slices_Equal_uint32_uint32.mono_l : ∀ k, (∀ y0 y1 y2 y3, LeO (slices_Equal_uint32_uint32.l0 k y0 y1 y2 y3) (slices_Equal_uint32_uint32.l0 (k + 1) y0 y1 y2 y3))
  | 0 => fun _ _ _ _ r h => by simp [slices_Equal_uint32_uint32.l0] at h
  | k + 1 => by
    have ih0 := slices_Equal_uint32_uint32.mono_l k
    · intro y0 y1 y2 y3
      unfold slices_Equal_uint32_uint32.l0
      repeat' first
      | (with_reducible exact ih0 _ _ _ _)
      | (with_reducible exact LeO.refl _)
      | (with_reducible exact LeO.none _)
      | (with_reducible refine LeO.ite ?_ ?_)
      | (with_reducible refine LeO.bind ?_ (fun _ => ?_))
      | exact ih0 _ _ _ _
      | exact LeO.none _
      | refine LeO.ite ?_ ?_
      | refine LeO.bind ?_ (fun _ => ?_)
theorem slices_Equal_uint32_uint32.mono : ∀ a0 a1 k, LeO (slices_Equal_uint32_uint32.f k a0 a1) (slices_Equal_uint32_uint32.f (k + 1) a0 a1) := by
  intro a0 a1 k
  have ih0 := slices_Equal_uint32_uint32.mono_l k
  unfold slices_Equal_uint32_uint32.f
  repeat' first
      | (with_reducible exact ih0 _ _ _ _)
      | (with_reducible exact LeO.refl _)
      | (with_reducible exact LeO.none _)
      | (with_reducible refine LeO.ite ?_ ?_)
      | (with_reducible refine LeO.bind ?_ (fun _ => ?_))
      | exact ih0 _ _ _ _
      | exact LeO.none _
      | refine LeO.ite ?_ ?_
      | refine LeO.bind ?_ (fun _ => ?_)
set_option maxHeartbeats 8000000 in
set_option maxRecDepth 100000 in
theorem slices_Equal_uint32_uint32.calls (k : Nat) (A0 : Option Addr) (c0 : Nat) (l0 : List Int) (A1 : Option Addr) (c1 : Nat) (l1 : List Int) (r : Bool) (w : World) (hr0 : Kd.C (Kd.int .u32) w A0 l0.length l0) (hc0 : l0.length ≤ c0) (hr1 : Kd.C (Kd.int .u32) w A1 l1.length l1) (hc1 : l1.length ≤ c1) (h : slices_Equal_uint32_uint32.f k l0 l1 = some r) :
    Calls Try.prog 143 #[.slice A0 l0.length c0, .slice A1 l1.length c1] w fun e w' => e = .returned (.bool r) ∧ Drawn0 w w' := by
  have HR0 := Aside0.mk hr0
  have HC0 := Aside0.mk hc0
  clear hr0 hc0
  have HR1 := Aside0.mk hr1
  have HC1 := Aside0.mk hc1
  clear hr1 hc1
  have H : (if (l0.length : Int) = (l1.length : Int) then (slices_Equal_uint32_uint32.l0 k l0 l1 (l0.length : Int) 0) else (some false)) = some r := h
  clear h
  by_cases c3 : (l0.length : Int) = (l1.length : Int)
  · rw [if_pos c3] at H
    have c3b0 : ((l0.length : Int) == (l1.length : Int)) = true := beq_iff_eq.mpr c3
    have c3b1 : ((l0.length : Int) != (l1.length : Int)) = false := bne_eq_false_iff_eq.mpr c3
    have c3b2 : (l0.length == l1.length) = true := by first | simpa using c3 | (simp at c3 ⊢; omega)
    clear c3
    have H' := Aside0.mk H
    clear H
    go_enter Try.func143, Try.ntmps143
    go_wp2
    repeat (go_quiet (fail); try go_wp2)
    go_loopg [13] k (fun kq v13 w' => ∃ (x13_1 : Int), v13 = .int .i64 x13_1 ∧ Aside0 (slices_Equal_uint32_uint32.l0 kq l0 l1 (l0.length : Int) x13_1 = some r) ∧ Aside0 (kq ≤ k) ∧ Drawn0 w w')
    case atStart => exact ⟨(0), (by first | rfl | (simp; done) | (simp [*]; done)), H', ⟨Nat.le_refl _⟩, by repeat (first | exact Drawn0.refl _ | apply Drawn0.step)⟩
    case round =>
      clear H'
      try clear c1
      try clear p2
      try clear c3
      try clear c3b0
      try clear c3b1
      try clear c3b2
      obtain ⟨x13_1, rfl, HA, HK1, ⟨m1, rfl⟩⟩ := hrel
      cases gk with
      | zero => exact absurd HA.out (by simp [slices_Equal_uint32_uint32.l0])
      | succ k1 =>
        have H := HA.out
        clear HA
        simp only [slices_Equal_uint32_uint32.l0] at H
        by_cases c4 : x13_1 < (l0.length : Int)
        · rw [if_pos c4] at H
          have c4b0 : decide (x13_1 < (l0.length : Int)) = true := decide_eq_true c4
          clear c4
          by_cases c5 : 0 ≤ x13_1
          · rw [if_pos c5] at H
            have c5b0 : decide (0 ≤ x13_1) = true := decide_eq_true c5
            clear c5
            by_cases c6 : x13_1 < (l0.length : Int)
            · rw [if_pos c6] at H
              have c6b0 : decide (x13_1 < (l0.length : Int)) = true := decide_eq_true c6
              clear c6
              by_cases c7 : x13_1 < (l1.length : Int)
              · rw [if_pos c7] at H
                have c7b0 : decide (x13_1 < (l1.length : Int)) = true := decide_eq_true c7
                clear c7
                by_cases c8 : (rd l0 x13_1) = (rd l1 x13_1)
                · rw [if_pos c8] at H
                  have c8b0 : ((rd l0 x13_1) == (rd l1 x13_1)) = true := beq_iff_eq.mpr c8
                  have c8b1 : ((rd l0 x13_1) != (rd l1 x13_1)) = false := bne_eq_false_iff_eq.mpr c8
                  clear c8
                  have H' := Aside0.mk H
                  clear H
                  have p217 : 0 ≤ (x13_1 : Int) := of_decide_eq_true (by first | (with_reducible assumption) | assumption)
                  have q217 : x13_1 < (l0.length : Int) := of_decide_eq_true (by first | (with_reducible assumption) | assumption)
                  obtain ⟨ad217, e217, hx217_0⟩ := Kd.at_int HR0.out x13_1 p217 q217
                  cases e217
                  replace p217 := eq_true p217
                  replace q217 := eq_true q217
                  have p218 : 0 ≤ (x13_1 : Int) := of_decide_eq_true (by first | (with_reducible assumption) | assumption)
                  have q218 : x13_1 < (l1.length : Int) := of_decide_eq_true (by first | (with_reducible assumption) | assumption)
                  obtain ⟨ad218, e218, hx218_0⟩ := Kd.at_int HR1.out x13_1 p218 q218
                  cases e218
                  replace p218 := eq_true p218
                  replace q218 := eq_true q218
                  go_wp2
                  repeat (go_quiet (fail); try go_wp2)
                  go_roundg k1
                  case measure => have := HK1.out; omega
                  case rel => exact ⟨(wrap64 (x13_1 + 1)), (by first | rfl | (simp; done) | (simp [*]; done)), H', ⟨by have := HK1.out; omega⟩, by repeat (first | exact Drawn0.refl _ | apply Drawn0.step)⟩
                · rw [if_neg c8] at H
                  have c8b0 : ((rd l0 x13_1) == (rd l1 x13_1)) = false := beq_eq_false_iff_ne.mpr c8
                  have c8b1 : ((rd l0 x13_1) != (rd l1 x13_1)) = true := bne_iff_ne.mpr c8
                  obtain rfl := Option.some.inj H
                  have p217 : 0 ≤ (x13_1 : Int) := of_decide_eq_true (by first | (with_reducible assumption) | assumption)
                  have q217 : x13_1 < (l0.length : Int) := of_decide_eq_true (by first | (with_reducible assumption) | assumption)
                  obtain ⟨ad217, e217, hx217_0⟩ := Kd.at_int HR0.out x13_1 p217 q217
                  cases e217
                  replace p217 := eq_true p217
                  replace q217 := eq_true q217
                  have p218 : 0 ≤ (x13_1 : Int) := of_decide_eq_true (by first | (with_reducible assumption) | assumption)
                  have q218 : x13_1 < (l1.length : Int) := of_decide_eq_true (by first | (with_reducible assumption) | assumption)
                  obtain ⟨ad218, e218, hx218_0⟩ := Kd.at_int HR1.out x13_1 p218 q218
                  cases e218
                  replace p218 := eq_true p218
                  replace q218 := eq_true q218
                  go_wp2
                  repeat (go_quiet (fail); try go_wp2)
                  go_ret
                  exact ⟨by first | rfl | (simp; done) | (simp [*]; done), by repeat (first | exact Drawn0.refl _ | apply Drawn0.step)⟩
              · rw [if_neg c7] at H
                exact absurd H (by simp)
            · rw [if_neg c6] at H
              exact absurd H (by simp)
          · rw [if_neg c5] at H
            exact absurd H (by simp)
        · rw [if_neg c4] at H
          have c4b0 : decide (x13_1 < (l0.length : Int)) = false := decide_eq_false c4
          clear c4
          obtain rfl := Option.some.inj H
          go_wp2
          repeat (go_quiet (fail); try go_wp2)
          go_ret
          exact ⟨by first | rfl | (simp; done) | (simp [*]; done), by repeat (first | exact Drawn0.refl _ | apply Drawn0.step)⟩
  · rw [if_neg c3] at H
    have c3b0 : ((l0.length : Int) == (l1.length : Int)) = false := beq_eq_false_iff_ne.mpr c3
    have c3b1 : ((l0.length : Int) != (l1.length : Int)) = true := bne_iff_ne.mpr c3
    have c3b2 : (l0.length == l1.length) = false := by first | simpa using c3 | (simp at c3 ⊢; omega)
    obtain rfl := Option.some.inj H
    go_enter Try.func143, Try.ntmps143
    go_wp2
    repeat (go_quiet (fail); try go_wp2)
    go_ret
    exact ⟨by first | rfl | (simp; done) | (simp [*]; done), by repeat (first | exact Drawn0.refl _ | apply Drawn0.step)⟩
def api_Rel.l0 : Nat → List (S153) → List (S153) → Int → Int → Option (Bool)
  | 0, _, _, _, _ => none
  | k + 1, x0, x1, x12, x13 => if x13 < x12 then (if 0 ≤ x13 then (if x13 < (x0.length : Int) then (if x13 < (x1.length : Int) then (if (!(((rd_T153 x0 x13).f0) == ((rd_T153 x1 x13).f0)) || (!(((rd_T153 x0 x13).f1) == ((rd_T153 x1 x13).f1)) || (!((((rd_T153 x0 x13).f2).toList) == (((rd_T153 x1 x13).f2).toList)) || (!(((rd_T153 x0 x13).f3) == ((rd_T153 x1 x13).f3)))))) = true then (some false) else (api_Rel.l0 k x0 x1 x12 (wrap64 (x13 + 1)))) else (none)) else (none)) else (none)) else (some true)
def api_Rel.f (k : Nat) (l0 : List (S153)) (l1 : List (S153)) : Option (Bool) := if (l0.length : Int) = (l1.length : Int) then (api_Rel.l0 k l0 l1 (l0.length : Int) 0) else (some false)
theorem api_Rel.mono_l : ∀ k, (∀ y0 y1 y2 y3, LeO (api_Rel.l0 k y0 y1 y2 y3) (api_Rel.l0 (k + 1) y0 y1 y2 y3))
  | 0 => fun _ _ _ _ r h => by simp [api_Rel.l0] at h
  | k + 1 => by
    have ih0 := api_Rel.mono_l k
    · intro y0 y1 y2 y3
      unfold api_Rel.l0
      repeat' first
      | (with_reducible exact ih0 _ _ _ _)
      | (with_reducible exact LeO.refl _)
      | (with_reducible exact LeO.none _)
      | (with_reducible refine LeO.ite ?_ ?_)
      | (with_reducible refine LeO.bind ?_ (fun _ => ?_))
      | exact ih0 _ _ _ _
      | exact LeO.none _
      | refine LeO.ite ?_ ?_
      | refine LeO.bind ?_ (fun _ => ?_)
theorem api_Rel.mono : ∀ a0 a1 k, LeO (api_Rel.f k a0 a1) (api_Rel.f (k + 1) a0 a1) := by
  intro a0 a1 k
  have ih0 := api_Rel.mono_l k
  unfold api_Rel.f
  repeat' first
      | (with_reducible exact ih0 _ _ _ _)
      | (with_reducible exact LeO.refl _)
      | (with_reducible exact LeO.none _)
      | (with_reducible refine LeO.ite ?_ ?_)
      | (with_reducible refine LeO.bind ?_ (fun _ => ?_))
      | exact ih0 _ _ _ _
      | exact LeO.none _
      | refine LeO.ite ?_ ?_
      | refine LeO.bind ?_ (fun _ => ?_)
set_option maxHeartbeats 8000000 in
set_option maxRecDepth 100000 in
theorem api_Rel.calls (k : Nat) (A0 : Option Addr) (c0 : Nat) (l0 : List (S153)) (A1 : Option Addr) (c1 : Nat) (l1 : List (S153)) (r : Bool) (w : World) (hr0 : Kd.C k153 w A0 l0.length l0) (hc0 : l0.length ≤ c0) (hr1 : Kd.C k153 w A1 l1.length l1) (hc1 : l1.length ≤ c1) (h : api_Rel.f k l0 l1 = some r) :
    Calls Try.prog 144 #[.slice A0 l0.length c0, .slice A1 l1.length c1] w fun e w' => e = .returned (.bool r) ∧ Drawn0 w w' := by
  have hu153 := Try.underlying153
  have HR0 := Aside0.mk hr0
  have HC0 := Aside0.mk hc0
  clear hr0 hc0
  have HR1 := Aside0.mk hr1
  have HC1 := Aside0.mk hc1
  clear hr1 hc1
  have H : (if (l0.length : Int) = (l1.length : Int) then (api_Rel.l0 k l0 l1 (l0.length : Int) 0) else (some false)) = some r := h
  clear h
  by_cases c3 : (l0.length : Int) = (l1.length : Int)
  · rw [if_pos c3] at H
    have c3b0 : ((l0.length : Int) == (l1.length : Int)) = true := beq_iff_eq.mpr c3
    have c3b1 : ((l0.length : Int) != (l1.length : Int)) = false := bne_eq_false_iff_eq.mpr c3
    have c3b2 : (l0.length == l1.length) = true := by first | simpa using c3 | (simp at c3 ⊢; omega)
    clear c3
    have H' := Aside0.mk H
    clear H
    go_enter Try.func144, Try.ntmps144
    go_wp2
    repeat (go_quiet (fail); try go_wp2)
    go_loopg [13] k (fun kq v13 w' => ∃ (x13_1 : Int), v13 = .int .i64 x13_1 ∧ Aside0 (api_Rel.l0 kq l0 l1 (l0.length : Int) x13_1 = some r) ∧ Aside0 (kq ≤ k) ∧ Drawn0 w w')
    case atStart => exact ⟨(0), (by first | rfl | (simp; done) | (simp [*]; done)), H', ⟨Nat.le_refl _⟩, by repeat (first | exact Drawn0.refl _ | apply Drawn0.step)⟩
    case round =>
      clear H'
      try clear c1
      try clear p2
      try clear c3
      try clear c3b0
      try clear c3b1
      try clear c3b2
      obtain ⟨x13_1, rfl, HA, HK1, ⟨m1, rfl⟩⟩ := hrel
      cases gk with
      | zero => exact absurd HA.out (by simp [api_Rel.l0])
      | succ k1 =>
        have H := HA.out
        clear HA
        simp only [api_Rel.l0] at H
        by_cases c4 : x13_1 < (l0.length : Int)
        · rw [if_pos c4] at H
          have c4b0 : decide (x13_1 < (l0.length : Int)) = true := decide_eq_true c4
          clear c4
          by_cases c5 : 0 ≤ x13_1
          · rw [if_pos c5] at H
            have c5b0 : decide (0 ≤ x13_1) = true := decide_eq_true c5
            clear c5
            by_cases c6 : x13_1 < (l0.length : Int)
            · rw [if_pos c6] at H
              have c6b0 : decide (x13_1 < (l0.length : Int)) = true := decide_eq_true c6
              clear c6
              by_cases c7 : x13_1 < (l1.length : Int)
              · rw [if_pos c7] at H
                have c7b0 : decide (x13_1 < (l1.length : Int)) = true := decide_eq_true c7
                clear c7
                by_cases c8 : (!(((rd_T153 l0 x13_1).f0) == ((rd_T153 l1 x13_1).f0)) || (!(((rd_T153 l0 x13_1).f1) == ((rd_T153 l1 x13_1).f1)) || (!((((rd_T153 l0 x13_1).f2).toList) == (((rd_T153 l1 x13_1).f2).toList)) || (!(((rd_T153 l0 x13_1).f3) == ((rd_T153 l1 x13_1).f3)))))) = true
                · rw [if_pos c8] at H
                  have c8b0 : (!(((rd_T153 l0 x13_1).f0) == ((rd_T153 l1 x13_1).f0)) || (!(((rd_T153 l0 x13_1).f1) == ((rd_T153 l1 x13_1).f1)) || (!((((rd_T153 l0 x13_1).f2).toList) == (((rd_T153 l1 x13_1).f2).toList)) || (!(((rd_T153 l0 x13_1).f3) == ((rd_T153 l1 x13_1).f3)))))) = true := c8
                  clear c8
                  obtain rfl := Option.some.inj H
                  have p219 : 0 ≤ (x13_1 : Int) := of_decide_eq_true (by first | (with_reducible assumption) | assumption)
                  have q219 : x13_1 < (l0.length : Int) := of_decide_eq_true (by first | (with_reducible assumption) | assumption)
                  obtain ⟨ad219, e219, hx219_0, hx219_1, hx219_2, hx219_3⟩ := at_T153 HR0.out x13_1 p219 q219
                  cases e219
                  replace p219 := eq_true p219
                  replace q219 := eq_true q219
                  have p220 : 0 ≤ (x13_1 : Int) := of_decide_eq_true (by first | (with_reducible assumption) | assumption)
                  have q220 : x13_1 < (l1.length : Int) := of_decide_eq_true (by first | (with_reducible assumption) | assumption)
                  obtain ⟨ad220, e220, hx220_0, hx220_1, hx220_2, hx220_3⟩ := at_T153 HR1.out x13_1 p220 q220
                  cases e220
                  replace p220 := eq_true p220
                  replace q220 := eq_true q220
                  go_wp2
                  repeat (go_quiet (fail); try go_wp2)
                  go_ret
                  exact ⟨by first | rfl | (simp; done) | (simp [*]; done), by repeat (first | exact Drawn0.refl _ | apply Drawn0.step)⟩
                · rw [if_neg c8] at H
                  have c8b0 : (!(((rd_T153 l0 x13_1).f0) == ((rd_T153 l1 x13_1).f0)) || (!(((rd_T153 l0 x13_1).f1) == ((rd_T153 l1 x13_1).f1)) || (!((((rd_T153 l0 x13_1).f2).toList) == (((rd_T153 l1 x13_1).f2).toList)) || (!(((rd_T153 l0 x13_1).f3) == ((rd_T153 l1 x13_1).f3)))))) = false := by simpa using c8
                  clear c8
                  have H' := Aside0.mk H
                  clear H
                  have p219 : 0 ≤ (x13_1 : Int) := of_decide_eq_true (by first | (with_reducible assumption) | assumption)
                  have q219 : x13_1 < (l0.length : Int) := of_decide_eq_true (by first | (with_reducible assumption) | assumption)
                  obtain ⟨ad219, e219, hx219_0, hx219_1, hx219_2, hx219_3⟩ := at_T153 HR0.out x13_1 p219 q219
                  cases e219
                  replace p219 := eq_true p219
                  replace q219 := eq_true q219
                  have p220 : 0 ≤ (x13_1 : Int) := of_decide_eq_true (by first | (with_reducible assumption) | assumption)
                  have q220 : x13_1 < (l1.length : Int) := of_decide_eq_true (by first | (with_reducible assumption) | assumption)
                  obtain ⟨ad220, e220, hx220_0, hx220_1, hx220_2, hx220_3⟩ := at_T153 HR1.out x13_1 p220 q220
                  cases e220
                  replace p220 := eq_true p220
                  replace q220 := eq_true q220
                  go_wp2
                  repeat (go_quiet (fail); try go_wp2)
                  go_roundg k1
                  case measure => have := HK1.out; omega
                  case rel => exact ⟨(wrap64 (x13_1 + 1)), (by first | rfl | (simp; done) | (simp [*]; done)), H', ⟨by have := HK1.out; omega⟩, by repeat (first | exact Drawn0.refl _ | apply Drawn0.step)⟩
              · rw [if_neg c7] at H
                exact absurd H (by simp)
            · rw [if_neg c6] at H
              exact absurd H (by simp)
          · rw [if_neg c5] at H
            exact absurd H (by simp)
        · rw [if_neg c4] at H
          have c4b0 : decide (x13_1 < (l0.length : Int)) = false := decide_eq_false c4
          clear c4
          obtain rfl := Option.some.inj H
          go_wp2
          repeat (go_quiet (fail); try go_wp2)
          go_ret
          exact ⟨by first | rfl | (simp; done) | (simp [*]; done), by repeat (first | exact Drawn0.refl _ | apply Drawn0.step)⟩
  · rw [if_neg c3] at H
    have c3b0 : ((l0.length : Int) == (l1.length : Int)) = false := beq_eq_false_iff_ne.mpr c3
    have c3b1 : ((l0.length : Int) != (l1.length : Int)) = true := bne_iff_ne.mpr c3
    have c3b2 : (l0.length == l1.length) = false := by first | simpa using c3 | (simp at c3 ⊢; omega)
    obtain rfl := Option.some.inj H
    go_enter Try.func144, Try.ntmps144
    go_wp2
    repeat (go_quiet (fail); try go_wp2)
    go_ret
    exact ⟨by first | rfl | (simp; done) | (simp [*]; done), by repeat (first | exact Drawn0.refl _ | apply Drawn0.step)⟩
def object_sameFunc.f (k : Nat) (a0_0 : ByteArray) (a0_1 : Int) (l0_2 : List Int) (l0_3 : List (S153)) (a1_0 : ByteArray) (a1_1 : Int) (l1_2 : List Int) (l1_3 : List (S153)) : Option (Bool) := if a0_0.toList = a1_0.toList then (if a0_1 = a1_1 then ((slices_Equal_uint32_uint32.f k l0_2 l1_2).bind fun t223 => (if t223 = true then ((api_Rel.f k l0_3 l1_3).bind fun t224 => (some t224)) else (some false))) else (some false)) else (some false)
theorem object_sameFunc.mono : ∀ a0 a1 a2 a3 a4 a5 a6 a7 k, LeO (object_sameFunc.f k a0 a1 a2 a3 a4 a5 a6 a7) (object_sameFunc.f (k + 1) a0 a1 a2 a3 a4 a5 a6 a7) := by
  intro a0 a1 a2 a3 a4 a5 a6 a7 k
  unfold object_sameFunc.f
  repeat' first
      | (with_reducible exact api_Rel.mono _ _ _)
      | (with_reducible exact slices_Equal_uint32_uint32.mono _ _ _)
      | (with_reducible exact LeO.refl _)
      | (with_reducible exact LeO.none _)
      | (with_reducible refine LeO.ite ?_ ?_)
      | (with_reducible refine LeO.bind ?_ (fun _ => ?_))
      | exact api_Rel.mono _ _ _
      | exact slices_Equal_uint32_uint32.mono _ _ _
      | exact LeO.none _
      | refine LeO.ite ?_ ?_
      | refine LeO.bind ?_ (fun _ => ?_)
set_option maxHeartbeats 8000000 in
set_option maxRecDepth 100000 in
theorem object_sameFunc.calls (k : Nat) (a0_0 : ByteArray) (a0_1 : Int) (A0_2 : Option Addr) (c0_2 : Nat) (l0_2 : List Int) (A0_3 : Option Addr) (c0_3 : Nat) (l0_3 : List (S153)) (a1_0 : ByteArray) (a1_1 : Int) (A1_2 : Option Addr) (c1_2 : Nat) (l1_2 : List Int) (A1_3 : Option Addr) (c1_3 : Nat) (l1_3 : List (S153)) (r : Bool) (w : World) (hr0_2 : Kd.C (Kd.int .u32) w A0_2 l0_2.length l0_2) (hc0_2 : l0_2.length ≤ c0_2) (hr0_3 : Kd.C k153 w A0_3 l0_3.length l0_3) (hc0_3 : l0_3.length ≤ c0_3) (hr1_2 : Kd.C (Kd.int .u32) w A1_2 l1_2.length l1_2) (hc1_2 : l1_2.length ≤ c1_2) (hr1_3 : Kd.C k153 w A1_3 l1_3.length l1_3) (hc1_3 : l1_3.length ≤ c1_3) (h : object_sameFunc.f k a0_0 a0_1 l0_2 l0_3 a1_0 a1_1 l1_2 l1_3 = some r) :
    Calls Try.prog 124 #[.agg #[.string a0_0, .int .i64 a0_1, .slice A0_2 l0_2.length c0_2, .slice A0_3 l0_3.length c0_3], .agg #[.string a1_0, .int .i64 a1_1, .slice A1_2 l1_2.length c1_2, .slice A1_3 l1_3.length c1_3]] w fun e w' => e = .returned (.bool r) ∧ Below w.heap.size w w' := by
  have hu124 := Try.underlying124
  have HR0_2 := Aside0.mk hr0_2
  have HC0_2 := Aside0.mk hc0_2
  clear hr0_2 hc0_2
  have HR0_3 := Aside0.mk hr0_3
  have HC0_3 := Aside0.mk hc0_3
  clear hr0_3 hc0_3
  have HR1_2 := Aside0.mk hr1_2
  have HC1_2 := Aside0.mk hc1_2
  clear hr1_2 hc1_2
  have HR1_3 := Aside0.mk hr1_3
  have HC1_3 := Aside0.mk hc1_3
  clear hr1_3 hc1_3
  have HB := Aside0.mk (Below.refl w.heap.size w)
  have H : (if a0_0.toList = a1_0.toList then (if a0_1 = a1_1 then ((slices_Equal_uint32_uint32.f k l0_2 l1_2).bind fun t223 => (if t223 = true then ((api_Rel.f k l0_3 l1_3).bind fun t224 => (some t224)) else (some false))) else (some false)) else (some false)) = some r := h
  clear h
  by_cases c3 : a0_0.toList = a1_0.toList
  · rw [if_pos c3] at H
    have c3b0 : (a0_0.toList == a1_0.toList) = true := beq_iff_eq.mpr c3
    have c3b1 : (a0_0.toList != a1_0.toList) = false := bne_eq_false_iff_eq.mpr c3
    clear c3
    by_cases c4 : a0_1 = a1_1
    · rw [if_pos c4] at H
      have c4b0 : (a0_1 == a1_1) = true := beq_iff_eq.mpr c4
      have c4b1 : (a0_1 != a1_1) = false := bne_eq_false_iff_eq.mpr c4
      clear c4
      replace H := Option.bind_eq_some_iff.mp H
      obtain ⟨t223, A50, H⟩ := H
      replace H : (if t223 = true then ((api_Rel.f k l0_3 l1_3).bind fun t224 => (some t224)) else (some false)) = some r := H
      have A5 := Aside0.mk A50
      clear A50
      by_cases c6 : t223 = true
      · subst c6
        have H1 : ((api_Rel.f k l0_3 l1_3).bind fun t224 => (some t224)) = some r := by rw [if_pos rfl] at H; exact H
        clear H
        have H := H1
        clear H1
        replace H := Option.bind_eq_some_iff.mp H
        obtain ⟨t224, A70, H⟩ := H
        replace H : (some t224) = some r := H
        have A7 := Aside0.mk A70
        clear A70
        obtain rfl := Option.some.inj H
        go_enter Try.func124, Try.ntmps124
        go_wp2_with (first | ((with_reducible refine gate_dst (N := 2) rfl ?_); refine box_event ?hg (N := 2) ?hd (cs := #[.string a0_0, .int .i64 a0_1, .slice A0_2 l0_2.length c0_2, .slice A0_3 l0_3.length c0_3]) (t := 124) ?hr ?_; (case hd => rfl); (case hg => rfl); (case hr => first | (go_simp; done) | (go_simp; rfl)); intro gb221 hg w8 hbox hb; have n0_ := Aside0.mk (below_step (by repeat (first | (with_reducible first | exact HB.out | apply below_alloc | apply pw_below_drewN | apply below_drew1) | exact HB.out)) hb); have n1_ := Aside0.mk (hbox); have n2_ := Aside0.mk ((by rw [hg]; exact (below_size (by repeat (first | (with_reducible first | exact HB.out | apply below_alloc | apply pw_below_drewN | apply below_drew1) | exact HB.out))) : w.heap.size ≤ gb221)); have n3_ := Aside0.mk ((by rw [hg]; exact (below_size (by repeat (first | (with_reducible first | exact HB.out | apply below_alloc | apply pw_below_drewN | apply below_drew1) | exact HB.out))) : w.heap.size ≤ gb221)); clear HB; have HB := n0_; have BK221 := n1_; have GW221 := n2_; have GE221 := n3_; clear n0_ n1_ n2_ n3_; clear hb hbox hg) | ((with_reducible refine gate_dst (N := 3) rfl ?_); refine box_event ?hg (N := 3) ?hd (cs := #[.string a1_0, .int .i64 a1_1, .slice A1_2 l1_2.length c1_2, .slice A1_3 l1_3.length c1_3]) (t := 124) ?hr ?_; (case hd => rfl); (case hg => rfl); (case hr => first | (go_simp; done) | (go_simp; rfl)); intro gb222 hg w9 hbox hb; have n0_ := Aside0.mk (blk_below (g := gb221) (o := .cells #[.string a0_0, .int .i64 a0_1, .slice A0_2 l0_2.length c0_2, .slice A0_3 l0_3.length c0_3] 124 (0, 0)) (by (with_reducible repeat (first | refine blk_drewN ?_ _ | refine blk_drew ?_ | refine blk_alloc ?_ _)); exact BK221.out) hb); have n1_ := Aside0.mk (below_step (by repeat (first | (with_reducible first | exact HB.out | apply below_alloc | apply pw_below_drewN | apply below_drew1 | refine below_set ?_ GE221.out) | exact HB.out)) hb); have n2_ := Aside0.mk (hbox); have n3_ := Aside0.mk ((by rw [hg]; exact (below_size (by repeat (first | (with_reducible first | exact HB.out | apply below_alloc | apply pw_below_drewN | apply below_drew1 | refine below_set ?_ GE221.out) | exact HB.out))) : w.heap.size ≤ gb222)); have n4_ := Aside0.mk ((by rw [hg]; exact (below_size (by repeat (first | (with_reducible first | exact HB.out | apply below_alloc | apply pw_below_drewN | apply below_drew1 | refine below_set ?_ GE221.out) | exact HB.out))) : w.heap.size ≤ gb222)); have n5_ := Aside0.mk ((by rw [hg]; exact Nat.ne_of_lt (blk_lt (g := gb221) (o := .cells #[.string a0_0, .int .i64 a0_1, .slice A0_2 l0_2.length c0_2, .slice A0_3 l0_3.length c0_3] 124 (0, 0)) (by (with_reducible repeat (first | refine blk_drewN ?_ _ | refine blk_drew ?_ | refine blk_alloc ?_ _)); exact BK221.out)) : gb221 ≠ gb222)); have n6_ := Aside0.mk ((by rw [hg]; exact Nat.ne_of_gt (blk_lt (g := gb221) (o := .cells #[.string a0_0, .int .i64 a0_1, .slice A0_2 l0_2.length c0_2, .slice A0_3 l0_3.length c0_3] 124 (0, 0)) (by (with_reducible repeat (first | refine blk_drewN ?_ _ | refine blk_drew ?_ | refine blk_alloc ?_ _)); exact BK221.out)) : gb222 ≠ gb221)); clear BK221; clear HB; have BK221 := n0_; have HB := n1_; have BK222 := n2_; have GW222 := n3_; have GE222 := n4_; have NB221_222 := n5_; have NB222_221 := n6_; clear n0_ n1_ n2_ n3_ n4_ n5_ n6_; clear hb hbox hg; have hnb10 := NB221_222.out; have hnc10 := NB222_221.out; have hcz11_0 : w9.cell? ⟨gb221, 0, none⟩ = some (.string a0_0) := (blk_cell BK221.out 0).trans rfl; have hcz11_1 : w9.cell? ⟨gb221, 1, none⟩ = some (.int .i64 a0_1) := (blk_cell BK221.out 1).trans rfl; have hcz11_2 : w9.cell? ⟨gb221, 2, none⟩ = some (.slice A0_2 l0_2.length c0_2) := (blk_cell BK221.out 2).trans rfl; have hcz11_3 : w9.cell? ⟨gb221, 3, none⟩ = some (.slice A0_3 l0_3.length c0_3) := (blk_cell BK221.out 3).trans rfl; have hfz11_0 := blk_frozen BK221.out 0; have hfz11_1 := blk_frozen BK221.out 1; have hfz11_2 := blk_frozen BK221.out 2; have hfz11_3 := blk_frozen BK221.out 3; have hcz12_0 : w9.cell? ⟨gb222, 0, none⟩ = some (.string a1_0) := (blk_cell BK222.out 0).trans rfl; have hcz12_1 : w9.cell? ⟨gb222, 1, none⟩ = some (.int .i64 a1_1) := (blk_cell BK222.out 1).trans rfl; have hcz12_2 : w9.cell? ⟨gb222, 2, none⟩ = some (.slice A1_2 l1_2.length c1_2) := (blk_cell BK222.out 2).trans rfl; have hcz12_3 : w9.cell? ⟨gb222, 3, none⟩ = some (.slice A1_3 l1_3.length c1_3) := (blk_cell BK222.out 3).trans rfl; have hfz12_0 := blk_frozen BK222.out 0; have hfz12_1 := blk_frozen BK222.out 1; have hfz12_2 := blk_frozen BK222.out 2; have hfz12_3 := blk_frozen BK222.out 3) | (go_at_call 143; (with_reducible refine (slices_Equal_uint32_uint32.calls k _ _ l0_2 _ _ l1_2 true _ ?side1 ?side2 ?side3 ?side4 A5.out).mono ?_); (case side1 => repeat (first | exact (Kd.C_below HR0_2.out HB.out) | (with_reducible refine Kd.C_alloc ?_ _) | (with_reducible refine Kd.C_drewN ?_ _) | (with_reducible refine Kd.C_drew ?_))); (case side2 => exact HC0_2.out); (case side3 => repeat (first | exact (Kd.C_below HR1_2.out HB.out) | (with_reducible refine Kd.C_alloc ?_ _) | (with_reducible refine Kd.C_drewN ?_ _) | (with_reducible refine Kd.C_drew ?_))); (case side4 => exact HC1_2.out); rintro e w' ⟨rfl, ⟨nd, rfl⟩⟩) | (go_at_call 144; (with_reducible refine (api_Rel.calls k _ _ l0_3 _ _ l1_3 t224 _ ?side1 ?side2 ?side3 ?side4 A7.out).mono ?_); (case side1 => repeat (first | exact (Kd.C_below HR0_3.out (by repeat (first | (with_reducible first | exact HB.out | apply below_alloc | apply pw_below_drewN | apply below_drew1 | refine below_set ?_ GE221.out | refine below_set ?_ GE222.out) | exact HB.out))) | (with_reducible refine Kd.C_alloc ?_ _) | (with_reducible refine Kd.C_drewN ?_ _) | (with_reducible refine Kd.C_drew ?_))); (case side2 => exact HC0_3.out); (case side3 => repeat (first | exact (Kd.C_below HR1_3.out (by repeat (first | (with_reducible first | exact HB.out | apply below_alloc | apply pw_below_drewN | apply below_drew1 | refine below_set ?_ GE221.out | refine below_set ?_ GE222.out) | exact HB.out))) | (with_reducible refine Kd.C_alloc ?_ _) | (with_reducible refine Kd.C_drewN ?_ _) | (with_reducible refine Kd.C_drew ?_))); (case side4 => exact HC1_3.out); rintro e w' ⟨rfl, ⟨nd, rfl⟩⟩))
        go_ret
        exact ⟨by first | rfl | (simp [errW_none, errW_some] <;> rfl) | (simp [*, errW_none, errW_some] <;> rfl), by repeat (first | (with_reducible first | exact HB.out | apply below_alloc | apply pw_below_drewN | apply below_drew1 | refine below_set ?_ GE221.out | refine below_set ?_ GE222.out) | exact HB.out)⟩
      · replace c6 := Bool.eq_false_iff.mpr c6
        subst c6
        have H1 : (some false) = some r := by rw [if_neg (show ¬ (false = true) by decide)] at H; exact H
        clear H
        have H := H1
        clear H1
        obtain rfl := Option.some.inj H
        go_enter Try.func124, Try.ntmps124
        go_wp2_with (first | ((with_reducible refine gate_dst (N := 2) rfl ?_); refine box_event ?hg (N := 2) ?hd (cs := #[.string a0_0, .int .i64 a0_1, .slice A0_2 l0_2.length c0_2, .slice A0_3 l0_3.length c0_3]) (t := 124) ?hr ?_; (case hd => rfl); (case hg => rfl); (case hr => first | (go_simp; done) | (go_simp; rfl)); intro gb221 hg w13 hbox hb; have n0_ := Aside0.mk (below_step (by repeat (first | (with_reducible first | exact HB.out | apply below_alloc | apply pw_below_drewN | apply below_drew1) | exact HB.out)) hb); have n1_ := Aside0.mk (hbox); have n2_ := Aside0.mk ((by rw [hg]; exact (below_size (by repeat (first | (with_reducible first | exact HB.out | apply below_alloc | apply pw_below_drewN | apply below_drew1) | exact HB.out))) : w.heap.size ≤ gb221)); have n3_ := Aside0.mk ((by rw [hg]; exact (below_size (by repeat (first | (with_reducible first | exact HB.out | apply below_alloc | apply pw_below_drewN | apply below_drew1) | exact HB.out))) : w.heap.size ≤ gb221)); clear HB; have HB := n0_; have BK221 := n1_; have GW221 := n2_; have GE221 := n3_; clear n0_ n1_ n2_ n3_; clear hb hbox hg) | ((with_reducible refine gate_dst (N := 3) rfl ?_); refine box_event ?hg (N := 3) ?hd (cs := #[.string a1_0, .int .i64 a1_1, .slice A1_2 l1_2.length c1_2, .slice A1_3 l1_3.length c1_3]) (t := 124) ?hr ?_; (case hd => rfl); (case hg => rfl); (case hr => first | (go_simp; done) | (go_simp; rfl)); intro gb222 hg w14 hbox hb; have n0_ := Aside0.mk (blk_below (g := gb221) (o := .cells #[.string a0_0, .int .i64 a0_1, .slice A0_2 l0_2.length c0_2, .slice A0_3 l0_3.length c0_3] 124 (0, 0)) (by (with_reducible repeat (first | refine blk_drewN ?_ _ | refine blk_drew ?_ | refine blk_alloc ?_ _)); exact BK221.out) hb); have n1_ := Aside0.mk (below_step (by repeat (first | (with_reducible first | exact HB.out | apply below_alloc | apply pw_below_drewN | apply below_drew1 | refine below_set ?_ GE221.out) | exact HB.out)) hb); have n2_ := Aside0.mk (hbox); have n3_ := Aside0.mk ((by rw [hg]; exact (below_size (by repeat (first | (with_reducible first | exact HB.out | apply below_alloc | apply pw_below_drewN | apply below_drew1 | refine below_set ?_ GE221.out) | exact HB.out))) : w.heap.size ≤ gb222)); have n4_ := Aside0.mk ((by rw [hg]; exact (below_size (by repeat (first | (with_reducible first | exact HB.out | apply below_alloc | apply pw_below_drewN | apply below_drew1 | refine below_set ?_ GE221.out) | exact HB.out))) : w.heap.size ≤ gb222)); have n5_ := Aside0.mk ((by rw [hg]; exact Nat.ne_of_lt (blk_lt (g := gb221) (o := .cells #[.string a0_0, .int .i64 a0_1, .slice A0_2 l0_2.length c0_2, .slice A0_3 l0_3.length c0_3] 124 (0, 0)) (by (with_reducible repeat (first | refine blk_drewN ?_ _ | refine blk_drew ?_ | refine blk_alloc ?_ _)); exact BK221.out)) : gb221 ≠ gb222)); have n6_ := Aside0.mk ((by rw [hg]; exact Nat.ne_of_gt (blk_lt (g := gb221) (o := .cells #[.string a0_0, .int .i64 a0_1, .slice A0_2 l0_2.length c0_2, .slice A0_3 l0_3.length c0_3] 124 (0, 0)) (by (with_reducible repeat (first | refine blk_drewN ?_ _ | refine blk_drew ?_ | refine blk_alloc ?_ _)); exact BK221.out)) : gb222 ≠ gb221)); clear BK221; clear HB; have BK221 := n0_; have HB := n1_; have BK222 := n2_; have GW222 := n3_; have GE222 := n4_; have NB221_222 := n5_; have NB222_221 := n6_; clear n0_ n1_ n2_ n3_ n4_ n5_ n6_; clear hb hbox hg; have hnb15 := NB221_222.out; have hnc15 := NB222_221.out; have hcz16_0 : w14.cell? ⟨gb221, 0, none⟩ = some (.string a0_0) := (blk_cell BK221.out 0).trans rfl; have hcz16_1 : w14.cell? ⟨gb221, 1, none⟩ = some (.int .i64 a0_1) := (blk_cell BK221.out 1).trans rfl; have hcz16_2 : w14.cell? ⟨gb221, 2, none⟩ = some (.slice A0_2 l0_2.length c0_2) := (blk_cell BK221.out 2).trans rfl; have hcz16_3 : w14.cell? ⟨gb221, 3, none⟩ = some (.slice A0_3 l0_3.length c0_3) := (blk_cell BK221.out 3).trans rfl; have hfz16_0 := blk_frozen BK221.out 0; have hfz16_1 := blk_frozen BK221.out 1; have hfz16_2 := blk_frozen BK221.out 2; have hfz16_3 := blk_frozen BK221.out 3; have hcz17_0 : w14.cell? ⟨gb222, 0, none⟩ = some (.string a1_0) := (blk_cell BK222.out 0).trans rfl; have hcz17_1 : w14.cell? ⟨gb222, 1, none⟩ = some (.int .i64 a1_1) := (blk_cell BK222.out 1).trans rfl; have hcz17_2 : w14.cell? ⟨gb222, 2, none⟩ = some (.slice A1_2 l1_2.length c1_2) := (blk_cell BK222.out 2).trans rfl; have hcz17_3 : w14.cell? ⟨gb222, 3, none⟩ = some (.slice A1_3 l1_3.length c1_3) := (blk_cell BK222.out 3).trans rfl; have hfz17_0 := blk_frozen BK222.out 0; have hfz17_1 := blk_frozen BK222.out 1; have hfz17_2 := blk_frozen BK222.out 2; have hfz17_3 := blk_frozen BK222.out 3) | (go_at_call 143; (with_reducible refine (slices_Equal_uint32_uint32.calls k _ _ l0_2 _ _ l1_2 false _ ?side1 ?side2 ?side3 ?side4 A5.out).mono ?_); (case side1 => repeat (first | exact (Kd.C_below HR0_2.out HB.out) | (with_reducible refine Kd.C_alloc ?_ _) | (with_reducible refine Kd.C_drewN ?_ _) | (with_reducible refine Kd.C_drew ?_))); (case side2 => exact HC0_2.out); (case side3 => repeat (first | exact (Kd.C_below HR1_2.out HB.out) | (with_reducible refine Kd.C_alloc ?_ _) | (with_reducible refine Kd.C_drewN ?_ _) | (with_reducible refine Kd.C_drew ?_))); (case side4 => exact HC1_2.out); rintro e w' ⟨rfl, ⟨nd, rfl⟩⟩))
        go_ret
        exact ⟨by first | rfl | (simp [errW_none, errW_some] <;> rfl) | (simp [*, errW_none, errW_some] <;> rfl), by repeat (first | (with_reducible first | exact HB.out | apply below_alloc | apply pw_below_drewN | apply below_drew1 | refine below_set ?_ GE221.out | refine below_set ?_ GE222.out) | exact HB.out)⟩
    · rw [if_neg c4] at H
      have c4b0 : (a0_1 == a1_1) = false := beq_eq_false_iff_ne.mpr c4
      have c4b1 : (a0_1 != a1_1) = true := bne_iff_ne.mpr c4
      obtain rfl := Option.some.inj H
      go_enter Try.func124, Try.ntmps124
      go_wp2_with (first | ((with_reducible refine gate_dst (N := 2) rfl ?_); refine box_event ?hg (N := 2) ?hd (cs := #[.string a0_0, .int .i64 a0_1, .slice A0_2 l0_2.length c0_2, .slice A0_3 l0_3.length c0_3]) (t := 124) ?hr ?_; (case hd => rfl); (case hg => rfl); (case hr => first | (go_simp; done) | (go_simp; rfl)); intro gb221 hg w18 hbox hb; have n0_ := Aside0.mk (below_step (by repeat (first | (with_reducible first | exact HB.out | apply below_alloc | apply pw_below_drewN | apply below_drew1) | exact HB.out)) hb); have n1_ := Aside0.mk (hbox); have n2_ := Aside0.mk ((by rw [hg]; exact (below_size (by repeat (first | (with_reducible first | exact HB.out | apply below_alloc | apply pw_below_drewN | apply below_drew1) | exact HB.out))) : w.heap.size ≤ gb221)); have n3_ := Aside0.mk ((by rw [hg]; exact (below_size (by repeat (first | (with_reducible first | exact HB.out | apply below_alloc | apply pw_below_drewN | apply below_drew1) | exact HB.out))) : w.heap.size ≤ gb221)); clear HB; have HB := n0_; have BK221 := n1_; have GW221 := n2_; have GE221 := n3_; clear n0_ n1_ n2_ n3_; clear hb hbox hg) | ((with_reducible refine gate_dst (N := 3) rfl ?_); refine box_event ?hg (N := 3) ?hd (cs := #[.string a1_0, .int .i64 a1_1, .slice A1_2 l1_2.length c1_2, .slice A1_3 l1_3.length c1_3]) (t := 124) ?hr ?_; (case hd => rfl); (case hg => rfl); (case hr => first | (go_simp; done) | (go_simp; rfl)); intro gb222 hg w19 hbox hb; have n0_ := Aside0.mk (blk_below (g := gb221) (o := .cells #[.string a0_0, .int .i64 a0_1, .slice A0_2 l0_2.length c0_2, .slice A0_3 l0_3.length c0_3] 124 (0, 0)) (by (with_reducible repeat (first | refine blk_drewN ?_ _ | refine blk_drew ?_ | refine blk_alloc ?_ _)); exact BK221.out) hb); have n1_ := Aside0.mk (below_step (by repeat (first | (with_reducible first | exact HB.out | apply below_alloc | apply pw_below_drewN | apply below_drew1 | refine below_set ?_ GE221.out) | exact HB.out)) hb); have n2_ := Aside0.mk (hbox); have n3_ := Aside0.mk ((by rw [hg]; exact (below_size (by repeat (first | (with_reducible first | exact HB.out | apply below_alloc | apply pw_below_drewN | apply below_drew1 | refine below_set ?_ GE221.out) | exact HB.out))) : w.heap.size ≤ gb222)); have n4_ := Aside0.mk ((by rw [hg]; exact (below_size (by repeat (first | (with_reducible first | exact HB.out | apply below_alloc | apply pw_below_drewN | apply below_drew1 | refine below_set ?_ GE221.out) | exact HB.out))) : w.heap.size ≤ gb222)); have n5_ := Aside0.mk ((by rw [hg]; exact Nat.ne_of_lt (blk_lt (g := gb221) (o := .cells #[.string a0_0, .int .i64 a0_1, .slice A0_2 l0_2.length c0_2, .slice A0_3 l0_3.length c0_3] 124 (0, 0)) (by (with_reducible repeat (first | refine blk_drewN ?_ _ | refine blk_drew ?_ | refine blk_alloc ?_ _)); exact BK221.out)) : gb221 ≠ gb222)); have n6_ := Aside0.mk ((by rw [hg]; exact Nat.ne_of_gt (blk_lt (g := gb221) (o := .cells #[.string a0_0, .int .i64 a0_1, .slice A0_2 l0_2.length c0_2, .slice A0_3 l0_3.length c0_3] 124 (0, 0)) (by (with_reducible repeat (first | refine blk_drewN ?_ _ | refine blk_drew ?_ | refine blk_alloc ?_ _)); exact BK221.out)) : gb222 ≠ gb221)); clear BK221; clear HB; have BK221 := n0_; have HB := n1_; have BK222 := n2_; have GW222 := n3_; have GE222 := n4_; have NB221_222 := n5_; have NB222_221 := n6_; clear n0_ n1_ n2_ n3_ n4_ n5_ n6_; clear hb hbox hg; have hnb20 := NB221_222.out; have hnc20 := NB222_221.out; have hcz21_0 : w19.cell? ⟨gb221, 0, none⟩ = some (.string a0_0) := (blk_cell BK221.out 0).trans rfl; have hcz21_1 : w19.cell? ⟨gb221, 1, none⟩ = some (.int .i64 a0_1) := (blk_cell BK221.out 1).trans rfl; have hcz21_2 : w19.cell? ⟨gb221, 2, none⟩ = some (.slice A0_2 l0_2.length c0_2) := (blk_cell BK221.out 2).trans rfl; have hcz21_3 : w19.cell? ⟨gb221, 3, none⟩ = some (.slice A0_3 l0_3.length c0_3) := (blk_cell BK221.out 3).trans rfl; have hfz21_0 := blk_frozen BK221.out 0; have hfz21_1 := blk_frozen BK221.out 1; have hfz21_2 := blk_frozen BK221.out 2; have hfz21_3 := blk_frozen BK221.out 3; have hcz22_0 : w19.cell? ⟨gb222, 0, none⟩ = some (.string a1_0) := (blk_cell BK222.out 0).trans rfl; have hcz22_1 : w19.cell? ⟨gb222, 1, none⟩ = some (.int .i64 a1_1) := (blk_cell BK222.out 1).trans rfl; have hcz22_2 : w19.cell? ⟨gb222, 2, none⟩ = some (.slice A1_2 l1_2.length c1_2) := (blk_cell BK222.out 2).trans rfl; have hcz22_3 : w19.cell? ⟨gb222, 3, none⟩ = some (.slice A1_3 l1_3.length c1_3) := (blk_cell BK222.out 3).trans rfl; have hfz22_0 := blk_frozen BK222.out 0; have hfz22_1 := blk_frozen BK222.out 1; have hfz22_2 := blk_frozen BK222.out 2; have hfz22_3 := blk_frozen BK222.out 3))
      go_ret
      exact ⟨by first | rfl | (simp [errW_none, errW_some] <;> rfl) | (simp [*, errW_none, errW_some] <;> rfl), by repeat (first | (with_reducible first | exact HB.out | apply below_alloc | apply pw_below_drewN | apply below_drew1 | refine below_set ?_ GE221.out | refine below_set ?_ GE222.out) | exact HB.out)⟩
  · rw [if_neg c3] at H
    have c3b0 : (a0_0.toList == a1_0.toList) = false := beq_eq_false_iff_ne.mpr c3
    have c3b1 : (a0_0.toList != a1_0.toList) = true := bne_iff_ne.mpr c3
    obtain rfl := Option.some.inj H
    go_enter Try.func124, Try.ntmps124
    go_wp2_with (first | ((with_reducible refine gate_dst (N := 2) rfl ?_); refine box_event ?hg (N := 2) ?hd (cs := #[.string a0_0, .int .i64 a0_1, .slice A0_2 l0_2.length c0_2, .slice A0_3 l0_3.length c0_3]) (t := 124) ?hr ?_; (case hd => rfl); (case hg => rfl); (case hr => first | (go_simp; done) | (go_simp; rfl)); intro gb221 hg w23 hbox hb; have n0_ := Aside0.mk (below_step (by repeat (first | (with_reducible first | exact HB.out | apply below_alloc | apply pw_below_drewN | apply below_drew1) | exact HB.out)) hb); have n1_ := Aside0.mk (hbox); have n2_ := Aside0.mk ((by rw [hg]; exact (below_size (by repeat (first | (with_reducible first | exact HB.out | apply below_alloc | apply pw_below_drewN | apply below_drew1) | exact HB.out))) : w.heap.size ≤ gb221)); have n3_ := Aside0.mk ((by rw [hg]; exact (below_size (by repeat (first | (with_reducible first | exact HB.out | apply below_alloc | apply pw_below_drewN | apply below_drew1) | exact HB.out))) : w.heap.size ≤ gb221)); clear HB; have HB := n0_; have BK221 := n1_; have GW221 := n2_; have GE221 := n3_; clear n0_ n1_ n2_ n3_; clear hb hbox hg) | ((with_reducible refine gate_dst (N := 3) rfl ?_); refine box_event ?hg (N := 3) ?hd (cs := #[.string a1_0, .int .i64 a1_1, .slice A1_2 l1_2.length c1_2, .slice A1_3 l1_3.length c1_3]) (t := 124) ?hr ?_; (case hd => rfl); (case hg => rfl); (case hr => first | (go_simp; done) | (go_simp; rfl)); intro gb222 hg w24 hbox hb; have n0_ := Aside0.mk (blk_below (g := gb221) (o := .cells #[.string a0_0, .int .i64 a0_1, .slice A0_2 l0_2.length c0_2, .slice A0_3 l0_3.length c0_3] 124 (0, 0)) (by (with_reducible repeat (first | refine blk_drewN ?_ _ | refine blk_drew ?_ | refine blk_alloc ?_ _)); exact BK221.out) hb); have n1_ := Aside0.mk (below_step (by repeat (first | (with_reducible first | exact HB.out | apply below_alloc | apply pw_below_drewN | apply below_drew1 | refine below_set ?_ GE221.out) | exact HB.out)) hb); have n2_ := Aside0.mk (hbox); have n3_ := Aside0.mk ((by rw [hg]; exact (below_size (by repeat (first | (with_reducible first | exact HB.out | apply below_alloc | apply pw_below_drewN | apply below_drew1 | refine below_set ?_ GE221.out) | exact HB.out))) : w.heap.size ≤ gb222)); have n4_ := Aside0.mk ((by rw [hg]; exact (below_size (by repeat (first | (with_reducible first | exact HB.out | apply below_alloc | apply pw_below_drewN | apply below_drew1 | refine below_set ?_ GE221.out) | exact HB.out))) : w.heap.size ≤ gb222)); have n5_ := Aside0.mk ((by rw [hg]; exact Nat.ne_of_lt (blk_lt (g := gb221) (o := .cells #[.string a0_0, .int .i64 a0_1, .slice A0_2 l0_2.length c0_2, .slice A0_3 l0_3.length c0_3] 124 (0, 0)) (by (with_reducible repeat (first | refine blk_drewN ?_ _ | refine blk_drew ?_ | refine blk_alloc ?_ _)); exact BK221.out)) : gb221 ≠ gb222)); have n6_ := Aside0.mk ((by rw [hg]; exact Nat.ne_of_gt (blk_lt (g := gb221) (o := .cells #[.string a0_0, .int .i64 a0_1, .slice A0_2 l0_2.length c0_2, .slice A0_3 l0_3.length c0_3] 124 (0, 0)) (by (with_reducible repeat (first | refine blk_drewN ?_ _ | refine blk_drew ?_ | refine blk_alloc ?_ _)); exact BK221.out)) : gb222 ≠ gb221)); clear BK221; clear HB; have BK221 := n0_; have HB := n1_; have BK222 := n2_; have GW222 := n3_; have GE222 := n4_; have NB221_222 := n5_; have NB222_221 := n6_; clear n0_ n1_ n2_ n3_ n4_ n5_ n6_; clear hb hbox hg; have hnb25 := NB221_222.out; have hnc25 := NB222_221.out; have hcz26_0 : w24.cell? ⟨gb221, 0, none⟩ = some (.string a0_0) := (blk_cell BK221.out 0).trans rfl; have hcz26_1 : w24.cell? ⟨gb221, 1, none⟩ = some (.int .i64 a0_1) := (blk_cell BK221.out 1).trans rfl; have hcz26_2 : w24.cell? ⟨gb221, 2, none⟩ = some (.slice A0_2 l0_2.length c0_2) := (blk_cell BK221.out 2).trans rfl; have hcz26_3 : w24.cell? ⟨gb221, 3, none⟩ = some (.slice A0_3 l0_3.length c0_3) := (blk_cell BK221.out 3).trans rfl; have hfz26_0 := blk_frozen BK221.out 0; have hfz26_1 := blk_frozen BK221.out 1; have hfz26_2 := blk_frozen BK221.out 2; have hfz26_3 := blk_frozen BK221.out 3; have hcz27_0 : w24.cell? ⟨gb222, 0, none⟩ = some (.string a1_0) := (blk_cell BK222.out 0).trans rfl; have hcz27_1 : w24.cell? ⟨gb222, 1, none⟩ = some (.int .i64 a1_1) := (blk_cell BK222.out 1).trans rfl; have hcz27_2 : w24.cell? ⟨gb222, 2, none⟩ = some (.slice A1_2 l1_2.length c1_2) := (blk_cell BK222.out 2).trans rfl; have hcz27_3 : w24.cell? ⟨gb222, 3, none⟩ = some (.slice A1_3 l1_3.length c1_3) := (blk_cell BK222.out 3).trans rfl; have hfz27_0 := blk_frozen BK222.out 0; have hfz27_1 := blk_frozen BK222.out 1; have hfz27_2 := blk_frozen BK222.out 2; have hfz27_3 := blk_frozen BK222.out 3))
    go_ret
    exact ⟨by first | rfl | (simp [errW_none, errW_some] <;> rfl) | (simp [*, errW_none, errW_some] <;> rfl), by repeat (first | (with_reducible first | exact HB.out | apply below_alloc | apply pw_below_drewN | apply below_drew1 | refine below_set ?_ GE221.out | refine below_set ?_ GE222.out) | exact HB.out)⟩
def slices_Equal_byte_byte.l0 : Nat → List Int → List Int → Int → Int → Option (Bool)
  | 0, _, _, _, _ => none
  | k + 1, x0, x1, x12, x13 => if x13 < x12 then (if 0 ≤ x13 then (if x13 < (x0.length : Int) then (if x13 < (x1.length : Int) then (if (rd x0 x13) = (rd x1 x13) then (slices_Equal_byte_byte.l0 k x0 x1 x12 (wrap64 (x13 + 1))) else (some false)) else (none)) else (none)) else (none)) else (some true)
def slices_Equal_byte_byte.f (k : Nat) (l0 : List Int) (l1 : List Int) : Option (Bool) := if (l0.length : Int) = (l1.length : Int) then (slices_Equal_byte_byte.l0 k l0 l1 (l0.length : Int) 0) else (some false)
theorem slices_Equal_byte_byte.mono_l : ∀ k, (∀ y0 y1 y2 y3, LeO (slices_Equal_byte_byte.l0 k y0 y1 y2 y3) (slices_Equal_byte_byte.l0 (k + 1) y0 y1 y2 y3))
  | 0 => fun _ _ _ _ r h => by simp [slices_Equal_byte_byte.l0] at h
  | k + 1 => by
    have ih0 := slices_Equal_byte_byte.mono_l k
    · intro y0 y1 y2 y3
      unfold slices_Equal_byte_byte.l0
      repeat' first
      | (with_reducible exact ih0 _ _ _ _)
      | (with_reducible exact LeO.refl _)
      | (with_reducible exact LeO.none _)
      | (with_reducible refine LeO.ite ?_ ?_)
      | (with_reducible refine LeO.bind ?_ (fun _ => ?_))
      | exact ih0 _ _ _ _
      | exact LeO.none _
      | refine LeO.ite ?_ ?_
      | refine LeO.bind ?_ (fun _ => ?_)
theorem slices_Equal_byte_byte.mono : ∀ a0 a1 k, LeO (slices_Equal_byte_byte.f k a0 a1) (slices_Equal_byte_byte.f (k + 1) a0 a1) := by
  intro a0 a1 k
  have ih0 := slices_Equal_byte_byte.mono_l k
  unfold slices_Equal_byte_byte.f
  repeat' first
      | (with_reducible exact ih0 _ _ _ _)
      | (with_reducible exact LeO.refl _)
      | (with_reducible exact LeO.none _)
      | (with_reducible refine LeO.ite ?_ ?_)
      | (with_reducible refine LeO.bind ?_ (fun _ => ?_))
      | exact ih0 _ _ _ _
      | exact LeO.none _
      | refine LeO.ite ?_ ?_
      | refine LeO.bind ?_ (fun _ => ?_)
set_option maxHeartbeats 8000000 in
set_option maxRecDepth 100000 in
theorem slices_Equal_byte_byte.calls (k : Nat) (A0 : Option Addr) (c0 : Nat) (l0 : List Int) (A1 : Option Addr) (c1 : Nat) (l1 : List Int) (r : Bool) (w : World) (hr0 : Kd.C (Kd.int .u8) w A0 l0.length l0) (hc0 : l0.length ≤ c0) (hr1 : Kd.C (Kd.int .u8) w A1 l1.length l1) (hc1 : l1.length ≤ c1) (h : slices_Equal_byte_byte.f k l0 l1 = some r) :
    Calls Try.prog 145 #[.slice A0 l0.length c0, .slice A1 l1.length c1] w fun e w' => e = .returned (.bool r) ∧ Drawn0 w w' := by
  have HR0 := Aside0.mk hr0
  have HC0 := Aside0.mk hc0
  clear hr0 hc0
  have HR1 := Aside0.mk hr1
  have HC1 := Aside0.mk hc1
  clear hr1 hc1
  have H : (if (l0.length : Int) = (l1.length : Int) then (slices_Equal_byte_byte.l0 k l0 l1 (l0.length : Int) 0) else (some false)) = some r := h
  clear h
  by_cases c3 : (l0.length : Int) = (l1.length : Int)
  · rw [if_pos c3] at H
    have c3b0 : ((l0.length : Int) == (l1.length : Int)) = true := beq_iff_eq.mpr c3
    have c3b1 : ((l0.length : Int) != (l1.length : Int)) = false := bne_eq_false_iff_eq.mpr c3
    have c3b2 : (l0.length == l1.length) = true := by first | simpa using c3 | (simp at c3 ⊢; omega)
    clear c3
    have H' := Aside0.mk H
    clear H
    go_enter Try.func145, Try.ntmps145
    go_wp2
    repeat (go_quiet (fail); try go_wp2)
    go_loopg [13] k (fun kq v13 w' => ∃ (x13_1 : Int), v13 = .int .i64 x13_1 ∧ Aside0 (slices_Equal_byte_byte.l0 kq l0 l1 (l0.length : Int) x13_1 = some r) ∧ Aside0 (kq ≤ k) ∧ Drawn0 w w')
    case atStart => exact ⟨(0), (by first | rfl | (simp; done) | (simp [*]; done)), H', ⟨Nat.le_refl _⟩, by repeat (first | exact Drawn0.refl _ | apply Drawn0.step)⟩
    case round =>
      clear H'
      try clear c1
      try clear p2
      try clear c3
      try clear c3b0
      try clear c3b1
      try clear c3b2
      obtain ⟨x13_1, rfl, HA, HK1, ⟨m1, rfl⟩⟩ := hrel
      cases gk with
      | zero => exact absurd HA.out (by simp [slices_Equal_byte_byte.l0])
      | succ k1 =>
        have H := HA.out
        clear HA
        simp only [slices_Equal_byte_byte.l0] at H
        by_cases c4 : x13_1 < (l0.length : Int)
        · rw [if_pos c4] at H
          have c4b0 : decide (x13_1 < (l0.length : Int)) = true := decide_eq_true c4
          clear c4
          by_cases c5 : 0 ≤ x13_1
          · rw [if_pos c5] at H
            have c5b0 : decide (0 ≤ x13_1) = true := decide_eq_true c5
            clear c5
            by_cases c6 : x13_1 < (l0.length : Int)
            · rw [if_pos c6] at H
              have c6b0 : decide (x13_1 < (l0.length : Int)) = true := decide_eq_true c6
              clear c6
              by_cases c7 : x13_1 < (l1.length : Int)
              · rw [if_pos c7] at H
                have c7b0 : decide (x13_1 < (l1.length : Int)) = true := decide_eq_true c7
                clear c7
                by_cases c8 : (rd l0 x13_1) = (rd l1 x13_1)
                · rw [if_pos c8] at H
                  have c8b0 : ((rd l0 x13_1) == (rd l1 x13_1)) = true := beq_iff_eq.mpr c8
                  have c8b1 : ((rd l0 x13_1) != (rd l1 x13_1)) = false := bne_eq_false_iff_eq.mpr c8
                  clear c8
                  have H' := Aside0.mk H
                  clear H
                  have p225 : 0 ≤ (x13_1 : Int) := of_decide_eq_true (by first | (with_reducible assumption) | assumption)
                  have q225 : x13_1 < (l0.length : Int) := of_decide_eq_true (by first | (with_reducible assumption) | assumption)
                  obtain ⟨ad225, e225, hx225_0⟩ := Kd.at_int HR0.out x13_1 p225 q225
                  cases e225
                  replace p225 := eq_true p225
                  replace q225 := eq_true q225
                  have p226 : 0 ≤ (x13_1 : Int) := of_decide_eq_true (by first | (with_reducible assumption) | assumption)
                  have q226 : x13_1 < (l1.length : Int) := of_decide_eq_true (by first | (with_reducible assumption) | assumption)
                  obtain ⟨ad226, e226, hx226_0⟩ := Kd.at_int HR1.out x13_1 p226 q226
                  cases e226
                  replace p226 := eq_true p226
                  replace q226 := eq_true q226
                  go_wp2
                  repeat (go_quiet (fail); try go_wp2)
                  go_roundg k1
                  case measure => have := HK1.out; omega
                  case rel => exact ⟨(wrap64 (x13_1 + 1)), (by first | rfl | (simp; done) | (simp [*]; done)), H', ⟨by have := HK1.out; omega⟩, by repeat (first | exact Drawn0.refl _ | apply Drawn0.step)⟩
                · rw [if_neg c8] at H
                  have c8b0 : ((rd l0 x13_1) == (rd l1 x13_1)) = false := beq_eq_false_iff_ne.mpr c8
                  have c8b1 : ((rd l0 x13_1) != (rd l1 x13_1)) = true := bne_iff_ne.mpr c8
                  obtain rfl := Option.some.inj H
                  have p225 : 0 ≤ (x13_1 : Int) := of_decide_eq_true (by first | (with_reducible assumption) | assumption)
                  have q225 : x13_1 < (l0.length : Int) := of_decide_eq_true (by first | (with_reducible assumption) | assumption)
                  obtain ⟨ad225, e225, hx225_0⟩ := Kd.at_int HR0.out x13_1 p225 q225
                  cases e225
                  replace p225 := eq_true p225
                  replace q225 := eq_true q225
                  have p226 : 0 ≤ (x13_1 : Int) := of_decide_eq_true (by first | (with_reducible assumption) | assumption)
                  have q226 : x13_1 < (l1.length : Int) := of_decide_eq_true (by first | (with_reducible assumption) | assumption)
                  obtain ⟨ad226, e226, hx226_0⟩ := Kd.at_int HR1.out x13_1 p226 q226
                  cases e226
                  replace p226 := eq_true p226
                  replace q226 := eq_true q226
                  go_wp2
                  repeat (go_quiet (fail); try go_wp2)
                  go_ret
                  exact ⟨by first | rfl | (simp; done) | (simp [*]; done), by repeat (first | exact Drawn0.refl _ | apply Drawn0.step)⟩
              · rw [if_neg c7] at H
                exact absurd H (by simp)
            · rw [if_neg c6] at H
              exact absurd H (by simp)
          · rw [if_neg c5] at H
            exact absurd H (by simp)
        · rw [if_neg c4] at H
          have c4b0 : decide (x13_1 < (l0.length : Int)) = false := decide_eq_false c4
          clear c4
          obtain rfl := Option.some.inj H
          go_wp2
          repeat (go_quiet (fail); try go_wp2)
          go_ret
          exact ⟨by first | rfl | (simp; done) | (simp [*]; done), by repeat (first | exact Drawn0.refl _ | apply Drawn0.step)⟩
  · rw [if_neg c3] at H
    have c3b0 : ((l0.length : Int) == (l1.length : Int)) = false := beq_eq_false_iff_ne.mpr c3
    have c3b1 : ((l0.length : Int) != (l1.length : Int)) = true := bne_iff_ne.mpr c3
    have c3b2 : (l0.length == l1.length) = false := by first | simpa using c3 | (simp at c3 ⊢; omega)
    obtain rfl := Option.some.inj H
    go_enter Try.func145, Try.ntmps145
    go_wp2
    repeat (go_quiet (fail); try go_wp2)
    go_ret
    exact ⟨by first | rfl | (simp; done) | (simp [*]; done), by repeat (first | exact Drawn0.refl _ | apply Drawn0.step)⟩
def object_sameData.f (k : Nat) (a0_0 : ByteArray) (a0_1 : Int) (a0_2 : Int) (a0_3 : Bool) (a0_4 : Int) (l0_5 : List Int) (l0_6 : List (S153)) (a1_0 : ByteArray) (a1_1 : Int) (a1_2 : Int) (a1_3 : Bool) (a1_4 : Int) (l1_5 : List Int) (l1_6 : List (S153)) : Option (Bool) := if a0_0.toList = a1_0.toList then (if a0_1 = a1_1 then (if a0_2 = a1_2 then (if (a0_3 == a1_3) = true then (if a0_4 = a1_4 then ((slices_Equal_byte_byte.f k l0_5 l1_5).bind fun t229 => (if t229 = true then ((api_Rel.f k l0_6 l1_6).bind fun t230 => (some t230)) else (some false))) else (some false)) else (some false)) else (some false)) else (some false)) else (some false)
theorem object_sameData.mono : ∀ a0 a1 a2 a3 a4 a5 a6 a7 a8 a9 a10 a11 a12 a13 k, LeO (object_sameData.f k a0 a1 a2 a3 a4 a5 a6 a7 a8 a9 a10 a11 a12 a13) (object_sameData.f (k + 1) a0 a1 a2 a3 a4 a5 a6 a7 a8 a9 a10 a11 a12 a13) := by
  intro a0 a1 a2 a3 a4 a5 a6 a7 a8 a9 a10 a11 a12 a13 k
  unfold object_sameData.f
  repeat' first
      | (with_reducible exact api_Rel.mono _ _ _)
      | (with_reducible exact slices_Equal_byte_byte.mono _ _ _)
      | (with_reducible exact LeO.refl _)
      | (with_reducible exact LeO.none _)
      | (with_reducible refine LeO.ite ?_ ?_)
      | (with_reducible refine LeO.bind ?_ (fun _ => ?_))
      | exact api_Rel.mono _ _ _
      | exact slices_Equal_byte_byte.mono _ _ _
      | exact LeO.none _
      | refine LeO.ite ?_ ?_
      | refine LeO.bind ?_ (fun _ => ?_)
set_option maxHeartbeats 8000000 in
set_option maxRecDepth 100000 in
theorem object_sameData.calls (k : Nat) (a0_0 : ByteArray) (a0_1 : Int) (a0_2 : Int) (a0_3 : Bool) (a0_4 : Int) (A0_5 : Option Addr) (c0_5 : Nat) (l0_5 : List Int) (A0_6 : Option Addr) (c0_6 : Nat) (l0_6 : List (S153)) (a1_0 : ByteArray) (a1_1 : Int) (a1_2 : Int) (a1_3 : Bool) (a1_4 : Int) (A1_5 : Option Addr) (c1_5 : Nat) (l1_5 : List Int) (A1_6 : Option Addr) (c1_6 : Nat) (l1_6 : List (S153)) (r : Bool) (w : World) (hr0_5 : Kd.C (Kd.int .u8) w A0_5 l0_5.length l0_5) (hc0_5 : l0_5.length ≤ c0_5) (hr0_6 : Kd.C k153 w A0_6 l0_6.length l0_6) (hc0_6 : l0_6.length ≤ c0_6) (hr1_5 : Kd.C (Kd.int .u8) w A1_5 l1_5.length l1_5) (hc1_5 : l1_5.length ≤ c1_5) (hr1_6 : Kd.C k153 w A1_6 l1_6.length l1_6) (hc1_6 : l1_6.length ≤ c1_6) (h : object_sameData.f k a0_0 a0_1 a0_2 a0_3 a0_4 l0_5 l0_6 a1_0 a1_1 a1_2 a1_3 a1_4 l1_5 l1_6 = some r) :
    Calls Try.prog 126 #[.agg #[.string a0_0, .int .i64 a0_1, .int .i64 a0_2, .bool a0_3, .int .i64 a0_4, .slice A0_5 l0_5.length c0_5, .slice A0_6 l0_6.length c0_6], .agg #[.string a1_0, .int .i64 a1_1, .int .i64 a1_2, .bool a1_3, .int .i64 a1_4, .slice A1_5 l1_5.length c1_5, .slice A1_6 l1_6.length c1_6]] w fun e w' => e = .returned (.bool r) ∧ Below w.heap.size w w' := by
  have hu102 := Try.underlying102
  have HR0_5 := Aside0.mk hr0_5
  have HC0_5 := Aside0.mk hc0_5
  clear hr0_5 hc0_5
  have HR0_6 := Aside0.mk hr0_6
  have HC0_6 := Aside0.mk hc0_6
  clear hr0_6 hc0_6
  have HR1_5 := Aside0.mk hr1_5
  have HC1_5 := Aside0.mk hc1_5
  clear hr1_5 hc1_5
  have HR1_6 := Aside0.mk hr1_6
  have HC1_6 := Aside0.mk hc1_6
  clear hr1_6 hc1_6
  have HB := Aside0.mk (Below.refl w.heap.size w)
  have H : (if a0_0.toList = a1_0.toList then (if a0_1 = a1_1 then (if a0_2 = a1_2 then (if (a0_3 == a1_3) = true then (if a0_4 = a1_4 then ((slices_Equal_byte_byte.f k l0_5 l1_5).bind fun t229 => (if t229 = true then ((api_Rel.f k l0_6 l1_6).bind fun t230 => (some t230)) else (some false))) else (some false)) else (some false)) else (some false)) else (some false)) else (some false)) = some r := h
  clear h
  by_cases c3 : a0_0.toList = a1_0.toList
  · rw [if_pos c3] at H
    have c3b0 : (a0_0.toList == a1_0.toList) = true := beq_iff_eq.mpr c3
    have c3b1 : (a0_0.toList != a1_0.toList) = false := bne_eq_false_iff_eq.mpr c3
    clear c3
    by_cases c4 : a0_1 = a1_1
    · rw [if_pos c4] at H
      have c4b0 : (a0_1 == a1_1) = true := beq_iff_eq.mpr c4
      have c4b1 : (a0_1 != a1_1) = false := bne_eq_false_iff_eq.mpr c4
      clear c4
      by_cases c5 : a0_2 = a1_2
      · rw [if_pos c5] at H
        have c5b0 : (a0_2 == a1_2) = true := beq_iff_eq.mpr c5
        have c5b1 : (a0_2 != a1_2) = false := bne_eq_false_iff_eq.mpr c5
        clear c5
        by_cases c6 : (a0_3 == a1_3) = true
        · rw [if_pos c6] at H
          have c6b0 : (a0_3 == a1_3) = true := c6
          (try (have c6b1 : decide (a0_3 = a1_3) = true := by simpa using c6))
          (try (have c6b2 : (a0_3 == a1_3) = true := by simpa using c6))
          clear c6
          by_cases c7 : a0_4 = a1_4
          · rw [if_pos c7] at H
            have c7b0 : (a0_4 == a1_4) = true := beq_iff_eq.mpr c7
            have c7b1 : (a0_4 != a1_4) = false := bne_eq_false_iff_eq.mpr c7
            clear c7
            replace H := Option.bind_eq_some_iff.mp H
            obtain ⟨t229, A80, H⟩ := H
            replace H : (if t229 = true then ((api_Rel.f k l0_6 l1_6).bind fun t230 => (some t230)) else (some false)) = some r := H
            have A8 := Aside0.mk A80
            clear A80
            by_cases c9 : t229 = true
            · subst c9
              have H1 : ((api_Rel.f k l0_6 l1_6).bind fun t230 => (some t230)) = some r := by rw [if_pos rfl] at H; exact H
              clear H
              have H := H1
              clear H1
              replace H := Option.bind_eq_some_iff.mp H
              obtain ⟨t230, A100, H⟩ := H
              replace H : (some t230) = some r := H
              have A10 := Aside0.mk A100
              clear A100
              obtain rfl := Option.some.inj H
              go_enter Try.func126, Try.ntmps126
              go_wp2_with (first | ((with_reducible refine gate_dst (N := 2) rfl ?_); refine box_event ?hg (N := 2) ?hd (cs := #[.string a0_0, .int .i64 a0_1, .int .i64 a0_2, .bool a0_3, .int .i64 a0_4, .slice A0_5 l0_5.length c0_5, .slice A0_6 l0_6.length c0_6]) (t := 102) ?hr ?_; (case hd => rfl); (case hg => rfl); (case hr => first | (go_simp; done) | (go_simp; rfl)); intro gb227 hg w11 hbox hb; have n0_ := Aside0.mk (below_step (by repeat (first | (with_reducible first | exact HB.out | apply below_alloc | apply pw_below_drewN | apply below_drew1) | exact HB.out)) hb); have n1_ := Aside0.mk (hbox); have n2_ := Aside0.mk ((by rw [hg]; exact (below_size (by repeat (first | (with_reducible first | exact HB.out | apply below_alloc | apply pw_below_drewN | apply below_drew1) | exact HB.out))) : w.heap.size ≤ gb227)); have n3_ := Aside0.mk ((by rw [hg]; exact (below_size (by repeat (first | (with_reducible first | exact HB.out | apply below_alloc | apply pw_below_drewN | apply below_drew1) | exact HB.out))) : w.heap.size ≤ gb227)); clear HB; have HB := n0_; have BK227 := n1_; have GW227 := n2_; have GE227 := n3_; clear n0_ n1_ n2_ n3_; clear hb hbox hg) | ((with_reducible refine gate_dst (N := 3) rfl ?_); refine box_event ?hg (N := 3) ?hd (cs := #[.string a1_0, .int .i64 a1_1, .int .i64 a1_2, .bool a1_3, .int .i64 a1_4, .slice A1_5 l1_5.length c1_5, .slice A1_6 l1_6.length c1_6]) (t := 102) ?hr ?_; (case hd => rfl); (case hg => rfl); (case hr => first | (go_simp; done) | (go_simp; rfl)); intro gb228 hg w12 hbox hb; have n0_ := Aside0.mk (blk_below (g := gb227) (o := .cells #[.string a0_0, .int .i64 a0_1, .int .i64 a0_2, .bool a0_3, .int .i64 a0_4, .slice A0_5 l0_5.length c0_5, .slice A0_6 l0_6.length c0_6] 102 (0, 0)) (by (with_reducible repeat (first | refine blk_drewN ?_ _ | refine blk_drew ?_ | refine blk_alloc ?_ _)); exact BK227.out) hb); have n1_ := Aside0.mk (below_step (by repeat (first | (with_reducible first | exact HB.out | apply below_alloc | apply pw_below_drewN | apply below_drew1 | refine below_set ?_ GE227.out) | exact HB.out)) hb); have n2_ := Aside0.mk (hbox); have n3_ := Aside0.mk ((by rw [hg]; exact (below_size (by repeat (first | (with_reducible first | exact HB.out | apply below_alloc | apply pw_below_drewN | apply below_drew1 | refine below_set ?_ GE227.out) | exact HB.out))) : w.heap.size ≤ gb228)); have n4_ := Aside0.mk ((by rw [hg]; exact (below_size (by repeat (first | (with_reducible first | exact HB.out | apply below_alloc | apply pw_below_drewN | apply below_drew1 | refine below_set ?_ GE227.out) | exact HB.out))) : w.heap.size ≤ gb228)); have n5_ := Aside0.mk ((by rw [hg]; exact Nat.ne_of_lt (blk_lt (g := gb227) (o := .cells #[.string a0_0, .int .i64 a0_1, .int .i64 a0_2, .bool a0_3, .int .i64 a0_4, .slice A0_5 l0_5.length c0_5, .slice A0_6 l0_6.length c0_6] 102 (0, 0)) (by (with_reducible repeat (first | refine blk_drewN ?_ _ | refine blk_drew ?_ | refine blk_alloc ?_ _)); exact BK227.out)) : gb227 ≠ gb228)); have n6_ := Aside0.mk ((by rw [hg]; exact Nat.ne_of_gt (blk_lt (g := gb227) (o := .cells #[.string a0_0, .int .i64 a0_1, .int .i64 a0_2, .bool a0_3, .int .i64 a0_4, .slice A0_5 l0_5.length c0_5, .slice A0_6 l0_6.length c0_6] 102 (0, 0)) (by (with_reducible repeat (first | refine blk_drewN ?_ _ | refine blk_drew ?_ | refine blk_alloc ?_ _)); exact BK227.out)) : gb228 ≠ gb227)); clear BK227; clear HB; have BK227 := n0_; have HB := n1_; have BK228 := n2_; have GW228 := n3_; have GE228 := n4_; have NB227_228 := n5_; have NB228_227 := n6_; clear n0_ n1_ n2_ n3_ n4_ n5_ n6_; clear hb hbox hg; have hnb13 := NB227_228.out; have hnc13 := NB228_227.out; have hcz14_0 : w12.cell? ⟨gb227, 0, none⟩ = some (.string a0_0) := (blk_cell BK227.out 0).trans rfl; have hcz14_1 : w12.cell? ⟨gb227, 1, none⟩ = some (.int .i64 a0_1) := (blk_cell BK227.out 1).trans rfl; have hcz14_2 : w12.cell? ⟨gb227, 2, none⟩ = some (.int .i64 a0_2) := (blk_cell BK227.out 2).trans rfl; have hcz14_3 : w12.cell? ⟨gb227, 3, none⟩ = some (.bool a0_3) := (blk_cell BK227.out 3).trans rfl; have hcz14_4 : w12.cell? ⟨gb227, 4, none⟩ = some (.int .i64 a0_4) := (blk_cell BK227.out 4).trans rfl; have hcz14_5 : w12.cell? ⟨gb227, 5, none⟩ = some (.slice A0_5 l0_5.length c0_5) := (blk_cell BK227.out 5).trans rfl; have hcz14_6 : w12.cell? ⟨gb227, 6, none⟩ = some (.slice A0_6 l0_6.length c0_6) := (blk_cell BK227.out 6).trans rfl; have hfz14_0 := blk_frozen BK227.out 0; have hfz14_1 := blk_frozen BK227.out 1; have hfz14_2 := blk_frozen BK227.out 2; have hfz14_3 := blk_frozen BK227.out 3; have hfz14_4 := blk_frozen BK227.out 4; have hfz14_5 := blk_frozen BK227.out 5; have hfz14_6 := blk_frozen BK227.out 6; have hcz15_0 : w12.cell? ⟨gb228, 0, none⟩ = some (.string a1_0) := (blk_cell BK228.out 0).trans rfl; have hcz15_1 : w12.cell? ⟨gb228, 1, none⟩ = some (.int .i64 a1_1) := (blk_cell BK228.out 1).trans rfl; have hcz15_2 : w12.cell? ⟨gb228, 2, none⟩ = some (.int .i64 a1_2) := (blk_cell BK228.out 2).trans rfl; have hcz15_3 : w12.cell? ⟨gb228, 3, none⟩ = some (.bool a1_3) := (blk_cell BK228.out 3).trans rfl; have hcz15_4 : w12.cell? ⟨gb228, 4, none⟩ = some (.int .i64 a1_4) := (blk_cell BK228.out 4).trans rfl; have hcz15_5 : w12.cell? ⟨gb228, 5, none⟩ = some (.slice A1_5 l1_5.length c1_5) := (blk_cell BK228.out 5).trans rfl; have hcz15_6 : w12.cell? ⟨gb228, 6, none⟩ = some (.slice A1_6 l1_6.length c1_6) := (blk_cell BK228.out 6).trans rfl; have hfz15_0 := blk_frozen BK228.out 0; have hfz15_1 := blk_frozen BK228.out 1; have hfz15_2 := blk_frozen BK228.out 2; have hfz15_3 := blk_frozen BK228.out 3; have hfz15_4 := blk_frozen BK228.out 4; have hfz15_5 := blk_frozen BK228.out 5; have hfz15_6 := blk_frozen BK228.out 6) | (go_at_call 145; (with_reducible refine (slices_Equal_byte_byte.calls k _ _ l0_5 _ _ l1_5 true _ ?side1 ?side2 ?side3 ?side4 A8.out).mono ?_); (case side1 => repeat (first | exact (Kd.C_below HR0_5.out HB.out) | (with_reducible refine Kd.C_alloc ?_ _) | (with_reducible refine Kd.C_drewN ?_ _) | (with_reducible refine Kd.C_drew ?_))); (case side2 => exact HC0_5.out); (case side3 => repeat (first | exact (Kd.C_below HR1_5.out HB.out) | (with_reducible refine Kd.C_alloc ?_ _) | (with_reducible refine Kd.C_drewN ?_ _) | (with_reducible refine Kd.C_drew ?_))); (case side4 => exact HC1_5.out); rintro e w' ⟨rfl, ⟨nd, rfl⟩⟩) | (go_at_call 144; (with_reducible refine (api_Rel.calls k _ _ l0_6 _ _ l1_6 t230 _ ?side1 ?side2 ?side3 ?side4 A10.out).mono ?_); (case side1 => repeat (first | exact (Kd.C_below HR0_6.out (by repeat (first | (with_reducible first | exact HB.out | apply below_alloc | apply pw_below_drewN | apply below_drew1 | refine below_set ?_ GE227.out | refine below_set ?_ GE228.out) | exact HB.out))) | (with_reducible refine Kd.C_alloc ?_ _) | (with_reducible refine Kd.C_drewN ?_ _) | (with_reducible refine Kd.C_drew ?_))); (case side2 => exact HC0_6.out); (case side3 => repeat (first | exact (Kd.C_below HR1_6.out (by repeat (first | (with_reducible first | exact HB.out | apply below_alloc | apply pw_below_drewN | apply below_drew1 | refine below_set ?_ GE227.out | refine below_set ?_ GE228.out) | exact HB.out))) | (with_reducible refine Kd.C_alloc ?_ _) | (with_reducible refine Kd.C_drewN ?_ _) | (with_reducible refine Kd.C_drew ?_))); (case side4 => exact HC1_6.out); rintro e w' ⟨rfl, ⟨nd, rfl⟩⟩))
              go_ret
              exact ⟨by first | rfl | (simp [errW_none, errW_some] <;> rfl) | (simp [*, errW_none, errW_some] <;> rfl), by repeat (first | (with_reducible first | exact HB.out | apply below_alloc | apply pw_below_drewN | apply below_drew1 | refine below_set ?_ GE227.out | refine below_set ?_ GE228.out) | exact HB.out)⟩
            · replace c9 := Bool.eq_false_iff.mpr c9
              subst c9
              have H1 : (some false) = some r := by rw [if_neg (show ¬ (false = true) by decide)] at H; exact H
              clear H
              have H := H1
              clear H1
              obtain rfl := Option.some.inj H
              go_enter Try.func126, Try.ntmps126
              go_wp2_with (first | ((with_reducible refine gate_dst (N := 2) rfl ?_); refine box_event ?hg (N := 2) ?hd (cs := #[.string a0_0, .int .i64 a0_1, .int .i64 a0_2, .bool a0_3, .int .i64 a0_4, .slice A0_5 l0_5.length c0_5, .slice A0_6 l0_6.length c0_6]) (t := 102) ?hr ?_; (case hd => rfl); (case hg => rfl); (case hr => first | (go_simp; done) | (go_simp; rfl)); intro gb227 hg w16 hbox hb; have n0_ := Aside0.mk (below_step (by repeat (first | (with_reducible first | exact HB.out | apply below_alloc | apply pw_below_drewN | apply below_drew1) | exact HB.out)) hb); have n1_ := Aside0.mk (hbox); have n2_ := Aside0.mk ((by rw [hg]; exact (below_size (by repeat (first | (with_reducible first | exact HB.out | apply below_alloc | apply pw_below_drewN | apply below_drew1) | exact HB.out))) : w.heap.size ≤ gb227)); have n3_ := Aside0.mk ((by rw [hg]; exact (below_size (by repeat (first | (with_reducible first | exact HB.out | apply below_alloc | apply pw_below_drewN | apply below_drew1) | exact HB.out))) : w.heap.size ≤ gb227)); clear HB; have HB := n0_; have BK227 := n1_; have GW227 := n2_; have GE227 := n3_; clear n0_ n1_ n2_ n3_; clear hb hbox hg) | ((with_reducible refine gate_dst (N := 3) rfl ?_); refine box_event ?hg (N := 3) ?hd (cs := #[.string a1_0, .int .i64 a1_1, .int .i64 a1_2, .bool a1_3, .int .i64 a1_4, .slice A1_5 l1_5.length c1_5, .slice A1_6 l1_6.length c1_6]) (t := 102) ?hr ?_; (case hd => rfl); (case hg => rfl); (case hr => first | (go_simp; done) | (go_simp; rfl)); intro gb228 hg w17 hbox hb; have n0_ := Aside0.mk (blk_below (g := gb227) (o := .cells #[.string a0_0, .int .i64 a0_1, .int .i64 a0_2, .bool a0_3, .int .i64 a0_4, .slice A0_5 l0_5.length c0_5, .slice A0_6 l0_6.length c0_6] 102 (0, 0)) (by (with_reducible repeat (first | refine blk_drewN ?_ _ | refine blk_drew ?_ | refine blk_alloc ?_ _)); exact BK227.out) hb); have n1_ := Aside0.mk (below_step (by repeat (first | (with_reducible first | exact HB.out | apply below_alloc | apply pw_below_drewN | apply below_drew1 | refine below_set ?_ GE227.out) | exact HB.out)) hb); have n2_ := Aside0.mk (hbox); have n3_ := Aside0.mk ((by rw [hg]; exact (below_size (by repeat (first | (with_reducible first | exact HB.out | apply below_alloc | apply pw_below_drewN | apply below_drew1 | refine below_set ?_ GE227.out) | exact HB.out))) : w.heap.size ≤ gb228)); have n4_ := Aside0.mk ((by rw [hg]; exact (below_size (by repeat (first | (with_reducible first | exact HB.out | apply below_alloc | apply pw_below_drewN | apply below_drew1 | refine below_set ?_ GE227.out) | exact HB.out))) : w.heap.size ≤ gb228)); have n5_ := Aside0.mk ((by rw [hg]; exact Nat.ne_of_lt (blk_lt (g := gb227) (o := .cells #[.string a0_0, .int .i64 a0_1, .int .i64 a0_2, .bool a0_3, .int .i64 a0_4, .slice A0_5 l0_5.length c0_5, .slice A0_6 l0_6.length c0_6] 102 (0, 0)) (by (with_reducible repeat (first | refine blk_drewN ?_ _ | refine blk_drew ?_ | refine blk_alloc ?_ _)); exact BK227.out)) : gb227 ≠ gb228)); have n6_ := Aside0.mk ((by rw [hg]; exact Nat.ne_of_gt (blk_lt (g := gb227) (o := .cells #[.string a0_0, .int .i64 a0_1, .int .i64 a0_2, .bool a0_3, .int .i64 a0_4, .slice A0_5 l0_5.length c0_5, .slice A0_6 l0_6.length c0_6] 102 (0, 0)) (by (with_reducible repeat (first | refine blk_drewN ?_ _ | refine blk_drew ?_ | refine blk_alloc ?_ _)); exact BK227.out)) : gb228 ≠ gb227)); clear BK227; clear HB; have BK227 := n0_; have HB := n1_; have BK228 := n2_; have GW228 := n3_; have GE228 := n4_; have NB227_228 := n5_; have NB228_227 := n6_; clear n0_ n1_ n2_ n3_ n4_ n5_ n6_; clear hb hbox hg; have hnb18 := NB227_228.out; have hnc18 := NB228_227.out; have hcz19_0 : w17.cell? ⟨gb227, 0, none⟩ = some (.string a0_0) := (blk_cell BK227.out 0).trans rfl; have hcz19_1 : w17.cell? ⟨gb227, 1, none⟩ = some (.int .i64 a0_1) := (blk_cell BK227.out 1).trans rfl; have hcz19_2 : w17.cell? ⟨gb227, 2, none⟩ = some (.int .i64 a0_2) := (blk_cell BK227.out 2).trans rfl; have hcz19_3 : w17.cell? ⟨gb227, 3, none⟩ = some (.bool a0_3) := (blk_cell BK227.out 3).trans rfl; have hcz19_4 : w17.cell? ⟨gb227, 4, none⟩ = some (.int .i64 a0_4) := (blk_cell BK227.out 4).trans rfl; have hcz19_5 : w17.cell? ⟨gb227, 5, none⟩ = some (.slice A0_5 l0_5.length c0_5) := (blk_cell BK227.out 5).trans rfl; have hcz19_6 : w17.cell? ⟨gb227, 6, none⟩ = some (.slice A0_6 l0_6.length c0_6) := (blk_cell BK227.out 6).trans rfl; have hfz19_0 := blk_frozen BK227.out 0; have hfz19_1 := blk_frozen BK227.out 1; have hfz19_2 := blk_frozen BK227.out 2; have hfz19_3 := blk_frozen BK227.out 3; have hfz19_4 := blk_frozen BK227.out 4; have hfz19_5 := blk_frozen BK227.out 5; have hfz19_6 := blk_frozen BK227.out 6; have hcz20_0 : w17.cell? ⟨gb228, 0, none⟩ = some (.string a1_0) := (blk_cell BK228.out 0).trans rfl; have hcz20_1 : w17.cell? ⟨gb228, 1, none⟩ = some (.int .i64 a1_1) := (blk_cell BK228.out 1).trans rfl; have hcz20_2 : w17.cell? ⟨gb228, 2, none⟩ = some (.int .i64 a1_2) := (blk_cell BK228.out 2).trans rfl; have hcz20_3 : w17.cell? ⟨gb228, 3, none⟩ = some (.bool a1_3) := (blk_cell BK228.out 3).trans rfl; have hcz20_4 : w17.cell? ⟨gb228, 4, none⟩ = some (.int .i64 a1_4) := (blk_cell BK228.out 4).trans rfl; have hcz20_5 : w17.cell? ⟨gb228, 5, none⟩ = some (.slice A1_5 l1_5.length c1_5) := (blk_cell BK228.out 5).trans rfl; have hcz20_6 : w17.cell? ⟨gb228, 6, none⟩ = some (.slice A1_6 l1_6.length c1_6) := (blk_cell BK228.out 6).trans rfl; have hfz20_0 := blk_frozen BK228.out 0; have hfz20_1 := blk_frozen BK228.out 1; have hfz20_2 := blk_frozen BK228.out 2; have hfz20_3 := blk_frozen BK228.out 3; have hfz20_4 := blk_frozen BK228.out 4; have hfz20_5 := blk_frozen BK228.out 5; have hfz20_6 := blk_frozen BK228.out 6) | (go_at_call 145; (with_reducible refine (slices_Equal_byte_byte.calls k _ _ l0_5 _ _ l1_5 false _ ?side1 ?side2 ?side3 ?side4 A8.out).mono ?_); (case side1 => repeat (first | exact (Kd.C_below HR0_5.out HB.out) | (with_reducible refine Kd.C_alloc ?_ _) | (with_reducible refine Kd.C_drewN ?_ _) | (with_reducible refine Kd.C_drew ?_))); (case side2 => exact HC0_5.out); (case side3 => repeat (first | exact (Kd.C_below HR1_5.out HB.out) | (with_reducible refine Kd.C_alloc ?_ _) | (with_reducible refine Kd.C_drewN ?_ _) | (with_reducible refine Kd.C_drew ?_))); (case side4 => exact HC1_5.out); rintro e w' ⟨rfl, ⟨nd, rfl⟩⟩))
              go_ret
              exact ⟨by first | rfl | (simp [errW_none, errW_some] <;> rfl) | (simp [*, errW_none, errW_some] <;> rfl), by repeat (first | (with_reducible first | exact HB.out | apply below_alloc | apply pw_below_drewN | apply below_drew1 | refine below_set ?_ GE227.out | refine below_set ?_ GE228.out) | exact HB.out)⟩
          · rw [if_neg c7] at H
            have c7b0 : (a0_4 == a1_4) = false := beq_eq_false_iff_ne.mpr c7
            have c7b1 : (a0_4 != a1_4) = true := bne_iff_ne.mpr c7
            obtain rfl := Option.some.inj H
            go_enter Try.func126, Try.ntmps126
            go_wp2_with (first | ((with_reducible refine gate_dst (N := 2) rfl ?_); refine box_event ?hg (N := 2) ?hd (cs := #[.string a0_0, .int .i64 a0_1, .int .i64 a0_2, .bool a0_3, .int .i64 a0_4, .slice A0_5 l0_5.length c0_5, .slice A0_6 l0_6.length c0_6]) (t := 102) ?hr ?_; (case hd => rfl); (case hg => rfl); (case hr => first | (go_simp; done) | (go_simp; rfl)); intro gb227 hg w21 hbox hb; have n0_ := Aside0.mk (below_step (by repeat (first | (with_reducible first | exact HB.out | apply below_alloc | apply pw_below_drewN | apply below_drew1) | exact HB.out)) hb); have n1_ := Aside0.mk (hbox); have n2_ := Aside0.mk ((by rw [hg]; exact (below_size (by repeat (first | (with_reducible first | exact HB.out | apply below_alloc | apply pw_below_drewN | apply below_drew1) | exact HB.out))) : w.heap.size ≤ gb227)); have n3_ := Aside0.mk ((by rw [hg]; exact (below_size (by repeat (first | (with_reducible first | exact HB.out | apply below_alloc | apply pw_below_drewN | apply below_drew1) | exact HB.out))) : w.heap.size ≤ gb227)); clear HB; have HB := n0_; have BK227 := n1_; have GW227 := n2_; have GE227 := n3_; clear n0_ n1_ n2_ n3_; clear hb hbox hg) | ((with_reducible refine gate_dst (N := 3) rfl ?_); refine box_event ?hg (N := 3) ?hd (cs := #[.string a1_0, .int .i64 a1_1, .int .i64 a1_2, .bool a1_3, .int .i64 a1_4, .slice A1_5 l1_5.length c1_5, .slice A1_6 l1_6.length c1_6]) (t := 102) ?hr ?_; (case hd => rfl); (case hg => rfl); (case hr => first | (go_simp; done) | (go_simp; rfl)); intro gb228 hg w22 hbox hb; have n0_ := Aside0.mk (blk_below (g := gb227) (o := .cells #[.string a0_0, .int .i64 a0_1, .int .i64 a0_2, .bool a0_3, .int .i64 a0_4, .slice A0_5 l0_5.length c0_5, .slice A0_6 l0_6.length c0_6] 102 (0, 0)) (by (with_reducible repeat (first | refine blk_drewN ?_ _ | refine blk_drew ?_ | refine blk_alloc ?_ _)); exact BK227.out) hb); have n1_ := Aside0.mk (below_step (by repeat (first | (with_reducible first | exact HB.out | apply below_alloc | apply pw_below_drewN | apply below_drew1 | refine below_set ?_ GE227.out) | exact HB.out)) hb); have n2_ := Aside0.mk (hbox); have n3_ := Aside0.mk ((by rw [hg]; exact (below_size (by repeat (first | (with_reducible first | exact HB.out | apply below_alloc | apply pw_below_drewN | apply below_drew1 | refine below_set ?_ GE227.out) | exact HB.out))) : w.heap.size ≤ gb228)); have n4_ := Aside0.mk ((by rw [hg]; exact (below_size (by repeat (first | (with_reducible first | exact HB.out | apply below_alloc | apply pw_below_drewN | apply below_drew1 | refine below_set ?_ GE227.out) | exact HB.out))) : w.heap.size ≤ gb228)); have n5_ := Aside0.mk ((by rw [hg]; exact Nat.ne_of_lt (blk_lt (g := gb227) (o := .cells #[.string a0_0, .int .i64 a0_1, .int .i64 a0_2, .bool a0_3, .int .i64 a0_4, .slice A0_5 l0_5.length c0_5, .slice A0_6 l0_6.length c0_6] 102 (0, 0)) (by (with_reducible repeat (first | refine blk_drewN ?_ _ | refine blk_drew ?_ | refine blk_alloc ?_ _)); exact BK227.out)) : gb227 ≠ gb228)); have n6_ := Aside0.mk ((by rw [hg]; exact Nat.ne_of_gt (blk_lt (g := gb227) (o := .cells #[.string a0_0, .int .i64 a0_1, .int .i64 a0_2, .bool a0_3, .int .i64 a0_4, .slice A0_5 l0_5.length c0_5, .slice A0_6 l0_6.length c0_6] 102 (0, 0)) (by (with_reducible repeat (first | refine blk_drewN ?_ _ | refine blk_drew ?_ | refine blk_alloc ?_ _)); exact BK227.out)) : gb228 ≠ gb227)); clear BK227; clear HB; have BK227 := n0_; have HB := n1_; have BK228 := n2_; have GW228 := n3_; have GE228 := n4_; have NB227_228 := n5_; have NB228_227 := n6_; clear n0_ n1_ n2_ n3_ n4_ n5_ n6_; clear hb hbox hg; have hnb23 := NB227_228.out; have hnc23 := NB228_227.out; have hcz24_0 : w22.cell? ⟨gb227, 0, none⟩ = some (.string a0_0) := (blk_cell BK227.out 0).trans rfl; have hcz24_1 : w22.cell? ⟨gb227, 1, none⟩ = some (.int .i64 a0_1) := (blk_cell BK227.out 1).trans rfl; have hcz24_2 : w22.cell? ⟨gb227, 2, none⟩ = some (.int .i64 a0_2) := (blk_cell BK227.out 2).trans rfl; have hcz24_3 : w22.cell? ⟨gb227, 3, none⟩ = some (.bool a0_3) := (blk_cell BK227.out 3).trans rfl; have hcz24_4 : w22.cell? ⟨gb227, 4, none⟩ = some (.int .i64 a0_4) := (blk_cell BK227.out 4).trans rfl; have hcz24_5 : w22.cell? ⟨gb227, 5, none⟩ = some (.slice A0_5 l0_5.length c0_5) := (blk_cell BK227.out 5).trans rfl; have hcz24_6 : w22.cell? ⟨gb227, 6, none⟩ = some (.slice A0_6 l0_6.length c0_6) := (blk_cell BK227.out 6).trans rfl; have hfz24_0 := blk_frozen BK227.out 0; have hfz24_1 := blk_frozen BK227.out 1; have hfz24_2 := blk_frozen BK227.out 2; have hfz24_3 := blk_frozen BK227.out 3; have hfz24_4 := blk_frozen BK227.out 4; have hfz24_5 := blk_frozen BK227.out 5; have hfz24_6 := blk_frozen BK227.out 6; have hcz25_0 : w22.cell? ⟨gb228, 0, none⟩ = some (.string a1_0) := (blk_cell BK228.out 0).trans rfl; have hcz25_1 : w22.cell? ⟨gb228, 1, none⟩ = some (.int .i64 a1_1) := (blk_cell BK228.out 1).trans rfl; have hcz25_2 : w22.cell? ⟨gb228, 2, none⟩ = some (.int .i64 a1_2) := (blk_cell BK228.out 2).trans rfl; have hcz25_3 : w22.cell? ⟨gb228, 3, none⟩ = some (.bool a1_3) := (blk_cell BK228.out 3).trans rfl; have hcz25_4 : w22.cell? ⟨gb228, 4, none⟩ = some (.int .i64 a1_4) := (blk_cell BK228.out 4).trans rfl; have hcz25_5 : w22.cell? ⟨gb228, 5, none⟩ = some (.slice A1_5 l1_5.length c1_5) := (blk_cell BK228.out 5).trans rfl; have hcz25_6 : w22.cell? ⟨gb228, 6, none⟩ = some (.slice A1_6 l1_6.length c1_6) := (blk_cell BK228.out 6).trans rfl; have hfz25_0 := blk_frozen BK228.out 0; have hfz25_1 := blk_frozen BK228.out 1; have hfz25_2 := blk_frozen BK228.out 2; have hfz25_3 := blk_frozen BK228.out 3; have hfz25_4 := blk_frozen BK228.out 4; have hfz25_5 := blk_frozen BK228.out 5; have hfz25_6 := blk_frozen BK228.out 6))
            go_ret
            exact ⟨by first | rfl | (simp [errW_none, errW_some] <;> rfl) | (simp [*, errW_none, errW_some] <;> rfl), by repeat (first | (with_reducible first | exact HB.out | apply below_alloc | apply pw_below_drewN | apply below_drew1 | refine below_set ?_ GE227.out | refine below_set ?_ GE228.out) | exact HB.out)⟩
        · rw [if_neg c6] at H
          have c6b0 : (a0_3 == a1_3) = false := by simpa using c6
          (try (have c6b1 : decide (a0_3 = a1_3) = false := by simpa using c6))
          (try (have c6b2 : (a0_3 == a1_3) = false := by simpa using c6))
          (try (have c6b3 : ¬ (a0_3 = a1_3) := by simpa using c6))
          clear c6
          obtain rfl := Option.some.inj H
          go_enter Try.func126, Try.ntmps126
          go_wp2_with (first | ((with_reducible refine gate_dst (N := 2) rfl ?_); refine box_event ?hg (N := 2) ?hd (cs := #[.string a0_0, .int .i64 a0_1, .int .i64 a0_2, .bool a0_3, .int .i64 a0_4, .slice A0_5 l0_5.length c0_5, .slice A0_6 l0_6.length c0_6]) (t := 102) ?hr ?_; (case hd => rfl); (case hg => rfl); (case hr => first | (go_simp; done) | (go_simp; rfl)); intro gb227 hg w26 hbox hb; have n0_ := Aside0.mk (below_step (by repeat (first | (with_reducible first | exact HB.out | apply below_alloc | apply pw_below_drewN | apply below_drew1) | exact HB.out)) hb); have n1_ := Aside0.mk (hbox); have n2_ := Aside0.mk ((by rw [hg]; exact (below_size (by repeat (first | (with_reducible first | exact HB.out | apply below_alloc | apply pw_below_drewN | apply below_drew1) | exact HB.out))) : w.heap.size ≤ gb227)); have n3_ := Aside0.mk ((by rw [hg]; exact (below_size (by repeat (first | (with_reducible first | exact HB.out | apply below_alloc | apply pw_below_drewN | apply below_drew1) | exact HB.out))) : w.heap.size ≤ gb227)); clear HB; have HB := n0_; have BK227 := n1_; have GW227 := n2_; have GE227 := n3_; clear n0_ n1_ n2_ n3_; clear hb hbox hg) | ((with_reducible refine gate_dst (N := 3) rfl ?_); refine box_event ?hg (N := 3) ?hd (cs := #[.string a1_0, .int .i64 a1_1, .int .i64 a1_2, .bool a1_3, .int .i64 a1_4, .slice A1_5 l1_5.length c1_5, .slice A1_6 l1_6.length c1_6]) (t := 102) ?hr ?_; (case hd => rfl); (case hg => rfl); (case hr => first | (go_simp; done) | (go_simp; rfl)); intro gb228 hg w27 hbox hb; have n0_ := Aside0.mk (blk_below (g := gb227) (o := .cells #[.string a0_0, .int .i64 a0_1, .int .i64 a0_2, .bool a0_3, .int .i64 a0_4, .slice A0_5 l0_5.length c0_5, .slice A0_6 l0_6.length c0_6] 102 (0, 0)) (by (with_reducible repeat (first | refine blk_drewN ?_ _ | refine blk_drew ?_ | refine blk_alloc ?_ _)); exact BK227.out) hb); have n1_ := Aside0.mk (below_step (by repeat (first | (with_reducible first | exact HB.out | apply below_alloc | apply pw_below_drewN | apply below_drew1 | refine below_set ?_ GE227.out) | exact HB.out)) hb); have n2_ := Aside0.mk (hbox); have n3_ := Aside0.mk ((by rw [hg]; exact (below_size (by repeat (first | (with_reducible first | exact HB.out | apply below_alloc | apply pw_below_drewN | apply below_drew1 | refine below_set ?_ GE227.out) | exact HB.out))) : w.heap.size ≤ gb228)); have n4_ := Aside0.mk ((by rw [hg]; exact (below_size (by repeat (first | (with_reducible first | exact HB.out | apply below_alloc | apply pw_below_drewN | apply below_drew1 | refine below_set ?_ GE227.out) | exact HB.out))) : w.heap.size ≤ gb228)); have n5_ := Aside0.mk ((by rw [hg]; exact Nat.ne_of_lt (blk_lt (g := gb227) (o := .cells #[.string a0_0, .int .i64 a0_1, .int .i64 a0_2, .bool a0_3, .int .i64 a0_4, .slice A0_5 l0_5.length c0_5, .slice A0_6 l0_6.length c0_6] 102 (0, 0)) (by (with_reducible repeat (first | refine blk_drewN ?_ _ | refine blk_drew ?_ | refine blk_alloc ?_ _)); exact BK227.out)) : gb227 ≠ gb228)); have n6_ := Aside0.mk ((by rw [hg]; exact Nat.ne_of_gt (blk_lt (g := gb227) (o := .cells #[.string a0_0, .int .i64 a0_1, .int .i64 a0_2, .bool a0_3, .int .i64 a0_4, .slice A0_5 l0_5.length c0_5, .slice A0_6 l0_6.length c0_6] 102 (0, 0)) (by (with_reducible repeat (first | refine blk_drewN ?_ _ | refine blk_drew ?_ | refine blk_alloc ?_ _)); exact BK227.out)) : gb228 ≠ gb227)); clear BK227; clear HB; have BK227 := n0_; have HB := n1_; have BK228 := n2_; have GW228 := n3_; have GE228 := n4_; have NB227_228 := n5_; have NB228_227 := n6_; clear n0_ n1_ n2_ n3_ n4_ n5_ n6_; clear hb hbox hg; have hnb28 := NB227_228.out; have hnc28 := NB228_227.out; have hcz29_0 : w27.cell? ⟨gb227, 0, none⟩ = some (.string a0_0) := (blk_cell BK227.out 0).trans rfl; have hcz29_1 : w27.cell? ⟨gb227, 1, none⟩ = some (.int .i64 a0_1) := (blk_cell BK227.out 1).trans rfl; have hcz29_2 : w27.cell? ⟨gb227, 2, none⟩ = some (.int .i64 a0_2) := (blk_cell BK227.out 2).trans rfl; have hcz29_3 : w27.cell? ⟨gb227, 3, none⟩ = some (.bool a0_3) := (blk_cell BK227.out 3).trans rfl; have hcz29_4 : w27.cell? ⟨gb227, 4, none⟩ = some (.int .i64 a0_4) := (blk_cell BK227.out 4).trans rfl; have hcz29_5 : w27.cell? ⟨gb227, 5, none⟩ = some (.slice A0_5 l0_5.length c0_5) := (blk_cell BK227.out 5).trans rfl; have hcz29_6 : w27.cell? ⟨gb227, 6, none⟩ = some (.slice A0_6 l0_6.length c0_6) := (blk_cell BK227.out 6).trans rfl; have hfz29_0 := blk_frozen BK227.out 0; have hfz29_1 := blk_frozen BK227.out 1; have hfz29_2 := blk_frozen BK227.out 2; have hfz29_3 := blk_frozen BK227.out 3; have hfz29_4 := blk_frozen BK227.out 4; have hfz29_5 := blk_frozen BK227.out 5; have hfz29_6 := blk_frozen BK227.out 6; have hcz30_0 : w27.cell? ⟨gb228, 0, none⟩ = some (.string a1_0) := (blk_cell BK228.out 0).trans rfl; have hcz30_1 : w27.cell? ⟨gb228, 1, none⟩ = some (.int .i64 a1_1) := (blk_cell BK228.out 1).trans rfl; have hcz30_2 : w27.cell? ⟨gb228, 2, none⟩ = some (.int .i64 a1_2) := (blk_cell BK228.out 2).trans rfl; have hcz30_3 : w27.cell? ⟨gb228, 3, none⟩ = some (.bool a1_3) := (blk_cell BK228.out 3).trans rfl; have hcz30_4 : w27.cell? ⟨gb228, 4, none⟩ = some (.int .i64 a1_4) := (blk_cell BK228.out 4).trans rfl; have hcz30_5 : w27.cell? ⟨gb228, 5, none⟩ = some (.slice A1_5 l1_5.length c1_5) := (blk_cell BK228.out 5).trans rfl; have hcz30_6 : w27.cell? ⟨gb228, 6, none⟩ = some (.slice A1_6 l1_6.length c1_6) := (blk_cell BK228.out 6).trans rfl; have hfz30_0 := blk_frozen BK228.out 0; have hfz30_1 := blk_frozen BK228.out 1; have hfz30_2 := blk_frozen BK228.out 2; have hfz30_3 := blk_frozen BK228.out 3; have hfz30_4 := blk_frozen BK228.out 4; have hfz30_5 := blk_frozen BK228.out 5; have hfz30_6 := blk_frozen BK228.out 6))
          go_ret
          exact ⟨by first | rfl | (simp [errW_none, errW_some] <;> rfl) | (simp [*, errW_none, errW_some] <;> rfl), by repeat (first | (with_reducible first | exact HB.out | apply below_alloc | apply pw_below_drewN | apply below_drew1 | refine below_set ?_ GE227.out | refine below_set ?_ GE228.out) | exact HB.out)⟩
      · rw [if_neg c5] at H
        have c5b0 : (a0_2 == a1_2) = false := beq_eq_false_iff_ne.mpr c5
        have c5b1 : (a0_2 != a1_2) = true := bne_iff_ne.mpr c5
        obtain rfl := Option.some.inj H
        go_enter Try.func126, Try.ntmps126
        go_wp2_with (first | ((with_reducible refine gate_dst (N := 2) rfl ?_); refine box_event ?hg (N := 2) ?hd (cs := #[.string a0_0, .int .i64 a0_1, .int .i64 a0_2, .bool a0_3, .int .i64 a0_4, .slice A0_5 l0_5.length c0_5, .slice A0_6 l0_6.length c0_6]) (t := 102) ?hr ?_; (case hd => rfl); (case hg => rfl); (case hr => first | (go_simp; done) | (go_simp; rfl)); intro gb227 hg w31 hbox hb; have n0_ := Aside0.mk (below_step (by repeat (first | (with_reducible first | exact HB.out | apply below_alloc | apply pw_below_drewN | apply below_drew1) | exact HB.out)) hb); have n1_ := Aside0.mk (hbox); have n2_ := Aside0.mk ((by rw [hg]; exact (below_size (by repeat (first | (with_reducible first | exact HB.out | apply below_alloc | apply pw_below_drewN | apply below_drew1) | exact HB.out))) : w.heap.size ≤ gb227)); have n3_ := Aside0.mk ((by rw [hg]; exact (below_size (by repeat (first | (with_reducible first | exact HB.out | apply below_alloc | apply pw_below_drewN | apply below_drew1) | exact HB.out))) : w.heap.size ≤ gb227)); clear HB; have HB := n0_; have BK227 := n1_; have GW227 := n2_; have GE227 := n3_; clear n0_ n1_ n2_ n3_; clear hb hbox hg) | ((with_reducible refine gate_dst (N := 3) rfl ?_); refine box_event ?hg (N := 3) ?hd (cs := #[.string a1_0, .int .i64 a1_1, .int .i64 a1_2, .bool a1_3, .int .i64 a1_4, .slice A1_5 l1_5.length c1_5, .slice A1_6 l1_6.length c1_6]) (t := 102) ?hr ?_; (case hd => rfl); (case hg => rfl); (case hr => first | (go_simp; done) | (go_simp; rfl)); intro gb228 hg w32 hbox hb; have n0_ := Aside0.mk (blk_below (g := gb227) (o := .cells #[.string a0_0, .int .i64 a0_1, .int .i64 a0_2, .bool a0_3, .int .i64 a0_4, .slice A0_5 l0_5.length c0_5, .slice A0_6 l0_6.length c0_6] 102 (0, 0)) (by (with_reducible repeat (first | refine blk_drewN ?_ _ | refine blk_drew ?_ | refine blk_alloc ?_ _)); exact BK227.out) hb); have n1_ := Aside0.mk (below_step (by repeat (first | (with_reducible first | exact HB.out | apply below_alloc | apply pw_below_drewN | apply below_drew1 | refine below_set ?_ GE227.out) | exact HB.out)) hb); have n2_ := Aside0.mk (hbox); have n3_ := Aside0.mk ((by rw [hg]; exact (below_size (by repeat (first | (with_reducible first | exact HB.out | apply below_alloc | apply pw_below_drewN | apply below_drew1 | refine below_set ?_ GE227.out) | exact HB.out))) : w.heap.size ≤ gb228)); have n4_ := Aside0.mk ((by rw [hg]; exact (below_size (by repeat (first | (with_reducible first | exact HB.out | apply below_alloc | apply pw_below_drewN | apply below_drew1 | refine below_set ?_ GE227.out) | exact HB.out))) : w.heap.size ≤ gb228)); have n5_ := Aside0.mk ((by rw [hg]; exact Nat.ne_of_lt (blk_lt (g := gb227) (o := .cells #[.string a0_0, .int .i64 a0_1, .int .i64 a0_2, .bool a0_3, .int .i64 a0_4, .slice A0_5 l0_5.length c0_5, .slice A0_6 l0_6.length c0_6] 102 (0, 0)) (by (with_reducible repeat (first | refine blk_drewN ?_ _ | refine blk_drew ?_ | refine blk_alloc ?_ _)); exact BK227.out)) : gb227 ≠ gb228)); have n6_ := Aside0.mk ((by rw [hg]; exact Nat.ne_of_gt (blk_lt (g := gb227) (o := .cells #[.string a0_0, .int .i64 a0_1, .int .i64 a0_2, .bool a0_3, .int .i64 a0_4, .slice A0_5 l0_5.length c0_5, .slice A0_6 l0_6.length c0_6] 102 (0, 0)) (by (with_reducible repeat (first | refine blk_drewN ?_ _ | refine blk_drew ?_ | refine blk_alloc ?_ _)); exact BK227.out)) : gb228 ≠ gb227)); clear BK227; clear HB; have BK227 := n0_; have HB := n1_; have BK228 := n2_; have GW228 := n3_; have GE228 := n4_; have NB227_228 := n5_; have NB228_227 := n6_; clear n0_ n1_ n2_ n3_ n4_ n5_ n6_; clear hb hbox hg; have hnb33 := NB227_228.out; have hnc33 := NB228_227.out; have hcz34_0 : w32.cell? ⟨gb227, 0, none⟩ = some (.string a0_0) := (blk_cell BK227.out 0).trans rfl; have hcz34_1 : w32.cell? ⟨gb227, 1, none⟩ = some (.int .i64 a0_1) := (blk_cell BK227.out 1).trans rfl; have hcz34_2 : w32.cell? ⟨gb227, 2, none⟩ = some (.int .i64 a0_2) := (blk_cell BK227.out 2).trans rfl; have hcz34_3 : w32.cell? ⟨gb227, 3, none⟩ = some (.bool a0_3) := (blk_cell BK227.out 3).trans rfl; have hcz34_4 : w32.cell? ⟨gb227, 4, none⟩ = some (.int .i64 a0_4) := (blk_cell BK227.out 4).trans rfl; have hcz34_5 : w32.cell? ⟨gb227, 5, none⟩ = some (.slice A0_5 l0_5.length c0_5) := (blk_cell BK227.out 5).trans rfl; have hcz34_6 : w32.cell? ⟨gb227, 6, none⟩ = some (.slice A0_6 l0_6.length c0_6) := (blk_cell BK227.out 6).trans rfl; have hfz34_0 := blk_frozen BK227.out 0; have hfz34_1 := blk_frozen BK227.out 1; have hfz34_2 := blk_frozen BK227.out 2; have hfz34_3 := blk_frozen BK227.out 3; have hfz34_4 := blk_frozen BK227.out 4; have hfz34_5 := blk_frozen BK227.out 5; have hfz34_6 := blk_frozen BK227.out 6; have hcz35_0 : w32.cell? ⟨gb228, 0, none⟩ = some (.string a1_0) := (blk_cell BK228.out 0).trans rfl; have hcz35_1 : w32.cell? ⟨gb228, 1, none⟩ = some (.int .i64 a1_1) := (blk_cell BK228.out 1).trans rfl; have hcz35_2 : w32.cell? ⟨gb228, 2, none⟩ = some (.int .i64 a1_2) := (blk_cell BK228.out 2).trans rfl; have hcz35_3 : w32.cell? ⟨gb228, 3, none⟩ = some (.bool a1_3) := (blk_cell BK228.out 3).trans rfl; have hcz35_4 : w32.cell? ⟨gb228, 4, none⟩ = some (.int .i64 a1_4) := (blk_cell BK228.out 4).trans rfl; have hcz35_5 : w32.cell? ⟨gb228, 5, none⟩ = some (.slice A1_5 l1_5.length c1_5) := (blk_cell BK228.out 5).trans rfl; have hcz35_6 : w32.cell? ⟨gb228, 6, none⟩ = some (.slice A1_6 l1_6.length c1_6) := (blk_cell BK228.out 6).trans rfl; have hfz35_0 := blk_frozen BK228.out 0; have hfz35_1 := blk_frozen BK228.out 1; have hfz35_2 := blk_frozen BK228.out 2; have hfz35_3 := blk_frozen BK228.out 3; have hfz35_4 := blk_frozen BK228.out 4; have hfz35_5 := blk_frozen BK228.out 5; have hfz35_6 := blk_frozen BK228.out 6))
        go_ret
        exact ⟨by first | rfl | (simp [errW_none, errW_some] <;> rfl) | (simp [*, errW_none, errW_some] <;> rfl), by repeat (first | (with_reducible first | exact HB.out | apply below_alloc | apply pw_below_drewN | apply below_drew1 | refine below_set ?_ GE227.out | refine below_set ?_ GE228.out) | exact HB.out)⟩
    · rw [if_neg c4] at H
      have c4b0 : (a0_1 == a1_1) = false := beq_eq_false_iff_ne.mpr c4
      have c4b1 : (a0_1 != a1_1) = true := bne_iff_ne.mpr c4
      obtain rfl := Option.some.inj H
      go_enter Try.func126, Try.ntmps126
      go_wp2_with (first | ((with_reducible refine gate_dst (N := 2) rfl ?_); refine box_event ?hg (N := 2) ?hd (cs := #[.string a0_0, .int .i64 a0_1, .int .i64 a0_2, .bool a0_3, .int .i64 a0_4, .slice A0_5 l0_5.length c0_5, .slice A0_6 l0_6.length c0_6]) (t := 102) ?hr ?_; (case hd => rfl); (case hg => rfl); (case hr => first | (go_simp; done) | (go_simp; rfl)); intro gb227 hg w36 hbox hb; have n0_ := Aside0.mk (below_step (by repeat (first | (with_reducible first | exact HB.out | apply below_alloc | apply pw_below_drewN | apply below_drew1) | exact HB.out)) hb); have n1_ := Aside0.mk (hbox); have n2_ := Aside0.mk ((by rw [hg]; exact (below_size (by repeat (first | (with_reducible first | exact HB.out | apply below_alloc | apply pw_below_drewN | apply below_drew1) | exact HB.out))) : w.heap.size ≤ gb227)); have n3_ := Aside0.mk ((by rw [hg]; exact (below_size (by repeat (first | (with_reducible first | exact HB.out | apply below_alloc | apply pw_below_drewN | apply below_drew1) | exact HB.out))) : w.heap.size ≤ gb227)); clear HB; have HB := n0_; have BK227 := n1_; have GW227 := n2_; have GE227 := n3_; clear n0_ n1_ n2_ n3_; clear hb hbox hg) | ((with_reducible refine gate_dst (N := 3) rfl ?_); refine box_event ?hg (N := 3) ?hd (cs := #[.string a1_0, .int .i64 a1_1, .int .i64 a1_2, .bool a1_3, .int .i64 a1_4, .slice A1_5 l1_5.length c1_5, .slice A1_6 l1_6.length c1_6]) (t := 102) ?hr ?_; (case hd => rfl); (case hg => rfl); (case hr => first | (go_simp; done) | (go_simp; rfl)); intro gb228 hg w37 hbox hb; have n0_ := Aside0.mk (blk_below (g := gb227) (o := .cells #[.string a0_0, .int .i64 a0_1, .int .i64 a0_2, .bool a0_3, .int .i64 a0_4, .slice A0_5 l0_5.length c0_5, .slice A0_6 l0_6.length c0_6] 102 (0, 0)) (by (with_reducible repeat (first | refine blk_drewN ?_ _ | refine blk_drew ?_ | refine blk_alloc ?_ _)); exact BK227.out) hb); have n1_ := Aside0.mk (below_step (by repeat (first | (with_reducible first | exact HB.out | apply below_alloc | apply pw_below_drewN | apply below_drew1 | refine below_set ?_ GE227.out) | exact HB.out)) hb); have n2_ := Aside0.mk (hbox); have n3_ := Aside0.mk ((by rw [hg]; exact (below_size (by repeat (first | (with_reducible first | exact HB.out | apply below_alloc | apply pw_below_drewN | apply below_drew1 | refine below_set ?_ GE227.out) | exact HB.out))) : w.heap.size ≤ gb228)); have n4_ := Aside0.mk ((by rw [hg]; exact (below_size (by repeat (first | (with_reducible first | exact HB.out | apply below_alloc | apply pw_below_drewN | apply below_drew1 | refine below_set ?_ GE227.out) | exact HB.out))) : w.heap.size ≤ gb228)); have n5_ := Aside0.mk ((by rw [hg]; exact Nat.ne_of_lt (blk_lt (g := gb227) (o := .cells #[.string a0_0, .int .i64 a0_1, .int .i64 a0_2, .bool a0_3, .int .i64 a0_4, .slice A0_5 l0_5.length c0_5, .slice A0_6 l0_6.length c0_6] 102 (0, 0)) (by (with_reducible repeat (first | refine blk_drewN ?_ _ | refine blk_drew ?_ | refine blk_alloc ?_ _)); exact BK227.out)) : gb227 ≠ gb228)); have n6_ := Aside0.mk ((by rw [hg]; exact Nat.ne_of_gt (blk_lt (g := gb227) (o := .cells #[.string a0_0, .int .i64 a0_1, .int .i64 a0_2, .bool a0_3, .int .i64 a0_4, .slice A0_5 l0_5.length c0_5, .slice A0_6 l0_6.length c0_6] 102 (0, 0)) (by (with_reducible repeat (first | refine blk_drewN ?_ _ | refine blk_drew ?_ | refine blk_alloc ?_ _)); exact BK227.out)) : gb228 ≠ gb227)); clear BK227; clear HB; have BK227 := n0_; have HB := n1_; have BK228 := n2_; have GW228 := n3_; have GE228 := n4_; have NB227_228 := n5_; have NB228_227 := n6_; clear n0_ n1_ n2_ n3_ n4_ n5_ n6_; clear hb hbox hg; have hnb38 := NB227_228.out; have hnc38 := NB228_227.out; have hcz39_0 : w37.cell? ⟨gb227, 0, none⟩ = some (.string a0_0) := (blk_cell BK227.out 0).trans rfl; have hcz39_1 : w37.cell? ⟨gb227, 1, none⟩ = some (.int .i64 a0_1) := (blk_cell BK227.out 1).trans rfl; have hcz39_2 : w37.cell? ⟨gb227, 2, none⟩ = some (.int .i64 a0_2) := (blk_cell BK227.out 2).trans rfl; have hcz39_3 : w37.cell? ⟨gb227, 3, none⟩ = some (.bool a0_3) := (blk_cell BK227.out 3).trans rfl; have hcz39_4 : w37.cell? ⟨gb227, 4, none⟩ = some (.int .i64 a0_4) := (blk_cell BK227.out 4).trans rfl; have hcz39_5 : w37.cell? ⟨gb227, 5, none⟩ = some (.slice A0_5 l0_5.length c0_5) := (blk_cell BK227.out 5).trans rfl; have hcz39_6 : w37.cell? ⟨gb227, 6, none⟩ = some (.slice A0_6 l0_6.length c0_6) := (blk_cell BK227.out 6).trans rfl; have hfz39_0 := blk_frozen BK227.out 0; have hfz39_1 := blk_frozen BK227.out 1; have hfz39_2 := blk_frozen BK227.out 2; have hfz39_3 := blk_frozen BK227.out 3; have hfz39_4 := blk_frozen BK227.out 4; have hfz39_5 := blk_frozen BK227.out 5; have hfz39_6 := blk_frozen BK227.out 6; have hcz40_0 : w37.cell? ⟨gb228, 0, none⟩ = some (.string a1_0) := (blk_cell BK228.out 0).trans rfl; have hcz40_1 : w37.cell? ⟨gb228, 1, none⟩ = some (.int .i64 a1_1) := (blk_cell BK228.out 1).trans rfl; have hcz40_2 : w37.cell? ⟨gb228, 2, none⟩ = some (.int .i64 a1_2) := (blk_cell BK228.out 2).trans rfl; have hcz40_3 : w37.cell? ⟨gb228, 3, none⟩ = some (.bool a1_3) := (blk_cell BK228.out 3).trans rfl; have hcz40_4 : w37.cell? ⟨gb228, 4, none⟩ = some (.int .i64 a1_4) := (blk_cell BK228.out 4).trans rfl; have hcz40_5 : w37.cell? ⟨gb228, 5, none⟩ = some (.slice A1_5 l1_5.length c1_5) := (blk_cell BK228.out 5).trans rfl; have hcz40_6 : w37.cell? ⟨gb228, 6, none⟩ = some (.slice A1_6 l1_6.length c1_6) := (blk_cell BK228.out 6).trans rfl; have hfz40_0 := blk_frozen BK228.out 0; have hfz40_1 := blk_frozen BK228.out 1; have hfz40_2 := blk_frozen BK228.out 2; have hfz40_3 := blk_frozen BK228.out 3; have hfz40_4 := blk_frozen BK228.out 4; have hfz40_5 := blk_frozen BK228.out 5; have hfz40_6 := blk_frozen BK228.out 6))
      go_ret
      exact ⟨by first | rfl | (simp [errW_none, errW_some] <;> rfl) | (simp [*, errW_none, errW_some] <;> rfl), by repeat (first | (with_reducible first | exact HB.out | apply below_alloc | apply pw_below_drewN | apply below_drew1 | refine below_set ?_ GE227.out | refine below_set ?_ GE228.out) | exact HB.out)⟩
  · rw [if_neg c3] at H
    have c3b0 : (a0_0.toList == a1_0.toList) = false := beq_eq_false_iff_ne.mpr c3
    have c3b1 : (a0_0.toList != a1_0.toList) = true := bne_iff_ne.mpr c3
    obtain rfl := Option.some.inj H
    go_enter Try.func126, Try.ntmps126
    go_wp2_with (first | ((with_reducible refine gate_dst (N := 2) rfl ?_); refine box_event ?hg (N := 2) ?hd (cs := #[.string a0_0, .int .i64 a0_1, .int .i64 a0_2, .bool a0_3, .int .i64 a0_4, .slice A0_5 l0_5.length c0_5, .slice A0_6 l0_6.length c0_6]) (t := 102) ?hr ?_; (case hd => rfl); (case hg => rfl); (case hr => first | (go_simp; done) | (go_simp; rfl)); intro gb227 hg w41 hbox hb; have n0_ := Aside0.mk (below_step (by repeat (first | (with_reducible first | exact HB.out | apply below_alloc | apply pw_below_drewN | apply below_drew1) | exact HB.out)) hb); have n1_ := Aside0.mk (hbox); have n2_ := Aside0.mk ((by rw [hg]; exact (below_size (by repeat (first | (with_reducible first | exact HB.out | apply below_alloc | apply pw_below_drewN | apply below_drew1) | exact HB.out))) : w.heap.size ≤ gb227)); have n3_ := Aside0.mk ((by rw [hg]; exact (below_size (by repeat (first | (with_reducible first | exact HB.out | apply below_alloc | apply pw_below_drewN | apply below_drew1) | exact HB.out))) : w.heap.size ≤ gb227)); clear HB; have HB := n0_; have BK227 := n1_; have GW227 := n2_; have GE227 := n3_; clear n0_ n1_ n2_ n3_; clear hb hbox hg) | ((with_reducible refine gate_dst (N := 3) rfl ?_); refine box_event ?hg (N := 3) ?hd (cs := #[.string a1_0, .int .i64 a1_1, .int .i64 a1_2, .bool a1_3, .int .i64 a1_4, .slice A1_5 l1_5.length c1_5, .slice A1_6 l1_6.length c1_6]) (t := 102) ?hr ?_; (case hd => rfl); (case hg => rfl); (case hr => first | (go_simp; done) | (go_simp; rfl)); intro gb228 hg w42 hbox hb; have n0_ := Aside0.mk (blk_below (g := gb227) (o := .cells #[.string a0_0, .int .i64 a0_1, .int .i64 a0_2, .bool a0_3, .int .i64 a0_4, .slice A0_5 l0_5.length c0_5, .slice A0_6 l0_6.length c0_6] 102 (0, 0)) (by (with_reducible repeat (first | refine blk_drewN ?_ _ | refine blk_drew ?_ | refine blk_alloc ?_ _)); exact BK227.out) hb); have n1_ := Aside0.mk (below_step (by repeat (first | (with_reducible first | exact HB.out | apply below_alloc | apply pw_below_drewN | apply below_drew1 | refine below_set ?_ GE227.out) | exact HB.out)) hb); have n2_ := Aside0.mk (hbox); have n3_ := Aside0.mk ((by rw [hg]; exact (below_size (by repeat (first | (with_reducible first | exact HB.out | apply below_alloc | apply pw_below_drewN | apply below_drew1 | refine below_set ?_ GE227.out) | exact HB.out))) : w.heap.size ≤ gb228)); have n4_ := Aside0.mk ((by rw [hg]; exact (below_size (by repeat (first | (with_reducible first | exact HB.out | apply below_alloc | apply pw_below_drewN | apply below_drew1 | refine below_set ?_ GE227.out) | exact HB.out))) : w.heap.size ≤ gb228)); have n5_ := Aside0.mk ((by rw [hg]; exact Nat.ne_of_lt (blk_lt (g := gb227) (o := .cells #[.string a0_0, .int .i64 a0_1, .int .i64 a0_2, .bool a0_3, .int .i64 a0_4, .slice A0_5 l0_5.length c0_5, .slice A0_6 l0_6.length c0_6] 102 (0, 0)) (by (with_reducible repeat (first | refine blk_drewN ?_ _ | refine blk_drew ?_ | refine blk_alloc ?_ _)); exact BK227.out)) : gb227 ≠ gb228)); have n6_ := Aside0.mk ((by rw [hg]; exact Nat.ne_of_gt (blk_lt (g := gb227) (o := .cells #[.string a0_0, .int .i64 a0_1, .int .i64 a0_2, .bool a0_3, .int .i64 a0_4, .slice A0_5 l0_5.length c0_5, .slice A0_6 l0_6.length c0_6] 102 (0, 0)) (by (with_reducible repeat (first | refine blk_drewN ?_ _ | refine blk_drew ?_ | refine blk_alloc ?_ _)); exact BK227.out)) : gb228 ≠ gb227)); clear BK227; clear HB; have BK227 := n0_; have HB := n1_; have BK228 := n2_; have GW228 := n3_; have GE228 := n4_; have NB227_228 := n5_; have NB228_227 := n6_; clear n0_ n1_ n2_ n3_ n4_ n5_ n6_; clear hb hbox hg; have hnb43 := NB227_228.out; have hnc43 := NB228_227.out; have hcz44_0 : w42.cell? ⟨gb227, 0, none⟩ = some (.string a0_0) := (blk_cell BK227.out 0).trans rfl; have hcz44_1 : w42.cell? ⟨gb227, 1, none⟩ = some (.int .i64 a0_1) := (blk_cell BK227.out 1).trans rfl; have hcz44_2 : w42.cell? ⟨gb227, 2, none⟩ = some (.int .i64 a0_2) := (blk_cell BK227.out 2).trans rfl; have hcz44_3 : w42.cell? ⟨gb227, 3, none⟩ = some (.bool a0_3) := (blk_cell BK227.out 3).trans rfl; have hcz44_4 : w42.cell? ⟨gb227, 4, none⟩ = some (.int .i64 a0_4) := (blk_cell BK227.out 4).trans rfl; have hcz44_5 : w42.cell? ⟨gb227, 5, none⟩ = some (.slice A0_5 l0_5.length c0_5) := (blk_cell BK227.out 5).trans rfl; have hcz44_6 : w42.cell? ⟨gb227, 6, none⟩ = some (.slice A0_6 l0_6.length c0_6) := (blk_cell BK227.out 6).trans rfl; have hfz44_0 := blk_frozen BK227.out 0; have hfz44_1 := blk_frozen BK227.out 1; have hfz44_2 := blk_frozen BK227.out 2; have hfz44_3 := blk_frozen BK227.out 3; have hfz44_4 := blk_frozen BK227.out 4; have hfz44_5 := blk_frozen BK227.out 5; have hfz44_6 := blk_frozen BK227.out 6; have hcz45_0 : w42.cell? ⟨gb228, 0, none⟩ = some (.string a1_0) := (blk_cell BK228.out 0).trans rfl; have hcz45_1 : w42.cell? ⟨gb228, 1, none⟩ = some (.int .i64 a1_1) := (blk_cell BK228.out 1).trans rfl; have hcz45_2 : w42.cell? ⟨gb228, 2, none⟩ = some (.int .i64 a1_2) := (blk_cell BK228.out 2).trans rfl; have hcz45_3 : w42.cell? ⟨gb228, 3, none⟩ = some (.bool a1_3) := (blk_cell BK228.out 3).trans rfl; have hcz45_4 : w42.cell? ⟨gb228, 4, none⟩ = some (.int .i64 a1_4) := (blk_cell BK228.out 4).trans rfl; have hcz45_5 : w42.cell? ⟨gb228, 5, none⟩ = some (.slice A1_5 l1_5.length c1_5) := (blk_cell BK228.out 5).trans rfl; have hcz45_6 : w42.cell? ⟨gb228, 6, none⟩ = some (.slice A1_6 l1_6.length c1_6) := (blk_cell BK228.out 6).trans rfl; have hfz45_0 := blk_frozen BK228.out 0; have hfz45_1 := blk_frozen BK228.out 1; have hfz45_2 := blk_frozen BK228.out 2; have hfz45_3 := blk_frozen BK228.out 3; have hfz45_4 := blk_frozen BK228.out 4; have hfz45_5 := blk_frozen BK228.out 5; have hfz45_6 := blk_frozen BK228.out 6))
    go_ret
    exact ⟨by first | rfl | (simp [errW_none, errW_some] <;> rfl) | (simp [*, errW_none, errW_some] <;> rfl), by repeat (first | (with_reducible first | exact HB.out | apply below_alloc | apply pw_below_drewN | apply below_drew1 | refine below_set ?_ GE227.out | refine below_set ?_ GE228.out) | exact HB.out)⟩
end Go.Proofs.Ytmcfihpbiilbcaa.E
end
section
namespace Go.Proofs.Ytmcfihpbiilbcaa.E
open Go.RowKit Go.Proofs.YtmcfihpbiilbcaaW.PrintWords Go.Proofs.YtmcfihpbiilbcaaW.PrintLast Go.Proofs.YtmcfihpbiilbcaaW.PrintMore
attribute [local go_sem] max2_int min2_int max_two min_two max_three min_three max_four min_four   -- for this text's walks alone
set_option linter.unusedVariables false
set_option linter.unusedSimpArgs false
theorem eqA122 (d : Nat) (w : World) (x0 y0 : ByteArray) (x1 y1 : Int) :
    (Op.equalIn (d + 2) 122 (.agg #[.string x0, .int .i64 x1]) (.agg #[.string y0, .int .i64 y1])).run Try.prog w = .ok (x0.toList == y0.toList && (x1 == y1)) w := by
  refine eqA_of Try.underlying122 (by kernel_rfl) ?_
  refine eqf_cons (by rfl) (by go_simp; rfl) (by go_simp; rfl) (by go_simp) ?_
  exact eqf_last (by rfl) (by go_simp; rfl) (by go_simp; rfl) (by go_simp)
attribute [local go_sem high] eqA122 eqA153
def api_Note.l0 : Nat → List (S122) → List (S122) → Int → Int → Option (Bool)
  | 0, _, _, _, _ => none
  | k + 1, x0, x1, x12, x13 => if x13 < x12 then (if 0 ≤ x13 then (if x13 < (x0.length : Int) then (if x13 < (x1.length : Int) then (if (!((((rd_T122 x0 x13).f0).toList) == (((rd_T122 x1 x13).f0).toList)) || (!(((rd_T122 x0 x13).f1) == ((rd_T122 x1 x13).f1)))) = true then (some false) else (api_Note.l0 k x0 x1 x12 (wrap64 (x13 + 1)))) else (none)) else (none)) else (none)) else (some true)
def api_Note.f (k : Nat) (l0 : List (S122)) (l1 : List (S122)) : Option (Bool) := if (l0.length : Int) = (l1.length : Int) then (api_Note.l0 k l0 l1 (l0.length : Int) 0) else (some false)
theorem api_Note.mono_l : ∀ k, (∀ y0 y1 y2 y3, LeO (api_Note.l0 k y0 y1 y2 y3) (api_Note.l0 (k + 1) y0 y1 y2 y3))
  | 0 => fun _ _ _ _ r h => by simp [api_Note.l0] at h
  | k + 1 => by
    have ih0 := api_Note.mono_l k
    · intro y0 y1 y2 y3
      unfold api_Note.l0
      repeat' first
      | (with_reducible exact ih0 _ _ _ _)
      | (with_reducible exact LeO.refl _)
      | (with_reducible exact LeO.none _)
      | (with_reducible refine LeO.ite ?_ ?_)
      | (with_reducible refine LeO.bind ?_ (fun _ => ?_))
      | exact ih0 _ _ _ _
      | exact LeO.none _
      | refine LeO.ite ?_ ?_
      | refine LeO.bind ?_ (fun _ => ?_)
theorem api_Note.mono : ∀ a0 a1 k, LeO (api_Note.f k a0 a1) (api_Note.f (k + 1) a0 a1) := by
  intro a0 a1 k
  have ih0 := api_Note.mono_l k
  unfold api_Note.f
  repeat' first
      | (with_reducible exact ih0 _ _ _ _)
      | (with_reducible exact LeO.refl _)
      | (with_reducible exact LeO.none _)
      | (with_reducible refine LeO.ite ?_ ?_)
      | (with_reducible refine LeO.bind ?_ (fun _ => ?_))
      | exact ih0 _ _ _ _
      | exact LeO.none _
      | refine LeO.ite ?_ ?_
      | refine LeO.bind ?_ (fun _ => ?_)
set_option maxHeartbeats 8000000 in
set_option maxRecDepth 100000 in
theorem api_Note.calls (k : Nat) (A0 : Option Addr) (c0 : Nat) (l0 : List (S122)) (A1 : Option Addr) (c1 : Nat) (l1 : List (S122)) (r : Bool) (w : World) (hr0 : Kd.C k122 w A0 l0.length l0) (hc0 : l0.length ≤ c0) (hr1 : Kd.C k122 w A1 l1.length l1) (hc1 : l1.length ≤ c1) (h : api_Note.f k l0 l1 = some r) :
    Calls Try.prog 127 #[.slice A0 l0.length c0, .slice A1 l1.length c1] w fun e w' => e = .returned (.bool r) ∧ Drawn0 w w' := by
  have hu122 := Try.underlying122
  have HR0 := Aside0.mk hr0
  have HC0 := Aside0.mk hc0
  clear hr0 hc0
  have HR1 := Aside0.mk hr1
  have HC1 := Aside0.mk hc1
  clear hr1 hc1
  have H : (if (l0.length : Int) = (l1.length : Int) then (api_Note.l0 k l0 l1 (l0.length : Int) 0) else (some false)) = some r := h
  clear h
  by_cases c3 : (l0.length : Int) = (l1.length : Int)
  · rw [if_pos c3] at H
    have c3b0 : ((l0.length : Int) == (l1.length : Int)) = true := beq_iff_eq.mpr c3
    have c3b1 : ((l0.length : Int) != (l1.length : Int)) = false := bne_eq_false_iff_eq.mpr c3
    have c3b2 : (l0.length == l1.length) = true := by first | simpa using c3 | (simp at c3 ⊢; omega)
    clear c3
    have H' := Aside0.mk H
    clear H
    go_enter Try.func127, Try.ntmps127
    go_wp2
    repeat (go_quiet (fail); try go_wp2)
    go_loopg [13] k (fun kq v13 w' => ∃ (x13_1 : Int), v13 = .int .i64 x13_1 ∧ Aside0 (api_Note.l0 kq l0 l1 (l0.length : Int) x13_1 = some r) ∧ Aside0 (kq ≤ k) ∧ Drawn0 w w')
    case atStart => exact ⟨(0), (by first | rfl | (simp; done) | (simp [*]; done)), H', ⟨Nat.le_refl _⟩, by repeat (first | exact Drawn0.refl _ | apply Drawn0.step)⟩
    case round =>
      clear H'
      try clear c1
      try clear p2
      try clear c3
      try clear c3b0
      try clear c3b1
      try clear c3b2
      obtain ⟨x13_1, rfl, HA, HK1, ⟨m1, rfl⟩⟩ := hrel
      cases gk with
      | zero => exact absurd HA.out (by simp [api_Note.l0])
      | succ k1 =>
        have H := HA.out
        clear HA
        simp only [api_Note.l0] at H
        by_cases c4 : x13_1 < (l0.length : Int)
        · rw [if_pos c4] at H
          have c4b0 : decide (x13_1 < (l0.length : Int)) = true := decide_eq_true c4
          clear c4
          by_cases c5 : 0 ≤ x13_1
          · rw [if_pos c5] at H
            have c5b0 : decide (0 ≤ x13_1) = true := decide_eq_true c5
            clear c5
            by_cases c6 : x13_1 < (l0.length : Int)
            · rw [if_pos c6] at H
              have c6b0 : decide (x13_1 < (l0.length : Int)) = true := decide_eq_true c6
              clear c6
              by_cases c7 : x13_1 < (l1.length : Int)
              · rw [if_pos c7] at H
                have c7b0 : decide (x13_1 < (l1.length : Int)) = true := decide_eq_true c7
                clear c7
                by_cases c8 : (!((((rd_T122 l0 x13_1).f0).toList) == (((rd_T122 l1 x13_1).f0).toList)) || (!(((rd_T122 l0 x13_1).f1) == ((rd_T122 l1 x13_1).f1)))) = true
                · rw [if_pos c8] at H
                  have c8b0 : (!((((rd_T122 l0 x13_1).f0).toList) == (((rd_T122 l1 x13_1).f0).toList)) || (!(((rd_T122 l0 x13_1).f1) == ((rd_T122 l1 x13_1).f1)))) = true := c8
                  clear c8
                  obtain rfl := Option.some.inj H
                  have p101 : 0 ≤ (x13_1 : Int) := of_decide_eq_true (by first | (with_reducible assumption) | assumption)
                  have q101 : x13_1 < (l0.length : Int) := of_decide_eq_true (by first | (with_reducible assumption) | assumption)
                  obtain ⟨ad101, e101, hx101_0, hx101_1⟩ := at_T122 HR0.out x13_1 p101 q101
                  cases e101
                  replace p101 := eq_true p101
                  replace q101 := eq_true q101
                  have p102 : 0 ≤ (x13_1 : Int) := of_decide_eq_true (by first | (with_reducible assumption) | assumption)
                  have q102 : x13_1 < (l1.length : Int) := of_decide_eq_true (by first | (with_reducible assumption) | assumption)
                  obtain ⟨ad102, e102, hx102_0, hx102_1⟩ := at_T122 HR1.out x13_1 p102 q102
                  cases e102
                  replace p102 := eq_true p102
                  replace q102 := eq_true q102
                  go_wp2
                  repeat (go_quiet (fail); try go_wp2)
                  go_ret
                  exact ⟨by first | rfl | (simp; done) | (simp [*]; done), by repeat (first | exact Drawn0.refl _ | apply Drawn0.step)⟩
                · rw [if_neg c8] at H
                  have c8b0 : (!((((rd_T122 l0 x13_1).f0).toList) == (((rd_T122 l1 x13_1).f0).toList)) || (!(((rd_T122 l0 x13_1).f1) == ((rd_T122 l1 x13_1).f1)))) = false := by simpa using c8
                  clear c8
                  have H' := Aside0.mk H
                  clear H
                  have p101 : 0 ≤ (x13_1 : Int) := of_decide_eq_true (by first | (with_reducible assumption) | assumption)
                  have q101 : x13_1 < (l0.length : Int) := of_decide_eq_true (by first | (with_reducible assumption) | assumption)
                  obtain ⟨ad101, e101, hx101_0, hx101_1⟩ := at_T122 HR0.out x13_1 p101 q101
                  cases e101
                  replace p101 := eq_true p101
                  replace q101 := eq_true q101
                  have p102 : 0 ≤ (x13_1 : Int) := of_decide_eq_true (by first | (with_reducible assumption) | assumption)
                  have q102 : x13_1 < (l1.length : Int) := of_decide_eq_true (by first | (with_reducible assumption) | assumption)
                  obtain ⟨ad102, e102, hx102_0, hx102_1⟩ := at_T122 HR1.out x13_1 p102 q102
                  cases e102
                  replace p102 := eq_true p102
                  replace q102 := eq_true q102
                  go_wp2
                  repeat (go_quiet (fail); try go_wp2)
                  go_roundg k1
                  case measure => have := HK1.out; omega
                  case rel => exact ⟨(wrap64 (x13_1 + 1)), (by first | rfl | (simp; done) | (simp [*]; done)), H', ⟨by have := HK1.out; omega⟩, by repeat (first | exact Drawn0.refl _ | apply Drawn0.step)⟩
              · rw [if_neg c7] at H
                exact absurd H (by simp)
            · rw [if_neg c6] at H
              exact absurd H (by simp)
          · rw [if_neg c5] at H
            exact absurd H (by simp)
        · rw [if_neg c4] at H
          have c4b0 : decide (x13_1 < (l0.length : Int)) = false := decide_eq_false c4
          clear c4
          obtain rfl := Option.some.inj H
          go_wp2
          repeat (go_quiet (fail); try go_wp2)
          go_ret
          exact ⟨by first | rfl | (simp; done) | (simp [*]; done), by repeat (first | exact Drawn0.refl _ | apply Drawn0.step)⟩
  · rw [if_neg c3] at H
    have c3b0 : ((l0.length : Int) == (l1.length : Int)) = false := beq_eq_false_iff_ne.mpr c3
    have c3b1 : ((l0.length : Int) != (l1.length : Int)) = true := bne_iff_ne.mpr c3
    have c3b2 : (l0.length == l1.length) = false := by first | simpa using c3 | (simp at c3 ⊢; omega)
    obtain rfl := Option.some.inj H
    go_enter Try.func127, Try.ntmps127
    go_wp2
    repeat (go_quiet (fail); try go_wp2)
    go_ret
    exact ⟨by first | rfl | (simp; done) | (simp [*]; done), by repeat (first | exact Drawn0.refl _ | apply Drawn0.step)⟩
def spliceref09_sameRels.l0 : Nat → List (S153) → List (S153) → Int → Option (Bool)
  | 0, _, _, _ => none
  | k + 1, x0, x1, x5 => if x5 < (x0.length : Int) then (if 0 ≤ x5 then (if x5 < (x1.length : Int) then (if (!(((rd_T153 x0 x5).f0) == ((rd_T153 x1 x5).f0)) || (!(((rd_T153 x0 x5).f1) == ((rd_T153 x1 x5).f1)) || (!((((rd_T153 x0 x5).f2).toList) == (((rd_T153 x1 x5).f2).toList)) || (!(((rd_T153 x0 x5).f3) == ((rd_T153 x1 x5).f3)))))) = true then (some false) else (spliceref09_sameRels.l0 k x0 x1 (wrap64 (x5 + 1)))) else (none)) else (none)) else (some true)
def spliceref09_sameRels.f (k : Nat) (l0 : List (S153)) (l1 : List (S153)) : Option (Bool) := if (l0.length : Int) = (l1.length : Int) then (spliceref09_sameRels.l0 k l0 l1 0) else (some false)
theorem spliceref09_sameRels.mono_l : ∀ k, (∀ y0 y1 y2, LeO (spliceref09_sameRels.l0 k y0 y1 y2) (spliceref09_sameRels.l0 (k + 1) y0 y1 y2))
  | 0 => fun _ _ _ r h => by simp [spliceref09_sameRels.l0] at h
  | k + 1 => by
    have ih0 := spliceref09_sameRels.mono_l k
    · intro y0 y1 y2
      unfold spliceref09_sameRels.l0
      repeat' first
      | (with_reducible exact ih0 _ _ _)
      | (with_reducible exact LeO.refl _)
      | (with_reducible exact LeO.none _)
      | (with_reducible refine LeO.ite ?_ ?_)
      | (with_reducible refine LeO.bind ?_ (fun _ => ?_))
      | exact ih0 _ _ _
      | exact LeO.none _
      | refine LeO.ite ?_ ?_
      | refine LeO.bind ?_ (fun _ => ?_)
theorem spliceref09_sameRels.mono : ∀ a0 a1 k, LeO (spliceref09_sameRels.f k a0 a1) (spliceref09_sameRels.f (k + 1) a0 a1) := by
  intro a0 a1 k
  have ih0 := spliceref09_sameRels.mono_l k
  unfold spliceref09_sameRels.f
  repeat' first
      | (with_reducible exact ih0 _ _ _)
      | (with_reducible exact LeO.refl _)
      | (with_reducible exact LeO.none _)
      | (with_reducible refine LeO.ite ?_ ?_)
      | (with_reducible refine LeO.bind ?_ (fun _ => ?_))
      | exact ih0 _ _ _
      | exact LeO.none _
      | refine LeO.ite ?_ ?_
      | refine LeO.bind ?_ (fun _ => ?_)
set_option maxHeartbeats 8000000 in
set_option maxRecDepth 100000 in
theorem spliceref09_sameRels.calls (k : Nat) (A0 : Option Addr) (c0 : Nat) (l0 : List (S153)) (A1 : Option Addr) (c1 : Nat) (l1 : List (S153)) (r : Bool) (w : World) (hr0 : Kd.C k153 w A0 l0.length l0) (hc0 : l0.length ≤ c0) (hr1 : Kd.C k153 w A1 l1.length l1) (hc1 : l1.length ≤ c1) (h : spliceref09_sameRels.f k l0 l1 = some r) :
    Calls Try.prog 122 #[.slice A0 l0.length c0, .slice A1 l1.length c1] w fun e w' => e = .returned (.bool r) ∧ Drawn0 w w' := by
  have hu153 := Try.underlying153
  have HR0 := Aside0.mk hr0
  have HC0 := Aside0.mk hc0
  clear hr0 hc0
  have HR1 := Aside0.mk hr1
  have HC1 := Aside0.mk hc1
  clear hr1 hc1
  have H : (if (l0.length : Int) = (l1.length : Int) then (spliceref09_sameRels.l0 k l0 l1 0) else (some false)) = some r := h
  clear h
  by_cases c3 : (l0.length : Int) = (l1.length : Int)
  · rw [if_pos c3] at H
    have c3b0 : ((l0.length : Int) == (l1.length : Int)) = true := beq_iff_eq.mpr c3
    have c3b1 : ((l0.length : Int) != (l1.length : Int)) = false := bne_eq_false_iff_eq.mpr c3
    have c3b2 : (l0.length == l1.length) = true := by first | simpa using c3 | (simp at c3 ⊢; omega)
    clear c3
    have H' := Aside0.mk H
    clear H
    go_enter Try.func122, Try.ntmps122
    go_wp2
    repeat (go_quiet (fail); try go_wp2)
    go_loopg [5] k (fun kq v5 w' => ∃ (x5_1 : Int), v5 = .int .i64 x5_1 ∧ Aside0 (spliceref09_sameRels.l0 kq l0 l1 x5_1 = some r) ∧ Aside0 (kq ≤ k) ∧ Drawn0 w w')
    case atStart => exact ⟨(0), (by first | rfl | (simp; done) | (simp [*]; done)), H', ⟨Nat.le_refl _⟩, by repeat (first | exact Drawn0.refl _ | apply Drawn0.step)⟩
    case round =>
      clear H'
      try clear c1
      try clear p2
      try clear c3
      try clear c3b0
      try clear c3b1
      try clear c3b2
      obtain ⟨x5_1, rfl, HA, HK1, ⟨m1, rfl⟩⟩ := hrel
      cases gk with
      | zero => exact absurd HA.out (by simp [spliceref09_sameRels.l0])
      | succ k1 =>
        have H := HA.out
        clear HA
        simp only [spliceref09_sameRels.l0] at H
        by_cases c4 : x5_1 < (l0.length : Int)
        · rw [if_pos c4] at H
          have c4b0 : decide (x5_1 < (l0.length : Int)) = true := decide_eq_true c4
          clear c4
          by_cases c5 : 0 ≤ x5_1
          · rw [if_pos c5] at H
            have c5b0 : decide (0 ≤ x5_1) = true := decide_eq_true c5
            clear c5
            by_cases c6 : x5_1 < (l1.length : Int)
            · rw [if_pos c6] at H
              have c6b0 : decide (x5_1 < (l1.length : Int)) = true := decide_eq_true c6
              clear c6
              by_cases c7 : (!(((rd_T153 l0 x5_1).f0) == ((rd_T153 l1 x5_1).f0)) || (!(((rd_T153 l0 x5_1).f1) == ((rd_T153 l1 x5_1).f1)) || (!((((rd_T153 l0 x5_1).f2).toList) == (((rd_T153 l1 x5_1).f2).toList)) || (!(((rd_T153 l0 x5_1).f3) == ((rd_T153 l1 x5_1).f3)))))) = true
              · rw [if_pos c7] at H
                have c7b0 : (!(((rd_T153 l0 x5_1).f0) == ((rd_T153 l1 x5_1).f0)) || (!(((rd_T153 l0 x5_1).f1) == ((rd_T153 l1 x5_1).f1)) || (!((((rd_T153 l0 x5_1).f2).toList) == (((rd_T153 l1 x5_1).f2).toList)) || (!(((rd_T153 l0 x5_1).f3) == ((rd_T153 l1 x5_1).f3)))))) = true := c7
                clear c7
                obtain rfl := Option.some.inj H
                have p103 : 0 ≤ (x5_1 : Int) := of_decide_eq_true (by first | (with_reducible assumption) | assumption)
                have q103 : x5_1 < (l0.length : Int) := of_decide_eq_true (by first | (with_reducible assumption) | assumption)
                obtain ⟨ad103, e103, hx103_0, hx103_1, hx103_2, hx103_3⟩ := at_T153 HR0.out x5_1 p103 q103
                cases e103
                replace p103 := eq_true p103
                replace q103 := eq_true q103
                have p104 : 0 ≤ (x5_1 : Int) := of_decide_eq_true (by first | (with_reducible assumption) | assumption)
                have q104 : x5_1 < (l1.length : Int) := of_decide_eq_true (by first | (with_reducible assumption) | assumption)
                obtain ⟨ad104, e104, hx104_0, hx104_1, hx104_2, hx104_3⟩ := at_T153 HR1.out x5_1 p104 q104
                cases e104
                replace p104 := eq_true p104
                replace q104 := eq_true q104
                go_wp2
                repeat (go_quiet (fail); try go_wp2)
                go_ret
                exact ⟨by first | rfl | (simp; done) | (simp [*]; done), by repeat (first | exact Drawn0.refl _ | apply Drawn0.step)⟩
              · rw [if_neg c7] at H
                have c7b0 : (!(((rd_T153 l0 x5_1).f0) == ((rd_T153 l1 x5_1).f0)) || (!(((rd_T153 l0 x5_1).f1) == ((rd_T153 l1 x5_1).f1)) || (!((((rd_T153 l0 x5_1).f2).toList) == (((rd_T153 l1 x5_1).f2).toList)) || (!(((rd_T153 l0 x5_1).f3) == ((rd_T153 l1 x5_1).f3)))))) = false := by simpa using c7
                clear c7
                have H' := Aside0.mk H
                clear H
                have p103 : 0 ≤ (x5_1 : Int) := of_decide_eq_true (by first | (with_reducible assumption) | assumption)
                have q103 : x5_1 < (l0.length : Int) := of_decide_eq_true (by first | (with_reducible assumption) | assumption)
                obtain ⟨ad103, e103, hx103_0, hx103_1, hx103_2, hx103_3⟩ := at_T153 HR0.out x5_1 p103 q103
                cases e103
                replace p103 := eq_true p103
                replace q103 := eq_true q103
                have p104 : 0 ≤ (x5_1 : Int) := of_decide_eq_true (by first | (with_reducible assumption) | assumption)
                have q104 : x5_1 < (l1.length : Int) := of_decide_eq_true (by first | (with_reducible assumption) | assumption)
                obtain ⟨ad104, e104, hx104_0, hx104_1, hx104_2, hx104_3⟩ := at_T153 HR1.out x5_1 p104 q104
                cases e104
                replace p104 := eq_true p104
                replace q104 := eq_true q104
                go_wp2
                repeat (go_quiet (fail); try go_wp2)
                go_roundg k1
                case measure => have := HK1.out; omega
                case rel => exact ⟨(wrap64 (x5_1 + 1)), (by first | rfl | (simp; done) | (simp [*]; done)), H', ⟨by have := HK1.out; omega⟩, by repeat (first | exact Drawn0.refl _ | apply Drawn0.step)⟩
            · rw [if_neg c6] at H
              exact absurd H (by simp)
          · rw [if_neg c5] at H
            exact absurd H (by simp)
        · rw [if_neg c4] at H
          have c4b0 : decide (x5_1 < (l0.length : Int)) = false := decide_eq_false c4
          clear c4
          obtain rfl := Option.some.inj H
          go_wp2
          repeat (go_quiet (fail); try go_wp2)
          go_ret
          exact ⟨by first | rfl | (simp; done) | (simp [*]; done), by repeat (first | exact Drawn0.refl _ | apply Drawn0.step)⟩
  · rw [if_neg c3] at H
    have c3b0 : ((l0.length : Int) == (l1.length : Int)) = false := beq_eq_false_iff_ne.mpr c3
    have c3b1 : ((l0.length : Int) != (l1.length : Int)) = true := bne_iff_ne.mpr c3
    have c3b2 : (l0.length == l1.length) = false := by first | simpa using c3 | (simp at c3 ⊢; omega)
    obtain rfl := Option.some.inj H
    go_enter Try.func122, Try.ntmps122
    go_wp2
    repeat (go_quiet (fail); try go_wp2)
    go_ret
    exact ⟨by first | rfl | (simp; done) | (simp [*]; done), by repeat (first | exact Drawn0.refl _ | apply Drawn0.step)⟩
end Go.Proofs.Ytmcfihpbiilbcaa.E
end
