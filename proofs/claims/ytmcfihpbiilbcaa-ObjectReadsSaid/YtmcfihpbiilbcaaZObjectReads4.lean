import Derived.Test.YtmcfihpbiilbcaaRows
import Derived.JoinedOf
import Derived.KernelRfl
import Derived.Lib.Bytes
import Derived.Lib.SmallJoins
import Derived.WalkKit
import Derived.ProofKit
import Derived.OpenShut
import Derived.ChangeOld
import Derived.Below
import Derived.SizedLaws
import Derived.Laws.FloatArith
import Derived.Lib.SlicesS
import Derived.Conc.MuLone
import Derived.Test.YtmcfihpbiilbcaaZObjectReads3
section
namespace Go.Proofs.Ytmcfihpbiilbcaa.J
open Go
set_option maxRecDepth 100000
theorem p1 : laidOutB Try.prog = true := by kernel_rfl
theorem p2 : mapsRowed Try.prog = true := by kernel_rfl
theorem p3 : (Try.prog.stops == []) = true := by kernel_rfl
theorem p4 : (Try.prog.stopKnobs == []) = true := by kernel_rfl
theorem p5 : Try.prog.stopsHeard = true := by kernel_rfl
theorem p6 : Try.prog.mayEnter = true := by kernel_rfl
theorem p7 : (Rows.scanTriesRow.lifted == Try.prog.liftsFinal) = true := by kernel_rfl
theorem p8 : (Try.prog.make == some Rows.scanTriesRow.make) = true := by kernel_rfl
theorem p9 : (Rows.scanTriesRow.plainKeys == Try.prog.plainKeys) = true := by kernel_rfl
theorem joined (f : FuncId) (fn : Func) (s : ChangeSpec) (c : OpenClaim)
    (e1 : c.lifted = Rows.scanTriesRow.lifted) (e2 : c.make = Rows.scanTriesRow.make) (e3 : c.plainKeys = Rows.scanTriesRow.plainKeys)
    (h0 : c.wf (OpenSpec.ofChange s) = true)
    (h1 : (fn.params.all (Try.prog.readableRec ·) && namedTie Try.prog c.named s.vars) = true)
    (h2 : ((c.stops == []) && (c.knobs == [])) = true)
    (h3 : (c.inPlace == Try.prog.inPlace f) = true) (h4 : (c.unfollowed == Try.prog.unfollowed f) = true) (h5 : (c.recurses == Try.prog.recurses f) = true) (h6 : (c.named == Try.prog.varsNamed f) = true)
    (h7 : ((c.maps == (fn.params.toList ++ s.plain.varTypes Try.prog).any (Try.prog.mapsRec ·)) && (c.ifaces == (fn.params.toList ++ s.plain.varTypes Try.prog).any (Try.prog.ifacesRec ·)) && (c.mapsOut == Try.prog.mapsAmong fn.resultTypes.toList)) = true)
    (h8 : ((c.loops == (fn.params.toList ++ s.plain.varTypes Try.prog).any (Try.prog.loopsFrom ·)) && (c.wideKeys == (fn.params.toList ++ s.plain.varTypes Try.prog ++ fn.resultTypes.toList).any (Try.prog.wideKeysFrom ·))) = true)
    (h9 : (s.vars.all (Try.prog.varReadable ·) && fn.resultTypes.all (fun t => Try.prog.readableRec t && decide (t < Try.prog.types.size)) && (c.ifacesOut == fn.resultTypes.toList.any (Try.prog.ifacesRec ·)) && (c.loopsOut == fn.resultTypes.toList.any (Try.prog.loopsFrom ·)) && c.shortTexts.isNone) = true)
    (h10 : ((c.kinds == (if c.domain.isEmpty then [] else fn.params.toList.map fun t => match Try.prog.underlying t with | some (.int k) => some k | _ => none)) && (c.pinned == c.pinnedBy) &&
      (c.veiled == (fn.params.toList ++ s.plain.varTypes Try.prog ++ fn.resultTypes.toList).any (Try.prog.veiledRec ·)) && c.veiledFits Try.prog fn.params.toList (fn.params.toList ++ s.plain.varTypes Try.prog ++ fn.resultTypes.toList)) = true) :
    joinedFacts Try.prog f fn s c = true := by
  have q7 := p7; have q8 := p8; have q9 := p9
  rw [← e1] at q7; rw [← e2] at q8; rw [← e3] at q9
  unfold joinedFacts
  simp only [Bool.and_eq_true] at *
  obtain ⟨h1a, h1b⟩ := h1
  obtain ⟨h2a, h2b⟩ := h2
  obtain ⟨⟨h7a, h7b⟩, h7c⟩ := h7
  obtain ⟨h8a, h8b⟩ := h8
  obtain ⟨⟨⟨⟨h9a, h9b⟩, h9c⟩, h9d⟩, h9e⟩ := h9
  obtain ⟨⟨⟨h10a, h10b⟩, h10c⟩, h10d⟩ := h10
  exact ⟨⟨⟨⟨⟨⟨⟨⟨⟨⟨⟨⟨⟨⟨⟨⟨⟨⟨⟨⟨⟨⟨⟨⟨⟨⟨⟨⟨⟨⟨⟨h0, p1⟩, p2⟩, h1a⟩, h1b⟩, h2a⟩, p3⟩, h2b⟩, p4⟩, h3⟩, h4⟩, h5⟩, h6⟩, h7a⟩, h7b⟩, h7c⟩, h8a⟩, h8b⟩, h9a⟩, h9b⟩, h9c⟩, h9d⟩, q9⟩, h9e⟩, p5⟩, p6⟩, q7⟩, q8⟩, h10a⟩, h10b⟩, h10c⟩, h10d⟩
end Go.Proofs.Ytmcfihpbiilbcaa.J
end
section
namespace Go.Proofs.Ytmcfihpbiilbcaa.H
open Go.RowKit Go.Proofs.YtmcfihpbiilbcaaW.PrintWords Go.Proofs.YtmcfihpbiilbcaaW.PrintLast Go.Proofs.YtmcfihpbiilbcaaW.PrintMore Go.Proofs.Ytmcfihpbiilbcaa.E
set_option linter.unusedVariables false
set_option linter.unusedSimpArgs false
theorem putS4_len (n : Int) : (putS n 4).length = 4 := rfl
abbrev CU (w : World) (A : Option Addr) (l : List Int) : Prop := Kd.C (Kd.int .u32) w A l.length l
theorem CL_block {w : World} {g : Nat} {ls : List (List Int)} {cs : Array Value} {t : TypeId} (hb : w.heap[g]? = some (.cells cs t (0, 0))) (hl : ls.length ≤ 9223372036854775807)
    (h : ∀ (j : Nat) (l : List Int), ls[j]? = some l → ∃ (A : Option Addr) (c : Nat), cs[j]? = some (Value.slice A l.length c) ∧ l.length ≤ c ∧ CB w A l) : CL w (some ⟨g, 0, none⟩) ls :=
  ⟨rfl, hl, fun _ => ⟨⟨g, 0, none⟩, rfl, fun j l hj => by
    obtain ⟨A, c, h1, h2, h3⟩ := h j l hj
    refine ⟨[.slice A l.length c], rfl, ⟨A, c, rfl, h2, h3⟩, fun i u hu => ?_⟩
    match i, hu with
    | 0, hu => simp at hu; subst hu; rw [show j * (Kd.slice 5 (Kd.int .u8)).sz + 0 = j from Nat.mul_one j, add_plain]; simp [World.cell?, hb, h1]
    | i + 1, hu => simp at hu⟩⟩
theorem const_c (w : World) (C : Array Value) (n c : Nat) : (convert 22 22 (.slice (some ⟨w.heap.size, 0, none⟩) n c)).run Try.prog (w.alloc (.cells C 5)) = .ok (.slice (some ⟨w.heap.size, 0, none⟩) n c) (w.alloc (.cells C 5 (C.size, C.size + 1))) :=
  Lib.run_convert_bytes_const (P := Try.prog) w 22 5 C n c Try.underlying22 Try.underlying5
theorem wordAt {w : World} {A : Option Addr} {l : List Int} (h : CU w A l) (k : Nat) (hk : k < l.length) : ∃ ad, A = some ad ∧ w.cell? (ad.add k) = some (.int .u32 l[k]) := by
  obtain ⟨ad, e, hcell⟩ := Kd.at_int h (k : Int) (by omega) (by omega)
  rw [Int.toNat_natCast] at hcell
  refine ⟨ad, e, ?_⟩
  rw [hcell]
  simp [rd, List.getD_eq_getElem?_getD, List.getElem?_eq_getElem hk]
end Go.Proofs.Ytmcfihpbiilbcaa.H
end
section
namespace Go.Proofs.Ytmcfihpbiilbcaa.H
open Go.RowKit Go.Proofs.YtmcfihpbiilbcaaW.PrintWords Go.Proofs.YtmcfihpbiilbcaaW.PrintLast Go.Proofs.YtmcfihpbiilbcaaW.PrintMore Go.Proofs.Ytmcfihpbiilbcaa.E
set_option linter.unusedVariables false
set_option linter.unusedSimpArgs false
theorem const_at (w : World) (g : Nat) (hg : w.heap.size = g) (C : Array Value) (n c : Nat) : (convert 22 22 (.slice (some ⟨g, 0, none⟩) n c)).run Try.prog (w.alloc (.cells C 5)) = .ok (.slice (some ⟨g, 0, none⟩) n c) (w.alloc (.cells C 5 (C.size, C.size + 1))) := by
  subst hg
  exact const_c w C n c
theorem const_4 {w : World} {g : Nat} {a b c d : Int} {fr : Nat × Nat} (h : w.heap[g]? = some (.cells #[.int .u8 a, .int .u8 b, .int .u8 c, .int .u8 d] 5 fr)) : CB w (some ⟨g, 0, none⟩) [a, b, c, d] :=
  C_block h (by simp) (fun j p h => by match j, h with | 0, h => simp at h ⊢; exact h | 1, h => simp at h ⊢; exact h | 2, h => simp at h ⊢; exact h | 3, h => simp at h ⊢; exact h | j + 4, h => simp at h)
end Go.Proofs.Ytmcfihpbiilbcaa.H
end
section
namespace Go.Proofs.Ytmcfihpbiilbcaa.H
open Go.RowKit Go.Proofs.YtmcfihpbiilbcaaW.PrintWords Go.Proofs.YtmcfihpbiilbcaaW.PrintLast Go.Proofs.YtmcfihpbiilbcaaW.PrintMore Go.Proofs.Ytmcfihpbiilbcaa.E
set_option linter.unusedVariables false
set_option linter.unusedSimpArgs false
def N4 (l : List Int) (i : Int) : Int := wordOf (mid l i 4)
def rdN (l : List Int) : Int := N4 l 4
def rdI (l : List Int) : Int := 8 + 4 * rdN l
def rdE (l : List Int) : Int := N4 l (rdI l)
def rdZ (l : List Int) : Int := N4 l (rdI l + 4)
def rdW (l : List Int) : Int := N4 l (rdI l + 8 + rdZ l)
def rdM (l : List Int) : Int := N4 l (rdI l + 8 + rdZ l + 4)
def rdC (l : List Int) (k : Nat) : List Int := (List.range k).map (fun (j : Nat) => N4 l (8 + 4 * (j : Int)))
def rdD (l : List Int) : List Int := mid l (rdI l + 8) (rdZ l)
def magicB (l : List Int) : Bool := decide (mid l 0 4 = [83, 80, 88, 49])
def readE (l : List Int) : Int :=
  if (l.length : Int) < 4 then 2 else if magicB l = false then 4 else
  if (l.length : Int) < 8 then 2 else if 65536 < rdN l then 4 else
  if (l.length : Int) < rdI l then 2 else
  if (l.length : Int) < rdI l + 4 then 2 else if ¬ (rdE l = 0 ∨ 0 < rdE l ∧ rdE l < rdN l) then 4 else
  if (l.length : Int) < rdI l + 8 then 2 else if 65536 < rdZ l then 4 else
  if (l.length : Int) < rdI l + 8 + rdZ l then 2 else
  if (l.length : Int) < rdI l + 8 + rdZ l + 4 then 2 else if rdZ l < rdW l then 4 else
  if (l.length : Int) < rdI l + 8 + rdZ l + 8 then 2 else if 65536 < rdM l then 4 else
  if rdI l + 8 + rdZ l + 8 < (l.length : Int) then 2 else 0
structure St (w : World) (B N n0 : Nat) (t : TypeId) (wc : World) (l : List Int) (i : Int) (cs : Array Value) : Prop where
  sc : Sc wc B l i
  errno : wc.heap[w.heap.size]? = some (.cells #[.int .i64 0] 25 (0, 0))
  var : wc.heap[N]? = some (.cells cs t (0, 0))
  below : Below n0 w wc
  lt : N < w.heap.size
  gt : w.heap.size < B
  le : n0 ≤ N
theorem St.start {w w1 : World} {B N n0 : Nat} {t : TypeId} {l : List Int} {cs : Array Value} (h : Fresh w w1 B l) (hN : w.heap[N]? = some (.cells cs t (0, 0))) (hle : n0 ≤ N) : St w B N n0 t w1 l 0 cs :=
  ⟨h.sc, h.cell, (h.below.block N (blk_lt hN)).trans hN, h.below.mono (by have := blk_lt hN; omega), blk_lt hN, h.lt, hle⟩
theorem St.scan {w : World} {B N n0 : Nat} {t : TypeId} {wc w1 : World} {l : List Int} {i j : Int} {cs : Array Value} (h : St w B N n0 t wc l i cs) (hb : Below wc.heap.size (wc.setCell ⟨B, 1, none⟩ (.int .i64 j)) w1) : St w B N n0 t w1 l j cs := by
  have ha := Aft.of_below hb
  have h1 := blk_lt h.errno
  have h2 := blk_lt h.var
  have h3 := h.lt
  have h4 := h.gt
  have h5 := h.le
  exact ⟨h.sc.after hb, (ha.block _ h1 (by omega)).trans h.errno, (ha.block _ h2 (by omega)).trans h.var, (h.below.setCell (p := ⟨B, 1, none⟩) (by show n0 ≤ B; omega) _).trans (hb.mono (by omega)), h.lt, h.gt, h.le⟩
theorem St.drawn {w : World} {B N n0 : Nat} {t : TypeId} {wc : World} {l : List Int} {i : Int} {cs : Array Value} (h : St w B N n0 t wc l i cs) (n : Nat) : St w B N n0 t (wc.drewN n) l i cs :=
  ⟨h.sc.keep (fun b _ => rfl), h.errno, h.var, pw_below_drewN h.below n, h.lt, h.gt, h.le⟩
theorem St.drew {w : World} {B N n0 : Nat} {t : TypeId} {wc : World} {l : List Int} {i : Int} {cs : Array Value} (h : St w B N n0 t wc l i cs) : St w B N n0 t wc.drew l i cs :=
  ⟨h.sc.keep (fun b _ => rfl), h.errno, h.var, h.below.drew, h.lt, h.gt, h.le⟩
theorem St.mem {w : World} {B N n0 : Nat} {t : TypeId} {wc w1 : World} {l : List Int} {i : Int} {cs : Array Value} (h : St w B N n0 t wc l i cs) (hb : Below wc.heap.size wc w1) : St w B N n0 t w1 l i cs := by
  have h1 := blk_lt h.errno
  exact ⟨h.sc.below hb, blk_below h.errno hb, blk_below h.var hb, h.below.trans (hb.mono (by have := h.lt; have := h.le; omega)), h.lt, h.gt, h.le⟩
theorem St.put {w : World} {B N n0 : Nat} {t : TypeId} {wc : World} {l : List Int} {i : Int} {cs : Array Value} (h : St w B N n0 t wc l i cs) (ht : t ≠ 5) (k : Nat) (u : Value) : St w B N n0 t (wc.setCell ⟨N, k, none⟩ u) l i (cs.setIfInBounds k u) := by
  have h3 := h.lt
  have h4 := h.gt
  exact ⟨h.sc.set_ h.var ht (by omega) k u, blk_far h.errno (by show w.heap.size ≠ N; omega) u, blk_set h.var k u, h.below.setCell (p := ⟨N, k, none⟩) h.le u, h.lt, h.gt, h.le⟩
theorem St.fail {w : World} {B N n0 : Nat} {t : TypeId} {wc w1 : World} {l : List Int} {i : Int} {cs : Array Value} (h : St w B N n0 t wc l i cs) (ha : Aft B wc w1) : w1.heap[w.heap.size]? = some (.cells #[.int .i64 0] 25 (0, 0)) ∧ Below n0 w w1 := by
  have h1 := blk_lt h.errno
  have h3 := h.lt
  have h4 := h.gt
  have h5 := h.le
  exact ⟨(ha.block _ h1 (by omega)).trans h.errno, Aft.below h.below ha (by omega) (by omega)⟩
theorem St.row {w : World} {B N n0 : Nat} {t e : TypeId} {wc w1 : World} {l : List Int} {i : Int} {cs : Array Value} (h : St w B N n0 t wc l i cs) {row : Option Nat} (hg : wc.grownBy w1 row) (hr : ∀ k, row = some k → n0 ≤ k ∧ ∃ cells, wc.heap[k]? = some (.cells cells e (0, 0))) (h5 : e ≠ 5) (h1 : e ≠ 106) (h2 : e ≠ 25) (ht : e ≠ t) : St w B N n0 t w1 l i cs := by
  have ne : ∀ {k t' : Nat} {cells : Array Value}, wc.heap[k]? = some (.cells cells t' (0, 0)) → e ≠ t' → some k ≠ row := by
    intro k t' cells hk hne he
    obtain ⟨_, cells', hc⟩ := hr k he.symm
    exact blk_ne hk hc (Ne.symm hne) rfl
  obtain ⟨v, s1, s2⟩ := h.sc
  refine ⟨⟨v, blk_grown s1 hg (ne s1 h1), ?_⟩, blk_grown h.errno hg (ne h.errno h2), blk_grown h.var hg (ne h.var ht), h.below.grown hg (by have := h.lt; have := h.le; have := blk_lt h.errno; omega) (fun k hk => (hr k hk).1), h.lt, h.gt, h.le⟩
  refine Kd.R_mono (Kd.R_step (Kd.R_bound s2) (fun k hk hlt => hg.block k hlt ?_)) (fun _ hk => hk.1)
  obtain ⟨_, _, _, q, hq, cells, hc⟩ := hk
  simp [Kd.int, Kd.scalar] at hq
  subst hq
  exact ne hc h5
end Go.Proofs.Ytmcfihpbiilbcaa.H
end
section
namespace Go.Proofs.Ytmcfihpbiilbcaa.H
open Go.RowKit Go.Proofs.YtmcfihpbiilbcaaW.PrintWords Go.Proofs.YtmcfihpbiilbcaaW.PrintLast Go.Proofs.YtmcfihpbiilbcaaW.PrintMore Go.Proofs.Ytmcfihpbiilbcaa.E
set_option linter.unusedVariables false
set_option linter.unusedSimpArgs false
theorem strEq (L K : List Int) (hL : Bytes L) (hK : Bytes K) : ((strOfNums L).toList == (strOfNums K).toList) = decide (L = K) := by
  rw [Bool.eq_iff_iff]
  simp only [beq_iff_eq, decide_eq_true_eq]
  constructor
  · intro h
    rw [Lib.strOfNums_toList, Lib.strOfNums_toList] at h
    have e : ∀ M : List Int, Bytes M → (M.map fun n => UInt8.ofNat n.toNat).map (fun b => (b.toNat : Int)) = M := by
      intro M hM
      rw [List.map_map]
      conv => rhs; rw [← List.map_id M]
      apply List.map_congr_left
      intro x hx
      have := hM x hx
      simp
      omega
    have h1 := congrArg (fun l : List UInt8 => l.map (fun b => (b.toNat : Int))) h
    have h2 := e L hL
    have h3 := e K hK
    exact h2.symm.trans (h1.trans h3)
  · intro h; rw [h]
abbrev RU (w : World) (base : Nat) (v : Value) (l : List Int) : Prop := Kd.R (Kd.int .u32) 36 w base (fun _ => True) v l
def ImgAt (w2 : World) (N n0 : Nat) (l : List Int) : Prop := ∃ vc vd, w2.heap[N]? = some (.cells #[vc, .int .i64 (rdE l), vd, .int .i64 (rdW l), .int .i64 (rdM l)] 60 (0, 0)) ∧ RU w2 n0 vc (rdC l (rdN l).toNat) ∧ RB w2 n0 vd (rdD l)
def ImgPost (w : World) (N n0 : Nat) (l : List Int) (w2 : World) (x : Int) : Prop := x = readE l ∧ Below n0 w w2 ∧ w2.heap[w.heap.size]? = some (.cells #[.int .i64 0] 25 (0, 0)) ∧ (x = 0 → ImgAt w2 N n0 l)
end Go.Proofs.Ytmcfihpbiilbcaa.H
end
section
namespace Go.Proofs.Ytmcfihpbiilbcaa.H
open Go.RowKit Go.Proofs.YtmcfihpbiilbcaaW.PrintWords Go.Proofs.YtmcfihpbiilbcaaW.PrintLast Go.Proofs.YtmcfihpbiilbcaaW.PrintMore Go.Proofs.Ytmcfihpbiilbcaa.E
set_option linter.unusedVariables false
set_option linter.unusedSimpArgs false
theorem info36 : (Try.prog.info? 36).map (fun i => (i.zero, i.size, i.bytes)) = some (some (.int .u32 0), 1, 4) := by kernel_rfl
theorem St.base {w : World} {B N n0 : Nat} {t : TypeId} {wc : World} {l : List Int} {i : Int} {cs : Array Value} (h : St w B N n0 t wc l i cs) : n0 ≤ wc.heap.size := by
  have := blk_lt h.errno
  have := h.lt
  have := h.le
  omega
theorem ImgPost.fail {w w2 : World} {B N n0 : Nat} {l : List Int} {x : Int} (h : w2.heap[w.heap.size]? = some (.cells #[.int .i64 0] 25 (0, 0)) ∧ Below n0 w w2) (hx : x = readE l) (h0 : x ≠ 0) : ReadPost w l B (ImgPost w N n0 l) (.panicked (fail_ x)) w2 :=
  .inr ⟨x, rfl, h.1, hx, h.2, h.1, fun e => absurd e h0⟩
end Go.Proofs.Ytmcfihpbiilbcaa.H
end
section
namespace Go.Proofs.Ytmcfihpbiilbcaa.H
open Go.RowKit Go.Proofs.YtmcfihpbiilbcaaW.PrintWords Go.Proofs.YtmcfihpbiilbcaaW.PrintLast Go.Proofs.YtmcfihpbiilbcaaW.PrintMore Go.Proofs.Ytmcfihpbiilbcaa.E
set_option linter.unusedVariables false
set_option linter.unusedSimpArgs false
theorem R_aft {α : Type} {d : Kd α} {e g base : Nat} {ok : Nat → Prop} {w w' : World} {v : Value} {xs : List α} (h : d.R e w base ok v xs) (k : Aft g w w') (hg : w.heap[g]? = some (.cells #[.int .i64 0] 25 (0, 0))) (ht : ∀ q, q ∈ e :: d.E → q ≠ 25) : d.R e w' base ok v xs :=
  Kd.R_mono (Kd.R_step (Kd.R_types h hg ht) (fun b hb hlt => k.block b hlt hb.2)) (fun _ h => h.1)
end Go.Proofs.Ytmcfihpbiilbcaa.H
end
section
namespace Go.Proofs.Ytmcfihpbiilbcaa.K
open Go.Joins Go.ChangeShapes Go.WideShapes Go.ChangeAt Go.RowKit Go.Deep Go.Proofs.YtmcfihpbiilbcaaW.PrintWords Go.Proofs.Ytmcfihpbiilbcaa.H
set_option linter.unusedVariables false
theorem own : ownKnob Try.prog.godebug = none := by kernel_rfl
theorem laidOut : laidOutB Try.prog = true := by kernel_rfl
theorem C_cells {k : IntKind} {w : World} {ad : Addr} {l : List Int} (hl : l.length ≤ 9223372036854775807) (h : ∀ j p, l[j]? = some p → w.cell? (ad.add j) = some (.int k p)) : Kd.C (Kd.int k) w (some ad) l.length l :=
  ⟨rfl, hl, fun _ => ⟨ad, rfl, fun j p hj => ⟨[.int k p], rfl, rfl, fun i u hu => by
    match i, hu with
    | 0, hu => simp at hu; subst hu; rw [show j * (Kd.int k).sz + 0 = j from Nat.mul_one j]; exact h j p hj
    | i + 1, hu => simp at hu⟩⟩⟩
section
variable {H : Type} {enc : TypeId × Value → H} {W : World} {base : Nat} {held : Bool}
theorem open_nums {t e : TypeId} {k : IntKind} (ht : Try.prog.underlying t = some (.slice e)) (he : Try.prog.underlying e = some (.int k)) (hc1 : Try.prog.cellsOf e = 1) {fuel : Nat} {v : Value} {x : DataW H × List MemPlace} (hf : DataW.trod enc Try.prog W base (fun _ => true) held fuel t [v] = some x) :
    ∃ (A : Option Addr) (c : Nat) (l : List Int), v = .slice A l.length c ∧ l.length ≤ c ∧ c ≤ maxLen ∧ Kd.C (Kd.int k) W A l.length l ∧ ∀ y ∈ l, (Lit.int k y).wf = true := by
  rcases open_ints ht he hc1 hf with ⟨hcs, _⟩ | ⟨x, len, c, zs, hcs, _, hl, hm, hz, _, hcell, hwz⟩
  · simp at hcs
    exact ⟨none, 0, [], hcs, Nat.le_refl _, Nat.zero_le _, ⟨rfl, by simp, fun h => absurd h (by simp)⟩, fun y hy => by simp at hy⟩
  · simp at hcs
    have hz' : zs.length = c := by simpa using hz
    have hlen : (zs.take len).length = len := by rw [List.length_take]; omega
    have hm' : c ≤ 9223372036854775807 := hm
    refine ⟨some x, c, zs.take len, by rw [hlen]; exact hcs, by omega, hm, C_cells (by omega) fun j p hj => ?_, fun y hy => hwz y (List.mem_of_mem_take hy)⟩
    have hj' : j < (zs.take len).length := (List.getElem?_eq_some_iff.1 hj).1
    rw [hcell j (by omega)]
    have : zs[j]? = some p := by rw [List.getElem?_take] at hj; split at hj; exact hj; cases hj
    rw [List.getD_eq_getElem?_getD, this]; rfl
theorem open_bytes {fuel : Nat} {v : Value} {x : DataW H × List MemPlace} (hf : DataW.trod enc Try.prog W base (fun _ => true) held fuel 22 [v] = some x) :
    ∃ (A : Option Addr) (c : Nat) (l : List Int), v = .slice A l.length c ∧ l.length ≤ c ∧ c ≤ maxLen ∧ Kd.C (Kd.int .u8) W A l.length l ∧ Bytes l := by
  obtain ⟨A, c, l, h1, h2, h3, h4, h5⟩ := open_nums Try.underlying22 Try.underlying5 (by kernel_rfl) hf
  exact ⟨A, c, l, h1, h2, h3, h4, fun y hy => by have := bounds_u8 (h5 y hy); omega⟩
end
end Go.Proofs.Ytmcfihpbiilbcaa.K
end
section
namespace Go.Proofs.Ytmcfihpbiilbcaa.H
open Go.RowKit Go.Proofs.YtmcfihpbiilbcaaW.PrintWords Go.Proofs.YtmcfihpbiilbcaaW.PrintLast Go.Proofs.YtmcfihpbiilbcaaW.PrintMore Go.Proofs.Ytmcfihpbiilbcaa.E
set_option linter.unusedVariables false
set_option linter.unusedSimpArgs false
def fo (x y : Nat) : Option Ordering := FloatKind.f64.format.order x y
def nanB (x : Nat) : Bool := fo x x != some .eq
def leB (x y : Nat) : Bool := fo x y == some .lt || fo x y == some .eq
def gtB (x y : Nat) : Bool := fo x y == some .gt
def maxW : Nat := 4831355200913801216
def cleanF (x : Nat) : Nat := if nanB x = true then 0 else if leB x 0 = true then 0 else if gtB x maxW = true then maxW else x
theorem isnan_c (x : Nat) (w : World) : Calls Try.prog 98 #[.float .f64 x] w fun e w' => e = .returned (.bool (nanB x)) ∧ w' = w := by
  go_enter Try.func98, Try.ntmps98
  go_wp2
  go_ret
  exact ⟨rfl, rfl⟩
theorem clean_c (x : Nat) (w : World) : Calls Try.prog 65 #[.float .f64 x] w fun e w' => e = .returned (.float .f64 (cleanF x)) ∧ w' = w := by
  by_cases h1 : nanB x = true
  · have hc : cleanF x = 0 := by unfold cleanF; rw [if_pos h1]
    rw [hc]
    go_enter Try.func65, Try.ntmps65
    go_wp2_with fail
    have hk := isnan_c x w
    rw [h1] at hk
    refine hk.mono ?_
    clear hk
    rintro e w1 ⟨rfl, rfl⟩
    go_wp2
    go_ret
    exact ⟨rfl, rfl⟩
  · have h1' : nanB x = false := by simpa using h1
    by_cases h2 : leB x 0 = true
    · have hc : cleanF x = 0 := by unfold cleanF; rw [if_neg h1, if_pos h2]
      rw [hc]
      have h3 : (FloatKind.f64.format.order x 0 == some .lt || FloatKind.f64.format.order x 0 == some .eq) = true := h2
      go_enter Try.func65, Try.ntmps65
      go_wp2_with fail
      have hk := isnan_c x w
      rw [h1'] at hk
      refine hk.mono ?_
      clear hk
      rintro e w1 ⟨rfl, rfl⟩
      go_wp2
      go_ret
      exact ⟨rfl, rfl⟩
    · have h2' : leB x 0 = false := by simpa using h2
      have h3 : (FloatKind.f64.format.order x 0 == some .lt || FloatKind.f64.format.order x 0 == some .eq) = false := h2'
      by_cases h4 : gtB x maxW = true
      · have hc : cleanF x = maxW := by unfold cleanF; rw [if_neg h1, if_neg h2, if_pos h4]
        rw [hc]
        have h5 : (FloatKind.f64.format.order x 4831355200913801216 == some .gt) = true := h4
        go_enter Try.func65, Try.ntmps65
        go_wp2_with fail
        have hk := isnan_c x w
        rw [h1'] at hk
        refine hk.mono ?_
        clear hk
        rintro e w1 ⟨rfl, rfl⟩
        go_wp2
        go_ret
        exact ⟨rfl, rfl⟩
      · have h4' : gtB x maxW = false := by simpa using h4
        have hc : cleanF x = x := by unfold cleanF; rw [if_neg h1, if_neg h2, if_neg h4]
        rw [hc]
        have h5 : (FloatKind.f64.format.order x 4831355200913801216 == some .gt) = false := h4'
        go_enter Try.func65, Try.ntmps65
        go_wp2_with fail
        have hk := isnan_c x w
        rw [h1'] at hk
        refine hk.mono ?_
        clear hk
        rintro e w1 ⟨rfl, rfl⟩
        go_wp2
        go_ret
        exact ⟨rfl, rfl⟩
end Go.Proofs.Ytmcfihpbiilbcaa.H
end
section
namespace Go.Proofs.Ytmcfihpbiilbcaa.H
open Go.RowKit Go.Proofs.YtmcfihpbiilbcaaW.PrintWords Go.Proofs.YtmcfihpbiilbcaaW.PrintLast Go.Proofs.YtmcfihpbiilbcaaW.PrintMore Go.Proofs.Ytmcfihpbiilbcaa.E
set_option linter.unusedVariables false
set_option linter.unusedSimpArgs false
abbrev Edge := ByteArray × Int × Int × Nat
def KE : Kd Edge := Kd.pair Kd.string (Kd.pair (Kd.int .i64) (Kd.pair (Kd.int .i64) (Kd.scalar (Value.float .f64) (fun _ => rfl))))
end Go.Proofs.Ytmcfihpbiilbcaa.H
end
section
namespace Go.Proofs.Ytmcfihpbiilbcaa.H
open Go.RowKit Go.Proofs.YtmcfihpbiilbcaaW.PrintWords Go.Proofs.YtmcfihpbiilbcaaW.PrintLast Go.Proofs.YtmcfihpbiilbcaaW.PrintMore Go.Proofs.Ytmcfihpbiilbcaa.E
set_option linter.unusedVariables false
set_option linter.unusedSimpArgs false
theorem toList_iff (x y : ByteArray) : x.toList = y.toList ↔ x = y := by
  rw [← Lib.bytes_beq_iff]
  exact beq_iff_eq.symm
instance : DecidableEq S153 := fun x y => decidable_of_iff (x.f0 = y.f0 ∧ x.f1 = y.f1 ∧ x.f2 = y.f2 ∧ x.f3 = y.f3) ⟨fun ⟨a, b, c, d⟩ => by cases x; cases y; simp_all, fun h => by rw [h]; exact ⟨rfl, rfl, rfl, rfl⟩⟩
instance : DecidableEq S124 := fun x y => decidable_of_iff (x.f0 = y.f0 ∧ x.f1 = y.f1 ∧ x.f2 = y.f2 ∧ x.f3 = y.f3) ⟨fun ⟨a, b, c, d⟩ => by cases x; cases y; simp_all, fun h => by rw [h]; exact ⟨rfl, rfl, rfl, rfl⟩⟩
instance : DecidableEq S122 := fun x y => decidable_of_iff (x.f0 = y.f0 ∧ x.f1 = y.f1) ⟨fun ⟨a, b⟩ => by cases x; cases y; simp_all, fun h => by rw [h]; exact ⟨rfl, rfl⟩⟩
instance : DecidableEq S102 := fun x y => decidable_of_iff (x.f0 = y.f0 ∧ x.f1 = y.f1 ∧ x.f2 = y.f2 ∧ x.f3 = y.f3 ∧ x.f4 = y.f4 ∧ x.f5 = y.f5 ∧ x.f6 = y.f6) ⟨fun ⟨a, b, c, d, e, f, g⟩ => by cases x; cases y; simp_all, fun h => by rw [h]; exact ⟨rfl, rfl, rfl, rfl, rfl, rfl, rfl⟩⟩
theorem rel_ne {x y : S153} (h : ¬ x = y) : (!(x.f0 == y.f0) || (!(x.f1 == y.f1) || (!(x.f2.toList == y.f2.toList) || (!(x.f3 == y.f3))))) = true := by
  apply Classical.byContradiction
  intro hn
  apply h
  simp only [Bool.or_eq_true, Bool.not_eq_true', beq_eq_false_iff_ne, ne_eq, not_or, Classical.not_not] at hn
  obtain ⟨a, b, c, d⟩ := hn
  have c' := (toList_iff _ _).1 c
  cases x; cases y; simp_all
theorem eqU32_from (a b : List Int) (hlen : a.length = b.length) (hL : a.length ≤ 4611686018427387904) : ∀ (d : Nat) (k : Nat) (i : Int), 0 ≤ i → i ≤ a.length → (a.length : Int) - i = d → d < k →
    slices_Equal_uint32_uint32.l0 k a b (a.length : Int) i = some (decide (a.drop i.toNat = b.drop i.toNat)) := by
  intro d
  induction d with
  | zero =>
    intro k i h0 h1 hd hk
    obtain ⟨k, rfl⟩ : ∃ m, k = m + 1 := ⟨k - 1, by omega⟩
    simp only [slices_Equal_uint32_uint32.l0]
    rw [if_neg (by omega), List.drop_eq_nil_of_le (by omega), List.drop_eq_nil_of_le (by omega)]
    simp
  | succ d ih =>
    intro k i h0 h1 hd hk
    obtain ⟨k, rfl⟩ : ∃ m, k = m + 1 := ⟨k - 1, by omega⟩
    simp only [slices_Equal_uint32_uint32.l0]
    have ha : i.toNat < a.length := by omega
    have hb : i.toNat < b.length := by omega
    rw [if_pos (by omega), if_pos h0, if_pos (by omega), if_pos (by omega), List.drop_eq_getElem_cons ha, List.drop_eq_getElem_cons hb]
    have ra : rd a i = a[i.toNat] := by unfold rd; rw [List.getD_eq_getElem?_getD, List.getElem?_eq_getElem ha]; rfl
    have rb : rd b i = b[i.toNat] := by unfold rd; rw [List.getD_eq_getElem?_getD, List.getElem?_eq_getElem hb]; rfl
    rw [ra, rb]
    by_cases e : a[i.toNat] = b[i.toNat]
    · rw [if_pos e, wrap64_id (by omega) (by omega), ih k (i + 1) (by omega) (by omega) (by omega) (by omega), show (i + 1).toNat = i.toNat + 1 by omega, e]
      simp only [List.cons.injEq, true_and]
    · rw [if_neg e, decide_eq_false (fun h => e (List.cons.inj h).1)]
theorem eqU32 (a b : List Int) (hL : a.length ≤ 4611686018427387904) (k : Nat) (hk : a.length < k) : slices_Equal_uint32_uint32.f k a b = some (decide (a = b)) := by
  unfold slices_Equal_uint32_uint32.f
  by_cases h : a.length = b.length
  · rw [if_pos (by omega), eqU32_from a b h hL a.length k 0 (by omega) (by omega) (by omega) (by omega)]
    simp
  · rw [if_neg (by omega), decide_eq_false (fun e => h (by rw [e]))]
theorem eqU8_from (a b : List Int) (hlen : a.length = b.length) (hL : a.length ≤ 4611686018427387904) : ∀ (d : Nat) (k : Nat) (i : Int), 0 ≤ i → i ≤ a.length → (a.length : Int) - i = d → d < k →
    slices_Equal_byte_byte.l0 k a b (a.length : Int) i = some (decide (a.drop i.toNat = b.drop i.toNat)) := by
  intro d
  induction d with
  | zero =>
    intro k i h0 h1 hd hk
    obtain ⟨k, rfl⟩ : ∃ m, k = m + 1 := ⟨k - 1, by omega⟩
    simp only [slices_Equal_byte_byte.l0]
    rw [if_neg (by omega), List.drop_eq_nil_of_le (by omega), List.drop_eq_nil_of_le (by omega)]
    simp
  | succ d ih =>
    intro k i h0 h1 hd hk
    obtain ⟨k, rfl⟩ : ∃ m, k = m + 1 := ⟨k - 1, by omega⟩
    simp only [slices_Equal_byte_byte.l0]
    have ha : i.toNat < a.length := by omega
    have hb : i.toNat < b.length := by omega
    rw [if_pos (by omega), if_pos h0, if_pos (by omega), if_pos (by omega), List.drop_eq_getElem_cons ha, List.drop_eq_getElem_cons hb]
    have ra : rd a i = a[i.toNat] := by unfold rd; rw [List.getD_eq_getElem?_getD, List.getElem?_eq_getElem ha]; rfl
    have rb : rd b i = b[i.toNat] := by unfold rd; rw [List.getD_eq_getElem?_getD, List.getElem?_eq_getElem hb]; rfl
    rw [ra, rb]
    by_cases e : a[i.toNat] = b[i.toNat]
    · rw [if_pos e, wrap64_id (by omega) (by omega), ih k (i + 1) (by omega) (by omega) (by omega) (by omega), show (i + 1).toNat = i.toNat + 1 by omega, e]
      simp only [List.cons.injEq, true_and]
    · rw [if_neg e, decide_eq_false (fun h => e (List.cons.inj h).1)]
theorem eqU8 (a b : List Int) (hL : a.length ≤ 4611686018427387904) (k : Nat) (hk : a.length < k) : slices_Equal_byte_byte.f k a b = some (decide (a = b)) := by
  unfold slices_Equal_byte_byte.f
  by_cases h : a.length = b.length
  · rw [if_pos (by omega), eqU8_from a b h hL a.length k 0 (by omega) (by omega) (by omega) (by omega)]
    simp
  · rw [if_neg (by omega), decide_eq_false (fun e => h (by rw [e]))]
theorem eqRel_from (a b : List S153) (hlen : a.length = b.length) (hL : a.length ≤ 4611686018427387904) : ∀ (d : Nat) (k : Nat) (i : Int), 0 ≤ i → i ≤ a.length → (a.length : Int) - i = d → d < k →
    api_Rel.l0 k a b (a.length : Int) i = some (decide (a.drop i.toNat = b.drop i.toNat)) := by
  intro d
  induction d with
  | zero =>
    intro k i h0 h1 hd hk
    obtain ⟨k, rfl⟩ : ∃ m, k = m + 1 := ⟨k - 1, by omega⟩
    simp only [api_Rel.l0]
    rw [if_neg (by omega), List.drop_eq_nil_of_le (by omega), List.drop_eq_nil_of_le (by omega)]
    simp
  | succ d ih =>
    intro k i h0 h1 hd hk
    obtain ⟨k, rfl⟩ : ∃ m, k = m + 1 := ⟨k - 1, by omega⟩
    simp only [api_Rel.l0]
    have ha : i.toNat < a.length := by omega
    have hb : i.toNat < b.length := by omega
    rw [if_pos (by omega), if_pos h0, if_pos (by omega), if_pos (by omega), List.drop_eq_getElem_cons ha, List.drop_eq_getElem_cons hb]
    have ra : rd_T153 a i = a[i.toNat] := by unfold rd_T153; rw [List.getD_eq_getElem?_getD, List.getElem?_eq_getElem ha]; rfl
    have rb : rd_T153 b i = b[i.toNat] := by unfold rd_T153; rw [List.getD_eq_getElem?_getD, List.getElem?_eq_getElem hb]; rfl
    rw [ra, rb]
    by_cases e : a[i.toNat] = b[i.toNat]
    · rw [if_neg (by rw [e]; simp), wrap64_id (by omega) (by omega), ih k (i + 1) (by omega) (by omega) (by omega) (by omega), show (i + 1).toNat = i.toNat + 1 by omega, e]
      simp only [List.cons.injEq, true_and]
    · rw [if_pos (rel_ne e), decide_eq_false (fun h => e (List.cons.inj h).1)]
theorem eqRel (a b : List S153) (hL : a.length ≤ 4611686018427387904) (k : Nat) (hk : a.length < k) : api_Rel.f k a b = some (decide (a = b)) := by
  unfold api_Rel.f
  by_cases h : a.length = b.length
  · rw [if_pos (by omega), eqRel_from a b h hL a.length k 0 (by omega) (by omega) (by omega) (by omega)]
    simp
  · rw [if_neg (by omega), decide_eq_false (fun e => h (by rw [e]))]
theorem sameFunc_q (x y : S124) (k : Nat) (h1 : x.f2.length ≤ 1000000000) (h2 : x.f3.length ≤ 1000000000) (k1 : 1000000001 ≤ k) : object_sameFunc.f k x.f0 x.f1 x.f2 x.f3 y.f0 y.f1 y.f2 y.f3 = some (decide (x = y)) := by
  unfold object_sameFunc.f
  rw [eqU32 _ _ (by omega) k (by omega), eqRel _ _ (by omega) k (by omega)]
  have key : (x = y) ↔ (x.f0 = y.f0 ∧ x.f1 = y.f1 ∧ x.f2 = y.f2 ∧ x.f3 = y.f3) := ⟨fun h => by rw [h]; exact ⟨rfl, rfl, rfl, rfl⟩, fun ⟨a, b, c, d⟩ => by cases x; cases y; simp_all⟩
  simp only [key, toList_iff]
  by_cases a : x.f0 = y.f0
  · by_cases b : x.f1 = y.f1
    · by_cases c : x.f2 = y.f2 <;> simp [a, b, c]
    · simp [a, b]
  · simp [a]
theorem sameData_q (x y : S102) (k : Nat) (h1 : x.f5.length ≤ 1000000000) (h2 : x.f6.length ≤ 1000000000) (k1 : 1000000001 ≤ k) : object_sameData.f k x.f0 x.f1 x.f2 x.f3 x.f4 x.f5 x.f6 y.f0 y.f1 y.f2 y.f3 y.f4 y.f5 y.f6 = some (decide (x = y)) := by
  unfold object_sameData.f
  rw [eqU8 _ _ (by omega) k (by omega), eqRel _ _ (by omega) k (by omega)]
  have key : (x = y) ↔ (x.f0 = y.f0 ∧ x.f1 = y.f1 ∧ x.f2 = y.f2 ∧ x.f3 = y.f3 ∧ x.f4 = y.f4 ∧ x.f5 = y.f5 ∧ x.f6 = y.f6) := ⟨fun h => by rw [h]; exact ⟨rfl, rfl, rfl, rfl, rfl, rfl, rfl⟩, fun ⟨a, b, c, d, e, f, g⟩ => by cases x; cases y; simp_all⟩
  simp only [key, toList_iff]
  by_cases a : x.f0 = y.f0
  · by_cases b : x.f1 = y.f1
    · by_cases c : x.f2 = y.f2
      · by_cases d : x.f3 = y.f3
        · by_cases e : x.f4 = y.f4
          · by_cases f : x.f5 = y.f5 <;> simp [a, b, c, d, e, f]
          · simp [a, b, c, d, e]
        · simp [a, b, c, d]
      · simp [a, b, c]
    · simp [a, b]
  · simp [a]
theorem take_eq_step {α : Type} {l m : List α} {k : Nat} (hl : k < l.length) (hm : k < m.length) (h : l.take k = m.take k) (he : l[k] = m[k]) : l.take (k + 1) = m.take (k + 1) := by
  rw [List.take_add_one, List.take_add_one, List.getElem?_eq_getElem hl, List.getElem?_eq_getElem hm, h, he]
theorem at_ne {α : Type} {l m : List α} {k : Nat} (hl : k < l.length) (hm : k < m.length) (he : ¬ l[k] = m[k]) : ¬ l = m := by
  intro h
  subst h
  exact he rfl
set_option maxRecDepth 100000 in
set_option maxHeartbeats 2000000 in
theorem eqf123_c (X Y : Option Addr) (cX cY : Nat) (l m : List S124) (w : World) (hX : Kd.C k124 w X l.length l) (hcX : l.length ≤ cX) (hY : Kd.C k124 w Y m.length m) (hcY : m.length ≤ cY) (hl : l.length ≤ 1000000) (hb : ∀ x ∈ l, x.f2.length ≤ 1000000000 ∧ x.f3.length ≤ 1000000000) :
    Calls Try.prog 123 #[.slice X l.length cX, .slice Y m.length cY, .func (.func 124) #[] #[]] w fun e w' => e = .returned (.bool (decide (l = m))) ∧ Below w.heap.size w w' := by
  have HX := hid hX
  have HY := hid hY
  have HB := hid hb
  clear hX hY hb
  by_cases hlen : (l.length : Int) = (m.length : Int)
  rotate_left
  · rw [decide_eq_false (fun h => hlen (by rw [h]))]
    go_enter Try.func123, Try.ntmps123
    go_wp2
    go_ret
    exact ⟨rfl, Below.refl _ _⟩
  go_enter Try.func123, Try.ntmps123
  go_wp2
  go_loopw [7, 8, 9, 17] (fun _ _ _ s17 wx => ∃ (k : Nat), k ≤ l.length ∧ s17 = .int .i64 k ∧ Hid (l.take k = m.take k ∧ Below w.heap.size w wx)) (fun _ _ _ s17 _ => l.length - (intOf s17).toNat)
  case atStart => exact ⟨0, by omega, rfl, hid ⟨by rw [List.take_zero, List.take_zero], Below.refl _ _⟩⟩
  case round =>
    obtain ⟨k, hk, rfl, hI⟩ := hrel
    by_cases hlt : (k : Int) < (l.length : Int)
    · have hk1 : k < l.length := by omega
      have hk2 : k < m.length := by omega
      have hltm : (k : Int) < (m.length : Int) := by omega
      obtain ⟨ad, A2, c2, A3, c3, rfl, q0, q1, q2, q3, l2, g2, l3, g3⟩ := at_T124 (Kd.C_below HX.out hI.out.2) (k : Int) (by omega) (by omega)
      obtain ⟨bd, B2, d2, B3, d3, rfl, p0, p1, p2, p3, m2, n2, m3, n3⟩ := at_T124 (Kd.C_below HY.out hI.out.2) (k : Int) (by omega) (by omega)
      have rx : rd_T124 l (k : Int) = l[k] := by unfold rd_T124; rw [Int.toNat_natCast, List.getD_eq_getElem?_getD, List.getElem?_eq_getElem hk1]; rfl
      have ry : rd_T124 m (k : Int) = m[k] := by unfold rd_T124; rw [Int.toNat_natCast, List.getD_eq_getElem?_getD, List.getElem?_eq_getElem hk2]; rfl
      have e3 : IntKind.i64.wrap ((k : Int) + 1) = (k : Int) + 1 := IntWalk.i64_in _ (by omega)
      have hst := take_eq_step hk1 hk2 hI.out.1
      have hno := at_ne hk1 hk2
      have hbx := HB.out _ (List.getElem_mem hk1)
      generalize rd_T124 l (k : Int) = x at *
      generalize rd_T124 m (k : Int) = y at *
      rw [← rx] at hst hno hbx
      rw [← ry] at hst hno
      simp only [Int.toNat_natCast] at q0 q1 q2 q3 p0 p1 p2 p3
      have HS := hid (And.intro hst (And.intro hno hbx))
      have HG := hid (And.intro g2 (And.intro g3 (And.intro n2 n3)))
      have ap0 := ((below_alloc (Below.refl wr.heap.size wr) (.cells #[.string x.f0, .int .i64 x.f1, .slice A2 x.f2.length c2, .slice A3 x.f3.length c3] 124)).cell (World.block_lt_of_cell? _ _ p0)).trans p0
      have ap1 := ((below_alloc (Below.refl wr.heap.size wr) (.cells #[.string x.f0, .int .i64 x.f1, .slice A2 x.f2.length c2, .slice A3 x.f3.length c3] 124)).cell (World.block_lt_of_cell? _ _ p1)).trans p1
      have ap2 := ((below_alloc (Below.refl wr.heap.size wr) (.cells #[.string x.f0, .int .i64 x.f1, .slice A2 x.f2.length c2, .slice A3 x.f3.length c3] 124)).cell (World.block_lt_of_cell? _ _ p2)).trans p2
      have ap3 := ((below_alloc (Below.refl wr.heap.size wr) (.cells #[.string x.f0, .int .i64 x.f1, .slice A2 x.f2.length c2, .slice A3 x.f3.length c3] 124)).cell (World.block_lt_of_cell? _ _ p3)).trans p3
      obtain ⟨W1, hW1⟩ : ∃ W, W = (wr.alloc (.cells #[.string x.f0, .int .i64 x.f1, .slice A2 x.f2.length c2, .slice A3 x.f3.length c3] 124)).alloc (.cells #[.string y.f0, .int .i64 y.f1, .slice B2 y.f2.length d2, .slice B3 y.f3.length d3] 124) := ⟨_, rfl⟩
      have hB1 := below_alloc (below_alloc (Below.refl wr.heap.size wr) (.cells #[.string x.f0, .int .i64 x.f1, .slice A2 x.f2.length c2, .slice A3 x.f3.length c3] 124)) (.cells #[.string y.f0, .int .i64 y.f1, .slice B2 y.f2.length d2, .slice B3 y.f3.length d3] 124)
      rw [← hW1] at hB1
      have HW := hid hW1
      have HB1 := hid hB1
      clear hst hno hbx g2 g3 n2 n3 rx ry hW1 hB1
      go_wp2_with fail
      try rw [← HW.out]
      refine (object_sameFunc.calls 1000000001 x.f0 x.f1 A2 c2 x.f2 A3 c3 x.f3 y.f0 y.f1 B2 d2 y.f2 B3 d3 y.f3 (decide (x = y)) _ (Kd.C_below HG.out.1 HB1.out) l2 (Kd.C_below HG.out.2.1 HB1.out) l3 (Kd.C_below HG.out.2.2.1 HB1.out) m2 (Kd.C_below HG.out.2.2.2 HB1.out) m3 (sameFunc_q x y 1000000001 HS.out.2.2.1 HS.out.2.2.2 (by omega))).mono ?_
      rintro e w2 ⟨rfl, hd⟩
      have H2 := hid (below_step hI.out.2 (below_step HB1.out hd))
      clear hd
      by_cases hxy : x = y
      · rw [decide_eq_true hxy]
        have hst := HS.out.1 hxy
        have HST := hid hst
        clear hst hxy
        go_wp2
        go_roundw
        case rel => exact ⟨k + 1, by omega, by go_num, hid ⟨HST.out, H2.out⟩⟩
        case measure => simp [intOf]; omega
      · rw [decide_eq_false hxy]
        have hne := HS.out.2.1 hxy
        have HNE := hid hne
        clear hne hxy
        go_wp2
        go_ret
        exact ⟨by rw [decide_eq_false HNE.out] <;> rfl, H2.out⟩
    · have hkl : k = l.length := by omega
      have heq : l = m := by
        have h := hI.out.1
        rw [List.take_of_length_le (by omega), List.take_of_length_le (by omega)] at h
        exact h
      have HE := hid heq
      clear heq
      go_wp2
      go_ret
      exact ⟨by rw [decide_eq_true HE.out] <;> rfl, hI.out.2⟩
set_option maxRecDepth 100000 in
set_option maxHeartbeats 2000000 in
theorem eqf125_c (X Y : Option Addr) (cX cY : Nat) (l m : List S102) (w : World) (hX : Kd.C k102 w X l.length l) (hcX : l.length ≤ cX) (hY : Kd.C k102 w Y m.length m) (hcY : m.length ≤ cY) (hl : l.length ≤ 1000000) (hb : ∀ x ∈ l, x.f5.length ≤ 1000000000 ∧ x.f6.length ≤ 1000000000) :
    Calls Try.prog 125 #[.slice X l.length cX, .slice Y m.length cY, .func (.func 126) #[] #[]] w fun e w' => e = .returned (.bool (decide (l = m))) ∧ Below w.heap.size w w' := by
  have HX := hid hX
  have HY := hid hY
  have HB := hid hb
  clear hX hY hb
  by_cases hlen : (l.length : Int) = (m.length : Int)
  rotate_left
  · rw [decide_eq_false (fun h => hlen (by rw [h]))]
    go_enter Try.func125, Try.ntmps125
    go_wp2
    go_ret
    exact ⟨rfl, Below.refl _ _⟩
  go_enter Try.func125, Try.ntmps125
  go_wp2
  go_loopw [7, 8, 9, 17] (fun _ _ _ s17 wx => ∃ (k : Nat), k ≤ l.length ∧ s17 = .int .i64 k ∧ Hid (l.take k = m.take k ∧ Below w.heap.size w wx)) (fun _ _ _ s17 _ => l.length - (intOf s17).toNat)
  case atStart => exact ⟨0, by omega, rfl, hid ⟨by rw [List.take_zero, List.take_zero], Below.refl _ _⟩⟩
  case round =>
    obtain ⟨k, hk, rfl, hI⟩ := hrel
    by_cases hlt : (k : Int) < (l.length : Int)
    · have hk1 : k < l.length := by omega
      have hk2 : k < m.length := by omega
      have hltm : (k : Int) < (m.length : Int) := by omega
      obtain ⟨ad, A5, c5, A6, c6, rfl, q0, q1, q2, q3, q4, q5, q6, l2, g2, l3, g3⟩ := at_T102 (Kd.C_below HX.out hI.out.2) (k : Int) (by omega) (by omega)
      obtain ⟨bd, B5, d5, B6, d6, rfl, p0, p1, p2, p3, p4, p5, p6, m2, n2, m3, n3⟩ := at_T102 (Kd.C_below HY.out hI.out.2) (k : Int) (by omega) (by omega)
      have rx : rd_T102 l (k : Int) = l[k] := by unfold rd_T102; rw [Int.toNat_natCast, List.getD_eq_getElem?_getD, List.getElem?_eq_getElem hk1]; rfl
      have ry : rd_T102 m (k : Int) = m[k] := by unfold rd_T102; rw [Int.toNat_natCast, List.getD_eq_getElem?_getD, List.getElem?_eq_getElem hk2]; rfl
      have e3 : IntKind.i64.wrap ((k : Int) + 1) = (k : Int) + 1 := IntWalk.i64_in _ (by omega)
      have hst := take_eq_step hk1 hk2 hI.out.1
      have hno := at_ne hk1 hk2
      have hbx := HB.out _ (List.getElem_mem hk1)
      generalize rd_T102 l (k : Int) = x at *
      generalize rd_T102 m (k : Int) = y at *
      rw [← rx] at hst hno hbx
      rw [← ry] at hst hno
      simp only [Int.toNat_natCast] at q0 q1 q2 q3 q4 q5 q6 p0 p1 p2 p3 p4 p5 p6
      have HS := hid (And.intro hst (And.intro hno hbx))
      have HG := hid (And.intro g2 (And.intro g3 (And.intro n2 n3)))
      have ap0 := ((below_alloc (Below.refl wr.heap.size wr) (.cells #[.string x.f0, .int .i64 x.f1, .int .i64 x.f2, .bool x.f3, .int .i64 x.f4, .slice A5 x.f5.length c5, .slice A6 x.f6.length c6] 102)).cell (World.block_lt_of_cell? _ _ p0)).trans p0
      have ap1 := ((below_alloc (Below.refl wr.heap.size wr) (.cells #[.string x.f0, .int .i64 x.f1, .int .i64 x.f2, .bool x.f3, .int .i64 x.f4, .slice A5 x.f5.length c5, .slice A6 x.f6.length c6] 102)).cell (World.block_lt_of_cell? _ _ p1)).trans p1
      have ap2 := ((below_alloc (Below.refl wr.heap.size wr) (.cells #[.string x.f0, .int .i64 x.f1, .int .i64 x.f2, .bool x.f3, .int .i64 x.f4, .slice A5 x.f5.length c5, .slice A6 x.f6.length c6] 102)).cell (World.block_lt_of_cell? _ _ p2)).trans p2
      have ap3 := ((below_alloc (Below.refl wr.heap.size wr) (.cells #[.string x.f0, .int .i64 x.f1, .int .i64 x.f2, .bool x.f3, .int .i64 x.f4, .slice A5 x.f5.length c5, .slice A6 x.f6.length c6] 102)).cell (World.block_lt_of_cell? _ _ p3)).trans p3
      have ap4 := ((below_alloc (Below.refl wr.heap.size wr) (.cells #[.string x.f0, .int .i64 x.f1, .int .i64 x.f2, .bool x.f3, .int .i64 x.f4, .slice A5 x.f5.length c5, .slice A6 x.f6.length c6] 102)).cell (World.block_lt_of_cell? _ _ p4)).trans p4
      have ap5 := ((below_alloc (Below.refl wr.heap.size wr) (.cells #[.string x.f0, .int .i64 x.f1, .int .i64 x.f2, .bool x.f3, .int .i64 x.f4, .slice A5 x.f5.length c5, .slice A6 x.f6.length c6] 102)).cell (World.block_lt_of_cell? _ _ p5)).trans p5
      have ap6 := ((below_alloc (Below.refl wr.heap.size wr) (.cells #[.string x.f0, .int .i64 x.f1, .int .i64 x.f2, .bool x.f3, .int .i64 x.f4, .slice A5 x.f5.length c5, .slice A6 x.f6.length c6] 102)).cell (World.block_lt_of_cell? _ _ p6)).trans p6
      obtain ⟨W1, hW1⟩ : ∃ W, W = (wr.alloc (.cells #[.string x.f0, .int .i64 x.f1, .int .i64 x.f2, .bool x.f3, .int .i64 x.f4, .slice A5 x.f5.length c5, .slice A6 x.f6.length c6] 102)).alloc (.cells #[.string y.f0, .int .i64 y.f1, .int .i64 y.f2, .bool y.f3, .int .i64 y.f4, .slice B5 y.f5.length d5, .slice B6 y.f6.length d6] 102) := ⟨_, rfl⟩
      have hB1 := below_alloc (below_alloc (Below.refl wr.heap.size wr) (.cells #[.string x.f0, .int .i64 x.f1, .int .i64 x.f2, .bool x.f3, .int .i64 x.f4, .slice A5 x.f5.length c5, .slice A6 x.f6.length c6] 102)) (.cells #[.string y.f0, .int .i64 y.f1, .int .i64 y.f2, .bool y.f3, .int .i64 y.f4, .slice B5 y.f5.length d5, .slice B6 y.f6.length d6] 102)
      rw [← hW1] at hB1
      have HW := hid hW1
      have HB1 := hid hB1
      clear hst hno hbx g2 g3 n2 n3 rx ry hW1 hB1
      go_wp2_with fail
      try rw [← HW.out]
      refine (object_sameData.calls 1000000001 x.f0 x.f1 x.f2 x.f3 x.f4 A5 c5 x.f5 A6 c6 x.f6 y.f0 y.f1 y.f2 y.f3 y.f4 B5 d5 y.f5 B6 d6 y.f6 (decide (x = y)) _ (Kd.C_below HG.out.1 HB1.out) l2 (Kd.C_below HG.out.2.1 HB1.out) l3 (Kd.C_below HG.out.2.2.1 HB1.out) m2 (Kd.C_below HG.out.2.2.2 HB1.out) m3 (sameData_q x y 1000000001 HS.out.2.2.1 HS.out.2.2.2 (by omega))).mono ?_
      rintro e w2 ⟨rfl, hd⟩
      have H2 := hid (below_step hI.out.2 (below_step HB1.out hd))
      clear hd
      by_cases hxy : x = y
      · rw [decide_eq_true hxy]
        have hst := HS.out.1 hxy
        have HST := hid hst
        clear hst hxy
        go_wp2
        go_roundw
        case rel => exact ⟨k + 1, by omega, by go_num, hid ⟨HST.out, H2.out⟩⟩
        case measure => simp [intOf]; omega
      · rw [decide_eq_false hxy]
        have hne := HS.out.2.1 hxy
        have HNE := hid hne
        clear hne hxy
        go_wp2
        go_ret
        exact ⟨by rw [decide_eq_false HNE.out] <;> rfl, H2.out⟩
    · have hkl : k = l.length := by omega
      have heq : l = m := by
        have h := hI.out.1
        rw [List.take_of_length_le (by omega), List.take_of_length_le (by omega)] at h
        exact h
      have HE := hid heq
      clear heq
      go_wp2
      go_ret
      exact ⟨by rw [decide_eq_true HE.out] <;> rfl, hI.out.2⟩
end Go.Proofs.Ytmcfihpbiilbcaa.H
end
section
namespace Go.Proofs.Ytmcfihpbiilbcaa.H
open Go.RowKit Go.Proofs.YtmcfihpbiilbcaaW.PrintWords Go.Proofs.YtmcfihpbiilbcaaW.PrintLast Go.Proofs.YtmcfihpbiilbcaaW.PrintMore Go.Proofs.Ytmcfihpbiilbcaa.E
set_option linter.unusedVariables false
set_option linter.unusedSimpArgs false
theorem note_ne {x y : S122} (h : ¬ x = y) : (!(x.f0.toList == y.f0.toList) || !(x.f1 == y.f1)) = true := by
  apply Classical.byContradiction
  intro hn
  apply h
  simp only [Bool.or_eq_true, Bool.not_eq_true', beq_eq_false_iff_ne, ne_eq, not_or, Classical.not_not] at hn
  have c' := (toList_iff _ _).1 hn.1
  have d := hn.2
  cases x; cases y; simp_all
theorem eqNote_from (a b : List S122) (hlen : a.length = b.length) (hL : a.length ≤ 4611686018427387904) : ∀ (d : Nat) (k : Nat) (i : Int), 0 ≤ i → i ≤ a.length → (a.length : Int) - i = d → d < k →
    api_Note.l0 k a b (a.length : Int) i = some (decide (a.drop i.toNat = b.drop i.toNat)) := by
  intro d
  induction d with
  | zero =>
    intro k i h0 h1 hd hk
    obtain ⟨k, rfl⟩ : ∃ m, k = m + 1 := ⟨k - 1, by omega⟩
    simp only [api_Note.l0]
    rw [if_neg (by omega), List.drop_eq_nil_of_le (by omega), List.drop_eq_nil_of_le (by omega)]
    simp
  | succ d ih =>
    intro k i h0 h1 hd hk
    obtain ⟨k, rfl⟩ : ∃ m, k = m + 1 := ⟨k - 1, by omega⟩
    simp only [api_Note.l0]
    have ha : i.toNat < a.length := by omega
    have hb : i.toNat < b.length := by omega
    rw [if_pos (by omega), if_pos h0, if_pos (by omega), if_pos (by omega), List.drop_eq_getElem_cons ha, List.drop_eq_getElem_cons hb]
    have ra : rd_T122 a i = a[i.toNat] := by unfold rd_T122; rw [List.getD_eq_getElem?_getD, List.getElem?_eq_getElem ha]; rfl
    have rb : rd_T122 b i = b[i.toNat] := by unfold rd_T122; rw [List.getD_eq_getElem?_getD, List.getElem?_eq_getElem hb]; rfl
    rw [ra, rb]
    by_cases e : a[i.toNat] = b[i.toNat]
    · rw [if_neg (by rw [e]; simp), wrap64_id (by omega) (by omega), ih k (i + 1) (by omega) (by omega) (by omega) (by omega), show (i + 1).toNat = i.toNat + 1 by omega, e]
      simp only [List.cons.injEq, true_and]
    · rw [if_pos (note_ne e), decide_eq_false (fun h => e (List.cons.inj h).1)]
theorem eqNote (a b : List S122) (hL : a.length ≤ 4611686018427387904) (k : Nat) (hk : a.length < k) : api_Note.f k a b = some (decide (a = b)) := by
  unfold api_Note.f
  by_cases h : a.length = b.length
  · rw [if_pos (by omega), eqNote_from a b h hL a.length k 0 (by omega) (by omega) (by omega) (by omega)]
    simp
  · rw [if_neg (by omega), decide_eq_false (fun e => h (by rw [e]))]
theorem eqRels_from (a b : List S153) (hlen : a.length = b.length) (hL : a.length ≤ 4611686018427387904) : ∀ (d : Nat) (k : Nat) (i : Int), 0 ≤ i → i ≤ a.length → (a.length : Int) - i = d → d < k →
    spliceref09_sameRels.l0 k a b i = some (decide (a.drop i.toNat = b.drop i.toNat)) := by
  intro d
  induction d with
  | zero =>
    intro k i h0 h1 hd hk
    obtain ⟨k, rfl⟩ : ∃ m, k = m + 1 := ⟨k - 1, by omega⟩
    simp only [spliceref09_sameRels.l0]
    rw [if_neg (by omega), List.drop_eq_nil_of_le (by omega), List.drop_eq_nil_of_le (by omega)]
    simp
  | succ d ih =>
    intro k i h0 h1 hd hk
    obtain ⟨k, rfl⟩ : ∃ m, k = m + 1 := ⟨k - 1, by omega⟩
    simp only [spliceref09_sameRels.l0]
    have ha : i.toNat < a.length := by omega
    have hb : i.toNat < b.length := by omega
    rw [if_pos (by omega), if_pos h0, if_pos (by omega), List.drop_eq_getElem_cons ha, List.drop_eq_getElem_cons hb]
    have ra : rd_T153 a i = a[i.toNat] := by unfold rd_T153; rw [List.getD_eq_getElem?_getD, List.getElem?_eq_getElem ha]; rfl
    have rb : rd_T153 b i = b[i.toNat] := by unfold rd_T153; rw [List.getD_eq_getElem?_getD, List.getElem?_eq_getElem hb]; rfl
    rw [ra, rb]
    by_cases e : a[i.toNat] = b[i.toNat]
    · rw [if_neg (by rw [e]; simp), wrap64_id (by omega) (by omega), ih k (i + 1) (by omega) (by omega) (by omega) (by omega), show (i + 1).toNat = i.toNat + 1 by omega, e]
      simp only [List.cons.injEq, true_and]
    · rw [if_pos (rel_ne e), decide_eq_false (fun h => e (List.cons.inj h).1)]
theorem eqRels (a b : List S153) (hL : a.length ≤ 4611686018427387904) (k : Nat) (hk : a.length < k) : spliceref09_sameRels.f k a b = some (decide (a = b)) := by
  unfold spliceref09_sameRels.f
  by_cases h : a.length = b.length
  · rw [if_pos (by omega), eqRels_from a b h hL a.length k 0 (by omega) (by omega) (by omega) (by omega)]
    simp
  · rw [if_neg (by omega), decide_eq_false (fun e => h (by rw [e]))]
structure CO (w : World) (A0 A1 A2 : Option Addr) (c0 c1 c2 : Nat) (F : List S124) (D : List S102) (N : List S122) : Prop where
  f : Kd.C k124 w A0 F.length F
  d : Kd.C k102 w A1 D.length D
  n : Kd.C k122 w A2 N.length N
  lf : F.length ≤ c0
  ld : D.length ≤ c1
  ln : N.length ≤ c2
theorem CO.below {w w' : World} {A0 A1 A2 : Option Addr} {c0 c1 c2 : Nat} {F : List S124} {D : List S102} {N : List S122} (h : CO w A0 A1 A2 c0 c1 c2 F D N) (hb : Below w.heap.size w w') : CO w' A0 A1 A2 c0 c1 c2 F D N :=
  ⟨Kd.C_below h.f hb, Kd.C_below h.d hb, Kd.C_below h.n hb, h.lf, h.ld, h.ln⟩
structure OB (F : List S124) (D : List S102) (N : List S122) : Prop where
  f : F.length ≤ 1000000
  d : D.length ≤ 1000000
  n : N.length ≤ 1000000
  fs : ∀ x ∈ F, x.f2.length ≤ 1000000000 ∧ x.f3.length ≤ 1000000000
  ds : ∀ x ∈ D, x.f5.length ≤ 1000000000 ∧ x.f6.length ≤ 1000000000
set_option maxRecDepth 100000 in
set_option maxHeartbeats 2000000 in
theorem objSame_c (A0 A1 A2 B0 B1 B2 : Option Addr) (c0 c1 c2 d0 d1 d2 : Nat) (F F' : List S124) (D D' : List S102) (N N' : List S122) (w : World) (hA : CO w A0 A1 A2 c0 c1 c2 F D N) (hB : CO w B0 B1 B2 d0 d1 d2 F' D' N') (ho : OB F D N) :
    Calls Try.prog 76 #[.agg #[.slice A0 F.length c0, .slice A1 D.length c1, .slice A2 N.length c2], .agg #[.slice B0 F'.length d0, .slice B1 D'.length d1, .slice B2 N'.length d2]] w fun e w' => e = .returned (.bool (decide (F = F' ∧ D = D' ∧ N = N'))) ∧ Below w.heap.size w w' := by
  obtain ⟨W2, hW2⟩ : ∃ W, W = (w.alloc (.cells #[.slice A0 F.length c0, .slice A1 D.length c1, .slice A2 N.length c2] 91)).alloc (.cells #[.slice B0 F'.length d0, .slice B1 D'.length d1, .slice B2 N'.length d2] 91) := ⟨_, rfl⟩
  have bx0 := blk_alloc (blk_new w (.cells #[.slice A0 F.length c0, .slice A1 D.length c1, .slice A2 N.length c2] 91)) (.cells #[.slice B0 F'.length d0, .slice B1 D'.length d1, .slice B2 N'.length d2] 91)
  have bx1 := blk_new_at (w.alloc (.cells #[.slice A0 F.length c0, .slice A1 D.length c1, .slice A2 N.length c2] 91)) (.cells #[.slice B0 F'.length d0, .slice B1 D'.length d1, .slice B2 N'.length d2] 91) (w.heap.size + 1) (by simp)
  have hb2 := below_alloc (below_alloc (Below.refl w.heap.size w) (.cells #[.slice A0 F.length c0, .slice A1 D.length c1, .slice A2 N.length c2] 91)) (.cells #[.slice B0 F'.length d0, .slice B1 D'.length d1, .slice B2 N'.length d2] 91)
  rw [← hW2] at bx0 bx1 hb2
  have HW := hid hW2
  have H0 := hid (And.intro hb2 (And.intro bx0 bx1))
  have HA := hid hA
  have HB := hid hB
  have HO := hid ho
  clear bx0 bx1 hb2 hW2 hA hB ho
  by_cases hF : F = F'
  rotate_left
  · have HF := hid hF
    have hdf : decide (F = F') = false := decide_eq_false hF
    rw [decide_eq_false (fun h => hF h.1)]
    clear hF
    go_enter Try.func76, Try.ntmps76
    go_wp2_with fail
    rw [← HW.out]
    refine (eqf123_c A0 B0 c0 d0 F F' W2 (HA.out.below H0.out.1).f HA.out.lf (HB.out.below H0.out.1).f HB.out.lf HO.out.f HO.out.fs).mono ?_
    rintro e w1 ⟨rfl, hb⟩
    rw [hdf]
    have H1 := hid (below_step H0.out.1 hb)
    clear hb
    go_wp2
    go_ret
    exact ⟨rfl, H1.out⟩
  by_cases hD : D = D'
  rotate_left
  · have hdd : decide (D = D') = false := decide_eq_false hD
    have hdf : decide (F = F') = true := decide_eq_true hF
    rw [decide_eq_false (fun h => hD h.2.1)]
    have HF := hid hF
    clear hF hD
    go_enter Try.func76, Try.ntmps76
    go_wp2_with fail
    rw [← HW.out]
    refine (eqf123_c A0 B0 c0 d0 F F' W2 (HA.out.below H0.out.1).f HA.out.lf (HB.out.below H0.out.1).f HB.out.lf HO.out.f HO.out.fs).mono ?_
    rintro e w1 ⟨rfl, hb⟩
    rw [hdf]
    have H1 := hid (And.intro (below_step H0.out.1 hb) (And.intro (blk_below H0.out.2.1 hb) (blk_below H0.out.2.2 hb)))
    clear hb hdf
    have x0 : w1.cell? ⟨w.heap.size, 0, none⟩ = some (.slice A0 F.length c0) := blk_cell H1.out.2.1 0
    have y0 : w1.cell? ⟨w.heap.size + 1, 0, none⟩ = some (.slice B0 F'.length d0) := blk_cell H1.out.2.2 0
    have x1 : w1.cell? ⟨w.heap.size, 1, none⟩ = some (.slice A1 D.length c1) := blk_cell H1.out.2.1 1
    have y1 : w1.cell? ⟨w.heap.size + 1, 1, none⟩ = some (.slice B1 D'.length d1) := blk_cell H1.out.2.2 1
    have x2 : w1.cell? ⟨w.heap.size, 2, none⟩ = some (.slice A2 N.length c2) := blk_cell H1.out.2.1 2
    have y2 : w1.cell? ⟨w.heap.size + 1, 2, none⟩ = some (.slice B2 N'.length d2) := blk_cell H1.out.2.2 2
    go_wp2_with fail
    refine (eqf125_c A1 B1 c1 d1 D D' w1 (HA.out.below H1.out.1).d HA.out.ld (HB.out.below H1.out.1).d HB.out.ld HO.out.d HO.out.ds).mono ?_
    rintro e w2 ⟨rfl, hb⟩
    rw [hdd]
    have H2 := hid (below_step H1.out.1 hb)
    clear x0 x1 x2 y0 y1 y2
    clear hb hdd
    go_wp2
    go_ret
    exact ⟨rfl, H2.out⟩
  have hdd : decide (D = D') = true := decide_eq_true hD
  have hdf : decide (F = F') = true := decide_eq_true hF
  have hdn : decide (F = F' ∧ D = D' ∧ N = N') = decide (N = N') := by simp [hF, hD]
  rw [hdn]
  clear hF hD hdn
  have hNn := HO.out.n
  go_enter Try.func76, Try.ntmps76
  go_wp2_with fail
  rw [← HW.out]
  refine (eqf123_c A0 B0 c0 d0 F F' W2 (HA.out.below H0.out.1).f HA.out.lf (HB.out.below H0.out.1).f HB.out.lf HO.out.f HO.out.fs).mono ?_
  rintro e w1 ⟨rfl, hb⟩
  rw [hdf]
  have H1 := hid (And.intro (below_step H0.out.1 hb) (And.intro (blk_below H0.out.2.1 hb) (blk_below H0.out.2.2 hb)))
  clear hb hdf
  have x0 : w1.cell? ⟨w.heap.size, 0, none⟩ = some (.slice A0 F.length c0) := blk_cell H1.out.2.1 0
  have y0 : w1.cell? ⟨w.heap.size + 1, 0, none⟩ = some (.slice B0 F'.length d0) := blk_cell H1.out.2.2 0
  have x1 : w1.cell? ⟨w.heap.size, 1, none⟩ = some (.slice A1 D.length c1) := blk_cell H1.out.2.1 1
  have y1 : w1.cell? ⟨w.heap.size + 1, 1, none⟩ = some (.slice B1 D'.length d1) := blk_cell H1.out.2.2 1
  have x2 : w1.cell? ⟨w.heap.size, 2, none⟩ = some (.slice A2 N.length c2) := blk_cell H1.out.2.1 2
  have y2 : w1.cell? ⟨w.heap.size + 1, 2, none⟩ = some (.slice B2 N'.length d2) := blk_cell H1.out.2.2 2
  go_wp2_with fail
  refine (eqf125_c A1 B1 c1 d1 D D' w1 (HA.out.below H1.out.1).d HA.out.ld (HB.out.below H1.out.1).d HB.out.ld HO.out.d HO.out.ds).mono ?_
  rintro e w2 ⟨rfl, hb⟩
  rw [hdd]
  have H2 := hid (And.intro (below_step H1.out.1 hb) (And.intro (blk_below H1.out.2.1 hb) (blk_below H1.out.2.2 hb)))
  clear x0 x1 x2 y0 y1 y2
  clear hb hdd
  have x0 : w2.cell? ⟨w.heap.size, 0, none⟩ = some (.slice A0 F.length c0) := blk_cell H2.out.2.1 0
  have y0 : w2.cell? ⟨w.heap.size + 1, 0, none⟩ = some (.slice B0 F'.length d0) := blk_cell H2.out.2.2 0
  have x1 : w2.cell? ⟨w.heap.size, 1, none⟩ = some (.slice A1 D.length c1) := blk_cell H2.out.2.1 1
  have y1 : w2.cell? ⟨w.heap.size + 1, 1, none⟩ = some (.slice B1 D'.length d1) := blk_cell H2.out.2.2 1
  have x2 : w2.cell? ⟨w.heap.size, 2, none⟩ = some (.slice A2 N.length c2) := blk_cell H2.out.2.1 2
  have y2 : w2.cell? ⟨w.heap.size + 1, 2, none⟩ = some (.slice B2 N'.length d2) := blk_cell H2.out.2.2 2
  go_wp2_with fail
  refine (api_Note.calls 1000000001 A2 c2 N B2 d2 N' (decide (N = N')) w2 (HA.out.below H2.out.1).n HA.out.ln (HB.out.below H2.out.1).n HB.out.ln (eqNote N N' (by omega) _ (by omega))).mono ?_
  rintro e w3 ⟨rfl, ⟨nd, rfl⟩⟩
  have H3 := hid (pw_below_drewN H2.out.1 nd)
  clear x0 x1 x2 y0 y1 y2
  go_wp2
  go_ret
  exact ⟨rfl, H3.out⟩
end Go.Proofs.Ytmcfihpbiilbcaa.H
end
section
namespace Go.Proofs.Ytmcfihpbiilbcaa.H
open Go.RowKit Go.Proofs.YtmcfihpbiilbcaaW.PrintWords Go.Proofs.YtmcfihpbiilbcaaW.PrintLast Go.Proofs.YtmcfihpbiilbcaaW.PrintMore Go.Proofs.Ytmcfihpbiilbcaa.E
set_option linter.unusedVariables false
set_option linter.unusedSimpArgs false
theorem in9_c (a lo hi : Int) (w : World) : Calls Try.prog 133 #[.int .i64 a, .int .i64 lo, .int .i64 hi] w fun e w' => e = .returned (.bool (decide (lo ≤ a ∧ a ≤ hi))) ∧ Below w.heap.size w w' := by
  refine (object_in.calls a lo hi _ w ?_).mono fun e w' h => ⟨h.1, ?_⟩
  · unfold object_in.f
    by_cases h : a ≥ lo
    · rw [if_pos h]
      have : (decide (lo ≤ a ∧ a ≤ hi)) = decide (a ≤ hi) := by
        have h' : lo ≤ a := h
        simp [h']
      rw [this]
    · rw [if_neg h, decide_eq_false (fun q => h q.1)]
  · obtain ⟨⟨nd, rfl⟩⟩ := h.2
    exact pw_below_drewN (Below.refl _ _) nd
def relB (r : S153) : Bool := decide (0 ≤ r.f0 ∧ r.f0 ≤ 65535) && (decide (0 ≤ r.f1 ∧ r.f1 ≤ 255) && (namedB r.f2 && decide (-1048576 ≤ r.f3 ∧ r.f3 ≤ 1048576)))
def relsB (l : List S153) : Bool := decide (l.length ≤ 64) && l.all relB
def funcB (x : S124) : Bool := namedB x.f0 && (decide (1 ≤ x.f1 ∧ x.f1 ≤ 255) && (decide (x.f2.length ≤ 2000) && relsB x.f3))
def dataB (x : S102) : Bool := namedB x.f0 && (decide (1 ≤ x.f1 ∧ x.f1 ≤ 255) && (decide (0 ≤ x.f2 ∧ x.f2 ≤ 255) && (decide (0 ≤ x.f4 ∧ x.f4 ≤ 65535) && (decide (x.f5.length ≤ 4096) && relsB x.f6))))
def noteB (x : S122) : Bool := namedB x.f0 && decide (0 ≤ x.f1 ∧ x.f1 ≤ 255)
def SB (s : ByteArray) : Prop := s.size ≤ 140737488351232
set_option maxRecDepth 100000 in
set_option maxHeartbeats 1000000 in
theorem rel_c (x_0 x_1 : Int) (x_2 : ByteArray) (x_3 : Int) (w : World) (hs : SB x_2) :
    Calls Try.prog 149 #[.agg #[.int .i64 x_0, .int .i64 x_1, .string x_2, .int .i64 x_3]] w fun e w' => e = .returned (.bool (relB ⟨x_0, x_1, x_2, x_3⟩)) ∧ Below w.heap.size w w' := by
  obtain ⟨b0, h0⟩ : ∃ b, decide (0 ≤ x_0 ∧ x_0 ≤ 65535) = b := ⟨_, rfl⟩
  obtain ⟨b1, h1⟩ : ∃ b, decide (0 ≤ x_1 ∧ x_1 ≤ 255) = b := ⟨_, rfl⟩
  obtain ⟨b2, h2⟩ : ∃ b, namedB x_2 = b := ⟨_, rfl⟩
  obtain ⟨b3, h3⟩ : ∃ b, decide (-1048576 ≤ x_3 ∧ x_3 ≤ 1048576) = b := ⟨_, rfl⟩
  have hR : relB ⟨x_0, x_1, x_2, x_3⟩ = (b0 && (b1 && (b2 && b3))) := by
    unfold relB
    simp only
    rw [h0, h1, h2, h3]
  obtain ⟨R, hRR⟩ : ∃ R, relB ⟨x_0, x_1, x_2, x_3⟩ = R := ⟨_, rfl⟩
  rw [hRR] at hR ⊢
  have HR := hid hR
  have HH0 := hid h0
  have HH1 := hid h1
  have HH2 := hid h2
  have HH3 := hid h3
  obtain ⟨W1, hW1⟩ : ∃ W, W = w.alloc (.cells #[.int .i64 x_0, .int .i64 x_1, .string x_2, .int .i64 x_3] 153) := ⟨_, rfl⟩
  have f0 := blk_new w (.cells #[.int .i64 x_0, .int .i64 x_1, .string x_2, .int .i64 x_3] 153)
  have hB1 := below_alloc (Below.refl w.heap.size w) (.cells #[.int .i64 x_0, .int .i64 x_1, .string x_2, .int .i64 x_3] 153)
  rw [← hW1] at f0 hB1
  have HW := hid hW1
  have G0 := hid (And.intro hB1 f0)
  clear hR hRR hW1 f0 hB1 h0 h1 h2 h3
  go_enter Try.func149, Try.ntmps149
  go_wp2_with fail
  rw [← HW.out]
  refine (in9_c x_0 0 65535 W1).mono ?_
  rintro e w1 ⟨rfl, hb⟩
  rw [HH0.out]
  have G1 := hid (And.intro (below_step G0.out.1 hb) (blk_below G0.out.2 hb))
  clear hb
  have z1_0 : w1.cell? ⟨w.heap.size, 0, none⟩ = some (.int .i64 x_0) := blk_cell G1.out.2 0
  have z1_1 : w1.cell? ⟨w.heap.size, 1, none⟩ = some (.int .i64 x_1) := blk_cell G1.out.2 1
  have z1_2 : w1.cell? ⟨w.heap.size, 2, none⟩ = some (.string x_2) := blk_cell G1.out.2 2
  have z1_3 : w1.cell? ⟨w.heap.size, 3, none⟩ = some (.int .i64 x_3) := blk_cell G1.out.2 3
  cases b0
  · skip
    go_wp2
    try rw [← HW.out]
    go_ret
    exact ⟨by rw [HR.out] <;> rfl, G1.out.1⟩
  go_wp2_with fail
  refine (in9_c x_1 0 255 w1).mono ?_
  rintro e w2 ⟨rfl, hb⟩
  rw [HH1.out]
  have G2 := hid (And.intro (below_step G1.out.1 hb) (blk_below G1.out.2 hb))
  clear hb
  have z2_0 : w2.cell? ⟨w.heap.size, 0, none⟩ = some (.int .i64 x_0) := blk_cell G2.out.2 0
  have z2_1 : w2.cell? ⟨w.heap.size, 1, none⟩ = some (.int .i64 x_1) := blk_cell G2.out.2 1
  have z2_2 : w2.cell? ⟨w.heap.size, 2, none⟩ = some (.string x_2) := blk_cell G2.out.2 2
  have z2_3 : w2.cell? ⟨w.heap.size, 3, none⟩ = some (.int .i64 x_3) := blk_cell G2.out.2 3
  clear z1_0 z1_1 z1_2 z1_3
  cases b1
  · skip
    go_wp2
    try rw [← HW.out]
    go_ret
    exact ⟨by rw [HR.out] <;> rfl, G2.out.1⟩
  go_wp2_with fail
  refine (named_c x_2 w2 hs).mono ?_
  rintro e w3 ⟨rfl, hb⟩
  rw [HH2.out]
  have G3 := hid (And.intro (below_step G2.out.1 hb) (blk_below G2.out.2 hb))
  clear hb
  have z3_0 : w3.cell? ⟨w.heap.size, 0, none⟩ = some (.int .i64 x_0) := blk_cell G3.out.2 0
  have z3_1 : w3.cell? ⟨w.heap.size, 1, none⟩ = some (.int .i64 x_1) := blk_cell G3.out.2 1
  have z3_2 : w3.cell? ⟨w.heap.size, 2, none⟩ = some (.string x_2) := blk_cell G3.out.2 2
  have z3_3 : w3.cell? ⟨w.heap.size, 3, none⟩ = some (.int .i64 x_3) := blk_cell G3.out.2 3
  clear z2_0 z2_1 z2_2 z2_3
  cases b2
  · skip
    go_wp2
    try rw [← HW.out]
    go_ret
    exact ⟨by rw [HR.out] <;> rfl, G3.out.1⟩
  go_wp2_with fail
  refine (in9_c x_3 (-1048576) 1048576 w3).mono ?_
  rintro e w4 ⟨rfl, hb⟩
  rw [HH3.out]
  have G4 := hid (And.intro (below_step G3.out.1 hb) (blk_below G3.out.2 hb))
  clear hb
  have z4_0 : w4.cell? ⟨w.heap.size, 0, none⟩ = some (.int .i64 x_0) := blk_cell G4.out.2 0
  have z4_1 : w4.cell? ⟨w.heap.size, 1, none⟩ = some (.int .i64 x_1) := blk_cell G4.out.2 1
  have z4_2 : w4.cell? ⟨w.heap.size, 2, none⟩ = some (.string x_2) := blk_cell G4.out.2 2
  have z4_3 : w4.cell? ⟨w.heap.size, 3, none⟩ = some (.int .i64 x_3) := blk_cell G4.out.2 3
  clear z3_0 z3_1 z3_2 z3_3
  cases b3
  · skip
    go_wp2
    try rw [← HW.out]
    go_ret
    exact ⟨by rw [HR.out] <;> rfl, G4.out.1⟩
  skip
  go_wp2
  try rw [← HW.out]
  go_ret
  exact ⟨by rw [HR.out] <;> rfl, G4.out.1⟩
set_option maxRecDepth 100000 in
theorem norel_c (x_0 x_1 : Int) (x_2 : ByteArray) (x_3 : Int) (w : World) (hs : SB x_2) :
    Calls Try.prog 148 #[.agg #[.int .i64 x_0, .int .i64 x_1, .string x_2, .int .i64 x_3]] w fun e w' => e = .returned (.bool (!relB ⟨x_0, x_1, x_2, x_3⟩)) ∧ Below w.heap.size w w' := by
  go_enter Try.func148, Try.ntmps148
  go_wp2_with fail
  refine (rel_c x_0 x_1 x_2 x_3 _ hs).mono ?_
  rintro e w1 ⟨rfl, hb⟩
  have H1 := hid (below_step (below_alloc (Below.refl _ _) _) hb)
  clear hb
  go_wp2
  go_ret
  exact ⟨rfl, H1.out⟩
set_option maxRecDepth 100000 in
set_option maxHeartbeats 1000000 in
theorem index153_c (A : Option Addr) (c : Nat) (l : List S153) (w : World) (hC : Kd.C k153 w A l.length l) (hc : l.length ≤ c) (hl : l.length ≤ 1000000) (hs : ∀ x ∈ l, SB x.f2) :
    Calls Try.prog 154 #[.slice A l.length c, .func (.func 148) #[] #[]] w fun e w' => ∃ r : Int, e = .returned (.int .i64 r) ∧ decide (0 ≤ r) = !(l.all relB) ∧ Below w.heap.size w w' := by
  have HC := hid hC
  have HS := hid hs
  clear hC hs
  go_enter Try.func154, Try.ntmps154
  go_wp2
  go_loopw [5, 8] (fun _ s8 wx => ∃ k : Nat, k ≤ l.length ∧ s8 = .int .i64 k ∧ Hid ((l.take k).all relB = true ∧ Below w.heap.size w wx)) (fun _ s8 _ => l.length - (intOf s8).toNat)
  case atStart => exact ⟨0, by omega, rfl, hid ⟨by simp, Below.refl _ _⟩⟩
  case round =>
    obtain ⟨k, hk, rfl, hI⟩ := hrel
    by_cases hlt : (k : Int) < (l.length : Int)
    · have hk1 : k < l.length := by omega
      obtain ⟨ad, rfl, q0, q1, q2, q3⟩ := at_T153 (Kd.C_below HC.out hI.out.2) (k : Int) (by omega) (by omega)
      have rx : rd_T153 l (k : Int) = l[k] := by unfold rd_T153; rw [Int.toNat_natCast, List.getD_eq_getElem?_getD, List.getElem?_eq_getElem hk1]; rfl
      have e3 : IntKind.i64.wrap ((k : Int) + 1) = (k : Int) + 1 := IntWalk.i64_in _ (by omega)
      have hsx := HS.out _ (List.getElem_mem hk1)
      have hst : relB l[k] = true → (l.take (k + 1)).all relB = true := by
        intro h
        rw [List.take_add_one, List.all_append, hI.out.1, List.getElem?_eq_getElem hk1]
        simp [h]
      have hno : relB l[k] = false → l.all relB = false := by
        intro h
        rw [List.all_eq_false]
        exact ⟨l[k], List.getElem_mem hk1, by rw [h]; decide⟩
      generalize rd_T153 l (k : Int) = x at *
      rw [← rx] at hsx hst hno
      simp only [Int.toNat_natCast] at q0 q1 q2 q3
      clear rx
      obtain ⟨x_0, x_1, x_2, x_3⟩ := x
      dsimp only at q0 q1 q2 q3 hsx
      have HX := hid (And.intro hst hno)
      clear hst hno
      go_wp2_with fail
      refine (norel_c x_0 x_1 x_2 x_3 wr hsx).mono ?_
      rintro e w2 ⟨rfl, hb⟩
      have H2 := hid (below_step hI.out.2 hb)
      clear hb
      cases hB : relB ⟨x_0, x_1, x_2, x_3⟩
      · have hall := HX.out.2 hB
        have HA := hid hall
        clear hall hB
        go_wp2
        go_ret
        exact ⟨k, rfl, by rw [HA.out]; simp, H2.out⟩
      · have hall := HX.out.1 hB
        have HA := hid hall
        clear hall hB
        go_wp2
        go_roundw
        case rel => exact ⟨k + 1, by omega, by go_num, hid ⟨HA.out, H2.out⟩⟩
        case measure => simp [intOf]; omega
    · have hk1 : k = l.length := by omega
      go_wp2
      go_ret
      refine ⟨-1, rfl, ?_, hI.out.2⟩
      have := hI.out.1
      rw [hk1, List.take_length] at this
      rw [this]; rfl
theorem contains153_c (A : Option Addr) (c : Nat) (l : List S153) (w : World) (hC : Kd.C k153 w A l.length l) (hc : l.length ≤ c) (hl : l.length ≤ 1000000) (hs : ∀ x ∈ l, SB x.f2) :
    Calls Try.prog 147 #[.slice A l.length c, .func (.func 148) #[] #[]] w fun e w' => e = .returned (.bool (!(l.all relB))) ∧ Below w.heap.size w w' := by
  have HC := hid hC
  have HS := hid hs
  clear hC hs
  go_enter Try.func147, Try.ntmps147
  go_wp2_with fail
  refine (index153_c A c l w HC.out hc hl HS.out).mono ?_
  rintro e w1 ⟨r, rfl, hr, hb⟩
  have H1 := hid hb
  clear hb
  go_wp2
  go_ret
  exact ⟨by rw [← hr] <;> rfl, H1.out⟩
set_option maxRecDepth 100000 in
theorem rels_c (A : Option Addr) (c : Nat) (l : List S153) (w : World) (hC : Kd.C k153 w A l.length l) (hc : l.length ≤ c) (hs : ∀ x ∈ l, SB x.f2) :
    Calls Try.prog 134 #[.slice A l.length c] w fun e w' => e = .returned (.bool (relsB l)) ∧ Below w.heap.size w w' := by
  have HC := hid hC
  have HS := hid hs
  clear hC hs
  by_cases hl : (l.length : Int) ≤ 64
  · obtain ⟨R, hA⟩ : ∃ R, l.all relB = R := ⟨_, rfl⟩
    have hR : relsB l = R := by unfold relsB; rw [decide_eq_true (by omega), hA]; rfl
    rw [hR]
    have HRR := hid hA
    clear hR hA
    go_enter Try.func134, Try.ntmps134
    go_wp2_with fail
    refine (contains153_c A c l w HC.out hc (by omega) HS.out).mono ?_
    rintro e w1 ⟨rfl, hb⟩
    rw [HRR.out]
    have H1 := hid hb
    clear hb HRR
    cases R
    · go_wp2
      go_ret
      exact ⟨rfl, H1.out⟩
    · go_wp2
      go_ret
      exact ⟨rfl, H1.out⟩
  · have hR : relsB l = false := by unfold relsB; rw [decide_eq_false (by omega)]; rfl
    rw [hR]
    clear hR
    go_enter Try.func134, Try.ntmps134
    go_wp2
    go_ret
    exact ⟨rfl, Below.refl _ _⟩
end Go.Proofs.Ytmcfihpbiilbcaa.H
end
section
namespace Go.Proofs.Ytmcfihpbiilbcaa.H
open Go.RowKit Go.Proofs.YtmcfihpbiilbcaaW.PrintWords Go.Proofs.YtmcfihpbiilbcaaW.PrintLast Go.Proofs.YtmcfihpbiilbcaaW.PrintMore Go.Proofs.Ytmcfihpbiilbcaa.E
set_option linter.unusedVariables false
set_option linter.unusedSimpArgs false
set_option maxRecDepth 100000 in
set_option maxHeartbeats 1000000 in
theorem function_c (x_0 : ByteArray) (x_1 : Int) (P2 : Option Addr) (c2 : Nat) (x_2 : List Int) (P3 : Option Addr) (c3 : Nat) (x_3 : List S153) (w : World) (hC3 : Kd.C k153 w P3 x_3.length x_3) (hc3 : x_3.length ≤ c3) (hs : SB x_0 ∧ ∀ r ∈ x_3, SB r.f2) :
    Calls Try.prog 101 #[.agg #[.string x_0, .int .i64 x_1, .slice P2 x_2.length c2, .slice P3 x_3.length c3]] w fun e w' => e = .returned (.bool (funcB ⟨x_0, x_1, x_2, x_3⟩)) ∧ Below w.heap.size w w' := by
  obtain ⟨b0, h0⟩ : ∃ b, namedB x_0 = b := ⟨_, rfl⟩
  obtain ⟨b1, h1⟩ : ∃ b, decide (1 ≤ x_1 ∧ x_1 ≤ 255) = b := ⟨_, rfl⟩
  obtain ⟨b2, h2⟩ : ∃ b, decide (x_2.length ≤ 2000) = b := ⟨_, rfl⟩
  obtain ⟨b3, h3⟩ : ∃ b, relsB x_3 = b := ⟨_, rfl⟩
  have hR : funcB ⟨x_0, x_1, x_2, x_3⟩ = (b0 && (b1 && (b2 && b3))) := by
    unfold funcB
    simp only
    rw [h0, h1, h2, h3]
  obtain ⟨R, hRR⟩ : ∃ R, funcB ⟨x_0, x_1, x_2, x_3⟩ = R := ⟨_, rfl⟩
  rw [hRR] at hR ⊢
  have HR := hid hR
  have HH0 := hid h0
  have HH1 := hid h1
  have HH2 := hid h2
  have HH3 := hid h3
  obtain ⟨W1, hW1⟩ : ∃ W, W = w.alloc (.cells #[.string x_0, .int .i64 x_1, .slice P2 x_2.length c2, .slice P3 x_3.length c3] 124) := ⟨_, rfl⟩
  have f0 := blk_new w (.cells #[.string x_0, .int .i64 x_1, .slice P2 x_2.length c2, .slice P3 x_3.length c3] 124)
  have hB1 := below_alloc (Below.refl w.heap.size w) (.cells #[.string x_0, .int .i64 x_1, .slice P2 x_2.length c2, .slice P3 x_3.length c3] 124)
  rw [← hW1] at f0 hB1
  have HW := hid hW1
  have G0 := hid (And.intro hB1 f0)
  have HC3 := hid hC3
  have HSS := hid hs
  clear hC3 hs
  clear hR hRR hW1 f0 hB1 h0 h1 h2 h3
  go_enter Try.func101, Try.ntmps101
  go_wp2_with fail
  rw [← HW.out]
  refine (named_c x_0 W1 HSS.out.1).mono ?_
  rintro e w1 ⟨rfl, hb⟩
  rw [HH0.out]
  have G1 := hid (And.intro (below_step G0.out.1 hb) (blk_below G0.out.2 hb))
  clear hb
  have z1_0 : w1.cell? ⟨w.heap.size, 0, none⟩ = some (.string x_0) := blk_cell G1.out.2 0
  have z1_1 : w1.cell? ⟨w.heap.size, 1, none⟩ = some (.int .i64 x_1) := blk_cell G1.out.2 1
  have z1_2 : w1.cell? ⟨w.heap.size, 2, none⟩ = some (.slice P2 x_2.length c2) := blk_cell G1.out.2 2
  have z1_3 : w1.cell? ⟨w.heap.size, 3, none⟩ = some (.slice P3 x_3.length c3) := blk_cell G1.out.2 3
  cases b0
  · skip
    go_wp2
    try rw [← HW.out]
    go_ret
    exact ⟨by rw [HR.out] <;> rfl, G1.out.1⟩
  go_wp2_with fail
  refine (in9_c x_1 1 255 w1).mono ?_
  rintro e w2 ⟨rfl, hb⟩
  rw [HH1.out]
  have G2 := hid (And.intro (below_step G1.out.1 hb) (blk_below G1.out.2 hb))
  clear hb
  have z2_0 : w2.cell? ⟨w.heap.size, 0, none⟩ = some (.string x_0) := blk_cell G2.out.2 0
  have z2_1 : w2.cell? ⟨w.heap.size, 1, none⟩ = some (.int .i64 x_1) := blk_cell G2.out.2 1
  have z2_2 : w2.cell? ⟨w.heap.size, 2, none⟩ = some (.slice P2 x_2.length c2) := blk_cell G2.out.2 2
  have z2_3 : w2.cell? ⟨w.heap.size, 3, none⟩ = some (.slice P3 x_3.length c3) := blk_cell G2.out.2 3
  clear z1_0 z1_1 z1_2 z1_3
  cases b1
  · skip
    go_wp2
    try rw [← HW.out]
    go_ret
    exact ⟨by rw [HR.out] <;> rfl, G2.out.1⟩
  by_cases hl2 : (x_2.length : Int) ≤ 2000
  rotate_left
  · have e2 : b2 = false := by rw [← HH2.out]; exact decide_eq_false (by omega)
    subst e2
    go_wp2
    try rw [← HW.out]
    go_ret
    exact ⟨by rw [HR.out] <;> rfl, G2.out.1⟩
  have e2 : b2 = true := by rw [← HH2.out]; exact decide_eq_true (by omega)
  subst e2
  go_wp2_with fail
  refine (rels_c P3 c3 x_3 w2 (Kd.C_below HC3.out G2.out.1) hc3 HSS.out.2).mono ?_
  rintro e w3 ⟨rfl, hb⟩
  rw [HH3.out]
  have G3 := hid (And.intro (below_step G2.out.1 hb) (blk_below G2.out.2 hb))
  clear hb
  have z3_0 : w3.cell? ⟨w.heap.size, 0, none⟩ = some (.string x_0) := blk_cell G3.out.2 0
  have z3_1 : w3.cell? ⟨w.heap.size, 1, none⟩ = some (.int .i64 x_1) := blk_cell G3.out.2 1
  have z3_2 : w3.cell? ⟨w.heap.size, 2, none⟩ = some (.slice P2 x_2.length c2) := blk_cell G3.out.2 2
  have z3_3 : w3.cell? ⟨w.heap.size, 3, none⟩ = some (.slice P3 x_3.length c3) := blk_cell G3.out.2 3
  clear z2_0 z2_1 z2_2 z2_3
  cases b3
  · skip
    go_wp2
    try rw [← HW.out]
    go_ret
    exact ⟨by rw [HR.out] <;> rfl, G3.out.1⟩
  skip
  go_wp2
  try rw [← HW.out]
  go_ret
  exact ⟨by rw [HR.out] <;> rfl, G3.out.1⟩
set_option maxRecDepth 100000 in
set_option maxHeartbeats 1000000 in
theorem data_c (x_0 : ByteArray) (x_1 x_2 : Int) (x_3 : Bool) (x_4 : Int) (P5 : Option Addr) (c5 : Nat) (x_5 : List Int) (P6 : Option Addr) (c6 : Nat) (x_6 : List S153) (w : World) (hC3 : Kd.C k153 w P6 x_6.length x_6) (hc3 : x_6.length ≤ c6) (hs : SB x_0 ∧ ∀ r ∈ x_6, SB r.f2) :
    Calls Try.prog 103 #[.agg #[.string x_0, .int .i64 x_1, .int .i64 x_2, .bool x_3, .int .i64 x_4, .slice P5 x_5.length c5, .slice P6 x_6.length c6]] w fun e w' => e = .returned (.bool (dataB ⟨x_0, x_1, x_2, x_3, x_4, x_5, x_6⟩)) ∧ Below w.heap.size w w' := by
  obtain ⟨b0, h0⟩ : ∃ b, namedB x_0 = b := ⟨_, rfl⟩
  obtain ⟨b1, h1⟩ : ∃ b, decide (1 ≤ x_1 ∧ x_1 ≤ 255) = b := ⟨_, rfl⟩
  obtain ⟨b2, h2⟩ : ∃ b, decide (0 ≤ x_2 ∧ x_2 ≤ 255) = b := ⟨_, rfl⟩
  obtain ⟨b3, h3⟩ : ∃ b, decide (0 ≤ x_4 ∧ x_4 ≤ 65535) = b := ⟨_, rfl⟩
  obtain ⟨b4, h4⟩ : ∃ b, decide (x_5.length ≤ 4096) = b := ⟨_, rfl⟩
  obtain ⟨b5, h5⟩ : ∃ b, relsB x_6 = b := ⟨_, rfl⟩
  have hR : dataB ⟨x_0, x_1, x_2, x_3, x_4, x_5, x_6⟩ = (b0 && (b1 && (b2 && (b3 && (b4 && b5))))) := by
    unfold dataB
    simp only
    rw [h0, h1, h2, h3, h4, h5]
  obtain ⟨R, hRR⟩ : ∃ R, dataB ⟨x_0, x_1, x_2, x_3, x_4, x_5, x_6⟩ = R := ⟨_, rfl⟩
  rw [hRR] at hR ⊢
  have HR := hid hR
  have HH0 := hid h0
  have HH1 := hid h1
  have HH2 := hid h2
  have HH3 := hid h3
  have HH4 := hid h4
  have HH5 := hid h5
  obtain ⟨W1, hW1⟩ : ∃ W, W = w.alloc (.cells #[.string x_0, .int .i64 x_1, .int .i64 x_2, .bool x_3, .int .i64 x_4, .slice P5 x_5.length c5, .slice P6 x_6.length c6] 102) := ⟨_, rfl⟩
  have f0 := blk_new w (.cells #[.string x_0, .int .i64 x_1, .int .i64 x_2, .bool x_3, .int .i64 x_4, .slice P5 x_5.length c5, .slice P6 x_6.length c6] 102)
  have hB1 := below_alloc (Below.refl w.heap.size w) (.cells #[.string x_0, .int .i64 x_1, .int .i64 x_2, .bool x_3, .int .i64 x_4, .slice P5 x_5.length c5, .slice P6 x_6.length c6] 102)
  rw [← hW1] at f0 hB1
  have HW := hid hW1
  have G0 := hid (And.intro hB1 f0)
  have HC3 := hid hC3
  have HSS := hid hs
  clear hC3 hs
  clear hR hRR hW1 f0 hB1 h0 h1 h2 h3 h4 h5
  go_enter Try.func103, Try.ntmps103
  go_wp2_with fail
  rw [← HW.out]
  refine (named_c x_0 W1 HSS.out.1).mono ?_
  rintro e w1 ⟨rfl, hb⟩
  rw [HH0.out]
  have G1 := hid (And.intro (below_step G0.out.1 hb) (blk_below G0.out.2 hb))
  clear hb
  have z1_0 : w1.cell? ⟨w.heap.size, 0, none⟩ = some (.string x_0) := blk_cell G1.out.2 0
  have z1_1 : w1.cell? ⟨w.heap.size, 1, none⟩ = some (.int .i64 x_1) := blk_cell G1.out.2 1
  have z1_2 : w1.cell? ⟨w.heap.size, 2, none⟩ = some (.int .i64 x_2) := blk_cell G1.out.2 2
  have z1_3 : w1.cell? ⟨w.heap.size, 3, none⟩ = some (.bool x_3) := blk_cell G1.out.2 3
  have z1_4 : w1.cell? ⟨w.heap.size, 4, none⟩ = some (.int .i64 x_4) := blk_cell G1.out.2 4
  have z1_5 : w1.cell? ⟨w.heap.size, 5, none⟩ = some (.slice P5 x_5.length c5) := blk_cell G1.out.2 5
  have z1_6 : w1.cell? ⟨w.heap.size, 6, none⟩ = some (.slice P6 x_6.length c6) := blk_cell G1.out.2 6
  cases b0
  · skip
    go_wp2
    try rw [← HW.out]
    go_ret
    exact ⟨by rw [HR.out] <;> rfl, G1.out.1⟩
  go_wp2_with fail
  refine (in9_c x_1 1 255 w1).mono ?_
  rintro e w2 ⟨rfl, hb⟩
  rw [HH1.out]
  have G2 := hid (And.intro (below_step G1.out.1 hb) (blk_below G1.out.2 hb))
  clear hb
  have z2_0 : w2.cell? ⟨w.heap.size, 0, none⟩ = some (.string x_0) := blk_cell G2.out.2 0
  have z2_1 : w2.cell? ⟨w.heap.size, 1, none⟩ = some (.int .i64 x_1) := blk_cell G2.out.2 1
  have z2_2 : w2.cell? ⟨w.heap.size, 2, none⟩ = some (.int .i64 x_2) := blk_cell G2.out.2 2
  have z2_3 : w2.cell? ⟨w.heap.size, 3, none⟩ = some (.bool x_3) := blk_cell G2.out.2 3
  have z2_4 : w2.cell? ⟨w.heap.size, 4, none⟩ = some (.int .i64 x_4) := blk_cell G2.out.2 4
  have z2_5 : w2.cell? ⟨w.heap.size, 5, none⟩ = some (.slice P5 x_5.length c5) := blk_cell G2.out.2 5
  have z2_6 : w2.cell? ⟨w.heap.size, 6, none⟩ = some (.slice P6 x_6.length c6) := blk_cell G2.out.2 6
  clear z1_0 z1_1 z1_2 z1_3 z1_4 z1_5 z1_6
  cases b1
  · skip
    go_wp2
    try rw [← HW.out]
    go_ret
    exact ⟨by rw [HR.out] <;> rfl, G2.out.1⟩
  go_wp2_with fail
  refine (in9_c x_2 0 255 w2).mono ?_
  rintro e w3 ⟨rfl, hb⟩
  rw [HH2.out]
  have G3 := hid (And.intro (below_step G2.out.1 hb) (blk_below G2.out.2 hb))
  clear hb
  have z3_0 : w3.cell? ⟨w.heap.size, 0, none⟩ = some (.string x_0) := blk_cell G3.out.2 0
  have z3_1 : w3.cell? ⟨w.heap.size, 1, none⟩ = some (.int .i64 x_1) := blk_cell G3.out.2 1
  have z3_2 : w3.cell? ⟨w.heap.size, 2, none⟩ = some (.int .i64 x_2) := blk_cell G3.out.2 2
  have z3_3 : w3.cell? ⟨w.heap.size, 3, none⟩ = some (.bool x_3) := blk_cell G3.out.2 3
  have z3_4 : w3.cell? ⟨w.heap.size, 4, none⟩ = some (.int .i64 x_4) := blk_cell G3.out.2 4
  have z3_5 : w3.cell? ⟨w.heap.size, 5, none⟩ = some (.slice P5 x_5.length c5) := blk_cell G3.out.2 5
  have z3_6 : w3.cell? ⟨w.heap.size, 6, none⟩ = some (.slice P6 x_6.length c6) := blk_cell G3.out.2 6
  clear z2_0 z2_1 z2_2 z2_3 z2_4 z2_5 z2_6
  cases b2
  · skip
    go_wp2
    try rw [← HW.out]
    go_ret
    exact ⟨by rw [HR.out] <;> rfl, G3.out.1⟩
  go_wp2_with fail
  refine (in9_c x_4 0 65535 w3).mono ?_
  rintro e w4 ⟨rfl, hb⟩
  rw [HH3.out]
  have G4 := hid (And.intro (below_step G3.out.1 hb) (blk_below G3.out.2 hb))
  clear hb
  have z4_0 : w4.cell? ⟨w.heap.size, 0, none⟩ = some (.string x_0) := blk_cell G4.out.2 0
  have z4_1 : w4.cell? ⟨w.heap.size, 1, none⟩ = some (.int .i64 x_1) := blk_cell G4.out.2 1
  have z4_2 : w4.cell? ⟨w.heap.size, 2, none⟩ = some (.int .i64 x_2) := blk_cell G4.out.2 2
  have z4_3 : w4.cell? ⟨w.heap.size, 3, none⟩ = some (.bool x_3) := blk_cell G4.out.2 3
  have z4_4 : w4.cell? ⟨w.heap.size, 4, none⟩ = some (.int .i64 x_4) := blk_cell G4.out.2 4
  have z4_5 : w4.cell? ⟨w.heap.size, 5, none⟩ = some (.slice P5 x_5.length c5) := blk_cell G4.out.2 5
  have z4_6 : w4.cell? ⟨w.heap.size, 6, none⟩ = some (.slice P6 x_6.length c6) := blk_cell G4.out.2 6
  clear z3_0 z3_1 z3_2 z3_3 z3_4 z3_5 z3_6
  cases b3
  · skip
    go_wp2
    try rw [← HW.out]
    go_ret
    exact ⟨by rw [HR.out] <;> rfl, G4.out.1⟩
  by_cases hl4 : (x_5.length : Int) ≤ 4096
  rotate_left
  · have e4 : b4 = false := by rw [← HH4.out]; exact decide_eq_false (by omega)
    subst e4
    go_wp2
    try rw [← HW.out]
    go_ret
    exact ⟨by rw [HR.out] <;> rfl, G4.out.1⟩
  have e4 : b4 = true := by rw [← HH4.out]; exact decide_eq_true (by omega)
  subst e4
  go_wp2_with fail
  refine (rels_c P6 c6 x_6 w4 (Kd.C_below HC3.out G4.out.1) hc3 HSS.out.2).mono ?_
  rintro e w5 ⟨rfl, hb⟩
  rw [HH5.out]
  have G5 := hid (And.intro (below_step G4.out.1 hb) (blk_below G4.out.2 hb))
  clear hb
  have z5_0 : w5.cell? ⟨w.heap.size, 0, none⟩ = some (.string x_0) := blk_cell G5.out.2 0
  have z5_1 : w5.cell? ⟨w.heap.size, 1, none⟩ = some (.int .i64 x_1) := blk_cell G5.out.2 1
  have z5_2 : w5.cell? ⟨w.heap.size, 2, none⟩ = some (.int .i64 x_2) := blk_cell G5.out.2 2
  have z5_3 : w5.cell? ⟨w.heap.size, 3, none⟩ = some (.bool x_3) := blk_cell G5.out.2 3
  have z5_4 : w5.cell? ⟨w.heap.size, 4, none⟩ = some (.int .i64 x_4) := blk_cell G5.out.2 4
  have z5_5 : w5.cell? ⟨w.heap.size, 5, none⟩ = some (.slice P5 x_5.length c5) := blk_cell G5.out.2 5
  have z5_6 : w5.cell? ⟨w.heap.size, 6, none⟩ = some (.slice P6 x_6.length c6) := blk_cell G5.out.2 6
  clear z4_0 z4_1 z4_2 z4_3 z4_4 z4_5 z4_6
  cases b5
  · skip
    go_wp2
    try rw [← HW.out]
    go_ret
    exact ⟨by rw [HR.out] <;> rfl, G5.out.1⟩
  skip
  go_wp2
  try rw [← HW.out]
  go_ret
  exact ⟨by rw [HR.out] <;> rfl, G5.out.1⟩
set_option maxRecDepth 100000 in
set_option maxHeartbeats 1000000 in
theorem note_c (x_0 : ByteArray) (x_1 : Int) (w : World) (hs : SB x_0) :
    Calls Try.prog 105 #[.agg #[.string x_0, .int .i64 x_1]] w fun e w' => e = .returned (.bool (noteB ⟨x_0, x_1⟩)) ∧ Below w.heap.size w w' := by
  obtain ⟨b0, h0⟩ : ∃ b, namedB x_0 = b := ⟨_, rfl⟩
  obtain ⟨b1, h1⟩ : ∃ b, decide (0 ≤ x_1 ∧ x_1 ≤ 255) = b := ⟨_, rfl⟩
  have hR : noteB ⟨x_0, x_1⟩ = (b0 && b1) := by
    unfold noteB
    simp only
    rw [h0, h1]
  obtain ⟨R, hRR⟩ : ∃ R, noteB ⟨x_0, x_1⟩ = R := ⟨_, rfl⟩
  rw [hRR] at hR ⊢
  have HR := hid hR
  have HH0 := hid h0
  have HH1 := hid h1
  obtain ⟨W1, hW1⟩ : ∃ W, W = w.alloc (.cells #[.string x_0, .int .i64 x_1] 122) := ⟨_, rfl⟩
  have f0 := blk_new w (.cells #[.string x_0, .int .i64 x_1] 122)
  have hB1 := below_alloc (Below.refl w.heap.size w) (.cells #[.string x_0, .int .i64 x_1] 122)
  rw [← hW1] at f0 hB1
  have HW := hid hW1
  have G0 := hid (And.intro hB1 f0)
  have HSS := hid hs
  clear hs
  clear hR hRR hW1 f0 hB1 h0 h1
  go_enter Try.func105, Try.ntmps105
  go_wp2_with fail
  rw [← HW.out]
  refine (named_c x_0 W1 HSS.out).mono ?_
  rintro e w1 ⟨rfl, hb⟩
  rw [HH0.out]
  have G1 := hid (And.intro (below_step G0.out.1 hb) (blk_below G0.out.2 hb))
  clear hb
  have z1_0 : w1.cell? ⟨w.heap.size, 0, none⟩ = some (.string x_0) := blk_cell G1.out.2 0
  have z1_1 : w1.cell? ⟨w.heap.size, 1, none⟩ = some (.int .i64 x_1) := blk_cell G1.out.2 1
  cases b0
  · skip
    go_wp2
    try rw [← HW.out]
    go_ret
    exact ⟨by rw [HR.out] <;> rfl, G1.out.1⟩
  go_wp2_with fail
  refine (in9_c x_1 0 255 w1).mono ?_
  rintro e w2 ⟨rfl, hb⟩
  rw [HH1.out]
  have G2 := hid (And.intro (below_step G1.out.1 hb) (blk_below G1.out.2 hb))
  clear hb
  have z2_0 : w2.cell? ⟨w.heap.size, 0, none⟩ = some (.string x_0) := blk_cell G2.out.2 0
  have z2_1 : w2.cell? ⟨w.heap.size, 1, none⟩ = some (.int .i64 x_1) := blk_cell G2.out.2 1
  clear z1_0 z1_1
  cases b1
  · skip
    go_wp2
    try rw [← HW.out]
    go_ret
    exact ⟨by rw [HR.out] <;> rfl, G2.out.1⟩
  skip
  go_wp2
  try rw [← HW.out]
  go_ret
  exact ⟨by rw [HR.out] <;> rfl, G2.out.1⟩
set_option maxRecDepth 100000 in
theorem clos124_c (x_0 : ByteArray) (x_1 : Int) (P2 : Option Addr) (c2 : Nat) (x_2 : List Int) (P3 : Option Addr) (c3 : Nat) (x_3 : List S153) (w : World) (g : Nat) (hg : w.cell? ⟨g, 0, none⟩ = some (.func (.func 101) #[] #[])) (hC3 : Kd.C k153 w P3 x_3.length x_3) (hc3 : x_3.length ≤ c3) (hs : SB x_0 ∧ ∀ r ∈ x_3, SB r.f2) :
    Calls Try.prog 132 #[.agg #[.string x_0, .int .i64 x_1, .slice P2 x_2.length c2, .slice P3 x_3.length c3], .pointer (some ⟨g, 0, none⟩)] w fun e w' => e = .returned (.bool (!funcB ⟨x_0, x_1, x_2, x_3⟩)) ∧ Below w.heap.size w w' := by
  have HC3 := hid hC3
  have HSS := hid hs
  clear hC3 hs
  obtain ⟨W1, hW1⟩ : ∃ W, W = w.alloc (.cells #[.string x_0, .int .i64 x_1, .slice P2 x_2.length c2, .slice P3 x_3.length c3] 124) := ⟨_, rfl⟩
  have hB1 := below_alloc (Below.refl w.heap.size w) (.cells #[.string x_0, .int .i64 x_1, .slice P2 x_2.length c2, .slice P3 x_3.length c3] 124)
  have hgl := World.block_lt_of_cell? _ _ hg
  have hg1 := (hB1.cell hgl).trans hg
  have hne1 : ¬ g = w.heap.size := by have h2 : g < w.heap.size := hgl; omega
  have hne2 : ¬ w.heap.size = g := by omega
  rw [← hW1] at hB1
  have HW := hid hW1
  have H0 := hid hB1
  clear hB1 hW1 hgl
  go_enter Try.func132, Try.ntmps132
  go_wp2_with fail
  try rw [← HW.out]
  refine (function_c x_0 x_1 P2 c2 x_2 P3 c3 x_3 W1 (Kd.C_below HC3.out H0.out) hc3 HSS.out).mono ?_
  rintro e w1 ⟨rfl, hb⟩
  have H1 := hid (below_step H0.out hb)
  clear hb
  go_wp2
  go_ret
  exact ⟨rfl, H1.out⟩
set_option maxRecDepth 100000 in
theorem clos102_c (x_0 : ByteArray) (x_1 x_2 : Int) (x_3 : Bool) (x_4 : Int) (P5 : Option Addr) (c5 : Nat) (x_5 : List Int) (P6 : Option Addr) (c6 : Nat) (x_6 : List S153) (w : World) (g : Nat) (hg : w.cell? ⟨g, 0, none⟩ = some (.func (.func 103) #[] #[])) (hC3 : Kd.C k153 w P6 x_6.length x_6) (hc3 : x_6.length ≤ c6) (hs : SB x_0 ∧ ∀ r ∈ x_6, SB r.f2) :
    Calls Try.prog 136 #[.agg #[.string x_0, .int .i64 x_1, .int .i64 x_2, .bool x_3, .int .i64 x_4, .slice P5 x_5.length c5, .slice P6 x_6.length c6], .pointer (some ⟨g, 0, none⟩)] w fun e w' => e = .returned (.bool (!dataB ⟨x_0, x_1, x_2, x_3, x_4, x_5, x_6⟩)) ∧ Below w.heap.size w w' := by
  have HC3 := hid hC3
  have HSS := hid hs
  clear hC3 hs
  obtain ⟨W1, hW1⟩ : ∃ W, W = w.alloc (.cells #[.string x_0, .int .i64 x_1, .int .i64 x_2, .bool x_3, .int .i64 x_4, .slice P5 x_5.length c5, .slice P6 x_6.length c6] 102) := ⟨_, rfl⟩
  have hB1 := below_alloc (Below.refl w.heap.size w) (.cells #[.string x_0, .int .i64 x_1, .int .i64 x_2, .bool x_3, .int .i64 x_4, .slice P5 x_5.length c5, .slice P6 x_6.length c6] 102)
  have hgl := World.block_lt_of_cell? _ _ hg
  have hg1 := (hB1.cell hgl).trans hg
  have hne1 : ¬ g = w.heap.size := by have h2 : g < w.heap.size := hgl; omega
  have hne2 : ¬ w.heap.size = g := by omega
  rw [← hW1] at hB1
  have HW := hid hW1
  have H0 := hid hB1
  clear hB1 hW1 hgl
  go_enter Try.func136, Try.ntmps136
  go_wp2_with fail
  try rw [← HW.out]
  refine (data_c x_0 x_1 x_2 x_3 x_4 P5 c5 x_5 P6 c6 x_6 W1 (Kd.C_below HC3.out H0.out) hc3 HSS.out).mono ?_
  rintro e w1 ⟨rfl, hb⟩
  have H1 := hid (below_step H0.out hb)
  clear hb
  go_wp2
  go_ret
  exact ⟨rfl, H1.out⟩
set_option maxRecDepth 100000 in
theorem clos122_c (x_0 : ByteArray) (x_1 : Int) (w : World) (g : Nat) (hg : w.cell? ⟨g, 0, none⟩ = some (.func (.func 105) #[] #[])) (hs : SB x_0) :
    Calls Try.prog 138 #[.agg #[.string x_0, .int .i64 x_1], .pointer (some ⟨g, 0, none⟩)] w fun e w' => e = .returned (.bool (!noteB ⟨x_0, x_1⟩)) ∧ Below w.heap.size w w' := by
  have HSS := hid hs
  clear hs
  obtain ⟨W1, hW1⟩ : ∃ W, W = w.alloc (.cells #[.string x_0, .int .i64 x_1] 122) := ⟨_, rfl⟩
  have hB1 := below_alloc (Below.refl w.heap.size w) (.cells #[.string x_0, .int .i64 x_1] 122)
  have hgl := World.block_lt_of_cell? _ _ hg
  have hg1 := (hB1.cell hgl).trans hg
  have hne1 : ¬ g = w.heap.size := by have h2 : g < w.heap.size := hgl; omega
  have hne2 : ¬ w.heap.size = g := by omega
  rw [← hW1] at hB1
  have HW := hid hW1
  have H0 := hid hB1
  clear hB1 hW1 hgl
  go_enter Try.func138, Try.ntmps138
  go_wp2_with fail
  try rw [← HW.out]
  refine (note_c x_0 x_1 W1 HSS.out).mono ?_
  rintro e w1 ⟨rfl, hb⟩
  have H1 := hid (below_step H0.out hb)
  clear hb
  go_wp2
  go_ret
  exact ⟨rfl, H1.out⟩
set_option maxRecDepth 100000 in
set_option maxHeartbeats 1000000 in
theorem index124_c (A : Option Addr) (c : Nat) (l : List S124) (w : World) (hC : Kd.C k124 w A l.length l) (hc : l.length ≤ c) (hl : l.length ≤ 1000000) (hs : ∀ x ∈ l, SB x.f0 ∧ ∀ r ∈ x.f3, SB r.f2) (g : Nat) (hg : w.cell? ⟨g, 0, none⟩ = some (.func (.func 101) #[] #[])) :
    Calls Try.prog 146 #[.slice A l.length c, .func (.func 132) #[] #[.pointer (some ⟨g, 0, none⟩)]] w fun e w' => ∃ r : Int, e = .returned (.int .i64 r) ∧ decide (0 ≤ r) = !(l.all funcB) ∧ Below w.heap.size w w' := by
  have HC := hid hC
  have HS := hid hs
  clear hC hs
  go_enter Try.func146, Try.ntmps146
  go_wp2
  go_loopw [5, 8] (fun _ s8 wx => ∃ k : Nat, k ≤ l.length ∧ s8 = .int .i64 k ∧ Hid ((l.take k).all funcB = true ∧ Below w.heap.size w wx)) (fun _ s8 _ => l.length - (intOf s8).toNat)
  case atStart => exact ⟨0, by omega, rfl, hid ⟨by simp, Below.refl _ _⟩⟩
  case round =>
    obtain ⟨k, hk, rfl, hI⟩ := hrel
    by_cases hlt : (k : Int) < (l.length : Int)
    · have hk1 : k < l.length := by omega
      obtain ⟨ad, P2, c2, P3, c3, rfl, q0, q1, q2, q3, l2, g2, l3, g3⟩ := at_T124 (Kd.C_below HC.out hI.out.2) (k : Int) (by omega) (by omega)
      have rx : rd_T124 l (k : Int) = l[k] := by unfold rd_T124; rw [Int.toNat_natCast, List.getD_eq_getElem?_getD, List.getElem?_eq_getElem hk1]; rfl
      have e3 : IntKind.i64.wrap ((k : Int) + 1) = (k : Int) + 1 := IntWalk.i64_in _ (by omega)
      have hsx := HS.out _ (List.getElem_mem hk1)
      have hst : funcB l[k] = true → (l.take (k + 1)).all funcB = true := by
        intro h
        rw [List.take_add_one, List.all_append, hI.out.1, List.getElem?_eq_getElem hk1]
        simp [h]
      have hno : funcB l[k] = false → l.all funcB = false := by
        intro h
        rw [List.all_eq_false]
        exact ⟨l[k], List.getElem_mem hk1, by rw [h]; decide⟩
      generalize rd_T124 l (k : Int) = x at *
      rw [← rx] at hsx hst hno
      simp only [Int.toNat_natCast] at q0 q1 q2 q3
      clear rx
      obtain ⟨x_0, x_1, x_2, x_3⟩ := x
      dsimp only at q0 q1 q2 q3 hsx l2 g2 l3 g3
      have HX := hid (And.intro hst hno)
      clear hst hno
      go_wp2_with fail
      refine (clos124_c x_0 x_1 P2 c2 x_2 P3 c3 x_3 wr g ((hI.out.2.cell (World.block_lt_of_cell? _ _ hg)).trans hg) g3 l3 hsx).mono ?_
      rintro e w2 ⟨rfl, hb⟩
      have H2 := hid (below_step hI.out.2 hb)
      clear hb
      cases hB : funcB ⟨x_0, x_1, x_2, x_3⟩
      · have hall := HX.out.2 hB
        have HA := hid hall
        clear hall hB
        go_wp2
        go_ret
        exact ⟨k, rfl, by rw [HA.out]; simp, H2.out⟩
      · have hall := HX.out.1 hB
        have HA := hid hall
        clear hall hB
        go_wp2
        go_roundw
        case rel => exact ⟨k + 1, by omega, by go_num, hid ⟨HA.out, H2.out⟩⟩
        case measure => simp [intOf]; omega
    · have hk1 : k = l.length := by omega
      go_wp2
      go_ret
      refine ⟨-1, rfl, ?_, hI.out.2⟩
      have := hI.out.1
      rw [hk1, List.take_length] at this
      rw [this]; rfl
theorem contains124_c (A : Option Addr) (c : Nat) (l : List S124) (w : World) (hC : Kd.C k124 w A l.length l) (hc : l.length ≤ c) (hl : l.length ≤ 1000000) (hs : ∀ x ∈ l, SB x.f0 ∧ ∀ r ∈ x.f3, SB r.f2) (g : Nat) (hg : w.cell? ⟨g, 0, none⟩ = some (.func (.func 101) #[] #[])) :
    Calls Try.prog 131 #[.slice A l.length c, .func (.func 132) #[] #[.pointer (some ⟨g, 0, none⟩)]] w fun e w' => e = .returned (.bool (!(l.all funcB))) ∧ Below w.heap.size w w' := by
  have HC := hid hC
  have HS := hid hs
  clear hC hs
  go_enter Try.func131, Try.ntmps131
  go_wp2_with fail
  refine (index124_c A c l w HC.out hc hl HS.out g hg).mono ?_
  rintro e w1 ⟨r, rfl, hr, hb⟩
  have H1 := hid hb
  clear hb
  go_wp2
  go_ret
  exact ⟨by rw [← hr] <;> rfl, H1.out⟩
set_option maxRecDepth 100000 in
set_option maxHeartbeats 1000000 in
theorem index102_c (A : Option Addr) (c : Nat) (l : List S102) (w : World) (hC : Kd.C k102 w A l.length l) (hc : l.length ≤ c) (hl : l.length ≤ 1000000) (hs : ∀ x ∈ l, SB x.f0 ∧ ∀ r ∈ x.f6, SB r.f2) (g : Nat) (hg : w.cell? ⟨g, 0, none⟩ = some (.func (.func 103) #[] #[])) :
    Calls Try.prog 150 #[.slice A l.length c, .func (.func 136) #[] #[.pointer (some ⟨g, 0, none⟩)]] w fun e w' => ∃ r : Int, e = .returned (.int .i64 r) ∧ decide (0 ≤ r) = !(l.all dataB) ∧ Below w.heap.size w w' := by
  have HC := hid hC
  have HS := hid hs
  clear hC hs
  go_enter Try.func150, Try.ntmps150
  go_wp2
  go_loopw [5, 8] (fun _ s8 wx => ∃ k : Nat, k ≤ l.length ∧ s8 = .int .i64 k ∧ Hid ((l.take k).all dataB = true ∧ Below w.heap.size w wx)) (fun _ s8 _ => l.length - (intOf s8).toNat)
  case atStart => exact ⟨0, by omega, rfl, hid ⟨by simp, Below.refl _ _⟩⟩
  case round =>
    obtain ⟨k, hk, rfl, hI⟩ := hrel
    by_cases hlt : (k : Int) < (l.length : Int)
    · have hk1 : k < l.length := by omega
      obtain ⟨ad, P5, c5, P6, c6, rfl, q0, q1, q2, q3, q4, q5, q6, l2, g2, l3, g3⟩ := at_T102 (Kd.C_below HC.out hI.out.2) (k : Int) (by omega) (by omega)
      have rx : rd_T102 l (k : Int) = l[k] := by unfold rd_T102; rw [Int.toNat_natCast, List.getD_eq_getElem?_getD, List.getElem?_eq_getElem hk1]; rfl
      have e3 : IntKind.i64.wrap ((k : Int) + 1) = (k : Int) + 1 := IntWalk.i64_in _ (by omega)
      have hsx := HS.out _ (List.getElem_mem hk1)
      have hst : dataB l[k] = true → (l.take (k + 1)).all dataB = true := by
        intro h
        rw [List.take_add_one, List.all_append, hI.out.1, List.getElem?_eq_getElem hk1]
        simp [h]
      have hno : dataB l[k] = false → l.all dataB = false := by
        intro h
        rw [List.all_eq_false]
        exact ⟨l[k], List.getElem_mem hk1, by rw [h]; decide⟩
      generalize rd_T102 l (k : Int) = x at *
      rw [← rx] at hsx hst hno
      simp only [Int.toNat_natCast] at q0 q1 q2 q3 q4 q5 q6
      clear rx
      obtain ⟨x_0, x_1, x_2, x_3, x_4, x_5, x_6⟩ := x
      dsimp only at q0 q1 q2 q3 q4 q5 q6 hsx l2 g2 l3 g3
      have HX := hid (And.intro hst hno)
      clear hst hno
      go_wp2_with fail
      refine (clos102_c x_0 x_1 x_2 x_3 x_4 P5 c5 x_5 P6 c6 x_6 wr g ((hI.out.2.cell (World.block_lt_of_cell? _ _ hg)).trans hg) g3 l3 hsx).mono ?_
      rintro e w2 ⟨rfl, hb⟩
      have H2 := hid (below_step hI.out.2 hb)
      clear hb
      cases hB : dataB ⟨x_0, x_1, x_2, x_3, x_4, x_5, x_6⟩
      · have hall := HX.out.2 hB
        have HA := hid hall
        clear hall hB
        go_wp2
        go_ret
        exact ⟨k, rfl, by rw [HA.out]; simp, H2.out⟩
      · have hall := HX.out.1 hB
        have HA := hid hall
        clear hall hB
        go_wp2
        go_roundw
        case rel => exact ⟨k + 1, by omega, by go_num, hid ⟨HA.out, H2.out⟩⟩
        case measure => simp [intOf]; omega
    · have hk1 : k = l.length := by omega
      go_wp2
      go_ret
      refine ⟨-1, rfl, ?_, hI.out.2⟩
      have := hI.out.1
      rw [hk1, List.take_length] at this
      rw [this]; rfl
theorem contains102_c (A : Option Addr) (c : Nat) (l : List S102) (w : World) (hC : Kd.C k102 w A l.length l) (hc : l.length ≤ c) (hl : l.length ≤ 1000000) (hs : ∀ x ∈ l, SB x.f0 ∧ ∀ r ∈ x.f6, SB r.f2) (g : Nat) (hg : w.cell? ⟨g, 0, none⟩ = some (.func (.func 103) #[] #[])) :
    Calls Try.prog 135 #[.slice A l.length c, .func (.func 136) #[] #[.pointer (some ⟨g, 0, none⟩)]] w fun e w' => e = .returned (.bool (!(l.all dataB))) ∧ Below w.heap.size w w' := by
  have HC := hid hC
  have HS := hid hs
  clear hC hs
  go_enter Try.func135, Try.ntmps135
  go_wp2_with fail
  refine (index102_c A c l w HC.out hc hl HS.out g hg).mono ?_
  rintro e w1 ⟨r, rfl, hr, hb⟩
  have H1 := hid hb
  clear hb
  go_wp2
  go_ret
  exact ⟨by rw [← hr] <;> rfl, H1.out⟩
set_option maxRecDepth 100000 in
set_option maxHeartbeats 1000000 in
theorem index122_c (A : Option Addr) (c : Nat) (l : List S122) (w : World) (hC : Kd.C k122 w A l.length l) (hc : l.length ≤ c) (hl : l.length ≤ 1000000) (hs : ∀ x ∈ l, SB x.f0) (g : Nat) (hg : w.cell? ⟨g, 0, none⟩ = some (.func (.func 105) #[] #[])) :
    Calls Try.prog 151 #[.slice A l.length c, .func (.func 138) #[] #[.pointer (some ⟨g, 0, none⟩)]] w fun e w' => ∃ r : Int, e = .returned (.int .i64 r) ∧ decide (0 ≤ r) = !(l.all noteB) ∧ Below w.heap.size w w' := by
  have HC := hid hC
  have HS := hid hs
  clear hC hs
  go_enter Try.func151, Try.ntmps151
  go_wp2
  go_loopw [5, 8] (fun _ s8 wx => ∃ k : Nat, k ≤ l.length ∧ s8 = .int .i64 k ∧ Hid ((l.take k).all noteB = true ∧ Below w.heap.size w wx)) (fun _ s8 _ => l.length - (intOf s8).toNat)
  case atStart => exact ⟨0, by omega, rfl, hid ⟨by simp, Below.refl _ _⟩⟩
  case round =>
    obtain ⟨k, hk, rfl, hI⟩ := hrel
    by_cases hlt : (k : Int) < (l.length : Int)
    · have hk1 : k < l.length := by omega
      obtain ⟨ad, rfl, q0, q1⟩ := at_T122 (Kd.C_below HC.out hI.out.2) (k : Int) (by omega) (by omega)
      have rx : rd_T122 l (k : Int) = l[k] := by unfold rd_T122; rw [Int.toNat_natCast, List.getD_eq_getElem?_getD, List.getElem?_eq_getElem hk1]; rfl
      have e3 : IntKind.i64.wrap ((k : Int) + 1) = (k : Int) + 1 := IntWalk.i64_in _ (by omega)
      have hsx := HS.out _ (List.getElem_mem hk1)
      have hst : noteB l[k] = true → (l.take (k + 1)).all noteB = true := by
        intro h
        rw [List.take_add_one, List.all_append, hI.out.1, List.getElem?_eq_getElem hk1]
        simp [h]
      have hno : noteB l[k] = false → l.all noteB = false := by
        intro h
        rw [List.all_eq_false]
        exact ⟨l[k], List.getElem_mem hk1, by rw [h]; decide⟩
      generalize rd_T122 l (k : Int) = x at *
      rw [← rx] at hsx hst hno
      simp only [Int.toNat_natCast] at q0 q1
      clear rx
      obtain ⟨x_0, x_1⟩ := x
      dsimp only at q0 q1 hsx
      have HX := hid (And.intro hst hno)
      clear hst hno
      go_wp2_with fail
      refine (clos122_c x_0 x_1 wr g ((hI.out.2.cell (World.block_lt_of_cell? _ _ hg)).trans hg) hsx).mono ?_
      rintro e w2 ⟨rfl, hb⟩
      have H2 := hid (below_step hI.out.2 hb)
      clear hb
      cases hB : noteB ⟨x_0, x_1⟩
      · have hall := HX.out.2 hB
        have HA := hid hall
        clear hall hB
        go_wp2
        go_ret
        exact ⟨k, rfl, by rw [HA.out]; simp, H2.out⟩
      · have hall := HX.out.1 hB
        have HA := hid hall
        clear hall hB
        go_wp2
        go_roundw
        case rel => exact ⟨k + 1, by omega, by go_num, hid ⟨HA.out, H2.out⟩⟩
        case measure => simp [intOf]; omega
    · have hk1 : k = l.length := by omega
      go_wp2
      go_ret
      refine ⟨-1, rfl, ?_, hI.out.2⟩
      have := hI.out.1
      rw [hk1, List.take_length] at this
      rw [this]; rfl
theorem contains122_c (A : Option Addr) (c : Nat) (l : List S122) (w : World) (hC : Kd.C k122 w A l.length l) (hc : l.length ≤ c) (hl : l.length ≤ 1000000) (hs : ∀ x ∈ l, SB x.f0) (g : Nat) (hg : w.cell? ⟨g, 0, none⟩ = some (.func (.func 105) #[] #[])) :
    Calls Try.prog 137 #[.slice A l.length c, .func (.func 138) #[] #[.pointer (some ⟨g, 0, none⟩)]] w fun e w' => e = .returned (.bool (!(l.all noteB))) ∧ Below w.heap.size w w' := by
  have HC := hid hC
  have HS := hid hs
  clear hC hs
  go_enter Try.func137, Try.ntmps137
  go_wp2_with fail
  refine (index122_c A c l w HC.out hc hl HS.out g hg).mono ?_
  rintro e w1 ⟨r, rfl, hr, hb⟩
  have H1 := hid hb
  clear hb
  go_wp2
  go_ret
  exact ⟨by rw [← hr] <;> rfl, H1.out⟩
def all124B (l : List S124) : Bool := decide (l.length ≤ 64) && l.all funcB
set_option maxRecDepth 100000 in
theorem all124_c (A : Option Addr) (c : Nat) (l : List S124) (w : World) (hC : Kd.C k124 w A l.length l) (hc : l.length ≤ c) (hs : ∀ x ∈ l, SB x.f0 ∧ ∀ r ∈ x.f3, SB r.f2) :
    Calls Try.prog 100 #[.slice A l.length c, .func (.func 101) #[] #[]] w fun e w' => e = .returned (.bool (all124B l)) ∧ Below w.heap.size w w' := by
  have hmf : ∀ (fn : Fn) (first cap : Array Value) (w : World), (Instr.makeFunc fn first cap).run Try.prog w = .ok (.func fn first cap) w := fun _ _ _ _ => rfl
  have HC := hid hC
  have HS := hid hs
  clear hC hs
  by_cases hl : (l.length : Int) ≤ 64
  · obtain ⟨R, hA⟩ : ∃ R, l.all funcB = R := ⟨_, rfl⟩
    have hR : all124B l = R := by unfold all124B; rw [decide_eq_true (by omega), hA]; rfl
    rw [hR]
    have HRR := hid hA
    obtain ⟨W1, hW1⟩ : ∃ W, W = w.alloc (.cells #[.func (.func 101) #[] #[]] 126) := ⟨_, rfl⟩
    have f0 := blk_new w (.cells #[.func (.func 101) #[] #[]] 126)
    have hB1 := below_alloc (Below.refl w.heap.size w) (.cells #[.func (.func 101) #[] #[]] 126)
    rw [← hW1] at f0 hB1
    have HW := hid hW1
    have H0 := hid (And.intro hB1 f0)
    clear hR hA hW1 f0 hB1
    go_enter Try.func100, Try.ntmps100
    go_wp2_with fail
    rw [← HW.out]
    refine (contains124_c A c l W1 (Kd.C_below HC.out H0.out.1) hc (by omega) HS.out w.heap.size (blk_cell H0.out.2 0)).mono ?_
    rintro e w1 ⟨rfl, hb⟩
    rw [HRR.out]
    have H1 := hid (below_step H0.out.1 hb)
    clear hb HRR
    cases R
    · go_wp2
      go_ret
      exact ⟨rfl, H1.out⟩
    · go_wp2
      go_ret
      exact ⟨rfl, H1.out⟩
  · have hR : all124B l = false := by unfold all124B; rw [decide_eq_false (by omega)]; rfl
    rw [hR]
    clear hR
    go_enter Try.func100, Try.ntmps100
    go_wp2
    go_ret
    exact ⟨rfl, below_alloc (Below.refl _ _) _⟩
def all102B (l : List S102) : Bool := decide (l.length ≤ 64) && l.all dataB
set_option maxRecDepth 100000 in
theorem all102_c (A : Option Addr) (c : Nat) (l : List S102) (w : World) (hC : Kd.C k102 w A l.length l) (hc : l.length ≤ c) (hs : ∀ x ∈ l, SB x.f0 ∧ ∀ r ∈ x.f6, SB r.f2) :
    Calls Try.prog 102 #[.slice A l.length c, .func (.func 103) #[] #[]] w fun e w' => e = .returned (.bool (all102B l)) ∧ Below w.heap.size w w' := by
  have hmf : ∀ (fn : Fn) (first cap : Array Value) (w : World), (Instr.makeFunc fn first cap).run Try.prog w = .ok (.func fn first cap) w := fun _ _ _ _ => rfl
  have HC := hid hC
  have HS := hid hs
  clear hC hs
  by_cases hl : (l.length : Int) ≤ 64
  · obtain ⟨R, hA⟩ : ∃ R, l.all dataB = R := ⟨_, rfl⟩
    have hR : all102B l = R := by unfold all102B; rw [decide_eq_true (by omega), hA]; rfl
    rw [hR]
    have HRR := hid hA
    obtain ⟨W1, hW1⟩ : ∃ W, W = w.alloc (.cells #[.func (.func 103) #[] #[]] 128) := ⟨_, rfl⟩
    have f0 := blk_new w (.cells #[.func (.func 103) #[] #[]] 128)
    have hB1 := below_alloc (Below.refl w.heap.size w) (.cells #[.func (.func 103) #[] #[]] 128)
    rw [← hW1] at f0 hB1
    have HW := hid hW1
    have H0 := hid (And.intro hB1 f0)
    clear hR hA hW1 f0 hB1
    go_enter Try.func102, Try.ntmps102
    go_wp2_with fail
    rw [← HW.out]
    refine (contains102_c A c l W1 (Kd.C_below HC.out H0.out.1) hc (by omega) HS.out w.heap.size (blk_cell H0.out.2 0)).mono ?_
    rintro e w1 ⟨rfl, hb⟩
    rw [HRR.out]
    have H1 := hid (below_step H0.out.1 hb)
    clear hb HRR
    cases R
    · go_wp2
      go_ret
      exact ⟨rfl, H1.out⟩
    · go_wp2
      go_ret
      exact ⟨rfl, H1.out⟩
  · have hR : all102B l = false := by unfold all102B; rw [decide_eq_false (by omega)]; rfl
    rw [hR]
    clear hR
    go_enter Try.func102, Try.ntmps102
    go_wp2
    go_ret
    exact ⟨rfl, below_alloc (Below.refl _ _) _⟩
def all122B (l : List S122) : Bool := decide (l.length ≤ 64) && l.all noteB
set_option maxRecDepth 100000 in
theorem all122_c (A : Option Addr) (c : Nat) (l : List S122) (w : World) (hC : Kd.C k122 w A l.length l) (hc : l.length ≤ c) (hs : ∀ x ∈ l, SB x.f0) :
    Calls Try.prog 104 #[.slice A l.length c, .func (.func 105) #[] #[]] w fun e w' => e = .returned (.bool (all122B l)) ∧ Below w.heap.size w w' := by
  have hmf : ∀ (fn : Fn) (first cap : Array Value) (w : World), (Instr.makeFunc fn first cap).run Try.prog w = .ok (.func fn first cap) w := fun _ _ _ _ => rfl
  have HC := hid hC
  have HS := hid hs
  clear hC hs
  by_cases hl : (l.length : Int) ≤ 64
  · obtain ⟨R, hA⟩ : ∃ R, l.all noteB = R := ⟨_, rfl⟩
    have hR : all122B l = R := by unfold all122B; rw [decide_eq_true (by omega), hA]; rfl
    rw [hR]
    have HRR := hid hA
    obtain ⟨W1, hW1⟩ : ∃ W, W = w.alloc (.cells #[.func (.func 105) #[] #[]] 130) := ⟨_, rfl⟩
    have f0 := blk_new w (.cells #[.func (.func 105) #[] #[]] 130)
    have hB1 := below_alloc (Below.refl w.heap.size w) (.cells #[.func (.func 105) #[] #[]] 130)
    rw [← hW1] at f0 hB1
    have HW := hid hW1
    have H0 := hid (And.intro hB1 f0)
    clear hR hA hW1 f0 hB1
    go_enter Try.func104, Try.ntmps104
    go_wp2_with fail
    rw [← HW.out]
    refine (contains122_c A c l W1 (Kd.C_below HC.out H0.out.1) hc (by omega) HS.out w.heap.size (blk_cell H0.out.2 0)).mono ?_
    rintro e w1 ⟨rfl, hb⟩
    rw [HRR.out]
    have H1 := hid (below_step H0.out.1 hb)
    clear hb HRR
    cases R
    · go_wp2
      go_ret
      exact ⟨rfl, H1.out⟩
    · go_wp2
      go_ret
      exact ⟨rfl, H1.out⟩
  · have hR : all122B l = false := by unfold all122B; rw [decide_eq_false (by omega)]; rfl
    rw [hR]
    clear hR
    go_enter Try.func104, Try.ntmps104
    go_wp2
    go_ret
    exact ⟨rfl, below_alloc (Below.refl _ _) _⟩
end Go.Proofs.Ytmcfihpbiilbcaa.H
end
section
namespace Go.Proofs.Ytmcfihpbiilbcaa.H
open Go.RowKit Go.Proofs.YtmcfihpbiilbcaaW.PrintWords Go.Proofs.YtmcfihpbiilbcaaW.PrintLast Go.Proofs.YtmcfihpbiilbcaaW.PrintMore Go.Proofs.Ytmcfihpbiilbcaa.E
set_option linter.unusedVariables false
set_option linter.unusedSimpArgs false
def nmT (s : ByteArray) : List Int := (s.size : Int) % 256 :: bytesOf s
theorem putNm_c (s : ByteArray) (hs : s.size ≤ 140737488351232) (w : World) : Calls Try.prog 37 #[.string s] w fun e w' => ∃ v, e = .returned v ∧ RB w' w.heap.size v (nmT s) ∧ Below w.heap.size w w' := putName_c s hs w
def relS (r : S153) : List Int := putS r.f0 2 ++ (putS r.f1 1 ++ (nmT r.f2 ++ putS (r.f3 + 2147483648) 4))
def rP (l : List S153) (k : Nat) : List Int := putS l.length 2 ++ ((l.take k).map relS).flatten
def relsS (l : List S153) : List Int := rP l l.length
theorem putS1_len (n : Int) : (putS n 1).length = 1 := rfl
theorem putS2_len' (n : Int) : (putS n 2).length = 2 := rfl
theorem nmT_len {s : ByteArray} (h : namedB s = true) : (nmT s).length ≤ 33 ∧ s.size ≤ 32 := by
  have hs : s.size ≤ 32 := by unfold namedB at h; simp at h; omega
  unfold nmT
  rw [List.length_cons, bytesOf_length]
  omega
theorem relB_spec {r : S153} (h : relB r = true) : (0 ≤ r.f0 ∧ r.f0 ≤ 65535) ∧ (0 ≤ r.f1 ∧ r.f1 ≤ 255) ∧ namedB r.f2 = true ∧ -1048576 ≤ r.f3 ∧ r.f3 ≤ 1048576 := by
  unfold relB at h
  simp only [Bool.and_eq_true, decide_eq_true_eq] at h
  exact h
theorem relS_len {r : S153} (h : relB r = true) : (relS r).length ≤ 40 := by
  have := (nmT_len (relB_spec h).2.2.1).1
  unfold relS
  simp only [List.length_append, putS1_len, putS2_len', putS4_len]
  omega
theorem rP_step (l : List S153) (k : Nat) (h : k < l.length) : rP l (k + 1) = rP l k ++ relS l[k] := by
  unfold rP
  rw [List.take_add_one, List.map_append, List.flatten_append, List.getElem?_eq_getElem h]
  simp
theorem relsB_spec {l : List S153} (h : relsB l = true) : l.length ≤ 64 ∧ ∀ r ∈ l, relB r = true := by
  unfold relsB at h
  simpa only [Bool.and_eq_true, decide_eq_true_eq, List.all_eq_true] using h
theorem rP_len (l : List S153) (h : ∀ r ∈ l, relB r = true) : ∀ k, k ≤ l.length → (rP l k).length ≤ 2 + 40 * k := by
  intro k
  induction k with
  | zero => intro _; unfold rP; simp [putS2_len']
  | succ k ih =>
    intro hk
    rw [rP_step l k (by omega), List.length_append]
    have := relS_len (h l[k] (List.getElem_mem (by omega)))
    have := ih (by omega)
    omega
set_option maxRecDepth 100000 in
set_option maxHeartbeats 4000000 in
theorem putRels_c (A : Option Addr) (c : Nat) (l : List S153) (w : World) (hC : Kd.C k153 w A l.length l) (hc : l.length ≤ c) (hB : relsB l = true) :
    Calls Try.prog 139 #[.slice A l.length c] w fun e w' => ∃ A' c', e = .returned (.slice A' (relsS l).length c') ∧ (relsS l).length ≤ c' ∧ CB w' A' (relsS l) ∧ Below w.heap.size w w' := by
  obtain ⟨hl, hall⟩ := relsB_spec hB
  have HC := hid hC
  have HB := hid hall
  clear hC hB hall
  go_enter Try.func139, Try.ntmps139
  go_wp2_with fail
  refine (sput_c (l.length : Int) 2 (by omega) (by omega) w).mono ?_
  rintro e w1 ⟨A1, c1, rfl, hc1, hC1, hb1⟩
  have hr0 : putS (l.length : Int) 2 = rP l 0 := by unfold rP; simp
  rw [hr0] at hc1 hC1 ⊢
  have H1 := hid (And.intro hc1 (And.intro hC1 hb1))
  clear hc1 hC1 hb1 hr0
  go_wp2
  go_loopw [3, 5, 11] (fun s3 _ s11 wx => ∃ (k : Nat) (S6 : Option Addr) (d6 : Nat), k ≤ l.length ∧ s11 = .int .i64 k ∧ s3 = .slice S6 (rP l k).length d6 ∧ Hid ((rP l k).length ≤ d6 ∧ CB wx S6 (rP l k) ∧ Below w.heap.size w wx)) (fun _ _ s11 _ => l.length - (intOf s11).toNat)
  case atStart => exact ⟨0, A1, c1, by omega, rfl, rfl, hid ⟨H1.out.1, H1.out.2.1, H1.out.2.2⟩⟩
  case round =>
    obtain ⟨k, S6, d6, hk, rfl, rfl, hI⟩ := hrel
    by_cases hlt : (k : Int) < (l.length : Int)
    · have hk1 : k < l.length := by omega
      obtain ⟨ad, rfl, q0, q1, q2, q3⟩ := at_T153 (Kd.C_below HC.out hI.out.2.2) (k : Int) (by omega) (by omega)
      have rx : rd_T153 l (k : Int) = l[k] := by unfold rd_T153; rw [Int.toNat_natCast, List.getD_eq_getElem?_getD, List.getElem?_eq_getElem hk1]; rfl
      have e3 : IntKind.i64.wrap ((k : Int) + 1) = (k : Int) + 1 := IntWalk.i64_in _ (by omega)
      have hst := rP_step l k hk1
      have hln := rP_len l HB.out k hk
      have hrb := HB.out _ (List.getElem_mem hk1)
      generalize rd_T153 l (k : Int) = x at *
      rw [← rx] at hst hrb
      simp only [Int.toNat_natCast] at q0 q1 q2 q3
      clear rx
      obtain ⟨x_0, x_1, x_2, x_3⟩ := x
      dsimp only at q0 q1 q2 q3
      obtain ⟨b1, b2, b3, b4⟩ := relB_spec hrb
      dsimp only at b1 b2 b3 b4
      have hn2 := nmT_len b3
      obtain ⟨hd6, hD6, hBw⟩ := hI.out
      obtain ⟨O, hO⟩ : ∃ O, rP l k = O := ⟨_, rfl⟩
      rw [hO] at hst hln hd6 hD6 ⊢
      have e4 : IntKind.i64.wrap (x_3 + 2147483648) = x_3 + 2147483648 := IntWalk.i64_in _ (by omega)
      obtain ⟨W1, hW1⟩ : ∃ W, W = wr.alloc (.cells #[.int .i64 x_0, .int .i64 x_1, .string x_2, .int .i64 x_3] 153) := ⟨_, rfl⟩
      have f0 := blk_new wr (.cells #[.int .i64 x_0, .int .i64 x_1, .string x_2, .int .i64 x_3] 153)
      have hB1 := below_alloc (Below.refl wr.heap.size wr) (.cells #[.int .i64 x_0, .int .i64 x_1, .string x_2, .int .i64 x_3] 153)
      rw [← hW1] at f0 hB1
      have HW := hid hW1
      have hfact : ∀ W, Below W1.heap.size W1 W → W.cell? ⟨wr.heap.size, 0, none⟩ = some (.int .i64 x_0) ∧ W.cell? ⟨wr.heap.size, 1, none⟩ = some (.int .i64 x_1) ∧ W.cell? ⟨wr.heap.size, 2, none⟩ = some (.string x_2) ∧ W.cell? ⟨wr.heap.size, 3, none⟩ = some (.int .i64 x_3) :=
        fun W hb => ⟨blk_cell (blk_below f0 hb) 0, blk_cell (blk_below f0 hb) 1, blk_cell (blk_below f0 hb) 2, blk_cell (blk_below f0 hb) 3⟩
      have HF := hid hfact
      have HQ := hid (Kd.C_below hD6 hB1)
      have HX := hid (And.intro (show x_2.size ≤ 140737488351232 by have := hn2.2; omega) (And.intro (show O.length ≤ 2 + 40 * 64 by omega) (show (nmT x_2).length ≤ 33 from hn2.1)))
      have HBW := hid (below_step hBw hB1)
      have HS := hid (And.intro hst hO)
      clear hst hln hrb b3 hn2 hD6 hBw hI hO hfact hW1 f0 hB1
      go_wp2
      rw [← HW.out]
      refine start_ (n := 17) (S := fun W => Below W1.heap.size W1 W) (ds := []) #[false, false, false, false, false, false, false, false, false, false, false, false, false, false, false, false, false] (by kernel_rfl) rfl rfl (Below.refl _ _).drew (fun hHeld => ?_)
      refine pure_ (i := 0) (N := (some 15)) (v := ?_) (a' := ?_) #[true, false, false, false, false, false, false, false, false, false, false, false, false, false, false, false, false] rfl rfl (by kernel_rfl) (fun _ _ _ h => h) (Or.inl ⟨by rfl, ?_⟩) ?_ ?_
      rotate_left
      · intro w'
        go_simp
        with_reducible rfl
      rotate_left
      · simp only [Act.put, List.setIfInBounds_toArray, List.set_cons_zero, List.set_cons_succ, i64_w]
        rfl
      refine pure_ (i := 1) (N := (some 16)) (v := ?_) (a' := ?_) #[true, true, false, false, false, false, false, false, false, false, false, false, false, false, false, false, false] rfl rfl (by kernel_rfl) (fun _ _ _ h => h) (Or.inl ⟨by rfl, ?_⟩) ?_ ?_
      rotate_left
      · intro w'
        go_simp
        with_reducible rfl
      rotate_left
      · simp only [Act.put, List.setIfInBounds_toArray, List.set_cons_zero, List.set_cons_succ, i64_w]
        rfl
      refine take_ (i := 2) (N := (some 17)) (v := ?_) (a' := ?_) #[true, true, true, false, false, false, false, false, false, false, false, false, false, false, false, false, false] rfl rfl (by kernel_rfl) (fun _ _ _ h => h) (Or.inl ⟨by rfl, ?_⟩) hHeld ?_ ?_
      rotate_left
      · rintro w' s0; obtain ⟨c0_, c1_, c2_, c3_⟩ := HF.out w' s0
        go_simp
        with_reducible rfl
      rotate_left
      · simp only [Act.put, List.setIfInBounds_toArray, List.set_cons_zero, List.set_cons_succ, i64_w]
        rfl
      refine pure_ (i := 4) (N := (some 19)) (v := ?_) (a' := ?_) #[true, true, true, false, true, false, false, false, false, false, false, false, false, false, false, false, false] rfl rfl (by kernel_rfl) (fun _ _ _ h => h) (Or.inl ⟨by rfl, ?_⟩) ?_ ?_
      rotate_left
      · intro w'
        go_simp
        with_reducible rfl
      rotate_left
      · simp only [Act.put, List.setIfInBounds_toArray, List.set_cons_zero, List.set_cons_succ, i64_w]
        rfl
      refine take_ (i := 5) (N := (some 20)) (v := ?_) (a' := ?_) #[true, true, true, false, true, true, false, false, false, false, false, false, false, false, false, false, false] rfl rfl (by kernel_rfl) (fun _ _ _ h => h) (Or.inl ⟨by rfl, ?_⟩) hHeld ?_ ?_
      rotate_left
      · rintro w' s0; obtain ⟨c0_, c1_, c2_, c3_⟩ := HF.out w' s0
        go_simp
        with_reducible rfl
      rotate_left
      · simp only [Act.put, List.setIfInBounds_toArray, List.set_cons_zero, List.set_cons_succ, i64_w]
        rfl
      refine pure_ (i := 7) (N := (some 22)) (v := ?_) (a' := ?_) #[true, true, true, false, true, true, false, true, false, false, false, false, false, false, false, false, false] rfl rfl (by kernel_rfl) (fun _ _ _ h => h) (Or.inl ⟨by rfl, ?_⟩) ?_ ?_
      rotate_left
      · intro w'
        go_simp
        with_reducible rfl
      rotate_left
      · simp only [Act.put, List.setIfInBounds_toArray, List.set_cons_zero, List.set_cons_succ, i64_w]
        rfl
      refine take_ (i := 8) (N := (some 23)) (v := ?_) (a' := ?_) #[true, true, true, false, true, true, false, true, true, false, false, false, false, false, false, false, false] rfl rfl (by kernel_rfl) (fun _ _ _ h => h) (Or.inl ⟨by rfl, ?_⟩) hHeld ?_ ?_
      rotate_left
      · rintro w' s0; obtain ⟨c0_, c1_, c2_, c3_⟩ := HF.out w' s0
        go_simp
        with_reducible rfl
      rotate_left
      · simp only [Act.put, List.setIfInBounds_toArray, List.set_cons_zero, List.set_cons_succ, i64_w]
        rfl
      refine pure_ (i := 10) (N := (some 25)) (v := ?_) (a' := ?_) #[true, true, true, false, true, true, false, true, true, false, true, false, false, false, false, false, false] rfl rfl (by kernel_rfl) (fun _ _ _ h => h) (Or.inl ⟨by rfl, ?_⟩) ?_ ?_
      rotate_left
      · intro w'
        go_simp
        with_reducible rfl
      rotate_left
      · simp only [Act.put, List.setIfInBounds_toArray, List.set_cons_zero, List.set_cons_succ, i64_w]
        rfl
      refine take_ (i := 11) (N := (some 26)) (v := ?_) (a' := ?_) #[true, true, true, false, true, true, false, true, true, false, true, true, false, false, false, false, false] rfl rfl (by kernel_rfl) (fun _ _ _ h => h) (Or.inl ⟨by rfl, ?_⟩) hHeld ?_ ?_
      rotate_left
      · rintro w' s0; obtain ⟨c0_, c1_, c2_, c3_⟩ := HF.out w' s0
        go_simp
        with_reducible rfl
      rotate_left
      · simp only [Act.put, List.setIfInBounds_toArray, List.set_cons_zero, List.set_cons_succ, i64_w]
        rfl
      refine pure_ (i := 12) (N := (some 27)) (v := ?_) (a' := ?_) #[true, true, true, false, true, true, false, true, true, false, true, true, true, false, false, false, false] rfl rfl (by kernel_rfl) (fun _ _ _ h => h) (Or.inl ⟨by rfl, ?_⟩) ?_ ?_
      rotate_left
      · intro w'
        go_simp
        with_reducible rfl
      rotate_left
      · simp only [Act.put, List.setIfInBounds_toArray, List.set_cons_zero, List.set_cons_succ, i64_w]
        rfl
      refine one_ (i := 3) (N := (some 18)) #[true, true, true, true, true, true, false, true, true, false, true, true, true, false, false, false, false] rfl rfl (by kernel_rfl) (by decide) (fun K hK => ?_)
      refine goes_ Try.func35 (by kernel_rfl) rfl #[.int .i64 x_0, .int .i64 2] (by rfl) rfl rfl (by first | rfl | (simp only [List.map_toArray, List.map_cons, List.map_nil]; rfl)) ?_
      refine (sput_c x_0 2 (by omega) (by omega) _).mono ?_
      rintro e' w3 ⟨A3, c3_, rfl, hc3, hC3, hb3⟩
      have HB3 := hid ((show Below W1.heap.size W1 W1.drew from (Below.refl _ _).drew).trans (hb3.mono (Nat.le_refl _)))
      have HP3 := hid (And.intro hC3 hc3)
      clear hb3 hC3 hc3
      refine ⟨_, rfl, ?_⟩
      refine hK.out _ _ HB3.out (fun hHeld => ?_)
      clear hK K
      refine norm_ (a' := ?_) ?_ ?_
      rotate_left
      · show Act.put _ (some 18) _ = _
        simp only [Act.put, List.setIfInBounds_toArray, List.set_cons_zero, List.set_cons_succ, i64_w]
        rfl
      refine one_ (i := 6) (N := (some 21)) #[true, true, true, true, true, true, true, true, true, false, true, true, true, false, false, false, false] rfl rfl (by kernel_rfl) (by decide) (fun K hK => ?_)
      refine goes_ Try.func35 (by kernel_rfl) rfl #[.int .i64 x_1, .int .i64 1] (by rfl) rfl rfl (by first | rfl | (simp only [List.map_toArray, List.map_cons, List.map_nil]; rfl)) ?_
      refine (sput_c x_1 1 (by omega) (by omega) _).mono ?_
      rintro e' w6 ⟨A6, c6_, rfl, hc6, hC6, hb6⟩
      have HB6 := hid (HB3.out.trans (hb6.mono HB3.out.size))
      have HP6 := hid (And.intro hC6 hc6)
      have nP := hid (And.intro (Kd.C_below HP3.out.1 hb6) HP3.out.2)
      clear HP3
      have HP3 := nP
      clear nP
      clear hb6 hC6 hc6
      refine ⟨_, rfl, ?_⟩
      refine hK.out _ _ HB6.out (fun hHeld => ?_)
      clear hK K
      refine norm_ (a' := ?_) ?_ ?_
      rotate_left
      · show Act.put _ (some 21) _ = _
        simp only [Act.put, List.setIfInBounds_toArray, List.set_cons_zero, List.set_cons_succ, i64_w]
        rfl
      refine one_ (i := 9) (N := (some 24)) #[true, true, true, true, true, true, true, true, true, true, true, true, true, false, false, false, false] rfl rfl (by kernel_rfl) (by decide) (fun K hK => ?_)
      refine goes_ Try.func37 (by kernel_rfl) rfl #[.string x_2] (by rfl) rfl rfl (by first | rfl | (simp only [List.map_toArray, List.map_cons, List.map_nil]; rfl)) ?_
      refine (putNm_c x_2 HX.out.1 _).mono ?_
      rintro e' w9 ⟨v9, rfl, hR9, hb9⟩
      obtain ⟨A9, c9_, rfl, hc9, hC9⟩ := Kd.R_reads hR9
      have HB9 := hid (HB6.out.trans (hb9.mono HB6.out.size))
      have HP9 := hid (And.intro hC9 hc9)
      have nP := hid (And.intro (Kd.C_below HP3.out.1 hb9) HP3.out.2)
      clear HP3
      have HP3 := nP
      clear nP
      have nP := hid (And.intro (Kd.C_below HP6.out.1 hb9) HP6.out.2)
      clear HP6
      have HP6 := nP
      clear nP
      clear hb9 hC9 hc9 hR9
      refine ⟨_, rfl, ?_⟩
      refine hK.out _ _ HB9.out (fun hHeld => ?_)
      clear hK K
      refine norm_ (a' := ?_) ?_ ?_
      rotate_left
      · show Act.put _ (some 24) _ = _
        simp only [Act.put, List.setIfInBounds_toArray, List.set_cons_zero, List.set_cons_succ, i64_w]
        rfl
      refine one_ (i := 13) (N := (some 28)) #[true, true, true, true, true, true, true, true, true, true, true, true, true, true, false, false, false] rfl rfl (by kernel_rfl) (by decide) (fun K hK => ?_)
      refine goes_ Try.func35 (by kernel_rfl) rfl #[.int .i64 (x_3 + 2147483648), .int .i64 4] (by rfl) rfl rfl (by first | rfl | (simp only [List.map_toArray, List.map_cons, List.map_nil]; rfl)) ?_
      refine (sput_c (x_3 + 2147483648) 4 (by omega) (by omega) _).mono ?_
      rintro e' w13 ⟨A13, c13_, rfl, hc13, hC13, hb13⟩
      have HB13 := hid (HB9.out.trans (hb13.mono HB9.out.size))
      have HP13 := hid (And.intro hC13 hc13)
      have nP := hid (And.intro (Kd.C_below HP3.out.1 hb13) HP3.out.2)
      clear HP3
      have HP3 := nP
      clear nP
      have nP := hid (And.intro (Kd.C_below HP6.out.1 hb13) HP6.out.2)
      clear HP6
      have HP6 := nP
      clear nP
      have nP := hid (And.intro (Kd.C_below HP9.out.1 hb13) HP9.out.2)
      clear HP9
      have HP9 := nP
      clear nP
      clear hb13 hC13 hc13
      refine ⟨_, rfl, ?_⟩
      refine hK.out _ _ HB13.out (fun hHeld => ?_)
      clear hK K
      refine norm_ (a' := ?_) ?_ ?_
      rotate_left
      · show Act.put _ (some 28) _ = _
        simp only [Act.put, List.setIfInBounds_toArray, List.set_cons_zero, List.set_cons_succ, i64_w]
        rfl
      refine one_ (i := 14) (N := (some 29)) #[true, true, true, true, true, true, true, true, true, true, true, true, true, true, true, false, false] rfl rfl (by kernel_rfl) (by decide) (fun K hK => ?_)
      go_simp
      have HB14 := hid (HB13.out.alloc HB13.out.size (.cells #[.slice S6 O.length d6, .slice A3 (putS x_0 2).length c3_, .slice A6 (putS x_1 1).length c6_, .slice A9 (nmT x_2).length c9_, .slice A13 (putS (x_3 + 2147483648) 4).length c13_] 22))
      refine hK.out _ _ HB14.out (fun hHeld => ?_)
      clear hK K
      refine one_ (i := 15) (N := (some 30)) #[true, true, true, true, true, true, true, true, true, true, true, true, true, true, true, true, false] rfl rfl (by kernel_rfl) (by decide) (fun K hK => ?_)
      refine goes_ Try.func89 (by kernel_rfl) rfl #[.slice (some ⟨w13.heap.size, 0, none⟩) 5 5] (by rfl) rfl rfl (by first | rfl | (simp only [List.map_toArray, List.map_cons, List.map_nil]; rfl)) ?_
      refine (concat_c (some ⟨w13.heap.size, 0, none⟩) 5 [O, putS x_0 2, putS x_1 1, nmT x_2, putS (x_3 + 2147483648) 4] _ ?_ (by simp) (by simp) ?_).mono ?_
      · refine CL_block (blk_new w13 _) (by simp) (fun j l hj => ?_)
        match j, hj with
        | 0, hj => simp at hj; subst hj; exact ⟨S6, d6, rfl, hd6, Kd.C_alloc (Kd.C_below HQ.out HB13.out) _⟩
        | 1, hj => simp at hj; subst hj; exact ⟨A3, c3_, rfl, HP3.out.2, Kd.C_alloc HP3.out.1 _⟩
        | 2, hj => simp at hj; subst hj; exact ⟨A6, c6_, rfl, HP6.out.2, Kd.C_alloc HP6.out.1 _⟩
        | 3, hj => simp at hj; subst hj; exact ⟨A9, c9_, rfl, HP9.out.2, Kd.C_alloc HP9.out.1 _⟩
        | 4, hj => simp at hj; subst hj; exact ⟨A13, c13_, rfl, HP13.out.2, Kd.C_alloc HP13.out.1 _⟩
        | j + 5, hj => simp at hj
      · have h1 := HX.out.2.1
        have h2 := HX.out.2.2
        simp only [List.flatten_cons, List.flatten_nil, List.length_append, List.length_nil, putS1_len, putS2_len', putS4_len]
        omega
      rintro e' w15 ⟨v15, rfl, hR15, hb15⟩
      have HB15 := hid (HB14.out.trans (hb15.mono HB14.out.size))
      have HR15 := hid hR15
      have HZ15 := hid HB14.out.size
      clear hR15 hb15
      refine ⟨_, rfl, ?_⟩
      refine hK.out _ _ HB15.out (fun hHeld => ?_)
      clear hK K
      refine norm_ (a' := ?_) ?_ ?_
      rotate_left
      · show Act.put _ (some 30) _ = _
        simp only [Act.put, List.setIfInBounds_toArray, List.set_cons_zero, List.set_cons_succ, i64_w]
        rfl
      refine pure_ (i := 16) (N := (some 3)) (v := ?_) (a' := ?_) #[true, true, true, true, true, true, true, true, true, true, true, true, true, true, true, true, true] rfl rfl (by kernel_rfl) (fun _ _ _ h => h) (Or.inl ⟨by rfl, ?_⟩) ?_ ?_
      rotate_left
      · intro w'
        go_simp
        with_reducible rfl
      rotate_left
      · simp only [Act.put, List.setIfInBounds_toArray, List.set_cons_zero, List.set_cons_succ, i64_w]
        rfl
      refine done_ (by kernel_rfl) ?_
      obtain ⟨A15, c15_, rfl, hc15, hC15⟩ := Kd.R_reads HR15.out
      have hfl : [O, putS x_0 2, putS x_1 1, nmT x_2, putS (x_3 + 2147483648) 4].flatten = rP l (k + 1) := by
        rw [HS.out.1]
        unfold relS
        simp [List.flatten]
      rw [hfl] at hc15 hC15 ⊢
      have H15 := hid (And.intro hc15 (And.intro hC15 (below_step HBW.out HB15.out)))
      clear hc15 hC15 hfl
      go_wp2
      go_roundw
      case rel => exact ⟨k + 1, A15, c15_, by omega, by go_num, rfl, H15⟩
      case measure => simp [intOf]; omega
    · have hkl : k = l.length := by omega
      subst hkl
      go_wp2
      go_ret
      exact ⟨S6, d6, rfl, hI.out⟩
end Go.Proofs.Ytmcfihpbiilbcaa.H
end
section
namespace Go.Proofs.Ytmcfihpbiilbcaa.H
open Go.RowKit Go.Proofs.YtmcfihpbiilbcaaW.PrintWords Go.Proofs.YtmcfihpbiilbcaaW.PrintLast Go.Proofs.YtmcfihpbiilbcaaW.PrintMore Go.Proofs.Ytmcfihpbiilbcaa.E
set_option linter.unusedVariables false
set_option linter.unusedSimpArgs false
def cP (l : List Int) (k : Nat) : List Int := ((l.take k).map (fun y => putS y 4)).flatten
theorem cP_step (l : List Int) (k : Nat) (h : k < l.length) : cP l (k + 1) = cP l k ++ putS l[k] 4 := by
  unfold cP
  rw [List.take_add_one, List.map_append, List.flatten_append, List.getElem?_eq_getElem h]
  simp
theorem cP_len (l : List Int) : ∀ k, k ≤ l.length → (cP l k).length = 4 * k := by
  intro k
  induction k with
  | zero => intro _; rfl
  | succ k ih =>
    intro hk
    rw [cP_step l k (by omega), List.length_append, ih (by omega), putS4_len]
    omega
def fH (x : S124) : List Int := nmT x.f0 ++ (putS x.f1 1 ++ putS x.f2.length 2)
def funcS (x : S124) : List Int := fH x ++ cP x.f2 x.f2.length ++ relsS x.f3
def dataS (x : S102) : List Int := nmT x.f0 ++ (putS x.f1 1 ++ (putS x.f2 1 ++ (putS (if x.f3 = true then 1 else 0) 1 ++ (putS x.f4 2 ++ (putS x.f5.length 2 ++ (x.f5 ++ relsS x.f6))))))
def noteS (x : S122) : List Int := nmT x.f0 ++ putS x.f1 1
theorem funcB_spec {x : S124} (h : funcB x = true) : namedB x.f0 = true ∧ (1 ≤ x.f1 ∧ x.f1 ≤ 255) ∧ x.f2.length ≤ 2000 ∧ relsB x.f3 = true := by
  unfold funcB at h
  simp only [Bool.and_eq_true, decide_eq_true_eq] at h
  exact h
theorem dataB_spec {x : S102} (h : dataB x = true) : namedB x.f0 = true ∧ (1 ≤ x.f1 ∧ x.f1 ≤ 255) ∧ (0 ≤ x.f2 ∧ x.f2 ≤ 255) ∧ (0 ≤ x.f4 ∧ x.f4 ≤ 65535) ∧ x.f5.length ≤ 4096 ∧ relsB x.f6 = true := by
  unfold dataB at h
  simp only [Bool.and_eq_true, decide_eq_true_eq] at h
  exact h
theorem relsS_len {l : List S153} (h : relsB l = true) : (relsS l).length ≤ 2600 := by
  obtain ⟨h1, h2⟩ := relsB_spec h
  have := rP_len l h2 l.length (Nat.le_refl _)
  unfold relsS
  omega
set_option maxRecDepth 100000 in
set_option maxHeartbeats 4000000 in
theorem putFunc_c (x_0 : ByteArray) (x_1 : Int) (P2 : Option Addr) (p2 : Nat) (x_2 : List Int) (P3 : Option Addr) (p3 : Nat) (x_3 : List S153) (w : World) (hC2 : Kd.C (Kd.int .u32) w P2 x_2.length x_2) (hc2 : x_2.length ≤ p2) (hC3 : Kd.C k153 w P3 x_3.length x_3) (hc3 : x_3.length ≤ p3)
    (hB : funcB ⟨x_0, x_1, x_2, x_3⟩ = true) (hby : ∀ y ∈ x_2, 0 ≤ y ∧ y ≤ 4294967295) :
    Calls Try.prog 106 #[.agg #[.string x_0, .int .i64 x_1, .slice P2 x_2.length p2, .slice P3 x_3.length p3]] w fun e w' => ∃ v, e = .returned v ∧ RB w' w.heap.size v (funcS ⟨x_0, x_1, x_2, x_3⟩) ∧ Below w.heap.size w w' := by
  obtain ⟨b1, b2, b3, b4⟩ := funcB_spec hB
  dsimp only at b1 b2 b3 b4
  have hn2 := nmT_len b1
  have hrl := relsS_len b4
  have HX := hid (And.intro (show x_0.size ≤ 140737488351232 by have := hn2.2; omega) (And.intro (show (nmT x_0).length ≤ 33 from hn2.1) (And.intro hrl b4)))
  have HC := hid (And.intro hC2 hC3)
  have HY := hid hby
  obtain ⟨W1, hW1⟩ : ∃ W, W = w.alloc (.cells #[.string x_0, .int .i64 x_1, .slice P2 x_2.length p2, .slice P3 x_3.length p3] 124) := ⟨_, rfl⟩
  have f0 := blk_new w (.cells #[.string x_0, .int .i64 x_1, .slice P2 x_2.length p2, .slice P3 x_3.length p3] 124)
  have hB1 := below_alloc (Below.refl w.heap.size w) (.cells #[.string x_0, .int .i64 x_1, .slice P2 x_2.length p2, .slice P3 x_3.length p3] 124)
  rw [← hW1] at f0 hB1
  have HW := hid hW1
  have hfact : ∀ W, Below W1.heap.size W1 W → W.cell? ⟨w.heap.size, 0, none⟩ = some (.string x_0) ∧ W.cell? ⟨w.heap.size, 1, none⟩ = some (.int .i64 x_1) ∧ W.cell? ⟨w.heap.size, 2, none⟩ = some (.slice P2 x_2.length p2) ∧ W.cell? ⟨w.heap.size, 3, none⟩ = some (.slice P3 x_3.length p3) :=
    fun W hb => ⟨blk_cell (blk_below f0 hb) 0, blk_cell (blk_below f0 hb) 1, blk_cell (blk_below f0 hb) 2, blk_cell (blk_below f0 hb) 3⟩
  have HF := hid hfact
  have H0 := hid hB1
  clear b1 b4 hn2 hrl hC2 hC3 hby hB hW1 f0 hB1 hfact
  go_enter Try.func106, Try.ntmps106
  go_wp2
  rw [← HW.out]
  refine start_ (n := 13) (S := fun W => Below W1.heap.size W1 W) (ds := []) #[false, false, false, false, false, false, false, false, false, false, false, false, false] (by kernel_rfl) rfl rfl (Below.refl _ _).drew (fun hHeld => ?_)
  refine pure_ (i := 0) (N := (some 6)) (v := ?_) (a' := ?_) #[true, false, false, false, false, false, false, false, false, false, false, false, false] rfl rfl (by kernel_rfl) (fun _ _ _ h => h) (Or.inl ⟨by rfl, ?_⟩) ?_ ?_
  rotate_left
  · intro w'
    go_simp
    with_reducible rfl
  rotate_left
  · simp only [Act.put, List.setIfInBounds_toArray, List.set_cons_zero, List.set_cons_succ, i64_w]
    rfl
  refine take_ (i := 1) (N := (some 7)) (v := ?_) (a' := ?_) #[true, true, false, false, false, false, false, false, false, false, false, false, false] rfl rfl (by kernel_rfl) (fun _ _ _ h => h) (Or.inl ⟨by rfl, ?_⟩) hHeld ?_ ?_
  rotate_left
  · rintro w' s0; obtain ⟨c0_, c1_, c2_, c3_⟩ := HF.out w' s0
    go_simp
    with_reducible rfl
  rotate_left
  · simp only [Act.put, List.setIfInBounds_toArray, List.set_cons_zero, List.set_cons_succ, i64_w]
    rfl
  refine pure_ (i := 3) (N := (some 9)) (v := ?_) (a' := ?_) #[true, true, false, true, false, false, false, false, false, false, false, false, false] rfl rfl (by kernel_rfl) (fun _ _ _ h => h) (Or.inl ⟨by rfl, ?_⟩) ?_ ?_
  rotate_left
  · intro w'
    go_simp
    with_reducible rfl
  rotate_left
  · simp only [Act.put, List.setIfInBounds_toArray, List.set_cons_zero, List.set_cons_succ, i64_w]
    rfl
  refine take_ (i := 4) (N := (some 10)) (v := ?_) (a' := ?_) #[true, true, false, true, true, false, false, false, false, false, false, false, false] rfl rfl (by kernel_rfl) (fun _ _ _ h => h) (Or.inl ⟨by rfl, ?_⟩) hHeld ?_ ?_
  rotate_left
  · rintro w' s0; obtain ⟨c0_, c1_, c2_, c3_⟩ := HF.out w' s0
    go_simp
    with_reducible rfl
  rotate_left
  · simp only [Act.put, List.setIfInBounds_toArray, List.set_cons_zero, List.set_cons_succ, i64_w]
    rfl
  refine pure_ (i := 6) (N := (some 12)) (v := ?_) (a' := ?_) #[true, true, false, true, true, false, true, false, false, false, false, false, false] rfl rfl (by kernel_rfl) (fun _ _ _ h => h) (Or.inl ⟨by rfl, ?_⟩) ?_ ?_
  rotate_left
  · intro w'
    go_simp
    with_reducible rfl
  rotate_left
  · simp only [Act.put, List.setIfInBounds_toArray, List.set_cons_zero, List.set_cons_succ, i64_w]
    rfl
  refine take_ (i := 7) (N := (some 13)) (v := ?_) (a' := ?_) #[true, true, false, true, true, false, true, true, false, false, false, false, false] rfl rfl (by kernel_rfl) (fun _ _ _ h => h) (Or.inl ⟨by rfl, ?_⟩) hHeld ?_ ?_
  rotate_left
  · rintro w' s0; obtain ⟨c0_, c1_, c2_, c3_⟩ := HF.out w' s0
    go_simp
    with_reducible rfl
  rotate_left
  · simp only [Act.put, List.setIfInBounds_toArray, List.set_cons_zero, List.set_cons_succ, i64_w]
    rfl
  refine pure_ (i := 8) (N := (some 14)) (v := ?_) (a' := ?_) #[true, true, false, true, true, false, true, true, true, false, false, false, false] rfl rfl (by kernel_rfl) (fun _ _ _ h => h) (Or.inl ⟨by rfl, ?_⟩) ?_ ?_
  rotate_left
  · intro w'
    go_simp
    with_reducible rfl
  rotate_left
  · simp only [Act.put, List.setIfInBounds_toArray, List.set_cons_zero, List.set_cons_succ, i64_w]
    rfl
  refine one_ (i := 2) (N := (some 8)) #[true, true, true, true, true, false, true, true, true, false, false, false, false] rfl rfl (by kernel_rfl) (by decide) (fun K hK => ?_)
  refine goes_ Try.func37 (by kernel_rfl) rfl #[.string x_0] (by rfl) rfl rfl (by first | rfl | (simp only [List.map_toArray, List.map_cons, List.map_nil]; rfl)) ?_
  refine (putNm_c x_0 HX.out.1 _).mono ?_
  rintro e' w2 ⟨v2, rfl, hR2, hb2⟩
  obtain ⟨A2, c2_, rfl, hc2, hC2⟩ := Kd.R_reads hR2
  have HB2 := hid ((show Below W1.heap.size W1 W1.drew from (Below.refl _ _).drew).trans (hb2.mono (Nat.le_refl _)))
  have HP2 := hid (And.intro hC2 hc2)
  clear hb2 hC2 hc2 hR2
  refine ⟨_, rfl, ?_⟩
  refine hK.out _ _ HB2.out (fun hHeld => ?_)
  clear hK K
  refine norm_ (a' := ?_) ?_ ?_
  rotate_left
  · show Act.put _ (some 8) _ = _
    simp only [Act.put, List.setIfInBounds_toArray, List.set_cons_zero, List.set_cons_succ, i64_w]
    rfl
  refine one_ (i := 5) (N := (some 11)) #[true, true, true, true, true, true, true, true, true, false, false, false, false] rfl rfl (by kernel_rfl) (by decide) (fun K hK => ?_)
  refine goes_ Try.func35 (by kernel_rfl) rfl #[.int .i64 x_1, .int .i64 1] (by rfl) rfl rfl (by first | rfl | (simp only [List.map_toArray, List.map_cons, List.map_nil]; rfl)) ?_
  refine (sput_c x_1 1 (by omega) (by omega) _).mono ?_
  rintro e' w5 ⟨A5, c5_, rfl, hc5, hC5, hb5⟩
  have HB5 := hid (HB2.out.trans (hb5.mono HB2.out.size))
  have HP5 := hid (And.intro hC5 hc5)
  have nP := hid (And.intro (Kd.C_below HP2.out.1 hb5) HP2.out.2)
  clear HP2
  have HP2 := nP
  clear nP
  clear hb5 hC5 hc5
  refine ⟨_, rfl, ?_⟩
  refine hK.out _ _ HB5.out (fun hHeld => ?_)
  clear hK K
  refine norm_ (a' := ?_) ?_ ?_
  rotate_left
  · show Act.put _ (some 11) _ = _
    simp only [Act.put, List.setIfInBounds_toArray, List.set_cons_zero, List.set_cons_succ, i64_w]
    rfl
  refine one_ (i := 9) (N := (some 15)) #[true, true, true, true, true, true, true, true, true, true, false, false, false] rfl rfl (by kernel_rfl) (by decide) (fun K hK => ?_)
  refine goes_ Try.func35 (by kernel_rfl) rfl #[.int .i64 (x_2.length : Int), .int .i64 2] (by rfl) rfl rfl (by first | rfl | (simp only [List.map_toArray, List.map_cons, List.map_nil]; rfl)) ?_
  refine (sput_c (x_2.length : Int) 2 (by omega) (by omega) _).mono ?_
  rintro e' w9 ⟨A9, c9_, rfl, hc9, hC9, hb9⟩
  have HB9 := hid (HB5.out.trans (hb9.mono HB5.out.size))
  have HP9 := hid (And.intro hC9 hc9)
  have nP := hid (And.intro (Kd.C_below HP2.out.1 hb9) HP2.out.2)
  clear HP2
  have HP2 := nP
  clear nP
  have nP := hid (And.intro (Kd.C_below HP5.out.1 hb9) HP5.out.2)
  clear HP5
  have HP5 := nP
  clear nP
  clear hb9 hC9 hc9
  refine ⟨_, rfl, ?_⟩
  refine hK.out _ _ HB9.out (fun hHeld => ?_)
  clear hK K
  refine norm_ (a' := ?_) ?_ ?_
  rotate_left
  · show Act.put _ (some 15) _ = _
    simp only [Act.put, List.setIfInBounds_toArray, List.set_cons_zero, List.set_cons_succ, i64_w]
    rfl
  refine one_ (i := 10) (N := (some 16)) #[true, true, true, true, true, true, true, true, true, true, true, false, false] rfl rfl (by kernel_rfl) (by decide) (fun K hK => ?_)
  go_simp
  have HB10 := hid (HB9.out.alloc HB9.out.size (.cells #[.slice A2 (nmT x_0).length c2_, .slice A5 (putS x_1 1).length c5_, .slice A9 (putS (x_2.length : Int) 2).length c9_] 22))
  refine hK.out _ _ HB10.out (fun hHeld => ?_)
  clear hK K
  refine one_ (i := 11) (N := (some 17)) #[true, true, true, true, true, true, true, true, true, true, true, true, false] rfl rfl (by kernel_rfl) (by decide) (fun K hK => ?_)
  refine goes_ Try.func89 (by kernel_rfl) rfl #[.slice (some ⟨w9.heap.size, 0, none⟩) 3 3] (by rfl) rfl rfl (by first | rfl | (simp only [List.map_toArray, List.map_cons, List.map_nil]; rfl)) ?_
  refine (concat_c (some ⟨w9.heap.size, 0, none⟩) 3 [nmT x_0, putS x_1 1, putS (x_2.length : Int) 2] _ ?_ (by simp) (by simp) ?_).mono ?_
  · refine CL_block (blk_new w9 _) (by simp) (fun j l hj => ?_)
    match j, hj with
    | 0, hj => simp at hj; subst hj; exact ⟨A2, c2_, rfl, HP2.out.2, Kd.C_alloc HP2.out.1 _⟩
    | 1, hj => simp at hj; subst hj; exact ⟨A5, c5_, rfl, HP5.out.2, Kd.C_alloc HP5.out.1 _⟩
    | 2, hj => simp at hj; subst hj; exact ⟨A9, c9_, rfl, HP9.out.2, Kd.C_alloc HP9.out.1 _⟩
    | j + 3, hj => simp at hj
  · have h1 := HX.out.2.1
    simp only [List.flatten_cons, List.flatten_nil, List.length_append, List.length_nil, putS1_len, putS2_len']
    omega
  rintro e' w11 ⟨v11, rfl, hR11, hb11⟩
  have HB11 := hid (HB10.out.trans (hb11.mono HB10.out.size))
  have HR11 := hid hR11
  have HZ11 := hid HB10.out.size
  clear hR11 hb11
  refine ⟨_, rfl, ?_⟩
  refine hK.out _ _ HB11.out (fun hHeld => ?_)
  clear hK K
  refine norm_ (a' := ?_) ?_ ?_
  rotate_left
  · show Act.put _ (some 17) _ = _
    simp only [Act.put, List.setIfInBounds_toArray, List.set_cons_zero, List.set_cons_succ, i64_w]
    rfl
  refine pure_ (i := 12) (N := (some 3)) (v := ?_) (a' := ?_) #[true, true, true, true, true, true, true, true, true, true, true, true, true] rfl rfl (by kernel_rfl) (fun _ _ _ h => h) (Or.inl ⟨by rfl, ?_⟩) ?_ ?_
  rotate_left
  · intro w'
    go_simp
    with_reducible rfl
  rotate_left
  · simp only [Act.put, List.setIfInBounds_toArray, List.set_cons_zero, List.set_cons_succ, i64_w]
    rfl
  refine done_ (by kernel_rfl) ?_
  obtain ⟨O0, hO0⟩ : ∃ O, [nmT x_0, putS x_1 1, putS (x_2.length : Int) 2].flatten = O := ⟨_, rfl⟩
  have hfh : O0 = fH ⟨x_0, x_1, x_2, x_3⟩ := by
    rw [← hO0]
    unfold fH
    simp [List.flatten]
  have hR11 := HR11.out
  rw [hO0] at hR11
  have hl0 : O0.length ≤ 36 := by
    rw [hfh]
    have := HX.out.2.1
    unfold fH
    simp only [List.length_append, putS1_len, putS2_len']
    omega
  obtain ⟨c0_, c1_, c2_, c3_⟩ := HF.out w11 HB11.out
  have H11 := hid (And.intro (Kd.R_lower (base' := W1.heap.size) hR11 (by have h1 := HZ11.out; omega)) HB11.out)
  have HO := hid (And.intro hfh hl0)
  clear hR11 hO0 hfh hl0
  have hO0c : O0 = O0 ++ cP x_2 0 := by unfold cP; simp
  have H11c := hid (show RB w11 W1.heap.size v11 (O0 ++ cP x_2 0) by rw [← hO0c]; exact H11.out.1)
  clear hO0c
  go_wp2
  go_loopw [3, 5, 21] (fun s3 _ s21 wx => ∃ (k : Nat), k ≤ x_2.length ∧ s21 = .int .i64 k ∧ Hid (RB wx W1.heap.size s3 (O0 ++ cP x_2 k) ∧ Below W1.heap.size W1 wx)) (fun _ _ s21 _ => x_2.length - (intOf s21).toNat)
  case atStart => exact ⟨0, by omega, rfl, hid ⟨H11c.out, H11.out.2⟩⟩
  case round =>
    obtain ⟨k, hk, rfl, hI⟩ := hrel
    obtain ⟨c0_, c1_, c2_, c3_⟩ := HF.out wr hI.out.2
    by_cases hlt : (k : Int) < (x_2.length : Int)
    · have hk1 : k < x_2.length := by omega
      obtain ⟨ad, rfl, q0⟩ := wordAt (Kd.C_below HC.out.1 (below_step H0.out hI.out.2)) k hk1
      have hst := cP_step x_2 k hk1
      have hln := cP_len x_2 k hk
      have hyb := HY.out _ (List.getElem_mem hk1)
      obtain ⟨y, hy⟩ : ∃ y, x_2[k] = y := ⟨_, rfl⟩
      rw [hy] at q0 hst hyb
      have e3 : IntKind.i64.wrap ((k : Int) + 1) = (k : Int) + 1 := IntWalk.i64_in _ (by omega)
      have e4 : wrap64 y = y := wrap64_id (by omega) (by omega)
      have e5 : IntKind.i64.wrap y = y := IntWalk.i64_in _ (by omega)
      obtain ⟨O, hO⟩ : ∃ O, O0 ++ cP x_2 k = O := ⟨_, rfl⟩
      have hR := hI.out.1
      rw [hO] at hR
      have hOl : O.length ≤ 36 + 4 * 2000 := by rw [← hO, List.length_append]; have := HO.out.2; omega
      have hst2 : O ++ putS y 4 = O0 ++ cP x_2 (k + 1) := by rw [← hO, hst, List.append_assoc]
      have HS := hid hst2
      have HRR := hid (And.intro hR hI.out.2)
      clear hst hln hyb hy hO hR hst2 hI c0_ c1_ c2_ c3_
      go_wp2_with fail
      refine (sput_c y 4 (by omega) (by omega) _).mono ?_
      rintro e wM ⟨A1, c1, rfl, hc1, hC1, hb⟩
      have H1 := hid (And.intro (Kd.R_below HRR.out.1 hb) (And.intro hC1 (below_step HRR.out.2 hb)))
      have hlx : O.length + (putS y 4).length ≤ 140737488355328 := by rw [putS4_len]; omega
      clear hb hC1
      go_wp2_with (at_builtin; refine app_c (w0 := W1) W1.heap.size rfl (.tmp 25) (.tmp 28) rfl _ O (putS y 4) A1 c1 rfl rfl H1.out.1 H1.out.2.1 H1.out.2.2 H1.out.2.2.size hlx ?_; intro vN wN hr hb hg hat; rw [HS.out] at hr; have H2 := hid (And.intro hr hb); clear hr hb hg hat hlx)
      go_roundw
      case rel => exact ⟨k + 1, by omega, by go_num, H2⟩
      case measure => simp [intOf]; omega
    · have hkl : k = x_2.length := by omega
      subst hkl
      obtain ⟨O, hO⟩ : ∃ O, O0 ++ cP x_2 x_2.length = O := ⟨_, rfl⟩
      have hR := hI.out.1
      rw [hO] at hR
      have hOl : O.length ≤ 36 + 4 * 2000 := by rw [← hO, List.length_append, cP_len x_2 _ (Nat.le_refl _)]; have := HO.out.2; omega
      have hfin : O ++ relsS x_3 = funcS ⟨x_0, x_1, x_2, x_3⟩ := by
        rw [← hO]
        unfold funcS
        rw [← HO.out.1]
      have HRR := hid (And.intro hR hI.out.2)
      have HFN := hid hfin
      clear hR hfin hI hO
      go_wp2_with fail
      refine (putRels_c P3 p3 x_3 wr (Kd.C_below HC.out.2 (below_step H0.out HRR.out.2)) hc3 HX.out.2.2.2).mono ?_
      rintro e wM ⟨A1, c1, rfl, hc1, hC1, hb⟩
      have H1 := hid (And.intro (Kd.R_below HRR.out.1 hb) (And.intro hC1 (below_step HRR.out.2 hb)))
      have hlx : O.length + (relsS x_3).length ≤ 140737488355328 := by have := HX.out.2.2.1; omega
      clear hb hC1 c0_ c1_ c2_ c3_
      go_wp2_with (at_builtin; refine app_c (w0 := W1) W1.heap.size rfl (.tmp 31) (.tmp 34) rfl _ O (relsS x_3) A1 c1 rfl rfl H1.out.1 H1.out.2.1 H1.out.2.2 H1.out.2.2.size hlx ?_; intro vN wN hr hb hg hat; rw [HFN.out] at hr; have H2 := hid (And.intro hr hb); clear hr hb hg hat hlx)
      go_ret
      exact ⟨_, rfl, Kd.R_lower H2.out.1 H0.out.size, below_step H0.out H2.out.2⟩
set_option maxRecDepth 100000 in
set_option maxHeartbeats 4000000 in
theorem putData_true (x_0 : ByteArray) (x_1 x_2 x_4 : Int) (P5 : Option Addr) (p5 : Nat) (x_5 : List Int) (P6 : Option Addr) (p6 : Nat) (x_6 : List S153) (w : World) (hC2 : CB w P5 x_5) (hc2 : x_5.length ≤ p5) (hC3 : Kd.C k153 w P6 x_6.length x_6) (hc3 : x_6.length ≤ p6)
    (hB : dataB ⟨x_0, x_1, x_2, true, x_4, x_5, x_6⟩ = true) :
    Calls Try.prog 107 #[.agg #[.string x_0, .int .i64 x_1, .int .i64 x_2, .bool true, .int .i64 x_4, .slice P5 x_5.length p5, .slice P6 x_6.length p6]] w fun e w' => ∃ v, e = .returned v ∧ RB w' w.heap.size v (dataS ⟨x_0, x_1, x_2, true, x_4, x_5, x_6⟩) ∧ Below w.heap.size w w' := by
  obtain ⟨b1, b2, b3, b4, b5, b6⟩ := dataB_spec hB
  dsimp only at b1 b2 b3 b4 b5 b6
  have hn2 := nmT_len b1
  have hrl := relsS_len b6
  have HX := hid (And.intro (show x_0.size ≤ 140737488351232 by have := hn2.2; omega) (And.intro (show (nmT x_0).length ≤ 33 from hn2.1) (And.intro hrl b6)))
  obtain ⟨W1, hW1⟩ : ∃ W, W = w.alloc (.cells #[.string x_0, .int .i64 x_1, .int .i64 x_2, .bool true, .int .i64 x_4, .slice P5 x_5.length p5, .slice P6 x_6.length p6] 102) := ⟨_, rfl⟩
  have f0 := blk_new w (.cells #[.string x_0, .int .i64 x_1, .int .i64 x_2, .bool true, .int .i64 x_4, .slice P5 x_5.length p5, .slice P6 x_6.length p6] 102)
  have hB1 := below_alloc (Below.refl w.heap.size w) (.cells #[.string x_0, .int .i64 x_1, .int .i64 x_2, .bool true, .int .i64 x_4, .slice P5 x_5.length p5, .slice P6 x_6.length p6] 102)
  rw [← hW1] at f0 hB1
  have HW := hid hW1
  have hfact : ∀ W, Below W1.heap.size W1 W → W.cell? ⟨w.heap.size, 0, none⟩ = some (.string x_0) ∧ W.cell? ⟨w.heap.size, 1, none⟩ = some (.int .i64 x_1) ∧ W.cell? ⟨w.heap.size, 2, none⟩ = some (.int .i64 x_2) ∧ W.cell? ⟨w.heap.size, 3, none⟩ = some (.bool true) ∧ W.cell? ⟨w.heap.size, 4, none⟩ = some (.int .i64 x_4) ∧ W.cell? ⟨w.heap.size, 5, none⟩ = some (.slice P5 x_5.length p5) ∧ W.cell? ⟨w.heap.size, 6, none⟩ = some (.slice P6 x_6.length p6) :=
    fun W hb => ⟨blk_cell (blk_below f0 hb) 0, blk_cell (blk_below f0 hb) 1, blk_cell (blk_below f0 hb) 2, blk_cell (blk_below f0 hb) 3, blk_cell (blk_below f0 hb) 4, blk_cell (blk_below f0 hb) 5, blk_cell (blk_below f0 hb) 6⟩
  have HF := hid hfact
  have H0 := hid hB1
  have HC := hid (And.intro (Kd.C_below hC2 hB1) (Kd.C_below hC3 hB1))
  clear b1 b6 hn2 hrl hC2 hC3 hB hW1 f0 hB1 hfact
  go_enter Try.func107, Try.ntmps107
  go_wp2
  rw [← HW.out]
  refine start_ (n := 26) (S := fun W => Below W1.heap.size W1 W) (ds := []) #[false, false, false, false, false, false, false, false, false, false, false, false, false, false, false, false, false, false, false, false, false, false, false, false, false, false] (by kernel_rfl) rfl rfl (Below.refl _ _).drew (fun hHeld => ?_)
  refine pure_ (i := 0) (N := (some 6)) (v := ?_) (a' := ?_) #[true, false, false, false, false, false, false, false, false, false, false, false, false, false, false, false, false, false, false, false, false, false, false, false, false, false] rfl rfl (by kernel_rfl) (fun _ _ _ h => h) (Or.inl ⟨by rfl, ?_⟩) ?_ ?_
  rotate_left
  · intro w'
    go_simp
    with_reducible rfl
  rotate_left
  · simp only [Act.put, List.setIfInBounds_toArray, List.set_cons_zero, List.set_cons_succ, i64_w]
    rfl
  refine take_ (i := 1) (N := (some 7)) (v := ?_) (a' := ?_) #[true, true, false, false, false, false, false, false, false, false, false, false, false, false, false, false, false, false, false, false, false, false, false, false, false, false] rfl rfl (by kernel_rfl) (fun _ _ _ h => h) (Or.inl ⟨by rfl, ?_⟩) hHeld ?_ ?_
  rotate_left
  · rintro w' s0; obtain ⟨c0_, c1_, c2_, c3_, c4_, c5_, c6_⟩ := HF.out w' s0
    go_simp
    with_reducible rfl
  rotate_left
  · simp only [Act.put, List.setIfInBounds_toArray, List.set_cons_zero, List.set_cons_succ, i64_w]
    rfl
  refine pure_ (i := 3) (N := (some 9)) (v := ?_) (a' := ?_) #[true, true, false, true, false, false, false, false, false, false, false, false, false, false, false, false, false, false, false, false, false, false, false, false, false, false] rfl rfl (by kernel_rfl) (fun _ _ _ h => h) (Or.inl ⟨by rfl, ?_⟩) ?_ ?_
  rotate_left
  · intro w'
    go_simp
    with_reducible rfl
  rotate_left
  · simp only [Act.put, List.setIfInBounds_toArray, List.set_cons_zero, List.set_cons_succ, i64_w]
    rfl
  refine take_ (i := 4) (N := (some 10)) (v := ?_) (a' := ?_) #[true, true, false, true, true, false, false, false, false, false, false, false, false, false, false, false, false, false, false, false, false, false, false, false, false, false] rfl rfl (by kernel_rfl) (fun _ _ _ h => h) (Or.inl ⟨by rfl, ?_⟩) hHeld ?_ ?_
  rotate_left
  · rintro w' s0; obtain ⟨c0_, c1_, c2_, c3_, c4_, c5_, c6_⟩ := HF.out w' s0
    go_simp
    with_reducible rfl
  rotate_left
  · simp only [Act.put, List.setIfInBounds_toArray, List.set_cons_zero, List.set_cons_succ, i64_w]
    rfl
  refine pure_ (i := 6) (N := (some 12)) (v := ?_) (a' := ?_) #[true, true, false, true, true, false, true, false, false, false, false, false, false, false, false, false, false, false, false, false, false, false, false, false, false, false] rfl rfl (by kernel_rfl) (fun _ _ _ h => h) (Or.inl ⟨by rfl, ?_⟩) ?_ ?_
  rotate_left
  · intro w'
    go_simp
    with_reducible rfl
  rotate_left
  · simp only [Act.put, List.setIfInBounds_toArray, List.set_cons_zero, List.set_cons_succ, i64_w]
    rfl
  refine take_ (i := 7) (N := (some 13)) (v := ?_) (a' := ?_) #[true, true, false, true, true, false, true, true, false, false, false, false, false, false, false, false, false, false, false, false, false, false, false, false, false, false] rfl rfl (by kernel_rfl) (fun _ _ _ h => h) (Or.inl ⟨by rfl, ?_⟩) hHeld ?_ ?_
  rotate_left
  · rintro w' s0; obtain ⟨c0_, c1_, c2_, c3_, c4_, c5_, c6_⟩ := HF.out w' s0
    go_simp
    with_reducible rfl
  rotate_left
  · simp only [Act.put, List.setIfInBounds_toArray, List.set_cons_zero, List.set_cons_succ, i64_w]
    rfl
  refine pure_ (i := 9) (N := (some 15)) (v := ?_) (a' := ?_) #[true, true, false, true, true, false, true, true, false, true, false, false, false, false, false, false, false, false, false, false, false, false, false, false, false, false] rfl rfl (by kernel_rfl) (fun _ _ _ h => h) (Or.inl ⟨by rfl, ?_⟩) ?_ ?_
  rotate_left
  · intro w'
    go_simp
    with_reducible rfl
  rotate_left
  · simp only [Act.put, List.setIfInBounds_toArray, List.set_cons_zero, List.set_cons_succ, i64_w]
    rfl
  refine pure_ (i := 11) (N := (some 17)) (v := ?_) (a' := ?_) #[true, true, false, true, true, false, true, true, false, true, false, true, false, false, false, false, false, false, false, false, false, false, false, false, false, false] rfl rfl (by kernel_rfl) (fun _ _ _ h => h) (Or.inl ⟨by rfl, ?_⟩) ?_ ?_
  rotate_left
  · intro w'
    go_simp
    with_reducible rfl
  rotate_left
  · simp only [Act.put, List.setIfInBounds_toArray, List.set_cons_zero, List.set_cons_succ, i64_w]
    rfl
  refine take_ (i := 12) (N := (some 18)) (v := ?_) (a' := ?_) #[true, true, false, true, true, false, true, true, false, true, false, true, true, false, false, false, false, false, false, false, false, false, false, false, false, false] rfl rfl (by kernel_rfl) (fun _ _ _ h => h) (Or.inl ⟨by rfl, ?_⟩) hHeld ?_ ?_
  rotate_left
  · rintro w' s0; obtain ⟨c0_, c1_, c2_, c3_, c4_, c5_, c6_⟩ := HF.out w' s0
    go_simp
    with_reducible rfl
  rotate_left
  · simp only [Act.put, List.setIfInBounds_toArray, List.set_cons_zero, List.set_cons_succ, i64_w]
    rfl
  refine pure_ (i := 14) (N := (some 20)) (v := ?_) (a' := ?_) #[true, true, false, true, true, false, true, true, false, true, false, true, true, false, true, false, false, false, false, false, false, false, false, false, false, false] rfl rfl (by kernel_rfl) (fun _ _ _ h => h) (Or.inl ⟨by rfl, ?_⟩) ?_ ?_
  rotate_left
  · intro w'
    go_simp
    with_reducible rfl
  rotate_left
  · simp only [Act.put, List.setIfInBounds_toArray, List.set_cons_zero, List.set_cons_succ, i64_w]
    rfl
  refine take_ (i := 15) (N := (some 21)) (v := ?_) (a' := ?_) #[true, true, false, true, true, false, true, true, false, true, false, true, true, false, true, true, false, false, false, false, false, false, false, false, false, false] rfl rfl (by kernel_rfl) (fun _ _ _ h => h) (Or.inl ⟨by rfl, ?_⟩) hHeld ?_ ?_
  rotate_left
  · rintro w' s0; obtain ⟨c0_, c1_, c2_, c3_, c4_, c5_, c6_⟩ := HF.out w' s0
    go_simp
    with_reducible rfl
  rotate_left
  · simp only [Act.put, List.setIfInBounds_toArray, List.set_cons_zero, List.set_cons_succ, i64_w]
    rfl
  refine pure_ (i := 16) (N := (some 22)) (v := ?_) (a' := ?_) #[true, true, false, true, true, false, true, true, false, true, false, true, true, false, true, true, true, false, false, false, false, false, false, false, false, false] rfl rfl (by kernel_rfl) (fun _ _ _ h => h) (Or.inl ⟨by rfl, ?_⟩) ?_ ?_
  rotate_left
  · intro w'
    go_simp
    with_reducible rfl
  rotate_left
  · simp only [Act.put, List.setIfInBounds_toArray, List.set_cons_zero, List.set_cons_succ, i64_w]
    rfl
  refine pure_ (i := 18) (N := (some 24)) (v := ?_) (a' := ?_) #[true, true, false, true, true, false, true, true, false, true, false, true, true, false, true, true, true, false, true, false, false, false, false, false, false, false] rfl rfl (by kernel_rfl) (fun _ _ _ h => h) (Or.inl ⟨by rfl, ?_⟩) ?_ ?_
  rotate_left
  · intro w'
    go_simp
    with_reducible rfl
  rotate_left
  · simp only [Act.put, List.setIfInBounds_toArray, List.set_cons_zero, List.set_cons_succ, i64_w]
    rfl
  refine take_ (i := 19) (N := (some 25)) (v := ?_) (a' := ?_) #[true, true, false, true, true, false, true, true, false, true, false, true, true, false, true, true, true, false, true, true, false, false, false, false, false, false] rfl rfl (by kernel_rfl) (fun _ _ _ h => h) (Or.inl ⟨by rfl, ?_⟩) hHeld ?_ ?_
  rotate_left
  · rintro w' s0; obtain ⟨c0_, c1_, c2_, c3_, c4_, c5_, c6_⟩ := HF.out w' s0
    go_simp
    with_reducible rfl
  rotate_left
  · simp only [Act.put, List.setIfInBounds_toArray, List.set_cons_zero, List.set_cons_succ, i64_w]
    rfl
  refine pure_ (i := 20) (N := (some 26)) (v := ?_) (a' := ?_) #[true, true, false, true, true, false, true, true, false, true, false, true, true, false, true, true, true, false, true, true, true, false, false, false, false, false] rfl rfl (by kernel_rfl) (fun _ _ _ h => h) (Or.inl ⟨by rfl, ?_⟩) ?_ ?_
  rotate_left
  · intro w'
    go_simp
    with_reducible rfl
  rotate_left
  · simp only [Act.put, List.setIfInBounds_toArray, List.set_cons_zero, List.set_cons_succ, i64_w]
    rfl
  refine take_ (i := 21) (N := (some 27)) (v := ?_) (a' := ?_) #[true, true, false, true, true, false, true, true, false, true, false, true, true, false, true, true, true, false, true, true, true, true, false, false, false, false] rfl rfl (by kernel_rfl) (fun _ _ _ h => h) (Or.inl ⟨by rfl, ?_⟩) hHeld ?_ ?_
  rotate_left
  · rintro w' s0; obtain ⟨c0_, c1_, c2_, c3_, c4_, c5_, c6_⟩ := HF.out w' s0
    go_simp
    with_reducible rfl
  rotate_left
  · simp only [Act.put, List.setIfInBounds_toArray, List.set_cons_zero, List.set_cons_succ, i64_w]
    rfl
  refine one_ (i := 2) (N := (some 8)) #[true, true, true, true, true, false, true, true, false, true, false, true, true, false, true, true, true, false, true, true, true, true, false, false, false, false] rfl rfl (by kernel_rfl) (by decide) (fun K hK => ?_)
  refine goes_ Try.func37 (by kernel_rfl) rfl #[.string x_0] (by rfl) rfl rfl (by first | rfl | (simp only [List.map_toArray, List.map_cons, List.map_nil]; rfl)) ?_
  refine (putNm_c x_0 HX.out.1 _).mono ?_
  rintro e' w2 ⟨v2, rfl, hR2, hb2⟩
  obtain ⟨A2, c2_, rfl, hc2, hC2⟩ := Kd.R_reads hR2
  have HB2 := hid ((show Below W1.heap.size W1 W1.drew from (Below.refl _ _).drew).trans (hb2.mono (Nat.le_refl _)))
  have HP2 := hid (And.intro hC2 hc2)
  clear hb2 hC2 hc2 hR2
  refine ⟨_, rfl, ?_⟩
  refine hK.out _ _ HB2.out (fun hHeld => ?_)
  clear hK K
  refine norm_ (a' := ?_) ?_ ?_
  rotate_left
  · show Act.put _ (some 8) _ = _
    simp only [Act.put, List.setIfInBounds_toArray, List.set_cons_zero, List.set_cons_succ, i64_w]
    rfl
  refine one_ (i := 5) (N := (some 11)) #[true, true, true, true, true, true, true, true, false, true, false, true, true, false, true, true, true, false, true, true, true, true, false, false, false, false] rfl rfl (by kernel_rfl) (by decide) (fun K hK => ?_)
  refine goes_ Try.func35 (by kernel_rfl) rfl #[.int .i64 x_1, .int .i64 1] (by rfl) rfl rfl (by first | rfl | (simp only [List.map_toArray, List.map_cons, List.map_nil]; rfl)) ?_
  refine (sput_c x_1 1 (by omega) (by omega) _).mono ?_
  rintro e' w5 ⟨A5, c5_, rfl, hc5, hC5, hb5⟩
  have HB5 := hid (HB2.out.trans (hb5.mono HB2.out.size))
  have HP5 := hid (And.intro hC5 hc5)
  have nP := hid (And.intro (Kd.C_below HP2.out.1 hb5) HP2.out.2)
  clear HP2
  have HP2 := nP
  clear nP
  clear hb5 hC5 hc5
  refine ⟨_, rfl, ?_⟩
  refine hK.out _ _ HB5.out (fun hHeld => ?_)
  clear hK K
  refine norm_ (a' := ?_) ?_ ?_
  rotate_left
  · show Act.put _ (some 11) _ = _
    simp only [Act.put, List.setIfInBounds_toArray, List.set_cons_zero, List.set_cons_succ, i64_w]
    rfl
  refine one_ (i := 8) (N := (some 14)) #[true, true, true, true, true, true, true, true, true, true, false, true, true, false, true, true, true, false, true, true, true, true, false, false, false, false] rfl rfl (by kernel_rfl) (by decide) (fun K hK => ?_)
  refine goes_ Try.func35 (by kernel_rfl) rfl #[.int .i64 x_2, .int .i64 1] (by rfl) rfl rfl (by first | rfl | (simp only [List.map_toArray, List.map_cons, List.map_nil]; rfl)) ?_
  refine (sput_c x_2 1 (by omega) (by omega) _).mono ?_
  rintro e' w8 ⟨A8, c8_, rfl, hc8, hC8, hb8⟩
  have HB8 := hid (HB5.out.trans (hb8.mono HB5.out.size))
  have HP8 := hid (And.intro hC8 hc8)
  have nP := hid (And.intro (Kd.C_below HP2.out.1 hb8) HP2.out.2)
  clear HP2
  have HP2 := nP
  clear nP
  have nP := hid (And.intro (Kd.C_below HP5.out.1 hb8) HP5.out.2)
  clear HP5
  have HP5 := nP
  clear nP
  clear hb8 hC8 hc8
  refine ⟨_, rfl, ?_⟩
  refine hK.out _ _ HB8.out (fun hHeld => ?_)
  clear hK K
  refine norm_ (a' := ?_) ?_ ?_
  rotate_left
  · show Act.put _ (some 14) _ = _
    simp only [Act.put, List.setIfInBounds_toArray, List.set_cons_zero, List.set_cons_succ, i64_w]
    rfl
  refine one_ (i := 10) (N := (some 16)) #[true, true, true, true, true, true, true, true, true, true, true, true, true, false, true, true, true, false, true, true, true, true, false, false, false, false] rfl rfl (by kernel_rfl) (by decide) (fun K hK => ?_)
  refine goes_ Try.func35 (by kernel_rfl) rfl #[.int .i64 1, .int .i64 1] (by rfl) rfl rfl (by first | rfl | (simp only [List.map_toArray, List.map_cons, List.map_nil]; rfl)) ?_
  refine (sput_c 1 1 (by omega) (by omega) _).mono ?_
  rintro e' w10 ⟨A10, c10_, rfl, hc10, hC10, hb10⟩
  have HB10 := hid (HB8.out.trans (hb10.mono HB8.out.size))
  have HP10 := hid (And.intro hC10 hc10)
  have nP := hid (And.intro (Kd.C_below HP2.out.1 hb10) HP2.out.2)
  clear HP2
  have HP2 := nP
  clear nP
  have nP := hid (And.intro (Kd.C_below HP5.out.1 hb10) HP5.out.2)
  clear HP5
  have HP5 := nP
  clear nP
  have nP := hid (And.intro (Kd.C_below HP8.out.1 hb10) HP8.out.2)
  clear HP8
  have HP8 := nP
  clear nP
  clear hb10 hC10 hc10
  refine ⟨_, rfl, ?_⟩
  refine hK.out _ _ HB10.out (fun hHeld => ?_)
  clear hK K
  refine norm_ (a' := ?_) ?_ ?_
  rotate_left
  · show Act.put _ (some 16) _ = _
    simp only [Act.put, List.setIfInBounds_toArray, List.set_cons_zero, List.set_cons_succ, i64_w]
    rfl
  refine one_ (i := 13) (N := (some 19)) #[true, true, true, true, true, true, true, true, true, true, true, true, true, true, true, true, true, false, true, true, true, true, false, false, false, false] rfl rfl (by kernel_rfl) (by decide) (fun K hK => ?_)
  refine goes_ Try.func35 (by kernel_rfl) rfl #[.int .i64 x_4, .int .i64 2] (by rfl) rfl rfl (by first | rfl | (simp only [List.map_toArray, List.map_cons, List.map_nil]; rfl)) ?_
  refine (sput_c x_4 2 (by omega) (by omega) _).mono ?_
  rintro e' w13 ⟨A13, c13_, rfl, hc13, hC13, hb13⟩
  have HB13 := hid (HB10.out.trans (hb13.mono HB10.out.size))
  have HP13 := hid (And.intro hC13 hc13)
  have nP := hid (And.intro (Kd.C_below HP2.out.1 hb13) HP2.out.2)
  clear HP2
  have HP2 := nP
  clear nP
  have nP := hid (And.intro (Kd.C_below HP5.out.1 hb13) HP5.out.2)
  clear HP5
  have HP5 := nP
  clear nP
  have nP := hid (And.intro (Kd.C_below HP8.out.1 hb13) HP8.out.2)
  clear HP8
  have HP8 := nP
  clear nP
  have nP := hid (And.intro (Kd.C_below HP10.out.1 hb13) HP10.out.2)
  clear HP10
  have HP10 := nP
  clear nP
  clear hb13 hC13 hc13
  refine ⟨_, rfl, ?_⟩
  refine hK.out _ _ HB13.out (fun hHeld => ?_)
  clear hK K
  refine norm_ (a' := ?_) ?_ ?_
  rotate_left
  · show Act.put _ (some 19) _ = _
    simp only [Act.put, List.setIfInBounds_toArray, List.set_cons_zero, List.set_cons_succ, i64_w]
    rfl
  refine one_ (i := 17) (N := (some 23)) #[true, true, true, true, true, true, true, true, true, true, true, true, true, true, true, true, true, true, true, true, true, true, false, false, false, false] rfl rfl (by kernel_rfl) (by decide) (fun K hK => ?_)
  refine goes_ Try.func35 (by kernel_rfl) rfl #[.int .i64 (x_5.length : Int), .int .i64 2] (by rfl) rfl rfl (by first | rfl | (simp only [List.map_toArray, List.map_cons, List.map_nil]; rfl)) ?_
  refine (sput_c (x_5.length : Int) 2 (by omega) (by omega) _).mono ?_
  rintro e' w17 ⟨A17, c17_, rfl, hc17, hC17, hb17⟩
  have HB17 := hid (HB13.out.trans (hb17.mono HB13.out.size))
  have HP17 := hid (And.intro hC17 hc17)
  have nP := hid (And.intro (Kd.C_below HP2.out.1 hb17) HP2.out.2)
  clear HP2
  have HP2 := nP
  clear nP
  have nP := hid (And.intro (Kd.C_below HP5.out.1 hb17) HP5.out.2)
  clear HP5
  have HP5 := nP
  clear nP
  have nP := hid (And.intro (Kd.C_below HP8.out.1 hb17) HP8.out.2)
  clear HP8
  have HP8 := nP
  clear nP
  have nP := hid (And.intro (Kd.C_below HP10.out.1 hb17) HP10.out.2)
  clear HP10
  have HP10 := nP
  clear nP
  have nP := hid (And.intro (Kd.C_below HP13.out.1 hb17) HP13.out.2)
  clear HP13
  have HP13 := nP
  clear nP
  clear hb17 hC17 hc17
  refine ⟨_, rfl, ?_⟩
  refine hK.out _ _ HB17.out (fun hHeld => ?_)
  clear hK K
  refine norm_ (a' := ?_) ?_ ?_
  rotate_left
  · show Act.put _ (some 23) _ = _
    simp only [Act.put, List.setIfInBounds_toArray, List.set_cons_zero, List.set_cons_succ, i64_w]
    rfl
  refine one_ (i := 22) (N := (some 28)) #[true, true, true, true, true, true, true, true, true, true, true, true, true, true, true, true, true, true, true, true, true, true, true, false, false, false] rfl rfl (by kernel_rfl) (by decide) (fun K hK => ?_)
  refine goes_ Try.func139 (by kernel_rfl) rfl #[.slice P6 x_6.length p6] (by rfl) rfl rfl (by first | rfl | (simp only [List.map_toArray, List.map_cons, List.map_nil]; rfl)) ?_
  refine (putRels_c P6 p6 x_6 _ (Kd.C_below HC.out.2 HB17.out) hc3 HX.out.2.2.2).mono ?_
  rintro e' w22 ⟨A22, c22_, rfl, hc22, hC22, hb22⟩
  have HB22 := hid (HB17.out.trans (hb22.mono HB17.out.size))
  have HP22 := hid (And.intro hC22 hc22)
  have nP := hid (And.intro (Kd.C_below HP2.out.1 hb22) HP2.out.2)
  clear HP2
  have HP2 := nP
  clear nP
  have nP := hid (And.intro (Kd.C_below HP5.out.1 hb22) HP5.out.2)
  clear HP5
  have HP5 := nP
  clear nP
  have nP := hid (And.intro (Kd.C_below HP8.out.1 hb22) HP8.out.2)
  clear HP8
  have HP8 := nP
  clear nP
  have nP := hid (And.intro (Kd.C_below HP10.out.1 hb22) HP10.out.2)
  clear HP10
  have HP10 := nP
  clear nP
  have nP := hid (And.intro (Kd.C_below HP13.out.1 hb22) HP13.out.2)
  clear HP13
  have HP13 := nP
  clear nP
  have nP := hid (And.intro (Kd.C_below HP17.out.1 hb22) HP17.out.2)
  clear HP17
  have HP17 := nP
  clear nP
  clear hb22 hC22 hc22
  refine ⟨_, rfl, ?_⟩
  refine hK.out _ _ HB22.out (fun hHeld => ?_)
  clear hK K
  refine norm_ (a' := ?_) ?_ ?_
  rotate_left
  · show Act.put _ (some 28) _ = _
    simp only [Act.put, List.setIfInBounds_toArray, List.set_cons_zero, List.set_cons_succ, i64_w]
    rfl
  refine one_ (i := 23) (N := (some 29)) #[true, true, true, true, true, true, true, true, true, true, true, true, true, true, true, true, true, true, true, true, true, true, true, true, false, false] rfl rfl (by kernel_rfl) (by decide) (fun K hK => ?_)
  go_simp
  have HB23 := hid (HB22.out.alloc HB22.out.size (.cells #[.slice A2 (nmT x_0).length c2_, .slice A5 (putS x_1 1).length c5_, .slice A8 (putS x_2 1).length c8_, .slice A10 (putS 1 1).length c10_, .slice A13 (putS x_4 2).length c13_, .slice A17 (putS (x_5.length : Int) 2).length c17_, .slice P5 x_5.length p5, .slice A22 (relsS x_6).length c22_] 22))
  refine hK.out _ _ HB23.out (fun hHeld => ?_)
  clear hK K
  refine one_ (i := 24) (N := (some 30)) #[true, true, true, true, true, true, true, true, true, true, true, true, true, true, true, true, true, true, true, true, true, true, true, true, true, false] rfl rfl (by kernel_rfl) (by decide) (fun K hK => ?_)
  refine goes_ Try.func89 (by kernel_rfl) rfl #[.slice (some ⟨w22.heap.size, 0, none⟩) 8 8] (by rfl) rfl rfl (by first | rfl | (simp only [List.map_toArray, List.map_cons, List.map_nil]; rfl)) ?_
  refine (concat_c (some ⟨w22.heap.size, 0, none⟩) 8 [nmT x_0, putS x_1 1, putS x_2 1, putS 1 1, putS x_4 2, putS (x_5.length : Int) 2, x_5, relsS x_6] _ ?_ (by simp) (by simp) ?_).mono ?_
  · refine CL_block (blk_new w22 _) (by simp) (fun j l hj => ?_)
    match j, hj with
    | 0, hj => simp at hj; subst hj; exact ⟨A2, c2_, rfl, HP2.out.2, Kd.C_alloc HP2.out.1 _⟩
    | 1, hj => simp at hj; subst hj; exact ⟨A5, c5_, rfl, HP5.out.2, Kd.C_alloc HP5.out.1 _⟩
    | 2, hj => simp at hj; subst hj; exact ⟨A8, c8_, rfl, HP8.out.2, Kd.C_alloc HP8.out.1 _⟩
    | 3, hj => simp at hj; subst hj; exact ⟨A10, c10_, rfl, HP10.out.2, Kd.C_alloc HP10.out.1 _⟩
    | 4, hj => simp at hj; subst hj; exact ⟨A13, c13_, rfl, HP13.out.2, Kd.C_alloc HP13.out.1 _⟩
    | 5, hj => simp at hj; subst hj; exact ⟨A17, c17_, rfl, HP17.out.2, Kd.C_alloc HP17.out.1 _⟩
    | 6, hj => simp at hj; subst hj; exact ⟨P5, p5, rfl, hc2, Kd.C_alloc (Kd.C_below HC.out.1 HB22.out) _⟩
    | 7, hj => simp at hj; subst hj; exact ⟨A22, c22_, rfl, HP22.out.2, Kd.C_alloc HP22.out.1 _⟩
    | j + 8, hj => simp at hj
  · have h1 := HX.out.2.1
    have h2 := HX.out.2.2.1
    simp only [List.flatten_cons, List.flatten_nil, List.length_append, List.length_nil, putS1_len, putS2_len']
    omega
  rintro e' w24 ⟨v24, rfl, hR24, hb24⟩
  have HB24 := hid (HB23.out.trans (hb24.mono HB23.out.size))
  have HR24 := hid hR24
  have HZ24 := hid HB23.out.size
  clear hR24 hb24
  refine ⟨_, rfl, ?_⟩
  refine hK.out _ _ HB24.out (fun hHeld => ?_)
  clear hK K
  refine norm_ (a' := ?_) ?_ ?_
  rotate_left
  · show Act.put _ (some 30) _ = _
    simp only [Act.put, List.setIfInBounds_toArray, List.set_cons_zero, List.set_cons_succ, i64_w]
    rfl
  refine pure_ (i := 25) (N := (some 2)) (v := ?_) (a' := ?_) #[true, true, true, true, true, true, true, true, true, true, true, true, true, true, true, true, true, true, true, true, true, true, true, true, true, true] rfl rfl (by kernel_rfl) (fun _ _ _ h => h) (Or.inl ⟨by rfl, ?_⟩) ?_ ?_
  rotate_left
  · intro w'
    go_simp
    with_reducible rfl
  rotate_left
  · simp only [Act.put, List.setIfInBounds_toArray, List.set_cons_zero, List.set_cons_succ, i64_w]
    rfl
  refine done_ (by kernel_rfl) ?_
  have hfin : [nmT x_0, putS x_1 1, putS x_2 1, putS 1 1, putS x_4 2, putS (x_5.length : Int) 2, x_5, relsS x_6].flatten = dataS ⟨x_0, x_1, x_2, true, x_4, x_5, x_6⟩ := by
    unfold dataS
    simp [List.flatten]
  have hR := HR24.out
  rw [hfin] at hR
  have H24 := hid (And.intro (Kd.R_lower (base' := w.heap.size) hR (by have h1 := HZ24.out; have h2 := H0.out.size; omega)) (below_step H0.out HB24.out))
  clear hR hfin
  go_wp2
  go_ret
  exact ⟨_, rfl, H24.out⟩
set_option maxRecDepth 100000 in
set_option maxHeartbeats 4000000 in
theorem putData_false (x_0 : ByteArray) (x_1 x_2 x_4 : Int) (P5 : Option Addr) (p5 : Nat) (x_5 : List Int) (P6 : Option Addr) (p6 : Nat) (x_6 : List S153) (w : World) (hC2 : CB w P5 x_5) (hc2 : x_5.length ≤ p5) (hC3 : Kd.C k153 w P6 x_6.length x_6) (hc3 : x_6.length ≤ p6)
    (hB : dataB ⟨x_0, x_1, x_2, false, x_4, x_5, x_6⟩ = true) :
    Calls Try.prog 107 #[.agg #[.string x_0, .int .i64 x_1, .int .i64 x_2, .bool false, .int .i64 x_4, .slice P5 x_5.length p5, .slice P6 x_6.length p6]] w fun e w' => ∃ v, e = .returned v ∧ RB w' w.heap.size v (dataS ⟨x_0, x_1, x_2, false, x_4, x_5, x_6⟩) ∧ Below w.heap.size w w' := by
  obtain ⟨b1, b2, b3, b4, b5, b6⟩ := dataB_spec hB
  dsimp only at b1 b2 b3 b4 b5 b6
  have hn2 := nmT_len b1
  have hrl := relsS_len b6
  have HX := hid (And.intro (show x_0.size ≤ 140737488351232 by have := hn2.2; omega) (And.intro (show (nmT x_0).length ≤ 33 from hn2.1) (And.intro hrl b6)))
  obtain ⟨W1, hW1⟩ : ∃ W, W = w.alloc (.cells #[.string x_0, .int .i64 x_1, .int .i64 x_2, .bool false, .int .i64 x_4, .slice P5 x_5.length p5, .slice P6 x_6.length p6] 102) := ⟨_, rfl⟩
  have f0 := blk_new w (.cells #[.string x_0, .int .i64 x_1, .int .i64 x_2, .bool false, .int .i64 x_4, .slice P5 x_5.length p5, .slice P6 x_6.length p6] 102)
  have hB1 := below_alloc (Below.refl w.heap.size w) (.cells #[.string x_0, .int .i64 x_1, .int .i64 x_2, .bool false, .int .i64 x_4, .slice P5 x_5.length p5, .slice P6 x_6.length p6] 102)
  rw [← hW1] at f0 hB1
  have HW := hid hW1
  have hfact : ∀ W, Below W1.heap.size W1 W → W.cell? ⟨w.heap.size, 0, none⟩ = some (.string x_0) ∧ W.cell? ⟨w.heap.size, 1, none⟩ = some (.int .i64 x_1) ∧ W.cell? ⟨w.heap.size, 2, none⟩ = some (.int .i64 x_2) ∧ W.cell? ⟨w.heap.size, 3, none⟩ = some (.bool false) ∧ W.cell? ⟨w.heap.size, 4, none⟩ = some (.int .i64 x_4) ∧ W.cell? ⟨w.heap.size, 5, none⟩ = some (.slice P5 x_5.length p5) ∧ W.cell? ⟨w.heap.size, 6, none⟩ = some (.slice P6 x_6.length p6) :=
    fun W hb => ⟨blk_cell (blk_below f0 hb) 0, blk_cell (blk_below f0 hb) 1, blk_cell (blk_below f0 hb) 2, blk_cell (blk_below f0 hb) 3, blk_cell (blk_below f0 hb) 4, blk_cell (blk_below f0 hb) 5, blk_cell (blk_below f0 hb) 6⟩
  have HF := hid hfact
  have H0 := hid hB1
  have HC := hid (And.intro (Kd.C_below hC2 hB1) (Kd.C_below hC3 hB1))
  clear b1 b6 hn2 hrl hC2 hC3 hB hW1 f0 hB1 hfact
  go_enter Try.func107, Try.ntmps107
  go_wp2
  rw [← HW.out]
  refine start_ (n := 26) (S := fun W => Below W1.heap.size W1 W) (ds := []) #[false, false, false, false, false, false, false, false, false, false, false, false, false, false, false, false, false, false, false, false, false, false, false, false, false, false] (by kernel_rfl) rfl rfl (Below.refl _ _).drew (fun hHeld => ?_)
  refine pure_ (i := 0) (N := (some 6)) (v := ?_) (a' := ?_) #[true, false, false, false, false, false, false, false, false, false, false, false, false, false, false, false, false, false, false, false, false, false, false, false, false, false] rfl rfl (by kernel_rfl) (fun _ _ _ h => h) (Or.inl ⟨by rfl, ?_⟩) ?_ ?_
  rotate_left
  · intro w'
    go_simp
    with_reducible rfl
  rotate_left
  · simp only [Act.put, List.setIfInBounds_toArray, List.set_cons_zero, List.set_cons_succ, i64_w]
    rfl
  refine take_ (i := 1) (N := (some 7)) (v := ?_) (a' := ?_) #[true, true, false, false, false, false, false, false, false, false, false, false, false, false, false, false, false, false, false, false, false, false, false, false, false, false] rfl rfl (by kernel_rfl) (fun _ _ _ h => h) (Or.inl ⟨by rfl, ?_⟩) hHeld ?_ ?_
  rotate_left
  · rintro w' s0; obtain ⟨c0_, c1_, c2_, c3_, c4_, c5_, c6_⟩ := HF.out w' s0
    go_simp
    with_reducible rfl
  rotate_left
  · simp only [Act.put, List.setIfInBounds_toArray, List.set_cons_zero, List.set_cons_succ, i64_w]
    rfl
  refine pure_ (i := 3) (N := (some 9)) (v := ?_) (a' := ?_) #[true, true, false, true, false, false, false, false, false, false, false, false, false, false, false, false, false, false, false, false, false, false, false, false, false, false] rfl rfl (by kernel_rfl) (fun _ _ _ h => h) (Or.inl ⟨by rfl, ?_⟩) ?_ ?_
  rotate_left
  · intro w'
    go_simp
    with_reducible rfl
  rotate_left
  · simp only [Act.put, List.setIfInBounds_toArray, List.set_cons_zero, List.set_cons_succ, i64_w]
    rfl
  refine take_ (i := 4) (N := (some 10)) (v := ?_) (a' := ?_) #[true, true, false, true, true, false, false, false, false, false, false, false, false, false, false, false, false, false, false, false, false, false, false, false, false, false] rfl rfl (by kernel_rfl) (fun _ _ _ h => h) (Or.inl ⟨by rfl, ?_⟩) hHeld ?_ ?_
  rotate_left
  · rintro w' s0; obtain ⟨c0_, c1_, c2_, c3_, c4_, c5_, c6_⟩ := HF.out w' s0
    go_simp
    with_reducible rfl
  rotate_left
  · simp only [Act.put, List.setIfInBounds_toArray, List.set_cons_zero, List.set_cons_succ, i64_w]
    rfl
  refine pure_ (i := 6) (N := (some 12)) (v := ?_) (a' := ?_) #[true, true, false, true, true, false, true, false, false, false, false, false, false, false, false, false, false, false, false, false, false, false, false, false, false, false] rfl rfl (by kernel_rfl) (fun _ _ _ h => h) (Or.inl ⟨by rfl, ?_⟩) ?_ ?_
  rotate_left
  · intro w'
    go_simp
    with_reducible rfl
  rotate_left
  · simp only [Act.put, List.setIfInBounds_toArray, List.set_cons_zero, List.set_cons_succ, i64_w]
    rfl
  refine take_ (i := 7) (N := (some 13)) (v := ?_) (a' := ?_) #[true, true, false, true, true, false, true, true, false, false, false, false, false, false, false, false, false, false, false, false, false, false, false, false, false, false] rfl rfl (by kernel_rfl) (fun _ _ _ h => h) (Or.inl ⟨by rfl, ?_⟩) hHeld ?_ ?_
  rotate_left
  · rintro w' s0; obtain ⟨c0_, c1_, c2_, c3_, c4_, c5_, c6_⟩ := HF.out w' s0
    go_simp
    with_reducible rfl
  rotate_left
  · simp only [Act.put, List.setIfInBounds_toArray, List.set_cons_zero, List.set_cons_succ, i64_w]
    rfl
  refine pure_ (i := 9) (N := (some 15)) (v := ?_) (a' := ?_) #[true, true, false, true, true, false, true, true, false, true, false, false, false, false, false, false, false, false, false, false, false, false, false, false, false, false] rfl rfl (by kernel_rfl) (fun _ _ _ h => h) (Or.inl ⟨by rfl, ?_⟩) ?_ ?_
  rotate_left
  · intro w'
    go_simp
    with_reducible rfl
  rotate_left
  · simp only [Act.put, List.setIfInBounds_toArray, List.set_cons_zero, List.set_cons_succ, i64_w]
    rfl
  refine pure_ (i := 11) (N := (some 17)) (v := ?_) (a' := ?_) #[true, true, false, true, true, false, true, true, false, true, false, true, false, false, false, false, false, false, false, false, false, false, false, false, false, false] rfl rfl (by kernel_rfl) (fun _ _ _ h => h) (Or.inl ⟨by rfl, ?_⟩) ?_ ?_
  rotate_left
  · intro w'
    go_simp
    with_reducible rfl
  rotate_left
  · simp only [Act.put, List.setIfInBounds_toArray, List.set_cons_zero, List.set_cons_succ, i64_w]
    rfl
  refine take_ (i := 12) (N := (some 18)) (v := ?_) (a' := ?_) #[true, true, false, true, true, false, true, true, false, true, false, true, true, false, false, false, false, false, false, false, false, false, false, false, false, false] rfl rfl (by kernel_rfl) (fun _ _ _ h => h) (Or.inl ⟨by rfl, ?_⟩) hHeld ?_ ?_
  rotate_left
  · rintro w' s0; obtain ⟨c0_, c1_, c2_, c3_, c4_, c5_, c6_⟩ := HF.out w' s0
    go_simp
    with_reducible rfl
  rotate_left
  · simp only [Act.put, List.setIfInBounds_toArray, List.set_cons_zero, List.set_cons_succ, i64_w]
    rfl
  refine pure_ (i := 14) (N := (some 20)) (v := ?_) (a' := ?_) #[true, true, false, true, true, false, true, true, false, true, false, true, true, false, true, false, false, false, false, false, false, false, false, false, false, false] rfl rfl (by kernel_rfl) (fun _ _ _ h => h) (Or.inl ⟨by rfl, ?_⟩) ?_ ?_
  rotate_left
  · intro w'
    go_simp
    with_reducible rfl
  rotate_left
  · simp only [Act.put, List.setIfInBounds_toArray, List.set_cons_zero, List.set_cons_succ, i64_w]
    rfl
  refine take_ (i := 15) (N := (some 21)) (v := ?_) (a' := ?_) #[true, true, false, true, true, false, true, true, false, true, false, true, true, false, true, true, false, false, false, false, false, false, false, false, false, false] rfl rfl (by kernel_rfl) (fun _ _ _ h => h) (Or.inl ⟨by rfl, ?_⟩) hHeld ?_ ?_
  rotate_left
  · rintro w' s0; obtain ⟨c0_, c1_, c2_, c3_, c4_, c5_, c6_⟩ := HF.out w' s0
    go_simp
    with_reducible rfl
  rotate_left
  · simp only [Act.put, List.setIfInBounds_toArray, List.set_cons_zero, List.set_cons_succ, i64_w]
    rfl
  refine pure_ (i := 16) (N := (some 22)) (v := ?_) (a' := ?_) #[true, true, false, true, true, false, true, true, false, true, false, true, true, false, true, true, true, false, false, false, false, false, false, false, false, false] rfl rfl (by kernel_rfl) (fun _ _ _ h => h) (Or.inl ⟨by rfl, ?_⟩) ?_ ?_
  rotate_left
  · intro w'
    go_simp
    with_reducible rfl
  rotate_left
  · simp only [Act.put, List.setIfInBounds_toArray, List.set_cons_zero, List.set_cons_succ, i64_w]
    rfl
  refine pure_ (i := 18) (N := (some 24)) (v := ?_) (a' := ?_) #[true, true, false, true, true, false, true, true, false, true, false, true, true, false, true, true, true, false, true, false, false, false, false, false, false, false] rfl rfl (by kernel_rfl) (fun _ _ _ h => h) (Or.inl ⟨by rfl, ?_⟩) ?_ ?_
  rotate_left
  · intro w'
    go_simp
    with_reducible rfl
  rotate_left
  · simp only [Act.put, List.setIfInBounds_toArray, List.set_cons_zero, List.set_cons_succ, i64_w]
    rfl
  refine take_ (i := 19) (N := (some 25)) (v := ?_) (a' := ?_) #[true, true, false, true, true, false, true, true, false, true, false, true, true, false, true, true, true, false, true, true, false, false, false, false, false, false] rfl rfl (by kernel_rfl) (fun _ _ _ h => h) (Or.inl ⟨by rfl, ?_⟩) hHeld ?_ ?_
  rotate_left
  · rintro w' s0; obtain ⟨c0_, c1_, c2_, c3_, c4_, c5_, c6_⟩ := HF.out w' s0
    go_simp
    with_reducible rfl
  rotate_left
  · simp only [Act.put, List.setIfInBounds_toArray, List.set_cons_zero, List.set_cons_succ, i64_w]
    rfl
  refine pure_ (i := 20) (N := (some 26)) (v := ?_) (a' := ?_) #[true, true, false, true, true, false, true, true, false, true, false, true, true, false, true, true, true, false, true, true, true, false, false, false, false, false] rfl rfl (by kernel_rfl) (fun _ _ _ h => h) (Or.inl ⟨by rfl, ?_⟩) ?_ ?_
  rotate_left
  · intro w'
    go_simp
    with_reducible rfl
  rotate_left
  · simp only [Act.put, List.setIfInBounds_toArray, List.set_cons_zero, List.set_cons_succ, i64_w]
    rfl
  refine take_ (i := 21) (N := (some 27)) (v := ?_) (a' := ?_) #[true, true, false, true, true, false, true, true, false, true, false, true, true, false, true, true, true, false, true, true, true, true, false, false, false, false] rfl rfl (by kernel_rfl) (fun _ _ _ h => h) (Or.inl ⟨by rfl, ?_⟩) hHeld ?_ ?_
  rotate_left
  · rintro w' s0; obtain ⟨c0_, c1_, c2_, c3_, c4_, c5_, c6_⟩ := HF.out w' s0
    go_simp
    with_reducible rfl
  rotate_left
  · simp only [Act.put, List.setIfInBounds_toArray, List.set_cons_zero, List.set_cons_succ, i64_w]
    rfl
  refine one_ (i := 2) (N := (some 8)) #[true, true, true, true, true, false, true, true, false, true, false, true, true, false, true, true, true, false, true, true, true, true, false, false, false, false] rfl rfl (by kernel_rfl) (by decide) (fun K hK => ?_)
  refine goes_ Try.func37 (by kernel_rfl) rfl #[.string x_0] (by rfl) rfl rfl (by first | rfl | (simp only [List.map_toArray, List.map_cons, List.map_nil]; rfl)) ?_
  refine (putNm_c x_0 HX.out.1 _).mono ?_
  rintro e' w2 ⟨v2, rfl, hR2, hb2⟩
  obtain ⟨A2, c2_, rfl, hc2, hC2⟩ := Kd.R_reads hR2
  have HB2 := hid ((show Below W1.heap.size W1 W1.drew from (Below.refl _ _).drew).trans (hb2.mono (Nat.le_refl _)))
  have HP2 := hid (And.intro hC2 hc2)
  clear hb2 hC2 hc2 hR2
  refine ⟨_, rfl, ?_⟩
  refine hK.out _ _ HB2.out (fun hHeld => ?_)
  clear hK K
  refine norm_ (a' := ?_) ?_ ?_
  rotate_left
  · show Act.put _ (some 8) _ = _
    simp only [Act.put, List.setIfInBounds_toArray, List.set_cons_zero, List.set_cons_succ, i64_w]
    rfl
  refine one_ (i := 5) (N := (some 11)) #[true, true, true, true, true, true, true, true, false, true, false, true, true, false, true, true, true, false, true, true, true, true, false, false, false, false] rfl rfl (by kernel_rfl) (by decide) (fun K hK => ?_)
  refine goes_ Try.func35 (by kernel_rfl) rfl #[.int .i64 x_1, .int .i64 1] (by rfl) rfl rfl (by first | rfl | (simp only [List.map_toArray, List.map_cons, List.map_nil]; rfl)) ?_
  refine (sput_c x_1 1 (by omega) (by omega) _).mono ?_
  rintro e' w5 ⟨A5, c5_, rfl, hc5, hC5, hb5⟩
  have HB5 := hid (HB2.out.trans (hb5.mono HB2.out.size))
  have HP5 := hid (And.intro hC5 hc5)
  have nP := hid (And.intro (Kd.C_below HP2.out.1 hb5) HP2.out.2)
  clear HP2
  have HP2 := nP
  clear nP
  clear hb5 hC5 hc5
  refine ⟨_, rfl, ?_⟩
  refine hK.out _ _ HB5.out (fun hHeld => ?_)
  clear hK K
  refine norm_ (a' := ?_) ?_ ?_
  rotate_left
  · show Act.put _ (some 11) _ = _
    simp only [Act.put, List.setIfInBounds_toArray, List.set_cons_zero, List.set_cons_succ, i64_w]
    rfl
  refine one_ (i := 8) (N := (some 14)) #[true, true, true, true, true, true, true, true, true, true, false, true, true, false, true, true, true, false, true, true, true, true, false, false, false, false] rfl rfl (by kernel_rfl) (by decide) (fun K hK => ?_)
  refine goes_ Try.func35 (by kernel_rfl) rfl #[.int .i64 x_2, .int .i64 1] (by rfl) rfl rfl (by first | rfl | (simp only [List.map_toArray, List.map_cons, List.map_nil]; rfl)) ?_
  refine (sput_c x_2 1 (by omega) (by omega) _).mono ?_
  rintro e' w8 ⟨A8, c8_, rfl, hc8, hC8, hb8⟩
  have HB8 := hid (HB5.out.trans (hb8.mono HB5.out.size))
  have HP8 := hid (And.intro hC8 hc8)
  have nP := hid (And.intro (Kd.C_below HP2.out.1 hb8) HP2.out.2)
  clear HP2
  have HP2 := nP
  clear nP
  have nP := hid (And.intro (Kd.C_below HP5.out.1 hb8) HP5.out.2)
  clear HP5
  have HP5 := nP
  clear nP
  clear hb8 hC8 hc8
  refine ⟨_, rfl, ?_⟩
  refine hK.out _ _ HB8.out (fun hHeld => ?_)
  clear hK K
  refine norm_ (a' := ?_) ?_ ?_
  rotate_left
  · show Act.put _ (some 14) _ = _
    simp only [Act.put, List.setIfInBounds_toArray, List.set_cons_zero, List.set_cons_succ, i64_w]
    rfl
  refine one_ (i := 10) (N := (some 16)) #[true, true, true, true, true, true, true, true, true, true, true, true, true, false, true, true, true, false, true, true, true, true, false, false, false, false] rfl rfl (by kernel_rfl) (by decide) (fun K hK => ?_)
  refine goes_ Try.func35 (by kernel_rfl) rfl #[.int .i64 0, .int .i64 1] (by rfl) rfl rfl (by first | rfl | (simp only [List.map_toArray, List.map_cons, List.map_nil]; rfl)) ?_
  refine (sput_c 0 1 (by omega) (by omega) _).mono ?_
  rintro e' w10 ⟨A10, c10_, rfl, hc10, hC10, hb10⟩
  have HB10 := hid (HB8.out.trans (hb10.mono HB8.out.size))
  have HP10 := hid (And.intro hC10 hc10)
  have nP := hid (And.intro (Kd.C_below HP2.out.1 hb10) HP2.out.2)
  clear HP2
  have HP2 := nP
  clear nP
  have nP := hid (And.intro (Kd.C_below HP5.out.1 hb10) HP5.out.2)
  clear HP5
  have HP5 := nP
  clear nP
  have nP := hid (And.intro (Kd.C_below HP8.out.1 hb10) HP8.out.2)
  clear HP8
  have HP8 := nP
  clear nP
  clear hb10 hC10 hc10
  refine ⟨_, rfl, ?_⟩
  refine hK.out _ _ HB10.out (fun hHeld => ?_)
  clear hK K
  refine norm_ (a' := ?_) ?_ ?_
  rotate_left
  · show Act.put _ (some 16) _ = _
    simp only [Act.put, List.setIfInBounds_toArray, List.set_cons_zero, List.set_cons_succ, i64_w]
    rfl
  refine one_ (i := 13) (N := (some 19)) #[true, true, true, true, true, true, true, true, true, true, true, true, true, true, true, true, true, false, true, true, true, true, false, false, false, false] rfl rfl (by kernel_rfl) (by decide) (fun K hK => ?_)
  refine goes_ Try.func35 (by kernel_rfl) rfl #[.int .i64 x_4, .int .i64 2] (by rfl) rfl rfl (by first | rfl | (simp only [List.map_toArray, List.map_cons, List.map_nil]; rfl)) ?_
  refine (sput_c x_4 2 (by omega) (by omega) _).mono ?_
  rintro e' w13 ⟨A13, c13_, rfl, hc13, hC13, hb13⟩
  have HB13 := hid (HB10.out.trans (hb13.mono HB10.out.size))
  have HP13 := hid (And.intro hC13 hc13)
  have nP := hid (And.intro (Kd.C_below HP2.out.1 hb13) HP2.out.2)
  clear HP2
  have HP2 := nP
  clear nP
  have nP := hid (And.intro (Kd.C_below HP5.out.1 hb13) HP5.out.2)
  clear HP5
  have HP5 := nP
  clear nP
  have nP := hid (And.intro (Kd.C_below HP8.out.1 hb13) HP8.out.2)
  clear HP8
  have HP8 := nP
  clear nP
  have nP := hid (And.intro (Kd.C_below HP10.out.1 hb13) HP10.out.2)
  clear HP10
  have HP10 := nP
  clear nP
  clear hb13 hC13 hc13
  refine ⟨_, rfl, ?_⟩
  refine hK.out _ _ HB13.out (fun hHeld => ?_)
  clear hK K
  refine norm_ (a' := ?_) ?_ ?_
  rotate_left
  · show Act.put _ (some 19) _ = _
    simp only [Act.put, List.setIfInBounds_toArray, List.set_cons_zero, List.set_cons_succ, i64_w]
    rfl
  refine one_ (i := 17) (N := (some 23)) #[true, true, true, true, true, true, true, true, true, true, true, true, true, true, true, true, true, true, true, true, true, true, false, false, false, false] rfl rfl (by kernel_rfl) (by decide) (fun K hK => ?_)
  refine goes_ Try.func35 (by kernel_rfl) rfl #[.int .i64 (x_5.length : Int), .int .i64 2] (by rfl) rfl rfl (by first | rfl | (simp only [List.map_toArray, List.map_cons, List.map_nil]; rfl)) ?_
  refine (sput_c (x_5.length : Int) 2 (by omega) (by omega) _).mono ?_
  rintro e' w17 ⟨A17, c17_, rfl, hc17, hC17, hb17⟩
  have HB17 := hid (HB13.out.trans (hb17.mono HB13.out.size))
  have HP17 := hid (And.intro hC17 hc17)
  have nP := hid (And.intro (Kd.C_below HP2.out.1 hb17) HP2.out.2)
  clear HP2
  have HP2 := nP
  clear nP
  have nP := hid (And.intro (Kd.C_below HP5.out.1 hb17) HP5.out.2)
  clear HP5
  have HP5 := nP
  clear nP
  have nP := hid (And.intro (Kd.C_below HP8.out.1 hb17) HP8.out.2)
  clear HP8
  have HP8 := nP
  clear nP
  have nP := hid (And.intro (Kd.C_below HP10.out.1 hb17) HP10.out.2)
  clear HP10
  have HP10 := nP
  clear nP
  have nP := hid (And.intro (Kd.C_below HP13.out.1 hb17) HP13.out.2)
  clear HP13
  have HP13 := nP
  clear nP
  clear hb17 hC17 hc17
  refine ⟨_, rfl, ?_⟩
  refine hK.out _ _ HB17.out (fun hHeld => ?_)
  clear hK K
  refine norm_ (a' := ?_) ?_ ?_
  rotate_left
  · show Act.put _ (some 23) _ = _
    simp only [Act.put, List.setIfInBounds_toArray, List.set_cons_zero, List.set_cons_succ, i64_w]
    rfl
  refine one_ (i := 22) (N := (some 28)) #[true, true, true, true, true, true, true, true, true, true, true, true, true, true, true, true, true, true, true, true, true, true, true, false, false, false] rfl rfl (by kernel_rfl) (by decide) (fun K hK => ?_)
  refine goes_ Try.func139 (by kernel_rfl) rfl #[.slice P6 x_6.length p6] (by rfl) rfl rfl (by first | rfl | (simp only [List.map_toArray, List.map_cons, List.map_nil]; rfl)) ?_
  refine (putRels_c P6 p6 x_6 _ (Kd.C_below HC.out.2 HB17.out) hc3 HX.out.2.2.2).mono ?_
  rintro e' w22 ⟨A22, c22_, rfl, hc22, hC22, hb22⟩
  have HB22 := hid (HB17.out.trans (hb22.mono HB17.out.size))
  have HP22 := hid (And.intro hC22 hc22)
  have nP := hid (And.intro (Kd.C_below HP2.out.1 hb22) HP2.out.2)
  clear HP2
  have HP2 := nP
  clear nP
  have nP := hid (And.intro (Kd.C_below HP5.out.1 hb22) HP5.out.2)
  clear HP5
  have HP5 := nP
  clear nP
  have nP := hid (And.intro (Kd.C_below HP8.out.1 hb22) HP8.out.2)
  clear HP8
  have HP8 := nP
  clear nP
  have nP := hid (And.intro (Kd.C_below HP10.out.1 hb22) HP10.out.2)
  clear HP10
  have HP10 := nP
  clear nP
  have nP := hid (And.intro (Kd.C_below HP13.out.1 hb22) HP13.out.2)
  clear HP13
  have HP13 := nP
  clear nP
  have nP := hid (And.intro (Kd.C_below HP17.out.1 hb22) HP17.out.2)
  clear HP17
  have HP17 := nP
  clear nP
  clear hb22 hC22 hc22
  refine ⟨_, rfl, ?_⟩
  refine hK.out _ _ HB22.out (fun hHeld => ?_)
  clear hK K
  refine norm_ (a' := ?_) ?_ ?_
  rotate_left
  · show Act.put _ (some 28) _ = _
    simp only [Act.put, List.setIfInBounds_toArray, List.set_cons_zero, List.set_cons_succ, i64_w]
    rfl
  refine one_ (i := 23) (N := (some 29)) #[true, true, true, true, true, true, true, true, true, true, true, true, true, true, true, true, true, true, true, true, true, true, true, true, false, false] rfl rfl (by kernel_rfl) (by decide) (fun K hK => ?_)
  go_simp
  have HB23 := hid (HB22.out.alloc HB22.out.size (.cells #[.slice A2 (nmT x_0).length c2_, .slice A5 (putS x_1 1).length c5_, .slice A8 (putS x_2 1).length c8_, .slice A10 (putS 0 1).length c10_, .slice A13 (putS x_4 2).length c13_, .slice A17 (putS (x_5.length : Int) 2).length c17_, .slice P5 x_5.length p5, .slice A22 (relsS x_6).length c22_] 22))
  refine hK.out _ _ HB23.out (fun hHeld => ?_)
  clear hK K
  refine one_ (i := 24) (N := (some 30)) #[true, true, true, true, true, true, true, true, true, true, true, true, true, true, true, true, true, true, true, true, true, true, true, true, true, false] rfl rfl (by kernel_rfl) (by decide) (fun K hK => ?_)
  refine goes_ Try.func89 (by kernel_rfl) rfl #[.slice (some ⟨w22.heap.size, 0, none⟩) 8 8] (by rfl) rfl rfl (by first | rfl | (simp only [List.map_toArray, List.map_cons, List.map_nil]; rfl)) ?_
  refine (concat_c (some ⟨w22.heap.size, 0, none⟩) 8 [nmT x_0, putS x_1 1, putS x_2 1, putS 0 1, putS x_4 2, putS (x_5.length : Int) 2, x_5, relsS x_6] _ ?_ (by simp) (by simp) ?_).mono ?_
  · refine CL_block (blk_new w22 _) (by simp) (fun j l hj => ?_)
    match j, hj with
    | 0, hj => simp at hj; subst hj; exact ⟨A2, c2_, rfl, HP2.out.2, Kd.C_alloc HP2.out.1 _⟩
    | 1, hj => simp at hj; subst hj; exact ⟨A5, c5_, rfl, HP5.out.2, Kd.C_alloc HP5.out.1 _⟩
    | 2, hj => simp at hj; subst hj; exact ⟨A8, c8_, rfl, HP8.out.2, Kd.C_alloc HP8.out.1 _⟩
    | 3, hj => simp at hj; subst hj; exact ⟨A10, c10_, rfl, HP10.out.2, Kd.C_alloc HP10.out.1 _⟩
    | 4, hj => simp at hj; subst hj; exact ⟨A13, c13_, rfl, HP13.out.2, Kd.C_alloc HP13.out.1 _⟩
    | 5, hj => simp at hj; subst hj; exact ⟨A17, c17_, rfl, HP17.out.2, Kd.C_alloc HP17.out.1 _⟩
    | 6, hj => simp at hj; subst hj; exact ⟨P5, p5, rfl, hc2, Kd.C_alloc (Kd.C_below HC.out.1 HB22.out) _⟩
    | 7, hj => simp at hj; subst hj; exact ⟨A22, c22_, rfl, HP22.out.2, Kd.C_alloc HP22.out.1 _⟩
    | j + 8, hj => simp at hj
  · have h1 := HX.out.2.1
    have h2 := HX.out.2.2.1
    simp only [List.flatten_cons, List.flatten_nil, List.length_append, List.length_nil, putS1_len, putS2_len']
    omega
  rintro e' w24 ⟨v24, rfl, hR24, hb24⟩
  have HB24 := hid (HB23.out.trans (hb24.mono HB23.out.size))
  have HR24 := hid hR24
  have HZ24 := hid HB23.out.size
  clear hR24 hb24
  refine ⟨_, rfl, ?_⟩
  refine hK.out _ _ HB24.out (fun hHeld => ?_)
  clear hK K
  refine norm_ (a' := ?_) ?_ ?_
  rotate_left
  · show Act.put _ (some 30) _ = _
    simp only [Act.put, List.setIfInBounds_toArray, List.set_cons_zero, List.set_cons_succ, i64_w]
    rfl
  refine pure_ (i := 25) (N := (some 2)) (v := ?_) (a' := ?_) #[true, true, true, true, true, true, true, true, true, true, true, true, true, true, true, true, true, true, true, true, true, true, true, true, true, true] rfl rfl (by kernel_rfl) (fun _ _ _ h => h) (Or.inl ⟨by rfl, ?_⟩) ?_ ?_
  rotate_left
  · intro w'
    go_simp
    with_reducible rfl
  rotate_left
  · simp only [Act.put, List.setIfInBounds_toArray, List.set_cons_zero, List.set_cons_succ, i64_w]
    rfl
  refine done_ (by kernel_rfl) ?_
  have hfin : [nmT x_0, putS x_1 1, putS x_2 1, putS 0 1, putS x_4 2, putS (x_5.length : Int) 2, x_5, relsS x_6].flatten = dataS ⟨x_0, x_1, x_2, false, x_4, x_5, x_6⟩ := by
    unfold dataS
    simp [List.flatten]
  have hR := HR24.out
  rw [hfin] at hR
  have H24 := hid (And.intro (Kd.R_lower (base' := w.heap.size) hR (by have h1 := HZ24.out; have h2 := H0.out.size; omega)) (below_step H0.out HB24.out))
  clear hR hfin
  go_wp2
  go_ret
  exact ⟨_, rfl, H24.out⟩
end Go.Proofs.Ytmcfihpbiilbcaa.H
end
section
namespace Go.Proofs.Ytmcfihpbiilbcaa.H
open Go.RowKit Go.Proofs.YtmcfihpbiilbcaaW.PrintWords Go.Proofs.YtmcfihpbiilbcaaW.PrintLast Go.Proofs.YtmcfihpbiilbcaaW.PrintMore Go.Proofs.Ytmcfihpbiilbcaa.E
set_option linter.unusedVariables false
set_option linter.unusedSimpArgs false
theorem funcS_len {x : S124} (h : funcB x = true) : (funcS x).length ≤ 10700 := by
  obtain ⟨b1, b2, b3, b4⟩ := funcB_spec h
  have h1 := (nmT_len b1).1
  have h2 := relsS_len b4
  have h3 := cP_len x.f2 _ (Nat.le_refl _)
  unfold funcS fH
  simp only [List.length_append, putS1_len, putS2_len', h3]
  omega
theorem dataS_len {x : S102} (h : dataB x = true) : (dataS x).length ≤ 10700 := by
  obtain ⟨b1, b2, b3, b4, b5, b6⟩ := dataB_spec h
  have h1 := (nmT_len b1).1
  have h2 := relsS_len b6
  unfold dataS
  simp only [List.length_append, putS1_len, putS2_len']
  omega
theorem noteB_spec {x : S122} (h : noteB x = true) : namedB x.f0 = true ∧ 0 ≤ x.f1 ∧ x.f1 ≤ 255 := by
  unfold noteB at h
  simpa only [Bool.and_eq_true, decide_eq_true_eq] using h
theorem noteS_len {x : S122} (h : noteB x = true) : (noteS x).length ≤ 10700 := by
  have h1 := (nmT_len (noteB_spec h).1).1
  unfold noteS
  simp only [List.length_append, putS1_len]
  omega
def upTo {α : Type} (g : α → List Int) (l : List α) (k : Nat) : List Int := ((l.take k).map g).flatten
theorem upTo_step {α : Type} (g : α → List Int) (l : List α) (k : Nat) (h : k < l.length) : upTo g l (k + 1) = upTo g l k ++ g l[k] := by
  unfold upTo
  rw [List.take_add_one, List.map_append, List.flatten_append, List.getElem?_eq_getElem h]
  simp
theorem upTo_len {α : Type} (g : α → List Int) (l : List α) (h : ∀ x ∈ l, (g x).length ≤ 10700) : ∀ k, k ≤ l.length → (upTo g l k).length ≤ 10700 * k := by
  intro k
  induction k with
  | zero => intro _; simp [upTo]
  | succ k ih =>
    intro hk
    rw [upTo_step g l k (by omega), List.length_append]
    have := h l[k] (List.getElem_mem (by omega))
    have := ih (by omega)
    omega
def objS (F : List S124) (D : List S102) (N : List S122) : List Int :=
  ((((([83, 80, 76, 49] ++ putS F.length 2) ++ upTo funcS F F.length) ++ putS D.length 2) ++ upTo dataS D D.length) ++ putS N.length 2) ++ upTo noteS N N.length
def objB (F : List S124) (D : List S102) (N : List S122) : Bool := all124B F && (all102B D && all122B N)
structure SS (F : List S124) (D : List S102) (N : List S122) : Prop where
  f : ∀ x ∈ F, SB x.f0 ∧ ∀ r ∈ x.f3, SB r.f2
  d : ∀ x ∈ D, SB x.f0 ∧ ∀ r ∈ x.f6, SB r.f2
  n : ∀ x ∈ N, SB x.f0
  w : ∀ x ∈ F, ∀ y ∈ x.f2, 0 ≤ y ∧ y ≤ 4294967295
  b : ∀ x ∈ D, ∀ y ∈ x.f5, 0 ≤ y ∧ y ≤ 255
theorem all124B_spec {l : List S124} (h : all124B l = true) : l.length ≤ 64 ∧ ∀ x ∈ l, funcB x = true := by
  unfold all124B at h
  simpa only [Bool.and_eq_true, decide_eq_true_eq, List.all_eq_true] using h
theorem all102B_spec {l : List S102} (h : all102B l = true) : l.length ≤ 64 ∧ ∀ x ∈ l, dataB x = true := by
  unfold all102B at h
  simpa only [Bool.and_eq_true, decide_eq_true_eq, List.all_eq_true] using h
theorem all122B_spec {l : List S122} (h : all122B l = true) : l.length ≤ 64 ∧ ∀ x ∈ l, noteB x = true := by
  unfold all122B at h
  simpa only [Bool.and_eq_true, decide_eq_true_eq, List.all_eq_true] using h
theorem putData_c (x_0 : ByteArray) (x_1 x_2 : Int) (x_3 : Bool) (x_4 : Int) (P5 : Option Addr) (p5 : Nat) (x_5 : List Int) (P6 : Option Addr) (p6 : Nat) (x_6 : List S153) (w : World) (hC2 : CB w P5 x_5) (hc2 : x_5.length ≤ p5) (hC3 : Kd.C k153 w P6 x_6.length x_6) (hc3 : x_6.length ≤ p6)
    (hB : dataB ⟨x_0, x_1, x_2, x_3, x_4, x_5, x_6⟩ = true) :
    Calls Try.prog 107 #[.agg #[.string x_0, .int .i64 x_1, .int .i64 x_2, .bool x_3, .int .i64 x_4, .slice P5 x_5.length p5, .slice P6 x_6.length p6]] w fun e w' => ∃ v, e = .returned v ∧ RB w' w.heap.size v (dataS ⟨x_0, x_1, x_2, x_3, x_4, x_5, x_6⟩) ∧ Below w.heap.size w w' := by
  cases x_3
  · exact putData_false x_0 x_1 x_2 x_4 P5 p5 x_5 P6 p6 x_6 w hC2 hc2 hC3 hc3 hB
  · exact putData_true x_0 x_1 x_2 x_4 P5 p5 x_5 P6 p6 x_6 w hC2 hc2 hC3 hc3 hB
def OPost (w : World) (F : List S124) (D : List S102) (N : List S122) (e : Ending) (w' : World) : Prop :=
  ((objB F D N = true ∧ ∃ v, e = .returned (.tuple #[v, .int .i64 0]) ∧ RB w' w.heap.size v (objS F D N)) ∨ (objB F D N = false ∧ e = .returned (.tuple #[.slice none 0 0, .int .i64 4]))) ∧ Below w.heap.size w w'
set_option maxRecDepth 100000 in
set_option maxHeartbeats 8000000 in
theorem objWrite_c (A0 A1 A2 : Option Addr) (c0 c1 c2 : Nat) (F : List S124) (D : List S102) (N : List S122) (w : World) (hC : CO w A0 A1 A2 c0 c1 c2 F D N) (hS : SS F D N) :
    Calls Try.prog 70 #[.agg #[.slice A0 F.length c0, .slice A1 D.length c1, .slice A2 N.length c2]] w (OPost w F D N) := by
  have HS := hid hS
  have HC := hid hC
  obtain ⟨W1, hW1⟩ : ∃ W, W = w.alloc (.cells #[.slice A0 F.length c0, .slice A1 D.length c1, .slice A2 N.length c2] 91) := ⟨_, rfl⟩
  have f0 := blk_new w (.cells #[.slice A0 F.length c0, .slice A1 D.length c1, .slice A2 N.length c2] 91)
  have hB1 := below_alloc (Below.refl w.heap.size w) (.cells #[.slice A0 F.length c0, .slice A1 D.length c1, .slice A2 N.length c2] 91)
  rw [← hW1] at f0 hB1
  have HW := hid hW1
  have hfact : ∀ W, Below W1.heap.size W1 W → W.cell? ⟨w.heap.size, 0, none⟩ = some (.slice A0 F.length c0) ∧ W.cell? ⟨w.heap.size, 1, none⟩ = some (.slice A1 D.length c1) ∧ W.cell? ⟨w.heap.size, 2, none⟩ = some (.slice A2 N.length c2) :=
    fun W hb => ⟨blk_cell (blk_below f0 hb) 0, blk_cell (blk_below f0 hb) 1, blk_cell (blk_below f0 hb) 2⟩
  have HF := hid hfact
  have H0 := hid hB1
  clear hS hC hB1 hW1 f0 hfact
  cases hA : all124B F with
  | false =>
    have HB0 := hid hA
    have hob : objB F D N = false := by unfold objB; rw [hA]; rfl
    have HO := hid hob
    clear hA hob
    go_enter Try.func70, Try.ntmps70
    go_wp2_with fail
    rw [← HW.out]
    refine (all124_c A0 c0 F W1 ((HC.out.below H0.out).below (Below.refl _ _)).f HC.out.lf HS.out.f).mono ?_
    rintro e w1 ⟨rfl, hb⟩
    rw [HB0.out]
    have HL1 := hid (show Below W1.heap.size W1 w1 from hb.mono (Nat.le_refl _))
    obtain ⟨c0_, c1_, c2_⟩ := HF.out w1 HL1.out
    clear hb
    go_wp2
    go_ret2
    exact ⟨.inr ⟨HO.out, rfl⟩, H0.out.trans (HL1.out.mono H0.out.size)⟩
  | true =>
    cases hA1 : all102B D with
    | false =>
      have HB0 := hid hA
      have HB1 := hid hA1
      have hob : objB F D N = false := by unfold objB; rw [hA, hA1]; rfl
      have HO := hid hob
      clear hA hA1 hob
      go_enter Try.func70, Try.ntmps70
      go_wp2_with fail
      rw [← HW.out]
      refine (all124_c A0 c0 F W1 ((HC.out.below H0.out).below (Below.refl _ _)).f HC.out.lf HS.out.f).mono ?_
      rintro e w1 ⟨rfl, hb⟩
      rw [HB0.out]
      have HL1 := hid (show Below W1.heap.size W1 w1 from hb.mono (Nat.le_refl _))
      obtain ⟨c0_, c1_, c2_⟩ := HF.out w1 HL1.out
      clear hb
      go_wp2_with fail
      clear c0_ c1_ c2_
      refine (all102_c A1 c1 D w1 ((HC.out.below H0.out).below (HL1.out)).d HC.out.ld HS.out.d).mono ?_
      rintro e w2 ⟨rfl, hb⟩
      rw [HB1.out]
      have HL2 := hid (show Below W1.heap.size W1 w2 from below_step HL1.out hb)
      obtain ⟨c0_, c1_, c2_⟩ := HF.out w2 HL2.out
      clear hb
      go_wp2
      go_ret2
      exact ⟨.inr ⟨HO.out, rfl⟩, H0.out.trans (HL2.out.mono H0.out.size)⟩
    | true =>
      cases hA2 : all122B N with
      | false =>
        have HB0 := hid hA
        have HB1 := hid hA1
        have HB2 := hid hA2
        have hob : objB F D N = false := by unfold objB; rw [hA, hA1, hA2]; rfl
        have HO := hid hob
        clear hA hA1 hA2 hob
        go_enter Try.func70, Try.ntmps70
        go_wp2_with fail
        rw [← HW.out]
        refine (all124_c A0 c0 F W1 ((HC.out.below H0.out).below (Below.refl _ _)).f HC.out.lf HS.out.f).mono ?_
        rintro e w1 ⟨rfl, hb⟩
        rw [HB0.out]
        have HL1 := hid (show Below W1.heap.size W1 w1 from hb.mono (Nat.le_refl _))
        obtain ⟨c0_, c1_, c2_⟩ := HF.out w1 HL1.out
        clear hb
        go_wp2_with fail
        clear c0_ c1_ c2_
        refine (all102_c A1 c1 D w1 ((HC.out.below H0.out).below (HL1.out)).d HC.out.ld HS.out.d).mono ?_
        rintro e w2 ⟨rfl, hb⟩
        rw [HB1.out]
        have HL2 := hid (show Below W1.heap.size W1 w2 from below_step HL1.out hb)
        obtain ⟨c0_, c1_, c2_⟩ := HF.out w2 HL2.out
        clear hb
        go_wp2_with fail
        clear c0_ c1_ c2_
        refine (all122_c A2 c2 N w2 ((HC.out.below H0.out).below (HL2.out)).n HC.out.ln HS.out.n).mono ?_
        rintro e w3 ⟨rfl, hb⟩
        rw [HB2.out]
        have HL3 := hid (show Below W1.heap.size W1 w3 from below_step HL2.out hb)
        obtain ⟨c0_, c1_, c2_⟩ := HF.out w3 HL3.out
        clear hb
        go_wp2
        go_ret2
        exact ⟨.inr ⟨HO.out, rfl⟩, H0.out.trans (HL3.out.mono H0.out.size)⟩
      | true =>
        have HB0 := hid hA
        have HB1 := hid hA1
        have HB2 := hid hA2
        have hob : objB F D N = true := by unfold objB; rw [hA, hA1, hA2]; rfl
        have HO := hid hob
        obtain ⟨lF, hFB⟩ := all124B_spec hA
        obtain ⟨lD, hDB⟩ := all102B_spec hA1
        obtain ⟨lN, hNB⟩ := all122B_spec hA2
        have HFB := hid hFB
        have HDB := hid hDB
        have HNB := hid hNB
        clear hA hA1 hA2 hob hFB hDB hNB
        go_enter Try.func70, Try.ntmps70
        go_wp2_with fail
        rw [← HW.out]
        refine (all124_c A0 c0 F W1 ((HC.out.below H0.out).below (Below.refl _ _)).f HC.out.lf HS.out.f).mono ?_
        rintro e w1 ⟨rfl, hb⟩
        rw [HB0.out]
        have HL1 := hid (show Below W1.heap.size W1 w1 from hb.mono (Nat.le_refl _))
        obtain ⟨c0_, c1_, c2_⟩ := HF.out w1 HL1.out
        clear hb
        go_wp2_with fail
        clear c0_ c1_ c2_
        refine (all102_c A1 c1 D w1 ((HC.out.below H0.out).below (HL1.out)).d HC.out.ld HS.out.d).mono ?_
        rintro e w2 ⟨rfl, hb⟩
        rw [HB1.out]
        have HL2 := hid (show Below W1.heap.size W1 w2 from below_step HL1.out hb)
        obtain ⟨c0_, c1_, c2_⟩ := HF.out w2 HL2.out
        clear hb
        go_wp2_with fail
        clear c0_ c1_ c2_
        refine (all122_c A2 c2 N w2 ((HC.out.below H0.out).below (HL2.out)).n HC.out.ln HS.out.n).mono ?_
        rintro e w3 ⟨rfl, hb⟩
        rw [HB2.out]
        have HL3 := hid (show Below W1.heap.size W1 w3 from below_step HL2.out hb)
        obtain ⟨c0_, c1_, c2_⟩ := HF.out w3 HL3.out
        clear hb
        have kc := const_at w3 w3.heap.size rfl
        obtain ⟨k0_, k1_, k2_⟩ := HF.out (w3.alloc (.cells #[.int .u8 83, .int .u8 80, .int .u8 76, .int .u8 49] 5 (4, 5))) (below_alloc HL3.out _)
        go_wp2_with fail
        refine (sput_c (F.length : Int) 2 (by omega) (by omega) _).mono ?_
        rintro e w4 ⟨A4, c4, rfl, hc4, hC4, hb⟩
        obtain ⟨ad4, rfl⟩ := C_some hC4 (by rw [putS2_len']; omega)
        have hK : CB w4 (some ⟨w3.heap.size, 0, none⟩) [83, 80, 76, 49] := const_4 (blk_below (blk_new w3 (.cells #[.int .u8 83, .int .u8 80, .int .u8 76, .int .u8 49] 5 (4, 5))) hb)
        have hb4 := below_step (below_alloc HL3.out (.cells #[.int .u8 83, .int .u8 80, .int .u8 76, .int .u8 49] 5 (4, 5))) hb
        have H4 := hid (And.intro hK (And.intro hC4 hb4))
        clear hK hC4 hb hb4 kc c0_ c1_ c2_ k0_ k1_ k2_
        obtain ⟨c0_, c1_, c2_⟩ := HF.out w4 H4.out.2.2
        go_wp2_with (at_builtin; refine grow_c rfl (.tmp 28) (.tmp 32) rfl ⟨w3.heap.size, 0, none⟩ ad4 [83, 80, 76, 49] (putS (F.length : Int) 2) c4 rfl rfl H4.out.1 H4.out.2.1 (by decide) (by rw [putS2_len']; decide) (by rw [putS2_len']; decide) ?_; intro v5 w5 hr hb; have H5 := hid (And.intro (Kd.R_lower hr H4.out.2.2.size) (below_step H4.out.2.2 hb)); clear hr hb; obtain ⟨c0_, c1_, c2_⟩ := HF.out w5 H5.out.2)
        obtain ⟨O0, hO0⟩ : ∃ O, [83, 80, 76, 49] ++ putS (F.length : Int) 2 = O := ⟨_, rfl⟩
        have hl0 : O0.length = 6 := by rw [← hO0]; rfl
        have hR5 := H5.out.1
        rw [hO0] at hR5
        have hz0 : O0 ++ upTo funcS F 0 = O0 := by simp [upTo]
        rw [← hz0] at hR5
        have H6 := hid (And.intro hR5 H5.out.2)
        have HO0 := hid (And.intro hO0 hl0)
        clear hz0 hR5 hO0 hl0 H5 H4
        go_loopw [4, 6, 37] (fun s4 _ s37 wx => ∃ (k : Nat), k ≤ F.length ∧ s37 = .int .i64 k ∧ Hid (RB wx W1.heap.size s4 (O0 ++ upTo funcS F k) ∧ Below W1.heap.size W1 wx)) (fun _ _ s37 _ => F.length - (intOf s37).toNat)
        case atStart => exact ⟨0, by omega, rfl, hid ⟨H6.out.1, H6.out.2⟩⟩
        case round =>
          obtain ⟨k, hk, rfl, hI⟩ := hrel
          obtain ⟨c0_, c1_, c2_⟩ := HF.out wr hI.out.2
          by_cases hlt : (k : Int) < (F.length : Int)
          · have hk1 : k < F.length := by omega
            obtain ⟨ad, B2, d2, B3, d3, rfl, q0, q1, q2, q3, l2, g2, l3, g3⟩ := at_T124 (HC.out.below (H0.out.trans (hI.out.2.mono H0.out.size))).f (k : Int) (by omega) (by omega)
            have rx : rd_T124 F (k : Int) = F[k] := by unfold rd_T124; rw [Int.toNat_natCast, List.getD_eq_getElem?_getD, List.getElem?_eq_getElem hk1]; rfl
            have e3 : IntKind.i64.wrap ((k : Int) + 1) = (k : Int) + 1 := IntWalk.i64_in _ (by omega)
            have hst := upTo_step funcS F k hk1
            have hln := upTo_len funcS F (fun x hx => funcS_len (HFB.out x hx)) k hk
            have hmem := List.getElem_mem hk1
            have hxb := HFB.out _ hmem
            have hy := HS.out.w _ hmem
            generalize rd_T124 F (k : Int) = x at *
            rw [← rx] at hst hxb hy
            simp only [Int.toNat_natCast] at q0 q1 q2 q3
            clear rx hmem
            obtain ⟨x_0, x_1, x_2, x_3⟩ := x
            dsimp only at *
            obtain ⟨O, hO⟩ : ∃ O, O0 ++ upTo funcS F k = O := ⟨_, rfl⟩
            have hR := hI.out.1
            rw [hO] at hR
            have hOl : O.length ≤ 6 + 700000 := by rw [← hO, List.length_append]; have := HO0.out.2; omega
            have hst2 : O ++ funcS ⟨x_0, x_1, x_2, x_3⟩ = O0 ++ upTo funcS F (k + 1) := by rw [← hO, hst, List.append_assoc]
            have hsl := funcS_len hxb
            have HST := hid hst2
            obtain ⟨W2, hW2⟩ : ∃ W, W = wr.alloc (.cells #[.string x_0, .int .i64 x_1, .slice B2 x_2.length d2, .slice B3 x_3.length d3] 124) := ⟨_, rfl⟩
            have hB2 := below_alloc (Below.refl wr.heap.size wr) (.cells #[.string x_0, .int .i64 x_1, .slice B2 x_2.length d2, .slice B3 x_3.length d3] 124)
            rw [← hW2] at hB2
            have HW2 := hid hW2
            have HP := hid (putFunc_c x_0 x_1 B2 d2 x_2 B3 d3 x_3 W2 (Kd.C_below g2 hB2) l2 (Kd.C_below g3 hB2) l3 hxb hy)
            have H7 := hid (And.intro (Kd.R_below hR hB2) (below_step hI.out.2 hB2))
            clear hst hln hO hR hst2 hI hB2 hW2 c0_ c1_ c2_ hxb g2 g3 hy
            obtain ⟨E, hE⟩ : ∃ E, funcS ⟨x_0, x_1, x_2, x_3⟩ = E := ⟨_, rfl⟩
            rw [hE] at HP hsl HST
            have HE := hid hE
            clear hE
            go_wp2_with fail
            try rw [← HW2.out]
            refine (HP.out).mono ?_
            rintro e wM ⟨v1, rfl, hR1, hb⟩
            obtain ⟨A1', c1', rfl, hc1, hC1⟩ := Kd.R_reads hR1
            have H8 := hid (And.intro (Kd.R_below H7.out.1 hb) (And.intro hC1 (below_step H7.out.2 hb)))
            have hlx : O.length + E.length ≤ 140737488355328 := by omega
            clear hb hC1 hR1
            go_wp2_with (at_builtin; refine app_c (w0 := W1) W1.heap.size rfl (.tmp 41) (.tmp 43) rfl _ O E A1' c1' rfl rfl H8.out.1 H8.out.2.1 H8.out.2.2 H8.out.2.2.size hlx ?_; intro vN wN hr hb hg hat; rw [HST.out] at hr; have H9 := hid (And.intro hr hb); clear hr hb hg hat hlx)
            go_roundw
            case rel => exact ⟨k + 1, by omega, by go_num, H9⟩
            case measure => simp [intOf]; omega
          · have hkl : k = F.length := by omega
            subst hkl
            obtain ⟨O1, hO1⟩ : ∃ O, O0 ++ upTo funcS F F.length = O := ⟨_, rfl⟩
            have hR := hI.out.1
            rw [hO1] at hR
            have hOl : O1.length ≤ 690000 := by rw [← hO1, List.length_append]; have := HO0.out.2; have := upTo_len funcS F (fun x hx => funcS_len (HFB.out x hx)) _ (Nat.le_refl _); omega
            have H7 := hid (And.intro hR hI.out.2)
            have HO1e := hid hO1
            clear hR hI hO1
            go_wp2_with fail
            refine (sput_c (D.length : Int) 2 (by omega) (by omega) _).mono ?_
            rintro e wM ⟨AM, cM, rfl, hcM, hCM, hb⟩
            have H8 := hid (And.intro (Kd.R_below H7.out.1 hb) (And.intro hCM (below_step H7.out.2 hb)))
            have hlx : O1.length + (putS (D.length : Int) 2).length ≤ 140737488355328 := by rw [putS2_len']; omega
            obtain ⟨O2, hO2⟩ : ∃ O, O1 ++ putS (D.length : Int) 2 = O := ⟨_, rfl⟩
            have hn : O2.length ≤ 690000 + 2 := by rw [← hO2, List.length_append, putS2_len']; omega
            have HO2 := hid (And.intro hO2 hn)
            have hz : O2 = O2 ++ upTo dataS D 0 := by simp [upTo]
            have HZO2 := hid hz
            clear hb hCM hO2 hn hz c0_ c1_ c2_ H7
            go_wp2_with (at_builtin; refine app_c (w0 := W1) W1.heap.size rfl (.tmp 46) (.tmp 50) rfl _ O1 (putS (D.length : Int) 2) AM cM rfl rfl H8.out.1 H8.out.2.1 H8.out.2.2 H8.out.2.2.size hlx ?_; intro vN wN hr hb hg hat; rw [HO2.out.1] at hr; have H9 := hid (And.intro hr hb); clear hr hb hg hat hlx; obtain ⟨c0_, c1_, c2_⟩ := HF.out wN H9.out.2)
            go_loopw [4, 8, 55] (fun s4 _ s55 wx => ∃ (k : Nat), k ≤ D.length ∧ s55 = .int .i64 k ∧ Hid (RB wx W1.heap.size s4 (O2 ++ upTo dataS D k) ∧ Below W1.heap.size W1 wx)) (fun _ _ s55 _ => D.length - (intOf s55).toNat)
            case atStart => exact ⟨0, by omega, rfl, hid ⟨by rw [← HZO2.out]; exact H9.out.1, H9.out.2⟩⟩
            case round =>
              obtain ⟨k, hk, rfl, hI⟩ := hrel
              obtain ⟨c0_, c1_, c2_⟩ := HF.out wr hI.out.2
              by_cases hlt : (k : Int) < (D.length : Int)
              · have hk1 : k < D.length := by omega
                obtain ⟨ad, B5, d5, B6, d6, rfl, q0, q1, q2, q3, q4, q5, q6, l5, g5, l6, g6⟩ := at_T102 (HC.out.below (H0.out.trans (hI.out.2.mono H0.out.size))).d (k : Int) (by omega) (by omega)
                have rx : rd_T102 D (k : Int) = D[k] := by unfold rd_T102; rw [Int.toNat_natCast, List.getD_eq_getElem?_getD, List.getElem?_eq_getElem hk1]; rfl
                have e3 : IntKind.i64.wrap ((k : Int) + 1) = (k : Int) + 1 := IntWalk.i64_in _ (by omega)
                have hst := upTo_step dataS D k hk1
                have hln := upTo_len dataS D (fun x hx => dataS_len (HDB.out x hx)) k hk
                have hmem := List.getElem_mem hk1
                have hxb := HDB.out _ hmem
                have hy := HS.out.b _ hmem
                generalize rd_T102 D (k : Int) = x at *
                rw [← rx] at hst hxb hy
                simp only [Int.toNat_natCast] at q0 q1 q2 q3 q4 q5 q6
                clear rx hmem
                obtain ⟨x_0, x_1, x_2, x_3, x_4, x_5, x_6⟩ := x
                dsimp only at *
                obtain ⟨O, hO⟩ : ∃ O, O2 ++ upTo dataS D k = O := ⟨_, rfl⟩
                have hR := hI.out.1
                rw [hO] at hR
                have hOl : O.length ≤ 700000 + 700000 := by rw [← hO, List.length_append]; have := HO2.out.2; omega
                have hst2 : O ++ dataS ⟨x_0, x_1, x_2, x_3, x_4, x_5, x_6⟩ = O2 ++ upTo dataS D (k + 1) := by rw [← hO, hst, List.append_assoc]
                have hsl := dataS_len hxb
                have HST := hid hst2
                obtain ⟨W2, hW2⟩ : ∃ W, W = wr.alloc (.cells #[.string x_0, .int .i64 x_1, .int .i64 x_2, .bool x_3, .int .i64 x_4, .slice B5 x_5.length d5, .slice B6 x_6.length d6] 102) := ⟨_, rfl⟩
                have hB2 := below_alloc (Below.refl wr.heap.size wr) (.cells #[.string x_0, .int .i64 x_1, .int .i64 x_2, .bool x_3, .int .i64 x_4, .slice B5 x_5.length d5, .slice B6 x_6.length d6] 102)
                rw [← hW2] at hB2
                have HW2 := hid hW2
                have HP := hid (putData_c x_0 x_1 x_2 x_3 x_4 B5 d5 x_5 B6 d6 x_6 W2 (Kd.C_below g5 hB2) l5 (Kd.C_below g6 hB2) l6 hxb)
                have H7 := hid (And.intro (Kd.R_below hR hB2) (below_step hI.out.2 hB2))
                clear hst hln hO hR hst2 hI hB2 hW2 c0_ c1_ c2_ hxb g5 g6 hy
                obtain ⟨E, hE⟩ : ∃ E, dataS ⟨x_0, x_1, x_2, x_3, x_4, x_5, x_6⟩ = E := ⟨_, rfl⟩
                rw [hE] at HP hsl HST
                have HE := hid hE
                clear hE
                go_wp2_with fail
                try rw [← HW2.out]
                refine (HP.out).mono ?_
                rintro e wM ⟨v1, rfl, hR1, hb⟩
                obtain ⟨A1', c1', rfl, hc1, hC1⟩ := Kd.R_reads hR1
                have H8 := hid (And.intro (Kd.R_below H7.out.1 hb) (And.intro hC1 (below_step H7.out.2 hb)))
                have hlx : O.length + E.length ≤ 140737488355328 := by omega
                clear hb hC1 hR1
                go_wp2_with (at_builtin; refine app_c (w0 := W1) W1.heap.size rfl (.tmp 59) (.tmp 61) rfl _ O E A1' c1' rfl rfl H8.out.1 H8.out.2.1 H8.out.2.2 H8.out.2.2.size hlx ?_; intro vN wN hr hb hg hat; rw [HST.out] at hr; have H9 := hid (And.intro hr hb); clear hr hb hg hat hlx)
                go_roundw
                case rel => exact ⟨k + 1, by omega, by go_num, H9⟩
                case measure => simp [intOf]; omega
              · have hkl : k = D.length := by omega
                subst hkl
                obtain ⟨O3, hO3⟩ : ∃ O, O2 ++ upTo dataS D D.length = O := ⟨_, rfl⟩
                have hR := hI.out.1
                rw [hO3] at hR
                have hOl : O3.length ≤ 1450000 := by rw [← hO3, List.length_append]; have := HO2.out.2; have := upTo_len dataS D (fun x hx => dataS_len (HDB.out x hx)) _ (Nat.le_refl _); omega
                have H7 := hid (And.intro hR hI.out.2)
                have HO3e := hid hO3
                clear hR hI hO3
                go_wp2_with fail
                refine (sput_c (N.length : Int) 2 (by omega) (by omega) _).mono ?_
                rintro e wM ⟨AM, cM, rfl, hcM, hCM, hb⟩
                have H8 := hid (And.intro (Kd.R_below H7.out.1 hb) (And.intro hCM (below_step H7.out.2 hb)))
                have hlx : O3.length + (putS (N.length : Int) 2).length ≤ 140737488355328 := by rw [putS2_len']; omega
                obtain ⟨O4, hO4⟩ : ∃ O, O3 ++ putS (N.length : Int) 2 = O := ⟨_, rfl⟩
                have hn : O4.length ≤ 1450000 + 2 := by rw [← hO4, List.length_append, putS2_len']; omega
                have HO4 := hid (And.intro hO4 hn)
                have hz : O4 = O4 ++ upTo noteS N 0 := by simp [upTo]
                have HZO4 := hid hz
                clear hb hCM hO4 hn hz c0_ c1_ c2_ H7
                go_wp2_with (at_builtin; refine app_c (w0 := W1) W1.heap.size rfl (.tmp 64) (.tmp 68) rfl _ O3 (putS (N.length : Int) 2) AM cM rfl rfl H8.out.1 H8.out.2.1 H8.out.2.2 H8.out.2.2.size hlx ?_; intro vN wN hr hb hg hat; rw [HO4.out.1] at hr; have H9 := hid (And.intro hr hb); clear hr hb hg hat hlx; obtain ⟨c0_, c1_, c2_⟩ := HF.out wN H9.out.2)
                go_loopw [4, 10, 73] (fun s4 _ s73 wx => ∃ (k : Nat), k ≤ N.length ∧ s73 = .int .i64 k ∧ Hid (RB wx W1.heap.size s4 (O4 ++ upTo noteS N k) ∧ Below W1.heap.size W1 wx)) (fun _ _ s73 _ => N.length - (intOf s73).toNat)
                case atStart => exact ⟨0, by omega, rfl, hid ⟨by rw [← HZO4.out]; exact H9.out.1, H9.out.2⟩⟩
                case round =>
                  obtain ⟨k, hk, rfl, hI⟩ := hrel
                  obtain ⟨c0_, c1_, c2_⟩ := HF.out wr hI.out.2
                  by_cases hlt : (k : Int) < (N.length : Int)
                  · have hk1 : k < N.length := by omega
                    obtain ⟨ad, rfl, q0, q1⟩ := at_T122 (HC.out.below (H0.out.trans (hI.out.2.mono H0.out.size))).n (k : Int) (by omega) (by omega)
                    have rx : rd_T122 N (k : Int) = N[k] := by unfold rd_T122; rw [Int.toNat_natCast, List.getD_eq_getElem?_getD, List.getElem?_eq_getElem hk1]; rfl
                    have e3 : IntKind.i64.wrap ((k : Int) + 1) = (k : Int) + 1 := IntWalk.i64_in _ (by omega)
                    have hst := upTo_step noteS N k hk1
                    have hln := upTo_len noteS N (fun x hx => noteS_len (HNB.out x hx)) k hk
                    have hmem := List.getElem_mem hk1
                    have hxb := HNB.out _ hmem
                    generalize rd_T122 N (k : Int) = x at *
                    rw [← rx] at hst hxb
                    simp only [Int.toNat_natCast] at q0 q1
                    clear rx hmem
                    obtain ⟨x_0, x_1⟩ := x
                    dsimp only at *
                    obtain ⟨O, hO⟩ : ∃ O, O4 ++ upTo noteS N k = O := ⟨_, rfl⟩
                    have hR := hI.out.1
                    rw [hO] at hR
                    have hOl : O.length ≤ 1500000 + 700000 := by rw [← hO, List.length_append]; have := HO4.out.2; omega
                    have hst2 : O ++ noteS ⟨x_0, x_1⟩ = O4 ++ upTo noteS N (k + 1) := by rw [← hO, hst, List.append_assoc]
                    have hsl := noteS_len hxb
                    have HST := hid hst2
                    obtain ⟨b1, b2, b3⟩ := noteB_spec hxb
                    dsimp only at b1 b2 b3
                    have hn2 := nmT_len b1
                    obtain ⟨S6, d6, rfl, hd6, hD6⟩ := Kd.R_reads hR
                    obtain ⟨W2, hW2⟩ : ∃ W, W = wr.alloc (.cells #[.string x_0, .int .i64 x_1] 122) := ⟨_, rfl⟩
                    have g0 := blk_new wr (.cells #[.string x_0, .int .i64 x_1] 122)
                    have hB2 := below_alloc (Below.refl wr.heap.size wr) (.cells #[.string x_0, .int .i64 x_1] 122)
                    rw [← hW2] at hB2 g0
                    have HW2 := hid hW2
                    have hfact : ∀ W, Below W2.heap.size W2 W → W.cell? ⟨wr.heap.size, 0, none⟩ = some (.string x_0) ∧ W.cell? ⟨wr.heap.size, 1, none⟩ = some (.int .i64 x_1) :=
                      fun W hb => ⟨blk_cell (blk_below g0 hb) 0, blk_cell (blk_below g0 hb) 1⟩
                    have HG := hid hfact
                    have HX := hid (And.intro (show x_0.size ≤ 140737488351232 by have := hn2.2; omega) (And.intro hOl (show (nmT x_0).length ≤ 33 from hn2.1)))
                    have HQ := hid (And.intro hd6 (Kd.C_below hD6 hB2))
                    have HBW := hid (below_step hI.out.2 hB2)
                    clear hst hln hO hR hst2 hI hB2 hW2 c0_ c1_ c2_ hxb b1 hn2 hD6 g0 hfact
                    go_wp2
                    rw [← HW2.out]
                    refine start_ (n := 10) (S := fun W => Below W2.heap.size W2 W) (ds := []) #[false, false, false, false, false, false, false, false, false, false] (by kernel_rfl) rfl rfl (Below.refl _ _).drew (fun hHeld => ?_)
                    refine pure_ (i := 0) (N := (some 77)) (v := ?_) (a' := ?_) #[true, false, false, false, false, false, false, false, false, false] rfl rfl (by kernel_rfl) (fun _ _ _ h => h) (Or.inl ⟨by rfl, ?_⟩) ?_ ?_
                    rotate_left
                    · intro w'
                      go_simp
                      with_reducible rfl
                    rotate_left
                    · simp only [Act.put, List.setIfInBounds_toArray, List.set_cons_zero, List.set_cons_succ, i64_w]
                      rfl
                    refine pure_ (i := 1) (N := (some 78)) (v := ?_) (a' := ?_) #[true, true, false, false, false, false, false, false, false, false] rfl rfl (by kernel_rfl) (fun _ _ _ h => h) (Or.inl ⟨by rfl, ?_⟩) ?_ ?_
                    rotate_left
                    · intro w'
                      go_simp
                      with_reducible rfl
                    rotate_left
                    · simp only [Act.put, List.setIfInBounds_toArray, List.set_cons_zero, List.set_cons_succ, i64_w]
                      rfl
                    refine take_ (i := 2) (N := (some 79)) (v := ?_) (a' := ?_) #[true, true, true, false, false, false, false, false, false, false] rfl rfl (by kernel_rfl) (fun _ _ _ h => h) (Or.inl ⟨by rfl, ?_⟩) hHeld ?_ ?_
                    rotate_left
                    · rintro w' s0; obtain ⟨p0_, p1_⟩ := HG.out w' s0
                      go_simp
                      with_reducible rfl
                    rotate_left
                    · simp only [Act.put, List.setIfInBounds_toArray, List.set_cons_zero, List.set_cons_succ, i64_w]
                      rfl
                    refine pure_ (i := 4) (N := (some 81)) (v := ?_) (a' := ?_) #[true, true, true, false, true, false, false, false, false, false] rfl rfl (by kernel_rfl) (fun _ _ _ h => h) (Or.inl ⟨by rfl, ?_⟩) ?_ ?_
                    rotate_left
                    · intro w'
                      go_simp
                      with_reducible rfl
                    rotate_left
                    · simp only [Act.put, List.setIfInBounds_toArray, List.set_cons_zero, List.set_cons_succ, i64_w]
                      rfl
                    refine take_ (i := 5) (N := (some 82)) (v := ?_) (a' := ?_) #[true, true, true, false, true, true, false, false, false, false] rfl rfl (by kernel_rfl) (fun _ _ _ h => h) (Or.inl ⟨by rfl, ?_⟩) hHeld ?_ ?_
                    rotate_left
                    · rintro w' s0; obtain ⟨p0_, p1_⟩ := HG.out w' s0
                      go_simp
                      with_reducible rfl
                    rotate_left
                    · simp only [Act.put, List.setIfInBounds_toArray, List.set_cons_zero, List.set_cons_succ, i64_w]
                      rfl
                    refine one_ (i := 3) (N := (some 80)) #[true, true, true, true, true, true, false, false, false, false] rfl rfl (by kernel_rfl) (by decide) (fun K hK => ?_)
                    refine goes_ Try.func37 (by kernel_rfl) rfl #[.string x_0] (by rfl) rfl rfl (by first | rfl | (simp only [List.map_toArray, List.map_cons, List.map_nil]; rfl)) ?_
                    refine (putNm_c x_0 HX.out.1 _).mono ?_
                    rintro e' w3 ⟨v3, rfl, hR3, hb3⟩
                    obtain ⟨A3, c3_, rfl, hc3, hC3⟩ := Kd.R_reads hR3
                    have HB3 := hid ((show Below W2.heap.size W2 W2.drew from (Below.refl _ _).drew).trans (hb3.mono (Nat.le_refl _)))
                    have HP3 := hid (And.intro hC3 hc3)
                    clear hb3 hC3 hc3 hR3
                    refine ⟨_, rfl, ?_⟩
                    refine hK.out _ _ HB3.out (fun hHeld => ?_)
                    clear hK K
                    refine norm_ (a' := ?_) ?_ ?_
                    rotate_left
                    · show Act.put _ (some 80) _ = _
                      simp only [Act.put, List.setIfInBounds_toArray, List.set_cons_zero, List.set_cons_succ, i64_w]
                      rfl
                    refine one_ (i := 6) (N := (some 83)) #[true, true, true, true, true, true, true, false, false, false] rfl rfl (by kernel_rfl) (by decide) (fun K hK => ?_)
                    refine goes_ Try.func35 (by kernel_rfl) rfl #[.int .i64 x_1, .int .i64 1] (by rfl) rfl rfl (by first | rfl | (simp only [List.map_toArray, List.map_cons, List.map_nil]; rfl)) ?_
                    refine (sput_c x_1 1 (by omega) (by omega) _).mono ?_
                    rintro e' w6 ⟨A6, c6_, rfl, hc6, hC6, hb6⟩
                    have HB6 := hid (HB3.out.trans (hb6.mono HB3.out.size))
                    have HP6 := hid (And.intro hC6 hc6)
                    have nP := hid (And.intro (Kd.C_below HP3.out.1 hb6) HP3.out.2)
                    clear HP3
                    have HP3 := nP
                    clear nP
                    clear hb6 hC6 hc6
                    refine ⟨_, rfl, ?_⟩
                    refine hK.out _ _ HB6.out (fun hHeld => ?_)
                    clear hK K
                    refine norm_ (a' := ?_) ?_ ?_
                    rotate_left
                    · show Act.put _ (some 83) _ = _
                      simp only [Act.put, List.setIfInBounds_toArray, List.set_cons_zero, List.set_cons_succ, i64_w]
                      rfl
                    refine one_ (i := 7) (N := (some 84)) #[true, true, true, true, true, true, true, true, false, false] rfl rfl (by kernel_rfl) (by decide) (fun K hK => ?_)
                    go_simp
                    have HB7 := hid (HB6.out.alloc HB6.out.size (.cells #[.slice S6 O.length d6, .slice A3 (nmT x_0).length c3_, .slice A6 (putS x_1 1).length c6_] 22))
                    refine hK.out _ _ HB7.out (fun hHeld => ?_)
                    clear hK K
                    refine one_ (i := 8) (N := (some 85)) #[true, true, true, true, true, true, true, true, true, false] rfl rfl (by kernel_rfl) (by decide) (fun K hK => ?_)
                    refine goes_ Try.func89 (by kernel_rfl) rfl #[.slice (some ⟨w6.heap.size, 0, none⟩) 3 3] (by rfl) rfl rfl (by first | rfl | (simp only [List.map_toArray, List.map_cons, List.map_nil]; rfl)) ?_
                    refine (concat_c (some ⟨w6.heap.size, 0, none⟩) 3 [O, nmT x_0, putS x_1 1] _ ?_ (by simp) (by simp) ?_).mono ?_
                    · refine CL_block (blk_new w6 _) (by simp) (fun j l hj => ?_)
                      match j, hj with
                      | 0, hj => simp at hj; subst hj; exact ⟨S6, d6, rfl, HQ.out.1, Kd.C_alloc (Kd.C_below HQ.out.2 HB6.out) _⟩
                      | 1, hj => simp at hj; subst hj; exact ⟨A3, c3_, rfl, HP3.out.2, Kd.C_alloc HP3.out.1 _⟩
                      | 2, hj => simp at hj; subst hj; exact ⟨A6, c6_, rfl, HP6.out.2, Kd.C_alloc HP6.out.1 _⟩
                      | j + 3, hj => simp at hj
                    · have h1 := HX.out.2.1
                      have h2 := HX.out.2.2
                      simp only [List.flatten_cons, List.flatten_nil, List.length_append, List.length_nil, putS1_len]
                      omega
                    rintro e' w8 ⟨v8, rfl, hR8, hb8⟩
                    have HB8 := hid (HB7.out.trans (hb8.mono HB7.out.size))
                    have HR8 := hid hR8
                    have HZ8 := hid HB7.out.size
                    clear hR8 hb8
                    refine ⟨_, rfl, ?_⟩
                    refine hK.out _ _ HB8.out (fun hHeld => ?_)
                    clear hK K
                    refine norm_ (a' := ?_) ?_ ?_
                    rotate_left
                    · show Act.put _ (some 85) _ = _
                      simp only [Act.put, List.setIfInBounds_toArray, List.set_cons_zero, List.set_cons_succ, i64_w]
                      rfl
                    refine pure_ (i := 9) (N := (some 4)) (v := ?_) (a' := ?_) #[true, true, true, true, true, true, true, true, true, true] rfl rfl (by kernel_rfl) (fun _ _ _ h => h) (Or.inl ⟨by rfl, ?_⟩) ?_ ?_
                    rotate_left
                    · intro w'
                      go_simp
                      with_reducible rfl
                    rotate_left
                    · simp only [Act.put, List.setIfInBounds_toArray, List.set_cons_zero, List.set_cons_succ, i64_w]
                      rfl
                    refine done_ (by kernel_rfl) ?_
                    obtain ⟨A9, c9, rfl, hc9, hC9⟩ := Kd.R_reads HR8.out
                    have hfl : [O, nmT x_0, putS x_1 1].flatten = O ++ noteS ⟨x_0, x_1⟩ := by
                      unfold noteS
                      simp [List.flatten]
                    have hR9 := HR8.out
                    rw [hfl, HST.out] at hR9
                    have hln9 := congrArg List.length (hfl.trans HST.out)
                    rw [hln9]
                    have H9 := hid (And.intro (Kd.R_lower hR9 (Nat.le_trans HBW.out.size HZ8.out)) (below_step HBW.out HB8.out))
                    clear hR9 hfl hC9 hln9
                    go_wp2
                    go_roundw
                    case rel => exact ⟨k + 1, by omega, by go_num, H9⟩
                    case measure => simp [intOf]; omega
                  · have hkl : k = N.length := by omega
                    subst hkl
                    have hfin : ((((([83, 80, 76, 49] ++ putS (F.length : Int) 2) ++ upTo funcS F F.length) ++ putS (D.length : Int) 2) ++ upTo dataS D D.length) ++ putS (N.length : Int) 2) ++ upTo noteS N N.length = objS F D N := rfl
                    have hR := hI.out.1
                    have hend : O4 ++ upTo noteS N N.length = objS F D N := by
                      rw [← hfin, HO0.out.1, HO1e.out, HO2.out.1, HO3e.out, HO4.out.1]
                    rw [hend] at hR
                    have H7 := hid (And.intro hR hI.out.2)
                    clear hR hI hfin hend c0_ c1_ c2_
                    go_wp2
                    go_ret2
                    exact ⟨.inl ⟨HO.out, _, rfl, Kd.R_lower H7.out.1 H0.out.size⟩, H0.out.trans (H7.out.2.mono H0.out.size)⟩
end Go.Proofs.Ytmcfihpbiilbcaa.H
end
section
namespace Go.Proofs.Ytmcfihpbiilbcaa.H
open Go.RowKit Go.Proofs.YtmcfihpbiilbcaaW.PrintWords Go.Proofs.YtmcfihpbiilbcaaW.PrintLast Go.Proofs.YtmcfihpbiilbcaaW.PrintMore Go.Proofs.Ytmcfihpbiilbcaa.E
set_option linter.unusedVariables false
set_option linter.unusedSimpArgs false
def inB (n : Int) : Bool := decide (0 ≤ n ∧ n ≤ 65535)
def eB (e : Edge) : Bool := namedB e.1 && inB e.2.1 && inB e.2.2.1
def wB (l : List Edge) : Bool := decide (l.length ≤ 2000) && l.all eB
end Go.Proofs.Ytmcfihpbiilbcaa.H
end
section
namespace Go.Proofs.Ytmcfihpbiilbcaa.H
open Go.RowKit Go.Proofs.YtmcfihpbiilbcaaW.PrintWords Go.Proofs.YtmcfihpbiilbcaaW.PrintLast Go.Proofs.YtmcfihpbiilbcaaW.PrintMore Go.Proofs.Ytmcfihpbiilbcaa.E
set_option linter.unusedVariables false
set_option linter.unusedSimpArgs false
theorem magicP_q (l : List Int) (h : Bytes l) : ((strOfNums (mid l 0 4)).toList == [83, 80, 80, 49]) = decide (mid l 0 4 = [83, 80, 80, 49]) := by
  have hk := strEq (mid l 0 4) [83, 80, 80, 49] (h.mid 0 4) (by intro x hx; simp at hx; omega)
  have e : (strOfNums [83, 80, 80, 49]).toList = [83, 80, 80, 49] := by rw [Lib.strOfNums_toList]; rfl
  rw [e] at hk
  exact hk
theorem wordOf_put2 (x : Int) (h0 : 0 ≤ x) (h1 : x ≤ 65535) : wordOf (putS x 2) = x := by
  unfold putS
  rw [show x % 4294967296 = x by omega]
  unfold fourS wordOf
  simp
  omega
end Go.Proofs.Ytmcfihpbiilbcaa.H
end
section
namespace Go.Proofs.Ytmcfihpbiilbcaa.H
open Go.RowKit Go.Proofs.YtmcfihpbiilbcaaW.PrintWords Go.Proofs.YtmcfihpbiilbcaaW.PrintLast Go.Proofs.YtmcfihpbiilbcaaW.PrintMore Go.Proofs.Ytmcfihpbiilbcaa.E
set_option linter.unusedVariables false
set_option linter.unusedSimpArgs false
theorem enter_97 (args : Array Value) (w : World) : (callFunc 97 args).run Try.prog w = .ok (.enter 97 args) w := Go.MuLone.run_callFunc_enter Try.func97 (by kernel_rfl) rfl args w
abbrev RE (w : World) (base : Nat) (v : Value) (l : List Edge) : Prop := Kd.R KE 73 w base (fun _ => True) v l
end Go.Proofs.Ytmcfihpbiilbcaa.H
end
section
namespace Go.Proofs.Ytmcfihpbiilbcaa.H
open Go.RowKit Go.Proofs.YtmcfihpbiilbcaaW.PrintWords Go.Proofs.YtmcfihpbiilbcaaW.PrintLast Go.Proofs.YtmcfihpbiilbcaaW.PrintMore Go.Proofs.Ytmcfihpbiilbcaa.E
set_option linter.unusedVariables false
set_option linter.unusedSimpArgs false
def NoPost (w : World) (n0 : Nat) (w2 : World) (x : Int) : Prop := x = 4 ∧ Below n0 w w2 ∧ w2.heap[w.heap.size]? = some (.cells #[.int .i64 0] 25 (0, 0))
set_option maxRecDepth 100000 in
theorem read97_no (w w1 : World) (B N n0 : Nat) (l : List Int) (hF : Fresh w w1 B l) (hN : w.heap[N]? = some (.cells #[.slice none 0 0] 69 (0, 0))) (hle : n0 ≤ N) (hby : Bytes l) (hl : l.length ≤ 140737488351232) (h4 : 4 ≤ l.length) (hm : ¬ mid l 0 4 = [83, 80, 80, 49]) :
    Calls Try.prog 97 (#[.pointer (some ⟨B, 0, none⟩)] ++ #[.pointer (some ⟨N, 0, none⟩)]) w1 (ReadPost w l B (NoPost w n0)) := by
  have HS := hid (St.start (t := 69) hF hN hle)
  clear hF hN
  have hmg : ((strOfNums (mid l 0 4)).toList == [83, 80, 80, 49]) = false := by rw [magicP_q l hby]; exact decide_eq_false hm
  have HMG := hid hmg
  clear hmg hm
  go_enter Try.func97, Try.ntmps97
  go_wp2_with fail
  refine (bytes_c B l 0 4 _ HS.out.sc (Int.le_refl 0) (by omega) (by omega) hl).mono ?_
  rintro e w2 ⟨v, rfl, hR, hw⟩
  rw [Int.zero_add] at hw
  obtain ⟨A2, c2, rfl, hc2, hC2⟩ := Kd.R_reads hR
  have hstr := Kd.C_string (c := c2) Try.underlying22 Try.underlying5 Try.underlying9 hC2
  have H2 := hid (HS.out.scan hw)
  clear hw hR hC2 HS
  go_wp2_with fail
  rw [HMG.out]
  refine (must_no _ _).mono ?_
  rintro e w3 ⟨rfl, rfl⟩
  have hf := H2.out.fail (Aft.drawn (Drawn0.refl _))
  exact ⟨rfl, .inr ⟨4, rfl, hf.1, rfl, hf.2, hf.1⟩⟩
set_option maxRecDepth 100000 in
theorem wread_no (A : Option Addr) (c : Nat) (l : List Int) (w : World) (hC : CB w A l) (hc : l.length ≤ c) (hby : Bytes l) (hl : l.length ≤ 140737488351232) (h4 : 4 ≤ l.length) (hm : ¬ mid l 0 4 = [83, 80, 80, 49]) :
    Calls Try.prog 61 #[.slice A l.length c] w fun e w' => e = .returned (.tuple #[.slice none 0 0, .int .i64 4]) ∧ Below w.heap.size w w' := by
  have hmf : ∀ (fn : Fn) (first cap : Array Value) (w : World), (Instr.makeFunc fn first cap).run Try.prog w = .ok (.func fn first cap) w := fun _ _ _ _ => rfl
  have HC := hid hC
  have HM := hid hm
  clear hC hm
  go_enter Try.func61, Try.ntmps61
  go_wp2_with fail
  obtain ⟨W3, hW3⟩ : ∃ W, W = w.alloc (.cells #[.slice none 0 0] 69) := ⟨_, rfl⟩
  have d0 := blk_new w (.cells #[.slice none 0 0] 69)
  have hb := below_alloc (Below.refl w.heap.size w) (.cells #[.slice none 0 0] 69)
  rw [← hW3] at d0 hb
  have hs3 : W3.heap.size = w.heap.size + 1 := by rw [hW3]; simp
  rw [← hW3]
  have H3 := hid (And.intro d0 hb)
  clear d0 hb hW3
  refine (try_c 97 enter_97 #[.pointer (some ⟨w.heap.size, 0, none⟩)] A c l W3 (Kd.C_below HC.out H3.out.2) hc hl (NoPost W3 w.heap.size) (fun w1 B hF => read97_no W3 w1 B w.heap.size w.heap.size l hF H3.out.1 (Nat.le_refl _) hby hl h4 HM.out)).mono ?_
  rintro e w4 ⟨x, w2, rfl, ⟨rfl, hB2, hE2⟩, ha⟩
  have hlt2 := blk_lt hE2
  have hB4 : Below w.heap.size w w4 := Aft.below (H3.out.2.trans hB2) ha (by omega) (by omega)
  have H4 := hid hB4
  clear hB4 ha hB2 hE2
  go_wp2
  go_ret2
  exact ⟨rfl, H4.out⟩
end Go.Proofs.Ytmcfihpbiilbcaa.H
end
section
namespace Go.Proofs.Ytmcfihpbiilbcaa.H
open Go.RowKit Go.Proofs.YtmcfihpbiilbcaaW.PrintWords Go.Proofs.YtmcfihpbiilbcaaW.PrintLast Go.Proofs.YtmcfihpbiilbcaaW.PrintMore Go.Proofs.Ytmcfihpbiilbcaa.E
set_option linter.unusedVariables false
set_option linter.unusedSimpArgs false
def L0 : List Edge := [(⟨#[102]⟩, 1, 2, 4613937818241073152)]
theorem z2_ : ∀ e ∈ L0, eB e = true ∧ e.2.2.2 < 18446744073709551616 := by intro e he; simp [L0] at he; subst he; exact ⟨by decide +kernel, by decide⟩
theorem k0_ (w : World) : Calls Try.prog 65 #[.float .f64 18442240474082181120] w fun e w' => e = .returned (.float .f64 0) ∧ w' = w := by
  have z3 : cleanF 18442240474082181120 = 0 := by decide +kernel
  have h := clean_c 18442240474082181120 w
  rw [z3] at h
  exact h
theorem n0_ (w : World) : Calls Try.prog 61 #[.slice (some ⟨w.heap.size, 0, none⟩) 4 4] (w.alloc (.cells #[.int .u8 83, .int .u8 80, .int .u8 80, .int .u8 50] 5 (4, 5))) fun e w' => e = .returned (.tuple #[.slice none 0 0, .int .i64 4]) ∧ Below (w.heap.size + 1) (w.alloc (.cells #[.int .u8 83, .int .u8 80, .int .u8 80, .int .u8 50] 5 (4, 5))) w' := by
  have h := wread_no (some ⟨w.heap.size, 0, none⟩) 4 [83, 80, 80, 50] (w.alloc (.cells #[.int .u8 83, .int .u8 80, .int .u8 80, .int .u8 50] 5 (4, 5))) (const_4 (blk_new w _)) (by decide) (by intro x hx; simp at hx; omega) (by decide) (by decide) (by decide)
  simpa using h
end Go.Proofs.Ytmcfihpbiilbcaa.H
end
section
namespace Go.Proofs.Ytmcfihpbiilbcaa.H
open Go.RowKit Go.Proofs.YtmcfihpbiilbcaaW.PrintWords Go.Proofs.YtmcfihpbiilbcaaW.PrintLast Go.Proofs.YtmcfihpbiilbcaaW.PrintMore Go.Proofs.Ytmcfihpbiilbcaa.E
set_option linter.unusedVariables false
set_option linter.unusedSimpArgs false
theorem take_cat (l : List Int) (i n : Int) (h0 : 0 ≤ i) (hn : 0 ≤ n) : l.take (i + n).toNat = l.take i.toNat ++ mid l i n := by
  unfold mid
  have h : l.take i.toNat = (l.take (i + n).toNat).take i.toNat := by rw [List.take_take, Nat.min_eq_left (by omega)]
  rw [h, List.take_append_drop]
theorem putS2_word {s : List Int} (hs : Bytes s) (h : s.length = 2) : putS (wordOf s) 2 = s := by
  match s, h with
  | [a, b], _ =>
    have ha := hs a (by simp)
    have hb := hs b (by simp)
    unfold putS wordOf fourS
    simp
    omega
theorem fourS_word {s : List Int} (hs : Bytes s) (h : s.length = 4) : fourS (wordOf s) = s := by
  match s, h with
  | [a, b, c, d], _ =>
    have ha := hs a (by simp)
    have hb := hs b (by simp)
    have hc := hs c (by simp)
    have hd := hs d (by simp)
    unfold fourS wordOf
    simp
    omega
theorem bytesOf_strOfNums (s : List Int) (h : Bytes s) : bytesOf (strOfNums s) = s := by
  have e : ∀ M : List Int, Bytes M → (M.map fun n => UInt8.ofNat n.toNat).map (fun b => (b.toNat : Int)) = M := by
    intro M hM
    rw [List.map_map]
    conv => rhs; rw [← List.map_id M]
    apply List.map_congr_left
    intro x hx
    have := hM x hx
    simp
    omega
  have h2 := e s h
  refine Eq.trans ?_ h2
  unfold bytesOf
  rw [strOfNums_data]
end Go.Proofs.Ytmcfihpbiilbcaa.H
end
section
namespace Go.Proofs.Ytmcfihpbiilbcaa.H
open Go.RowKit Go.Proofs.YtmcfihpbiilbcaaW.PrintWords Go.Proofs.YtmcfihpbiilbcaaW.PrintLast Go.Proofs.YtmcfihpbiilbcaaW.PrintMore Go.Proofs.Ytmcfihpbiilbcaa.E
set_option linter.unusedVariables false
set_option linter.unusedSimpArgs false
def Pa (α : Type) : Type := List Int → Int → Except Int (α × Int)
def pThen {α β : Type} (p : Pa α) (f : α → Pa β) : Pa β := fun l i =>
  match p l i with
  | .error x => .error x
  | .ok (a, j) => f a l j
def pRet {α : Type} (a : α) : Pa α := fun _ i => .ok (a, i)
def pBytes (n : Int) : Pa (List Int) := fun l i => if i + n ≤ l.length then .ok (mid l i n, i + n) else .error 2
def pNum (n : Int) : Pa Int := fun l i => if i + n ≤ l.length then .ok (wordOf (mid l i n), i + n) else .error 2
def pMust (b : Bool) : Pa Unit := fun _ i => if b then .ok ((), i) else .error 4
def pRep {α : Type} : Nat → Pa α → Pa (List α)
  | 0, _ => pRet []
  | n + 1, p => pThen p fun a => pThen (pRep n p) fun ls => pRet (a :: ls)
def pName : Pa ByteArray := pThen (pNum 1) fun z => pThen (pBytes z) fun s => pThen (pMust (namedB (strOfNums s))) fun _ => pRet (strOfNums s)
def pCount (m : Int) : Pa Int := pThen (pNum 2) fun n => pThen (pMust (decide (n ≤ m))) fun _ => pRet n
def pBind : Pa Int := pThen (pNum 1) fun n => pThen (pMust (decide (0 < n))) fun _ => pRet n
def pRel : Pa S153 := pThen (pNum 2) fun a => pThen (pNum 1) fun b => pThen pName fun nm => pThen (pNum 4) fun d => pThen (pMust (relB ⟨a, b, nm, d - 2147483648⟩)) fun _ => pRet ⟨a, b, nm, d - 2147483648⟩
def pRels : Pa (List S153) := pThen (pCount 64) fun n => pRep n.toNat pRel
def pFunc : Pa S124 := pThen pName fun nm => pThen pBind fun b => pThen (pCount 2000) fun n => pThen (pRep n.toNat (pNum 4)) fun c => pThen pRels fun r => pRet ⟨nm, b, c, r⟩
def pData : Pa S102 := pThen pName fun nm => pThen pBind fun b => pThen (pNum 1) fun x2 => pThen (pNum 1) fun fl => pThen (pMust (decide (fl ≤ 1))) fun _ => pThen (pNum 2) fun x4 => pThen (pCount 4096) fun z => pThen (pBytes z) fun y => pThen pRels fun r => pRet ⟨nm, b, x2, decide (fl = 1), x4, y, r⟩
def pNote : Pa S122 := pThen pName fun nm => pThen (pNum 1) fun k => pRet ⟨nm, k⟩
abbrev O3 := List S124 × List S102 × List S122
def pObj : Pa O3 := pThen (pBytes 4) fun m => pThen (pMust (decide (m = [83, 80, 76, 49]))) fun _ => pThen (pCount 64) fun a => pThen (pRep a.toNat pFunc) fun F => pThen (pCount 64) fun b => pThen (pRep b.toNat pData) fun D => pThen (pCount 64) fun c => pThen (pRep c.toNat pNote) fun N => pRet (F, D, N)
def readO (l : List Int) : Except Int O3 :=
  match pObj l 0 with
  | .error x => .error x
  | .ok (o, j) => if j < l.length then .error 2 else .ok o
theorem pThen_err {α β : Type} {p : Pa α} {f : α → Pa β} {l : List Int} {i x : Int} (h : p l i = .error x) : pThen p f l i = .error x := by
  unfold pThen; rw [h]
theorem pThen_ok {α β : Type} {p : Pa α} {f : α → Pa β} {l : List Int} {i j : Int} {a : α} (h : p l i = .ok (a, j)) : pThen p f l i = f a l j := by
  unfold pThen; rw [h]
def pre {α : Type} (L : List α) : Except Int (List α × Int) → Except Int (List α × Int)
  | .error x => .error x
  | .ok (ls, j) => .ok (L ++ ls, j)
def Rep {α : Type} (p : Pa α) (n : Nat) (l : List Int) (i0 : Int) (k : Nat) (L : List α) (i : Int) : Prop := k ≤ n ∧ L.length = k ∧ pRep n p l i0 = pre L (pRep (n - k) p l i)
theorem rep0 {α : Type} (p : Pa α) (n : Nat) (l : List Int) (i0 : Int) : Rep p n l i0 0 [] i0 := by
  refine ⟨by omega, rfl, ?_⟩
  rw [Nat.sub_zero]
  cases pRep n p l i0 with
  | error x => rfl
  | ok r => rfl
theorem rep_end {α : Type} {p : Pa α} {n : Nat} {l : List Int} {i0 : Int} {L : List α} {i : Int} (h : Rep p n l i0 n L i) : pRep n p l i0 = .ok (L, i) := by
  have := h.2.2
  rw [Nat.sub_self] at this
  rw [this]
  simp [pRep, pRet, pre]
theorem rep_err {α : Type} {p : Pa α} {n : Nat} {l : List Int} {i0 : Int} {k : Nat} {L : List α} {i x : Int} (h : Rep p n l i0 k L i) (hk : k < n) (he : p l i = .error x) : pRep n p l i0 = .error x := by
  rw [h.2.2, show n - k = (n - k - 1) + 1 by omega, pRep, pThen_err he]
  rfl
theorem rep_ok {α : Type} {p : Pa α} {n : Nat} {l : List Int} {i0 : Int} {k : Nat} {L : List α} {i j : Int} {a : α} (h : Rep p n l i0 k L i) (hk : k < n) (he : p l i = .ok (a, j)) : Rep p n l i0 (k + 1) (L ++ [a]) j := by
  refine ⟨by omega, by rw [List.length_append, h.2.1]; rfl, ?_⟩
  rw [h.2.2, show n - k = (n - (k + 1)) + 1 by omega, pRep, pThen_ok he]
  cases hr : pRep (n - (k + 1)) p l j with
  | error x => rw [pThen_err hr]; rfl
  | ok r =>
    obtain ⟨ls, j2⟩ := r
    rw [pThen_ok hr]
    simp [pRet, pre]
def Bk {α : Type} (p : Pa α) (Q : α → List Int → Prop) : Prop := ∀ (l : List Int) (i : Int), Bytes l → 0 ≤ i → i ≤ l.length → ∀ a j, p l i = .ok (a, j) → i ≤ j ∧ j ≤ l.length ∧ Q a (mid l i (j - i))
theorem mid_split (l : List Int) (i j k : Int) (h0 : 0 ≤ i) (h1 : i ≤ j) (h2 : j ≤ k) : mid l i (k - i) = mid l i (j - i) ++ mid l j (k - j) := by
  have e1 := take_cat l j (k - j) (by omega) (by omega)
  have e2 := take_cat l i (j - i) h0 (by omega)
  have e3 := take_cat l i (k - i) h0 (by omega)
  rw [show j + (k - j) = k by omega] at e1
  rw [show i + (j - i) = j by omega] at e2
  rw [show i + (k - i) = k by omega] at e3
  rw [e1, e2, List.append_assoc] at e3
  exact (List.append_cancel_left e3).symm
theorem mid_zero (l : List Int) (i : Int) (h0 : 0 ≤ i) : mid l i (i - i) = [] := by
  unfold mid
  rw [show i + (i - i) = i by omega]
  simp
theorem Bk.mono {α : Type} {p : Pa α} {Q Q' : α → List Int → Prop} (h : Bk p Q) (k : ∀ a s, Q a s → Q' a s) : Bk p Q' :=
  fun l i hl h0 h1 a j e => by obtain ⟨g1, g2, g3⟩ := h l i hl h0 h1 a j e; exact ⟨g1, g2, k _ _ g3⟩
theorem Bk.then_ {α β : Type} {p : Pa α} {f : α → Pa β} {Q1 : α → List Int → Prop} {Q2 : α → β → List Int → Prop} (h : Bk p Q1) (k : ∀ a, Bk (f a) (Q2 a)) : Bk (pThen p f) (fun b s => ∃ a s1 s2, s = s1 ++ s2 ∧ Q1 a s1 ∧ Q2 a b s2) := by
  intro l i hl h0 h1 b j e
  cases hp : p l i with
  | error x => rw [pThen_err hp] at e; cases e
  | ok r =>
    obtain ⟨a, m⟩ := r
    rw [pThen_ok hp] at e
    obtain ⟨g1, g2, g3⟩ := h l i hl h0 h1 a m hp
    obtain ⟨k1, k2, k3⟩ := k a l m hl (by omega) g2 b j e
    exact ⟨by omega, k2, a, _, _, mid_split l i m j h0 g1 k1, g3, k3⟩
theorem Bk.ret {α : Type} (a : α) : Bk (pRet a) (fun b s => b = a ∧ s = []) := by
  intro l i hl h0 h1 b j e
  simp only [pRet, Except.ok.injEq, Prod.mk.injEq] at e
  obtain ⟨rfl, rfl⟩ := e
  exact ⟨by omega, h1, rfl, mid_zero l i h0⟩
theorem Bk.must (b : Bool) : Bk (pMust b) (fun _ s => b = true ∧ s = []) := by
  intro l i hl h0 h1 u j e
  cases b with
  | false => simp [pMust] at e
  | true =>
    simp only [pMust, if_true, Except.ok.injEq, Prod.mk.injEq] at e
    obtain ⟨-, rfl⟩ := e
    exact ⟨by omega, h1, rfl, mid_zero l i h0⟩
theorem Bk.bytes (n : Int) (hn : 0 ≤ n) : Bk (pBytes n) (fun a s => s = a ∧ Bytes a ∧ (a.length : Int) = n) := by
  intro l i hl h0 h1 a j e
  unfold pBytes at e
  split at e
  · rename_i hle
    simp only [Except.ok.injEq, Prod.mk.injEq] at e
    obtain ⟨rfl, rfl⟩ := e
    rw [show i + n - i = n by omega]
    exact ⟨by omega, hle, rfl, hl.mid i n, mid_len h0 hn hle⟩
  · cases e
theorem Bk.num (n : Int) (hn : 0 ≤ n) : Bk (pNum n) (fun a s => a = wordOf s ∧ Bytes s ∧ (s.length : Int) = n) := by
  intro l i hl h0 h1 a j e
  unfold pNum at e
  split at e
  · rename_i hle
    simp only [Except.ok.injEq, Prod.mk.injEq] at e
    obtain ⟨rfl, rfl⟩ := e
    rw [show i + n - i = n by omega]
    exact ⟨by omega, hle, rfl, hl.mid i n, mid_len h0 hn hle⟩
  · cases e
theorem Bk.rep {α : Type} {p : Pa α} {ser : α → List Int} {ok : α → Prop} (h : Bk p (fun a s => s = ser a ∧ ok a)) : ∀ n, Bk (pRep n p) (fun L s => s = (L.map ser).flatten ∧ L.length = n ∧ ∀ a ∈ L, ok a)
  | 0 => (Bk.ret []).mono (fun a s h => by obtain ⟨rfl, rfl⟩ := h; exact ⟨rfl, rfl, fun a ha => by cases ha⟩)
  | n + 1 => (Bk.then_ h (fun a => Bk.then_ (Bk.rep h n) (fun ls => Bk.ret (a :: ls)))).mono (fun L s q => by
      obtain ⟨a, s1, s2, rfl, ⟨rfl, ha⟩, ls, s3, s4, rfl, ⟨rfl, hn, hls⟩, rfl, rfl⟩ := q
      refine ⟨by simp, by simp [hn], fun b hb => ?_⟩
      rcases List.mem_cons.1 hb with rfl | hb
      · exact ha
      · exact hls b hb)
theorem putS1_word {s : List Int} (hs : Bytes s) (h : s.length = 1) : putS (wordOf s) 1 = s ∧ 0 ≤ wordOf s ∧ wordOf s ≤ 255 := by
  match s, h with
  | [a], _ =>
    have ha := hs a (by simp)
    unfold putS wordOf fourS
    simp
    omega
theorem putS2_word' {s : List Int} (hs : Bytes s) (h : s.length = 2) : putS (wordOf s) 2 = s ∧ 0 ≤ wordOf s ∧ wordOf s ≤ 65535 := by
  refine ⟨putS2_word hs h, ?_⟩
  match s, h with
  | [a, b], _ =>
    have ha := hs a (by simp)
    have hb := hs b (by simp)
    unfold wordOf
    simp
    omega
theorem putS4_word {s : List Int} (hs : Bytes s) (h : s.length = 4) : putS (wordOf s) 4 = s ∧ 0 ≤ wordOf s ∧ wordOf s ≤ 4294967295 := by
  have hr := wordOf_range hs
  refine ⟨?_, hr⟩
  unfold putS
  rw [show wordOf s % 4294967296 = wordOf s by omega, fourS_word hs h]
  exact List.take_of_length_le (by rw [h]; decide)
theorem Bk.num1 : Bk (pNum 1) (fun a s => s = putS a 1 ∧ 0 ≤ a ∧ a ≤ 255) := (Bk.num 1 (by omega)).mono (fun a s h => by
  obtain ⟨rfl, hb, hl⟩ := h
  obtain ⟨e, r1, r2⟩ := putS1_word hb (by omega)
  exact ⟨e.symm, r1, r2⟩)
theorem Bk.num2 : Bk (pNum 2) (fun a s => s = putS a 2 ∧ 0 ≤ a ∧ a ≤ 65535) := (Bk.num 2 (by omega)).mono (fun a s h => by
  obtain ⟨rfl, hb, hl⟩ := h
  obtain ⟨e, r1, r2⟩ := putS2_word' hb (by omega)
  exact ⟨e.symm, r1, r2⟩)
theorem Bk.num4 : Bk (pNum 4) (fun a s => s = putS a 4 ∧ 0 ≤ a ∧ a ≤ 4294967295) := (Bk.num 4 (by omega)).mono (fun a s h => by
  obtain ⟨rfl, hb, hl⟩ := h
  obtain ⟨e, r1, r2⟩ := putS4_word hb (by omega)
  exact ⟨e.symm, r1, r2⟩)
theorem Bk.count (m : Int) : Bk (pCount m) (fun a s => s = putS a 2 ∧ 0 ≤ a ∧ a ≤ 65535 ∧ a ≤ m) := (Bk.then_ Bk.num2 (fun n => Bk.then_ (Bk.must _) (fun _ => Bk.ret n))).mono (fun a s h => by
  obtain ⟨n, s1, s2, rfl, ⟨rfl, h0, h1⟩, _, s3, s4, rfl, ⟨hm, rfl⟩, rfl, rfl⟩ := h
  exact ⟨by simp, h0, h1, of_decide_eq_true hm⟩)
theorem Bk.bind : Bk pBind (fun a s => s = putS a 1 ∧ 1 ≤ a ∧ a ≤ 255) := (Bk.then_ Bk.num1 (fun n => Bk.then_ (Bk.must _) (fun _ => Bk.ret n))).mono (fun a s h => by
  obtain ⟨n, s1, s2, rfl, ⟨rfl, h0, h1⟩, _, s3, s4, rfl, ⟨hm, rfl⟩, rfl, rfl⟩ := h
  exact ⟨by simp, of_decide_eq_true hm, h1⟩)
theorem putS1_is {a : Int} (h0 : 0 ≤ a) (h1 : a ≤ 255) : putS a 1 = [a] := by
  unfold putS fourS
  simp
  omega
theorem Bk.name : Bk pName (fun a s => s = nmT a ∧ namedB a = true) := by
  intro l i hl h0 h1 a j e
  unfold pName at e
  have hn := Bk.num1 l i hl h0 h1
  cases hp : pNum 1 l i with
  | error x => rw [pThen_err hp] at e; cases e
  | ok r =>
    obtain ⟨z, m⟩ := r
    obtain ⟨g1, g2, g3, g4, g5⟩ := hn z m hp
    rw [pThen_ok hp] at e
    obtain ⟨k1, k2, s, s1, s2, hs, ⟨rfl, hby, hlen⟩, _, s3, s4, rfl, ⟨hm, rfl⟩, rfl, rfl⟩ := Bk.then_ (Bk.bytes z g4) (fun s => Bk.then_ (Bk.must (namedB (strOfNums s))) (fun _ => Bk.ret (strOfNums s))) l m hl (by omega) g2 a j e
    refine ⟨by omega, k2, ?_, hm⟩
    rw [mid_split l i m j h0 g1 k1, g3, hs]
    unfold nmT
    rw [bytesOf_strOfNums _ hby, strOfNums_size, putS1_is g4 g5, show ((s1.length : Nat) : Int) % 256 = z by omega]
    simp
theorem Bk.rel : Bk pRel (fun a s => s = relS a ∧ relB a = true) :=
  (Bk.then_ Bk.num2 fun a => Bk.then_ Bk.num1 fun b => Bk.then_ Bk.name fun nm => Bk.then_ Bk.num4 fun d => Bk.then_ (Bk.must _) fun _ => Bk.ret _).mono (fun r s h => by
    obtain ⟨a, s1, t1, rfl, ⟨rfl, -⟩, b, s2, t2, rfl, ⟨rfl, -⟩, nm, s3, t3, rfl, ⟨rfl, -⟩, d, s4, t4, rfl, ⟨rfl, -⟩, _, s5, t5, rfl, ⟨hm, rfl⟩, rfl, rfl⟩ := h
    refine ⟨?_, hm⟩
    unfold relS
    simp only [List.append_nil, show d - 2147483648 + 2147483648 = d by omega])
theorem relsS_map (l : List S153) : relsS l = putS l.length 2 ++ (l.map relS).flatten := by
  unfold relsS rP
  rw [List.take_length]
theorem Bk.rels : Bk pRels (fun a s => s = relsS a ∧ relsB a = true) :=
  (Bk.then_ (Bk.count 64) fun n => Bk.rep Bk.rel n.toNat).mono (fun r s h => by
    obtain ⟨n, s1, t1, rfl, ⟨rfl, h0, -, h2⟩, rfl, hl, ha⟩ := h
    refine ⟨by rw [relsS_map, hl, Int.toNat_of_nonneg h0], ?_⟩
    unfold relsB
    simp only [Bool.and_eq_true, decide_eq_true_eq, List.all_eq_true]
    exact ⟨by omega, ha⟩)
theorem cP_map (l : List Int) : cP l l.length = (l.map (fun y => putS y 4)).flatten := by
  unfold cP
  rw [List.take_length]
theorem Bk.func : Bk pFunc (fun a s => s = funcS a ∧ funcB a = true ∧ ∀ y ∈ a.f2, 0 ≤ y ∧ y ≤ 4294967295) :=
  (Bk.then_ Bk.name fun nm => Bk.then_ Bk.bind fun b => Bk.then_ (Bk.count 2000) fun n => Bk.then_ (Bk.rep (ser := fun y => putS y 4) (Bk.num4) n.toNat) fun c => Bk.then_ Bk.rels fun r => Bk.ret _).mono (fun r s h => by
    obtain ⟨nm, s1, t1, rfl, ⟨rfl, hn⟩, b, s2, t2, rfl, ⟨rfl, hb⟩, n, s3, t3, rfl, ⟨rfl, h0, -, h2⟩, c, s4, t4, rfl, ⟨rfl, hl, ha⟩, r, s5, t5, rfl, ⟨rfl, hr⟩, rfl, rfl⟩ := h
    refine ⟨?_, ?_, ha⟩
    · unfold funcS fH
      rw [cP_map]
      simp only [hl, Int.toNat_of_nonneg h0, List.append_nil, List.append_assoc]
    · unfold funcB
      simp only [Bool.and_eq_true, decide_eq_true_eq]
      exact ⟨hn, hb, by omega, hr⟩)
theorem Bk.data : Bk pData (fun a s => s = dataS a ∧ dataB a = true ∧ Bytes a.f5) := by
  intro l i hl h0 h1 a j e
  have hc : ∀ z : Int, Bk (fun l i => if 0 ≤ z then pBytes z l i else .error 2) (fun a s => s = a ∧ Bytes a ∧ (a.length : Int) = z) := by
    intro z l i hl h0 h1 a j e
    by_cases hz : 0 ≤ z
    · simp only [if_pos hz] at e; exact Bk.bytes z hz l i hl h0 h1 a j e
    · simp only [if_neg hz] at e; cases e
  have hall := Bk.then_ Bk.name fun nm => Bk.then_ Bk.bind fun b => Bk.then_ Bk.num1 fun x2 => Bk.then_ Bk.num1 fun fl => Bk.then_ (Bk.must (decide (fl ≤ 1))) fun _ => Bk.then_ Bk.num2 fun x4 => Bk.then_ (Bk.count 4096) fun z => Bk.then_ (hc z) fun y => Bk.then_ Bk.rels fun r => Bk.ret (⟨nm, b, x2, decide (fl = 1), x4, y, r⟩ : S102)
  have hpd : (pThen pName fun nm => pThen pBind fun b => pThen (pNum 1) fun x2 => pThen (pNum 1) fun fl => pThen (pMust (decide (fl ≤ 1))) fun _ => pThen (pNum 2) fun x4 => pThen (pCount 4096) fun z => pThen (fun l i => if 0 ≤ z then pBytes z l i else .error 2) fun y => pThen pRels fun r => pRet (⟨nm, b, x2, decide (fl = 1), x4, y, r⟩ : S102)) l i = .ok (a, j) := by
    rw [← e]
    unfold pData
    have step : ∀ {α β : Type} {p : Pa α} {f g : α → Pa β} {Q : α → List Int → Prop} {i : Int}, Bk p Q → 0 ≤ i → i ≤ l.length → (∀ (a : α) (j : Int) (s : List Int), Q a s → 0 ≤ j → j ≤ l.length → f a l j = g a l j) → pThen p f l i = pThen p g l i := by
      intro α β p f g Q i hp h0 h1 hk
      cases hq : p l i with
      | error x => rw [pThen_err hq, pThen_err hq]
      | ok r =>
        obtain ⟨a, m⟩ := r
        rw [pThen_ok hq, pThen_ok hq]
        obtain ⟨g1, g2, g3⟩ := hp l i hl h0 h1 a m hq
        exact hk a m _ g3 (by omega) g2
    refine step Bk.name h0 h1 fun nm j1 _ _ a1 b1 => ?_
    refine step Bk.bind a1 b1 fun b j2 _ _ a1 b1 => ?_
    refine step Bk.num1 a1 b1 fun x2 j3 _ _ a1 b1 => ?_
    refine step Bk.num1 a1 b1 fun fl j3 _ _ a1 b1 => ?_
    refine step (Bk.must _) a1 b1 fun fl j3 _ _ a1 b1 => ?_
    refine step Bk.num2 a1 b1 fun fl j3 _ _ a1 b1 => ?_
    refine step (Bk.count 4096) a1 b1 fun z j3 s hz a1 b1 => ?_
    unfold pThen
    simp only [if_pos hz.2.1]
  obtain ⟨g1, g2, nm, s1, t1, hs1, ⟨rfl, hn⟩, b, s2, t2, rfl, ⟨rfl, hb⟩, x2, s3, t3, rfl, ⟨rfl, hx2⟩, fl, s4, t4, rfl, ⟨rfl, hfl⟩, _, s5, t5, rfl, ⟨hm, rfl⟩, x4, s6, t6, rfl, ⟨rfl, hx4⟩, z, s7, t7, rfl, ⟨rfl, hz0, -, hz2⟩, y, s8, t8, rfl, ⟨rfl, hby, hyl⟩, r, s9, t9, rfl, ⟨rfl, hr⟩, rfl, rfl⟩ := hall l i hl h0 h1 a j hpd
  refine ⟨g1, g2, ?_, ?_, hby⟩
  · rw [hs1]
    have hfl1 := of_decide_eq_true hm
    have e1 : (if decide (fl = 1) = true then (1 : Int) else 0) = fl := by
      by_cases h : fl = 1
      · rw [if_pos (decide_eq_true h)]; exact h.symm
      · rw [if_neg (fun q => h (of_decide_eq_true q))]; omega
    unfold dataS
    simp only [e1, hyl, List.append_nil, List.nil_append, List.append_assoc]
  · unfold dataB
    simp only [Bool.and_eq_true, decide_eq_true_eq]
    exact ⟨hn, hb, hx2, hx4, by omega, hr⟩
theorem Bk.note : Bk pNote (fun a s => s = noteS a ∧ noteB a = true) :=
  (Bk.then_ Bk.name fun nm => Bk.then_ Bk.num1 fun k => Bk.ret _).mono (fun r s h => by
    obtain ⟨nm, s1, t1, rfl, ⟨rfl, hn⟩, k, s2, t2, rfl, ⟨rfl, hk⟩, rfl, rfl⟩ := h
    refine ⟨by unfold noteS; simp, ?_⟩
    unfold noteB
    simp only [Bool.and_eq_true, decide_eq_true_eq]
    exact ⟨hn, hk⟩)
def NumsOk (F : List S124) (D : List S102) : Prop := (∀ x ∈ F, ∀ y ∈ x.f2, 0 ≤ y ∧ y ≤ 4294967295) ∧ ∀ x ∈ D, Bytes x.f5
theorem upTo_all {α : Type} (g : α → List Int) (l : List α) : upTo g l l.length = (l.map g).flatten := by
  unfold upTo
  rw [List.take_length]
theorem Bk.obj : Bk pObj (fun o s => s = objS o.1 o.2.1 o.2.2 ∧ objB o.1 o.2.1 o.2.2 = true ∧ NumsOk o.1 o.2.1) :=
  (Bk.then_ (Bk.bytes 4 (by omega)) fun m => Bk.then_ (Bk.must _) fun _ => Bk.then_ (Bk.count 64) fun a => Bk.then_ (Bk.rep (ok := fun x => funcB x = true ∧ ∀ y ∈ x.f2, 0 ≤ y ∧ y ≤ 4294967295) Bk.func a.toNat) fun F => Bk.then_ (Bk.count 64) fun b => Bk.then_ (Bk.rep (ok := fun x => dataB x = true ∧ Bytes x.f5) Bk.data b.toNat) fun D => Bk.then_ (Bk.count 64) fun c => Bk.then_ (Bk.rep Bk.note c.toNat) fun N => Bk.ret _).mono (fun r s h => by
    obtain ⟨m, s1, t1, rfl, ⟨rfl, -⟩, _, s2, t2, rfl, ⟨hm, rfl⟩, a, s3, t3, rfl, ⟨rfl, a0, -, a2⟩, F, s4, t4, rfl, ⟨rfl, hF, kF⟩, b, s5, t5, rfl, ⟨rfl, b0, -, b2⟩, D, s6, t6, rfl, ⟨rfl, hD, kD⟩, c, s7, t7, rfl, ⟨rfl, c0, -, c2⟩, N, s8, t8, rfl, ⟨rfl, hN, kN⟩, rfl, rfl⟩ := h
    have hm' := of_decide_eq_true hm
    refine ⟨?_, ?_, fun x hx => (kF x hx).2, fun x hx => (kD x hx).2⟩
    · unfold objS
      rw [upTo_all, upTo_all, upTo_all]
      simp only [hF, hD, hN, Int.toNat_of_nonneg a0, Int.toNat_of_nonneg b0, Int.toNat_of_nonneg c0, hm', List.append_nil, List.nil_append, List.append_assoc]
    · unfold objB all124B all102B all122B
      simp only [Bool.and_eq_true, decide_eq_true_eq, List.all_eq_true]
      exact ⟨⟨by omega, fun x hx => (kF x hx).1⟩, ⟨by omega, fun x hx => (kD x hx).1⟩, by omega, kN⟩)
end Go.Proofs.Ytmcfihpbiilbcaa.H
end
section
namespace Go.Proofs.Ytmcfihpbiilbcaa.H
open Go.RowKit Go.Proofs.YtmcfihpbiilbcaaW.PrintWords Go.Proofs.YtmcfihpbiilbcaaW.PrintLast Go.Proofs.YtmcfihpbiilbcaaW.PrintMore Go.Proofs.Ytmcfihpbiilbcaa.E
set_option linter.unusedVariables false
set_option linter.unusedSimpArgs false
def Fw {α : Type} (p : Pa α) (a : α) (s : List Int) : Prop := ∀ (u v : List Int), p (u ++ (s ++ v)) u.length = .ok (a, ((u.length + s.length : Nat) : Int))
theorem mid_here (u s v : List Int) : mid (u ++ (s ++ v)) u.length s.length = s := by
  unfold mid
  rw [show ((u.length : Int) + (s.length : Int)).toNat = u.length + s.length by omega, Int.toNat_natCast, List.drop_take, List.drop_left, show u.length + s.length - u.length = s.length by omega, List.take_left]
theorem Fw.then_ {α β : Type} {p : Pa α} {f : α → Pa β} {a : α} {b : β} {s t r : List Int} (h : Fw p a s) (k : Fw (f a) b t) (e : r = s ++ t) : Fw (pThen p f) b r := by
  intro u v
  subst e
  rw [List.append_assoc, pThen_ok (h u (t ++ v))]
  have := k (u ++ s) v
  rw [List.append_assoc, List.length_append] at this
  rw [this]
  simp only [List.length_append]
  congr 2
  omega
theorem Fw.ret {α : Type} (a : α) : Fw (pRet a) a [] := by
  intro u v
  simp [pRet]
theorem Fw.must {b : Bool} (h : b = true) : Fw (pMust b) () [] := by
  intro u v
  subst h
  simp [pMust]
theorem Fw.bytes (s : List Int) (n : Int) (hn : n = s.length) : Fw (pBytes n) s s := by
  intro u v
  subst hn
  unfold pBytes
  rw [if_pos (by simp only [List.length_append]; omega), mid_here]
  congr 2
theorem Fw.num (x n : Int) (hn : ((putS x n).length : Int) = n) (hw : wordOf (putS x n) = x) : Fw (pNum n) x (putS x n) := by
  intro u v
  obtain ⟨S, hS⟩ : ∃ S, putS x n = S := ⟨_, rfl⟩
  rw [hS] at hn hw ⊢
  subst hn
  unfold pNum
  rw [if_pos (by simp only [List.length_append]; omega), mid_here, hw]
  congr 2
theorem Fw.num1 (x : Int) (h0 : 0 ≤ x) (h1 : x ≤ 255) : Fw (pNum 1) x (putS x 1) := Fw.num x 1 rfl (by rw [putS1_is h0 h1, wordOf_one])
theorem Fw.num2 (x : Int) (h0 : 0 ≤ x) (h1 : x ≤ 65535) : Fw (pNum 2) x (putS x 2) := Fw.num x 2 rfl (wordOf_put2 x h0 h1)
theorem Fw.num4 (x : Int) (h0 : 0 ≤ x) (h1 : x ≤ 4294967295) : Fw (pNum 4) x (putS x 4) := Fw.num x 4 rfl (by
  unfold putS
  rw [show x % 4294967296 = x by omega]
  rw [List.take_of_length_le (by show 4 ≤ _; decide)]
  exact wordOf_four x h0 h1)
theorem Fw.count (m x : Int) (h0 : 0 ≤ x) (h1 : x ≤ 65535) (hm : x ≤ m) : Fw (pCount m) x (putS x 2) :=
  Fw.then_ (Fw.num2 x h0 h1) (Fw.then_ (Fw.must (decide_eq_true hm)) (Fw.ret x) rfl) (by simp)
theorem Fw.bind (x : Int) (h0 : 1 ≤ x) (h1 : x ≤ 255) : Fw pBind x (putS x 1) :=
  Fw.then_ (Fw.num1 x (by omega) h1) (Fw.then_ (Fw.must (decide_eq_true (by omega))) (Fw.ret x) rfl) (by simp)
theorem Fw.name (s : ByteArray) (h : namedB s = true) : Fw pName s (nmT s) := by
  have hs := (nmT_len h).2
  have hb := bytesOf_length s
  have e := strOfNums_bytesOf s
  have hm := Fw.must h
  refine Fw.then_ (Fw.num1 (s.size : Int) (by omega) (by omega)) (Fw.then_ (Fw.bytes (bytesOf s) _ (by rw [hb])) (Fw.then_ (s := []) (t := []) (a := ()) ?_ ?_ rfl) (List.append_nil _).symm) ?_
  · rw [e]; exact hm
  · rw [e]; exact Fw.ret s
  · unfold nmT
    rw [putS1_is (by omega) (by omega), show (s.size : Int) % 256 = s.size by omega]
    rfl
theorem Fw.rep {α : Type} {p : Pa α} {ser : α → List Int} : ∀ (L : List α), (∀ a ∈ L, Fw p a (ser a)) → Fw (pRep L.length p) L (L.map ser).flatten
  | [], _ => Fw.ret []
  | a :: L, h => Fw.then_ (h a (List.mem_cons_self)) (Fw.then_ (Fw.rep L (fun b hb => h b (List.mem_cons_of_mem _ hb))) (Fw.ret (a :: L)) rfl) (by simp)
theorem Fw.rel (r : S153) (h : relB r = true) : Fw pRel r (relS r) := by
  obtain ⟨h1, h2, h3, h4, h5⟩ := relB_spec h
  obtain ⟨a, b, nm, d⟩ := r
  dsimp only at h1 h2 h3 h4 h5
  have e : d + 2147483648 - 2147483648 = d := by omega
  have hm := Fw.must h
  have hr := Fw.ret (⟨a, b, nm, d⟩ : S153)
  refine Fw.then_ (Fw.num2 a h1.1 h1.2) (Fw.then_ (Fw.num1 b h2.1 h2.2) (Fw.then_ (Fw.name nm h3) (Fw.then_ (Fw.num4 (d + 2147483648) (by omega) (by omega)) (Fw.then_ (s := []) (t := []) (a := ()) ?_ ?_ rfl) rfl) rfl) rfl) (by unfold relS; simp)
  · rw [e]; exact hm
  · rw [e]; exact hr
theorem Fw.rels (l : List S153) (h : relsB l = true) : Fw pRels l (relsS l) := by
  obtain ⟨h1, h2⟩ := relsB_spec h
  refine Fw.then_ (Fw.count 64 (l.length : Int) (by omega) (by omega) (by omega)) ?_ (relsS_map l)
  rw [Int.toNat_natCast]
  exact Fw.rep l (fun r hr => Fw.rel r (h2 r hr))
theorem Fw.func (x : S124) (h : funcB x = true) (hy : ∀ y ∈ x.f2, 0 ≤ y ∧ y ≤ 4294967295) : Fw pFunc x (funcS x) := by
  obtain ⟨h1, h2, h3, h4⟩ := funcB_spec h
  obtain ⟨nm, b, c, r⟩ := x
  dsimp only at h1 h2 h3 h4 hy
  refine Fw.then_ (Fw.name nm h1) (Fw.then_ (Fw.bind b h2.1 h2.2) (Fw.then_ (Fw.count 2000 (c.length : Int) (by omega) (by omega) (by omega)) (Fw.then_ (a := c) (s := (c.map (fun y => putS y 4)).flatten) ?_ (Fw.then_ (Fw.rels r h4) (Fw.ret _) rfl) rfl) rfl) rfl) (by unfold funcS fH; rw [cP_map]; simp)
  rw [Int.toNat_natCast]
  exact Fw.rep c (fun y hc => Fw.num4 y (hy y hc).1 (hy y hc).2)
theorem Fw.data (x : S102) (h : dataB x = true) : Fw pData x (dataS x) := by
  obtain ⟨h1, h2, h3, h4, h5, h6⟩ := dataB_spec h
  obtain ⟨nm, b, x2, fl, x4, y, r⟩ := x
  dsimp only at h1 h2 h3 h4 h5 h6
  obtain ⟨z, hz⟩ : ∃ z : Int, (if fl = true then (1 : Int) else 0) = z := ⟨_, rfl⟩
  have hz1 : 0 ≤ z ∧ z ≤ 1 ∧ decide (z = 1) = fl := by
    rw [← hz]
    cases fl <;> simp
  refine Fw.then_ (Fw.name nm h1) (Fw.then_ (Fw.bind b h2.1 h2.2) (Fw.then_ (Fw.num1 x2 h3.1 h3.2) (Fw.then_ (Fw.num1 z hz1.1 (by omega)) (Fw.then_ (Fw.must (decide_eq_true hz1.2.1)) (Fw.then_ (Fw.num2 x4 h4.1 h4.2) (Fw.then_ (Fw.count 4096 (y.length : Int) (by omega) (by omega) (by omega)) (Fw.then_ (Fw.bytes y _ rfl) (Fw.then_ (Fw.rels r h6) (t := []) ?_ rfl) rfl) rfl) rfl) rfl) rfl) rfl) rfl) ?_
  · rw [hz1.2.2]; exact Fw.ret _
  · unfold dataS
    simp only [hz, List.append_nil, List.nil_append]
theorem Fw.note (x : S122) (h : noteB x = true) : Fw pNote x (noteS x) := by
  obtain ⟨h1, h2, h3⟩ := noteB_spec h
  obtain ⟨nm, k⟩ := x
  exact Fw.then_ (Fw.name nm h1) (Fw.then_ (Fw.num1 k h2 h3) (Fw.ret _) rfl) (by unfold noteS; simp)
theorem objB_spec {F : List S124} {D : List S102} {N : List S122} (h : objB F D N = true) : all124B F = true ∧ all102B D = true ∧ all122B N = true := by
  unfold objB at h
  simpa only [Bool.and_eq_true] using h
theorem Fw.obj (F : List S124) (D : List S102) (N : List S122) (h : objB F D N = true) (hk : NumsOk F D) : Fw pObj (F, D, N) (objS F D N) := by
  obtain ⟨g1, g2, g3⟩ := objB_spec h
  obtain ⟨f1, f2⟩ := all124B_spec g1
  obtain ⟨d1, d2⟩ := all102B_spec g2
  obtain ⟨n1, n2⟩ := all122B_spec g3
  refine Fw.then_ (Fw.bytes [83, 80, 76, 49] 4 rfl) (Fw.then_ (Fw.must (by decide)) (Fw.then_ (Fw.count 64 (F.length : Int) (by omega) (by omega) (by omega)) (Fw.then_ (a := F) (s := (F.map funcS).flatten) ?_ (Fw.then_ (Fw.count 64 (D.length : Int) (by omega) (by omega) (by omega)) (Fw.then_ (a := D) (s := (D.map dataS).flatten) ?_ (Fw.then_ (Fw.count 64 (N.length : Int) (by omega) (by omega) (by omega)) (Fw.then_ (a := N) (s := (N.map noteS).flatten) ?_ (Fw.ret _) rfl) rfl) rfl) rfl) rfl) rfl) rfl) ?_
  · rw [Int.toNat_natCast]; exact Fw.rep F (fun x hx => Fw.func x (f2 x hx) (hk.1 x hx))
  · rw [Int.toNat_natCast]; exact Fw.rep D (fun x hx => Fw.data x (d2 x hx))
  · rw [Int.toNat_natCast]; exact Fw.rep N (fun x hx => Fw.note x (n2 x hx))
  · unfold objS
    rw [upTo_all, upTo_all, upTo_all]
    simp only [List.append_nil, List.nil_append, List.append_assoc]
theorem obj_nonneg {l : List Int} (hl : Bytes l) {o : O3} {j : Int} (h : pObj l 0 = .ok (o, j)) : 0 ≤ j ∧ j ≤ l.length ∧ l.take j.toNat = objS o.1 o.2.1 o.2.2 ∧ objB o.1 o.2.1 o.2.2 = true ∧ NumsOk o.1 o.2.1 := by
  obtain ⟨g1, g2, g3, g4, g5⟩ := Bk.obj l 0 hl (by omega) (by omega) o j h
  refine ⟨g1, g2, ?_, g4, g5⟩
  rw [← g3]
  unfold mid
  simp
theorem readO_back {l : List Int} (hl : Bytes l) {o : O3} (h : readO l = .ok o) : l = objS o.1 o.2.1 o.2.2 ∧ objB o.1 o.2.1 o.2.2 = true ∧ NumsOk o.1 o.2.1 := by
  unfold readO at h
  cases hp : pObj l 0 with
  | error x => rw [hp] at h; cases h
  | ok r =>
    obtain ⟨q, j⟩ := r
    rw [hp] at h
    dsimp only at h
    split at h
    · cases h
    · rename_i hj
      cases h
      obtain ⟨g1, g2, g3, g4, g5⟩ := obj_nonneg hl hp
      rw [List.take_of_length_le (by omega)] at g3
      exact ⟨g3, g4, g5⟩
theorem readO_obj (F : List S124) (D : List S102) (N : List S122) (h : objB F D N = true) (hk : NumsOk F D) : readO (objS F D N) = .ok (F, D, N) := by
  have hf := Fw.obj F D N h hk [] []
  simp only [List.nil_append, List.append_nil, List.length_nil, Nat.zero_add] at hf
  unfold readO
  rw [show ((0 : Nat) : Int) = 0 from rfl] at hf
  rw [hf]
  simp
end Go.Proofs.Ytmcfihpbiilbcaa.H
end
section
namespace Go.Proofs.Ytmcfihpbiilbcaa.H
open Go.RowKit Go.Proofs.YtmcfihpbiilbcaaW.PrintWords Go.Proofs.YtmcfihpbiilbcaaW.PrintLast Go.Proofs.YtmcfihpbiilbcaaW.PrintMore Go.Proofs.Ytmcfihpbiilbcaa.E
set_option linter.unusedVariables false
set_option linter.unusedSimpArgs false
def Mv (B : Nat) (w : World) (j : Int) (w' : World) : Prop := Below w.heap.size (w.setCell ⟨B, 1, none⟩ (.int .i64 j)) w'
def PP {α : Type} (w : World) (B : Nat) (r : Except Int (α × Int)) (V : α → World → Value → Prop) (e : Ending) (w' : World) : Prop :=
  match r with
  | .error x => e = .panicked (fail_ x) ∧ Aft B w w'
  | .ok (a, j) => ∃ v, e = .returned v ∧ V a w' v ∧ Mv B w j w'
theorem PP.err {α : Type} {w w' : World} {B : Nat} {r : Except Int (α × Int)} {V : α → World → Value → Prop} {x : Int} (hr : r = .error x) (h : Aft B w w') : PP w B r V (.panicked (fail_ x)) w' := by
  subst hr; exact ⟨rfl, h⟩
theorem PP.ok {α : Type} {w w' : World} {B : Nat} {r : Except Int (α × Int)} {V : α → World → Value → Prop} {a : α} {j : Int} {v : Value} (hr : r = .ok (a, j)) (hv : V a w' v) (h : Mv B w j w') : PP w B r V (.returned v) w' := by
  subst hr; exact ⟨v, rfl, hv, h⟩
theorem Mv.trans {w w1 w2 : World} {B : Nat} {l : List Int} {i j k : Int} (h : Sc w B l i) (h1 : Mv B w j w1) (h2 : Mv B w1 k w2) : Mv B w k w2 := step2 h h1 h2
theorem Mv.size {w w1 : World} {B : Nat} {j : Int} (h : Mv B w j w1) : w.heap.size ≤ w1.heap.size := by have := Below.size h; simpa using this
theorem Mv.mem {w w1 w2 : World} {B : Nat} {j : Int} (h : Mv B w j w1) (k : Below w1.heap.size w1 w2) : Mv B w j w2 := Below.trans h (k.mono h.size)
theorem Mv.sc {w w1 : World} {B : Nat} {l : List Int} {i j : Int} (h : Sc w B l i) (h1 : Mv B w j w1) : Sc w1 B l j := h.after h1
theorem Mv.aft {w w1 w2 : World} {B : Nat} {j : Int} (h : Mv B w j w1) (k : Aft B w1 w2) : Aft B w w2 := (Aft.of_below h).then_ k
theorem Mv.start {w : World} {B : Nat} {l : List Int} {i : Int} (h : Sc w B l i) : Mv B w i w := by
  obtain ⟨v, hc, _⟩ := h
  refine ⟨rfl, rfl, rfl, by simp, fun b hb => ?_⟩
  by_cases e : b = B
  · subst e
    rw [heap_set w b _ _ (.int .i64 i) 106 hc, hc]
  · exact (Below.heap_setCell w _ _ b e).symm
theorem Mv.set {w w1 : World} {B : Nat} {j : Int} (h : Mv B w j w1) {g : Nat} (hg : w.heap.size ≤ g) (k : Nat) (u : Value) : Mv B w j (w1.setCell ⟨g, k, none⟩ u) := Below.setCell h (p := ⟨g, k, none⟩) hg u
theorem Mv.blk {w w1 : World} {B g : Nat} {j : Int} {o : Obj} (h : Mv B w j w1) (hg : w.heap[g]? = some o) (hne : g ≠ B) : w1.heap[g]? = some o :=
  (Below.block h g (blk_lt hg)).trans ((Below.heap_setCell w _ _ g hne).trans hg)
theorem R_mv {α : Type} {d : Kd α} {e base : Nat} {ok : Nat → Prop} {w w1 : World} {B : Nat} {j : Int} {v : Value} {xs : List α} (h : d.R e w base ok v xs) (hB : B < base) (k : Mv B w j w1) : d.R e w1 base ok v xs :=
  Kd.R_mono (Kd.R_step (Kd.R_bound h) (fun b hb hl => (Below.block k b hl).trans (Below.heap_setCell w _ _ b (by have := hb.2.1; show b ≠ B; omega)))) (fun _ hk => hk.1)
theorem R_apart {α : Type} {d : Kd α} {e base : Nat} {w w1 : World} {v : Value} {xs : List α} {g : Nat} (h : d.R e w base (fun _ => True) v xs) (hg : w.heap.size ≤ g) (k : Below w.heap.size w w1) : d.R e w1 base (fun k => k ≠ g) v xs :=
  Kd.R_below (Kd.R_mono (Kd.R_elderB h g hg) (fun _ hk => hk.2)) k
theorem R_put {α : Type} {d : Kd α} {e base : Nat} {w : World} {v : Value} {xs : List α} {g : Nat} (h : d.R e w base (fun k => k ≠ g) v xs) (i : Nat) (u : Value) : d.R e (w.setCell ⟨g, i, none⟩ u) base (fun k => k ≠ g) v xs :=
  Kd.R_far (p := ⟨g, i, none⟩) h (fun _ hk => hk) u
theorem R_all {α : Type} {d : Kd α} {e base : Nat} {ok : Nat → Prop} {w : World} {v : Value} {xs : List α} (h : d.R e w base ok v xs) : d.R e w base (fun _ => True) v xs := Kd.R_mono h (fun _ _ => trivial)
theorem number_p (B : Nat) (l : List Int) (i n : Int) (w : World) (h : Sc w B l i) (h0 : 0 ≤ i) (h1 : i ≤ l.length) (hn : 0 ≤ n) (hl : l.length ≤ 140737488351232) (hb : Bytes l) :
    Calls Try.prog 41 #[.pointer (some ⟨B, 0, none⟩), .int .i64 n] w (PP w B (pNum n l i) (fun a _ v => v = .int .i64 a)) := by
  by_cases hc : i + n ≤ l.length
  · refine (number_c B l i n w h h0 hc hn hl hb).mono ?_
    rintro e w' ⟨rfl, hw⟩
    exact PP.ok (by unfold pNum; rw [if_pos hc]) rfl hw
  · refine (number_no B l i n w h h0 h1 hl (by omega)).mono ?_
    rintro e w' ⟨rfl, hw⟩
    exact PP.err (by unfold pNum; rw [if_neg hc]) (Aft.drawn hw)
theorem bytes_p (B : Nat) (l : List Int) (i n : Int) (w : World) (h : Sc w B l i) (h0 : 0 ≤ i) (h1 : i ≤ l.length) (hn : 0 ≤ n) (hl : l.length ≤ 140737488351232) :
    Calls Try.prog 29 #[.pointer (some ⟨B, 0, none⟩), .int .i64 n] w (PP w B (pBytes n l i) (fun a w' v => RB w' w.heap.size v a)) := by
  by_cases hc : i + n ≤ l.length
  · refine (bytes_c B l i n w h h0 hc hn hl).mono ?_
    rintro e w' ⟨v, rfl, hR, hw⟩
    exact PP.ok (by unfold pBytes; rw [if_pos hc]) hR hw
  · refine (bytes_no B l i n w h h0 h1 hl (by omega)).mono ?_
    rintro e w' ⟨rfl, hw⟩
    exact PP.err (by unfold pBytes; rw [if_neg hc]) (Aft.drawn hw)
theorem name_p (B : Nat) (l : List Int) (i : Int) (w : World) (h : Sc w B l i) (h0 : 0 ≤ i) (h1 : i ≤ l.length) (hl : l.length ≤ 140737488351232) (hb : Bytes l) :
    Calls Try.prog 42 #[.pointer (some ⟨B, 0, none⟩)] w (PP w B (pName l i) (fun a _ v => v = .string a)) := by
  by_cases c1 : i + 1 ≤ l.length
  · have hn : pNum 1 l i = .ok (nameLen l i, i + 1) := by unfold pNum; rw [if_pos c1]; rfl
    have hr := wordOf_range (hb.mid i 1)
    by_cases c2 : i + 1 + nameLen l i ≤ l.length
    · have hs : pBytes (nameLen l i) l (i + 1) = .ok (mid l (i + 1) (nameLen l i), i + 1 + nameLen l i) := by unfold pBytes; rw [if_pos c2]
      cases hN : namedB (nameOf l i) with
      | true =>
        refine (name_c B l i w h h0 c1 c2 hr.1 hl hb hN).mono ?_
        rintro e w' ⟨rfl, hw⟩
        refine PP.ok (a := nameOf l i) ?_ rfl hw
        unfold pName
        rw [pThen_ok hn, pThen_ok hs, show strOfNums (mid l (i + 1) (nameLen l i)) = nameOf l i from rfl, hN]
        rfl
      | false =>
        refine (name_form B l i w h h0 c1 c2 hr.1 hl hb hN).mono ?_
        rintro e w' ⟨rfl, hw⟩
        refine PP.err ?_ hw
        unfold pName
        rw [pThen_ok hn, pThen_ok hs, show strOfNums (mid l (i + 1) (nameLen l i)) = nameOf l i from rfl, hN]
        rfl
    · refine (name_cut2 B l i w h h0 c1 (by omega) hl hb).mono ?_
      rintro e w' ⟨rfl, hw⟩
      refine PP.err ?_ hw
      unfold pName
      rw [pThen_ok hn]
      exact pThen_err (by unfold pBytes; rw [if_neg c2])
  · refine (name_cut1 B l i w h h0 (by omega) hl).mono ?_
    rintro e w' ⟨rfl, hw⟩
    refine PP.err ?_ hw
    exact pThen_err (by unfold pNum; rw [if_neg c1])
theorem count_p (B : Nat) (l : List Int) (i n : Int) (w : World) (h : Sc w B l i) (h0 : 0 ≤ i) (h1 : i ≤ l.length) (hl : l.length ≤ 140737488351232) (hb : Bytes l) :
    Calls Try.prog 44 #[.pointer (some ⟨B, 0, none⟩), .int .i64 n] w (PP w B (pCount n l i) (fun a _ v => v = .int .i64 a)) := by
  by_cases c1 : i + 2 ≤ l.length
  · have hn : pNum 2 l i = .ok (wordOf (mid l i 2), i + 2) := by unfold pNum; rw [if_pos c1]
    by_cases c2 : wordOf (mid l i 2) ≤ n
    · refine (count_c B l i n w h h0 c1 hl hb c2).mono ?_
      rintro e w' ⟨rfl, hw⟩
      refine PP.ok ?_ rfl hw
      unfold pCount
      rw [pThen_ok hn, decide_eq_true c2]
      rfl
    · refine (count_form B l i n w h h0 c1 hl hb (by omega)).mono ?_
      rintro e w' ⟨rfl, hw⟩
      refine PP.err ?_ hw
      unfold pCount
      rw [pThen_ok hn, decide_eq_false c2]
      rfl
  · refine (count_cut B l i n w h h0 h1 (by omega) hl).mono ?_
    rintro e w' ⟨rfl, hw⟩
    exact PP.err (pThen_err (by unfold pNum; rw [if_neg c1])) hw
theorem must_p (p : Value) (b : Bool) (w : World) : Calls Try.prog 28 #[p, .bool b] w fun e w' => (b = true ∧ e = .returned (.tuple #[]) ∧ w' = w) ∨ (b = false ∧ e = .panicked (fail_ 4) ∧ w' = w) := by
  cases b with
  | true => exact (must_c p w).mono (fun e w' h => .inl ⟨rfl, h⟩)
  | false => exact (must_no p w).mono (fun e w' h => .inr ⟨rfl, h⟩)
theorem Aft.self (B : Nat) (w : World) : Aft B w w := Aft.drawn (Drawn0.refl w)
theorem bind_p (B : Nat) (l : List Int) (i : Int) (w : World) (h : Sc w B l i) (h0 : 0 ≤ i) (h1 : i ≤ l.length) (hl : l.length ≤ 140737488351232) (hb : Bytes l) :
    Calls Try.prog 141 #[.pointer (some ⟨B, 0, none⟩)] w (PP w B (pBind l i) (fun a _ v => v = .int .i64 a)) := by
  have HS := hid h
  clear h
  go_enter Try.func141, Try.ntmps141
  go_wp2_with fail
  refine (number_p B l i 1 _ HS.out h0 h1 (by omega) hl hb).mono ?_
  rintro e w1 hq
  rcases hp : pNum 1 l i with x | ⟨a, j⟩ <;> rw [hp] at hq
  · obtain ⟨rfl, ha⟩ := hq
    exact ⟨rfl, PP.err (pThen_err hp) ha⟩
  obtain ⟨v, rfl, rfl, hm⟩ := hq
  have HM := hid hm
  have HP := hid hp
  clear hm hp
  go_wp2_with fail
  refine (must_p _ _ _).mono ?_
  rintro e w2 hq
  rcases hq with ⟨hb1, rfl, rfl⟩ | ⟨hb1, rfl, rfl⟩
  · have HB1 := hid hb1
    clear hb1
    go_wp2
    go_ret
    refine PP.ok ?_ rfl HM.out
    unfold pBind
    rw [pThen_ok HP.out, HB1.out]
    rfl
  · refine ⟨rfl, PP.err ?_ (HM.out.aft (Aft.self B _))⟩
    unfold pBind
    rw [pThen_ok HP.out, hb1]
    rfl
end Go.Proofs.Ytmcfihpbiilbcaa.H
end
section
namespace Go.Proofs.Ytmcfihpbiilbcaa.H
open Go.RowKit Go.Proofs.YtmcfihpbiilbcaaW.PrintWords Go.Proofs.YtmcfihpbiilbcaaW.PrintLast Go.Proofs.YtmcfihpbiilbcaaW.PrintMore Go.Proofs.Ytmcfihpbiilbcaa.E
set_option linter.unusedVariables false
set_option linter.unusedSimpArgs false
theorem info153 : (Try.prog.info? 153).map (fun i => (i.zero, i.size, i.bytes)) = some (some (.agg #[.int .i64 0, .int .i64 0, .string ⟨#[]⟩, .int .i64 0]), 4, 40) := by kernel_rfl
theorem app153 {ops : Array Oper} {rest : List Oper} {o : Oper} {a : Act} {Q : Exit → Act → World → Prop} {w0 W : World} (base : Nat) (hgd : o.guard = none) (s x : Operand)
    (ho : o.op = .call { callee := .builtin .append, args := #[s, x], argTypes := #[100, 100] }) (v : Value) (xs : List S153) (p : S153) (hs : a.eval s = v) (hx : a.eval x = .slice (some ⟨W.heap.size, 0, none⟩) 1 1)
    (HO : k153.R 153 W base (fun _ => True) v xs) (HB : Below base w0 W) (hbase : base ≤ W.heap.size) (hl : xs.length ≤ 1000000)
    (h : ∀ v1 w1, k153.R 153 w1 base (fun _ => True) v1 (xs ++ [p]) → Below base w0 w1 → wpList Try.prog ops Q rest (a.put o.dst v1) w1) :
    wpList Try.prog ops Q (o :: rest) a (W.alloc (.cells #[.int .i64 p.f0, .int .i64 p.f1, .string p.f2, .int .i64 p.f3] 153)) :=
  Kd.R_append k153 base hgd s x 100 153 (.agg #[.int .i64 0, .int .i64 0, .string ⟨#[]⟩, .int .i64 0]) 40 ho Try.underlying100 info153 rfl (by decide) (by decide) v xs p [.int .i64 p.f0, .int .i64 p.f1, .string p.f2, .int .i64 p.f3] (fun _ => True) (fun _ => False) hs hx (k153_mkM W base _ p) (fun _ h => h.elim) (fun _ _ => trivial) HO HB hbase (by omega) (fun v1 w1 hr hb _ _ => h v1 w1 hr hb)
set_option maxRecDepth 100000 in
set_option maxHeartbeats 2000000 in
theorem getRels_p (B : Nat) (l : List Int) (i : Int) (w : World) (h : Sc w B l i) (h0 : 0 ≤ i) (h1 : i ≤ l.length) (hl : l.length ≤ 140737488351232) (hb : Bytes l) :
    Calls Try.prog 142 #[.pointer (some ⟨B, 0, none⟩)] w (PP w B (pRels l i) (fun a w' v => k153.R 153 w' w.heap.size (fun _ => True) v a)) := by
  have HS := hid h
  have hBl := h.lt
  have HBL := hid hBl
  clear h hBl
  go_enter Try.func142, Try.ntmps142
  go_wp2_with fail
  refine (count_p B l i 64 _ HS.out h0 h1 hl hb).mono ?_
  rintro e w1 hq
  rcases hp : pCount 64 l i with x | ⟨nn, j⟩ <;> rw [hp] at hq
  · obtain ⟨rfl, ha⟩ := hq
    exact ⟨rfl, PP.err (pThen_err hp) ha⟩
  obtain ⟨v, rfl, rfl, hm⟩ := hq
  have hk := Bk.count 64 l i hb h0 h1 nn j hp
  obtain ⟨n, rfl⟩ : ∃ n : Nat, nn = n := ⟨nn.toNat, by have := hk.2.2.2.1; omega⟩
  have hn64 : n ≤ 64 := by have := hk.2.2.2.2.2; omega
  have hP : pRels l i = pRep n pRel l j := pThen_ok hp
  have HP := hid hP
  have H1 := hid (And.intro (rep0 pRel n l j) (And.intro (show 0 ≤ j ∧ j ≤ l.length from ⟨by omega, hk.2.1⟩) hm))
  clear hp hk hP hm
  go_wp2
  go_loopw [3, 4, 7] (fun s3 _ s7 wx => ∃ (k : Nat) (L : List S153) (i' : Int), k ≤ n ∧ s7 = .int .i64 k ∧ 0 ≤ i' ∧ i' ≤ l.length ∧ Hid (Rep pRel n l j k L i' ∧ Mv B w i' wx ∧ k153.R 153 wx w.heap.size (fun _ => True) s3 L)) (fun _ _ s7 _ => n - (intOf s7).toNat)
  case atStart => exact ⟨0, [], j, by omega, rfl, H1.out.2.1.1, H1.out.2.1.2, hid ⟨H1.out.1, H1.out.2.2, Kd.R_nil _ _ _ _ _⟩⟩
  case round =>
    obtain ⟨k, L, i', hk, rfl, hi0, hi1, hI⟩ := hrel
    by_cases hlt : (k : Int) < (n : Int)
    · have e3 : IntKind.i64.wrap ((k : Int) + 1) = (k : Int) + 1 := IntWalk.i64_in _ (by omega)
      have hk1 : k < n := by omega
      go_wp2_with fail
      refine (number_p B l i' 2 _ (hI.out.2.1.sc HS.out) hi0 hi1 (by omega) hl hb).mono ?_
      rintro e w2 hq
      rcases hp : pNum 2 l i' with x | ⟨a, j1⟩ <;> rw [hp] at hq
      · obtain ⟨rfl, ha⟩ := hq
        exact ⟨rfl, PP.err (HP.out.trans (rep_err hI.out.1 hk1 (by simp only [pRel, pThen_err hp]))) (hI.out.2.1.aft ha)⟩
      obtain ⟨v, rfl, rfl, hm⟩ := hq
      have k1 := Bk.num2 l i' hb hi0 hi1 a j1 hp
      have P1 := hid hp
      have M1 := hid (And.intro (Mv.trans HS.out hI.out.2.1 hm) (R_mv hI.out.2.2 HBL.out hm))
      have a1 : 0 ≤ j1 ∧ j1 ≤ l.length := ⟨by omega, k1.2.1⟩
      have A1 := hid k1.2.2
      have R1 := hid hI.out.1
      clear hp hm k1 hI
      go_wp2_with fail
      refine (number_p B l j1 1 _ (M1.out.1.sc HS.out) a1.1 a1.2 (by omega) hl hb).mono ?_
      rintro e w3 hq
      rcases hp : pNum 1 l j1 with x | ⟨b, j2⟩ <;> rw [hp] at hq
      · obtain ⟨rfl, ha⟩ := hq
        exact ⟨rfl, PP.err (HP.out.trans (rep_err R1.out hk1 (by simp only [pRel, pThen_ok P1.out, pThen_err hp]))) (M1.out.1.aft ha)⟩
      obtain ⟨v, rfl, rfl, hm⟩ := hq
      have k1 := Bk.num1 l j1 hb a1.1 a1.2 b j2 hp
      have P2 := hid hp
      have M2 := hid (And.intro (Mv.trans HS.out M1.out.1 hm) (R_mv M1.out.2 HBL.out hm))
      have a2 : 0 ≤ j2 ∧ j2 ≤ l.length := ⟨by omega, k1.2.1⟩
      have A2 := hid k1.2.2
      clear hp hm k1 M1 a1
      go_wp2_with fail
      refine (name_p B l j2 _ (M2.out.1.sc HS.out) a2.1 a2.2 hl hb).mono ?_
      rintro e w4 hq
      rcases hp : pName l j2 with x | ⟨nm, j3⟩ <;> rw [hp] at hq
      · obtain ⟨rfl, ha⟩ := hq
        exact ⟨rfl, PP.err (HP.out.trans (rep_err R1.out hk1 (by simp only [pRel, pThen_ok P1.out, pThen_ok P2.out, pThen_err hp]))) (M2.out.1.aft ha)⟩
      obtain ⟨v, rfl, rfl, hm⟩ := hq
      have k1 := Bk.name l j2 hb a2.1 a2.2 nm j3 hp
      have P3 := hid hp
      have M3 := hid (And.intro (Mv.trans HS.out M2.out.1 hm) (R_mv M2.out.2 HBL.out hm))
      have a3 : 0 ≤ j3 ∧ j3 ≤ l.length := ⟨by omega, k1.2.1⟩
      have A3 := hid k1.2.2
      clear hp hm k1 M2 a2
      obtain ⟨W, hW⟩ : ∃ W, W = w4.alloc (.cells #[.int .i64 a, .int .i64 b, .string nm, .int .i64 0] 153) := ⟨_, rfl⟩
      have f0 := blk_new w4 (.cells #[.int .i64 a, .int .i64 b, .string nm, .int .i64 0] 153)
      have hB4 := below_alloc (Below.refl w4.heap.size w4) (.cells #[.int .i64 a, .int .i64 b, .string nm, .int .i64 0] 153)
      rw [← hW] at f0 hB4
      have HW := hid hW
      have M4 := hid (And.intro (M3.out.1.mem hB4) (And.intro (R_apart M3.out.2 (Nat.le_refl _) hB4) (And.intro f0 M3.out.1.size)))
      clear hW f0 hB4
      go_wp2_with fail
      rw [← HW.out]
      refine (number_p B l j3 4 _ (M4.out.1.sc HS.out) a3.1 a3.2 (by omega) hl hb).mono ?_
      rintro e w5 hq
      rcases hp : pNum 4 l j3 with x | ⟨d, j4⟩ <;> rw [hp] at hq
      · obtain ⟨rfl, ha⟩ := hq
        exact ⟨rfl, PP.err (HP.out.trans (rep_err R1.out hk1 (by simp only [pRel, pThen_ok P1.out, pThen_ok P2.out, pThen_ok P3.out, pThen_err hp]))) (M4.out.1.aft ha)⟩
      obtain ⟨v, rfl, rfl, hm⟩ := hq
      have k1 := Bk.num4 l j3 hb a3.1 a3.2 d j4 hp
      have P4 := hid hp
      have a4 : 0 ≤ j4 ∧ j4 ≤ l.length := ⟨by omega, k1.2.1⟩
      have e4 : IntKind.i64.wrap (d - 2147483648) = d - 2147483648 := IntWalk.i64_in _ (by have := k1.2.2.2; omega)
      have hg : w4.heap.size ≠ B := by have := HBL.out; have := M4.out.2.2.2; omega
      have f5 := hm.blk M4.out.2.2.1 hg
      have c0_ := blk_cell f5 0
      have c1_ := blk_cell f5 1
      have c2_ := blk_cell f5 2
      have c3_ := blk_cell f5 3
      have g3_ := blk_frozen f5 3
      have f6 := blk_put f5 3 (.int .i64 (d - 2147483648)) rfl
      have M5 := hid (And.intro ((Mv.trans HS.out M4.out.1 hm).set M4.out.2.2.2 3 (.int .i64 (d - 2147483648))) (And.intro (R_put (R_mv M4.out.2.1 HBL.out hm) 3 (.int .i64 (d - 2147483648))) f6))
      have A4 := hid (And.intro k1.2.2 A3.out)
      have q0_ := blk_cell f6 0
      have q1_ := blk_cell f6 1
      have q2_ := blk_cell f6 2
      have q3_ := blk_cell f6 3
      obtain ⟨X, hX⟩ : ∃ X, X = w5.setCell ⟨w4.heap.size, 3, none⟩ (.int .i64 (d - 2147483648)) := ⟨_, rfl⟩
      rw [← hX] at q0_ q1_ q2_ q3_ M5
      have HX := hid hX
      clear hp k1 f5 f6 hm hX hg
      go_wp2_with fail
      try rw [← HX.out]
      refine (rel_c a b nm (d - 2147483648) _ (show nm.size ≤ _ by have := (nmT_len A3.out.2).2; omega)).mono ?_
      rintro e w6 ⟨rfl, hb6⟩
      have M6 := hid (And.intro (M5.out.1.mem hb6) (And.intro (Kd.R_below M5.out.2.1 hb6) (blk_below M5.out.2.2 hb6)))
      clear hb6 q0_ q1_ q2_ q3_
      have q0_ := blk_cell M6.out.2.2 0
      have q1_ := blk_cell M6.out.2.2 1
      have q2_ := blk_cell M6.out.2.2 2
      have q3_ := blk_cell M6.out.2.2 3
      obtain ⟨R, hR⟩ : ∃ R, relB ⟨a, b, nm, d - 2147483648⟩ = R := ⟨_, rfl⟩
      rw [hR]
      have HRB := hid hR
      clear hR
      go_wp2_with fail
      refine (must_p _ _ _).mono ?_
      rintro e w7 hq
      rcases hq with ⟨rfl, rfl, rfl⟩ | ⟨rfl, rfl, rfl⟩
      rotate_left
      · exact ⟨rfl, PP.err (HP.out.trans (rep_err R1.out hk1 (by simp only [pRel, pThen_ok P1.out, pThen_ok P2.out, pThen_ok P3.out, pThen_ok P4.out, HRB.out]; rfl))) (M6.out.1.aft (Aft.self B _))⟩
      have hr2 := rep_ok R1.out hk1 (a := ⟨a, b, nm, d - 2147483648⟩) (j := j4) (by simp only [pRel, pThen_ok P1.out, pThen_ok P2.out, pThen_ok P3.out, pThen_ok P4.out, HRB.out]; rfl)
      have HR2 := hid hr2
      have hLl : L.length ≤ 1000000 := by rw [R1.out.2.1]; omega
      clear hr2
      go_wp2_with (at_builtin; refine app153 (w0 := w.setCell ⟨B, 1, none⟩ (.int .i64 j4)) w.heap.size rfl (.tmp 24) (.tmp 26) rfl _ L ⟨a, b, nm, d - 2147483648⟩ rfl rfl (R_all M6.out.2.1) M6.out.1 M6.out.1.size hLl ?_; intro vN wN hr hb7; have M7 := hid (And.intro hb7 hr); clear hr hb7)
      go_roundw
      case rel => exact ⟨k + 1, _, j4, by omega, by go_num, a4.1, a4.2, hid ⟨HR2.out, M7.out.1, M7.out.2⟩⟩
      case measure => simp [intOf]; omega
    · have hkn : k = n := by omega
      subst hkn
      go_wp2
      go_ret
      exact PP.ok (HP.out.trans (rep_end hI.out.1)) hI.out.2.2 hI.out.2.1
end Go.Proofs.Ytmcfihpbiilbcaa.H
end
