/- What is read of an image's bytes: plain; the state of a reader that fills a variable. -/
import Derived.Test.YtmcfihpbiilbcaaImgB
namespace Go.Proofs.Ytmcfihpbiilbcaa.H
open Go.RowKit Go.Proofs.YtmcfihpbiilbcaaW.PrintWords Go.Proofs.YtmcfihpbiilbcaaW.PrintLast Go.Proofs.YtmcfihpbiilbcaaW.PrintMore Go.Proofs.Ytmcfihpbiilbcaa.E
set_option linter.unusedVariables false
set_option linter.unusedSimpArgs false
/-- The number that stands at a place. -/
def N4 (l : List Int) (i : Int) : Int := wordOf (mid l i 4)
theorem N4_range {l : List Int} (h : Bytes l) (i : Int) : 0 ≤ N4 l i ∧ N4 l i ≤ 4294967295 := wordOf_range (h.mid i 4)
/-- Where the words end; the size of the data. -/
def rdN (l : List Int) : Int := N4 l 4
def rdI (l : List Int) : Int := 8 + 4 * rdN l
def rdE (l : List Int) : Int := N4 l (rdI l)
def rdZ (l : List Int) : Int := N4 l (rdI l + 4)
def rdW (l : List Int) : Int := N4 l (rdI l + 8 + rdZ l)
def rdM (l : List Int) : Int := N4 l (rdI l + 8 + rdZ l + 4)
def rdC (l : List Int) (k : Nat) : List Int := (List.range k).map (fun (j : Nat) => N4 l (8 + 4 * (j : Int)))
def rdD (l : List Int) : List Int := mid l (rdI l + 8) (rdZ l)
def magicB (l : List Int) : Bool := decide (mid l 0 4 = [83, 80, 88, 49])
/-- The error that reading meets. -/
def readE (l : List Int) : Int :=
  if (l.length : Int) < 4 then 2 else if magicB l = false then 4 else
  if (l.length : Int) < 8 then 2 else if 65536 < rdN l then 4 else
  if (l.length : Int) < rdI l then 2 else
  if (l.length : Int) < rdI l + 4 then 2 else if ¬ (rdE l = 0 ∨ 0 < rdE l ∧ rdE l < rdN l) then 4 else
  if (l.length : Int) < rdI l + 8 then 2 else if 65536 < rdZ l then 4 else
  if (l.length : Int) < rdI l + 8 + rdZ l then 2 else
  if (l.length : Int) < rdI l + 8 + rdZ l + 4 then 2 else if rdZ l < rdW l then 4 else
  if (l.length : Int) < rdI l + 8 + rdZ l + 8 then 2 else if 65536 < rdM l then 4 else
  if rdI l + 8 + rdZ l + 8 < (l.length : Int) then 2 else 0
theorem rdC_len (l : List Int) (k : Nat) : (rdC l k).length = k := by unfold rdC; simp
theorem rdC_step (l : List Int) (k : Nat) : rdC l (k + 1) = rdC l k ++ [N4 l (8 + 4 * (k : Int))] := by
  unfold rdC
  rw [List.range_succ, List.map_append]
  rfl
/-- A reader's state: the scanner, the errno's cell, the variable that it fills (block N, of type t), and that below n0 nothing has turned. -/
structure St (w : World) (B N n0 : Nat) (t : TypeId) (wc : World) (l : List Int) (i : Int) (cs : Array Value) : Prop where
  sc : Sc wc B l i
  errno : wc.heap[w.heap.size]? = some (.cells #[.int .i64 0] 25 (0, 0))
  var : wc.heap[N]? = some (.cells cs t (0, 0))
  below : Below n0 w wc
  lt : N < w.heap.size
  gt : w.heap.size < B
  le : n0 ≤ N
theorem St.start {w w1 : World} {B N n0 : Nat} {t : TypeId} {l : List Int} {cs : Array Value} (h : Fresh w w1 B l) (hN : w.heap[N]? = some (.cells cs t (0, 0))) (hle : n0 ≤ N) : St w B N n0 t w1 l 0 cs :=
  ⟨h.sc, h.cell, (h.below.block N (blk_lt hN)).trans hN, h.below.mono (by have := blk_lt hN; omega), blk_lt hN, h.lt, hle⟩
theorem St.scan {w : World} {B N n0 : Nat} {t : TypeId} {wc w1 : World} {l : List Int} {i j : Int} {cs : Array Value} (h : St w B N n0 t wc l i cs) (hb : Below wc.heap.size (wc.setCell ⟨B, 1, none⟩ (.int .i64 j)) w1) : St w B N n0 t w1 l j cs := by
  have ha := Aft.of_below hb
  have h1 := blk_lt h.errno
  have h2 := blk_lt h.var
  have h3 := h.lt
  have h4 := h.gt
  have h5 := h.le
  exact ⟨h.sc.after hb, (ha.block _ h1 (by omega)).trans h.errno, (ha.block _ h2 (by omega)).trans h.var, (h.below.setCell (p := ⟨B, 1, none⟩) (by show n0 ≤ B; omega) _).trans (hb.mono (by omega)), h.lt, h.gt, h.le⟩
theorem St.drawn {w : World} {B N n0 : Nat} {t : TypeId} {wc : World} {l : List Int} {i : Int} {cs : Array Value} (h : St w B N n0 t wc l i cs) (n : Nat) : St w B N n0 t (wc.drewN n) l i cs :=
  ⟨h.sc.keep (fun b _ => rfl), h.errno, h.var, pw_below_drewN h.below n, h.lt, h.gt, h.le⟩
theorem St.drew {w : World} {B N n0 : Nat} {t : TypeId} {wc : World} {l : List Int} {i : Int} {cs : Array Value} (h : St w B N n0 t wc l i cs) : St w B N n0 t wc.drew l i cs :=
  ⟨h.sc.keep (fun b _ => rfl), h.errno, h.var, h.below.drew, h.lt, h.gt, h.le⟩
theorem St.mem {w : World} {B N n0 : Nat} {t : TypeId} {wc w1 : World} {l : List Int} {i : Int} {cs : Array Value} (h : St w B N n0 t wc l i cs) (hb : Below wc.heap.size wc w1) : St w B N n0 t w1 l i cs := by
  have h1 := blk_lt h.errno
  exact ⟨h.sc.below hb, blk_below h.errno hb, blk_below h.var hb, h.below.trans (hb.mono (by have := h.lt; have := h.le; omega)), h.lt, h.gt, h.le⟩
theorem St.put {w : World} {B N n0 : Nat} {t : TypeId} {wc : World} {l : List Int} {i : Int} {cs : Array Value} (h : St w B N n0 t wc l i cs) (ht : t ≠ 5) (k : Nat) (u : Value) : St w B N n0 t (wc.setCell ⟨N, k, none⟩ u) l i (cs.setIfInBounds k u) := by
  have h3 := h.lt
  have h4 := h.gt
  exact ⟨h.sc.set_ h.var ht (by omega) k u, blk_far h.errno (by show w.heap.size ≠ N; omega) u, blk_set h.var k u, h.below.setCell (p := ⟨N, k, none⟩) h.le u, h.lt, h.gt, h.le⟩
/-- What a failure leaves. -/
theorem St.fail {w : World} {B N n0 : Nat} {t : TypeId} {wc w1 : World} {l : List Int} {i : Int} {cs : Array Value} (h : St w B N n0 t wc l i cs) (ha : Aft B wc w1) : w1.heap[w.heap.size]? = some (.cells #[.int .i64 0] 25 (0, 0)) ∧ Below n0 w w1 := by
  have h1 := blk_lt h.errno
  have h3 := h.lt
  have h4 := h.gt
  have h5 := h.le
  exact ⟨(ha.block _ h1 (by omega)).trans h.errno, Aft.below h.below ha (by omega) (by omega)⟩
/-- A row of type e has been written (not bytes): the state lives on. -/
theorem St.row {w : World} {B N n0 : Nat} {t e : TypeId} {wc w1 : World} {l : List Int} {i : Int} {cs : Array Value} (h : St w B N n0 t wc l i cs) {row : Option Nat} (hg : wc.grownBy w1 row) (hr : ∀ k, row = some k → n0 ≤ k ∧ ∃ cells, wc.heap[k]? = some (.cells cells e (0, 0))) (h5 : e ≠ 5) (h1 : e ≠ 106) (h2 : e ≠ 25) (ht : e ≠ t) : St w B N n0 t w1 l i cs := by
  have ne : ∀ {k t' : Nat} {cells : Array Value}, wc.heap[k]? = some (.cells cells t' (0, 0)) → e ≠ t' → some k ≠ row := by
    intro k t' cells hk hne he
    obtain ⟨_, cells', hc⟩ := hr k he.symm
    exact blk_ne hk hc (Ne.symm hne) rfl
  obtain ⟨v, s1, s2⟩ := h.sc
  refine ⟨⟨v, blk_grown s1 hg (ne s1 h1), ?_⟩, blk_grown h.errno hg (ne h.errno h2), blk_grown h.var hg (ne h.var ht), h.below.grown hg (by have := h.lt; have := h.le; have := blk_lt h.errno; omega) (fun k hk => (hr k hk).1), h.lt, h.gt, h.le⟩
  refine Kd.R_mono (Kd.R_step (Kd.R_bound s2) (fun k hk hlt => hg.block k hlt ?_)) (fun _ hk => hk.1)
  obtain ⟨_, _, _, q, hq, cells, hc⟩ := hk
  simp [Kd.int, Kd.scalar] at hq
  subst hq
  exact ne hc h5
end Go.Proofs.Ytmcfihpbiilbcaa.H
