/- awake of layer 8's statements. -/
import Derived.Test.YtmcfihpbiilbcaaScanJ
namespace Go.Proofs.Ytmcfihpbiilbcaa.H
open Go.RowKit Go.Proofs.YtmcfihpbiilbcaaW.PrintWords Go.Proofs.YtmcfihpbiilbcaaW.PrintLast Go.Proofs.YtmcfihpbiilbcaaW.PrintMore Go.Proofs.Ytmcfihpbiilbcaa.F
set_option linter.unusedVariables false
set_option linter.unusedSimpArgs false
theorem enter_77 (args : Array Value) (w : World) : (callFunc 77 args).run Try.prog w = .ok (.enter 77 args) w := Go.MuLone.run_callFunc_enter Try.func77 (by kernel_rfl) rfl args w
theorem enter_78 (args : Array Value) (w : World) : (callFunc 78 args).run Try.prog w = .ok (.enter 78 args) w := Go.MuLone.run_callFunc_enter Try.func78 (by kernel_rfl) rfl args w
theorem C_block {k : IntKind} {w : World} {g : Nat} {l : List Int} {cs : Array Value} {t : TypeId} {fr : Nat × Nat} (hb : w.heap[g]? = some (.cells cs t fr)) (hl : l.length ≤ 9223372036854775807) (h : ∀ (j : Nat) (p : Int), l[j]? = some p → cs[j]? = some (Value.int k p)) :
    Kd.C (Kd.int k) w (some ⟨g, 0, none⟩) l.length l :=
  ⟨rfl, hl, fun _ => ⟨⟨g, 0, none⟩, rfl, fun j p hj => ⟨[.int k p], rfl, rfl, fun i u hu => by
    match i, hu with
    | 0, hu => simp at hu; subst hu; rw [show j * (Kd.int k).sz + 0 = j from Nat.mul_one j, add_plain]; simp [World.cell?, hb, h j p hj]
    | i + 1, hu => simp at hu⟩⟩⟩
theorem ReadPost.imp {w : World} {l : List Int} {B : Nat} {R R' : World → Int → Prop} (h : ∀ w2 x, R w2 x → R' w2 x) {e : Ending} {w2 : World} (k : ReadPost w l B R e w2) : ReadPost w l B R' e w2 := by
  rcases k with ⟨i, a, b, c, d, f, g⟩ | ⟨x, a, b, c⟩
  · exact .inl ⟨i, a, b, c, d, f, h _ _ g⟩
  · exact .inr ⟨x, a, b, h _ _ c⟩
/-- Of an old world's blocks: what a Try leaves. -/
theorem Aft.below {w w1 w2 : World} {B n : Nat} (h : Below n w w1) (k : Aft B w1 w2) (hB : n ≤ B) (hn : n ≤ w1.heap.size) : Below n w w2 :=
  ⟨k.os.trans h.os, k.tape.trans h.tape, k.output.trans h.output, Nat.le_trans h.size k.size, fun i hi => (k.block i (by omega) (by omega)).trans (h.block i hi)⟩
theorem awake_c (w : World) : Calls Try.prog 24 #[] w fun e w' => e = .returned (.bool true) ∧ Below w.heap.size w w' := by
  have hmf : ∀ (fn : Fn) (first cap : Array Value) (w : World), (Instr.makeFunc fn first cap).run Try.prog w = .ok (.func fn first cap) w := fun _ _ _ _ => rfl
  go_enter Try.func24, Try.ntmps24
  go_wp2_with fail
  generalize hWW : ((w.alloc (Obj.cells #[Value.string { data := #[] }] 9)).alloc (Obj.cells #[Value.int .u8 3, .int .u8 97, .int .u8 98, .int .u8 99] 5)) = W
  have b0 : W.heap[w.heap.size]? = some (.cells #[.string ⟨#[]⟩] 9 (0, 0)) := by rw [← hWW]; exact (Below.heap_alloc _ _ _ (by simp)).trans (heap_alloc_new _ _)
  have b1 : W.heap[w.heap.size + 1]? = some (.cells #[Value.int .u8 3, .int .u8 97, .int .u8 98, .int .u8 99] 5 (0, 0)) := by rw [← hWW]; simpa using heap_alloc_new (w.alloc _) _
  have hz : w.heap.size + 1 < W.heap.size := (Array.getElem?_eq_some_iff.1 b1).1
  have hB : Below w.heap.size w W := by rw [← hWW]; exact below_alloc (below_alloc (Below.refl _ _) _) _
  clear hWW
  refine (try_c 77 enter_77 #[.pointer (some ⟨w.heap.size, 0, none⟩)] (some ⟨w.heap.size + 1, 0, none⟩) 4 [3, 97, 98, 99] W (C_block b1 (by decide) (fun j p h => by match j, h with | 0, h => simp at h ⊢; exact h | 1, h => simp at h ⊢; exact h | 2, h => simp at h ⊢; exact h | 3, h => simp at h ⊢; exact h | j + 4, h => simp at h)) (by decide) (by decide)
    (fun w2 x => x = 0 ∧ w2.heap[w.heap.size]? = some (.cells #[.string ⟨#[97, 98, 99]⟩] 9 (0, 0)) ∧ Below w.heap.size w w2)
    (fun w1 B hF => (read77 W w1 B w.heap.size ⟨#[]⟩ hF (by omega) b0).mono fun e w2 h => h.imp (fun w2 x hr => ?_))).mono ?_
  · obtain ⟨h1, h2, w3, h3, rfl⟩ := hr
    have := hF.lt
    have hs := hF.below.size
    exact ⟨h1, h2, (Aft.below (hB.trans (hF.below.mono (by omega))) h3 (by omega) (by omega)).setCell (Nat.le_refl _) _⟩
  rintro e w4 ⟨x, w2, rfl, ⟨rfl, hN2, hB2⟩, ha⟩
  have hNs : w.heap.size < w2.heap.size := (Array.getElem?_eq_some_iff.1 hN2).1
  have hN4 : w4.heap[w.heap.size]? = some (.cells #[.string ⟨#[97, 98, 99]⟩] 9 (0, 0)) := (ha.block _ hNs (by omega)).trans hN2
  have hB4 : Below w.heap.size w w4 := Aft.below hB2 ha (by omega) (by omega)
  have H4 := hid (And.intro hN4 hB4)
  clear hN4 hB4 ha hN2 hB2 hB b0 b1
  go_wp2_with fail
  generalize hWW : w4.alloc (Obj.cells #[Value.int .u8 3, .int .u8 97] 5) = V
  have b1 : V.heap[w4.heap.size]? = some (.cells #[Value.int .u8 3, .int .u8 97] 5 (0, 0)) := by rw [← hWW]; exact heap_alloc_new _ _
  have hN : V.heap[w.heap.size]? = some (.cells #[.string ⟨#[97, 98, 99]⟩] 9 (0, 0)) := by rw [← hWW]; exact (Below.heap_alloc _ _ _ (Array.getElem?_eq_some_iff.1 H4.out.1).1).trans H4.out.1
  have hV : Below w.heap.size w V := by rw [← hWW]; exact below_alloc H4.out.2 _
  have hzV : w.heap.size < V.heap.size := (Array.getElem?_eq_some_iff.1 hN).1
  clear hWW H4
  refine (try_c 78 enter_78 #[] (some ⟨w4.heap.size, 0, none⟩) 2 [3, 97] V (C_block b1 (by decide) (fun j p h => by match j, h with | 0, h => simp at h ⊢; exact h | 1, h => simp at h ⊢; exact h | j + 2, h => simp at h)) (by decide) (by decide)
    (fun w2 x => x = 2 ∧ Below V.heap.size V w2)
    (fun w1 B hF => (read78 V w1 B hF).mono fun e w2 h => h.imp (fun w2 x hr => ?_))).mono ?_
  · have := hF.lt
    have hs := hF.below.size
    exact ⟨hr.1, Aft.below hF.below hr.2 (by omega) (by omega)⟩
  rintro e w6 ⟨x, w5, rfl, ⟨rfl, hB5⟩, ha⟩
  have hB6 : Below V.heap.size V w6 := Aft.below hB5 ha (Nat.le_refl _) hB5.size
  have hN6 : w6.heap[w.heap.size]? = some (.cells #[.string ⟨#[97, 98, 99]⟩] 9 (0, 0)) := (hB6.block _ hzV).trans hN
  have hBw : Below w.heap.size w w6 := hV.trans (hB6.mono (by omega))
  have c0 : w6.cell? ⟨w.heap.size, 0, none⟩ = some (.string ⟨#[97, 98, 99]⟩) := by simp [World.cell?, hN6]
  have n1 : namedB ⟨#[97, 95, 49, 46, 66]⟩ = true := by decide +kernel
  have n2 : namedB ⟨#[97, 32, 98]⟩ = false := by decide +kernel
  have HB := Aside0.mk hBw
  clear hBw hN6 hB6 ha hB5 hV hN b1
  go_wp2_with (first
    | (go_at_call 33; (with_reducible refine (named_c _ _ (by decide)).mono ?_); (first | rw [n1] | rw [n2]); rintro e w8 ⟨rfl, hb⟩; have n0_ := Aside0.mk (below_step (by repeat (first | (with_reducible first | exact HB.out | apply below_alloc | apply pw_below_drewN | apply below_drew1) | exact HB.out)) hb); clear HB; have HB := n0_; clear n0_; (try clear hb))
    | (go_at_call 46; (with_reducible refine (putfloat_c 4607182418800017408 (by decide) _).mono ?_); rintro e w8 ⟨v, rfl, hR, hb⟩; obtain ⟨A, c, rfl, hc, hC⟩ := Kd.R_reads hR; have n0_ := Aside0.mk (below_step (by repeat (first | (with_reducible first | exact HB.out | apply below_alloc | apply pw_below_drewN | apply below_drew1) | exact HB.out)) hb); clear HB; have HB := n0_; clear n0_ hR hC; (try clear hb)))
  go_ret
  exact ⟨by first | rfl | (simp [fourS]; done) | (simp [fourS]; rfl), HB.out⟩
end Go.Proofs.Ytmcfihpbiilbcaa.H
