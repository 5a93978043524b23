/- What rows of layer 24 share: a list of edges that comes in, opened. -/
import Derived.Test.YtmcfihpbiilbcaaLawImg
import Derived.Test.YtmcfihpbiilbcaaWgC
import Derived.Deep.Slices
import Derived.Deep.Fields
import Derived.ChangeSame
namespace Go.Proofs.Ytmcfihpbiilbcaa.K
open Go.Joins Go.ChangeShapes Go.WideShapes Go.ChangeAt Go.RowKit Go.Deep Go.Proofs.YtmcfihpbiilbcaaW.PrintWords Go.Proofs.Ytmcfihpbiilbcaa.H
set_option linter.unusedVariables false
abbrev Edg := Go.Proofs.Ytmcfihpbiilbcaa.H.Edge
theorem KE_mk (w : World) (e : Edg) : KE.K w e (eCells e) :=
  ⟨[.string e.1], [.int .i64 e.2.1, .int .i64 e.2.2.1, .float .f64 e.2.2.2], rfl, rfl, [.int .i64 e.2.1], [.int .i64 e.2.2.1, .float .f64 e.2.2.2], rfl, rfl, [.int .i64 e.2.2.1], [.float .f64 e.2.2.2], rfl, rfl, rfl⟩
theorem C_edges {w : World} {ad : Addr} {l : List Edg} (hl : l.length ≤ 9223372036854775807) (h : ∀ j e, l[j]? = some e → ∀ i u, (eCells e)[i]? = some u → w.cell? (ad.add (j * 4 + i)) = some u) : CE w (some ad) l :=
  ⟨rfl, hl, fun _ => ⟨ad, rfl, fun j p hj => ⟨eCells p, rfl, KE_mk w p, fun i u hu => h j p hj i u hu⟩⟩⟩
section
variable {H : Type} {enc : TypeId × Value → H} {W : World} {base : Nat} {held : Bool}
set_option maxRecDepth 100000 in
/-- An edge, as four cells that are read. -/
theorem open_edge {n : Nat} {cs : List Value} {x : DataW H × List MemPlace} (h : DataW.trod enc Try.prog W base (fun _ => true) held n 73 cs = some x) :
    ∃ e : Edg, cs = eCells e ∧ e.2.2.2 < 18446744073709551616 ∧ (e.1.size ∈ x.1.weights Try.prog 73) := by
  have h4 : Try.prog.cellsOf 73 = 4 := by kernel_rfl
  have k9 : Try.prog.cellsOf 9 = 1 := by kernel_rfl
  have k3 : Try.prog.cellsOf 3 = 1 := by kernel_rfl
  have k50 : Try.prog.cellsOf 50 = 1 := by kernel_rfl
  obtain ⟨xs, m, _, hx, hc, hl, g⟩ := DataW.trod_struct Try.underlying73 h
  have hl' : xs.length = 4 := hl
  rw [h4] at hc
  match cs, hc with
  | [c0, c1, c2, c3], _ =>
    match xs, hl' with
    | [y0, y1, y2, y3], _ =>
      have g0 : DataW.trod enc Try.prog W base (fun _ => true) held m 9 [c0] = some y0 := by simpa [Value.cells, k9] using g 0 _ rfl
      have g1 : DataW.trod enc Try.prog W base (fun _ => true) held m 3 [c1] = some y1 := by simpa [Value.cells, k3] using g 1 _ rfl
      have g2 : DataW.trod enc Try.prog W base (fun _ => true) held m 3 [c2] = some y2 := by simpa [Value.cells, k3] using g 2 _ rfl
      have g3 : DataW.trod enc Try.prog W base (fun _ => true) held m 50 [c3] = some y3 := by simpa [Value.cells, k50] using g 3 _ rfl
      obtain ⟨s, e0, f0, _⟩ := DataW.trod_string Try.underlying9 g0
      obtain ⟨z1, e1, _, _⟩ := DataW.trod_int Try.underlying3 g1
      obtain ⟨z2, e2, _, _⟩ := DataW.trod_int Try.underlying3 g2
      obtain ⟨z3, e3, w3⟩ : ∃ b, [c3] = [.float .f64 b] ∧ (Lit.float .f64 b).wf = true := by
        cases m with
        | zero => simp [DataW.trod] at g3
        | succ m =>
          unfold DataW.trod at g3
          rw [Try.underlying50] at g3
          split at g3 <;> simp_all
      simp only [List.cons.injEq, and_true] at e0 e1 e2 e3
      refine ⟨(s, z1, z2, z3), by rw [e0, e1, e2, e3]; rfl, by simpa [Lit.wf] using w3, ?_⟩
      rw [hx, f0]
      have hw : s.size = s.data.toList.length := by rw [Array.length_toList]; rfl
      show s.size ∈ DataW.weights Try.prog 73 (.agg [.lit (.string s.data.toList), y1.1, y2.1, y3.1])
      unfold DataW.weights
      rw [Try.underlying73]
      simp only [List.map_cons, DataW.weightsEach, DataW.weights, List.mem_append, List.mem_singleton]
      exact .inl hw
theorem weightsAll_mem {e : TypeId} : ∀ {l : List (DataW H)} {d : DataW H} {n : Nat}, d ∈ l → n ∈ d.weights Try.prog e → n ∈ DataW.weightsAll Try.prog e l
  | a :: l, d, n, hd, hn => by
    unfold DataW.weightsAll
    rcases List.mem_cons.1 hd with rfl | hd
    · exact List.mem_append_left _ hn
    · exact List.mem_append_right _ (weightsAll_mem hd hn)
set_option maxRecDepth 100000 in
theorem open_edges {r : Reach} {b0 : Nat} {v : Value} {d : DataW H} {p : List MemPlace} (hv0 : Value.okWide Try.prog W r b0 69 v) (h : DataW.Trod enc Try.prog W base (fun _ => true) held 69 v d p) (hs : ∀ n ∈ d.weights Try.prog 69, n ≤ 140737488351232) :
    ∃ (A : Option Addr) (c : Nat) (l : List Edg), v = .slice A l.length c ∧ l.length ≤ c ∧ CE W A l ∧ ∀ e ∈ l, e.2.2.2 < 18446744073709551616 ∧ e.1.size ≤ 140737488351232 := by
  obtain ⟨a0, len0, cap0, rfl⟩ := okWide_slice Try.underlying69 hv0
  obtain ⟨fu, hf⟩ := h
  have h4 : Try.prog.cellsOf 73 = 4 := by kernel_rfl
  rcases open_slice Try.underlying69 hf with ⟨hcs, _⟩ | ⟨a, len, cap, m, n, D, Pl, hcs, hb, hl, hm, hmm, hx, hi⟩
  · have : Value.slice a0 len0 cap0 = .slice none 0 0 := by simpa [Value.cells] using hcs
    exact ⟨none, 0, [], this, Nat.le_refl _, ⟨rfl, by simp, fun h => absurd h (by simp)⟩, fun e he => by cases he⟩
  · have hv : Value.slice a0 len0 cap0 = .slice (some a) len cap := by simpa [Value.cells] using hcs
    have hm' : m = cap := by simpa using hmm
    have hel : ∀ i, i < len → ∃ e : Edg, e.2.2.2 < 18446744073709551616 ∧ e.1.size ≤ 140737488351232 ∧ ∀ j u, (eCells e)[j]? = some u → W.cell? (a.add (i * 4 + j)) = some u := by
      intro i hi'
      obtain ⟨cs', hc, ht⟩ := hi i (by omega)
      obtain ⟨e, he, hb64, hsz⟩ := open_edge ht
      rw [h4] at hc
      obtain ⟨_, hcl, hat⟩ := World.cells?_some hc
      refine ⟨e, hb64, hs _ ?_, fun j u hu => ?_⟩
      · have hd : d = .slice ((List.range len).map D) ((List.range (m - len)).map fun j => D (len + j)) := (Prod.mk.inj hx).1
        rw [hd]
        unfold DataW.weights
        rw [Try.underlying69]
        refine List.mem_cons_of_mem _ (List.mem_append_left _ (weightsAll_mem (List.mem_map.2 ⟨i, List.mem_range.2 hi', rfl⟩) hsz))
      · have hj : j < 4 := (List.getElem?_eq_some_iff.1 hu).1
        rw [he] at hat
        have := hat j hj
        rw [← Go.Deep.add_add, this, hu]
    have hch : ∃ f : Nat → Edg, ∀ i, i < len → (f i).2.2.2 < 18446744073709551616 ∧ (f i).1.size ≤ 140737488351232 ∧ ∀ j u, (eCells (f i))[j]? = some u → W.cell? (a.add (i * 4 + j)) = some u := by
      refine ⟨fun i => if h : i < len then Classical.choose (hel i h) else (⟨#[]⟩, 0, 0, 0), fun i hi' => ?_⟩
      simp only [dif_pos hi']
      exact Classical.choose_spec (hel i hi')
    obtain ⟨f, hf'⟩ := hch
    have hlen : ((List.range len).map f).length = len := by simp
    have hmx : cap ≤ 9223372036854775807 := hm
    refine ⟨some a, cap, (List.range len).map f, by rw [hlen]; exact hv, by omega, C_edges (by omega) fun j e hj => ?_, fun e he => ?_⟩
    · have hjl : j < len := by have := (List.getElem?_eq_some_iff.1 hj).1; omega
      have : f j = e := by simpa [hjl] using hj
      rw [← this]
      exact (hf' j hjl).2.2
    · obtain ⟨i, hi', rfl⟩ := List.mem_map.1 he
      exact ⟨(hf' i (List.mem_range.1 hi')).1, (hf' i (List.mem_range.1 hi')).2.1⟩
theorem weigh {ts : List TypeId} {ds : List (DataW H)} {j : Nat} {t : TypeId} {d : DataW H} (h : (DataW.weightsEach Try.prog ts ds).all (· ≤ reachBytes) = true) (ht : ts[j]? = some t) (hd : ds[j]? = some d) : ∀ n ∈ d.weights Try.prog t, n ≤ 140737488351232 := by
  intro n hn
  have := List.all_eq_true.1 h _ (DataW.weights_mem_each ht hd n hn)
  exact of_decide_eq_true this
end
end Go.Proofs.Ytmcfihpbiilbcaa.K
