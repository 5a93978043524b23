import Derived.Test.YtmcfihpbiilbcaaZObjectWrites5
section
namespace Go.Proofs.Ytmcfihpbiilbcaa.H
open Go.RowKit Go.Proofs.YtmcfihpbiilbcaaW.PrintWords Go.Proofs.YtmcfihpbiilbcaaW.PrintLast Go.Proofs.YtmcfihpbiilbcaaW.PrintMore Go.Proofs.Ytmcfihpbiilbcaa.E
set_option linter.unusedVariables false
set_option linter.unusedSimpArgs false
theorem may_ {ops : Array Oper} {Q : Exit → Act → World → Prop} {oi : Oper} {N : Option Tmp} {a : Act} {w : World} {K : Act → World → Prop} {f : FuncId} {fn : Func} {as_ : Array Operand} {ts : Array TypeId} (hf : Try.prog.funcs[f]? = some fn) (hname : (fn.name == "runtime.NumGoroutine") = false) (hb : fn.body.isSome = true) (args : Array Value)
    (hw : Region.wanted oi (yielded ops a.tmps) = true) (hN : oi.dst = N) (hop : oi.op = .call { callee := .value (.func f), args := as_, argTypes := ts }) (hargs : as_.map a.eval = args)
    (h : Calls Try.prog f args w fun e w' => (∃ c, e = .panicked c ∧ Q (.panic c) a w') ∨ ∃ v, e = .returned v ∧ K (a.put N v) w') : if Region.wanted oi (yielded ops a.tmps) = true then Oper.wp Try.prog oi a w K Q else K (a.put N undef) w := by
  rw [if_pos hw]
  have he := enters_ hf hname hb args w
  have hrun : (execOp a.eval oi).run Try.prog w = .ok (.enter f args) w := by
    unfold execOp
    simp [hop, resolve, Deferred.ofValue, invoke, Act.eval, hargs, he]
  unfold Oper.wp
  rw [hrun, Oper.upon_enter]
  refine h.mono fun e w'' hh => ?_
  subst hN
  rcases hh with ⟨c, rfl, hk⟩ | ⟨v, rfl, hk⟩
  · exact hk
  · exact hk
theorem below_drw (w : World) : Below w.heap.size w w.drew := (Below.refl _ _).drew
theorem R_setB {α : Type} {d : Kd α} {e base g t : Nat} {ok : Nat → Prop} {w : World} {v : Value} {xs : List α} {cells : Array Value} (h : d.R e w base ok v xs) (hb : w.heap[g]? = some (.cells cells t (0, 0))) (ht : ∀ q, q ∈ e :: d.E → q ≠ t) (j : Nat) (u : Value) : d.R e (w.setCell ⟨g, j, none⟩ u) base ok v xs := Kd.R_set h hb ht j u
theorem put4 {w : World} {g : Nat} {t : TypeId} {a0 a1 a2 a3 : Value} (h : w.heap[g]? = some (.cells #[a0, a1, a2, a3] t (0, 0))) (b0 b1 b2 b3 : Value) : ((((w.setCell ⟨g, 0, none⟩ b0).setCell ⟨g, 1, none⟩ b1).setCell ⟨g, 2, none⟩ b2).setCell ⟨g, 3, none⟩ b3).heap[g]? = some (.cells #[b0, b1, b2, b3] t (0, 0)) := by
  have := (blk_set (blk_set (blk_set (blk_set h 0 b0) 1 b1) 2 b2) 3 b3)
  simpa only [List.setIfInBounds_toArray, List.set_cons_zero, List.set_cons_succ] using this
theorem set4 {α : Type} {d : Kd α} {e base g t : Nat} {ok : Nat → Prop} {w : World} {v : Value} {xs : List α} {a0 a1 a2 a3 : Value} (h : d.R e w base ok v xs) (hb : w.heap[g]? = some (.cells #[a0, a1, a2, a3] t (0, 0))) (ht : ∀ q, q ∈ e :: d.E → q ≠ t) (b0 b1 b2 b3 : Value) : d.R e ((((w.setCell ⟨g, 0, none⟩ b0).setCell ⟨g, 1, none⟩ b1).setCell ⟨g, 2, none⟩ b2).setCell ⟨g, 3, none⟩ b3) base ok v xs := (Kd.R_set (Kd.R_set (Kd.R_set (Kd.R_set h hb ht 0 b0) (blk_set hb 0 b0) ht 1 b1) (blk_set (blk_set hb 0 b0) 1 b1) ht 2 b2) (blk_set (blk_set (blk_set hb 0 b0) 1 b1) 2 b2) ht 3 b3)
theorem mvs4 {B : Nat} {w0 w : World} {j : Int} {g : Nat} (h : Mv B w0 j w) (hg : w0.heap.size ≤ g) (b0 b1 b2 b3 : Value) : Mv B w0 j ((((w.setCell ⟨g, 0, none⟩ b0).setCell ⟨g, 1, none⟩ b1).setCell ⟨g, 2, none⟩ b2).setCell ⟨g, 3, none⟩ b3) := (Mv.set (Mv.set (Mv.set (Mv.set h hg 0 b0) hg 1 b1) hg 2 b2) hg 3 b3)
theorem put7 {w : World} {g : Nat} {t : TypeId} {a0 a1 a2 a3 a4 a5 a6 : Value} (h : w.heap[g]? = some (.cells #[a0, a1, a2, a3, a4, a5, a6] t (0, 0))) (b0 b1 b2 b3 b4 b5 b6 : Value) : (((((((w.setCell ⟨g, 0, none⟩ b0).setCell ⟨g, 1, none⟩ b1).setCell ⟨g, 2, none⟩ b2).setCell ⟨g, 3, none⟩ b3).setCell ⟨g, 4, none⟩ b4).setCell ⟨g, 5, none⟩ b5).setCell ⟨g, 6, none⟩ b6).heap[g]? = some (.cells #[b0, b1, b2, b3, b4, b5, b6] t (0, 0)) := by
  have := (blk_set (blk_set (blk_set (blk_set (blk_set (blk_set (blk_set h 0 b0) 1 b1) 2 b2) 3 b3) 4 b4) 5 b5) 6 b6)
  simpa only [List.setIfInBounds_toArray, List.set_cons_zero, List.set_cons_succ] using this
theorem set7 {α : Type} {d : Kd α} {e base g t : Nat} {ok : Nat → Prop} {w : World} {v : Value} {xs : List α} {a0 a1 a2 a3 a4 a5 a6 : Value} (h : d.R e w base ok v xs) (hb : w.heap[g]? = some (.cells #[a0, a1, a2, a3, a4, a5, a6] t (0, 0))) (ht : ∀ q, q ∈ e :: d.E → q ≠ t) (b0 b1 b2 b3 b4 b5 b6 : Value) : d.R e (((((((w.setCell ⟨g, 0, none⟩ b0).setCell ⟨g, 1, none⟩ b1).setCell ⟨g, 2, none⟩ b2).setCell ⟨g, 3, none⟩ b3).setCell ⟨g, 4, none⟩ b4).setCell ⟨g, 5, none⟩ b5).setCell ⟨g, 6, none⟩ b6) base ok v xs := (Kd.R_set (Kd.R_set (Kd.R_set (Kd.R_set (Kd.R_set (Kd.R_set (Kd.R_set h hb ht 0 b0) (blk_set hb 0 b0) ht 1 b1) (blk_set (blk_set hb 0 b0) 1 b1) ht 2 b2) (blk_set (blk_set (blk_set hb 0 b0) 1 b1) 2 b2) ht 3 b3) (blk_set (blk_set (blk_set (blk_set hb 0 b0) 1 b1) 2 b2) 3 b3) ht 4 b4) (blk_set (blk_set (blk_set (blk_set (blk_set hb 0 b0) 1 b1) 2 b2) 3 b3) 4 b4) ht 5 b5) (blk_set (blk_set (blk_set (blk_set (blk_set (blk_set hb 0 b0) 1 b1) 2 b2) 3 b3) 4 b4) 5 b5) ht 6 b6)
theorem mvs7 {B : Nat} {w0 w : World} {j : Int} {g : Nat} (h : Mv B w0 j w) (hg : w0.heap.size ≤ g) (b0 b1 b2 b3 b4 b5 b6 : Value) : Mv B w0 j (((((((w.setCell ⟨g, 0, none⟩ b0).setCell ⟨g, 1, none⟩ b1).setCell ⟨g, 2, none⟩ b2).setCell ⟨g, 3, none⟩ b3).setCell ⟨g, 4, none⟩ b4).setCell ⟨g, 5, none⟩ b5).setCell ⟨g, 6, none⟩ b6) := (Mv.set (Mv.set (Mv.set (Mv.set (Mv.set (Mv.set (Mv.set h hg 0 b0) hg 1 b1) hg 2 b2) hg 3 b3) hg 4 b4) hg 5 b5) hg 6 b6)
theorem put3 {w : World} {g : Nat} {t : TypeId} {a0 a1 a2 : Value} (h : w.heap[g]? = some (.cells #[a0, a1, a2] t (0, 0))) (b0 b1 b2 : Value) : (((w.setCell ⟨g, 0, none⟩ b0).setCell ⟨g, 1, none⟩ b1).setCell ⟨g, 2, none⟩ b2).heap[g]? = some (.cells #[b0, b1, b2] t (0, 0)) := by
  have := (blk_set (blk_set (blk_set h 0 b0) 1 b1) 2 b2)
  simpa only [List.setIfInBounds_toArray, List.set_cons_zero, List.set_cons_succ] using this
theorem set3 {α : Type} {d : Kd α} {e base g t : Nat} {ok : Nat → Prop} {w : World} {v : Value} {xs : List α} {a0 a1 a2 : Value} (h : d.R e w base ok v xs) (hb : w.heap[g]? = some (.cells #[a0, a1, a2] t (0, 0))) (ht : ∀ q, q ∈ e :: d.E → q ≠ t) (b0 b1 b2 : Value) : d.R e (((w.setCell ⟨g, 0, none⟩ b0).setCell ⟨g, 1, none⟩ b1).setCell ⟨g, 2, none⟩ b2) base ok v xs := (Kd.R_set (Kd.R_set (Kd.R_set h hb ht 0 b0) (blk_set hb 0 b0) ht 1 b1) (blk_set (blk_set hb 0 b0) 1 b1) ht 2 b2)
set_option maxRecDepth 100000 in
set_option maxHeartbeats 4000000 in
theorem getFunc_p (B : Nat) (l : List Int) (i : Int) (w : World) (h : Sc w B l i) (h0 : 0 ≤ i) (h1 : i ≤ l.length) (hl : l.length ≤ 140737488351232) (hb : Bytes l) :
    Calls Try.prog 114 #[.pointer (some ⟨B, 0, none⟩)] w (PP w B (pFunc l i) (fun a w' v => ∃ v2 v3, v = .agg #[.string a.f0, .int .i64 a.f1, v2, v3] ∧ k124.M w' w.heap.size (fun _ => True) a [.string a.f0, .int .i64 a.f1, v2, v3])) := by
  have HS := hid h
  have hBl := h.lt
  have HBL := hid hBl
  have a0 : 0 ≤ i ∧ i ≤ l.length := ⟨h0, h1⟩
  obtain ⟨W, hW⟩ : ∃ W, W = w.alloc (.cells #[.string ⟨#[]⟩, .int .i64 0, .slice none 0 0, .slice none 0 0] 124) := ⟨_, rfl⟩
  have f0 := blk_new w (.cells #[.string ⟨#[]⟩, .int .i64 0, .slice none 0 0, .slice none 0 0] 124)
  have hB4 := below_alloc (Below.refl w.heap.size w) (.cells #[.string ⟨#[]⟩, .int .i64 0, .slice none 0 0, .slice none 0 0] 124)
  rw [← hW] at f0 hB4
  have HW0 := hid hW
  have M0 := hid (And.intro ((Mv.start h).mem hB4) f0)
  clear hW f0 hB4 h hBl h0 h1
  go_enter Try.func114, Try.ntmps114
  go_wp2_with fail
  rw [← HW0.out]
  refine (name_p B l i _ (M0.out.1.sc HS.out) a0.1 a0.2 hl hb).mono ?_
  rintro e w2 hq
  rcases hp : pName l i with x | ⟨nm, j1⟩ <;> rw [hp] at hq
  · obtain ⟨rfl, ha⟩ := hq
    exact ⟨rfl, PP.err (by simp only [pFunc, pThen_err hp]) (M0.out.1.aft ha)⟩
  obtain ⟨v, rfl, rfl, hm⟩ := hq
  have k1 := Bk.name l i hb a0.1 a0.2 nm j1 hp
  have P1 := hid hp
  have hgB : w.heap.size ≠ B := by have := HBL.out; omega
  have M1 := hid (And.intro (Mv.trans HS.out M0.out.1 hm) (hm.blk M0.out.2 hgB))
  have a1 : 0 ≤ j1 ∧ j1 ≤ l.length := ⟨by omega, k1.2.1⟩
  clear hp hm k1 M0 a0
  go_wp2_with fail
  refine (bind_p B l j1 _ (M1.out.1.sc HS.out) a1.1 a1.2 hl hb).mono ?_
  rintro e w3 hq
  rcases hp : pBind l j1 with x | ⟨b, j2⟩ <;> rw [hp] at hq
  · obtain ⟨rfl, ha⟩ := hq
    exact ⟨rfl, PP.err (by simp only [pFunc, pThen_ok P1.out, pThen_err hp]) (M1.out.1.aft ha)⟩
  obtain ⟨v, rfl, rfl, hm⟩ := hq
  have k1 := Bk.bind l j1 hb a1.1 a1.2 b j2 hp
  have P2 := hid hp
  have M2 := hid (And.intro (Mv.trans HS.out M1.out.1 hm) (hm.blk M1.out.2 hgB))
  have a2 : 0 ≤ j2 ∧ j2 ≤ l.length := ⟨by omega, k1.2.1⟩
  clear hp hm k1 M1 a1
  obtain ⟨W3, hW3⟩ : ∃ W, W = w3.alloc (.cells #[.string nm, .int .i64 b, .slice none 0 0, .slice none 0 0] 124) := ⟨_, rfl⟩
  have f0 := blk_new w3 (.cells #[.string nm, .int .i64 b, .slice none 0 0, .slice none 0 0] 124)
  have hB4 := below_alloc (Below.refl w3.heap.size w3) (.cells #[.string nm, .int .i64 b, .slice none 0 0, .slice none 0 0] 124)
  rw [← hW3] at f0 hB4
  have HW3 := hid hW3
  have hgB3 : w3.heap.size ≠ B := by have := HBL.out; have := M2.out.1.size; omega
  have hs3 : w.heap.size < w3.heap.size := blk_lt M2.out.2
  have M3 := hid (And.intro (M2.out.1.mem hB4) (And.intro f0 (blk_below M2.out.2 hB4)))
  have HG := hid (And.intro hgB3 hgB)
  have H3 := hid hs3
  clear hW3 f0 hB4 hgB3 hgB M2 hs3
  go_wp2_with fail
  rw [← HW3.out]
  refine (count_p B l j2 2000 _ (M3.out.1.sc HS.out) a2.1 a2.2 hl hb).mono ?_
  rintro e w4 hq
  rcases hp : pCount 2000 l j2 with x | ⟨nn, j3⟩ <;> rw [hp] at hq
  · obtain ⟨rfl, ha⟩ := hq
    exact ⟨rfl, PP.err (by simp only [pFunc, pThen_ok P1.out, pThen_ok P2.out, pThen_err hp]) (M3.out.1.aft ha)⟩
  obtain ⟨v, rfl, rfl, hm⟩ := hq
  have k1 := Bk.count 2000 l j2 hb a2.1 a2.2 nn j3 hp
  obtain ⟨n, rfl⟩ : ∃ n : Nat, nn = n := ⟨nn.toNat, by have := k1.2.2.2.1; omega⟩
  have hn64 : n ≤ 2000 := by have := k1.2.2.2.2.2; omega
  have hPR : pFunc l i = pThen (pRep n (pNum 4)) (fun c => pThen pRels fun r => pRet (⟨nm, b, c, r⟩ : S124)) l j3 := by simp only [pFunc, pThen_ok P1.out, pThen_ok P2.out, pThen_ok hp, Int.toNat_natCast]
  have HPR := hid hPR
  have M4 := hid (And.intro (Mv.trans HS.out M3.out.1 hm) (And.intro (hm.blk M3.out.2.1 HG.out.1) (hm.blk M3.out.2.2 HG.out.2)))
  have a3 : 0 ≤ j3 ∧ j3 ≤ l.length := ⟨by omega, k1.2.1⟩
  clear hp hm k1 M3 a2 hPR P1 P2
  go_wp2
  go_loopw [11] (fun s11 wx => ∃ (k : Nat) (L : List Int) (i' : Int) (v : Value), k ≤ n ∧ s11 = .int .i64 k ∧ 0 ≤ i' ∧ i' ≤ l.length ∧ Hid (Rep (pNum 4) n l j3 k L i' ∧ Mv B w i' wx ∧ (Kd.int .u32).R 36 wx w.heap.size (fun _ => True) v L ∧ wx.heap[w3.heap.size]? = some (.cells #[.string nm, .int .i64 b, v, .slice none 0 0] 124 (0, 0)) ∧ wx.heap[w.heap.size]? = some (.cells #[.string ⟨#[]⟩, .int .i64 0, .slice none 0 0, .slice none 0 0] 124 (0, 0)))) (fun s11 _ => n - (intOf s11).toNat)
  case atStart => exact ⟨0, [], j3, _, by omega, rfl, a3.1, a3.2, hid ⟨rep0 _ _ _ _, M4.out.1, Kd.R_nil _ _ _ _ _, M4.out.2.1, M4.out.2.2⟩⟩
  case round =>
    obtain ⟨k, L, i', v, hk, rfl, hi0, hi1, hI⟩ := hrel
    by_cases hlt : (k : Int) < (n : Int)
    · have e3 : IntKind.i64.wrap ((k : Int) + 1) = (k : Int) + 1 := IntWalk.i64_in _ (by omega)
      have hk1 : k < n := by omega
      have HI := hid hI.out.1
      have HD := hid (And.intro (hI.out.2.1.mem (below_drw wr)) (And.intro (Kd.R_drew hI.out.2.2.1) (And.intro (blk_below hI.out.2.2.2.1 (below_drw wr)) (blk_below hI.out.2.2.2.2 (below_drw wr)))))
      clear hI
      go_wp2
      refine start_ (n := 9) (S := fun W => W.cell? ⟨w3.heap.size, 2, none⟩ = some v) (ds := [8]) #[false, false, false, false, false, false, false, false, false] (by kernel_rfl) rfl rfl (blk_cell HD.out.2.2.1 2) (fun hHeld => ?_)
      refine pure_ (i := 0) (N := (some 13)) (v := ?_) (a' := ?_) #[true, false, false, false, false, false, false, false, false] rfl rfl (by kernel_rfl) (fun _ _ _ h => h) (Or.inl ⟨by rfl, ?_⟩) ?_ ?_
      rotate_left
      · intro w'
        go_simp
        with_reducible rfl
      rotate_left
      · simp only [Act.put, List.setIfInBounds_toArray, List.set_cons_zero, List.set_cons_succ, i64_w]
        rfl
      refine take_ (i := 1) (N := (some 14)) (v := ?_) (a' := ?_) #[true, true, false, false, false, false, false, false, false] rfl rfl (by kernel_rfl) (fun _ _ _ h => h) (Or.inl ⟨by rfl, ?_⟩) hHeld ?_ ?_
      rotate_left
      · rintro w' s0
        go_simp
        with_reducible rfl
      rotate_left
      · simp only [Act.put, List.setIfInBounds_toArray, List.set_cons_zero, List.set_cons_succ, i64_w]
        rfl
      refine pure_ (i := 2) (N := (some 15)) (v := ?_) (a' := ?_) #[true, true, true, false, false, false, false, false, false] rfl rfl (by kernel_rfl) (fun _ _ _ h => h) (Or.inl ⟨by rfl, ?_⟩) ?_ ?_
      rotate_left
      · intro w'
        go_simp
        with_reducible rfl
      rotate_left
      · simp only [Act.put, List.setIfInBounds_toArray, List.set_cons_zero, List.set_cons_succ, i64_w]
        rfl
      refine one_ (i := 3) (N := (some 16)) #[true, true, true, true, false, false, false, false, false] rfl rfl (by kernel_rfl) (by decide) (fun K hK => ?_)
      refine may_ Try.func41 (by kernel_rfl) rfl #[.pointer (some ⟨B, 0, none⟩), .int .i64 4] (by rfl) rfl rfl (by first | rfl | (simp only [List.map_toArray, List.map_cons, List.map_nil]; rfl)) ?_
      refine (number_p B l i' 4 _ (HD.out.1.sc HS.out) hi0 hi1 (by omega) hl hb).mono ?_
      rintro e' wA hq
      rcases hp : pNum 4 l i' with x | ⟨d, j4⟩ <;> rw [hp] at hq
      · obtain ⟨rfl, ha⟩ := hq
        exact Or.inl ⟨_, rfl, rfl, PP.err (HPR.out.trans (pThen_err (rep_err HI.out hk1 hp))) (HD.out.1.aft ha)⟩
      obtain ⟨v', rfl, rfl, hm⟩ := hq
      have k1 := Bk.num4 l i' hb hi0 hi1 d j4 hp
      have hr2 := rep_ok HI.out hk1 hp
      have HR2 := hid hr2
      have a4 : 0 ≤ j4 ∧ j4 ≤ l.length := ⟨by omega, k1.2.1⟩
      have e1 : IntKind.u32.wrap d = d := by rw [IntKind.wrap_u32]; have := k1.2.2; omega
      have HW := hid (And.intro (Mv.trans HS.out HD.out.1 hm) (And.intro (R_mv HD.out.2.1 HBL.out hm) (And.intro (hm.blk HD.out.2.2.1 HG.out.1) (hm.blk HD.out.2.2.2 HG.out.2))))
      clear hm k1 hr2 hp HD
      refine Or.inr ⟨_, rfl, ?_⟩
      refine hK.out _ _ (blk_cell HW.out.2.2.1 2) (fun hHeld => ?_)
      clear hK K
      refine norm_ (a' := ?_) ?_ ?_
      rotate_left
      · show Act.put _ (some 16) _ = _
        simp only [Act.put, List.setIfInBounds_toArray, List.set_cons_zero, List.set_cons_succ, i64_w]
        rfl
      refine pure_ (i := 4) (N := (some 17)) (v := ?_) (a' := ?_) #[true, true, true, true, true, false, false, false, false] rfl rfl (by kernel_rfl) (fun _ _ _ h => h) (Or.inl ⟨by rfl, ?_⟩) ?_ ?_
      rotate_left
      · intro w'
        go_simp
        with_reducible rfl
      rotate_left
      · simp only [Act.put, List.setIfInBounds_toArray, List.set_cons_zero, List.set_cons_succ, i64_w]
        rfl
      refine one_ (i := 5) (N := (some 18)) #[true, true, true, true, true, true, false, false, false] rfl rfl (by kernel_rfl) (by decide) (fun K hK => ?_)
      go_simp
      have HB5 := hid (blk_alloc HW.out.2.2.1 (.cells #[.int .u32 d] 36))
      refine hK.out _ _ (blk_cell HB5.out 2) (fun hHeld => ?_)
      clear hK K
      refine one_ (i := 6) (N := (some 19)) #[true, true, true, true, true, true, true, false, false] rfl rfl (by kernel_rfl) (by decide) (fun K hK => ?_)
      refine Kd.R_append_step (Kd.int .u32) (w0 := w.setCell ⟨B, 1, none⟩ (.int .i64 j4)) w.heap.size (by rfl) (.tmp 14) (.tmp 18) 58 36 (.int .u32 0) 4 (by rfl) Try.underlying58 info36 rfl (by decide) (by decide) v L d [.int .u32 d] (fun _ => True) (fun _ => False) (by rfl) (by rfl) rfl (fun _ h => h.elim) (fun _ _ => trivial) HW.out.2.1 HW.out.1 (HW.out.1.size) (by have := HR2.out.2.1; rw [List.length_append] at this; simp at this; omega) ?_
      intro v6 w6 hr hb6 hg hat
      obtain ⟨T, hT⟩ : ∃ T, L ++ [d] = T := ⟨_, rfl⟩
      have HT := hid hT
      rw [hT] at hr
      clear hT
      obtain ⟨A6, c6, rfl, _, _⟩ := Kd.R_reads hr
      have n1 := Kd.R_ne HW.out.2.1 HW.out.2.2.1 (by decide)
      have n2 := Kd.R_ne HW.out.2.1 HW.out.2.2.2 (by decide)
      have HW6 := hid (And.intro hb6 (And.intro hr (And.intro (blk_grown HW.out.2.2.1 hg n1) (blk_grown HW.out.2.2.2 hg n2))))
      clear hr hb6 hg hat n1 n2
      refine hK.out _ _ (blk_cell HW6.out.2.2.1 2) (fun hHeld => ?_)
      clear hK K
      refine norm_ (a' := ?_) ?_ ?_
      rotate_left
      · show Act.put _ (some 19) _ = _
        simp only [Act.put, List.setIfInBounds_toArray, List.set_cons_zero, List.set_cons_succ, i64_w]
        rfl
      refine pure_ (i := 7) (N := (some 20)) (v := ?_) (a' := ?_) #[true, true, true, true, true, true, true, true, false] rfl rfl (by kernel_rfl) (fun _ _ _ h => h) (Or.inl ⟨by rfl, ?_⟩) ?_ ?_
      rotate_left
      · intro w'
        go_simp
        with_reducible rfl
      rotate_left
      · simp only [Act.put, List.setIfInBounds_toArray, List.set_cons_zero, List.set_cons_succ, i64_w]
        rfl
      refine last_ (i := 8) (N := none) #[true, true, true, true, true, true, true, true, true] rfl rfl (by kernel_rfl) (by decide) (fun K hK => ?_)
      have c6_ : w6.cell? ⟨w3.heap.size, 2, none⟩ = some v := blk_cell HW6.out.2.2.1 2
      have g6_ : w6.frozen? ⟨w3.heap.size, 2, none⟩ = false := blk_frozen HW6.out.2.2.1 2
      go_simp
      clear c6_ g6_
      refine hK.out _ _ ?_
      clear hK K
      refine done_ (by kernel_rfl) ?_
      have M7 := hid (And.intro ((show Mv B w j4 w6 from HW6.out.1).set (Nat.le_of_lt H3.out) 2 (.slice A6 T.length c6)) (And.intro (R_setB HW6.out.2.1 HW6.out.2.2.1 (by simp [Kd.int, Kd.scalar]) 2 (.slice A6 T.length c6)) (And.intro (blk_put HW6.out.2.2.1 2 (.slice A6 T.length c6) rfl) (blk_far HW6.out.2.2.2 (p := ⟨w3.heap.size, 2, none⟩) (show w.heap.size ≠ w3.heap.size from Nat.ne_of_lt H3.out) (.slice A6 T.length c6)))))
      go_wp2
      go_roundw
      case rel => exact ⟨k + 1, _, j4, _, by omega, by go_num, a4.1, a4.2, hid ⟨by rw [← HT.out]; exact HR2.out, M7.out.1, M7.out.2.1, M7.out.2.2.1, M7.out.2.2.2⟩⟩
      case measure => simp [intOf]; omega
    · have hkn : k = n := by omega
      subst hkn
      have hre := rep_end hI.out.1
      have HRE := hid hre
      have M7 := hid hI.out.2
      clear hre hI
      go_wp2_with fail
      refine (getRels_p B l i' _ (M7.out.1.sc HS.out) hi0 hi1 hl hb).mono ?_
      rintro e w8 hq
      rcases hp : pRels l i' with x | ⟨r, j4⟩ <;> rw [hp] at hq
      · obtain ⟨rfl, ha⟩ := hq
        exact ⟨rfl, PP.err (HPR.out.trans (by simp only [pThen_ok HRE.out, pThen_err hp])) (M7.out.1.aft ha)⟩
      obtain ⟨v3, rfl, hV3, hm⟩ := hq
      have hPF : pFunc l i = .ok (⟨nm, b, L, r⟩, j4) := HPR.out.trans (by simp only [pThen_ok HRE.out, pThen_ok hp]; rfl)
      have HPF := hid hPF
      obtain ⟨A3, c3, rfl, _, _⟩ := Kd.R_reads hV3
      obtain ⟨A2, c2, rfl, _, _⟩ := Kd.R_reads M7.out.2.1
      have f5 := hm.blk M7.out.2.2.1 HG.out.1
      have f6 := hm.blk M7.out.2.2.2 HG.out.2
      have M8 := hid (And.intro (Mv.trans HS.out M7.out.1 hm) (And.intro (R_mv M7.out.2.1 HBL.out hm) (And.intro (Kd.R_lower hV3 M7.out.1.size) (And.intro f5 f6))))
      have p3 := blk_put f5 3 (.slice A3 r.length c3) rfl
      have p0 := blk_far f6 (p := ⟨w3.heap.size, 3, none⟩) (show w.heap.size ≠ w3.heap.size from Nat.ne_of_lt H3.out) (.slice A3 r.length c3)
      have c3_ : w8.cell? ⟨w3.heap.size, 3, none⟩ = some (.slice none 0 0) := blk_cell f5 3
      have g3_ := blk_frozen f5 3
      have z0 : (w8.setCell ⟨w3.heap.size, 3, none⟩ (.slice A3 r.length c3)).cell? ⟨w3.heap.size, 0, none⟩ = some (.string nm) := blk_cell p3 0
      have z1 : (w8.setCell ⟨w3.heap.size, 3, none⟩ (.slice A3 r.length c3)).cell? ⟨w3.heap.size, 1, none⟩ = some (.int .i64 b) := blk_cell p3 1
      have z2 : (w8.setCell ⟨w3.heap.size, 3, none⟩ (.slice A3 r.length c3)).cell? ⟨w3.heap.size, 2, none⟩ = some (.slice A2 L.length c2) := blk_cell p3 2
      have z3 : (w8.setCell ⟨w3.heap.size, 3, none⟩ (.slice A3 r.length c3)).cell? ⟨w3.heap.size, 3, none⟩ = some (.slice A3 r.length c3) := blk_cell p3 3
      have y0 : (w8.setCell ⟨w3.heap.size, 3, none⟩ (.slice A3 r.length c3)).cell? ⟨w.heap.size, 0, none⟩ = some (.string ⟨#[]⟩) := blk_cell p0 0
      have x0 : (w8.setCell ⟨w3.heap.size, 3, none⟩ (.slice A3 r.length c3)).frozen? ⟨w.heap.size, 0, none⟩ = false := blk_frozen p0 0
      have y1 : (w8.setCell ⟨w3.heap.size, 3, none⟩ (.slice A3 r.length c3)).cell? ⟨w.heap.size, 1, none⟩ = some (.int .i64 0) := blk_cell p0 1
      have x1 : (w8.setCell ⟨w3.heap.size, 3, none⟩ (.slice A3 r.length c3)).frozen? ⟨w.heap.size, 1, none⟩ = false := blk_frozen p0 1
      have y2 : (w8.setCell ⟨w3.heap.size, 3, none⟩ (.slice A3 r.length c3)).cell? ⟨w.heap.size, 2, none⟩ = some (.slice none 0 0) := blk_cell p0 2
      have x2 : (w8.setCell ⟨w3.heap.size, 3, none⟩ (.slice A3 r.length c3)).frozen? ⟨w.heap.size, 2, none⟩ = false := blk_frozen p0 2
      have y3 : (w8.setCell ⟨w3.heap.size, 3, none⟩ (.slice A3 r.length c3)).cell? ⟨w.heap.size, 3, none⟩ = some (.slice none 0 0) := blk_cell p0 3
      have x3 : (w8.setCell ⟨w3.heap.size, 3, none⟩ (.slice A3 r.length c3)).frozen? ⟨w.heap.size, 3, none⟩ = false := blk_frozen p0 3
      have M9 := hid (And.intro (M8.out.1.set (Nat.le_of_lt H3.out) 3 (.slice A3 r.length c3)) (And.intro (R_setB M8.out.2.1 f5 (by simp [Kd.int, Kd.scalar]) 3 (.slice A3 r.length c3)) (And.intro (R_setB M8.out.2.2.1 f5 (by simp [k153, Kd.iso, Kd.pair, Kd.int, Kd.scalar, Kd.string]) 3 (.slice A3 r.length c3)) p0)))
      clear hp hm hPF hV3 M8 f5 f6 p3 p0
      go_wp2
      have r2 := set4 M9.out.2.1 M9.out.2.2.2 (by simp [Kd.int, Kd.scalar]) (.string nm) (.int .i64 b) (.slice A2 L.length c2) (.slice A3 r.length c3)
      have r3 := set4 M9.out.2.2.1 M9.out.2.2.2 (by simp [k153, Kd.iso, Kd.pair, Kd.int, Kd.scalar, Kd.string]) (.string nm) (.int .i64 b) (.slice A2 L.length c2) (.slice A3 r.length c3)
      refine bodyPost_ret (results_single rfl (.cell w.heap.size 124 #[.string nm, .int .i64 b, .slice A2 L.length c2, .slice A3 r.length c3] (0, 0) _ rfl (put4 M9.out.2.2.2 _ _ _ _) Try.underlying124 rfl (by kernel_rfl) .nil)) rfl ?_
      exact PP.ok HPF.out ⟨_, _, rfl, k124_mkM _ _ _ ⟨nm, b, L, r⟩ r2 r3⟩ (mvs4 M9.out.1 (Nat.le_refl _) _ _ _ _)
end Go.Proofs.Ytmcfihpbiilbcaa.H
end
section
namespace Go.Proofs.Ytmcfihpbiilbcaa.H
open Go.RowKit Go.Proofs.YtmcfihpbiilbcaaW.PrintWords Go.Proofs.YtmcfihpbiilbcaaW.PrintLast Go.Proofs.YtmcfihpbiilbcaaW.PrintMore Go.Proofs.Ytmcfihpbiilbcaa.E
set_option linter.unusedVariables false
set_option linter.unusedSimpArgs false
set_option maxRecDepth 100000 in
set_option maxHeartbeats 4000000 in
theorem getData_p (B : Nat) (l : List Int) (i : Int) (w : World) (h : Sc w B l i) (h0 : 0 ≤ i) (h1 : i ≤ l.length) (hl : l.length ≤ 140737488351232) (hb : Bytes l) :
    Calls Try.prog 115 #[.pointer (some ⟨B, 0, none⟩)] w (PP w B (pData l i) (fun a w' v => ∃ v5 v6, v = .agg #[.string a.f0, .int .i64 a.f1, .int .i64 a.f2, .bool a.f3, .int .i64 a.f4, v5, v6] ∧ k102.M w' w.heap.size (fun _ => True) a [.string a.f0, .int .i64 a.f1, .int .i64 a.f2, .bool a.f3, .int .i64 a.f4, v5, v6])) := by
  have HS := hid h
  have hBl := h.lt
  have HBL := hid hBl
  have a0 : 0 ≤ i ∧ i ≤ l.length := ⟨h0, h1⟩
  obtain ⟨W, hW⟩ : ∃ W, W = w.alloc (.cells #[.string ⟨#[]⟩, .int .i64 0, .int .i64 0, .bool false, .int .i64 0, .slice none 0 0, .slice none 0 0] 102) := ⟨_, rfl⟩
  have f0 := blk_new w (.cells #[.string ⟨#[]⟩, .int .i64 0, .int .i64 0, .bool false, .int .i64 0, .slice none 0 0, .slice none 0 0] 102)
  have hB4 := below_alloc (Below.refl w.heap.size w) (.cells #[.string ⟨#[]⟩, .int .i64 0, .int .i64 0, .bool false, .int .i64 0, .slice none 0 0, .slice none 0 0] 102)
  rw [← hW] at f0 hB4
  have HX := hid hW
  have hgB : w.heap.size ≠ B := by omega
  have M0 := hid (And.intro ((Mv.start h).mem hB4) f0)
  clear hW f0 hB4 h hBl h0 h1
  go_enter Try.func115, Try.ntmps115
  go_wp2_with fail
  try rw [← HX.out]
  refine (name_p B l i _ (M0.out.1.sc HS.out) a0.1 a0.2 hl hb).mono ?_
  rintro e w1 hq
  rcases hp : pName l i with x | ⟨nm, j1⟩ <;> rw [hp] at hq
  · obtain ⟨rfl, ha⟩ := hq
    exact ⟨rfl, PP.err (by simp only [pData, pThen_err hp]) (M0.out.1.aft ha)⟩
  obtain ⟨v, rfl, rfl, hm⟩ := hq
  have k1 := Bk.name l i hb a0.1 a0.2 nm j1 hp
  have P1 := hid hp
  have a1 : 0 ≤ j1 ∧ j1 ≤ l.length := ⟨by omega, k1.2.1⟩
  have M1 := hid (And.intro (Mv.trans HS.out M0.out.1 hm) (hm.blk M0.out.2 hgB))
  clear hp hm k1 M0 a0
  go_wp2_with fail
  refine (bind_p B l j1 _ (M1.out.1.sc HS.out) a1.1 a1.2 hl hb).mono ?_
  rintro e w2 hq
  rcases hp : pBind l j1 with x | ⟨b, j2⟩ <;> rw [hp] at hq
  · obtain ⟨rfl, ha⟩ := hq
    exact ⟨rfl, PP.err (by simp only [pData, pThen_ok P1.out, pThen_err hp]) (M1.out.1.aft ha)⟩
  obtain ⟨v, rfl, rfl, hm⟩ := hq
  have k1 := Bk.bind l j1 hb a1.1 a1.2 b j2 hp
  have P2 := hid hp
  have a2 : 0 ≤ j2 ∧ j2 ≤ l.length := ⟨by omega, k1.2.1⟩
  have M2 := hid (And.intro (Mv.trans HS.out M1.out.1 hm) (hm.blk M1.out.2 hgB))
  clear hp hm k1 M1 a1
  go_wp2_with fail
  refine (number_p B l j2 1 _ (M2.out.1.sc HS.out) a2.1 a2.2 (by omega) hl hb).mono ?_
  rintro e w3 hq
  rcases hp : pNum 1 l j2 with x | ⟨x2, j3⟩ <;> rw [hp] at hq
  · obtain ⟨rfl, ha⟩ := hq
    exact ⟨rfl, PP.err (by simp only [pData, pThen_ok P1.out, pThen_ok P2.out, pThen_err hp]) (M2.out.1.aft ha)⟩
  obtain ⟨v, rfl, rfl, hm⟩ := hq
  have k1 := Bk.num1 l j2 hb a2.1 a2.2 x2 j3 hp
  have P3 := hid hp
  have a3 : 0 ≤ j3 ∧ j3 ≤ l.length := ⟨by omega, k1.2.1⟩
  have M3a := hid (And.intro (Mv.trans HS.out M2.out.1 hm) (hm.blk M2.out.2 hgB))
  clear hp hm k1 M2 a2 HX
  obtain ⟨X, hX⟩ : ∃ W, W = w3.alloc (.cells #[.string nm, .int .i64 b, .int .i64 x2, .bool false, .int .i64 0, .slice none 0 0, .slice none 0 0] 102) := ⟨_, rfl⟩
  have f0 := blk_new w3 (.cells #[.string nm, .int .i64 b, .int .i64 x2, .bool false, .int .i64 0, .slice none 0 0, .slice none 0 0] 102)
  have hB4 := below_alloc (Below.refl w3.heap.size w3) (.cells #[.string nm, .int .i64 b, .int .i64 x2, .bool false, .int .i64 0, .slice none 0 0, .slice none 0 0] 102)
  rw [← hX] at f0 hB4
  have HX := hid hX
  have hgB3 : w3.heap.size ≠ B := by have := HBL.out; have := M3a.out.1.size; omega
  have hs3 : w.heap.size < w3.heap.size := blk_lt M3a.out.2
  have M3 := hid (And.intro (M3a.out.1.mem hB4) (And.intro f0 (blk_below M3a.out.2 hB4)))
  have HG := hid (And.intro hgB3 hgB)
  have H3 := hid hs3
  clear hX f0 hB4 hgB3 hgB M3a hs3
  go_wp2_with fail
  try rw [← HX.out]
  refine (number_p B l j3 1 _ (M3.out.1.sc HS.out) a3.1 a3.2 (by omega) hl hb).mono ?_
  rintro e w4 hq
  rcases hp : pNum 1 l j3 with x | ⟨fl, j4⟩ <;> rw [hp] at hq
  · obtain ⟨rfl, ha⟩ := hq
    exact ⟨rfl, PP.err (by simp only [pData, pThen_ok P1.out, pThen_ok P2.out, pThen_ok P3.out, pThen_err hp]) (M3.out.1.aft ha)⟩
  obtain ⟨v, rfl, rfl, hm⟩ := hq
  have k1 := Bk.num1 l j3 hb a3.1 a3.2 fl j4 hp
  have P4 := hid hp
  have a4 : 0 ≤ j4 ∧ j4 ≤ l.length := ⟨by omega, k1.2.1⟩
  have M4 := hid (And.intro (Mv.trans HS.out M3.out.1 hm) (And.intro (hm.blk M3.out.2.1 HG.out.1) (hm.blk M3.out.2.2 HG.out.2)))
  clear hp hm k1 M3 a3 HX
  go_wp2_with fail
  refine (must_p _ _ _).mono ?_
  rintro e w5 hq
  rcases hq with ⟨hb1, rfl, rfl⟩ | ⟨hb1, rfl, rfl⟩
  rotate_left
  · exact ⟨rfl, PP.err (by simp only [pData, pThen_ok P1.out, pThen_ok P2.out, pThen_ok P3.out, pThen_ok P4.out, hb1]; rfl) (M4.out.1.aft (Aft.self B _))⟩
  have hmm : pMust (decide (fl ≤ 1)) l j4 = .ok ((), j4) := by rw [hb1]; rfl
  have P5 := hid hmm
  clear hmm hb1
  have c3_ : w5.cell? ⟨w3.heap.size, 3, none⟩ = some (.bool false) := blk_cell M4.out.2.1 3
  have g3_ := blk_frozen M4.out.2.1 3
  obtain ⟨fb, hfb⟩ : ∃ fb, decide (fl = 1) = fb := ⟨_, rfl⟩
  have hfb2 : (fl == 1) = fb := by rw [← hfb]; rfl
  have HFB := hid hfb
  obtain ⟨X, hX⟩ : ∃ W, W = w5.setCell ⟨w3.heap.size, 3, none⟩ (.bool fb) := ⟨_, rfl⟩
  have HX := hid hX
  have M5 := hid (show Mv B w j4 X ∧ X.heap[w3.heap.size]? = some (.cells #[.string nm, .int .i64 b, .int .i64 x2, .bool fb, .int .i64 0, .slice none 0 0, .slice none 0 0] 102 (0, 0)) ∧ X.heap[w.heap.size]? = some (.cells #[.string ⟨#[]⟩, .int .i64 0, .int .i64 0, .bool false, .int .i64 0, .slice none 0 0, .slice none 0 0] 102 (0, 0)) from by
    rw [hX]
    exact ⟨M4.out.1.set (Nat.le_of_lt H3.out) 3 _, blk_put M4.out.2.1 3 (.bool fb) rfl, blk_far M4.out.2.2 (p := ⟨w3.heap.size, 3, none⟩) (show w.heap.size ≠ w3.heap.size from Nat.ne_of_lt H3.out) _⟩)
  clear hX
  clear M4
  go_wp2_with fail
  try rw [← HX.out]
  refine (number_p B l j4 2 _ (M5.out.1.sc HS.out) a4.1 a4.2 (by omega) hl hb).mono ?_
  rintro e w6 hq
  rcases hp : pNum 2 l j4 with x | ⟨x4, j5⟩ <;> rw [hp] at hq
  · obtain ⟨rfl, ha⟩ := hq
    exact ⟨rfl, PP.err (by simp only [pData, pThen_ok P1.out, pThen_ok P2.out, pThen_ok P3.out, pThen_ok P4.out, pThen_ok P5.out, pThen_err hp]) (M5.out.1.aft ha)⟩
  obtain ⟨v, rfl, rfl, hm⟩ := hq
  have k1 := Bk.num2 l j4 hb a4.1 a4.2 x4 j5 hp
  have P6 := hid hp
  have a6 : 0 ≤ j5 ∧ j5 ≤ l.length := ⟨by omega, k1.2.1⟩
  have M6a := hid (And.intro (Mv.trans HS.out M5.out.1 hm) (And.intro (hm.blk M5.out.2.1 HG.out.1) (hm.blk M5.out.2.2 HG.out.2)))
  clear hp hm k1 M5 a4 HX hfb hfb2 c3_ g3_
  have c3_ : w6.cell? ⟨w3.heap.size, 4, none⟩ = some (.int .i64 0) := blk_cell M6a.out.2.1 4
  have g3_ := blk_frozen M6a.out.2.1 4
  obtain ⟨X, hX⟩ : ∃ W, W = w6.setCell ⟨w3.heap.size, 4, none⟩ (.int .i64 x4) := ⟨_, rfl⟩
  have HX := hid hX
  have M6 := hid (show Mv B w j5 X ∧ X.heap[w3.heap.size]? = some (.cells #[.string nm, .int .i64 b, .int .i64 x2, .bool fb, .int .i64 x4, .slice none 0 0, .slice none 0 0] 102 (0, 0)) ∧ X.heap[w.heap.size]? = some (.cells #[.string ⟨#[]⟩, .int .i64 0, .int .i64 0, .bool false, .int .i64 0, .slice none 0 0, .slice none 0 0] 102 (0, 0)) from by
    rw [hX]
    exact ⟨M6a.out.1.set (Nat.le_of_lt H3.out) 4 _, blk_put M6a.out.2.1 4 (.int .i64 x4) rfl, blk_far M6a.out.2.2 (p := ⟨w3.heap.size, 4, none⟩) (show w.heap.size ≠ w3.heap.size from Nat.ne_of_lt H3.out) _⟩)
  clear hX
  clear M6a
  go_wp2_with fail
  try rw [← HX.out]
  refine (count_p B l j5 4096 _ (M6.out.1.sc HS.out) a6.1 a6.2 hl hb).mono ?_
  rintro e w7 hq
  rcases hp : pCount 4096 l j5 with x | ⟨z, j6⟩ <;> rw [hp] at hq
  · obtain ⟨rfl, ha⟩ := hq
    exact ⟨rfl, PP.err (by simp only [pData, pThen_ok P1.out, pThen_ok P2.out, pThen_ok P3.out, pThen_ok P4.out, pThen_ok P5.out, pThen_ok P6.out, pThen_err hp]) (M6.out.1.aft ha)⟩
  obtain ⟨v, rfl, rfl, hm⟩ := hq
  have k1 := Bk.count 4096 l j5 hb a6.1 a6.2 z j6 hp
  have P7 := hid hp
  have a7 : 0 ≤ j6 ∧ j6 ≤ l.length := ⟨by omega, k1.2.1⟩
  have M7 := hid (And.intro (Mv.trans HS.out M6.out.1 hm) (And.intro (hm.blk M6.out.2.1 HG.out.1) (hm.blk M6.out.2.2 HG.out.2)))
  have hz0 : 0 ≤ z := k1.2.2.2.1
  clear hp hm k1 M6 a6 HX c3_ g3_
  go_wp2_with fail
  refine (bytes_p B l j6 z _ (M7.out.1.sc HS.out) a7.1 a7.2 hz0 hl).mono ?_
  rintro e w8 hq
  rcases hp : pBytes z l j6 with x | ⟨y, j7⟩ <;> rw [hp] at hq
  · obtain ⟨rfl, ha⟩ := hq
    exact ⟨rfl, PP.err (by simp only [pData, pThen_ok P1.out, pThen_ok P2.out, pThen_ok P3.out, pThen_ok P4.out, pThen_ok P5.out, pThen_ok P6.out, pThen_ok P7.out, pThen_err hp]) (M7.out.1.aft ha)⟩
  obtain ⟨v, rfl, hV, hm⟩ := hq
  have k1 := Bk.bytes z hz0 l j6 hb a7.1 a7.2 y j7 hp
  have P8 := hid hp
  have a8 : 0 ≤ j7 ∧ j7 ≤ l.length := ⟨by omega, k1.2.1⟩
  obtain ⟨A5, c5, rfl, _, _⟩ := Kd.R_reads hV
  have M8a := hid (And.intro (Mv.trans HS.out M7.out.1 hm) (And.intro (hm.blk M7.out.2.1 HG.out.1) (And.intro (hm.blk M7.out.2.2 HG.out.2) (Kd.R_lower hV M7.out.1.size))))
  clear hp hm k1 M7 a7 hV
  have c3_ : w8.cell? ⟨w3.heap.size, 5, none⟩ = some (.slice none 0 0) := blk_cell M8a.out.2.1 5
  have g3_ := blk_frozen M8a.out.2.1 5
  obtain ⟨X, hX⟩ : ∃ W, W = w8.setCell ⟨w3.heap.size, 5, none⟩ (.slice A5 y.length c5) := ⟨_, rfl⟩
  have HX := hid hX
  have M8 := hid (show Mv B w j7 X ∧ X.heap[w3.heap.size]? = some (.cells #[.string nm, .int .i64 b, .int .i64 x2, .bool fb, .int .i64 x4, .slice A5 y.length c5, .slice none 0 0] 102 (0, 0)) ∧ X.heap[w.heap.size]? = some (.cells #[.string ⟨#[]⟩, .int .i64 0, .int .i64 0, .bool false, .int .i64 0, .slice none 0 0, .slice none 0 0] 102 (0, 0)) ∧ (Kd.int .u8).R 5 X w.heap.size (fun _ => True) (.slice A5 y.length c5) y from by
    rw [hX]
    exact ⟨M8a.out.1.set (Nat.le_of_lt H3.out) 5 _, blk_put M8a.out.2.1 5 (.slice A5 y.length c5) rfl, blk_far M8a.out.2.2.1 (p := ⟨w3.heap.size, 5, none⟩) (show w.heap.size ≠ w3.heap.size from Nat.ne_of_lt H3.out) _, R_setB M8a.out.2.2.2 M8a.out.2.1 (by simp [k153, Kd.iso, Kd.pair, Kd.int, Kd.scalar, Kd.string]) 5 _⟩)
  clear hX
  clear M8a
  go_wp2_with fail
  try rw [← HX.out]
  refine (getRels_p B l j7 _ (M8.out.1.sc HS.out) a8.1 a8.2 hl hb).mono ?_
  rintro e w9 hq
  rcases hp : pRels l j7 with x | ⟨r, j8⟩ <;> rw [hp] at hq
  · obtain ⟨rfl, ha⟩ := hq
    exact ⟨rfl, PP.err (by simp only [pData, pThen_ok P1.out, pThen_ok P2.out, pThen_ok P3.out, pThen_ok P4.out, pThen_ok P5.out, pThen_ok P6.out, pThen_ok P7.out, pThen_ok P8.out, pThen_err hp]) (M8.out.1.aft ha)⟩
  obtain ⟨v, rfl, hV, hm⟩ := hq
  have k1 := Bk.rels l j7 hb a8.1 a8.2 r j8 hp
  have P9 := hid hp
  have a9 : 0 ≤ j8 ∧ j8 ≤ l.length := ⟨by omega, k1.2.1⟩
  obtain ⟨A6, c6, rfl, _, _⟩ := Kd.R_reads hV
  have hPF : pData l i = .ok (⟨nm, b, x2, fb, x4, y, r⟩, j8) := by simp only [pData, pThen_ok P1.out, pThen_ok P2.out, pThen_ok P3.out, pThen_ok P4.out, pThen_ok P5.out, pThen_ok P6.out, pThen_ok P7.out, pThen_ok P8.out, pThen_ok P9.out, HFB.out]; rfl
  have HPF := hid hPF
  have M9a := hid (And.intro (Mv.trans HS.out M8.out.1 hm) (And.intro (hm.blk M8.out.2.1 HG.out.1) (And.intro (hm.blk M8.out.2.2.1 HG.out.2) (And.intro (R_mv M8.out.2.2.2 HBL.out hm) (Kd.R_lower hV M8.out.1.size)))))
  clear hp hm k1 M8 a8 hV HX c3_ g3_ hPF
  have c3_ : w9.cell? ⟨w3.heap.size, 6, none⟩ = some (.slice none 0 0) := blk_cell M9a.out.2.1 6
  have g3_ := blk_frozen M9a.out.2.1 6
  have p3 := blk_put M9a.out.2.1 6 (.slice A6 r.length c6) rfl
  have p0 := blk_far M9a.out.2.2.1 (p := ⟨w3.heap.size, 6, none⟩) (show w.heap.size ≠ w3.heap.size from Nat.ne_of_lt H3.out) (.slice A6 r.length c6)
  have z0 : (w9.setCell ⟨w3.heap.size, 6, none⟩ (.slice A6 r.length c6)).cell? ⟨w3.heap.size, 0, none⟩ = some (.string nm) := blk_cell p3 0
  have z1 : (w9.setCell ⟨w3.heap.size, 6, none⟩ (.slice A6 r.length c6)).cell? ⟨w3.heap.size, 1, none⟩ = some (.int .i64 b) := blk_cell p3 1
  have z2 : (w9.setCell ⟨w3.heap.size, 6, none⟩ (.slice A6 r.length c6)).cell? ⟨w3.heap.size, 2, none⟩ = some (.int .i64 x2) := blk_cell p3 2
  have z3 : (w9.setCell ⟨w3.heap.size, 6, none⟩ (.slice A6 r.length c6)).cell? ⟨w3.heap.size, 3, none⟩ = some (.bool fb) := blk_cell p3 3
  have z4 : (w9.setCell ⟨w3.heap.size, 6, none⟩ (.slice A6 r.length c6)).cell? ⟨w3.heap.size, 4, none⟩ = some (.int .i64 x4) := blk_cell p3 4
  have z5 : (w9.setCell ⟨w3.heap.size, 6, none⟩ (.slice A6 r.length c6)).cell? ⟨w3.heap.size, 5, none⟩ = some (.slice A5 y.length c5) := blk_cell p3 5
  have z6 : (w9.setCell ⟨w3.heap.size, 6, none⟩ (.slice A6 r.length c6)).cell? ⟨w3.heap.size, 6, none⟩ = some (.slice A6 r.length c6) := blk_cell p3 6
  have yc0 : (w9.setCell ⟨w3.heap.size, 6, none⟩ (.slice A6 r.length c6)).cell? ⟨w.heap.size, 0, none⟩ = some (.string ⟨#[]⟩) := blk_cell p0 0
  have xf0 : (w9.setCell ⟨w3.heap.size, 6, none⟩ (.slice A6 r.length c6)).frozen? ⟨w.heap.size, 0, none⟩ = false := blk_frozen p0 0
  have yc1 : (w9.setCell ⟨w3.heap.size, 6, none⟩ (.slice A6 r.length c6)).cell? ⟨w.heap.size, 1, none⟩ = some (.int .i64 0) := blk_cell p0 1
  have xf1 : (w9.setCell ⟨w3.heap.size, 6, none⟩ (.slice A6 r.length c6)).frozen? ⟨w.heap.size, 1, none⟩ = false := blk_frozen p0 1
  have yc2 : (w9.setCell ⟨w3.heap.size, 6, none⟩ (.slice A6 r.length c6)).cell? ⟨w.heap.size, 2, none⟩ = some (.int .i64 0) := blk_cell p0 2
  have xf2 : (w9.setCell ⟨w3.heap.size, 6, none⟩ (.slice A6 r.length c6)).frozen? ⟨w.heap.size, 2, none⟩ = false := blk_frozen p0 2
  have yc3 : (w9.setCell ⟨w3.heap.size, 6, none⟩ (.slice A6 r.length c6)).cell? ⟨w.heap.size, 3, none⟩ = some (.bool false) := blk_cell p0 3
  have xf3 : (w9.setCell ⟨w3.heap.size, 6, none⟩ (.slice A6 r.length c6)).frozen? ⟨w.heap.size, 3, none⟩ = false := blk_frozen p0 3
  have yc4 : (w9.setCell ⟨w3.heap.size, 6, none⟩ (.slice A6 r.length c6)).cell? ⟨w.heap.size, 4, none⟩ = some (.int .i64 0) := blk_cell p0 4
  have xf4 : (w9.setCell ⟨w3.heap.size, 6, none⟩ (.slice A6 r.length c6)).frozen? ⟨w.heap.size, 4, none⟩ = false := blk_frozen p0 4
  have yc5 : (w9.setCell ⟨w3.heap.size, 6, none⟩ (.slice A6 r.length c6)).cell? ⟨w.heap.size, 5, none⟩ = some (.slice none 0 0) := blk_cell p0 5
  have xf5 : (w9.setCell ⟨w3.heap.size, 6, none⟩ (.slice A6 r.length c6)).frozen? ⟨w.heap.size, 5, none⟩ = false := blk_frozen p0 5
  have yc6 : (w9.setCell ⟨w3.heap.size, 6, none⟩ (.slice A6 r.length c6)).cell? ⟨w.heap.size, 6, none⟩ = some (.slice none 0 0) := blk_cell p0 6
  have xf6 : (w9.setCell ⟨w3.heap.size, 6, none⟩ (.slice A6 r.length c6)).frozen? ⟨w.heap.size, 6, none⟩ = false := blk_frozen p0 6
  have M9 := hid (And.intro (M9a.out.1.set (Nat.le_of_lt H3.out) 6 (.slice A6 r.length c6)) (And.intro (R_setB M9a.out.2.2.2.1 M9a.out.2.1 (by simp [Kd.int, Kd.scalar]) 6 (.slice A6 r.length c6)) (And.intro (R_setB M9a.out.2.2.2.2 M9a.out.2.1 (by simp [k153, Kd.iso, Kd.pair, Kd.int, Kd.scalar, Kd.string]) 6 (.slice A6 r.length c6)) p0)))
  clear M9a p3 p0
  go_wp2
  have r2 := set7 M9.out.2.1 M9.out.2.2.2 (by simp [Kd.int, Kd.scalar]) (.string nm) (.int .i64 b) (.int .i64 x2) (.bool fb) (.int .i64 x4) (.slice A5 y.length c5) (.slice A6 r.length c6)
  have r3 := set7 M9.out.2.2.1 M9.out.2.2.2 (by simp [k153, Kd.iso, Kd.pair, Kd.int, Kd.scalar, Kd.string]) (.string nm) (.int .i64 b) (.int .i64 x2) (.bool fb) (.int .i64 x4) (.slice A5 y.length c5) (.slice A6 r.length c6)
  refine bodyPost_ret (results_single rfl (.cell w.heap.size 102 #[.string nm, .int .i64 b, .int .i64 x2, .bool fb, .int .i64 x4, .slice A5 y.length c5, .slice A6 r.length c6] (0, 0) _ rfl (put7 M9.out.2.2.2 _ _ _ _ _ _ _) Try.underlying102 rfl (by kernel_rfl) .nil)) rfl ?_
  exact PP.ok HPF.out ⟨_, _, rfl, k102_mkM _ _ _ ⟨nm, b, x2, fb, x4, y, r⟩ r2 r3⟩ (mvs7 M9.out.1 (Nat.le_refl _) _ _ _ _ _ _ _)
end Go.Proofs.Ytmcfihpbiilbcaa.H
end
section
namespace Go.Proofs.Ytmcfihpbiilbcaa.H
open Go.RowKit Go.Proofs.YtmcfihpbiilbcaaW.PrintWords Go.Proofs.YtmcfihpbiilbcaaW.PrintLast Go.Proofs.YtmcfihpbiilbcaaW.PrintMore Go.Proofs.Ytmcfihpbiilbcaa.E
set_option linter.unusedVariables false
set_option linter.unusedSimpArgs false
theorem enter_113 (args : Array Value) (w : World) : (callFunc 113 args).run Try.prog w = .ok (.enter 113 args) w := Go.MuLone.run_callFunc_enter Try.func113 (by kernel_rfl) rfl args w
theorem info124 : (Try.prog.info? 124).map (fun i => (i.zero, i.size, i.bytes)) = some (some (.agg #[.string ⟨#[]⟩, .int .i64 0, .slice none 0 0, .slice none 0 0]), 4, 72) := by kernel_rfl
theorem info102 : (Try.prog.info? 102).map (fun i => (i.zero, i.size, i.bytes)) = some (some (.agg #[.string ⟨#[]⟩, .int .i64 0, .int .i64 0, .bool false, .int .i64 0, .slice none 0 0, .slice none 0 0]), 7, 96) := by kernel_rfl
theorem info122 : (Try.prog.info? 122).map (fun i => (i.zero, i.size, i.bytes)) = some (some (.agg #[.string ⟨#[]⟩, .int .i64 0]), 2, 24) := by kernel_rfl
theorem magicO_q (m : List Int) (h : Bytes m) : ((strOfNums m).toList == [83, 80, 76, 49]) = decide (m = [83, 80, 76, 49]) := by
  have hk := strEq m [83, 80, 76, 49] h (by intro x hx; simp at hx; omega)
  have e : (strOfNums [83, 80, 76, 49]).toList = [83, 80, 76, 49] := by rw [Lib.strOfNums_toList]; rfl
  rw [e] at hk
  exact hk
structure OS (w : World) (B N n0 b0 : Nat) (l : List Int) (wx : World) (i : Int) (v0 v1 v2 : Value) (F : List S124) (D : List S102) (M : List S122) : Prop where
  st : St w B N n0 91 wx l i #[v0, v1, v2]
  sz : b0 ≤ wx.heap.size
  f : k124.R 124 wx b0 (fun _ => True) v0 F
  d : k102.R 102 wx b0 (fun _ => True) v1 D
  n : k122.R 122 wx b0 (fun _ => True) v2 M
section
variable {w wx w1 w6 : World} {B N n0 b0 : Nat} {l : List Int} {i j : Int} {v0 v1 v2 v6 : Value} {F F' : List S124} {D D' : List S102} {M M' : List S122}
theorem OS.scan (h : OS w B N n0 b0 l wx i v0 v1 v2 F D M) (hB : B < b0) (hm : Mv B wx j w1) : OS w B N n0 b0 l w1 j v0 v1 v2 F D M :=
  ⟨h.st.scan hm, Nat.le_trans h.sz hm.size, R_mv h.f hB hm, R_mv h.d hB hm, R_mv h.n hB hm⟩
theorem OS.drew (h : OS w B N n0 b0 l wx i v0 v1 v2 F D M) : OS w B N n0 b0 l wx.drew i v0 v1 v2 F D M :=
  ⟨h.st.drew, h.sz, Kd.R_drew h.f, Kd.R_drew h.d, Kd.R_drew h.n⟩
theorem R_growns {α β : Type} {d : Kd α} {d' : Kd β} {e e' base base' : Nat} {W W' : World} {u v : Value} {xs : List α} {ys : List β} (h : d.R e W base (fun _ => True) u xs) (hv : d'.R e' W base' (fun _ => True) v ys) (ht : ∀ q, q ∈ e :: d.E → q ≠ e') (hg : W.grownBy W' v.ownBlock) : d.R e W' base (fun _ => True) u xs :=
  R_all (Kd.R_grown (Kd.R_apartR h hv ht) hg (fun k hk => hk.2))
theorem OS.appF (h : OS w B N n0 b0 l wx i v0 v1 v2 F D M) (hn : n0 ≤ b0) (hg : wx.grownBy w6 v0.ownBlock) (hb : Below b0 wx w6) (hr : k124.R 124 w6 b0 (fun _ => True) v6 F') :
    w6.cell? ⟨N, 0, none⟩ = some v0 ∧ w6.frozen? ⟨N, 0, none⟩ = false ∧ OS w B N n0 b0 l (w6.setCell ⟨N, 0, none⟩ v6) i v6 v1 v2 F' D M := by
  have hs := h.st.row hg (fun k hk => by obtain ⟨inner, ho⟩ := Kd.R_own h.f; exact ⟨Nat.le_trans hn (Kd.R_base h.f k hk), own_typed ho k hk⟩) (e := 124) (by decide) (by decide) (by decide) (by decide)
  have hd := R_growns h.d h.f (by simp [k102, k153, Kd.slice, Kd.iso, Kd.pair, Kd.int, Kd.scalar, Kd.string, Kd.bool]) hg
  have hm := R_growns h.n h.f (by simp [k122, Kd.slice, Kd.iso, Kd.pair, Kd.int, Kd.scalar, Kd.string, Kd.bool]) hg
  exact ⟨blk_cell hs.var 0, blk_frozen hs.var 0, hs.put (by decide) 0 v6, by have := hb.size; have := h.sz; simp; omega, Kd.R_set hr hs.var (by simp [k124, k153, Kd.slice, Kd.iso, Kd.pair, Kd.int, Kd.scalar, Kd.string, Kd.bool]) 0 v6, Kd.R_set hd hs.var (by simp [k102, k153, Kd.slice, Kd.iso, Kd.pair, Kd.int, Kd.scalar, Kd.string, Kd.bool]) 0 v6, Kd.R_set hm hs.var (by simp [k122, Kd.slice, Kd.iso, Kd.pair, Kd.int, Kd.scalar, Kd.string, Kd.bool]) 0 v6⟩
theorem OS.appD (h : OS w B N n0 b0 l wx i v0 v1 v2 F D M) (hn : n0 ≤ b0) (hg : wx.grownBy w6 v1.ownBlock) (hb : Below b0 wx w6) (hr : k102.R 102 w6 b0 (fun _ => True) v6 D') :
    w6.cell? ⟨N, 1, none⟩ = some v1 ∧ w6.frozen? ⟨N, 1, none⟩ = false ∧ OS w B N n0 b0 l (w6.setCell ⟨N, 1, none⟩ v6) i v0 v6 v2 F D' M := by
  have hs := h.st.row hg (fun k hk => by obtain ⟨inner, ho⟩ := Kd.R_own h.d; exact ⟨Nat.le_trans hn (Kd.R_base h.d k hk), own_typed ho k hk⟩) (e := 102) (by decide) (by decide) (by decide) (by decide)
  have hf := R_growns h.f h.d (by simp [k124, k153, Kd.slice, Kd.iso, Kd.pair, Kd.int, Kd.scalar, Kd.string, Kd.bool]) hg
  have hm := R_growns h.n h.d (by simp [k122, Kd.slice, Kd.iso, Kd.pair, Kd.int, Kd.scalar, Kd.string, Kd.bool]) hg
  exact ⟨blk_cell hs.var 1, blk_frozen hs.var 1, hs.put (by decide) 1 v6, by have := hb.size; have := h.sz; simp; omega, Kd.R_set hf hs.var (by simp [k124, k153, Kd.slice, Kd.iso, Kd.pair, Kd.int, Kd.scalar, Kd.string, Kd.bool]) 1 v6, Kd.R_set hr hs.var (by simp [k102, k153, Kd.slice, Kd.iso, Kd.pair, Kd.int, Kd.scalar, Kd.string, Kd.bool]) 1 v6, Kd.R_set hm hs.var (by simp [k122, Kd.slice, Kd.iso, Kd.pair, Kd.int, Kd.scalar, Kd.string, Kd.bool]) 1 v6⟩
theorem OS.appN (h : OS w B N n0 b0 l wx i v0 v1 v2 F D M) (hn : n0 ≤ b0) (hg : wx.grownBy w6 v2.ownBlock) (hb : Below b0 wx w6) (hr : k122.R 122 w6 b0 (fun _ => True) v6 M') :
    w6.cell? ⟨N, 2, none⟩ = some v2 ∧ w6.frozen? ⟨N, 2, none⟩ = false ∧ OS w B N n0 b0 l (w6.setCell ⟨N, 2, none⟩ v6) i v0 v1 v6 F D M' := by
  have hs := h.st.row hg (fun k hk => by obtain ⟨inner, ho⟩ := Kd.R_own h.n; exact ⟨Nat.le_trans hn (Kd.R_base h.n k hk), own_typed ho k hk⟩) (e := 122) (by decide) (by decide) (by decide) (by decide)
  have hf := R_growns h.f h.n (by simp [k124, k153, Kd.slice, Kd.iso, Kd.pair, Kd.int, Kd.scalar, Kd.string, Kd.bool]) hg
  have hd := R_growns h.d h.n (by simp [k102, k153, Kd.slice, Kd.iso, Kd.pair, Kd.int, Kd.scalar, Kd.string, Kd.bool]) hg
  exact ⟨blk_cell hs.var 2, blk_frozen hs.var 2, hs.put (by decide) 2 v6, by have := hb.size; have := h.sz; simp; omega, Kd.R_set hf hs.var (by simp [k124, k153, Kd.slice, Kd.iso, Kd.pair, Kd.int, Kd.scalar, Kd.string, Kd.bool]) 2 v6, Kd.R_set hd hs.var (by simp [k102, k153, Kd.slice, Kd.iso, Kd.pair, Kd.int, Kd.scalar, Kd.string, Kd.bool]) 2 v6, Kd.R_set hr hs.var (by simp [k122, Kd.slice, Kd.iso, Kd.pair, Kd.int, Kd.scalar, Kd.string, Kd.bool]) 2 v6⟩
end
theorem readO_err {l : List Int} {x : Int} (h : pObj l 0 = .error x) : readO l = .error x := by unfold readO; rw [h]
theorem readO_ok {l : List Int} {o : O3} {j : Int} (h : pObj l 0 = .ok (o, j)) : readO l = if j < l.length then .error 2 else .ok o := by unfold readO; rw [h]
def ObjPost (w : World) (N n0 : Nat) (l : List Int) (w2 : World) (x : Int) : Prop :=
  Below n0 w w2 ∧ w2.heap[w.heap.size]? = some (.cells #[.int .i64 0] 25 (0, 0)) ∧ (∀ y, readO l = .error y → x = y) ∧
    ∀ o : O3, readO l = .ok o → x = 0 ∧ ∃ v0 v1 v2, w2.heap[N]? = some (.cells #[v0, v1, v2] 91 (0, 0)) ∧ k124.R 124 w2 n0 (fun _ => True) v0 o.1 ∧ k102.R 102 w2 n0 (fun _ => True) v1 o.2.1 ∧ k122.R 122 w2 n0 (fun _ => True) v2 o.2.2
theorem ObjPost.fail {w w2 : World} {B N n0 : Nat} {l : List Int} {x : Int} (h : w2.heap[w.heap.size]? = some (.cells #[.int .i64 0] 25 (0, 0)) ∧ Below n0 w w2) (hx : pObj l 0 = .error x) : ReadPost w l B (ObjPost w N n0 l) (.panicked (fail_ x)) w2 :=
  .inr ⟨x, rfl, h.1, h.2, h.1, fun y hy => by rw [readO_err hx] at hy; cases hy; rfl, fun o ho => by rw [readO_err hx] at ho; cases ho⟩
set_option maxRecDepth 100000 in
set_option maxHeartbeats 8000000 in
theorem read113 (w w1 : World) (B N n0 : Nat) (l : List Int) (hF : Fresh w w1 B l) (hN : w.heap[N]? = some (.cells #[.slice none 0 0, .slice none 0 0, .slice none 0 0] 91 (0, 0))) (hle : n0 ≤ N) (hb : Bytes l) (hl : l.length ≤ 140737488351232) :
    Calls Try.prog 113 (#[.pointer (some ⟨B, 0, none⟩)] ++ #[.pointer (some ⟨N, 0, none⟩)]) w1 (ReadPost w l B (ObjPost w N n0 l)) := by
  have hst := St.start (t := 91) hF hN hle
  obtain ⟨b0, hb0⟩ : ∃ b, b = w1.heap.size := ⟨_, rfl⟩
  have hBl : B < b0 := by rw [hb0]; exact hF.sc.lt
  have hn : n0 ≤ b0 := by have := hst.lt; have := hst.gt; omega
  have H0 := hid (show OS w B N n0 b0 l w1 0 (.slice none 0 0) (.slice none 0 0) (.slice none 0 0) [] [] [] from ⟨hst, by omega, Kd.R_nil _ _ _ _ _, Kd.R_nil _ _ _ _ _, Kd.R_nil _ _ _ _ _⟩)
  have HBL := hid hBl
  have HN := hid hn
  clear hF hN hst hb0 hBl hn
  go_enter Try.func113, Try.ntmps113
  go_wp2_with fail
  refine (bytes_p B l 0 4 _ H0.out.st.sc (Int.le_refl 0) (by omega) (by omega) hl).mono ?_
  rintro e w2 hq
  rcases hp : pBytes 4 l 0 with x | ⟨m, j⟩ <;> rw [hp] at hq
  · obtain ⟨rfl, ha⟩ := hq
    exact ⟨rfl, ObjPost.fail (H0.out.st.fail ha) (by simp only [pObj, pThen_err hp])⟩
  obtain ⟨v, rfl, hR, hm⟩ := hq
  have k1 := Bk.bytes 4 (by omega) l 0 hb (Int.le_refl 0) (by omega) m j hp
  have a1 : 0 ≤ j ∧ j ≤ l.length := ⟨k1.1, k1.2.1⟩
  obtain ⟨A2, c2, rfl, hc2, hC2⟩ := Kd.R_reads hR
  have hstr := Kd.C_string (c := c2) Try.underlying22 Try.underlying5 Try.underlying9 hC2
  have hq := magicO_q m k1.2.2.2.1
  have HMG := hid hq
  have PB := hid hp
  have H1 := hid (H0.out.scan HBL.out hm)
  clear hp hm hR hC2 k1 hq H0
  go_wp2_with fail
  rw [HMG.out]
  refine (must_p _ _ _).mono ?_
  rintro e w3 hq
  rcases hq with ⟨hb1, rfl, rfl⟩ | ⟨hb1, rfl, rfl⟩
  rotate_left
  · exact ⟨rfl, ObjPost.fail (H1.out.st.fail (Aft.self B _)) (by simp only [pObj, pThen_ok PB.out, hb1]; rfl)⟩
  have hmm : pMust (decide (m = [83, 80, 76, 49])) l j = .ok ((), j) := by rw [hb1]; rfl
  have PM := hid hmm
  clear hmm hb1 hstr HMG
  go_wp2_with fail
  refine (count_p B l j 64 _ H1.out.st.sc a1.1 a1.2 hl hb).mono ?_
  rintro e wc hq
  rcases hp : pCount 64 l j with x | ⟨nn, j0⟩ <;> rw [hp] at hq
  · obtain ⟨rfl, ha⟩ := hq
    exact ⟨rfl, ObjPost.fail (H1.out.st.fail ha) (by simp only [pObj, pThen_ok PB.out, pThen_ok PM.out, pThen_err hp])⟩
  obtain ⟨v, rfl, rfl, hm⟩ := hq
  have k1 := Bk.count 64 l j hb a1.1 a1.2 nn j0 hp
  obtain ⟨n0', rfl⟩ : ∃ n : Nat, nn = n := ⟨nn.toNat, by have := k1.2.2.2.1; omega⟩
  have hn0 : n0' ≤ 64 := by have := k1.2.2.2.2.2; omega
  have b0' : 0 ≤ j0 ∧ j0 ≤ l.length := ⟨by omega, k1.2.1⟩
  have PC0 := hid hp
  have HQ0 := hid (H1.out.scan HBL.out hm)
  clear hp hm k1 H1
  go_wp2
  go_loopw [11] (fun s11 wx => ∃ (k : Nat) (L : List S124) (i' : Int) (v : Value), k ≤ n0' ∧ s11 = .int .i64 k ∧ 0 ≤ i' ∧ i' ≤ l.length ∧ Hid (Rep pFunc n0' l j0 k L i' ∧ OS w B N n0 b0 l wx i' v (.slice none 0 0) (.slice none 0 0) L [] [])) (fun s11 _ => n0' - (intOf s11).toNat)
  case atStart => exact ⟨0, [], j0, _, by omega, rfl, b0'.1, b0'.2, hid ⟨rep0 _ _ _ _, HQ0.out⟩⟩
  case round =>
    obtain ⟨k, L, i', v0, hk, rfl, hi0, hi1, hI⟩ := hrel
    by_cases hlt : (k : Int) < (n0' : Int)
    · have e3 : IntKind.i64.wrap ((k : Int) + 1) = (k : Int) + 1 := IntWalk.i64_in _ (by omega)
      have hk1 : k < n0' := by omega
      have HI := hid hI.out.1
      have HD := hid hI.out.2.drew
      clear hI
      go_wp2
      refine start_ (n := 8) (S := fun W => W.cell? ⟨N, 0, none⟩ = some v0) (ds := [7]) #[false, false, false, false, false, false, false, false] (by kernel_rfl) rfl rfl (blk_cell HD.out.st.var 0) (fun hHeld => ?_)
      refine pure_ (i := 0) (N := (some 13)) (v := ?_) (a' := ?_) #[true, false, false, false, false, false, false, false] rfl rfl (by kernel_rfl) (fun _ _ _ h => h) (Or.inl ⟨by rfl, ?_⟩) ?_ ?_
      rotate_left
      · intro w'
        go_simp
        with_reducible rfl
      rotate_left
      · simp only [Act.put, List.setIfInBounds_toArray, List.set_cons_zero, List.set_cons_succ, i64_w]
        rfl
      refine take_ (i := 1) (N := (some 14)) (v := ?_) (a' := ?_) #[true, true, false, false, false, false, false, false] rfl rfl (by kernel_rfl) (fun _ _ _ h => h) (Or.inl ⟨by rfl, ?_⟩) hHeld ?_ ?_
      rotate_left
      · rintro w' s0
        go_simp
        with_reducible rfl
      rotate_left
      · simp only [Act.put, List.setIfInBounds_toArray, List.set_cons_zero, List.set_cons_succ, i64_w]
        rfl
      refine pure_ (i := 2) (N := (some 15)) (v := ?_) (a' := ?_) #[true, true, true, false, false, false, false, false] rfl rfl (by kernel_rfl) (fun _ _ _ h => h) (Or.inl ⟨by rfl, ?_⟩) ?_ ?_
      rotate_left
      · intro w'
        go_simp
        with_reducible rfl
      rotate_left
      · simp only [Act.put, List.setIfInBounds_toArray, List.set_cons_zero, List.set_cons_succ, i64_w]
        rfl
      refine one_ (i := 3) (N := (some 16)) #[true, true, true, true, false, false, false, false] rfl rfl (by kernel_rfl) (by decide) (fun K hK => ?_)
      refine may_ Try.func114 (by kernel_rfl) rfl #[.pointer (some ⟨B, 0, none⟩)] (by rfl) rfl rfl (by first | rfl | (simp only [List.map_toArray, List.map_cons, List.map_nil]; rfl)) ?_
      refine (getFunc_p B l i' _ HD.out.st.sc hi0 hi1 hl hb).mono ?_
      rintro e' wA hq
      rcases hp : pFunc l i' with x | ⟨a, j4⟩ <;> rw [hp] at hq
      · obtain ⟨rfl, ha⟩ := hq
        exact Or.inl ⟨_, rfl, rfl, ObjPost.fail (HD.out.st.fail ha) (by simp only [pObj, pThen_ok PB.out, pThen_ok PM.out, pThen_ok PC0.out, Int.toNat_natCast, pThen_err (rep_err HI.out hk1 hp)])⟩
      obtain ⟨v', rfl, ⟨u2, u3, rfl, hM⟩, hm⟩ := hq
      have k1 := Bk.func l i' hb hi0 hi1 a j4 hp
      have hr2 := rep_ok HI.out hk1 hp
      have HR2 := hid hr2
      have a4 : 0 ≤ j4 ∧ j4 ≤ l.length := ⟨by omega, k1.2.1⟩
      obtain ⟨t2, t3, hcs, g2, g3⟩ := k124_openM hM
      simp only [List.cons.injEq, true_and, and_true] at hcs
      obtain ⟨rfl, rfl⟩ := hcs
      obtain ⟨A2, c2, rfl, _, _⟩ := Kd.R_reads g2
      obtain ⟨A3, c3, rfl, _, _⟩ := Kd.R_reads g3
      have HM := hid (k124.M_lower HD.out.sz (k124.M_mono (ok' := fun k => wr.drew.heap.size ≤ k) (fun k hk => hk.2.1) (k124.M_bound hM)))
      have HLT := hid (Kd.R_lt HD.out.f)
      have HW := hid (HD.out.scan HBL.out hm)
      clear hm k1 hr2 hp HD hM g2 g3
      refine Or.inr ⟨_, rfl, ?_⟩
      refine hK.out _ _ (blk_cell HW.out.st.var 0) (fun hHeld => ?_)
      clear hK K
      refine norm_ (a' := ?_) ?_ ?_
      rotate_left
      · show Act.put _ (some 16) _ = _
        simp only [Act.put, List.setIfInBounds_toArray, List.set_cons_zero, List.set_cons_succ, i64_w]
        rfl
      refine one_ (i := 4) (N := (some 17)) #[true, true, true, true, true, false, false, false] rfl rfl (by kernel_rfl) (by decide) (fun K hK => ?_)
      go_simp
      have HB5 := hid (blk_alloc HW.out.st.var (.cells #[.string a.f0, .int .i64 a.f1, .slice A2 a.f2.length c2, .slice A3 a.f3.length c3] 124))
      refine hK.out _ _ (blk_cell HB5.out 0) (fun hHeld => ?_)
      clear hK K
      refine one_ (i := 5) (N := (some 18)) #[true, true, true, true, true, true, false, false] rfl rfl (by kernel_rfl) (by decide) (fun K hK => ?_)
      refine Kd.R_append_step k124 (w0 := wA) b0 (by rfl) (.tmp 14) (.tmp 17) 87 124 (.agg #[.string ⟨#[]⟩, .int .i64 0, .slice none 0 0, .slice none 0 0]) 72 (by rfl) Try.underlying87 info124 rfl (by decide) (by decide) v0 L a [.string a.f0, .int .i64 a.f1, .slice A2 a.f2.length c2, .slice A3 a.f3.length c3] (fun _ => True) (fun k => wr.drew.heap.size ≤ k) (by rfl) (by rfl) HM.out (fun k hk => ⟨trivial, fun e => by have h1 := HLT.out k e.symm; have h2 : wr.drew.heap.size ≤ k := hk; omega⟩) (fun _ _ => trivial) HW.out.f (Below.refl b0 wA) HW.out.sz (by have := HR2.out.2.1; rw [List.length_append] at this; simp at this; omega) ?_
      intro v6 w6 hr hb6 hg hat
      obtain ⟨T, hT⟩ : ∃ T, L ++ [a] = T := ⟨_, rfl⟩
      have HT := hid hT
      rw [hT] at hr
      clear hT
      obtain ⟨A6, c6, rfl, _, _⟩ := Kd.R_reads hr
      obtain ⟨c6_, g6_, hO⟩ := HW.out.appF HN.out hg hb6 hr
      have HO := hid hO
      have HC6 := hid (And.intro c6_ g6_)
      clear hr hb6 hg hat hO c6_ g6_
      refine hK.out _ _ HC6.out.1 (fun hHeld => ?_)
      clear hK K
      refine norm_ (a' := ?_) ?_ ?_
      rotate_left
      · show Act.put _ (some 18) _ = _
        simp only [Act.put, List.setIfInBounds_toArray, List.set_cons_zero, List.set_cons_succ, i64_w]
        rfl
      refine pure_ (i := 6) (N := (some 19)) (v := ?_) (a' := ?_) #[true, true, true, true, true, true, true, false] rfl rfl (by kernel_rfl) (fun _ _ _ h => h) (Or.inl ⟨by rfl, ?_⟩) ?_ ?_
      rotate_left
      · intro w'
        go_simp
        with_reducible rfl
      rotate_left
      · simp only [Act.put, List.setIfInBounds_toArray, List.set_cons_zero, List.set_cons_succ, i64_w]
        rfl
      refine last_ (i := 7) (N := none) #[true, true, true, true, true, true, true, true] rfl rfl (by kernel_rfl) (by decide) (fun K hK => ?_)
      have c6_ := HC6.out.1
      have g6_ := HC6.out.2
      go_simp
      clear c6_ g6_
      refine hK.out _ _ ?_
      clear hK K
      refine done_ (by kernel_rfl) ?_
      go_wp2
      go_roundw
      case rel => exact ⟨k + 1, T, j4, _, by omega, by go_num, a4.1, a4.2, hid ⟨by rw [← HT.out]; exact HR2.out, HO.out⟩⟩
      case measure => simp [intOf]; omega
    · have hkn : k = n0' := by omega
      subst hkn
      have hre := rep_end hI.out.1
      have HRE0 := hid hre
      have HO := hid hI.out.2
      clear hre hI
      generalize hV : v0 = V0 at *
      clear hV
      generalize hL : L = F at *
      clear hL
      go_wp2_with fail
      refine (count_p B l i' 64 _ HO.out.st.sc hi0 hi1 hl hb).mono ?_
      rintro e wc hq
      rcases hp : pCount 64 l i' with x | ⟨nn, j1⟩ <;> rw [hp] at hq
      · obtain ⟨rfl, ha⟩ := hq
        exact ⟨rfl, ObjPost.fail (HO.out.st.fail ha) (by simp only [pObj, pThen_ok PB.out, pThen_ok PM.out, pThen_ok PC0.out, pThen_ok HRE0.out, Int.toNat_natCast, pThen_err hp])⟩
      obtain ⟨v, rfl, rfl, hm⟩ := hq
      have k1 := Bk.count 64 l i' hb hi0 hi1 nn j1 hp
      obtain ⟨n1, rfl⟩ : ∃ n : Nat, nn = n := ⟨nn.toNat, by have := k1.2.2.2.1; omega⟩
      have hn1 : n1 ≤ 64 := by have := k1.2.2.2.2.2; omega
      have b1 : 0 ≤ j1 ∧ j1 ≤ l.length := ⟨by omega, k1.2.1⟩
      have PC1 := hid hp
      have HQ1 := hid (HO.out.scan HBL.out hm)
      clear hp hm k1
      go_wp2
      go_loopw [23] (fun s23 wx => ∃ (k : Nat) (L : List S102) (i' : Int) (v : Value), k ≤ n1 ∧ s23 = .int .i64 k ∧ 0 ≤ i' ∧ i' ≤ l.length ∧ Hid (Rep pData n1 l j1 k L i' ∧ OS w B N n0 b0 l wx i' V0 v (.slice none 0 0) F L [])) (fun s23 _ => n1 - (intOf s23).toNat)
      case atStart => exact ⟨0, [], j1, _, by omega, rfl, b1.1, b1.2, hid ⟨rep0 _ _ _ _, HQ1.out⟩⟩
      case round =>
        obtain ⟨k, L, i', v1, hk, rfl, hi0, hi1, hI⟩ := hrel
        by_cases hlt : (k : Int) < (n1 : Int)
        · have e3 : IntKind.i64.wrap ((k : Int) + 1) = (k : Int) + 1 := IntWalk.i64_in _ (by omega)
          have hk1 : k < n1 := by omega
          have HI := hid hI.out.1
          have HD := hid hI.out.2.drew
          clear hI
          go_wp2
          refine start_ (n := 8) (S := fun W => W.cell? ⟨N, 1, none⟩ = some v1) (ds := [7]) #[false, false, false, false, false, false, false, false] (by kernel_rfl) rfl rfl (blk_cell HD.out.st.var 1) (fun hHeld => ?_)
          refine pure_ (i := 0) (N := (some 25)) (v := ?_) (a' := ?_) #[true, false, false, false, false, false, false, false] rfl rfl (by kernel_rfl) (fun _ _ _ h => h) (Or.inl ⟨by rfl, ?_⟩) ?_ ?_
          rotate_left
          · intro w'
            go_simp
            with_reducible rfl
          rotate_left
          · simp only [Act.put, List.setIfInBounds_toArray, List.set_cons_zero, List.set_cons_succ, i64_w]
            rfl
          refine take_ (i := 1) (N := (some 26)) (v := ?_) (a' := ?_) #[true, true, false, false, false, false, false, false] rfl rfl (by kernel_rfl) (fun _ _ _ h => h) (Or.inl ⟨by rfl, ?_⟩) hHeld ?_ ?_
          rotate_left
          · rintro w' s0
            go_simp
            with_reducible rfl
          rotate_left
          · simp only [Act.put, List.setIfInBounds_toArray, List.set_cons_zero, List.set_cons_succ, i64_w]
            rfl
          refine pure_ (i := 2) (N := (some 27)) (v := ?_) (a' := ?_) #[true, true, true, false, false, false, false, false] rfl rfl (by kernel_rfl) (fun _ _ _ h => h) (Or.inl ⟨by rfl, ?_⟩) ?_ ?_
          rotate_left
          · intro w'
            go_simp
            with_reducible rfl
          rotate_left
          · simp only [Act.put, List.setIfInBounds_toArray, List.set_cons_zero, List.set_cons_succ, i64_w]
            rfl
          refine one_ (i := 3) (N := (some 28)) #[true, true, true, true, false, false, false, false] rfl rfl (by kernel_rfl) (by decide) (fun K hK => ?_)
          refine may_ Try.func115 (by kernel_rfl) rfl #[.pointer (some ⟨B, 0, none⟩)] (by rfl) rfl rfl (by first | rfl | (simp only [List.map_toArray, List.map_cons, List.map_nil]; rfl)) ?_
          refine (getData_p B l i' _ HD.out.st.sc hi0 hi1 hl hb).mono ?_
          rintro e' wA hq
          rcases hp : pData l i' with x | ⟨a, j4⟩ <;> rw [hp] at hq
          · obtain ⟨rfl, ha⟩ := hq
            exact Or.inl ⟨_, rfl, rfl, ObjPost.fail (HD.out.st.fail ha) (by simp only [pObj, pThen_ok PB.out, pThen_ok PM.out, pThen_ok PC0.out, pThen_ok HRE0.out, pThen_ok PC1.out, Int.toNat_natCast, pThen_err (rep_err HI.out hk1 hp)])⟩
          obtain ⟨v', rfl, ⟨u5, u6, rfl, hM⟩, hm⟩ := hq
          have k1 := Bk.data l i' hb hi0 hi1 a j4 hp
          have hr2 := rep_ok HI.out hk1 hp
          have HR2 := hid hr2
          have a4 : 0 ≤ j4 ∧ j4 ≤ l.length := ⟨by omega, k1.2.1⟩
          obtain ⟨t2, t3, hcs, g2, g3⟩ := k102_openM hM
          simp only [List.cons.injEq, true_and, and_true] at hcs
          obtain ⟨rfl, rfl⟩ := hcs
          obtain ⟨A2, c2, rfl, _, _⟩ := Kd.R_reads g2
          obtain ⟨A3, c3, rfl, _, _⟩ := Kd.R_reads g3
          have HM := hid (k102.M_lower HD.out.sz (k102.M_mono (ok' := fun k => wr.drew.heap.size ≤ k) (fun k hk => hk.2.1) (k102.M_bound hM)))
          have HLT := hid (Kd.R_lt HD.out.d)
          have HW := hid (HD.out.scan HBL.out hm)
          clear hm k1 hr2 hp HD hM g2 g3
          refine Or.inr ⟨_, rfl, ?_⟩
          refine hK.out _ _ (blk_cell HW.out.st.var 1) (fun hHeld => ?_)
          clear hK K
          refine norm_ (a' := ?_) ?_ ?_
          rotate_left
          · show Act.put _ (some 28) _ = _
            simp only [Act.put, List.setIfInBounds_toArray, List.set_cons_zero, List.set_cons_succ, i64_w]
            rfl
          refine one_ (i := 4) (N := (some 29)) #[true, true, true, true, true, false, false, false] rfl rfl (by kernel_rfl) (by decide) (fun K hK => ?_)
          go_simp
          have HB5 := hid (blk_alloc HW.out.st.var (.cells #[.string a.f0, .int .i64 a.f1, .int .i64 a.f2, .bool a.f3, .int .i64 a.f4, .slice A2 a.f5.length c2, .slice A3 a.f6.length c3] 102))
          refine hK.out _ _ (blk_cell HB5.out 1) (fun hHeld => ?_)
          clear hK K
          refine one_ (i := 5) (N := (some 30)) #[true, true, true, true, true, true, false, false] rfl rfl (by kernel_rfl) (by decide) (fun K hK => ?_)
          refine Kd.R_append_step k102 (w0 := wA) b0 (by rfl) (.tmp 26) (.tmp 29) 88 102 (.agg #[.string ⟨#[]⟩, .int .i64 0, .int .i64 0, .bool false, .int .i64 0, .slice none 0 0, .slice none 0 0]) 96 (by rfl) Try.underlying88 info102 rfl (by decide) (by decide) v1 L a [.string a.f0, .int .i64 a.f1, .int .i64 a.f2, .bool a.f3, .int .i64 a.f4, .slice A2 a.f5.length c2, .slice A3 a.f6.length c3] (fun _ => True) (fun k => wr.drew.heap.size ≤ k) (by rfl) (by rfl) HM.out (fun k hk => ⟨trivial, fun e => by have h1 := HLT.out k e.symm; have h2 : wr.drew.heap.size ≤ k := hk; omega⟩) (fun _ _ => trivial) HW.out.d (Below.refl b0 wA) HW.out.sz (by have := HR2.out.2.1; rw [List.length_append] at this; simp at this; omega) ?_
          intro v6 w6 hr hb6 hg hat
          obtain ⟨T, hT⟩ : ∃ T, L ++ [a] = T := ⟨_, rfl⟩
          have HT := hid hT
          rw [hT] at hr
          clear hT
          obtain ⟨A6, c6, rfl, _, _⟩ := Kd.R_reads hr
          obtain ⟨c6_, g6_, hO⟩ := HW.out.appD HN.out hg hb6 hr
          have HO := hid hO
          have HC6 := hid (And.intro c6_ g6_)
          clear hr hb6 hg hat hO c6_ g6_
          refine hK.out _ _ HC6.out.1 (fun hHeld => ?_)
          clear hK K
          refine norm_ (a' := ?_) ?_ ?_
          rotate_left
          · show Act.put _ (some 30) _ = _
            simp only [Act.put, List.setIfInBounds_toArray, List.set_cons_zero, List.set_cons_succ, i64_w]
            rfl
          refine pure_ (i := 6) (N := (some 31)) (v := ?_) (a' := ?_) #[true, true, true, true, true, true, true, false] rfl rfl (by kernel_rfl) (fun _ _ _ h => h) (Or.inl ⟨by rfl, ?_⟩) ?_ ?_
          rotate_left
          · intro w'
            go_simp
            with_reducible rfl
          rotate_left
          · simp only [Act.put, List.setIfInBounds_toArray, List.set_cons_zero, List.set_cons_succ, i64_w]
            rfl
          refine last_ (i := 7) (N := none) #[true, true, true, true, true, true, true, true] rfl rfl (by kernel_rfl) (by decide) (fun K hK => ?_)
          have c6_ := HC6.out.1
          have g6_ := HC6.out.2
          go_simp
          clear c6_ g6_
          refine hK.out _ _ ?_
          clear hK K
          refine done_ (by kernel_rfl) ?_
          go_wp2
          go_roundw
          case rel => exact ⟨k + 1, T, j4, _, by omega, by go_num, a4.1, a4.2, hid ⟨by rw [← HT.out]; exact HR2.out, HO.out⟩⟩
          case measure => simp [intOf]; omega
        · have hkn : k = n1 := by omega
          subst hkn
          have hre := rep_end hI.out.1
          have HRE1 := hid hre
          have HO := hid hI.out.2
          clear hre hI
          generalize hV : v1 = V1 at *
          clear hV
          generalize hL : L = D at *
          clear hL
          go_wp2_with fail
          refine (count_p B l i' 64 _ HO.out.st.sc hi0 hi1 hl hb).mono ?_
          rintro e wc hq
          rcases hp : pCount 64 l i' with x | ⟨nn, j2⟩ <;> rw [hp] at hq
          · obtain ⟨rfl, ha⟩ := hq
            exact ⟨rfl, ObjPost.fail (HO.out.st.fail ha) (by simp only [pObj, pThen_ok PB.out, pThen_ok PM.out, pThen_ok PC0.out, pThen_ok HRE0.out, pThen_ok PC1.out, pThen_ok HRE1.out, Int.toNat_natCast, pThen_err hp])⟩
          obtain ⟨v, rfl, rfl, hm⟩ := hq
          have k1 := Bk.count 64 l i' hb hi0 hi1 nn j2 hp
          obtain ⟨n2, rfl⟩ : ∃ n : Nat, nn = n := ⟨nn.toNat, by have := k1.2.2.2.1; omega⟩
          have hn2 : n2 ≤ 64 := by have := k1.2.2.2.2.2; omega
          have b2 : 0 ≤ j2 ∧ j2 ≤ l.length := ⟨by omega, k1.2.1⟩
          have PC2 := hid hp
          have HQ2 := hid (HO.out.scan HBL.out hm)
          clear hp hm k1
          go_wp2
          go_loopw [35] (fun s35 wx => ∃ (k : Nat) (L : List S122) (i' : Int) (v : Value), k ≤ n2 ∧ s35 = .int .i64 k ∧ 0 ≤ i' ∧ i' ≤ l.length ∧ Hid (Rep pNote n2 l j2 k L i' ∧ OS w B N n0 b0 l wx i' V0 V1 v F D L)) (fun s35 _ => n2 - (intOf s35).toNat)
          case atStart => exact ⟨0, [], j2, _, by omega, rfl, b2.1, b2.2, hid ⟨rep0 _ _ _ _, HQ2.out⟩⟩
          case round =>
            obtain ⟨k, L, i', v2, hk, rfl, hi0, hi1, hI⟩ := hrel
            by_cases hlt : (k : Int) < (n2 : Int)
            · have e3 : IntKind.i64.wrap ((k : Int) + 1) = (k : Int) + 1 := IntWalk.i64_in _ (by omega)
              have hk1 : k < n2 := by omega
              have HI := hid hI.out.1
              have HD := hid hI.out.2.drew
              clear hI
              go_wp2
              refine start_ (n := 11) (S := fun W => W.cell? ⟨N, 2, none⟩ = some v2) (ds := [10]) #[false, false, false, false, false, false, false, false, false, false, false] (by kernel_rfl) rfl rfl (blk_cell HD.out.st.var 2) (fun hHeld => ?_)
              refine pure_ (i := 0) (N := (some 37)) (v := ?_) (a' := ?_) #[true, false, false, false, false, false, false, false, false, false, false] rfl rfl (by kernel_rfl) (fun _ _ _ h => h) (Or.inl ⟨by rfl, ?_⟩) ?_ ?_
              rotate_left
              · intro w'
                go_simp
                with_reducible rfl
              rotate_left
              · simp only [Act.put, List.setIfInBounds_toArray, List.set_cons_zero, List.set_cons_succ, i64_w]
                rfl
              refine take_ (i := 1) (N := (some 38)) (v := ?_) (a' := ?_) #[true, true, false, false, false, false, false, false, false, false, false] rfl rfl (by kernel_rfl) (fun _ _ _ h => h) (Or.inl ⟨by rfl, ?_⟩) hHeld ?_ ?_
              rotate_left
              · rintro w' s0
                go_simp
                with_reducible rfl
              rotate_left
              · simp only [Act.put, List.setIfInBounds_toArray, List.set_cons_zero, List.set_cons_succ, i64_w]
                rfl
              refine pure_ (i := 2) (N := (some 39)) (v := ?_) (a' := ?_) #[true, true, true, false, false, false, false, false, false, false, false] rfl rfl (by kernel_rfl) (fun _ _ _ h => h) (Or.inl ⟨by rfl, ?_⟩) ?_ ?_
              rotate_left
              · intro w'
                go_simp
                with_reducible rfl
              rotate_left
              · simp only [Act.put, List.setIfInBounds_toArray, List.set_cons_zero, List.set_cons_succ, i64_w]
                rfl
              refine pure_ (i := 4) (N := (some 41)) (v := ?_) (a' := ?_) #[true, true, true, false, true, false, false, false, false, false, false] rfl rfl (by kernel_rfl) (fun _ _ _ h => h) (Or.inl ⟨by rfl, ?_⟩) ?_ ?_
              rotate_left
              · intro w'
                go_simp
                with_reducible rfl
              rotate_left
              · simp only [Act.put, List.setIfInBounds_toArray, List.set_cons_zero, List.set_cons_succ, i64_w]
                rfl
              refine one_ (i := 3) (N := (some 40)) #[true, true, true, true, true, false, false, false, false, false, false] rfl rfl (by kernel_rfl) (by decide) (fun K hK => ?_)
              refine may_ Try.func42 (by kernel_rfl) rfl #[.pointer (some ⟨B, 0, none⟩)] (by rfl) rfl rfl (by first | rfl | (simp only [List.map_toArray, List.map_cons, List.map_nil]; rfl)) ?_
              refine (name_p B l i' _ HD.out.st.sc hi0 hi1 hl hb).mono ?_
              rintro e' wA hq
              rcases hp : pName l i' with x | ⟨nm, j3⟩ <;> rw [hp] at hq
              · obtain ⟨rfl, ha⟩ := hq
                exact Or.inl ⟨_, rfl, rfl, ObjPost.fail (HD.out.st.fail ha) (by simp only [pObj, pThen_ok PB.out, pThen_ok PM.out, pThen_ok PC0.out, pThen_ok HRE0.out, pThen_ok PC1.out, pThen_ok HRE1.out, pThen_ok PC2.out, Int.toNat_natCast, pThen_err (rep_err (x := x) HI.out hk1 (by simp only [pNote, pThen_err hp]))])⟩
              obtain ⟨v', rfl, rfl, hm⟩ := hq
              have k1 := Bk.name l i' hb hi0 hi1 nm j3 hp
              have PN := hid hp
              have a3 : 0 ≤ j3 ∧ j3 ≤ l.length := ⟨by omega, k1.2.1⟩
              have HD3 := hid (HD.out.scan HBL.out hm)
              clear hm k1 hp HD
              refine Or.inr ⟨_, rfl, ?_⟩
              refine hK.out _ _ (blk_cell HD3.out.st.var 2) (fun hHeld => ?_)
              clear hK K
              refine norm_ (a' := ?_) ?_ ?_
              rotate_left
              · show Act.put _ (some 40) _ = _
                simp only [Act.put, List.setIfInBounds_toArray, List.set_cons_zero, List.set_cons_succ, i64_w]
                rfl
              refine one_ (i := 5) (N := (some 42)) #[true, true, true, true, true, true, false, false, false, false, false] rfl rfl (by kernel_rfl) (by decide) (fun K hK => ?_)
              refine may_ Try.func41 (by kernel_rfl) rfl #[.pointer (some ⟨B, 0, none⟩), .int .i64 1] (by rfl) rfl rfl (by first | rfl | (simp only [List.map_toArray, List.map_cons, List.map_nil]; rfl)) ?_
              refine (number_p B l j3 1 _ HD3.out.st.sc a3.1 a3.2 (by omega) hl hb).mono ?_
              rintro e' wB hq
              rcases hp : pNum 1 l j3 with x | ⟨y, j4⟩ <;> rw [hp] at hq
              · obtain ⟨rfl, ha⟩ := hq
                exact Or.inl ⟨_, rfl, rfl, ObjPost.fail (HD3.out.st.fail ha) (by simp only [pObj, pThen_ok PB.out, pThen_ok PM.out, pThen_ok PC0.out, pThen_ok HRE0.out, pThen_ok PC1.out, pThen_ok HRE1.out, pThen_ok PC2.out, Int.toNat_natCast, pThen_err (rep_err (x := x) HI.out hk1 (by simp only [pNote, pThen_ok PN.out, pThen_err hp]))])⟩
              obtain ⟨v', rfl, rfl, hm⟩ := hq
              have k1 := Bk.num1 l j3 hb a3.1 a3.2 y j4 hp
              have hr2 := rep_ok HI.out hk1 (a := ⟨nm, y⟩) (j := j4) (by simp only [pNote, pThen_ok PN.out, pThen_ok hp]; rfl)
              have HR2 := hid hr2
              have a4 : 0 ≤ j4 ∧ j4 ≤ l.length := ⟨by omega, k1.2.1⟩
              have HW := hid (HD3.out.scan HBL.out hm)
              have HM := hid (k122_mkM wB b0 (fun _ => False) (⟨nm, y⟩ : S122))
              clear hm k1 hr2 hp HD3
              refine Or.inr ⟨_, rfl, ?_⟩
              refine hK.out _ _ (blk_cell HW.out.st.var 2) (fun hHeld => ?_)
              clear hK K
              refine norm_ (a' := ?_) ?_ ?_
              rotate_left
              · show Act.put _ (some 42) _ = _
                simp only [Act.put, List.setIfInBounds_toArray, List.set_cons_zero, List.set_cons_succ, i64_w]
                rfl
              refine pure_ (i := 6) (N := (some 43)) (v := ?_) (a' := ?_) #[true, true, true, true, true, true, true, false, false, false, false] rfl rfl (by kernel_rfl) (fun _ _ _ h => h) (Or.inl ⟨by rfl, ?_⟩) ?_ ?_
              rotate_left
              · intro w'
                go_simp
                with_reducible rfl
              rotate_left
              · simp only [Act.put, List.setIfInBounds_toArray, List.set_cons_zero, List.set_cons_succ, i64_w]
                rfl
              refine one_ (i := 7) (N := (some 44)) #[true, true, true, true, true, true, true, true, false, false, false] rfl rfl (by kernel_rfl) (by decide) (fun K hK => ?_)
              go_simp
              have HB5 := hid (blk_alloc HW.out.st.var (.cells #[.string nm, .int .i64 y] 122))
              refine hK.out _ _ (blk_cell HB5.out 2) (fun hHeld => ?_)
              clear hK K
              refine one_ (i := 8) (N := (some 45)) #[true, true, true, true, true, true, true, true, true, false, false] rfl rfl (by kernel_rfl) (by decide) (fun K hK => ?_)
              refine Kd.R_append_step k122 (w0 := wB) b0 (by rfl) (.tmp 38) (.tmp 44) 89 122 (.agg #[.string ⟨#[]⟩, .int .i64 0]) 24 (by rfl) Try.underlying89 info122 rfl (by decide) (by decide) v2 L ⟨nm, y⟩ [.string nm, .int .i64 y] (fun _ => True) (fun _ => False) (by rfl) (by rfl) HM.out (fun _ h => h.elim) (fun _ _ => trivial) HW.out.n (Below.refl b0 wB) HW.out.sz (by have := HR2.out.2.1; rw [List.length_append] at this; simp at this; omega) ?_
              intro v6 w6 hr hb6 hg hat
              obtain ⟨T, hT⟩ : ∃ T, L ++ [⟨nm, y⟩] = T := ⟨_, rfl⟩
              have HT := hid hT
              rw [hT] at hr
              clear hT
              obtain ⟨A6, c6, rfl, _, _⟩ := Kd.R_reads hr
              obtain ⟨c6_, g6_, hO⟩ := HW.out.appN HN.out hg hb6 hr
              have HO := hid hO
              have HC6 := hid (And.intro c6_ g6_)
              clear hr hb6 hg hat hO c6_ g6_
              refine hK.out _ _ HC6.out.1 (fun hHeld => ?_)
              clear hK K
              refine norm_ (a' := ?_) ?_ ?_
              rotate_left
              · show Act.put _ (some 45) _ = _
                simp only [Act.put, List.setIfInBounds_toArray, List.set_cons_zero, List.set_cons_succ, i64_w]
                rfl
              refine pure_ (i := 9) (N := (some 46)) (v := ?_) (a' := ?_) #[true, true, true, true, true, true, true, true, true, true, false] rfl rfl (by kernel_rfl) (fun _ _ _ h => h) (Or.inl ⟨by rfl, ?_⟩) ?_ ?_
              rotate_left
              · intro w'
                go_simp
                with_reducible rfl
              rotate_left
              · simp only [Act.put, List.setIfInBounds_toArray, List.set_cons_zero, List.set_cons_succ, i64_w]
                rfl
              refine last_ (i := 10) (N := none) #[true, true, true, true, true, true, true, true, true, true, true] rfl rfl (by kernel_rfl) (by decide) (fun K hK => ?_)
              have c6_ := HC6.out.1
              have g6_ := HC6.out.2
              go_simp
              clear c6_ g6_
              refine hK.out _ _ ?_
              clear hK K
              refine done_ (by kernel_rfl) ?_
              go_wp2
              go_roundw
              case rel => exact ⟨k + 1, T, j4, _, by omega, by go_num, a4.1, a4.2, hid ⟨by rw [← HT.out]; exact HR2.out, HO.out⟩⟩
              case measure => simp [intOf]; omega
            · have hkn : k = n2 := by omega
              subst hkn
              have hre := rep_end hI.out.1
              have HRE2 := hid hre
              have HO := hid hI.out.2
              clear hre hI
              go_wp2
              first | go_end0 | refine bodyPost_ret (results_none rfl _ _ _) rfl ?_
              have hP : pObj l 0 = .ok ((F, D, L), i') := by simp only [pObj, pThen_ok PB.out, pThen_ok PM.out, pThen_ok PC0.out, pThen_ok HRE0.out, pThen_ok PC1.out, pThen_ok HRE1.out, pThen_ok PC2.out, pThen_ok HRE2.out, Int.toNat_natCast]; rfl
              have hS := HO.out
              refine .inl ⟨i', rfl, hi0, hi1, hS.st.sc, hS.st.errno, hS.st.below, hS.st.errno, fun y hy => ?_, fun o ho => ?_⟩
              · rw [readO_ok hP] at hy
                by_cases hil : i' < (l.length : Int)
                · rw [if_pos hil] at hy ⊢; cases hy; rfl
                · rw [if_neg hil] at hy; cases hy
              · rw [readO_ok hP] at ho
                by_cases hil : i' < (l.length : Int)
                · rw [if_pos hil] at ho; cases ho
                · rw [if_neg hil] at ho ⊢
                  cases ho
                  exact ⟨rfl, _, _, _, hS.st.var, Kd.R_lower hS.f HN.out, Kd.R_lower hS.d HN.out, Kd.R_lower hS.n HN.out⟩
end Go.Proofs.Ytmcfihpbiilbcaa.H
end
section
namespace Go.Proofs.Ytmcfihpbiilbcaa.H
open Go.RowKit Go.Proofs.YtmcfihpbiilbcaaW.PrintWords Go.Proofs.YtmcfihpbiilbcaaW.PrintLast Go.Proofs.YtmcfihpbiilbcaaW.PrintMore Go.Proofs.Ytmcfihpbiilbcaa.E
set_option linter.unusedVariables false
set_option linter.unusedSimpArgs false
def Er {α : Type} (p : Pa α) : Prop := ∀ l i x, p l i = .error x → x = 2 ∨ x = 4
theorem Er.then_ {α β : Type} {p : Pa α} {f : α → Pa β} (h : Er p) (k : ∀ a, Er (f a)) : Er (pThen p f) := by
  intro l i x e
  cases hp : p l i with
  | error y => rw [pThen_err hp] at e; cases e; exact h l i _ hp
  | ok r =>
    obtain ⟨a, j⟩ := r
    rw [pThen_ok hp] at e
    exact k a l j x e
theorem Er.ret {α : Type} (a : α) : Er (pRet a) := by intro l i x e; cases e
theorem Er.must (b : Bool) : Er (pMust b) := by
  intro l i x e
  unfold pMust at e
  split at e <;> cases e
  exact .inr rfl
theorem Er.bytes (n : Int) : Er (pBytes n) := by
  intro l i x e
  unfold pBytes at e
  split at e <;> cases e
  exact .inl rfl
theorem Er.num (n : Int) : Er (pNum n) := by
  intro l i x e
  unfold pNum at e
  split at e <;> cases e
  exact .inl rfl
theorem Er.rep {α : Type} {p : Pa α} (h : Er p) : ∀ n, Er (pRep n p)
  | 0 => Er.ret []
  | n + 1 => h.then_ fun a => (Er.rep h n).then_ fun ls => Er.ret (a :: ls)
theorem Er.name : Er pName := (Er.num 1).then_ fun z => (Er.bytes z).then_ fun s => (Er.must _).then_ fun _ => Er.ret _
theorem Er.count (m : Int) : Er (pCount m) := (Er.num 2).then_ fun n => (Er.must _).then_ fun _ => Er.ret _
theorem Er.bind : Er pBind := (Er.num 1).then_ fun n => (Er.must _).then_ fun _ => Er.ret _
theorem Er.rel : Er pRel := (Er.num 2).then_ fun a => (Er.num 1).then_ fun b => Er.name.then_ fun nm => (Er.num 4).then_ fun d => (Er.must _).then_ fun _ => Er.ret _
theorem Er.rels : Er pRels := (Er.count 64).then_ fun n => Er.rep Er.rel _
theorem Er.func : Er pFunc := Er.name.then_ fun nm => Er.bind.then_ fun b => (Er.count 2000).then_ fun n => (Er.rep (Er.num 4) _).then_ fun c => Er.rels.then_ fun r => Er.ret _
theorem Er.data : Er pData := Er.name.then_ fun nm => Er.bind.then_ fun b => (Er.num 1).then_ fun x2 => (Er.num 1).then_ fun fl => (Er.must _).then_ fun _ => (Er.num 2).then_ fun x4 => (Er.count 4096).then_ fun z => (Er.bytes z).then_ fun y => Er.rels.then_ fun r => Er.ret _
theorem Er.note : Er pNote := Er.name.then_ fun nm => (Er.num 1).then_ fun k => Er.ret _
theorem Er.obj : Er pObj := (Er.bytes 4).then_ fun m => (Er.must _).then_ fun _ => (Er.count 64).then_ fun a => (Er.rep Er.func _).then_ fun F => (Er.count 64).then_ fun b => (Er.rep Er.data _).then_ fun D => (Er.count 64).then_ fun c => (Er.rep Er.note _).then_ fun N => Er.ret _
theorem readO_code {l : List Int} {y : Int} (h : readO l = .error y) : y = 2 ∨ y = 4 := by
  unfold readO at h
  cases hp : pObj l 0 with
  | error x => rw [hp] at h; cases h; exact Er.obj l 0 _ hp
  | ok r =>
    obtain ⟨o, j⟩ := r
    rw [hp] at h
    dsimp only at h
    split at h <;> cases h
    exact .inl rfl
abbrev zObj : Array Value := #[.slice none 0 0, .slice none 0 0, .slice none 0 0]
theorem below3 {w w4 : World} {g n0 : Nat} (h : Below n0 w w4) (hg : n0 ≤ g) (b0 b1 b2 : Value) :
    Below n0 w (((w4.setCell ⟨g, 0, none⟩ b0).setCell ⟨g, 1, none⟩ b1).setCell ⟨g, 2, none⟩ b2) :=
  ((h.setCell (p := ⟨g, 0, none⟩) hg _).setCell (p := ⟨g, 1, none⟩) hg _).setCell (p := ⟨g, 2, none⟩) hg _
set_option maxRecDepth 100000 in
theorem oread_err (A : Option Addr) (c : Nat) (l : List Int) (w : World) (y : Int) (hC : CB w A l) (hc : l.length ≤ c) (hby : Bytes l) (hl : l.length ≤ 140737488351232) (hE : readO l = .error y) :
    Calls Try.prog 73 #[.slice A l.length c] w fun e w' => e = .returned (.tuple #[.agg zObj, .int .i64 y]) ∧ Below w.heap.size w w' := by
  have hmf : ∀ (fn : Fn) (first cap : Array Value) (w : World), (Instr.makeFunc fn first cap).run Try.prog w = .ok (.func fn first cap) w := fun _ _ _ _ => rfl
  have HC := hid hC
  have hy := readO_code hE
  clear hC
  go_enter Try.func73, Try.ntmps73
  go_wp2_with fail
  obtain ⟨W3, hW3⟩ : ∃ W, W = (w.alloc (.cells zObj 91)).alloc (.cells zObj 91) := ⟨_, rfl⟩
  have d0 := blk_alloc (blk_new w (.cells zObj 91)) (.cells zObj 91)
  have d1 := blk_new_at (w.alloc (.cells zObj 91)) (.cells zObj 91) (w.heap.size + 1) (by simp)
  have hb := below_alloc (below_alloc (Below.refl w.heap.size w) (.cells zObj 91)) (.cells zObj 91)
  rw [← hW3] at d0 d1 hb
  have hs3 : W3.heap.size = w.heap.size + 2 := by rw [hW3]; simp
  rw [← hW3]
  have H3 := hid (And.intro d0 (And.intro d1 hb))
  have HE := hid hE
  clear d0 d1 hb hW3 hE
  refine (try_c 113 enter_113 #[.pointer (some ⟨w.heap.size + 1, 0, none⟩)] A c l W3 (Kd.C_below HC.out H3.out.2.2) hc hl (ObjPost W3 (w.heap.size + 1) (w.heap.size + 1) l) (fun w1 B hF => read113 W3 w1 B (w.heap.size + 1) (w.heap.size + 1) l hF H3.out.2.1 (by omega) hby hl)).mono ?_
  rintro e w4 ⟨x, w2, rfl, ⟨hB2, hE2, hI1, hI2⟩, ha⟩
  obtain rfl := hI1 y HE.out
  have hlt2 := blk_lt hE2
  have hB4 : Below w.heap.size w w4 := Aft.below (H3.out.2.2.trans (hB2.mono (by omega))) ha (by omega) (by omega)
  have d4 : w4.heap[w.heap.size]? = some (.cells zObj 91 (0, 0)) := (ha.block _ (by omega) (by omega)).trans ((hB2.block _ (by omega)).trans H3.out.1)
  have k0 : w4.cell? ⟨w.heap.size, 0, none⟩ = some (.slice none 0 0) := blk_cell d4 0
  have k1 : w4.cell? ⟨w.heap.size, 1, none⟩ = some (.slice none 0 0) := blk_cell d4 1
  have k2 : w4.cell? ⟨w.heap.size, 2, none⟩ = some (.slice none 0 0) := blk_cell d4 2
  have z0 : w4.frozen? ⟨w.heap.size, 0, none⟩ = false := blk_frozen d4 0
  have z1 : w4.frozen? ⟨w.heap.size, 1, none⟩ = false := blk_frozen d4 1
  have z2 : w4.frozen? ⟨w.heap.size, 2, none⟩ = false := blk_frozen d4 2
  have hx1 : (x == 0) = false := beq_eq_false_iff_ne.2 (by omega)
  have hx2 : (x != 0) = true := bne_iff_ne.2 (by omega)
  have H4 := hid (And.intro hB4 d4)
  clear hB4 d4 ha hB2 hE2 hI2 hI1 HE
  go_wp2
  refine bodyPost_ret (results_ct rfl _ _ w.heap.size 91 #[.slice none 0 0, .slice none 0 0, .slice none 0 0] (0, 0) _ rfl (put3 H4.out.2 _ _ _) Try.underlying91 rfl (by kernel_rfl)) rfl ?_
  exact ⟨rfl, below3 H4.out.1 (Nat.le_refl _) _ _ _⟩
set_option maxRecDepth 100000 in
theorem oread_ok (A : Option Addr) (c : Nat) (l : List Int) (w : World) (o : O3) (hC : CB w A l) (hc : l.length ≤ c) (hby : Bytes l) (hl : l.length ≤ 140737488351232) (hE : readO l = .ok o) :
    Calls Try.prog 73 #[.slice A l.length c] w fun e w' => ∃ A0 A1 A2 c0 c1 c2, e = .returned (.tuple #[.agg #[.slice A0 o.1.length c0, .slice A1 o.2.1.length c1, .slice A2 o.2.2.length c2], .int .i64 0]) ∧ k124.R 124 w' w.heap.size (fun _ => True) (.slice A0 o.1.length c0) o.1 ∧ k102.R 102 w' w.heap.size (fun _ => True) (.slice A1 o.2.1.length c1) o.2.1 ∧ k122.R 122 w' w.heap.size (fun _ => True) (.slice A2 o.2.2.length c2) o.2.2 ∧ Below w.heap.size w w' := by
  have hmf : ∀ (fn : Fn) (first cap : Array Value) (w : World), (Instr.makeFunc fn first cap).run Try.prog w = .ok (.func fn first cap) w := fun _ _ _ _ => rfl
  have HC := hid hC
  clear hC
  go_enter Try.func73, Try.ntmps73
  go_wp2_with fail
  obtain ⟨W3, hW3⟩ : ∃ W, W = (w.alloc (.cells zObj 91)).alloc (.cells zObj 91) := ⟨_, rfl⟩
  have d0 := blk_alloc (blk_new w (.cells zObj 91)) (.cells zObj 91)
  have d1 := blk_new_at (w.alloc (.cells zObj 91)) (.cells zObj 91) (w.heap.size + 1) (by simp)
  have hb := below_alloc (below_alloc (Below.refl w.heap.size w) (.cells zObj 91)) (.cells zObj 91)
  rw [← hW3] at d0 d1 hb
  have hs3 : W3.heap.size = w.heap.size + 2 := by rw [hW3]; simp
  rw [← hW3]
  have H3 := hid (And.intro d0 (And.intro d1 hb))
  have HE := hid hE
  clear d0 d1 hb hW3 hE
  refine (try_c 113 enter_113 #[.pointer (some ⟨w.heap.size + 1, 0, none⟩)] A c l W3 (Kd.C_below HC.out H3.out.2.2) hc hl (ObjPost W3 (w.heap.size + 1) (w.heap.size + 1) l) (fun w1 B hF => read113 W3 w1 B (w.heap.size + 1) (w.heap.size + 1) l hF H3.out.2.1 (by omega) hby hl)).mono ?_
  rintro e w4 ⟨x, w2, rfl, ⟨hB2, hE2, hI1, hI2⟩, ha⟩
  obtain ⟨rfl, v0, v1, v2, hv, hr0, hr1, hr2⟩ := hI2 o HE.out
  have hlt2 := blk_lt hE2
  have hB4 : Below w.heap.size w w4 := Aft.below (H3.out.2.2.trans (hB2.mono (by omega))) ha (by omega) (by omega)
  have d4 : w4.heap[w.heap.size]? = some (.cells zObj 91 (0, 0)) := (ha.block _ (by omega) (by omega)).trans ((hB2.block _ (by omega)).trans H3.out.1)
  have d5 : w4.heap[w.heap.size + 1]? = some (.cells #[v0, v1, v2] 91 (0, 0)) := (ha.block _ (blk_lt hv) (by omega)).trans hv
  have r0 := R_aft hr0 ha hE2 (by simp [k124, k153, Kd.slice, Kd.iso, Kd.pair, Kd.int, Kd.scalar, Kd.string, Kd.bool])
  have r1 := R_aft hr1 ha hE2 (by simp [k102, k153, Kd.slice, Kd.iso, Kd.pair, Kd.int, Kd.scalar, Kd.string, Kd.bool])
  have r2 := R_aft hr2 ha hE2 (by simp [k122, Kd.slice, Kd.iso, Kd.pair, Kd.int, Kd.scalar, Kd.string, Kd.bool])
  obtain ⟨F, D, N⟩ := o
  dsimp only at r0 r1 r2 ⊢
  obtain ⟨A0, c0, rfl, _, _⟩ := Kd.R_reads r0
  obtain ⟨A1, c1, rfl, _, _⟩ := Kd.R_reads r1
  obtain ⟨A2, c2, rfl, _, _⟩ := Kd.R_reads r2
  have k0 : w4.cell? ⟨w.heap.size, 0, none⟩ = some (.slice none 0 0) := blk_cell d4 0
  have k1 : w4.cell? ⟨w.heap.size, 1, none⟩ = some (.slice none 0 0) := blk_cell d4 1
  have k2 : w4.cell? ⟨w.heap.size, 2, none⟩ = some (.slice none 0 0) := blk_cell d4 2
  have z0 : w4.frozen? ⟨w.heap.size, 0, none⟩ = false := blk_frozen d4 0
  have z1 : w4.frozen? ⟨w.heap.size, 1, none⟩ = false := blk_frozen d4 1
  have z2 : w4.frozen? ⟨w.heap.size, 2, none⟩ = false := blk_frozen d4 2
  have m0 : w4.cell? ⟨w.heap.size + 1, 0, none⟩ = some (.slice A0 F.length c0) := blk_cell d5 0
  have m1 : w4.cell? ⟨w.heap.size + 1, 1, none⟩ = some (.slice A1 D.length c1) := blk_cell d5 1
  have m2 : w4.cell? ⟨w.heap.size + 1, 2, none⟩ = some (.slice A2 N.length c2) := blk_cell d5 2
  have H4 := hid (And.intro hB4 (And.intro d4 (And.intro r0 (And.intro r1 r2))))
  clear hB4 d4 d5 ha hB2 hE2 hI2 hI1 HE hr0 hr1 hr2 r0 r1 r2 hv
  go_wp2
  refine bodyPost_ret (results_ct rfl _ _ w.heap.size 91 #[.slice A0 F.length c0, .slice A1 D.length c1, .slice A2 N.length c2] (0, 0) _ rfl (put3 H4.out.2.1 _ _ _) Try.underlying91 rfl (by kernel_rfl)) rfl ?_
  have r0 := set3 H4.out.2.2.1 H4.out.2.1 (by simp [k124, k153, Kd.slice, Kd.iso, Kd.pair, Kd.int, Kd.scalar, Kd.string, Kd.bool]) (.slice A0 F.length c0) (.slice A1 D.length c1) (.slice A2 N.length c2)
  have r1 := set3 H4.out.2.2.2.1 H4.out.2.1 (by simp [k102, k153, Kd.slice, Kd.iso, Kd.pair, Kd.int, Kd.scalar, Kd.string, Kd.bool]) (.slice A0 F.length c0) (.slice A1 D.length c1) (.slice A2 N.length c2)
  have r2 := set3 H4.out.2.2.2.2 H4.out.2.1 (by simp [k122, Kd.slice, Kd.iso, Kd.pair, Kd.int, Kd.scalar, Kd.string, Kd.bool]) (.slice A0 F.length c0) (.slice A1 D.length c1) (.slice A2 N.length c2)
  exact ⟨_, _, _, _, _, _, rfl, Kd.R_lower r0 (by omega), Kd.R_lower r1 (by omega), Kd.R_lower r2 (by omega), below3 H4.out.1 (Nat.le_refl _) _ _ _⟩
theorem CO_of {w : World} {b0 : Nat} {A0 A1 A2 : Option Addr} {c0 c1 c2 : Nat} {F : List S124} {D : List S102} {N : List S122} (h0 : k124.R 124 w b0 (fun _ => True) (.slice A0 F.length c0) F) (h1 : k102.R 102 w b0 (fun _ => True) (.slice A1 D.length c1) D) (h2 : k122.R 122 w b0 (fun _ => True) (.slice A2 N.length c2) N) : CO w A0 A1 A2 c0 c1 c2 F D N := by
  obtain ⟨-, a1, a2⟩ := Kd.R_reads' h0
  obtain ⟨-, b1, b2⟩ := Kd.R_reads' h1
  obtain ⟨-, e1, e2⟩ := Kd.R_reads' h2
  exact ⟨a2, b2, e2, a1, b1, e1⟩
end Go.Proofs.Ytmcfihpbiilbcaa.H
end
section
namespace Go.Proofs.Ytmcfihpbiilbcaa.H
open Go.RowKit Go.Proofs.YtmcfihpbiilbcaaW.PrintWords Go.Proofs.YtmcfihpbiilbcaaW.PrintLast Go.Proofs.YtmcfihpbiilbcaaW.PrintMore Go.Proofs.Ytmcfihpbiilbcaa.E
set_option linter.unusedVariables false
set_option linter.unusedSimpArgs false
theorem const_13 {w : World} {g : Nat} {fr : Nat × Nat} (h : w.heap[g]? = some (.cells #[.int .u8 83, .int .u8 80, .int .u8 76, .int .u8 49, .int .u8 0, .int .u8 0, .int .u8 0, .int .u8 0, .int .u8 1, .int .u8 0, .int .u8 1, .int .u8 102, .int .u8 2] 5 fr)) : CB w (some ⟨g, 0, none⟩) [83, 80, 76, 49, 0, 0, 0, 0, 1, 0, 1, 102, 2] :=
  C_block h (by simp) (fun j p h => by match j, h with | 0, h => simp at h ⊢; exact h | 1, h => simp at h ⊢; exact h | 2, h => simp at h ⊢; exact h | 3, h => simp at h ⊢; exact h | 4, h => simp at h ⊢; exact h | 5, h => simp at h ⊢; exact h | 6, h => simp at h ⊢; exact h | 7, h => simp at h ⊢; exact h | 8, h => simp at h ⊢; exact h | 9, h => simp at h ⊢; exact h | 10, h => simp at h ⊢; exact h | 11, h => simp at h ⊢; exact h | 12, h => simp at h ⊢; exact h | j + 13, h => simp at h)
def nF : S122 := ⟨⟨#[102]⟩, 2⟩
theorem b13 : objS [] [] [nF] = [83, 80, 76, 49, 0, 0, 0, 0, 1, 0, 1, 102, 2] := by decide +kernel
theorem b10 : objS [] [] [] = [83, 80, 76, 49, 0, 0, 0, 0, 0, 0] := by decide +kernel
theorem e10 : ((strOfNums [83, 80, 76, 49, 0, 0, 0, 0, 0, 0]).toList == [83, 80, 76, 49, 0, 0, 0, 0, 0, 0]) = true := by
  rw [Lib.strOfNums_toList]; rfl
theorem w9_ (w : World) : Calls Try.prog 70 #[.agg #[.slice none 0 0, .slice none 0 0, .slice none 0 0]] w fun e w' => ∃ A c, e = .returned (.tuple #[.slice A 10 c, .int .i64 0]) ∧ 10 ≤ c ∧ CB w' A [83, 80, 76, 49, 0, 0, 0, 0, 0, 0] ∧ Below w.heap.size w w' := by
  have hC : CO w none none none 0 0 0 [] [] [] := CO_of (b0 := 0) (Kd.R_nil _ _ _ _ _) (Kd.R_nil _ _ _ _ _) (Kd.R_nil _ _ _ _ _)
  refine (objWrite_c none none none 0 0 0 [] [] [] w hC ⟨by simp, by simp, by simp, by simp, by simp⟩).mono ?_
  rintro e w' ⟨⟨_, v, rfl, hR⟩ | ⟨h, _⟩, hb⟩
  · rw [b10] at hR
    obtain ⟨A, c, rfl, hc, hC⟩ := Kd.R_reads hR
    exact ⟨A, c, rfl, hc, hC, hb⟩
  · cases (show objB [] [] [] = true by decide +kernel).symm.trans h
theorem r9_ (w : World) (A : Option Addr) (hC : CB w A [83, 80, 76, 49, 0, 0, 0, 0, 1, 0, 1, 102, 2]) : Calls Try.prog 73 #[.slice A 13 13] w fun e w' => ∃ A0 A1 A2 c0 c1 c2, e = .returned (.tuple #[.agg #[.slice A0 0 c0, .slice A1 0 c1, .slice (some A2) 1 c2], .int .i64 0]) ∧ CO w' A0 A1 (some A2) c0 c1 c2 [] [] [nF] ∧ w'.cell? A2 = some (.string ⟨#[102]⟩) ∧ w'.cell? ⟨A2.block, A2.off + 1, none⟩ = some (.int .i64 2) ∧ Below w.heap.size w w' := by
  have hr : readO [83, 80, 76, 49, 0, 0, 0, 0, 1, 0, 1, 102, 2] = .ok ([], [], [nF]) := by rw [← b13]; exact readO_obj [] [] [nF] (by decide +kernel) ⟨by simp, by simp⟩
  refine (oread_ok A 13 [83, 80, 76, 49, 0, 0, 0, 0, 1, 0, 1, 102, 2] w _ hC (by decide) (by intro x hx; simp at hx; omega) (by decide) hr).mono ?_
  rintro e w' ⟨A0, A1, A2, c0, c1, c2, rfl, h0, h1, h2, hb⟩
  have hco := CO_of h0 h1 h2
  obtain ⟨ad, rfl, q0, q1⟩ := at_T122 hco.n 0 (by omega) (by simp)
  refine ⟨A0, A1, ad, c0, c1, c2, rfl, hco, ?_, ?_, hb⟩
  · have := q0; simpa [Addr.add, rd_T122, nF] using this
  · have := q1; simpa [Addr.add, rd_T122, nF] using this
theorem n9_ (w : World) (g : Nat) (hg : w.heap.size = g) : Calls Try.prog 73 #[.slice (some ⟨g, 0, none⟩) 4 4] (w.alloc (.cells #[.int .u8 83, .int .u8 80, .int .u8 76, .int .u8 50] 5 (4, 5))) fun e w' => e = .returned (.tuple #[.agg #[.slice none 0 0, .slice none 0 0, .slice none 0 0], .int .i64 4]) ∧ Below (g + 1) (w.alloc (.cells #[.int .u8 83, .int .u8 80, .int .u8 76, .int .u8 50] 5 (4, 5))) w' := by
  subst hg
  have hr : readO [83, 80, 76, 50] = .error 4 := by rfl
  have h := oread_err (some ⟨w.heap.size, 0, none⟩) 4 [83, 80, 76, 50] (w.alloc (.cells #[.int .u8 83, .int .u8 80, .int .u8 76, .int .u8 50] 5 (4, 5))) 4 (const_4 (blk_new w _)) (by decide) (by intro x hx; simp at hx; omega) (by decide) hr
  simpa using h
theorem s9_ (A0 A1 A2 : Option Addr) (c0 c1 c2 : Nat) (w : World) (hC : CO w A0 A1 A2 c0 c1 c2 [] [] [nF]) : Calls Try.prog 76 #[.agg #[.slice A0 0 c0, .slice A1 0 c1, .slice A2 1 c2], .agg #[.slice A0 0 c0, .slice A1 0 c1, .slice A2 1 c2]] w fun e w' => e = .returned (.bool true) ∧ Below w.heap.size w w' := by
  have h := objSame_c A0 A1 A2 A0 A1 A2 c0 c1 c2 c0 c1 c2 [] [] [] [] [nF] [nF] w hC hC ⟨by simp, by simp, by simp, by simp, by simp⟩
  simpa using h
theorem eqn (W : World) : (binOp .eql 122 (.agg #[.string ⟨#[102]⟩, .int .i64 2]) (.agg #[.string ⟨#[102]⟩, .int .i64 2])).run Try.prog W = .ok (.bool true) W := by
  have h := eqA122 9998 W ⟨#[102]⟩ ⟨#[102]⟩ 2 2
  have e : ((⟨#[102]⟩ : ByteArray).toList == (⟨#[102]⟩ : ByteArray).toList && ((2 : Int) == 2)) = true := by simp
  rw [e] at h
  simp only [binOp]
  simp [Op.equal, Op.maxDepth, h]
set_option maxRecDepth 100000 in
set_option maxHeartbeats 2000000 in
theorem awake9_c (w : World) : Calls Try.prog 68 #[] w fun e w' => e = .returned (.bool true) ∧ Below w.heap.size w w' := by
  have hq := eqn
  have he := e10
  go_enter Try.func68, Try.ntmps68
  go_wp2_with fail
  refine (w9_ w).mono ?_
  rintro e w1 ⟨A, c, rfl, hc, hC, hb⟩
  have H1 := hid (And.intro hC hb)
  have kc := const_at w1 w1.heap.size rfl
  clear hC hb
  go_wp2_with fail
  refine (r9_ _ _ (const_13 (blk_new w1 _))).mono ?_
  rintro e w2 ⟨A0, A1, ad, c0, c1, c2, rfl, hO, q0, q1, hb⟩
  have H2 := hid (And.intro hO (And.intro (Kd.C_below (Kd.C_alloc H1.out.1 _) hb) (below_step (below_alloc H1.out.2 _) hb)))
  clear hO hb H1 kc
  obtain ⟨W3, hW3⟩ : ∃ W, W = w2.alloc (.cells #[.slice A0 0 c0, .slice A1 0 c1, .slice (some ad) 1 c2] 91) := ⟨_, rfl⟩
  have f0 := blk_new w2 (.cells #[.slice A0 0 c0, .slice A1 0 c1, .slice (some ad) 1 c2] 91)
  have hB3 := below_alloc (Below.refl w2.heap.size w2) (.cells #[.slice A0 0 c0, .slice A1 0 c1, .slice (some ad) 1 c2] 91)
  rw [← hW3] at f0 hB3
  have HW := hid hW3
  have q0' := (hB3.cell (World.block_lt_of_cell? _ _ q0)).trans q0
  have q1' := (hB3.cell (World.block_lt_of_cell? _ _ q1)).trans q1
  have kc := const_at (w2.alloc (.cells #[.slice A0 0 c0, .slice A1 0 c1, .slice (some ad) 1 c2] 91)) (w2.heap.size + 1) (by simp)
  have hs3 : W3.heap.size = w2.heap.size + 1 := by rw [hW3]; simp
  have HS3 := hid hs3
  have H3 := hid (And.intro (H2.out.1.below hB3) (And.intro (Kd.C_below H2.out.2.1 hB3) (And.intro (below_step H2.out.2.2 hB3) (And.intro f0 (And.intro q0' q1')))))
  clear H2 hB3 f0 q0 q1 q0' q1' 
  clear hs3 hW3
  go_wp2_with fail
  rw [← HW.out]
  refine (n9_ W3 (w2.heap.size + 1) HS3.out).mono ?_
  clear kc
  rintro e w4 ⟨rfl, hb⟩
  have hb' : Below (W3.alloc (.cells #[.int .u8 83, .int .u8 80, .int .u8 76, .int .u8 50] 5 (4, 5))).heap.size (W3.alloc (.cells #[.int .u8 83, .int .u8 80, .int .u8 76, .int .u8 50] 5 (4, 5))) w4 := by have := HS3.out; simpa [this] using hb
  have hB4 := below_step (below_alloc (Below.refl _ _) (.cells #[.int .u8 83, .int .u8 80, .int .u8 76, .int .u8 50] 5 (4, 5))) hb'
  have H4 := hid (And.intro (H3.out.1.below hB4) (below_step H3.out.2.2.1 hB4))
  have hB5 := below_alloc (Below.refl w4.heap.size w4) (.cells #[.slice none 0 0, .slice none 0 0, .slice none 0 0] 91)
  have f4 := blk_below H3.out.2.2.2.1 hB4
  have hC4 := Kd.C_below H3.out.2.1 hB4
  have hstr : (convert 22 9 (.slice A 10 c)).run Try.prog (w4.alloc (.cells #[.slice none 0 0, .slice none 0 0, .slice none 0 0] 91)) = .ok (.string (strOfNums [83, 80, 76, 49, 0, 0, 0, 0, 0, 0])) (w4.alloc (.cells #[.slice none 0 0, .slice none 0 0, .slice none 0 0] 91)) := Kd.C_string (c := c) Try.underlying22 Try.underlying5 Try.underlying9 (Kd.C_below hC4 hB5)
  obtain ⟨X, hX⟩ : ∃ W, W = w4.alloc (.cells #[.slice none 0 0, .slice none 0 0, .slice none 0 0] 91) := ⟨_, rfl⟩
  have k0 : (w4.alloc (.cells #[.slice none 0 0, .slice none 0 0, .slice none 0 0] 91)).cell? ⟨w2.heap.size, 0, none⟩ = some (.slice A0 0 c0) := blk_cell (blk_below f4 hB5) 0
  have k1 : (w4.alloc (.cells #[.slice none 0 0, .slice none 0 0, .slice none 0 0] 91)).cell? ⟨w2.heap.size, 1, none⟩ = some (.slice A1 0 c1) := blk_cell (blk_below f4 hB5) 1
  have k2 : (w4.alloc (.cells #[.slice none 0 0, .slice none 0 0, .slice none 0 0] 91)).cell? ⟨w2.heap.size, 2, none⟩ = some (.slice (some ad) 1 c2) := blk_cell (blk_below f4 hB5) 2
  have q0 : (w4.alloc (.cells #[.slice none 0 0, .slice none 0 0, .slice none 0 0] 91)).cell? ad = some (.string ⟨#[102]⟩) := (hB5.cell (World.block_lt_of_cell? _ _ ((hB4.cell (World.block_lt_of_cell? _ _ H3.out.2.2.2.2.1)).trans H3.out.2.2.2.2.1))).trans ((hB4.cell (World.block_lt_of_cell? _ _ H3.out.2.2.2.2.1)).trans H3.out.2.2.2.2.1)
  have q1 : (w4.alloc (.cells #[.slice none 0 0, .slice none 0 0, .slice none 0 0] 91)).cell? ⟨ad.block, ad.off + 1, none⟩ = some (.int .i64 2) := (hB5.cell (World.block_lt_of_cell? _ _ ((hB4.cell (World.block_lt_of_cell? _ _ H3.out.2.2.2.2.2)).trans H3.out.2.2.2.2.2))).trans ((hB4.cell (World.block_lt_of_cell? _ _ H3.out.2.2.2.2.2)).trans H3.out.2.2.2.2.2)
  have H5 := hid (And.intro (H4.out.1.below hB5) (below_step H4.out.2 hB5))
  clear hb hb' hB4 hB5 f4 hC4 hX X H3 H4
  go_wp2_with fail
  refine (s9_ _ _ _ _ _ _ _ H5.out.1).mono ?_
  rintro e w6 ⟨rfl, hb⟩
  have H6 := hid (below_step H5.out.2 hb)
  clear hb k0 k1 k2 q0 q1 hstr
  go_wp2
  go_ret
  exact ⟨rfl, H6.out⟩
end Go.Proofs.Ytmcfihpbiilbcaa.H
end
section
namespace Go.Proofs.Ytmcfihpbiilbcaa.H
open Go.RowKit Go.Proofs.YtmcfihpbiilbcaaW.PrintWords Go.Proofs.YtmcfihpbiilbcaaW.PrintLast Go.Proofs.YtmcfihpbiilbcaaW.PrintMore Go.Proofs.Ytmcfihpbiilbcaa.E
set_option linter.unusedVariables false
set_option linter.unusedSimpArgs false
def fewF (x : S124) : Bool := decide (x.f2.length ≤ 2100) && (decide (x.f3.length ≤ 70) && decide (x.f0.size ≤ 100))
def fewD (x : S102) : Bool := decide (x.f5.length ≤ 5000) && (decide (x.f6.length ≤ 70) && decide (x.f0.size ≤ 100))
def fewB (F : List S124) (D : List S102) (N : List S122) : Bool := (decide (F.length ≤ 70) && (decide (D.length ≤ 70) && decide (N.length ≤ 70))) && (F.all fewF && D.all fewD)
theorem few_l1 (F : List S124) (D : List S102) (N : List S122) (hL : D.length ≤ 1000) : ∀ (d : Nat) (k : Nat) (i : Int), 0 ≤ i → i ≤ D.length → (D.length : Int) - i = d → d < k →
    spliceref09_Few.l1 k i F D N = some ((D.drop i.toNat).all fewD) := by
  intro d
  induction d with
  | zero =>
    intro k i h0 h1 hd hk
    obtain ⟨k, rfl⟩ : ∃ m, k = m + 1 := ⟨k - 1, by omega⟩
    simp only [spliceref09_Few.l1]
    rw [if_neg (by omega), List.drop_eq_nil_of_le (by omega)]
    rfl
  | succ d ih =>
    intro k i h0 h1 hd hk
    obtain ⟨k, rfl⟩ : ∃ m, k = m + 1 := ⟨k - 1, by omega⟩
    simp only [spliceref09_Few.l1]
    have ha : i.toNat < D.length := by omega
    have ra : rd_T102 D i = D[i.toNat] := by unfold rd_T102; rw [List.getD_eq_getElem?_getD, List.getElem?_eq_getElem ha]; rfl
    rw [if_pos (by omega), if_pos h0, List.drop_eq_getElem_cons ha, ra, List.all_cons]
    generalize D[i.toNat] = x
    by_cases e1 : x.f5.length ≤ 5000
    · rw [if_neg (by omega)]
      by_cases e2 : x.f6.length ≤ 70
      · rw [if_neg (by omega)]
        by_cases e3 : x.f0.size ≤ 100
        · rw [if_neg (by omega), wrap64_id (by omega) (by omega), ih k (i + 1) (by omega) (by omega) (by omega) (by omega), show (i + 1).toNat = i.toNat + 1 by omega]
          unfold fewD
          rw [decide_eq_true e1, decide_eq_true e2, decide_eq_true e3]
          rfl
        · rw [if_pos (by omega)]
          unfold fewD
          rw [decide_eq_false e3]
          simp
      · rw [if_pos (by omega)]
        unfold fewD
        rw [decide_eq_false e2]
        simp
    · rw [if_pos (by omega)]
      unfold fewD
      rw [decide_eq_false e1]
      simp
theorem few_l0 (F : List S124) (D : List S102) (N : List S122) (hF : F.length ≤ 1000) (hL : D.length ≤ 1000) : ∀ (d : Nat) (k : Nat) (i : Int), 0 ≤ i → i ≤ F.length → (F.length : Int) - i = d → d + 1001 < k →
    spliceref09_Few.l0 k i F D N = some ((F.drop i.toNat).all fewF && D.all fewD) := by
  intro d
  induction d with
  | zero =>
    intro k i h0 h1 hd hk
    obtain ⟨k, rfl⟩ : ∃ m, k = m + 1 := ⟨k - 1, by omega⟩
    simp only [spliceref09_Few.l0]
    rw [if_neg (by omega), List.drop_eq_nil_of_le (by omega), few_l1 F D N hL D.length k 0 (by omega) (by omega) (by omega) (by omega)]
    rfl
  | succ d ih =>
    intro k i h0 h1 hd hk
    obtain ⟨k, rfl⟩ : ∃ m, k = m + 1 := ⟨k - 1, by omega⟩
    simp only [spliceref09_Few.l0]
    have ha : i.toNat < F.length := by omega
    have ra : rd_T124 F i = F[i.toNat] := by unfold rd_T124; rw [List.getD_eq_getElem?_getD, List.getElem?_eq_getElem ha]; rfl
    rw [if_pos (by omega), if_pos h0, List.drop_eq_getElem_cons ha, ra, List.all_cons]
    generalize F[i.toNat] = x
    by_cases e1 : x.f2.length ≤ 2100
    · rw [if_neg (by omega)]
      by_cases e2 : x.f3.length ≤ 70
      · rw [if_neg (by omega)]
        by_cases e3 : x.f0.size ≤ 100
        · rw [if_neg (by omega), wrap64_id (by omega) (by omega), ih k (i + 1) (by omega) (by omega) (by omega) (by omega), show (i + 1).toNat = i.toNat + 1 by omega]
          unfold fewF
          rw [decide_eq_true e1, decide_eq_true e2, decide_eq_true e3]
          rfl
        · rw [if_pos (by omega)]
          unfold fewF
          rw [decide_eq_false e3]
          simp
      · rw [if_pos (by omega)]
        unfold fewF
        rw [decide_eq_false e2]
        simp
    · rw [if_pos (by omega)]
      unfold fewF
      rw [decide_eq_false e1]
      simp
theorem few_q (F : List S124) (D : List S102) (N : List S122) : spliceref09_Few.f 5000 F D N = some (fewB F D N) := by
  unfold spliceref09_Few.f fewB
  by_cases a : F.length ≤ 70
  · rw [if_neg (by omega)]
    by_cases b : D.length ≤ 70
    · rw [if_neg (by omega)]
      by_cases c : N.length ≤ 70
      · simp only [spliceref09_Few.j0]
        rw [if_neg (by rw [decide_eq_false (by omega)]; decide), few_l0 F D N (by omega) (by omega) F.length 4999 0 (by omega) (by omega) (by omega) (by omega), decide_eq_true a, decide_eq_true b, decide_eq_true c]
        rfl
      · simp only [spliceref09_Few.j0]
        rw [if_pos (decide_eq_true (by omega)), decide_eq_false c]
        simp
    · rw [if_pos (by omega), decide_eq_false b]
      simp [spliceref09_Few.j0]
  · rw [if_pos (by omega), decide_eq_false a]
    simp [spliceref09_Few.j0]
theorem few_c (A0 A1 A2 : Option Addr) (c0 c1 c2 : Nat) (F : List S124) (D : List S102) (N : List S122) (w : World) (h : CO w A0 A1 A2 c0 c1 c2 F D N) :
    Calls Try.prog 69 #[.agg #[.slice A0 F.length c0, .slice A1 D.length c1, .slice A2 N.length c2]] w fun e w' => e = .returned (.bool (fewB F D N)) ∧ Below w.heap.size w w' :=
  spliceref09_Few.calls 5000 A0 c0 F A1 c1 D A2 c2 N (fewB F D N) w h.f h.lf h.d h.ld h.n h.ln (few_q F D N)
end Go.Proofs.Ytmcfihpbiilbcaa.H
end
section
namespace Go.Proofs.Ytmcfihpbiilbcaa.K
open Go.Joins Go.ChangeShapes Go.WideShapes Go.ChangeAt Go.RowKit Go.Deep Go.Proofs.YtmcfihpbiilbcaaW.PrintWords Go.Proofs.Ytmcfihpbiilbcaa.H Go.Proofs.Ytmcfihpbiilbcaa.E
set_option linter.unusedVariables false
section
variable {H : Type} {enc : TypeId × Value → H} {W : World} {base : Nat} {held : Bool}
abbrev Light (d : DataW H) (t : TypeId) : Prop := ∀ n ∈ d.weights Try.prog t, n ≤ 140737488351232
set_option maxRecDepth 100000 in
theorem open_rows {α : Type} (d : Kd α) (P : α → Prop) (z : α) (st et : TypeId) (hu : Try.prog.underlying st = some (.slice et)) (h4 : Try.prog.cellsOf et = d.sz)
    (hel : ∀ (n : Nat) (cs : List Value) (x : DataW H × List MemPlace), DataW.trod enc Try.prog W base (fun _ => true) held n et cs = some x → Light x.1 et → ∃ a, d.K W a cs ∧ P a)
    {fu : Nat} {v : Value} {x : DataW H × List MemPlace} (hf : DataW.trod enc Try.prog W base (fun _ => true) held fu st [v] = some x) (hs : Light x.1 st) :
    ∃ (A : Option Addr) (c : Nat) (l : List α), v = .slice A l.length c ∧ l.length ≤ c ∧ d.C W A l.length l ∧ ∀ a ∈ l, P a := by
  rcases open_slice hu hf with ⟨hcs, _⟩ | ⟨a, len, cap, m, n, D, Pl, hcs, hb, hl, hm, hmm, hx, hi⟩
  · have : v = .slice none 0 0 := by simpa using hcs
    exact ⟨none, 0, [], this, Nat.le_refl _, ⟨rfl, by simp, fun h => absurd h (by simp)⟩, fun e he => by cases he⟩
  · have hv : v = .slice (some a) len cap := by simpa using hcs
    have hm' : m = cap := by simpa using hmm
    have hes : ∀ i, i < len → ∃ e : α, P e ∧ ∃ cs, d.K W e cs ∧ ∀ j u, cs[j]? = some u → W.cell? (a.add (i * d.sz + j)) = some u := by
      intro i hi'
      obtain ⟨cs', hc, ht⟩ := hi i (by omega)
      have hlt : Light (D i) et := by
        intro q hq
        refine hs q ?_
        rw [hx]
        show q ∈ DataW.weights Try.prog st (.slice ((List.range len).map D) ((List.range (m - len)).map fun j => D (len + j)))
        unfold DataW.weights
        rw [hu]
        exact List.mem_cons_of_mem _ (List.mem_append_left _ (weightsAll_mem (List.mem_map.2 ⟨i, List.mem_range.2 hi', rfl⟩) hq))
      obtain ⟨e, hK, hP⟩ := hel n cs' _ ht hlt
      rw [h4] at hc
      obtain ⟨_, hcl, hat⟩ := World.cells?_some hc
      refine ⟨e, hP, cs', hK, fun j u hu' => ?_⟩
      have hj : j < d.sz := by have := (List.getElem?_eq_some_iff.1 hu').1; rw [d.K_len hK] at this; exact this
      have := hat j hj
      rw [← Go.Deep.add_add, this, hu']
    have hch : ∃ f : Nat → α, ∀ i, i < len → P (f i) ∧ ∃ cs, d.K W (f i) cs ∧ ∀ j u, cs[j]? = some u → W.cell? (a.add (i * d.sz + j)) = some u := by
      refine ⟨fun i => if h : i < len then Classical.choose (hes i h) else z, fun i hi' => ?_⟩
      simp only [dif_pos hi']
      exact Classical.choose_spec (hes i hi')
    obtain ⟨f, hf'⟩ := hch
    have hlen : ((List.range len).map f).length = len := by simp
    have hmx : cap ≤ 9223372036854775807 := hm
    refine ⟨some a, cap, (List.range len).map f, by rw [hlen]; exact hv, by omega, ⟨rfl, by rw [hlen]; omega, fun _ => ⟨a, rfl, fun j e hj => ?_⟩⟩, fun e he => ?_⟩
    · have hjl : j < len := by have := (List.getElem?_eq_some_iff.1 hj).1; omega
      have : f j = e := by simpa [hjl] using hj
      rw [← this]
      obtain ⟨cs, hK, hc⟩ := (hf' j hjl).2
      exact ⟨cs, d.K_len hK, hK, hc⟩
    · obtain ⟨i, hi', rfl⟩ := List.mem_map.1 he
      exact (hf' i (List.mem_range.1 hi')).1
set_option maxRecDepth 100000 in
theorem open_rel (n : Nat) (cs : List Value) (x : DataW H × List MemPlace) (h : DataW.trod enc Try.prog W base (fun _ => true) held n 153 cs = some x) (hs : Light x.1 153) : ∃ a, k153.K W a cs ∧ SB a.f2 := by
  have h4 : Try.prog.cellsOf 153 = 4 := by kernel_rfl
  have k9 : Try.prog.cellsOf 9 = 1 := by kernel_rfl
  have k3 : Try.prog.cellsOf 3 = 1 := by kernel_rfl
  obtain ⟨xs, m, _, hx, hc, hl, g⟩ := DataW.trod_struct Try.underlying153 h
  have hl' : xs.length = 4 := hl
  rw [h4] at hc
  match cs, hc with
  | [c0, c1, c2, c3], _ =>
    match xs, hl' with
    | [y0, y1, y2, y3], _ =>
      have g0 : DataW.trod enc Try.prog W base (fun _ => true) held m 3 [c0] = some y0 := by simpa [Value.cells, k3] using g 0 _ rfl
      have g1 : DataW.trod enc Try.prog W base (fun _ => true) held m 3 [c1] = some y1 := by simpa [Value.cells, k3] using g 1 _ rfl
      have g2 : DataW.trod enc Try.prog W base (fun _ => true) held m 9 [c2] = some y2 := by simpa [Value.cells, k9] using g 2 _ rfl
      have g3 : DataW.trod enc Try.prog W base (fun _ => true) held m 3 [c3] = some y3 := by simpa [Value.cells, k3] using g 3 _ rfl
      obtain ⟨z0, e0, _, _⟩ := DataW.trod_int Try.underlying3 g0
      obtain ⟨z1, e1, _, _⟩ := DataW.trod_int Try.underlying3 g1
      obtain ⟨s, e2, f2, _⟩ := DataW.trod_string Try.underlying9 g2
      obtain ⟨z3, e3, _, _⟩ := DataW.trod_int Try.underlying3 g3
      simp only [List.cons.injEq, and_true] at e0 e1 e2 e3
      refine ⟨⟨z0, z1, s, z3⟩, by rw [e0, e1, e2, e3]; exact k153_mk W ⟨z0, z1, s, z3⟩, hs _ ?_⟩
      have hw : s.size = s.data.toList.length := by rw [Array.length_toList]; rfl
      rw [hx, f2]
      show s.size ∈ DataW.weights Try.prog 153 (.agg [y0.1, y1.1, .lit (.string s.data.toList), y3.1])
      unfold DataW.weights
      rw [Try.underlying153]
      simp only [List.map_cons, DataW.weightsEach, DataW.weights, List.mem_append, List.mem_singleton]
      exact .inr (.inr (.inl hw))
theorem open_rels {fu : Nat} {v : Value} {x : DataW H × List MemPlace} (hf : DataW.trod enc Try.prog W base (fun _ => true) held fu 100 [v] = some x) (hs : Light x.1 100) :
    ∃ (A : Option Addr) (c : Nat) (l : List S153), v = .slice A l.length c ∧ l.length ≤ c ∧ k153.C W A l.length l ∧ ∀ a ∈ l, SB a.f2 :=
  open_rows k153 (fun a => SB a.f2) z153 100 153 Try.underlying100 (by kernel_rfl) open_rel hf hs
set_option maxRecDepth 100000 in
theorem open_func (n : Nat) (cs : List Value) (x : DataW H × List MemPlace) (h : DataW.trod enc Try.prog W base (fun _ => true) held n 124 cs = some x) (hs : Light x.1 124) :
    ∃ a, k124.K W a cs ∧ (SB a.f0 ∧ (∀ r ∈ a.f3, SB r.f2) ∧ ∀ y ∈ a.f2, 0 ≤ y ∧ y ≤ 4294967295) := by
  have h4 : Try.prog.cellsOf 124 = 4 := by kernel_rfl
  have k9 : Try.prog.cellsOf 9 = 1 := by kernel_rfl
  have k3 : Try.prog.cellsOf 3 = 1 := by kernel_rfl
  have k58 : Try.prog.cellsOf 58 = 1 := by kernel_rfl
  have k100 : Try.prog.cellsOf 100 = 1 := by kernel_rfl
  obtain ⟨xs, m, _, hx, hc, hl, g⟩ := DataW.trod_struct Try.underlying124 h
  have hl' : xs.length = 4 := hl
  rw [h4] at hc
  match cs, hc with
  | [c0, c1, c2, c3], _ =>
    match xs, hl' with
    | [y0, y1, y2, y3], _ =>
      have g0 : DataW.trod enc Try.prog W base (fun _ => true) held m 9 [c0] = some y0 := by simpa [Value.cells, k9] using g 0 _ rfl
      have g1 : DataW.trod enc Try.prog W base (fun _ => true) held m 3 [c1] = some y1 := by simpa [Value.cells, k3] using g 1 _ rfl
      have g2 : DataW.trod enc Try.prog W base (fun _ => true) held m 58 [c2] = some y2 := by simpa [Value.cells, k58] using g 2 _ rfl
      have g3 : DataW.trod enc Try.prog W base (fun _ => true) held m 100 [c3] = some y3 := by simpa [Value.cells, k100] using g 3 _ rfl
      have hwt : ∀ q, (q ∈ y0.1.weights Try.prog 9 ∨ q ∈ y3.1.weights Try.prog 100) → q ≤ 140737488351232 := by
        intro q hq
        refine hs q ?_
        rw [hx]
        show q ∈ DataW.weights Try.prog 124 (.agg [y0.1, y1.1, y2.1, y3.1])
        unfold DataW.weights
        rw [Try.underlying124]
        simp only [List.map_cons, DataW.weightsEach, List.mem_append]
        rcases hq with hq | hq
        · exact .inl hq
        · exact .inr (.inr (.inr (.inl hq)))
      obtain ⟨s, e0, f0, _⟩ := DataW.trod_string Try.underlying9 g0
      obtain ⟨z1, e1, _, _⟩ := DataW.trod_int Try.underlying3 g1
      obtain ⟨A2, d2, l2, e2, hc2, _, hC2, hw2⟩ := open_nums Try.underlying58 Try.underlying36 (by kernel_rfl) g2
      obtain ⟨A3, d3, l3, e3, hc3, hC3, hw3⟩ := open_rels g3 (fun q hq => hwt q (.inr hq))
      simp only [List.cons.injEq, and_true] at e0 e1
      refine ⟨⟨s, z1, l2, l3⟩, by rw [e0, e1, e2, e3]; exact k124_mk W ⟨s, z1, l2, l3⟩ hc2 hC2 hc3 hC3, hwt _ (.inl ?_), hw3, fun y hy => by have := bounds_u32 (hw2 y hy); omega⟩
      have hw : s.size = s.data.toList.length := by rw [Array.length_toList]; rfl
      rw [f0]
      unfold DataW.weights
      simp only [List.mem_singleton]
      exact hw
set_option maxRecDepth 100000 in
theorem open_data (n : Nat) (cs : List Value) (x : DataW H × List MemPlace) (h : DataW.trod enc Try.prog W base (fun _ => true) held n 102 cs = some x) (hs : Light x.1 102) :
    ∃ a, k102.K W a cs ∧ (SB a.f0 ∧ (∀ r ∈ a.f6, SB r.f2) ∧ Bytes a.f5) := by
  have h4 : Try.prog.cellsOf 102 = 7 := by kernel_rfl
  have k9 : Try.prog.cellsOf 9 = 1 := by kernel_rfl
  have k3 : Try.prog.cellsOf 3 = 1 := by kernel_rfl
  have k4 : Try.prog.cellsOf 4 = 1 := by kernel_rfl
  have k22 : Try.prog.cellsOf 22 = 1 := by kernel_rfl
  have k100 : Try.prog.cellsOf 100 = 1 := by kernel_rfl
  obtain ⟨xs, m, _, hx, hc, hl, g⟩ := DataW.trod_struct Try.underlying102 h
  have hl' : xs.length = 7 := hl
  rw [h4] at hc
  match cs, hc with
  | [c0, c1, c2, c3, c4, c5, c6], _ =>
    match xs, hl' with
    | [y0, y1, y2, y3, y4, y5, y6], _ =>
      have g0 : DataW.trod enc Try.prog W base (fun _ => true) held m 9 [c0] = some y0 := by simpa [Value.cells, k9] using g 0 _ rfl
      have g1 : DataW.trod enc Try.prog W base (fun _ => true) held m 3 [c1] = some y1 := by simpa [Value.cells, k3] using g 1 _ rfl
      have g2 : DataW.trod enc Try.prog W base (fun _ => true) held m 3 [c2] = some y2 := by simpa [Value.cells, k3] using g 2 _ rfl
      have g3 : DataW.trod enc Try.prog W base (fun _ => true) held m 4 [c3] = some y3 := by simpa [Value.cells, k4] using g 3 _ rfl
      have g4 : DataW.trod enc Try.prog W base (fun _ => true) held m 3 [c4] = some y4 := by simpa [Value.cells, k3] using g 4 _ rfl
      have g5 : DataW.trod enc Try.prog W base (fun _ => true) held m 22 [c5] = some y5 := by simpa [Value.cells, k22] using g 5 _ rfl
      have g6 : DataW.trod enc Try.prog W base (fun _ => true) held m 100 [c6] = some y6 := by simpa [Value.cells, k100] using g 6 _ rfl
      have hwt : ∀ q, (q ∈ y0.1.weights Try.prog 9 ∨ q ∈ y6.1.weights Try.prog 100) → q ≤ 140737488351232 := by
        intro q hq
        refine hs q ?_
        rw [hx]
        show q ∈ DataW.weights Try.prog 102 (.agg [y0.1, y1.1, y2.1, y3.1, y4.1, y5.1, y6.1])
        unfold DataW.weights
        rw [Try.underlying102]
        simp only [List.map_cons, DataW.weightsEach, List.mem_append]
        rcases hq with hq | hq
        · exact .inl hq
        · exact .inr (.inr (.inr (.inr (.inr (.inr (.inl hq))))))
      obtain ⟨s, e0, f0, _⟩ := DataW.trod_string Try.underlying9 g0
      obtain ⟨z1, e1, _, _⟩ := DataW.trod_int Try.underlying3 g1
      obtain ⟨z2, e2, _, _⟩ := DataW.trod_int Try.underlying3 g2
      obtain ⟨z3, e3, _⟩ := DataW.trod_bool Try.underlying4 g3
      obtain ⟨z4, e4, _, _⟩ := DataW.trod_int Try.underlying3 g4
      obtain ⟨A5, d5, l5, e5, hc5, _, hC5, hw5⟩ := open_bytes g5
      obtain ⟨A6, d6, l6, e6, hc6, hC6, hw6⟩ := open_rels g6 (fun q hq => hwt q (.inr hq))
      simp only [List.cons.injEq, and_true] at e0 e1 e2 e3 e4
      refine ⟨⟨s, z1, z2, z3, z4, l5, l6⟩, by rw [e0, e1, e2, e3, e4, e5, e6]; exact k102_mk W ⟨s, z1, z2, z3, z4, l5, l6⟩ hc5 hC5 hc6 hC6, hwt _ (.inl ?_), hw6, hw5⟩
      have hw : s.size = s.data.toList.length := by rw [Array.length_toList]; rfl
      rw [f0]
      unfold DataW.weights
      simp only [List.mem_singleton]
      exact hw
set_option maxRecDepth 100000 in
theorem open_note (n : Nat) (cs : List Value) (x : DataW H × List MemPlace) (h : DataW.trod enc Try.prog W base (fun _ => true) held n 122 cs = some x) (hs : Light x.1 122) : ∃ a, k122.K W a cs ∧ SB a.f0 := by
  have h4 : Try.prog.cellsOf 122 = 2 := by kernel_rfl
  have k9 : Try.prog.cellsOf 9 = 1 := by kernel_rfl
  have k3 : Try.prog.cellsOf 3 = 1 := by kernel_rfl
  obtain ⟨xs, m, _, hx, hc, hl, g⟩ := DataW.trod_struct Try.underlying122 h
  have hl' : xs.length = 2 := hl
  rw [h4] at hc
  match cs, hc with
  | [c0, c1], _ =>
    match xs, hl' with
    | [y0, y1], _ =>
      have g0 : DataW.trod enc Try.prog W base (fun _ => true) held m 9 [c0] = some y0 := by simpa [Value.cells, k9] using g 0 _ rfl
      have g1 : DataW.trod enc Try.prog W base (fun _ => true) held m 3 [c1] = some y1 := by simpa [Value.cells, k3] using g 1 _ rfl
      obtain ⟨s, e0, f0, _⟩ := DataW.trod_string Try.underlying9 g0
      obtain ⟨z1, e1, _, _⟩ := DataW.trod_int Try.underlying3 g1
      simp only [List.cons.injEq, and_true] at e0 e1
      refine ⟨⟨s, z1⟩, by rw [e0, e1]; exact k122_mk W ⟨s, z1⟩, hs _ ?_⟩
      have hw : s.size = s.data.toList.length := by rw [Array.length_toList]; rfl
      rw [hx, f0]
      show s.size ∈ DataW.weights Try.prog 122 (.agg [.lit (.string s.data.toList), y1.1])
      unfold DataW.weights
      rw [Try.underlying122]
      simp only [List.map_cons, DataW.weightsEach, DataW.weights, List.mem_append, List.mem_singleton]
      exact .inl hw
set_option maxRecDepth 100000 in
theorem open_obj {r : Reach} {b0 : Nat} {v : Value} {d : DataW H} {p : List MemPlace} (hv : Value.okWide Try.prog W r b0 91 v) (h : DataW.Trod enc Try.prog W base (fun _ => true) held 91 v d p) (hs : Light d 91) :
    ∃ (A0 A1 A2 : Option Addr) (c0 c1 c2 : Nat) (F : List S124) (D : List S102) (N : List S122), v = .agg #[.slice A0 F.length c0, .slice A1 D.length c1, .slice A2 N.length c2] ∧ CO W A0 A1 A2 c0 c1 c2 F D N ∧ SS F D N := by
  obtain ⟨cs, rfl, hsz⟩ := okWide_struct Try.underlying91 hv
  have h5 : Try.prog.cellsOf 91 = 3 := by kernel_rfl
  have k87 : Try.prog.cellsOf 87 = 1 := by kernel_rfl
  have k88 : Try.prog.cellsOf 88 = 1 := by kernel_rfl
  have k89 : Try.prog.cellsOf 89 = 1 := by kernel_rfl
  rw [h5] at hsz
  obtain ⟨fu, hf⟩ := h
  obtain ⟨xs, n, _, hx, _, hl, g⟩ := DataW.trod_struct Try.underlying91 hf
  have hl' : xs.length = 3 := hl
  obtain ⟨l⟩ := cs
  match l, hsz with
  | [c0, c1, c2], _ =>
    match xs, hl' with
    | [y0, y1, y2], _ =>
      have g0 : DataW.trod enc Try.prog W base (fun _ => true) held n 87 [c0] = some y0 := by simpa [Value.cells, k87] using g 0 _ rfl
      have g1 : DataW.trod enc Try.prog W base (fun _ => true) held n 88 [c1] = some y1 := by simpa [Value.cells, k88] using g 1 _ rfl
      have g2 : DataW.trod enc Try.prog W base (fun _ => true) held n 89 [c2] = some y2 := by simpa [Value.cells, k89] using g 2 _ rfl
      have hwt : ∀ q, (q ∈ y0.1.weights Try.prog 87 ∨ q ∈ y1.1.weights Try.prog 88 ∨ q ∈ y2.1.weights Try.prog 89) → q ≤ 140737488351232 := by
        intro q hq
        refine hs q ?_
        have hd : d = .agg [y0.1, y1.1, y2.1] := (Prod.mk.inj hx).1
        rw [hd]
        unfold DataW.weights
        rw [Try.underlying91]
        simp only [List.map_cons, DataW.weightsEach, List.mem_append]
        rcases hq with hq | hq | hq
        · exact .inl hq
        · exact .inr (.inl hq)
        · exact .inr (.inr (.inl hq))
      obtain ⟨A0, d0, F, e0, q0, Q0, w0⟩ := open_rows k124 _ z124 87 124 Try.underlying87 (by kernel_rfl) open_func g0 (fun q hq => hwt q (.inl hq))
      obtain ⟨A1, d1, D, e1, q1, Q1, w1⟩ := open_rows k102 _ z102 88 102 Try.underlying88 (by kernel_rfl) open_data g1 (fun q hq => hwt q (.inr (.inl hq)))
      obtain ⟨A2, d2, N, e2, q2, Q2, w2⟩ := open_rows k122 _ z122 89 122 Try.underlying89 (by kernel_rfl) open_note g2 (fun q hq => hwt q (.inr (.inr hq)))
      exact ⟨A0, A1, A2, d0, d1, d2, F, D, N, by rw [e0, e1, e2], ⟨Q0, Q1, Q2, q0, q1, q2⟩, ⟨fun x hx => ⟨(w0 x hx).1, (w0 x hx).2.1⟩, fun x hx => ⟨(w1 x hx).1, (w1 x hx).2.1⟩, w2, fun x hx => (w0 x hx).2.2, fun x hx => (w1 x hx).2.2⟩⟩
end
end Go.Proofs.Ytmcfihpbiilbcaa.K
end
section
namespace Go.Proofs.Ytmcfihpbiilbcaa.H
open Go.RowKit Go.Proofs.YtmcfihpbiilbcaaW.PrintWords Go.Proofs.YtmcfihpbiilbcaaW.PrintLast Go.Proofs.YtmcfihpbiilbcaaW.PrintMore Go.Proofs.Ytmcfihpbiilbcaa.E
set_option linter.unusedVariables false
set_option linter.unusedSimpArgs false
theorem objS_len {F : List S124} {D : List S102} {N : List S122} (h : objB F D N = true) : (objS F D N).length ≤ 3000000 := by
  obtain ⟨g1, g2, g3⟩ := objB_spec h
  obtain ⟨f1, f2⟩ := all124B_spec g1
  obtain ⟨d1, d2⟩ := all102B_spec g2
  obtain ⟨n1, n2⟩ := all122B_spec g3
  have a := upTo_len funcS F (fun x hx => funcS_len (f2 x hx)) F.length (Nat.le_refl _)
  have b := upTo_len dataS D (fun x hx => dataS_len (d2 x hx)) D.length (Nat.le_refl _)
  have c := upTo_len noteS N (fun x hx => noteS_len (n2 x hx)) N.length (Nat.le_refl _)
  have e1 := putS2_len' (F.length : Int)
  have e2 := putS2_len' (D.length : Int)
  have e3 := putS2_len' (N.length : Int)
  have e4 : ([83, 80, 76, 49] : List Int).length = 4 := rfl
  have hl : (objS F D N).length = 4 + 2 + (upTo funcS F F.length).length + 2 + (upTo dataS D D.length).length + 2 + (upTo noteS N N.length).length := by
    unfold objS
    simp only [List.length_append, e1, e2, e3, e4]
  omega
theorem SS.nums {F : List S124} {D : List S102} {N : List S122} (h : SS F D N) : NumsOk F D := ⟨h.w, h.b⟩
theorem owrite_no (A0 A1 A2 : Option Addr) (c0 c1 c2 : Nat) (F : List S124) (D : List S102) (N : List S122) (w : World) (hC : CO w A0 A1 A2 c0 c1 c2 F D N) (hS : SS F D N) (h : objB F D N = false) :
    Calls Try.prog 70 #[.agg #[.slice A0 F.length c0, .slice A1 D.length c1, .slice A2 N.length c2]] w fun e w' => e = .returned (.tuple #[.slice none 0 0, .int .i64 4]) ∧ Below w.heap.size w w' :=
  (objWrite_c A0 A1 A2 c0 c1 c2 F D N w hC hS).mono fun e w' hh => by
    obtain ⟨⟨k, _⟩ | ⟨_, he⟩, hb⟩ := hh
    · rw [h] at k; cases k
    · exact ⟨he, hb⟩
theorem owrite_yes (A0 A1 A2 : Option Addr) (c0 c1 c2 : Nat) (F : List S124) (D : List S102) (N : List S122) (w : World) (hC : CO w A0 A1 A2 c0 c1 c2 F D N) (hS : SS F D N) (h : objB F D N = true) :
    Calls Try.prog 70 #[.agg #[.slice A0 F.length c0, .slice A1 D.length c1, .slice A2 N.length c2]] w fun e w' => ∃ v, e = .returned (.tuple #[v, .int .i64 0]) ∧ RB w' w.heap.size v (objS F D N) ∧ Below w.heap.size w w' :=
  (objWrite_c A0 A1 A2 c0 c1 c2 F D N w hC hS).mono fun e w' hh => by
    obtain ⟨⟨_, v, he, hR⟩ | ⟨k, _⟩, hb⟩ := hh
    · exact ⟨v, he, hR, hb⟩
    · rw [h] at k; cases k
abbrev K3 (w : World) (g : Nat) (a b c : Value) : Prop := w.cell? ⟨g, 0, none⟩ = some a ∧ w.cell? ⟨g, 1, none⟩ = some b ∧ w.cell? ⟨g, 2, none⟩ = some c
theorem k3_of {w : World} {g : Nat} {a b c : Value} {t : TypeId} (h : w.heap[g]? = some (.cells #[a, b, c] t (0, 0))) : K3 w g a b c := ⟨blk_cell h 0, blk_cell h 1, blk_cell h 2⟩
end Go.Proofs.Ytmcfihpbiilbcaa.H
end
section
namespace Go.Proofs.Ytmcfihpbiilbcaa.H
open Go.RowKit Go.Proofs.YtmcfihpbiilbcaaW.PrintWords Go.Proofs.YtmcfihpbiilbcaaW.PrintLast Go.Proofs.YtmcfihpbiilbcaaW.PrintMore Go.Proofs.Ytmcfihpbiilbcaa.E
set_option linter.unusedVariables false
set_option linter.unusedSimpArgs false
theorem rnamed_step (k : Nat) (s : ByteArray) (i : Int) (h0 : 0 ≤ i) (h1 : i < s.size) : spliceref09_named.l0 (k + 1) s i = if letterB (bt s i) = true then spliceref09_named.l0 k s (wrap64 (i + 1)) else some false := by
  simp only [spliceref09_named.l0]
  rw [if_pos h1, if_pos h0]
  generalize spliceref09_named.l0 k s (wrap64 (i + 1)) = R
  generalize bt s i = c
  obtain ⟨L, hL⟩ : ∃ L, L = letterB c := ⟨_, rfl⟩
  rw [← hL]
  cases L
  · have hn : ¬ (97 ≤ c ∧ c ≤ 122 ∨ 65 ≤ c ∧ c ≤ 90 ∨ 48 ≤ c ∧ c ≤ 57 ∨ c = 95 ∨ c = 46) := of_decide_eq_false hL.symm
    clear hL
    have e1 : (if false = true then R else some false) = some false := if_neg (by decide)
    rw [e1]
    clear e1
    repeat' split
    all_goals first | rfl | (exfalso; omega)
  · have hn : 97 ≤ c ∧ c ≤ 122 ∨ 65 ≤ c ∧ c ≤ 90 ∨ 48 ≤ c ∧ c ≤ 57 ∨ c = 95 ∨ c = 46 := of_decide_eq_true hL.symm
    clear hL
    have e1 : (if true = true then R else some false) = R := if_pos rfl
    rw [e1]
    clear e1
    repeat' split
    all_goals first | rfl | (exfalso; omega)
theorem rnamed_from (s : ByteArray) (hs : s.size ≤ 32) : ∀ (d : Nat) (k : Nat) (i : Int), 0 ≤ i → i ≤ s.size → (s.size : Int) - i = d → d < k →
    spliceref09_named.l0 k s i = some (((bytesOf s).drop i.toNat).all letterB) := by
  intro d
  have hlen := bytesOf_length s
  induction d with
  | zero =>
    intro k i h0 h1 hd hk
    obtain ⟨k, rfl⟩ : ∃ m, k = m + 1 := ⟨k - 1, by omega⟩
    simp only [spliceref09_named.l0]
    rw [if_neg (by omega), List.drop_eq_nil_of_le (by omega)]
    rfl
  | succ d ih =>
    intro k i h0 h1 hd hk
    obtain ⟨k, rfl⟩ : ∃ m, k = m + 1 := ⟨k - 1, by omega⟩
    have ha : i.toNat < (bytesOf s).length := by omega
    rw [rnamed_step k s i h0 (by omega), List.drop_eq_getElem_cons ha, List.all_cons]
    have ra : bt s i = (bytesOf s)[i.toNat] := by rw [← rd_bytesOf]; unfold rd; rw [List.getD_eq_getElem?_getD, List.getElem?_eq_getElem ha]; rfl
    rw [ra]
    cases hb : letterB (bytesOf s)[i.toNat]
    · simp
    · rw [if_pos rfl, wrap64_id (by omega) (by omega), ih k (i + 1) (by omega) (by omega) (by omega) (by omega), show (i + 1).toNat = i.toNat + 1 by omega]
      simp
theorem rnamed_q (s : ByteArray) (k : Nat) (hk : 40 ≤ k) : spliceref09_named.f k s = some (namedB s) := by
  obtain ⟨k, rfl⟩ : ∃ m, k = m + 1 := ⟨k - 1, by omega⟩
  unfold spliceref09_named.f namedB
  by_cases h1 : (s.size : Int) < 1
  · rw [if_pos h1]
    simp only [spliceref09_named.j0]
    rw [decide_eq_false (show ¬ 1 ≤ s.size by omega)]
    simp
  · rw [if_neg h1]
    simp only [spliceref09_named.j0]
    by_cases h2 : (s.size : Int) > 32
    · rw [decide_eq_true h2, decide_eq_false (show ¬ s.size ≤ 32 by omega)]
      simp
    · have h := rnamed_from s (by omega) s.size k 0 (by omega) (by omega) (by omega) (by omega)
      rw [show ((0 : Int)).toNat = 0 from rfl, List.drop_zero] at h
      rw [decide_eq_false h2, if_neg (by decide), h, decide_eq_true (show 1 ≤ s.size by omega), decide_eq_true (show s.size ≤ 32 by omega)]
      simp
theorem rrels_j (k : Nat) (l : List S153) (i : Int) (x : S153) (h0 : 0 ≤ i) (h1 : i < l.length) (hk : 40 ≤ k) (hx : rd_T153 l i = x) : spliceref09_rels.j1 (k + 1) l i true = if relB x = true then spliceref09_rels.l0 k l (wrap64 (i + 1)) else some false := by
  have e : spliceref09_rels.j1 (k + 1) l i true = (if 0 ≤ i then (if i < (l.length : Int) then (if x.f0 < 0 then (some false) else (if x.f0 > 65535 then (some false) else (if x.f1 < 0 then (some false) else (if x.f1 > 255 then (some false) else ((spliceref09_named.f k x.f2).bind fun t203 => (if t203 = true then (if x.f3 < (-1048576) then (some false) else (if x.f3 > 1048576 then (some false) else (spliceref09_rels.l0 k l (wrap64 (i + 1))))) else (some false))))))) else (none)) else (none)) := by
    rw [← hx]; rfl
  rw [e, if_pos h0, if_pos h1, rnamed_q _ k hk, Option.bind_some]
  generalize spliceref09_rels.l0 k l (wrap64 (i + 1)) = R
  unfold relB
  by_cases z0 : x.f0 < 0
  · rw [if_pos z0, decide_eq_false (show ¬ (0 ≤ x.f0 ∧ x.f0 ≤ 65535) by omega)]
    simp
  rw [if_neg z0]
  by_cases z1 : x.f0 > 65535
  · rw [if_pos z1, decide_eq_false (show ¬ (0 ≤ x.f0 ∧ x.f0 ≤ 65535) by omega)]
    simp
  rw [if_neg z1]
  by_cases z2 : x.f1 < 0
  · rw [if_pos z2, decide_eq_false (show ¬ (0 ≤ x.f1 ∧ x.f1 ≤ 255) by omega)]
    simp
  rw [if_neg z2]
  by_cases z3 : x.f1 > 255
  · rw [if_pos z3, decide_eq_false (show ¬ (0 ≤ x.f1 ∧ x.f1 ≤ 255) by omega)]
    simp
  rw [if_neg z3]
  cases z4 : namedB x.f2
  · simp
  rw [if_pos rfl]
  by_cases z5 : x.f3 < -1048576
  · rw [if_pos z5, decide_eq_false (show ¬ (-1048576 ≤ x.f3 ∧ x.f3 ≤ 1048576) by omega)]
    simp
  rw [if_neg z5]
  by_cases z6 : x.f3 > 1048576
  · rw [if_pos z6, decide_eq_false (show ¬ (-1048576 ≤ x.f3 ∧ x.f3 ≤ 1048576) by omega)]
    simp
  rw [if_neg z6]
  rw [decide_eq_true (show 0 ≤ x.f0 ∧ x.f0 ≤ 65535 by omega), decide_eq_true (show 0 ≤ x.f1 ∧ x.f1 ≤ 255 by omega), decide_eq_true (show -1048576 ≤ x.f3 ∧ x.f3 ≤ 1048576 by omega)]
  simp only [Bool.true_and]
  rfl
theorem rrels_from (l : List S153) : ∀ (d : Nat) (k : Nat) (i : Int), 0 ≤ i → i + d = (min l.length 65 : Nat) → 2 * d + 50 < k →
    spliceref09_rels.l0 k l i = some (((l.drop i.toNat).take d).all relB && decide ((l.length : Int) ≤ 64)) := by
  intro d
  induction d with
  | zero =>
    intro k i h0 h1 hk
    obtain ⟨k, rfl⟩ : ∃ m, k = m + 1 + 1 := ⟨k - 2, by omega⟩
    have e : spliceref09_rels.l0 (k + 1 + 1) l i = spliceref09_rels.j1 (k + 1) l i false := by
      simp only [spliceref09_rels.l0]
      by_cases h2 : i < (l.length : Int)
      · rw [if_pos h2, decide_eq_false (by omega)]
      · rw [if_neg h2]
    rw [e, List.take_zero]
    rfl
  | succ d ih =>
    intro k i h0 h1 hk
    obtain ⟨k, rfl⟩ : ∃ m, k = m + 1 + 1 := ⟨k - 2, by omega⟩
    have ha : i.toNat < l.length := by omega
    have e : spliceref09_rels.l0 (k + 1 + 1) l i = spliceref09_rels.j1 (k + 1) l i true := by
      simp only [spliceref09_rels.l0]
      rw [if_pos (by omega), decide_eq_true (by omega)]
    have ra : rd_T153 l i = l[i.toNat] := by unfold rd_T153; rw [List.getD_eq_getElem?_getD, List.getElem?_eq_getElem ha]; rfl
    rw [e, rrels_j k l i _ h0 (by omega) (by omega) ra, List.drop_eq_getElem_cons ha, List.take_succ_cons, List.all_cons]
    cases hb : relB l[i.toNat]
    · simp
    · rw [if_pos rfl, wrap64_id (by omega) (by omega), ih k (i + 1) (by omega) (by omega) (by omega), show (i + 1).toNat = i.toNat + 1 by omega]
      simp
theorem rrels_q (l : List S153) (k : Nat) (hk : 200 ≤ k) : spliceref09_rels.f k l = some (relsB l) := by
  unfold spliceref09_rels.f relsB
  rw [rrels_from l (min l.length 65) k 0 (by omega) (by omega) (by omega)]
  rw [show ((0 : Int)).toNat = 0 from rfl, List.drop_zero]
  by_cases h : l.length ≤ 64
  · rw [List.take_of_length_le (by omega), decide_eq_true h, decide_eq_true (by omega)]
    simp
  · rw [decide_eq_false h, decide_eq_false (by omega)]
    simp
theorem may_l2 (F : List S124) (D : List S102) (N : List S122) (hN : N.length ≤ 64) : ∀ (d : Nat) (k : Nat) (i : Int), 0 ≤ i → i + d = N.length → d + 50 < k →
    spliceref09_May.l2 k i F D N = some ((N.drop i.toNat).all noteB) := by
  intro d
  induction d with
  | zero =>
    intro k i h0 h1 hk
    obtain ⟨k, rfl⟩ : ∃ m, k = m + 1 := ⟨k - 1, by omega⟩
    simp only [spliceref09_May.l2]
    rw [if_neg (by omega), List.drop_eq_nil_of_le (by omega)]
    rfl
  | succ d ih =>
    intro k i h0 h1 hk
    obtain ⟨k, rfl⟩ : ∃ m, k = m + 1 := ⟨k - 1, by omega⟩
    have ha : i.toNat < N.length := by omega
    have hx := ih k (i + 1) (by omega) (by omega) (by omega)
    have ra : rd_T122 N i = N[i.toNat] := by unfold rd_T122; rw [List.getD_eq_getElem?_getD, List.getElem?_eq_getElem ha]; rfl
    have e : spliceref09_May.l2 (k + 1) i F D N = if noteB N[i.toNat] = true then spliceref09_May.l2 k (wrap64 (i + 1)) F D N else some false := by
      simp only [spliceref09_May.l2]
      rw [if_pos (show i < (N.length : Int) by omega), if_pos h0, ra]
      generalize spliceref09_May.l2 k (wrap64 (i + 1)) F D N = R
      generalize N[i.toNat] = x
      rw [rnamed_q _ k (by omega), Option.bind_some]
      unfold noteB
      cases z0 : namedB x.f0
      · simp
      rw [if_pos rfl]
      by_cases z1 : x.f1 < 0
      · rw [if_pos z1, decide_eq_false (show ¬ (0 ≤ x.f1 ∧ x.f1 ≤ 255) by omega)]
        simp
      rw [if_neg z1]
      by_cases z2 : x.f1 > 255
      · rw [if_pos z2, decide_eq_false (show ¬ (0 ≤ x.f1 ∧ x.f1 ≤ 255) by omega)]
        simp
      rw [if_neg z2]
      rw [decide_eq_true (show 0 ≤ x.f1 ∧ x.f1 ≤ 255 by omega)]
      simp only [Bool.true_and]
      rfl
    rw [e, List.drop_eq_getElem_cons ha, List.all_cons]
    cases hb : noteB N[i.toNat]
    · simp
    · rw [if_pos rfl, wrap64_id (by omega) (by omega), hx, show (i + 1).toNat = i.toNat + 1 by omega]
      simp
theorem may_l1 (F : List S124) (D : List S102) (N : List S122) (hD : D.length ≤ 64) (hN : N.length ≤ 64) : ∀ (d : Nat) (k : Nat) (i : Int), 0 ≤ i → i + d = D.length → d + 300 < k →
    spliceref09_May.l1 k i F D N = some ((D.drop i.toNat).all dataB && N.all noteB) := by
  intro d
  induction d with
  | zero =>
    intro k i h0 h1 hk
    obtain ⟨k, rfl⟩ : ∃ m, k = m + 1 := ⟨k - 1, by omega⟩
    simp only [spliceref09_May.l1]
    rw [if_neg (by omega), List.drop_eq_nil_of_le (by omega), may_l2 F D N hN N.length k 0 (by omega) (by omega) (by omega)]
    rfl
  | succ d ih =>
    intro k i h0 h1 hk
    obtain ⟨k, rfl⟩ : ∃ m, k = m + 1 := ⟨k - 1, by omega⟩
    have ha : i.toNat < D.length := by omega
    have hx := ih k (i + 1) (by omega) (by omega) (by omega)
    have ra : rd_T102 D i = D[i.toNat] := by unfold rd_T102; rw [List.getD_eq_getElem?_getD, List.getElem?_eq_getElem ha]; rfl
    have e : spliceref09_May.l1 (k + 1) i F D N = if dataB D[i.toNat] = true then spliceref09_May.l1 k (wrap64 (i + 1)) F D N else some false := by
      simp only [spliceref09_May.l1]
      rw [if_pos (show i < (D.length : Int) by omega), if_pos h0, ra]
      generalize spliceref09_May.l1 k (wrap64 (i + 1)) F D N = R
      generalize D[i.toNat] = x
      rw [rnamed_q _ k (by omega), Option.bind_some]
      unfold dataB
      cases z0 : namedB x.f0
      · simp
      rw [if_pos rfl]
      by_cases z1 : x.f1 < 1
      · rw [if_pos z1, decide_eq_false (show ¬ (1 ≤ x.f1 ∧ x.f1 ≤ 255) by omega)]
        simp
      rw [if_neg z1]
      by_cases z2 : x.f1 > 255
      · rw [if_pos z2, decide_eq_false (show ¬ (1 ≤ x.f1 ∧ x.f1 ≤ 255) by omega)]
        simp
      rw [if_neg z2]
      by_cases z3 : x.f2 < 0
      · rw [if_pos z3, decide_eq_false (show ¬ (0 ≤ x.f2 ∧ x.f2 ≤ 255) by omega)]
        simp
      rw [if_neg z3]
      by_cases z4 : x.f2 > 255
      · rw [if_pos z4, decide_eq_false (show ¬ (0 ≤ x.f2 ∧ x.f2 ≤ 255) by omega)]
        simp
      rw [if_neg z4]
      by_cases z5 : x.f4 < 0
      · rw [if_pos z5, decide_eq_false (show ¬ (0 ≤ x.f4 ∧ x.f4 ≤ 65535) by omega)]
        simp
      rw [if_neg z5]
      by_cases z6 : x.f4 > 65535
      · rw [if_pos z6, decide_eq_false (show ¬ (0 ≤ x.f4 ∧ x.f4 ≤ 65535) by omega)]
        simp
      rw [if_neg z6]
      by_cases z7 : (x.f5.length : Int) > 4096
      · rw [if_pos z7, decide_eq_false (show ¬ (x.f5.length ≤ 4096) by omega)]
        simp
      rw [if_neg z7]
      rw [decide_eq_true (show 1 ≤ x.f1 ∧ x.f1 ≤ 255 by omega), decide_eq_true (show 0 ≤ x.f2 ∧ x.f2 ≤ 255 by omega), decide_eq_true (show 0 ≤ x.f4 ∧ x.f4 ≤ 65535 by omega), decide_eq_true (show x.f5.length ≤ 4096 by omega)]
      simp only [Bool.true_and]
      rw [rrels_q _ k (by omega), Option.bind_some]
    rw [e, List.drop_eq_getElem_cons ha, List.all_cons]
    cases hb : dataB D[i.toNat]
    · simp
    · rw [if_pos rfl, wrap64_id (by omega) (by omega), hx, show (i + 1).toNat = i.toNat + 1 by omega]
      simp
theorem may_l0 (F : List S124) (D : List S102) (N : List S122) (hF : F.length ≤ 64) (hD : D.length ≤ 64) (hN : N.length ≤ 64) : ∀ (d : Nat) (k : Nat) (i : Int), 0 ≤ i → i + d = F.length → d + 400 < k →
    spliceref09_May.l0 k i F D N = some ((F.drop i.toNat).all funcB && (D.all dataB && N.all noteB)) := by
  intro d
  induction d with
  | zero =>
    intro k i h0 h1 hk
    obtain ⟨k, rfl⟩ : ∃ m, k = m + 1 := ⟨k - 1, by omega⟩
    simp only [spliceref09_May.l0]
    rw [if_neg (by omega), List.drop_eq_nil_of_le (by omega), may_l1 F D N hD hN D.length k 0 (by omega) (by omega) (by omega)]
    rfl
  | succ d ih =>
    intro k i h0 h1 hk
    obtain ⟨k, rfl⟩ : ∃ m, k = m + 1 := ⟨k - 1, by omega⟩
    have ha : i.toNat < F.length := by omega
    have hx := ih k (i + 1) (by omega) (by omega) (by omega)
    have ra : rd_T124 F i = F[i.toNat] := by unfold rd_T124; rw [List.getD_eq_getElem?_getD, List.getElem?_eq_getElem ha]; rfl
    have e : spliceref09_May.l0 (k + 1) i F D N = if funcB F[i.toNat] = true then spliceref09_May.l0 k (wrap64 (i + 1)) F D N else some false := by
      simp only [spliceref09_May.l0]
      rw [if_pos (show i < (F.length : Int) by omega), if_pos h0, ra]
      generalize spliceref09_May.l0 k (wrap64 (i + 1)) F D N = R
      generalize F[i.toNat] = x
      rw [rnamed_q _ k (by omega), Option.bind_some]
      unfold funcB
      cases z0 : namedB x.f0
      · simp
      rw [if_pos rfl]
      by_cases z1 : x.f1 < 1
      · rw [if_pos z1, decide_eq_false (show ¬ (1 ≤ x.f1 ∧ x.f1 ≤ 255) by omega)]
        simp
      rw [if_neg z1]
      by_cases z2 : x.f1 > 255
      · rw [if_pos z2, decide_eq_false (show ¬ (1 ≤ x.f1 ∧ x.f1 ≤ 255) by omega)]
        simp
      rw [if_neg z2]
      by_cases z3 : (x.f2.length : Int) > 2000
      · rw [if_pos z3, decide_eq_false (show ¬ (x.f2.length ≤ 2000) by omega)]
        simp
      rw [if_neg z3]
      rw [decide_eq_true (show 1 ≤ x.f1 ∧ x.f1 ≤ 255 by omega), decide_eq_true (show x.f2.length ≤ 2000 by omega)]
      simp only [Bool.true_and]
      rw [rrels_q _ k (by omega), Option.bind_some]
    rw [e, List.drop_eq_getElem_cons ha, List.all_cons]
    cases hb : funcB F[i.toNat]
    · simp
    · rw [if_pos rfl, wrap64_id (by omega) (by omega), hx, show (i + 1).toNat = i.toNat + 1 by omega]
      simp
theorem may_q (F : List S124) (D : List S102) (N : List S122) : spliceref09_May.f 1000 F D N = some (objB F D N) := by
  unfold spliceref09_May.f objB all124B all102B all122B
  by_cases a : F.length ≤ 64
  · rw [if_neg (by omega)]
    by_cases b : D.length ≤ 64
    · rw [if_neg (by omega)]
      by_cases c : N.length ≤ 64
      · simp only [spliceref09_May.j0]
        rw [if_neg (by rw [decide_eq_false (by omega)]; decide), may_l0 F D N a b c F.length 999 0 (by omega) (by omega) (by omega), decide_eq_true a, decide_eq_true b, decide_eq_true c]
        rfl
      · simp only [spliceref09_May.j0]
        rw [if_pos (decide_eq_true (by omega)), decide_eq_false c]
        simp
    · rw [if_pos (by omega), decide_eq_false b]
      simp [spliceref09_May.j0]
  · rw [if_pos (by omega), decide_eq_false a]
    simp [spliceref09_May.j0]
theorem may9_c (A0 A1 A2 : Option Addr) (c0 c1 c2 : Nat) (F : List S124) (D : List S102) (N : List S122) (w : World) (h : CO w A0 A1 A2 c0 c1 c2 F D N) :
    Calls Try.prog 71 #[.agg #[.slice A0 F.length c0, .slice A1 D.length c1, .slice A2 N.length c2]] w fun e w' => e = .returned (.bool (objB F D N)) ∧ Below w.heap.size w w' :=
  spliceref09_May.calls 1000 A0 c0 F A1 c1 D A2 c2 N (objB F D N) w h.f h.lf h.d h.ld h.n h.ln (may_q F D N)
end Go.Proofs.Ytmcfihpbiilbcaa.H
end
section
namespace Go.Proofs.Ytmcfihpbiilbcaa.H
open Go.RowKit Go.Proofs.YtmcfihpbiilbcaaW.PrintWords Go.Proofs.YtmcfihpbiilbcaaW.PrintLast Go.Proofs.YtmcfihpbiilbcaaW.PrintMore Go.Proofs.Ytmcfihpbiilbcaa.E
set_option linter.unusedVariables false
set_option linter.unusedSimpArgs false
theorem power32 : spliceref01_Power.f 40 32 = some 4294967296 := by decide +kernel
theorem cut32 (n : Int) (h0 : 0 ≤ n) : spliceref01_Cut.f 41 n 32 = some (n % 4294967296) := by
  unfold spliceref01_Cut.f
  rw [if_neg (by decide), decide_eq_false (by decide)]
  simp only [spliceref01_Cut.j0]
  rw [if_neg (by decide), power32, Option.bind_some]
  unfold spliceref01_Mod.f
  rw [if_neg (by decide), Int.tmod_eq_emod_of_nonneg h0, if_neg (by omega), Option.bind_some]
  congr 1
  omega
theorem rnum_c (n sz : Int) (h0 : 0 ≤ n) (s0 : 0 < sz) (s1 : sz ≤ 4) (w : World) :
    Calls Try.prog 110 #[.int .i64 n, .int .i64 sz] w fun e w' => ∃ A c, e = .returned (.slice (some A) (putS n sz).length c) ∧ (putS n sz).length ≤ c ∧ CB w' (some A) (putS n sz) ∧ Below w.heap.size w w' := by
  have hq : spliceref09_num.f 41 n sz = some (putS n sz) := by
    unfold spliceref09_num.f
    rw [cut32 n h0, Option.bind_some, refPut_eq _ (by omega) (by omega), Option.bind_some, if_pos (by omega), if_pos (by show sz ≤ ((4 : Nat) : Int); omega)]
    rfl
  refine (spliceref09_num.calls 41 n sz _ w hq).mono ?_
  rintro e w' ⟨v, rfl, hR, hb⟩
  obtain ⟨A, c, rfl, hc, hC⟩ := Kd.R_reads hR
  have hl := putS_len n sz (by omega) s1
  obtain ⟨ad, rfl⟩ := C_some hC (by omega)
  exact ⟨ad, c, rfl, hc, hC, hb⟩
theorem CB_one (w : World) (m : Int) : CB (w.alloc (.cells #[.int .u8 m] 5)) (some ⟨w.heap.size, 0, none⟩) [m] :=
  C_block (blk_new w (.cells #[.int .u8 m] 5)) (by simp) (fun j p h => by match j, h with | 0, h => simp at h ⊢; exact h | j + 1, h => simp at h)
theorem name_start (nm : ByteArray) (w : World) (hs : nm.size ≤ 32) :
    let Y := w.alloc (.cells #[.int .u8 nm.size] 5)
    let Z := Lib.bytesWorld Y 5 nm
    RB Z w.heap.size (.slice (some ⟨w.heap.size, 0, none⟩) 1 1) [(nm.size : Int)] ∧ CB Z (some ⟨w.heap.size + 1, 0, none⟩) (bytesOf nm) ∧ Below w.heap.size w Z := by
  intro Y Z
  have hY : Y.heap.size = w.heap.size + 1 := by simp [Y]
  have hb1 : Below w.heap.size w Y := below_alloc (Below.refl _ _) _
  have hZ : Below Y.heap.size Y Z := bytes_below (Below.refl _ _) (Nat.le_refl _) 5 nm
  have hlen := bytesOf_length nm
  refine ⟨Kd.R_below (R_one w (nm.size : Int)) hZ, ?_, below_step hb1 hZ⟩
  have := Kd.C_of_reads (enc := Value.int .u8) (d := (0 : Int)) (h1 := fun _ => rfl) (bytes_reads Y 5 nm (by omega))
  rw [hY] at this
  show Kd.C (Kd.int .u8) _ _ (bytesOf nm).length (bytesOf nm)
  rw [hlen]
  exact this
set_option maxRecDepth 100000 in
set_option maxHeartbeats 1000000 in
theorem rname_c (nm : ByteArray) (hn : namedB nm = true) (w : World) :
    Calls Try.prog 111 #[.string nm] w fun e w' => ∃ v, e = .returned v ∧ RB w' w.heap.size v (nmT nm) ∧ Below w.heap.size w w' := by
  have kb := fun W => print_bytes (P := Try.prog) 9 22 5 Try.underlying9 Try.underlying22 Try.underlying5 nm W
  have g2 := (nmT_len hn).2
  have hlen := bytesOf_length nm
  have hnm : nmT nm = [(nm.size : Int)] ++ bytesOf nm := by
    unfold nmT
    rw [show (nm.size : Int) % 256 = nm.size by omega]
    rfl
  obtain ⟨NB, hNB⟩ : ∃ NB, NB = bytesOf nm := ⟨_, rfl⟩
  have hst := name_start nm w g2
  simp only at hst
  rw [← hNB] at hlen hst hnm
  have HS := hid hst
  have HLn := hid hlen
  have HNM := hid hnm
  have hl1 : ([(nm.size : Int)] : List Int).length + NB.length ≤ 140737488355328 := by rw [hlen]; simp; omega
  have HL1 := hid hl1
  have e1 : IntKind.u8.wrap (nm.size : Int) = (nm.size : Int) := by rw [IntKind.wrap_u8]; omega
  clear hlen hNB hst hl1 hn hnm
  go_enter Try.func111, Try.ntmps111
  go_wp2_with (at_builtin; refine app_c (w0 := w) w.heap.size rfl (.tmp 6) (.tmp 8) rfl _ [(nm.size : Int)] NB (some ⟨w.heap.size + 1, 0, none⟩) _ rfl (by rw [HLn.out]; rfl) HS.out.1 HS.out.2.1 HS.out.2.2 HS.out.2.2.size HL1.out ?_; intro v1 w1 hr hb hg hat; have H1 := hid (And.intro hr hb); clear hr hb hg hat)
  go_ret
  refine ⟨_, rfl, ?_, H1.out.2⟩
  rw [HNM.out]
  exact H1.out.1
theorem sum_len {X Y Z : List Int} (h : X ++ Y = Z) : Z.length = X.length + Y.length := by rw [← h, List.length_append]
set_option maxRecDepth 100000 in
set_option maxHeartbeats 4000000 in
theorem rputRels_c (W0 w : World) (v : Value) (O : List Int) (P : Option Addr) (p : Nat) (l : List S153) (hC : Kd.C k153 W0 P l.length l) (hR : RB w W0.heap.size v O) (hB : Below W0.heap.size W0 w) (hl : relsB l = true) (hO : O.length ≤ 1000000000) :
    Calls Try.prog 112 #[v, .slice P l.length p] w fun e w' => ∃ v', e = .returned v' ∧ RB w' W0.heap.size v' (O ++ relsS l) ∧ Below W0.heap.size W0 w' := by
  obtain ⟨hll, hlr⟩ := relsB_spec hl
  have HC := hid hC
  have HR := hid hR
  have HB := hid hB
  have HLR := hid hlr
  have hz := hB.size
  clear hC hR hB hlr hl
  go_enter Try.func112, Try.ntmps112
  go_wp2_with fail
  refine (rnum_c (l.length : Int) 2 (by omega) (by omega) (by omega) _).mono ?_
  rintro e w1 ⟨A1, c1, rfl, hc1, hC1, hb⟩
  have H1 := hid (And.intro (Kd.R_below HR.out hb) (And.intro hC1 (below_step HB.out hb)))
  have HL1 := hid (show O.length + (putS (l.length : Int) 2).length ≤ 140737488355328 from by rw [putS2_len']; omega)
  obtain ⟨O0, hO0⟩ : ∃ Z, O ++ putS (l.length : Int) 2 = Z := ⟨_, rfl⟩
  have hO0l := sum_len hO0
  rw [putS2_len'] at hO0l
  have hr0 : O0 = O ++ rP l 0 := by rw [← hO0]; unfold rP; simp
  have HR0 := hid hr0
  have HO0 := hid hO0
  have hOO : O0.length ≤ 1000000002 := by omega
  clear hb hC1 hO0 hr0 hO0l
  go_wp2_with (at_builtin; refine app_c (w0 := W0) W0.heap.size rfl (.tmp 6) (.tmp 9) rfl _ O (putS (l.length : Int) 2) (some A1) c1 rfl rfl H1.out.1 H1.out.2.1 H1.out.2.2 (H1.out.2.2).size HL1.out ?_; intro v2 w2 hr hb hg hat; rw [HO0.out] at hr; have H2 := hid (And.intro hr hb); clear hr hb hg hat)
  go_loopw [0, 5] (fun s0 s5 wx => ∃ (k : Nat), k ≤ l.length ∧ s5 = .int .i64 k ∧ Hid (RB wx W0.heap.size s0 (O ++ rP l k) ∧ Below W0.heap.size W0 wx)) (fun _ s5 _ => l.length - (intOf s5).toNat)
  case atStart => exact ⟨0, by omega, rfl, hid ⟨by rw [← HR0.out]; exact H2.out.1, H2.out.2⟩⟩
  case round =>
    obtain ⟨k, hk, rfl, hI⟩ := hrel
    by_cases hlt : (k : Int) < (l.length : Int)
    · have hk1 : k < l.length := by omega
      obtain ⟨ad, rfl, q0, q1, q2, q3⟩ := at_T153 HC.out (k : Int) (by omega) (by omega)
      have rx : rd_T153 l (k : Int) = l[k] := by unfold rd_T153; rw [Int.toNat_natCast, List.getD_eq_getElem?_getD, List.getElem?_eq_getElem hk1]; rfl
      have e3 : IntKind.i64.wrap ((k : Int) + 1) = (k : Int) + 1 := IntWalk.i64_in _ (by omega)
      have hst := rP_step l k hk1
      have hln := rP_len l HLR.out k hk
      have hxb := HLR.out _ (List.getElem_mem hk1)
      generalize rd_T153 l (k : Int) = x at *
      rw [← rx] at hst hxb
      simp only [Int.toNat_natCast] at q0 q1 q2 q3
      clear rx
      obtain ⟨x_0, x_1, x_2, x_3⟩ := x
      dsimp only at q0 q1 q2 q3
      obtain ⟨b0, b1, b2, b3⟩ := relB_spec hxb
      dsimp only at b0 b1 b2 b3
      have hfact : ∀ W, Below W0.heap.size W0 W → W.cell? (ad.add (k * 4)) = some (.int .i64 x_0) ∧ W.cell? ⟨(ad.add (k * 4)).block, (ad.add (k * 4)).off + 1, none⟩ = some (.int .i64 x_1) ∧ W.cell? ⟨(ad.add (k * 4)).block, (ad.add (k * 4)).off + 2, none⟩ = some (.string x_2) ∧ W.cell? ⟨(ad.add (k * 4)).block, (ad.add (k * 4)).off + 3, none⟩ = some (.int .i64 x_3) :=
        fun W hb => ⟨(hb.cell (World.block_lt_of_cell? _ _ q0)).trans q0, (hb.cell (World.block_lt_of_cell? _ _ q1)).trans q1, (hb.cell (World.block_lt_of_cell? _ _ q2)).trans q2, (hb.cell (World.block_lt_of_cell? _ _ q3)).trans q3⟩
      have HF := hid hfact
      obtain ⟨q0_, q1_, q2_, q3_⟩ := hfact wr hI.out.2
      obtain ⟨Ok, hOk⟩ : ∃ Z, O ++ rP l k = Z := ⟨_, rfl⟩
      have hOkl := sum_len hOk
      have hR := hI.out.1
      rw [hOk] at hR
      obtain ⟨O1, h1⟩ : ∃ Z, Ok ++ putS x_0 2 = Z := ⟨_, rfl⟩
      obtain ⟨O2, h2⟩ : ∃ Z, O1 ++ [x_1] = Z := ⟨_, rfl⟩
      obtain ⟨O3, h3⟩ : ∃ Z, O2 ++ nmT x_2 = Z := ⟨_, rfl⟩
      obtain ⟨O4, h4⟩ : ∃ Z, O3 ++ putS (x_3 + 2147483648) 4 = Z := ⟨_, rfl⟩
      have g1 := sum_len h1
      have g2 := sum_len h2
      have g3 := sum_len h3
      rw [putS2_len'] at g1
      rw [List.length_singleton] at g2
      have hnl := (nmT_len b2).1
      have hend : O4 = O ++ rP l (k + 1) := by
        rw [hst, ← h4, ← h3, ← h2, ← h1, ← hOk]
        unfold relS
        rw [putS1_is b1.1 b1.2]
        simp only [List.append_assoc]
      have HL1 := hid (show Ok.length + (putS x_0 2).length ≤ 140737488355328 from by rw [putS2_len']; omega)
      have HL2 := hid (show O1.length + [x_1].length ≤ 140737488355328 from by rw [List.length_singleton]; omega)
      have HL3 := hid (show O2.length + (nmT x_2).length ≤ 140737488355328 from by omega)
      have HL4 := hid (show O3.length + (putS (x_3 + 2147483648) 4).length ≤ 140737488355328 from by rw [putS4_len]; omega)
      have E1 := hid h1
      have E2 := hid h2
      have E3 := hid h3
      have E4 := hid h4
      have HE := hid hend
      have e4 : IntKind.i64.wrap (x_3 + 2147483648) = x_3 + 2147483648 := IntWalk.i64_in _ (by omega)
      have e5 : IntKind.u8.wrap x_1 = x_1 := by rw [IntKind.wrap_u8]; omega
      have HR3 := hid (And.intro hR hI.out.2)
      have HN := hid b2
      clear hst hln hxb hfact q0 q1 q2 q3 hOk hOkl hR h1 h2 h3 h4 g1 g2 g3 hnl hend hI b2
      go_wp2_with fail
      refine (rnum_c x_0 2 (by omega) (by omega) (by omega) _).mono ?_
      rintro e w3 ⟨A3, c3, rfl, hc3, hC3, hb⟩
      have H3 := hid (And.intro (Kd.R_below HR3.out.1 hb) (And.intro hC3 (below_step HR3.out.2 hb)))
      clear hb hC3 q0_ q1_ q2_ q3_ HR3
      go_wp2_with (first | (at_builtin; refine app_c (w0 := W0) W0.heap.size rfl (.tmp 17) (.tmp 23) rfl _ Ok (putS x_0 2) (some A3) c3 rfl rfl H3.out.1 H3.out.2.1 H3.out.2.2 (H3.out.2.2).size HL1.out ?_; intro v4 w4 hr hb hg hat; rw [E1.out] at hr; have H4 := hid (And.intro hr hb); clear hr hb hg hat; obtain ⟨q0_, q1_, q2_, q3_⟩ := HF.out w4 H4.out.2) | (at_builtin; refine app_c (w0 := W0) W0.heap.size rfl (.tmp 25) (.tmp 32) rfl _ O1 ([x_1]) (some ⟨w4.heap.size, 0, none⟩) 1 rfl rfl (Kd.R_alloc H4.out.1 _) (CB_one w4 x_1) (below_alloc H4.out.2 _) ((below_alloc H4.out.2 _)).size HL2.out ?_; intro v5 w5 hr hb hg hat; rw [E2.out] at hr; have H5 := hid (And.intro hr hb); clear hr hb hg hat; clear q0_ q1_ q2_ q3_; obtain ⟨q0_, q1_, q2_, q3_⟩ := HF.out w5 H5.out.2))
      refine (rname_c x_2 HN.out _).mono ?_
      rintro e w6 ⟨v, rfl, hR, hb⟩
      obtain ⟨A6, c6, rfl, hc6, hC6⟩ := Kd.R_reads hR
      have H6 := hid (And.intro (Kd.R_below H5.out.1 hb) (And.intro hC6 (below_step H5.out.2 hb)))
      clear hb hR hC6 q0_ q1_ q2_ q3_
      go_wp2_with (at_builtin; refine app_c (w0 := W0) W0.heap.size rfl (.tmp 34) (.tmp 40) rfl _ O2 (nmT x_2) A6 c6 rfl rfl H6.out.1 H6.out.2.1 H6.out.2.2 (H6.out.2.2).size HL3.out ?_; intro v7 w7 hr hb hg hat; rw [E3.out] at hr; have H7 := hid (And.intro hr hb); clear hr hb hg hat; obtain ⟨q0_, q1_, q2_, q3_⟩ := HF.out w7 H7.out.2)
      refine (rnum_c (x_3 + 2147483648) 4 (by omega) (by omega) (by omega) _).mono ?_
      rintro e w8 ⟨A8, c8, rfl, hc8, hC8, hb⟩
      have H8 := hid (And.intro (Kd.R_below H7.out.1 hb) (And.intro hC8 (below_step H7.out.2 hb)))
      clear hb hC8 q0_ q1_ q2_ q3_
      go_wp2_with (at_builtin; refine app_c (w0 := W0) W0.heap.size rfl (.tmp 42) (.tmp 49) rfl _ O3 (putS (x_3 + 2147483648) 4) (some A8) c8 rfl rfl H8.out.1 H8.out.2.1 H8.out.2.2 (H8.out.2.2).size HL4.out ?_; intro v9 w9 hr hb hg hat; rw [E4.out] at hr; have H9 := hid (And.intro hr hb); clear hr hb hg hat)
      go_roundw
      case rel => exact ⟨k + 1, by omega, by go_num, hid ⟨by rw [← HE.out]; exact H9.out.1, H9.out.2⟩⟩
      case measure => simp [intOf]; omega
    · have hkl : k = l.length := by omega
      subst hkl
      go_wp2
      go_ret
      exact ⟨_, rfl, hI.out.1, hI.out.2⟩
end Go.Proofs.Ytmcfihpbiilbcaa.H
end
section
namespace Go.Proofs.Ytmcfihpbiilbcaa.H
open Go.RowKit Go.Proofs.YtmcfihpbiilbcaaW.PrintWords Go.Proofs.YtmcfihpbiilbcaaW.PrintLast Go.Proofs.YtmcfihpbiilbcaaW.PrintMore Go.Proofs.Ytmcfihpbiilbcaa.E
set_option linter.unusedVariables false
set_option linter.unusedSimpArgs false
theorem CB_three (w : World) (a b c : Int) : CB (w.alloc (.cells #[.int .u8 a, .int .u8 b, .int .u8 c] 5)) (some ⟨w.heap.size, 0, none⟩) [a, b, c] :=
  C_block (blk_new w (.cells #[.int .u8 a, .int .u8 b, .int .u8 c] 5)) (by simp) (fun j p h => by match j, h with | 0, h => simp at h ⊢; exact h | 1, h => simp at h ⊢; exact h | 2, h => simp at h ⊢; exact h | j + 3, h => simp at h)
theorem keep_blk {w w1 : World} {g base t : Nat} {cells : Array Value} {v : Value} {xs : List Int} (h : w.heap[g]? = some (.cells cells t (0, 0))) (ht : (5 : Nat) ≠ t) (hR : RB w base v xs) (hg : w.grownBy w1 v.ownBlock) : w1.heap[g]? = some (.cells cells t (0, 0)) :=
  blk_grown h hg (fun e => by
    have h1 := Kd.R_types hR h (by simp only [Kd.int, Kd.scalar]; intro q hq; simp at hq; rw [hq]; exact ht)
    exact (h1.1 _ e.symm).2 rfl)
set_option maxRecDepth 100000 in
set_option maxHeartbeats 8000000 in
theorem rwrite_c (A0 A1 A2 : Option Addr) (c0 c1 c2 : Nat) (F : List S124) (D : List S102) (N : List S122) (w : World) (hC : CO w A0 A1 A2 c0 c1 c2 F D N) (hS : SS F D N) (hB : objB F D N = true) :
    Calls Try.prog 72 #[.agg #[.slice A0 F.length c0, .slice A1 D.length c1, .slice A2 N.length c2]] w fun e w' => ∃ v, e = .returned v ∧ RB w' w.heap.size v (objS F D N) ∧ Below w.heap.size w w' := by
  obtain ⟨g1, g2, g3⟩ := objB_spec hB
  obtain ⟨fl, fb⟩ := all124B_spec g1
  obtain ⟨dl, db⟩ := all102B_spec g2
  obtain ⟨nl, nb⟩ := all122B_spec g3
  obtain ⟨W1, hW1⟩ : ∃ W, W = w.alloc (.cells #[.slice A0 F.length c0, .slice A1 D.length c1, .slice A2 N.length c2] 91) := ⟨_, rfl⟩
  have bx0 := blk_new w (.cells #[.slice A0 F.length c0, .slice A1 D.length c1, .slice A2 N.length c2] 91)
  have hb1 := below_alloc (Below.refl w.heap.size w) (.cells #[.slice A0 F.length c0, .slice A1 D.length c1, .slice A2 N.length c2] 91)
  have kc := const_at (w.alloc (.cells #[.slice A0 F.length c0, .slice A1 D.length c1, .slice A2 N.length c2] 91)) (w.heap.size + 1) (by simp)
  rw [← hW1] at bx0 hb1
  have HW := hid hW1
  have hs1 : W1.heap.size = w.heap.size + 1 := by rw [hW1]; simp
  have HS1 := hid hs1
  have hfact : ∀ W, Below W1.heap.size W1 W → K3 W w.heap.size (.slice A0 F.length c0) (.slice A1 D.length c1) (.slice A2 N.length c2) := fun W hb => k3_of (blk_below bx0 hb)
  have HF := hid hfact
  have H0 := hid hb1
  have HA := hid (hC.below hb1)
  have HS := hid hS
  have HB := hid (And.intro fb (And.intro db nb))
  clear hfact bx0 hb1 hW1 hC hS g1 g2 g3 fb db nb hB hs1
  go_enter Try.func72, Try.ntmps72
  go_wp2_with fail
  rw [← HW.out]
  refine (rnum_c (F.length : Int) 2 (by omega) (by omega) (by omega) _).mono ?_
  rintro e w1 ⟨ad1, e1, rfl, hc1, hC1, hb⟩
  have hK : CB w1 (some ⟨w.heap.size + 1, 0, none⟩) [83, 80, 76, 49] := const_4 (blk_below (blk_new_at W1 (.cells #[.int .u8 83, .int .u8 80, .int .u8 76, .int .u8 49] 5 (4, 5)) (w.heap.size + 1) HS1.out) hb)
  have hb2 : Below W1.heap.size W1 w1 := below_step (below_alloc (Below.refl _ _) _) hb
  have H1 := hid (And.intro hK (And.intro hC1 hb2))
  clear hK hC1 hb hb2 kc
  obtain ⟨k0_, k1_, k2_⟩ := HF.out w1 H1.out.2.2
  go_wp2_with (at_builtin; refine grow_c rfl (.tmp 13) (.tmp 17) rfl ⟨w.heap.size + 1, 0, none⟩ ad1 [83, 80, 76, 49] (putS (F.length : Int) 2) e1 rfl rfl H1.out.1 H1.out.2.1 (by decide) (by rw [putS2_len']; decide) (by rw [putS2_len']; decide) ?_; intro v5 w5 hr hb; have H5 := hid (And.intro (Kd.R_lower hr H1.out.2.2.size) (below_step H1.out.2.2 hb)); clear hr hb)
  clear k0_ k1_ k2_
  obtain ⟨O0, hO0⟩ : ∃ O, [83, 80, 76, 49] ++ putS (F.length : Int) 2 = O := ⟨_, rfl⟩
  have hl0 : O0.length = 6 := by rw [← hO0]; rfl
  have hR5 := H5.out.1
  rw [hO0] at hR5
  have hz0 : O0 ++ upTo funcS F 0 = O0 := by simp [upTo]
  rw [← hz0] at hR5
  have H6 := hid (And.intro hR5 H5.out.2)
  have HO0 := hid hO0
  clear hz0 hR5 hO0 H5 H1
  go_loopw [3, 4, 5, 6] (fun s3 s4 _ _ wx => ∃ (k : Nat), k ≤ F.length ∧ s4 = .int .i64 k ∧ Hid (RB wx W1.heap.size s3 (O0 ++ upTo funcS F k) ∧ Below W1.heap.size W1 wx)) (fun _ s4 _ _ _ => F.length - (intOf s4).toNat)
  case atStart => exact ⟨0, by omega, rfl, hid ⟨H6.out.1, H6.out.2⟩⟩
  case round =>
    obtain ⟨k, hk, rfl, hI⟩ := hrel
    obtain ⟨Wo, hWo⟩ : ∃ W, W = wr := ⟨_, rfl⟩
    subst hWo
    obtain ⟨k0_, k1_, k2_⟩ := HF.out Wo hI.out.2
    by_cases hlt : (k : Int) < (F.length : Int)
    · have hk1 : k < F.length := by omega
      obtain ⟨ad, B2, d2, B3, d3, rfl, q0, q1, q2, q3, l2, g2, l3, g3⟩ := at_T124 HA.out.f (k : Int) (by omega) (by omega)
      have rx : rd_T124 F (k : Int) = F[k] := by unfold rd_T124; rw [Int.toNat_natCast, List.getD_eq_getElem?_getD, List.getElem?_eq_getElem hk1]; rfl
      have e3 : IntKind.i64.wrap ((k : Int) + 1) = (k : Int) + 1 := IntWalk.i64_in _ (by omega)
      have hst := upTo_step funcS F k hk1
      have hln := upTo_len funcS F (fun x hx => funcS_len (HB.out.1 x hx)) k hk
      have hmem := List.getElem_mem hk1
      have hxb := HB.out.1 _ hmem
      have hy := HS.out.w _ hmem
      generalize rd_T124 F (k : Int) = x at *
      rw [← rx] at hst hxb hy
      simp only [Int.toNat_natCast] at q0 q1 q2 q3
      clear rx hmem
      obtain ⟨x_0, x_1, x_2, x_3⟩ := x
      dsimp only at q0 q1 q2 q3 l2 g2 l3 g3 hy
      obtain ⟨b0, b1, b2, b3⟩ := funcB_spec hxb
      dsimp only at b0 b1 b2 b3
      replace q0 := (hI.out.2.cell (World.block_lt_of_cell? _ _ q0)).trans q0
      replace q1 := (hI.out.2.cell (World.block_lt_of_cell? _ _ q1)).trans q1
      replace q2 := (hI.out.2.cell (World.block_lt_of_cell? _ _ q2)).trans q2
      replace q3 := (hI.out.2.cell (World.block_lt_of_cell? _ _ q3)).trans q3
      have hnl := (nmT_len b0).1
      obtain ⟨O, hO⟩ : ∃ O, O0 ++ upTo funcS F k = O := ⟨_, rfl⟩
      have hOl := sum_len hO
      have hR := hI.out.1
      rw [hO] at hR
      obtain ⟨P1, hP1⟩ : ∃ Z, O ++ nmT x_0 = Z := ⟨_, rfl⟩
      have gP1 := sum_len hP1
      obtain ⟨P2, hP2⟩ : ∃ Z, P1 ++ [x_1] = Z := ⟨_, rfl⟩
      have gP2 := sum_len hP2
      rw [List.length_singleton] at gP2
      obtain ⟨P3, hP3⟩ : ∃ Z, P2 ++ putS (x_2.length : Int) 2 = Z := ⟨_, rfl⟩
      have gP3 := sum_len hP3
      rw [putS2_len'] at gP3
      have hP3x : P3 = O ++ fH ⟨x_0, x_1, x_2, x_3⟩ := by
        rw [← hP3, ← hP2, ← hP1]
        unfold fH
        rw [putS1_is (by omega) b1.2]
        simp only [List.append_assoc]
      have hend : (P3 ++ cP x_2 x_2.length) ++ relsS x_3 = O0 ++ upTo funcS F (k + 1) := by
        rw [hP3x, hst, ← hO]
        unfold funcS
        simp only [List.append_assoc]
      have hPl : P3.length ≤ 800000 := by omega
      have HE := hid hend
      have HR := hid (And.intro hR hI.out.2)
      have HG := hid (And.intro g2 g3)
      have HY := hid hy
      have HN := hid b0
      have HRB := hid b3
      have e5 : IntKind.u8.wrap x_1 = x_1 := by rw [IntKind.wrap_u8]; omega
      clear hst hln hxb hy hO hR hend hI g2 g3 b0 b3 hP3x
      have LP1 := hid (show O.length + (nmT x_0).length ≤ 140737488355328 from by omega)
      have EP1 := hid hP1
      have LP2 := hid (show P1.length + ([x_1]).length ≤ 140737488355328 from by rw [List.length_singleton]; omega)
      have EP2 := hid hP2
      have LP3 := hid (show P2.length + (putS (x_2.length : Int) 2).length ≤ 140737488355328 from by rw [putS2_len']; omega)
      have EP3 := hid hP3
      clear hP1 gP1 hP2 gP2 hP3 gP3
      go_wp2_with fail
      refine (rname_c x_0 HN.out _).mono ?_
      rintro e w3 ⟨v, rfl, hR, hb⟩
      obtain ⟨A3, c3, rfl, hc3, hC3⟩ := Kd.R_reads hR
      have hBn := below_alloc (Below.refl Wo.heap.size Wo) (.cells #[.string x_0, .int .i64 x_1, .slice B2 x_2.length d2, .slice B3 x_3.length d3] 124)
      have nf := blk_below (blk_new Wo (.cells #[.string x_0, .int .i64 x_1, .slice B2 x_2.length d2, .slice B3 x_3.length d3] 124)) hb
      have hRO := Kd.R_below (Kd.R_below HR.out.1 hBn) hb
      have H3 := hid (And.intro hRO (And.intro hC3 (And.intro (below_step (below_step HR.out.2 hBn) hb) nf)))
      have f1_ : w3.cell? ⟨Wo.heap.size, 1, none⟩ = some (.int .i64 x_1) := blk_cell nf 1
      clear hR hb hC3 nf hRO hBn q0 q1 q2 q3 k0_ k1_ k2_ HR
      go_wp2_with (first | (at_builtin; refine app_c (w0 := W1) W1.heap.size rfl (.tmp 31) (.tmp 34) rfl _ O (nmT x_0) A3 c3 rfl rfl H3.out.1 H3.out.2.1 H3.out.2.2.1 (H3.out.2.2.1).size LP1.out ?_; intro v4 w4 hr hb hg hat; have hN := keep_blk H3.out.2.2.2 (by decide) H3.out.1 hg; rw [EP1.out] at hr; have H4 := hid (And.intro hr (And.intro hb hN)); clear hr hb hg hat hN; clear f1_; have f1_ : w4.cell? ⟨Wo.heap.size, 1, none⟩ = some (.int .i64 x_1) := blk_cell H4.out.2.2 1) | (at_builtin; refine app_c (w0 := W1) W1.heap.size rfl (.tmp 36) (.tmp 40) rfl _ P1 ([x_1]) (some ⟨w4.heap.size, 0, none⟩) 1 rfl rfl (Kd.R_alloc H4.out.1 _) (CB_one w4 x_1) (below_alloc H4.out.2.1 _) ((below_alloc H4.out.2.1 _)).size LP2.out ?_; intro v5 w5 hr hb hg hat; have hN := keep_blk (blk_alloc H4.out.2.2 _) (by decide) (Kd.R_alloc H4.out.1 _) hg; rw [EP2.out] at hr; have H5 := hid (And.intro hr (And.intro hb hN)); clear hr hb hg hat hN; clear f1_; have f2_ : w5.cell? ⟨Wo.heap.size, 2, none⟩ = some (.slice B2 x_2.length d2) := blk_cell H5.out.2.2 2))
      refine (rnum_c (x_2.length : Int) 2 (by omega) (by omega) (by omega) _).mono ?_
      rintro e w6 ⟨A6, c6, rfl, hc6, hC6, hb⟩
      have H6b := hid (And.intro (Kd.R_below H5.out.1 hb) (And.intro hC6 (And.intro (below_step H5.out.2.1 hb) (blk_below H5.out.2.2 hb))))
      clear hb hC6 f2_
      go_wp2_with (at_builtin; refine app_c (w0 := W1) W1.heap.size rfl (.tmp 42) (.tmp 46) rfl _ P2 (putS (x_2.length : Int) 2) (some A6) c6 rfl rfl H6b.out.1 H6b.out.2.1 H6b.out.2.2.1 (H6b.out.2.2.1).size LP3.out ?_; intro v7 w7 hr hb hg hat; have hN := keep_blk H6b.out.2.2.2 (by decide) H6b.out.1 hg; rw [EP3.out] at hr; have H7 := hid (And.intro hr (And.intro hb hN)); clear hr hb hg hat hN)
      have hz7 : P3 = P3 ++ cP x_2 0 := by unfold cP; simp
      have HZ7 := hid hz7
      clear hz7
      go_loopw [3, 6] (fun s3 s6 wx => ∃ (j : Nat), j ≤ x_2.length ∧ s6 = .int .i64 j ∧ Hid (RB wx W1.heap.size s3 (P3 ++ cP x_2 j) ∧ Below W1.heap.size W1 wx ∧ wx.heap[Wo.heap.size]? = some (.cells #[.string x_0, .int .i64 x_1, .slice B2 x_2.length d2, .slice B3 x_3.length d3] 124 (0, 0)))) (fun _ s6 _ => x_2.length - (intOf s6).toNat)
      case atStart => exact ⟨0, by omega, rfl, hid ⟨by rw [← HZ7.out]; exact H7.out.1, H7.out.2.1, H7.out.2.2⟩⟩
      case round =>
        obtain ⟨j, hj, rfl, hI⟩ := hrel
        have f2_ : wr.cell? ⟨Wo.heap.size, 2, none⟩ = some (.slice B2 x_2.length d2) := blk_cell hI.out.2.2 2
        have f3_ : wr.cell? ⟨Wo.heap.size, 3, none⟩ = some (.slice B3 x_3.length d3) := blk_cell hI.out.2.2 3
        by_cases hlt : (j : Int) < (x_2.length : Int)
        · have hj1 : j < x_2.length := by omega
          obtain ⟨ad, rfl, q0⟩ := wordAt HG.out.1 j hj1
          have hst := cP_step x_2 j hj1
          have hln := cP_len x_2 j hj
          have hyb := HY.out _ (List.getElem_mem hj1)
          obtain ⟨y, hy⟩ : ∃ y, x_2[j] = y := ⟨_, rfl⟩
          rw [hy] at q0 hst hyb
          replace q0 := (hI.out.2.1.cell (World.block_lt_of_cell? _ _ q0)).trans q0
          have e4 : IntKind.i64.wrap ((j : Int) + 1) = (j : Int) + 1 := IntWalk.i64_in _ (by omega)
          obtain ⟨Q, hQ⟩ : ∃ O, P3 ++ cP x_2 j = O := ⟨_, rfl⟩
          have hQl := sum_len hQ
          have hR := hI.out.1
          rw [hQ] at hR
          have hst2 : Q ++ putS y 4 = P3 ++ cP x_2 (j + 1) := by rw [← hQ, hst, List.append_assoc]
          have EQ := hid hst2
          have HRR := hid (And.intro hR hI.out.2)
          have LQ := hid (show Q.length + (putS y 4).length ≤ 140737488355328 from by rw [putS4_len]; omega)
          clear hst hln hy hQ hQl hR hst2 hI
          go_wp2_with fail
          refine (rput_c y hyb.1 hyb.2 _).mono ?_
          rintro e w8 ⟨A8, c8, rfl, hc8, hC8, hb⟩
          have H8 := hid (And.intro (Kd.R_below HRR.out.1 hb) (And.intro hC8 (And.intro (below_step HRR.out.2.1 hb) (blk_below HRR.out.2.2 hb))))
          clear hb hC8 f2_ f3_ q0
          go_wp2_with (at_builtin; refine app_c (w0 := W1) W1.heap.size rfl (.tmp 55) (.tmp 61) rfl _ Q (putS y 4) (some A8) c8 rfl rfl H8.out.1 H8.out.2.1 H8.out.2.2.1 (H8.out.2.2.1).size LQ.out ?_; intro v9 w9 hr hb hg hat; have hN := keep_blk H8.out.2.2.2 (by decide) H8.out.1 hg; rw [EQ.out] at hr; have H9 := hid (And.intro hr (And.intro hb hN)); clear hr hb hg hat hN)
          go_roundw
          case rel => exact ⟨j + 1, by omega, by go_num, H9⟩
          case measure => simp [intOf]; omega
        · have hkl : j = x_2.length := by omega
          subst hkl
          have hln := cP_len x_2 _ (Nat.le_refl x_2.length)
          go_wp2_with fail
          refine (rputRels_c W1 _ _ (P3 ++ cP x_2 x_2.length) B3 d3 x_3 HG.out.2 hI.out.1 hI.out.2.1 HRB.out (by rw [List.length_append]; omega)).mono ?_
          rintro e w8 ⟨v, rfl, hR, hb⟩
          rw [HE.out] at hR
          have H8 := hid (And.intro hR hb)
          clear hR hb f2_ f3_
          go_wp2
          go_roundw
          case rel => exact ⟨k + 1, by omega, by go_num, H8⟩
          case measure => simp [intOf]; omega
    · have hkl : k = F.length := by omega
      subst hkl
      have hln := upTo_len funcS F (fun x hx => funcS_len (HB.out.1 x hx)) _ (Nat.le_refl F.length)
      obtain ⟨O1, hO1⟩ : ∃ O, O0 ++ upTo funcS F F.length = O := ⟨_, rfl⟩
      have hR := hI.out.1
      rw [hO1] at hR
      have hO1l := sum_len hO1
      obtain ⟨O2, hO2⟩ : ∃ O, O1 ++ putS (D.length : Int) 2 = O := ⟨_, rfl⟩
      have hO2l := sum_len hO2
      rw [putS2_len'] at hO2l
      have hO2b : O2.length ≤ 690000 := by omega
      have LO := hid (show O1.length + (putS (D.length : Int) 2).length ≤ 140737488355328 from by rw [putS2_len']; omega)
      have HH := hid (And.intro hR hI.out.2)
      have HO1 := hid hO1
      have HO2 := hid hO2
      have hz : O2 = O2 ++ upTo dataS D 0 := by simp [upTo]
      have HZ := hid hz
      clear hR hI hO1 hO1l hO2 hO2l hln hz H6
      go_wp2_with fail
      refine (rnum_c (D.length : Int) 2 (by omega) (by omega) (by omega) _).mono ?_
      rintro e w2 ⟨A3, c3, rfl, hc3, hC3, hb⟩
      have H2 := hid (And.intro (Kd.R_below HH.out.1 hb) (And.intro hC3 (below_step HH.out.2 hb)))
      clear hb hC3 k0_ k1_ k2_ HH
      go_wp2_with (at_builtin; refine app_c (w0 := W1) W1.heap.size rfl (.tmp 67) (.tmp 71) rfl _ O1 (putS (D.length : Int) 2) (some A3) c3 rfl rfl H2.out.1 H2.out.2.1 H2.out.2.2 (H2.out.2.2).size LO.out ?_; intro v3 w3 hr hb hg hat; rw [HO2.out] at hr; have H3 := hid (And.intro hr hb); clear hr hb hg hat)
      go_loopw [3, 7, 8, 9] (fun s3 s7 _ _ wx => ∃ (k : Nat), k ≤ D.length ∧ s7 = .int .i64 k ∧ Hid (RB wx W1.heap.size s3 (O2 ++ upTo dataS D k) ∧ Below W1.heap.size W1 wx)) (fun _ s7 _ _ _ => D.length - (intOf s7).toNat)
      case atStart => exact ⟨0, by omega, rfl, hid ⟨by rw [← HZ.out]; exact H3.out.1, H3.out.2⟩⟩
      case round =>
        clear H3 H2 HZ
        obtain ⟨k, hk, rfl, hI⟩ := hrel
        obtain ⟨Wo, hWo⟩ : ∃ W, W = wr := ⟨_, rfl⟩
        subst hWo
        obtain ⟨k0_, k1_, k2_⟩ := HF.out Wo hI.out.2
        by_cases hlt : (k : Int) < (D.length : Int)
        · have hk1 : k < D.length := by omega
          obtain ⟨ad, B5, d5, B6, d6, rfl, q0, q1, q2, q3, q4, q5, q6, l5, g5, l6, g6⟩ := at_T102 HA.out.d (k : Int) (by omega) (by omega)
          have rx : rd_T102 D (k : Int) = D[k] := by unfold rd_T102; rw [Int.toNat_natCast, List.getD_eq_getElem?_getD, List.getElem?_eq_getElem hk1]; rfl
          have e3 : IntKind.i64.wrap ((k : Int) + 1) = (k : Int) + 1 := IntWalk.i64_in _ (by omega)
          have hst := upTo_step dataS D k hk1
          have hln := upTo_len dataS D (fun x hx => dataS_len (HB.out.2.1 x hx)) k hk
          have hxb := HB.out.2.1 _ (List.getElem_mem hk1)
          generalize rd_T102 D (k : Int) = x at *
          rw [← rx] at hst hxb
          simp only [Int.toNat_natCast] at q0 q1 q2 q3 q4 q5 q6
          clear rx
          obtain ⟨x_0, x_1, x_2, x_3, x_4, x_5, x_6⟩ := x
          dsimp only at q0 q1 q2 q3 q4 q5 q6 l5 g5 l6 g6
          obtain ⟨b0, b1, b2, b4, b5, b6⟩ := dataB_spec hxb
          dsimp only at b0 b1 b2 b4 b5 b6
          replace q0 := (hI.out.2.cell (World.block_lt_of_cell? _ _ q0)).trans q0
          replace q1 := (hI.out.2.cell (World.block_lt_of_cell? _ _ q1)).trans q1
          replace q2 := (hI.out.2.cell (World.block_lt_of_cell? _ _ q2)).trans q2
          replace q3 := (hI.out.2.cell (World.block_lt_of_cell? _ _ q3)).trans q3
          replace q4 := (hI.out.2.cell (World.block_lt_of_cell? _ _ q4)).trans q4
          replace q5 := (hI.out.2.cell (World.block_lt_of_cell? _ _ q5)).trans q5
          replace q6 := (hI.out.2.cell (World.block_lt_of_cell? _ _ q6)).trans q6
          have hnl := (nmT_len b0).1
          obtain ⟨O, hO⟩ : ∃ O, O2 ++ upTo dataS D k = O := ⟨_, rfl⟩
          have hOl := sum_len hO
          have hR := hI.out.1
          rw [hO] at hR
          have HR := hid (And.intro hR hI.out.2)
          have HG := hid (And.intro g5 g6)
          have HN := hid b0
          have HRB := hid b6
          have e5 : IntKind.u8.wrap x_1 = x_1 := by rw [IntKind.wrap_u8]; omega
          have e6 : IntKind.u8.wrap x_2 = x_2 := by rw [IntKind.wrap_u8]; omega
          clear hxb hR hI g5 g6 b0 b6
          cases x_3
          · obtain ⟨P1, hP1⟩ : ∃ Z, O ++ nmT x_0 = Z := ⟨_, rfl⟩
            have gP1 := sum_len hP1
            obtain ⟨P2, hP2⟩ : ∃ Z, P1 ++ [x_1, x_2, 0] = Z := ⟨_, rfl⟩
            have gP2 := sum_len hP2
            obtain ⟨P3, hP3⟩ : ∃ Z, P2 ++ putS x_4 2 = Z := ⟨_, rfl⟩
            have gP3 := sum_len hP3
            rw [putS2_len'] at gP3
            obtain ⟨P4, hP4⟩ : ∃ Z, P3 ++ putS (x_5.length : Int) 2 = Z := ⟨_, rfl⟩
            have gP4 := sum_len hP4
            rw [putS2_len'] at gP4
            obtain ⟨P5, hP5⟩ : ∃ Z, P4 ++ x_5 = Z := ⟨_, rfl⟩
            have gP5 := sum_len hP5
            have gp2 : ([x_1, x_2, 0] : List Int).length = 3 := rfl
            rw [gp2] at gP2
            have hend : P5 ++ relsS x_6 = O2 ++ upTo dataS D (k + 1) := by
              rw [hst, ← hP5, ← hP4, ← hP3, ← hP2, ← hP1, ← hO]
              unfold dataS
              rw [putS1_is (by omega) b1.2, putS1_is b2.1 b2.2]
              simp [putS, fourS]
            have hPl : P5.length ≤ 1600000 := by omega
            have HE := hid hend
            clear hst hO hend
            have LP1 := hid (show O.length + (nmT x_0).length ≤ 140737488355328 from by omega)
            have LP2 := hid (show P1.length + ([x_1, x_2, 0] : List Int).length ≤ 140737488355328 from by rw [gp2]; omega)
            have LP3 := hid (show P2.length + (putS x_4 2).length ≤ 140737488355328 from by rw [putS2_len']; omega)
            have LP4 := hid (show P3.length + (putS (x_5.length : Int) 2).length ≤ 140737488355328 from by rw [putS2_len']; omega)
            have LP5 := hid (show P4.length + x_5.length ≤ 140737488355328 from by omega)
            have EP1 := hid hP1
            have EP2 := hid hP2
            have EP3 := hid hP3
            have EP4 := hid hP4
            have EP5 := hid hP5
            clear hP1 hP2 hP3 hP4 hP5 gP1 gP2 gP3 gP4 gP5 gp2
            go_wp2_with fail
            refine (rname_c x_0 HN.out _).mono ?_
            rintro e w3 ⟨v, rfl, hR, hb⟩
            obtain ⟨A3, c3, rfl, hc3, hC3⟩ := Kd.R_reads hR
            have hBn := below_alloc (Below.refl Wo.heap.size Wo) (.cells #[.string x_0, .int .i64 x_1, .int .i64 x_2, .bool false, .int .i64 x_4, .slice B5 x_5.length d5, .slice B6 x_6.length d6] 102)
            have nf := blk_below (blk_new Wo (.cells #[.string x_0, .int .i64 x_1, .int .i64 x_2, .bool false, .int .i64 x_4, .slice B5 x_5.length d5, .slice B6 x_6.length d6] 102)) hb
            have hRO := Kd.R_below (Kd.R_below HR.out.1 hBn) hb
            have H3 := hid (And.intro hRO (And.intro hC3 (And.intro (below_step (below_step HR.out.2 hBn) hb) nf)))
            clear hR hb hC3 nf hRO hBn q0 q1 q2 q3 q4 q5 q6 k0_ k1_ k2_ HR
            go_wp2_with (first | (at_builtin; refine app_c (w0 := W1) W1.heap.size rfl (.tmp 85) (.tmp 88) rfl _ O (nmT x_0) A3 c3 rfl rfl H3.out.1 H3.out.2.1 H3.out.2.2.1 (H3.out.2.2.1).size LP1.out ?_; intro v4 w4 hr hb hg hat; have hN := keep_blk H3.out.2.2.2 (by decide) H3.out.1 hg; rw [EP1.out] at hr; have H4 := hid (And.intro hr (And.intro hb hN)); clear hr hb hg hat hN; have f1_ : w4.cell? ⟨Wo.heap.size, 1, none⟩ = some (.int .i64 x_1) := blk_cell H4.out.2.2 1; have f2_ : w4.cell? ⟨Wo.heap.size, 2, none⟩ = some (.int .i64 x_2) := blk_cell H4.out.2.2 2; have f3_ : w4.cell? ⟨Wo.heap.size, 3, none⟩ = some (.bool false) := blk_cell H4.out.2.2 3) | (at_builtin; refine app_c (w0 := W1) W1.heap.size rfl (.tmp 92) (.tmp 100) rfl _ P1 ([x_1, x_2, 0]) (some ⟨w4.heap.size, 0, none⟩) 3 rfl rfl (Kd.R_alloc H4.out.1 _) (CB_three w4 x_1 x_2 0) (below_alloc H4.out.2.1 _) ((below_alloc H4.out.2.1 _)).size LP2.out ?_; intro v5 w5 hr hb hg hat; have hN := keep_blk (blk_alloc H4.out.2.2 _) (by decide) (Kd.R_alloc H4.out.1 _) hg; rw [EP2.out] at hr; have H5 := hid (And.intro hr (And.intro hb hN)); clear hr hb hg hat hN; clear f1_ f2_ f3_; have f4_ : w5.cell? ⟨Wo.heap.size, 4, none⟩ = some (.int .i64 x_4) := blk_cell H5.out.2.2 4))
            refine (rnum_c x_4 2 (by omega) (by omega) (by omega) _).mono ?_
            rintro e w6 ⟨A6, c6, rfl, hc6, hC6, hb⟩
            have H6b := hid (And.intro (Kd.R_below H5.out.1 hb) (And.intro hC6 (And.intro (below_step H5.out.2.1 hb) (blk_below H5.out.2.2 hb))))
            clear hb hC6 f4_
            go_wp2_with (at_builtin; refine app_c (w0 := W1) W1.heap.size rfl (.tmp 102) (.tmp 105) rfl _ P2 (putS x_4 2) (some A6) c6 rfl rfl H6b.out.1 H6b.out.2.1 H6b.out.2.2.1 (H6b.out.2.2.1).size LP3.out ?_; intro v7 w7 hr hb hg hat; have hN := keep_blk H6b.out.2.2.2 (by decide) H6b.out.1 hg; rw [EP3.out] at hr; have H7 := hid (And.intro hr (And.intro hb hN)); clear hr hb hg hat hN; have f5_ : w7.cell? ⟨Wo.heap.size, 5, none⟩ = some (.slice B5 x_5.length d5) := blk_cell H7.out.2.2 5)
            refine (rnum_c (x_5.length : Int) 2 (by omega) (by omega) (by omega) _).mono ?_
            rintro e w8 ⟨A8, c8, rfl, hc8, hC8, hb⟩
            have H8 := hid (And.intro (Kd.R_below H7.out.1 hb) (And.intro hC8 (And.intro (below_step H7.out.2.1 hb) (blk_below H7.out.2.2 hb))))
            clear hb hC8 f5_
            go_wp2_with (first | (at_builtin; refine app_c (w0 := W1) W1.heap.size rfl (.tmp 107) (.tmp 111) rfl _ P3 (putS (x_5.length : Int) 2) (some A8) c8 rfl rfl H8.out.1 H8.out.2.1 H8.out.2.2.1 (H8.out.2.2.1).size LP4.out ?_; intro v9 w9 hr hb hg hat; have hN := keep_blk H8.out.2.2.2 (by decide) H8.out.1 hg; rw [EP4.out] at hr; have H9 := hid (And.intro hr (And.intro hb hN)); clear hr hb hg hat hN; have f5_ : w9.cell? ⟨Wo.heap.size, 5, none⟩ = some (.slice B5 x_5.length d5) := blk_cell H9.out.2.2 5) | (at_builtin; refine app_c (w0 := W1) W1.heap.size rfl (.tmp 113) (.tmp 115) rfl _ P4 (x_5) B5 d5 rfl rfl H9.out.1 (Kd.C_below HG.out.1 H9.out.2.1) H9.out.2.1 (H9.out.2.1).size LP5.out ?_; intro v10 w10 hr hb hg hat; have hN := keep_blk H9.out.2.2 (by decide) H9.out.1 hg; rw [EP5.out] at hr; have H10 := hid (And.intro hr (And.intro hb hN)); clear hr hb hg hat hN; clear f5_; have f6_ : w10.cell? ⟨Wo.heap.size, 6, none⟩ = some (.slice B6 x_6.length d6) := blk_cell H10.out.2.2 6))
            refine (rputRels_c W1 _ _ P5 B6 d6 x_6 HG.out.2 H10.out.1 H10.out.2.1 HRB.out (by omega)).mono ?_
            rintro e w11 ⟨v, rfl, hR, hb⟩
            rw [HE.out] at hR
            have H11 := hid (And.intro hR hb)
            clear hR hb f6_
            go_wp2
            go_roundw
            case rel => exact ⟨k + 1, by omega, by go_num, H11⟩
            case measure => simp [intOf]; omega
          · obtain ⟨P1, hP1⟩ : ∃ Z, O ++ nmT x_0 = Z := ⟨_, rfl⟩
            have gP1 := sum_len hP1
            obtain ⟨P2, hP2⟩ : ∃ Z, P1 ++ [x_1, x_2, 1] = Z := ⟨_, rfl⟩
            have gP2 := sum_len hP2
            obtain ⟨P3, hP3⟩ : ∃ Z, P2 ++ putS x_4 2 = Z := ⟨_, rfl⟩
            have gP3 := sum_len hP3
            rw [putS2_len'] at gP3
            obtain ⟨P4, hP4⟩ : ∃ Z, P3 ++ putS (x_5.length : Int) 2 = Z := ⟨_, rfl⟩
            have gP4 := sum_len hP4
            rw [putS2_len'] at gP4
            obtain ⟨P5, hP5⟩ : ∃ Z, P4 ++ x_5 = Z := ⟨_, rfl⟩
            have gP5 := sum_len hP5
            have gp2 : ([x_1, x_2, 1] : List Int).length = 3 := rfl
            rw [gp2] at gP2
            have hend : P5 ++ relsS x_6 = O2 ++ upTo dataS D (k + 1) := by
              rw [hst, ← hP5, ← hP4, ← hP3, ← hP2, ← hP1, ← hO]
              unfold dataS
              rw [putS1_is (by omega) b1.2, putS1_is b2.1 b2.2]
              simp [putS, fourS]
            have hPl : P5.length ≤ 1600000 := by omega
            have HE := hid hend
            clear hst hO hend
            have LP1 := hid (show O.length + (nmT x_0).length ≤ 140737488355328 from by omega)
            have LP2 := hid (show P1.length + ([x_1, x_2, 1] : List Int).length ≤ 140737488355328 from by rw [gp2]; omega)
            have LP3 := hid (show P2.length + (putS x_4 2).length ≤ 140737488355328 from by rw [putS2_len']; omega)
            have LP4 := hid (show P3.length + (putS (x_5.length : Int) 2).length ≤ 140737488355328 from by rw [putS2_len']; omega)
            have LP5 := hid (show P4.length + x_5.length ≤ 140737488355328 from by omega)
            have EP1 := hid hP1
            have EP2 := hid hP2
            have EP3 := hid hP3
            have EP4 := hid hP4
            have EP5 := hid hP5
            clear hP1 hP2 hP3 hP4 hP5 gP1 gP2 gP3 gP4 gP5 gp2
            go_wp2_with fail
            refine (rname_c x_0 HN.out _).mono ?_
            rintro e w3 ⟨v, rfl, hR, hb⟩
            obtain ⟨A3, c3, rfl, hc3, hC3⟩ := Kd.R_reads hR
            have hBn := below_alloc (Below.refl Wo.heap.size Wo) (.cells #[.string x_0, .int .i64 x_1, .int .i64 x_2, .bool true, .int .i64 x_4, .slice B5 x_5.length d5, .slice B6 x_6.length d6] 102)
            have nf := blk_below (blk_new Wo (.cells #[.string x_0, .int .i64 x_1, .int .i64 x_2, .bool true, .int .i64 x_4, .slice B5 x_5.length d5, .slice B6 x_6.length d6] 102)) hb
            have hRO := Kd.R_below (Kd.R_below HR.out.1 hBn) hb
            have H3 := hid (And.intro hRO (And.intro hC3 (And.intro (below_step (below_step HR.out.2 hBn) hb) nf)))
            clear hR hb hC3 nf hRO hBn q0 q1 q2 q3 q4 q5 q6 k0_ k1_ k2_ HR
            go_wp2_with (first | (at_builtin; refine app_c (w0 := W1) W1.heap.size rfl (.tmp 85) (.tmp 88) rfl _ O (nmT x_0) A3 c3 rfl rfl H3.out.1 H3.out.2.1 H3.out.2.2.1 (H3.out.2.2.1).size LP1.out ?_; intro v4 w4 hr hb hg hat; have hN := keep_blk H3.out.2.2.2 (by decide) H3.out.1 hg; rw [EP1.out] at hr; have H4 := hid (And.intro hr (And.intro hb hN)); clear hr hb hg hat hN; have f1_ : w4.cell? ⟨Wo.heap.size, 1, none⟩ = some (.int .i64 x_1) := blk_cell H4.out.2.2 1; have f2_ : w4.cell? ⟨Wo.heap.size, 2, none⟩ = some (.int .i64 x_2) := blk_cell H4.out.2.2 2; have f3_ : w4.cell? ⟨Wo.heap.size, 3, none⟩ = some (.bool true) := blk_cell H4.out.2.2 3) | (at_builtin; refine app_c (w0 := W1) W1.heap.size rfl (.tmp 92) (.tmp 100) rfl _ P1 ([x_1, x_2, 1]) (some ⟨w4.heap.size, 0, none⟩) 3 rfl rfl (Kd.R_alloc H4.out.1 _) (CB_three w4 x_1 x_2 1) (below_alloc H4.out.2.1 _) ((below_alloc H4.out.2.1 _)).size LP2.out ?_; intro v5 w5 hr hb hg hat; have hN := keep_blk (blk_alloc H4.out.2.2 _) (by decide) (Kd.R_alloc H4.out.1 _) hg; rw [EP2.out] at hr; have H5 := hid (And.intro hr (And.intro hb hN)); clear hr hb hg hat hN; clear f1_ f2_ f3_; have f4_ : w5.cell? ⟨Wo.heap.size, 4, none⟩ = some (.int .i64 x_4) := blk_cell H5.out.2.2 4))
            refine (rnum_c x_4 2 (by omega) (by omega) (by omega) _).mono ?_
            rintro e w6 ⟨A6, c6, rfl, hc6, hC6, hb⟩
            have H6b := hid (And.intro (Kd.R_below H5.out.1 hb) (And.intro hC6 (And.intro (below_step H5.out.2.1 hb) (blk_below H5.out.2.2 hb))))
            clear hb hC6 f4_
            go_wp2_with (at_builtin; refine app_c (w0 := W1) W1.heap.size rfl (.tmp 102) (.tmp 105) rfl _ P2 (putS x_4 2) (some A6) c6 rfl rfl H6b.out.1 H6b.out.2.1 H6b.out.2.2.1 (H6b.out.2.2.1).size LP3.out ?_; intro v7 w7 hr hb hg hat; have hN := keep_blk H6b.out.2.2.2 (by decide) H6b.out.1 hg; rw [EP3.out] at hr; have H7 := hid (And.intro hr (And.intro hb hN)); clear hr hb hg hat hN; have f5_ : w7.cell? ⟨Wo.heap.size, 5, none⟩ = some (.slice B5 x_5.length d5) := blk_cell H7.out.2.2 5)
            refine (rnum_c (x_5.length : Int) 2 (by omega) (by omega) (by omega) _).mono ?_
            rintro e w8 ⟨A8, c8, rfl, hc8, hC8, hb⟩
            have H8 := hid (And.intro (Kd.R_below H7.out.1 hb) (And.intro hC8 (And.intro (below_step H7.out.2.1 hb) (blk_below H7.out.2.2 hb))))
            clear hb hC8 f5_
            go_wp2_with (first | (at_builtin; refine app_c (w0 := W1) W1.heap.size rfl (.tmp 107) (.tmp 111) rfl _ P3 (putS (x_5.length : Int) 2) (some A8) c8 rfl rfl H8.out.1 H8.out.2.1 H8.out.2.2.1 (H8.out.2.2.1).size LP4.out ?_; intro v9 w9 hr hb hg hat; have hN := keep_blk H8.out.2.2.2 (by decide) H8.out.1 hg; rw [EP4.out] at hr; have H9 := hid (And.intro hr (And.intro hb hN)); clear hr hb hg hat hN; have f5_ : w9.cell? ⟨Wo.heap.size, 5, none⟩ = some (.slice B5 x_5.length d5) := blk_cell H9.out.2.2 5) | (at_builtin; refine app_c (w0 := W1) W1.heap.size rfl (.tmp 113) (.tmp 115) rfl _ P4 (x_5) B5 d5 rfl rfl H9.out.1 (Kd.C_below HG.out.1 H9.out.2.1) H9.out.2.1 (H9.out.2.1).size LP5.out ?_; intro v10 w10 hr hb hg hat; have hN := keep_blk H9.out.2.2 (by decide) H9.out.1 hg; rw [EP5.out] at hr; have H10 := hid (And.intro hr (And.intro hb hN)); clear hr hb hg hat hN; clear f5_; have f6_ : w10.cell? ⟨Wo.heap.size, 6, none⟩ = some (.slice B6 x_6.length d6) := blk_cell H10.out.2.2 6))
            refine (rputRels_c W1 _ _ P5 B6 d6 x_6 HG.out.2 H10.out.1 H10.out.2.1 HRB.out (by omega)).mono ?_
            rintro e w11 ⟨v, rfl, hR, hb⟩
            rw [HE.out] at hR
            have H11 := hid (And.intro hR hb)
            clear hR hb f6_
            go_wp2
            go_roundw
            case rel => exact ⟨k + 1, by omega, by go_num, H11⟩
            case measure => simp [intOf]; omega
        · have hkl : k = D.length := by omega
          subst hkl
          have hln := upTo_len dataS D (fun x hx => dataS_len (HB.out.2.1 x hx)) _ (Nat.le_refl D.length)
          obtain ⟨O3, hO3⟩ : ∃ O, O2 ++ upTo dataS D D.length = O := ⟨_, rfl⟩
          have hR := hI.out.1
          rw [hO3] at hR
          have hO3l := sum_len hO3
          obtain ⟨O4, hO4⟩ : ∃ O, O3 ++ putS (N.length : Int) 2 = O := ⟨_, rfl⟩
          have hO4l := sum_len hO4
          rw [putS2_len'] at hO4l
          have hO4b : O4.length ≤ 1400000 := by omega
          have LO3 := hid (show O3.length + (putS (N.length : Int) 2).length ≤ 140737488355328 from by rw [putS2_len']; omega)
          have HH := hid (And.intro hR hI.out.2)
          have HO3 := hid hO3
          have HO4 := hid hO4
          have hz : O4 = O4 ++ upTo noteS N 0 := by simp [upTo]
          have HZ := hid hz
          clear hR hI hO3 hO3l hO4 hO4l hln hz
          go_wp2_with fail
          refine (rnum_c (N.length : Int) 2 (by omega) (by omega) (by omega) _).mono ?_
          rintro e w2 ⟨A3, c3, rfl, hc3, hC3, hb⟩
          have H2 := hid (And.intro (Kd.R_below HH.out.1 hb) (And.intro hC3 (below_step HH.out.2 hb)))
          clear hb hC3 k0_ k1_ k2_ HH
          go_wp2_with (at_builtin; refine app_c (w0 := W1) W1.heap.size rfl (.tmp 121) (.tmp 125) rfl _ O3 (putS (N.length : Int) 2) (some A3) c3 rfl rfl H2.out.1 H2.out.2.1 H2.out.2.2 (H2.out.2.2).size LO3.out ?_; intro v3 w3 hr hb hg hat; rw [HO4.out] at hr; have H3 := hid (And.intro hr hb); clear hr hb hg hat)
          go_loopw [3, 10] (fun s3 s10 wx => ∃ (k : Nat), k ≤ N.length ∧ s10 = .int .i64 k ∧ Hid (RB wx W1.heap.size s3 (O4 ++ upTo noteS N k) ∧ Below W1.heap.size W1 wx)) (fun _ s10 _ => N.length - (intOf s10).toNat)
          case atStart => exact ⟨0, by omega, rfl, hid ⟨by rw [← HZ.out]; exact H3.out.1, H3.out.2⟩⟩
          case round =>
            clear H3 H2 HZ
            obtain ⟨k, hk, rfl, hI⟩ := hrel
            obtain ⟨k0_, k1_, k2_⟩ := HF.out wr hI.out.2
            by_cases hlt : (k : Int) < (N.length : Int)
            · have hk1 : k < N.length := by omega
              obtain ⟨ad, rfl, q0, q1⟩ := at_T122 HA.out.n (k : Int) (by omega) (by omega)
              have rx : rd_T122 N (k : Int) = N[k] := by unfold rd_T122; rw [Int.toNat_natCast, List.getD_eq_getElem?_getD, List.getElem?_eq_getElem hk1]; rfl
              have e3 : IntKind.i64.wrap ((k : Int) + 1) = (k : Int) + 1 := IntWalk.i64_in _ (by omega)
              have hst := upTo_step noteS N k hk1
              have hln := upTo_len noteS N (fun x hx => noteS_len (HB.out.2.2 x hx)) k hk
              have hxb := HB.out.2.2 _ (List.getElem_mem hk1)
              generalize rd_T122 N (k : Int) = x at *
              rw [← rx] at hst hxb
              simp only [Int.toNat_natCast] at q0 q1
              clear rx
              obtain ⟨x_0, x_1⟩ := x
              dsimp only at q0 q1
              obtain ⟨b0, b1⟩ := noteB_spec hxb
              dsimp only at b0 b1
              have hq1 : ∀ W, Below W1.heap.size W1 W → W.cell? ⟨(ad.add (k * 2)).block, (ad.add (k * 2)).off + 1, none⟩ = some (.int .i64 x_1) := fun W hb => (hb.cell (World.block_lt_of_cell? _ _ q1)).trans q1
              have HQ1 := hid hq1
              replace q0 := (hI.out.2.cell (World.block_lt_of_cell? _ _ q0)).trans q0
              have hnl := (nmT_len b0).1
              obtain ⟨O, hO⟩ : ∃ O, O4 ++ upTo noteS N k = O := ⟨_, rfl⟩
              have hOl := sum_len hO
              have hR := hI.out.1
              rw [hO] at hR
              obtain ⟨P1, hP1⟩ : ∃ Z, O ++ nmT x_0 = Z := ⟨_, rfl⟩
              have gP1 := sum_len hP1
              obtain ⟨P2, hP2⟩ : ∃ Z, P1 ++ [x_1] = Z := ⟨_, rfl⟩
              have gP2 := sum_len hP2
              rw [List.length_singleton] at gP2
              have hend : P2 = O4 ++ upTo noteS N (k + 1) := by
                rw [hst, ← hP2, ← hP1, ← hO]
                unfold noteS
                rw [putS1_is b1.1 b1.2]
                simp only [List.append_assoc]
              have hPl : P2.length ≤ 2200000 := by omega
              have HE := hid hend
              have HR := hid (And.intro hR hI.out.2)
              have HN := hid b0
              have e5 : IntKind.u8.wrap x_1 = x_1 := by rw [IntKind.wrap_u8]; omega
              clear hst hln hxb hO hR hend hI b0 hq1 q1
              have LP1 := hid (show O.length + (nmT x_0).length ≤ 140737488355328 from by omega)
              have EP1 := hid hP1
              have LP2 := hid (show P1.length + ([x_1]).length ≤ 140737488355328 from by rw [List.length_singleton]; omega)
              have EP2 := hid hP2
              clear hP1 gP1 hP2 gP2
              go_wp2_with fail
              refine (rname_c x_0 HN.out _).mono ?_
              rintro e w3 ⟨v, rfl, hR, hb⟩
              obtain ⟨A3, c3, rfl, hc3, hC3⟩ := Kd.R_reads hR
              have H3 := hid (And.intro (Kd.R_below HR.out.1 hb) (And.intro hC3 (below_step HR.out.2 hb)))
              clear hR hb hC3 q0 k0_ k1_ k2_ HR
              go_wp2_with (first | (at_builtin; refine app_c (w0 := W1) W1.heap.size rfl (.tmp 134) (.tmp 141) rfl _ O (nmT x_0) A3 c3 rfl rfl H3.out.1 H3.out.2.1 H3.out.2.2 (H3.out.2.2).size LP1.out ?_; intro v4 w4 hr hb hg hat; rw [EP1.out] at hr; have H4 := hid (And.intro hr hb); clear hr hb hg hat; obtain ⟨k0_, k1_, k2_⟩ := HF.out w4 H4.out.2; have q1_ := HQ1.out w4 H4.out.2) | (at_builtin; refine app_c (w0 := W1) W1.heap.size rfl (.tmp 143) (.tmp 151) rfl _ P1 ([x_1]) (some ⟨w4.heap.size, 0, none⟩) 1 rfl rfl (Kd.R_alloc H4.out.1 _) (CB_one w4 x_1) (below_alloc H4.out.2 _) ((below_alloc H4.out.2 _)).size LP2.out ?_; intro v5 w5 hr hb hg hat; rw [EP2.out] at hr; have H5 := hid (And.intro hr hb); clear hr hb hg hat))
              clear k0_ k1_ k2_ q1_
              go_roundw
              case rel => exact ⟨k + 1, by omega, by go_num, hid ⟨by rw [← HE.out]; exact H5.out.1, H5.out.2⟩⟩
              case measure => simp [intOf]; omega
            · have hkl : k = N.length := by omega
              subst hkl
              go_wp2
              go_ret
              refine ⟨_, rfl, ?_, H0.out.trans (hI.out.2.mono H0.out.size)⟩
              have hR := hI.out.1
              rw [← HO4.out, ← HO3.out, ← HO2.out, ← HO1.out, ← HO0.out] at hR
              exact Kd.R_lower hR H0.out.size
end Go.Proofs.Ytmcfihpbiilbcaa.H
end
section
namespace Go.Proofs.Ytmcfihpbiilbcaa.H
open Go.RowKit Go.Proofs.YtmcfihpbiilbcaaW.PrintWords Go.Proofs.YtmcfihpbiilbcaaW.PrintLast Go.Proofs.YtmcfihpbiilbcaaW.PrintMore Go.Proofs.Ytmcfihpbiilbcaa.E
set_option linter.unusedVariables false
set_option linter.unusedSimpArgs false
set_option maxRecDepth 100000 in
set_option maxHeartbeats 4000000 in
theorem owrites_1 (A0 A1 A2 : Option Addr) (c0 c1 c2 : Nat) (F : List S124) (D : List S102) (N : List S122) (w : World) (hA : CO w A0 A1 A2 c0 c1 c2 F D N) (hS : SS F D N) (h1 : fewB F D N = false) :
    Calls Try.prog 18 #[.agg #[.slice A0 F.length c0, .slice A1 D.length c1, .slice A2 N.length c2]] w fun e w' => e = .returned (.bool true) ∧ Below w.heap.size w w' := by
  obtain ⟨W1, hW1⟩ : ∃ W, W = w.alloc (.cells #[.slice A0 F.length c0, .slice A1 D.length c1, .slice A2 N.length c2] 91) := ⟨_, rfl⟩
  have bx0 := blk_new w (.cells #[.slice A0 F.length c0, .slice A1 D.length c1, .slice A2 N.length c2] 91)
  have hb1 := below_alloc (Below.refl w.heap.size w) (.cells #[.slice A0 F.length c0, .slice A1 D.length c1, .slice A2 N.length c2] 91)
  rw [← hW1] at bx0 hb1
  have HW := hid hW1
  have hfact : ∀ W, Below W1.heap.size W1 W → K3 W w.heap.size (.slice A0 F.length c0) (.slice A1 D.length c1) (.slice A2 N.length c2) := fun W hb => k3_of (blk_below bx0 hb)
  have HF := hid hfact
  have H0 := hid hb1
  have HA := hid (hA.below hb1)
  have HS := hid hS
  clear hfact bx0 hb1 hW1 hA hS
  have E1 := hid h1
  clear h1
  go_enter Try.func18, Try.ntmps18
  go_wp2_with fail
  rw [← HW.out]
  refine (awake9_c _).mono ?_
  rintro e w1 ⟨rfl, hb⟩
  have H1 := hid (show Below W1.heap.size W1 w1 from hb)
  clear hb
  obtain ⟨k0_, k1_, k2_⟩ := HF.out w1 H1.out
  go_wp2_with fail
  refine (few_c A0 A1 A2 c0 c1 c2 F D N _ (HA.out.below H1.out)).mono ?_
  rintro e w2 ⟨rfl, hb⟩
  rw [E1.out]
  have H2 := hid (below_step H1.out hb)
  clear hb k0_ k1_ k2_
  go_wp2_with fail
  refine (awake9_c _).mono ?_
  rintro e w3 ⟨rfl, hb⟩
  have H3 := hid (show Below W1.heap.size W1 w3 from below_step H2.out hb)
  clear hb
  go_wp2
  go_ret
  exact ⟨rfl, H0.out.trans (H3.out.mono H0.out.size)⟩
set_option maxRecDepth 100000 in
set_option maxHeartbeats 4000000 in
theorem owrites_2 (A0 A1 A2 : Option Addr) (c0 c1 c2 : Nat) (F : List S124) (D : List S102) (N : List S122) (w : World) (hA : CO w A0 A1 A2 c0 c1 c2 F D N) (hS : SS F D N) (h1 : fewB F D N = true) (h2 : objB F D N = false) :
    Calls Try.prog 18 #[.agg #[.slice A0 F.length c0, .slice A1 D.length c1, .slice A2 N.length c2]] w fun e w' => e = .returned (.bool true) ∧ Below w.heap.size w w' := by
  obtain ⟨W1, hW1⟩ : ∃ W, W = w.alloc (.cells #[.slice A0 F.length c0, .slice A1 D.length c1, .slice A2 N.length c2] 91) := ⟨_, rfl⟩
  have bx0 := blk_new w (.cells #[.slice A0 F.length c0, .slice A1 D.length c1, .slice A2 N.length c2] 91)
  have hb1 := below_alloc (Below.refl w.heap.size w) (.cells #[.slice A0 F.length c0, .slice A1 D.length c1, .slice A2 N.length c2] 91)
  rw [← hW1] at bx0 hb1
  have HW := hid hW1
  have hfact : ∀ W, Below W1.heap.size W1 W → K3 W w.heap.size (.slice A0 F.length c0) (.slice A1 D.length c1) (.slice A2 N.length c2) := fun W hb => k3_of (blk_below bx0 hb)
  have HF := hid hfact
  have H0 := hid hb1
  have HA := hid (hA.below hb1)
  have HS := hid hS
  clear hfact bx0 hb1 hW1 hA hS
  have E1 := hid h1
  have EO := hid h2
  clear h1 h2
  go_enter Try.func18, Try.ntmps18
  go_wp2_with fail
  rw [← HW.out]
  refine (awake9_c _).mono ?_
  rintro e w1 ⟨rfl, hb⟩
  have H1 := hid (show Below W1.heap.size W1 w1 from hb)
  clear hb
  obtain ⟨k0_, k1_, k2_⟩ := HF.out w1 H1.out
  go_wp2_with fail
  refine (few_c A0 A1 A2 c0 c1 c2 F D N _ (HA.out.below H1.out)).mono ?_
  rintro e w2 ⟨rfl, hb⟩
  rw [E1.out]
  have H2 := hid (below_step H1.out hb)
  clear hb k0_ k1_ k2_
  obtain ⟨k0_, k1_, k2_⟩ := HF.out w2 H2.out
  go_wp2_with fail
  refine (owrite_no A0 A1 A2 c0 c1 c2 F D N _ (HA.out.below H2.out) HS.out EO.out).mono ?_
  rintro e w3 ⟨rfl, hb⟩
  have H3 := hid (below_step H2.out hb)
  clear hb k0_ k1_ k2_
  obtain ⟨k0_, k1_, k2_⟩ := HF.out w3 H3.out
  go_wp2_with fail
  refine (may9_c A0 A1 A2 c0 c1 c2 F D N _ (HA.out.below H3.out)).mono ?_
  rintro e w4 ⟨rfl, hb⟩
  rw [EO.out]
  have H4 := hid (below_step H3.out hb)
  clear hb k0_ k1_ k2_
  go_wp2
  go_ret
  exact ⟨rfl, H0.out.trans (H4.out.mono H0.out.size)⟩
set_option maxRecDepth 100000 in
set_option maxHeartbeats 4000000 in
theorem owrites_3 (A0 A1 A2 : Option Addr) (c0 c1 c2 : Nat) (F : List S124) (D : List S102) (N : List S122) (w : World) (hA : CO w A0 A1 A2 c0 c1 c2 F D N) (hS : SS F D N) (h1 : fewB F D N = true) (h2 : objB F D N = true) :
    Calls Try.prog 18 #[.agg #[.slice A0 F.length c0, .slice A1 D.length c1, .slice A2 N.length c2]] w fun e w' => e = .returned (.bool true) ∧ Below w.heap.size w w' := by
  obtain ⟨W1, hW1⟩ : ∃ W, W = w.alloc (.cells #[.slice A0 F.length c0, .slice A1 D.length c1, .slice A2 N.length c2] 91) := ⟨_, rfl⟩
  have bx0 := blk_new w (.cells #[.slice A0 F.length c0, .slice A1 D.length c1, .slice A2 N.length c2] 91)
  have hb1 := below_alloc (Below.refl w.heap.size w) (.cells #[.slice A0 F.length c0, .slice A1 D.length c1, .slice A2 N.length c2] 91)
  rw [← hW1] at bx0 hb1
  have HW := hid hW1
  have hfact : ∀ W, Below W1.heap.size W1 W → K3 W w.heap.size (.slice A0 F.length c0) (.slice A1 D.length c1) (.slice A2 N.length c2) := fun W hb => k3_of (blk_below bx0 hb)
  have HF := hid hfact
  have H0 := hid hb1
  have HA := hid (hA.below hb1)
  have HS := hid hS
  clear hfact bx0 hb1 hW1 hA hS
  have E1 := hid h1
  have EO := hid h2
  obtain ⟨L, hL⟩ : ∃ L, L = objS F D N := ⟨_, rfl⟩
  have hLn := objS_len h2
  rw [← hL] at hLn
  have HL := hid hL
  have HLN := hid hLn
  clear h1 h2 hL hLn
  go_enter Try.func18, Try.ntmps18
  go_wp2_with fail
  rw [← HW.out]
  refine (awake9_c _).mono ?_
  rintro e w1 ⟨rfl, hb⟩
  have H1 := hid (show Below W1.heap.size W1 w1 from hb)
  clear hb
  obtain ⟨k0_, k1_, k2_⟩ := HF.out w1 H1.out
  go_wp2_with fail
  refine (few_c A0 A1 A2 c0 c1 c2 F D N _ (HA.out.below H1.out)).mono ?_
  rintro e w2 ⟨rfl, hb⟩
  rw [E1.out]
  have H2 := hid (below_step H1.out hb)
  clear hb k0_ k1_ k2_
  obtain ⟨k0_, k1_, k2_⟩ := HF.out w2 H2.out
  go_wp2_with fail
  have hk := owrite_yes A0 A1 A2 c0 c1 c2 F D N _ (HA.out.below H2.out) HS.out EO.out
  rw [← HL.out] at hk
  refine hk.mono ?_
  clear hk
  rintro e w3 ⟨v, rfl, hR, hb⟩
  obtain ⟨A3, c3, rfl, hc3, hC3⟩ := Kd.R_reads hR
  have H3 := hid (below_step H2.out hb)
  have G3 := hid hC3
  clear hb k0_ k1_ k2_ hR hC3
  obtain ⟨k0_, k1_, k2_⟩ := HF.out w3 H3.out
  go_wp2_with fail
  refine (may9_c A0 A1 A2 c0 c1 c2 F D N _ (HA.out.below H3.out)).mono ?_
  rintro e w4 ⟨rfl, hb⟩
  rw [EO.out]
  have G4 := hid (Kd.C_below G3.out hb)
  have H4 := hid (below_step H3.out hb)
  clear hb k0_ k1_ k2_
  obtain ⟨k0_, k1_, k2_⟩ := HF.out w4 H4.out
  go_wp2_with fail
  have hk := rwrite_c A0 A1 A2 c0 c1 c2 F D N _ (HA.out.below H4.out) HS.out EO.out
  rw [← HL.out] at hk
  refine hk.mono ?_
  clear hk
  rintro e w5 ⟨v, rfl, hR, hb⟩
  obtain ⟨A5, c5, rfl, hc5, hC5⟩ := Kd.R_reads hR
  have H5 := hid (below_step H4.out hb)
  have G5 := hid (And.intro hC5 (Kd.C_below G4.out hb))
  clear hb k0_ k1_ k2_ hR hC5
  go_wp2_with fail
  refine (spliceref01_Same.calls (L.length + 1) A3 c3 L A5 c5 L true w5 G5.out.2 hc3 G5.out.1 hc5 (by rw [refSame_k _ _ (by have := HLN.out; omega) _ (by omega)]; simp)).mono ?_
  rintro e w6 ⟨rfl, ⟨nd, rfl⟩⟩
  have H6 := hid (pw_below_drewN H5.out nd)
  go_wp2
  go_ret
  exact ⟨rfl, H0.out.trans (H6.out.mono H0.out.size)⟩
theorem owrites_c (A0 A1 A2 : Option Addr) (c0 c1 c2 : Nat) (F : List S124) (D : List S102) (N : List S122) (w : World) (hA : CO w A0 A1 A2 c0 c1 c2 F D N) (hS : SS F D N) :
    Calls Try.prog 18 #[.agg #[.slice A0 F.length c0, .slice A1 D.length c1, .slice A2 N.length c2]] w fun e w' => e = .returned (.bool true) ∧ Below w.heap.size w w' := by
  cases h1 : fewB F D N with
  | false => exact owrites_1 A0 A1 A2 c0 c1 c2 F D N w hA hS h1
  | true =>
    cases h2 : objB F D N with
    | false => exact owrites_2 A0 A1 A2 c0 c1 c2 F D N w hA hS h1 h2
    | true => exact owrites_3 A0 A1 A2 c0 c1 c2 F D N w hA hS h1 h2
end Go.Proofs.Ytmcfihpbiilbcaa.H
end
