import Derived.Test.YtmcfihpbiilbcaaZObjectReads4
section
namespace Go.Proofs.Ytmcfihpbiilbcaa.H
open Go.RowKit Go.Proofs.YtmcfihpbiilbcaaW.PrintWords Go.Proofs.YtmcfihpbiilbcaaW.PrintLast Go.Proofs.YtmcfihpbiilbcaaW.PrintMore Go.Proofs.Ytmcfihpbiilbcaa.E
set_option linter.unusedVariables false
set_option linter.unusedSimpArgs false
theorem may_ {ops : Array Oper} {Q : Exit → Act → World → Prop} {oi : Oper} {N : Option Tmp} {a : Act} {w : World} {K : Act → World → Prop} {f : FuncId} {fn : Func} {as_ : Array Operand} {ts : Array TypeId} (hf : Try.prog.funcs[f]? = some fn) (hname : (fn.name == "runtime.NumGoroutine") = false) (hb : fn.body.isSome = true) (args : Array Value)
    (hw : Region.wanted oi (yielded ops a.tmps) = true) (hN : oi.dst = N) (hop : oi.op = .call { callee := .value (.func f), args := as_, argTypes := ts }) (hargs : as_.map a.eval = args)
    (h : Calls Try.prog f args w fun e w' => (∃ c, e = .panicked c ∧ Q (.panic c) a w') ∨ ∃ v, e = .returned v ∧ K (a.put N v) w') : if Region.wanted oi (yielded ops a.tmps) = true then Oper.wp Try.prog oi a w K Q else K (a.put N undef) w := by
  rw [if_pos hw]
  have he := enters_ hf hname hb args w
  have hrun : (execOp a.eval oi).run Try.prog w = .ok (.enter f args) w := by
    unfold execOp
    simp [hop, resolve, Deferred.ofValue, invoke, Act.eval, hargs, he]
  unfold Oper.wp
  rw [hrun, Oper.upon_enter]
  refine h.mono fun e w'' hh => ?_
  subst hN
  rcases hh with ⟨c, rfl, hk⟩ | ⟨v, rfl, hk⟩
  · exact hk
  · exact hk
theorem below_drw (w : World) : Below w.heap.size w w.drew := (Below.refl _ _).drew
theorem R_setB {α : Type} {d : Kd α} {e base g t : Nat} {ok : Nat → Prop} {w : World} {v : Value} {xs : List α} {cells : Array Value} (h : d.R e w base ok v xs) (hb : w.heap[g]? = some (.cells cells t (0, 0))) (ht : ∀ q, q ∈ e :: d.E → q ≠ t) (j : Nat) (u : Value) : d.R e (w.setCell ⟨g, j, none⟩ u) base ok v xs := Kd.R_set h hb ht j u
theorem put4 {w : World} {g : Nat} {t : TypeId} {a0 a1 a2 a3 : Value} (h : w.heap[g]? = some (.cells #[a0, a1, a2, a3] t (0, 0))) (b0 b1 b2 b3 : Value) : ((((w.setCell ⟨g, 0, none⟩ b0).setCell ⟨g, 1, none⟩ b1).setCell ⟨g, 2, none⟩ b2).setCell ⟨g, 3, none⟩ b3).heap[g]? = some (.cells #[b0, b1, b2, b3] t (0, 0)) := by
  have := (blk_set (blk_set (blk_set (blk_set h 0 b0) 1 b1) 2 b2) 3 b3)
  simpa only [List.setIfInBounds_toArray, List.set_cons_zero, List.set_cons_succ] using this
theorem set4 {α : Type} {d : Kd α} {e base g t : Nat} {ok : Nat → Prop} {w : World} {v : Value} {xs : List α} {a0 a1 a2 a3 : Value} (h : d.R e w base ok v xs) (hb : w.heap[g]? = some (.cells #[a0, a1, a2, a3] t (0, 0))) (ht : ∀ q, q ∈ e :: d.E → q ≠ t) (b0 b1 b2 b3 : Value) : d.R e ((((w.setCell ⟨g, 0, none⟩ b0).setCell ⟨g, 1, none⟩ b1).setCell ⟨g, 2, none⟩ b2).setCell ⟨g, 3, none⟩ b3) base ok v xs := (Kd.R_set (Kd.R_set (Kd.R_set (Kd.R_set h hb ht 0 b0) (blk_set hb 0 b0) ht 1 b1) (blk_set (blk_set hb 0 b0) 1 b1) ht 2 b2) (blk_set (blk_set (blk_set hb 0 b0) 1 b1) 2 b2) ht 3 b3)
theorem mvs4 {B : Nat} {w0 w : World} {j : Int} {g : Nat} (h : Mv B w0 j w) (hg : w0.heap.size ≤ g) (b0 b1 b2 b3 : Value) : Mv B w0 j ((((w.setCell ⟨g, 0, none⟩ b0).setCell ⟨g, 1, none⟩ b1).setCell ⟨g, 2, none⟩ b2).setCell ⟨g, 3, none⟩ b3) := (Mv.set (Mv.set (Mv.set (Mv.set h hg 0 b0) hg 1 b1) hg 2 b2) hg 3 b3)
theorem put7 {w : World} {g : Nat} {t : TypeId} {a0 a1 a2 a3 a4 a5 a6 : Value} (h : w.heap[g]? = some (.cells #[a0, a1, a2, a3, a4, a5, a6] t (0, 0))) (b0 b1 b2 b3 b4 b5 b6 : Value) : (((((((w.setCell ⟨g, 0, none⟩ b0).setCell ⟨g, 1, none⟩ b1).setCell ⟨g, 2, none⟩ b2).setCell ⟨g, 3, none⟩ b3).setCell ⟨g, 4, none⟩ b4).setCell ⟨g, 5, none⟩ b5).setCell ⟨g, 6, none⟩ b6).heap[g]? = some (.cells #[b0, b1, b2, b3, b4, b5, b6] t (0, 0)) := by
  have := (blk_set (blk_set (blk_set (blk_set (blk_set (blk_set (blk_set h 0 b0) 1 b1) 2 b2) 3 b3) 4 b4) 5 b5) 6 b6)
  simpa only [List.setIfInBounds_toArray, List.set_cons_zero, List.set_cons_succ] using this
theorem set7 {α : Type} {d : Kd α} {e base g t : Nat} {ok : Nat → Prop} {w : World} {v : Value} {xs : List α} {a0 a1 a2 a3 a4 a5 a6 : Value} (h : d.R e w base ok v xs) (hb : w.heap[g]? = some (.cells #[a0, a1, a2, a3, a4, a5, a6] t (0, 0))) (ht : ∀ q, q ∈ e :: d.E → q ≠ t) (b0 b1 b2 b3 b4 b5 b6 : Value) : d.R e (((((((w.setCell ⟨g, 0, none⟩ b0).setCell ⟨g, 1, none⟩ b1).setCell ⟨g, 2, none⟩ b2).setCell ⟨g, 3, none⟩ b3).setCell ⟨g, 4, none⟩ b4).setCell ⟨g, 5, none⟩ b5).setCell ⟨g, 6, none⟩ b6) base ok v xs := (Kd.R_set (Kd.R_set (Kd.R_set (Kd.R_set (Kd.R_set (Kd.R_set (Kd.R_set h hb ht 0 b0) (blk_set hb 0 b0) ht 1 b1) (blk_set (blk_set hb 0 b0) 1 b1) ht 2 b2) (blk_set (blk_set (blk_set hb 0 b0) 1 b1) 2 b2) ht 3 b3) (blk_set (blk_set (blk_set (blk_set hb 0 b0) 1 b1) 2 b2) 3 b3) ht 4 b4) (blk_set (blk_set (blk_set (blk_set (blk_set hb 0 b0) 1 b1) 2 b2) 3 b3) 4 b4) ht 5 b5) (blk_set (blk_set (blk_set (blk_set (blk_set (blk_set hb 0 b0) 1 b1) 2 b2) 3 b3) 4 b4) 5 b5) ht 6 b6)
theorem mvs7 {B : Nat} {w0 w : World} {j : Int} {g : Nat} (h : Mv B w0 j w) (hg : w0.heap.size ≤ g) (b0 b1 b2 b3 b4 b5 b6 : Value) : Mv B w0 j (((((((w.setCell ⟨g, 0, none⟩ b0).setCell ⟨g, 1, none⟩ b1).setCell ⟨g, 2, none⟩ b2).setCell ⟨g, 3, none⟩ b3).setCell ⟨g, 4, none⟩ b4).setCell ⟨g, 5, none⟩ b5).setCell ⟨g, 6, none⟩ b6) := (Mv.set (Mv.set (Mv.set (Mv.set (Mv.set (Mv.set (Mv.set h hg 0 b0) hg 1 b1) hg 2 b2) hg 3 b3) hg 4 b4) hg 5 b5) hg 6 b6)
theorem put3 {w : World} {g : Nat} {t : TypeId} {a0 a1 a2 : Value} (h : w.heap[g]? = some (.cells #[a0, a1, a2] t (0, 0))) (b0 b1 b2 : Value) : (((w.setCell ⟨g, 0, none⟩ b0).setCell ⟨g, 1, none⟩ b1).setCell ⟨g, 2, none⟩ b2).heap[g]? = some (.cells #[b0, b1, b2] t (0, 0)) := by
  have := (blk_set (blk_set (blk_set h 0 b0) 1 b1) 2 b2)
  simpa only [List.setIfInBounds_toArray, List.set_cons_zero, List.set_cons_succ] using this
theorem set3 {α : Type} {d : Kd α} {e base g t : Nat} {ok : Nat → Prop} {w : World} {v : Value} {xs : List α} {a0 a1 a2 : Value} (h : d.R e w base ok v xs) (hb : w.heap[g]? = some (.cells #[a0, a1, a2] t (0, 0))) (ht : ∀ q, q ∈ e :: d.E → q ≠ t) (b0 b1 b2 : Value) : d.R e (((w.setCell ⟨g, 0, none⟩ b0).setCell ⟨g, 1, none⟩ b1).setCell ⟨g, 2, none⟩ b2) base ok v xs := (Kd.R_set (Kd.R_set (Kd.R_set h hb ht 0 b0) (blk_set hb 0 b0) ht 1 b1) (blk_set (blk_set hb 0 b0) 1 b1) ht 2 b2)
set_option maxRecDepth 100000 in
set_option maxHeartbeats 4000000 in
theorem getFunc_p (B : Nat) (l : List Int) (i : Int) (w : World) (h : Sc w B l i) (h0 : 0 ≤ i) (h1 : i ≤ l.length) (hl : l.length ≤ 140737488351232) (hb : Bytes l) :
    Calls Try.prog 114 #[.pointer (some ⟨B, 0, none⟩)] w (PP w B (pFunc l i) (fun a w' v => ∃ v2 v3, v = .agg #[.string a.f0, .int .i64 a.f1, v2, v3] ∧ k124.M w' w.heap.size (fun _ => True) a [.string a.f0, .int .i64 a.f1, v2, v3])) := by
  have HS := hid h
  have hBl := h.lt
  have HBL := hid hBl
  have a0 : 0 ≤ i ∧ i ≤ l.length := ⟨h0, h1⟩
  obtain ⟨W, hW⟩ : ∃ W, W = w.alloc (.cells #[.string ⟨#[]⟩, .int .i64 0, .slice none 0 0, .slice none 0 0] 124) := ⟨_, rfl⟩
  have f0 := blk_new w (.cells #[.string ⟨#[]⟩, .int .i64 0, .slice none 0 0, .slice none 0 0] 124)
  have hB4 := below_alloc (Below.refl w.heap.size w) (.cells #[.string ⟨#[]⟩, .int .i64 0, .slice none 0 0, .slice none 0 0] 124)
  rw [← hW] at f0 hB4
  have HW0 := hid hW
  have M0 := hid (And.intro ((Mv.start h).mem hB4) f0)
  clear hW f0 hB4 h hBl h0 h1
  go_enter Try.func114, Try.ntmps114
  go_wp2_with fail
  rw [← HW0.out]
  refine (name_p B l i _ (M0.out.1.sc HS.out) a0.1 a0.2 hl hb).mono ?_
  rintro e w2 hq
  rcases hp : pName l i with x | ⟨nm, j1⟩ <;> rw [hp] at hq
  · obtain ⟨rfl, ha⟩ := hq
    exact ⟨rfl, PP.err (by simp only [pFunc, pThen_err hp]) (M0.out.1.aft ha)⟩
  obtain ⟨v, rfl, rfl, hm⟩ := hq
  have k1 := Bk.name l i hb a0.1 a0.2 nm j1 hp
  have P1 := hid hp
  have hgB : w.heap.size ≠ B := by have := HBL.out; omega
  have M1 := hid (And.intro (Mv.trans HS.out M0.out.1 hm) (hm.blk M0.out.2 hgB))
  have a1 : 0 ≤ j1 ∧ j1 ≤ l.length := ⟨by omega, k1.2.1⟩
  clear hp hm k1 M0 a0
  go_wp2_with fail
  refine (bind_p B l j1 _ (M1.out.1.sc HS.out) a1.1 a1.2 hl hb).mono ?_
  rintro e w3 hq
  rcases hp : pBind l j1 with x | ⟨b, j2⟩ <;> rw [hp] at hq
  · obtain ⟨rfl, ha⟩ := hq
    exact ⟨rfl, PP.err (by simp only [pFunc, pThen_ok P1.out, pThen_err hp]) (M1.out.1.aft ha)⟩
  obtain ⟨v, rfl, rfl, hm⟩ := hq
  have k1 := Bk.bind l j1 hb a1.1 a1.2 b j2 hp
  have P2 := hid hp
  have M2 := hid (And.intro (Mv.trans HS.out M1.out.1 hm) (hm.blk M1.out.2 hgB))
  have a2 : 0 ≤ j2 ∧ j2 ≤ l.length := ⟨by omega, k1.2.1⟩
  clear hp hm k1 M1 a1
  obtain ⟨W3, hW3⟩ : ∃ W, W = w3.alloc (.cells #[.string nm, .int .i64 b, .slice none 0 0, .slice none 0 0] 124) := ⟨_, rfl⟩
  have f0 := blk_new w3 (.cells #[.string nm, .int .i64 b, .slice none 0 0, .slice none 0 0] 124)
  have hB4 := below_alloc (Below.refl w3.heap.size w3) (.cells #[.string nm, .int .i64 b, .slice none 0 0, .slice none 0 0] 124)
  rw [← hW3] at f0 hB4
  have HW3 := hid hW3
  have hgB3 : w3.heap.size ≠ B := by have := HBL.out; have := M2.out.1.size; omega
  have hs3 : w.heap.size < w3.heap.size := blk_lt M2.out.2
  have M3 := hid (And.intro (M2.out.1.mem hB4) (And.intro f0 (blk_below M2.out.2 hB4)))
  have HG := hid (And.intro hgB3 hgB)
  have H3 := hid hs3
  clear hW3 f0 hB4 hgB3 hgB M2 hs3
  go_wp2_with fail
  rw [← HW3.out]
  refine (count_p B l j2 2000 _ (M3.out.1.sc HS.out) a2.1 a2.2 hl hb).mono ?_
  rintro e w4 hq
  rcases hp : pCount 2000 l j2 with x | ⟨nn, j3⟩ <;> rw [hp] at hq
  · obtain ⟨rfl, ha⟩ := hq
    exact ⟨rfl, PP.err (by simp only [pFunc, pThen_ok P1.out, pThen_ok P2.out, pThen_err hp]) (M3.out.1.aft ha)⟩
  obtain ⟨v, rfl, rfl, hm⟩ := hq
  have k1 := Bk.count 2000 l j2 hb a2.1 a2.2 nn j3 hp
  obtain ⟨n, rfl⟩ : ∃ n : Nat, nn = n := ⟨nn.toNat, by have := k1.2.2.2.1; omega⟩
  have hn64 : n ≤ 2000 := by have := k1.2.2.2.2.2; omega
  have hPR : pFunc l i = pThen (pRep n (pNum 4)) (fun c => pThen pRels fun r => pRet (⟨nm, b, c, r⟩ : S124)) l j3 := by simp only [pFunc, pThen_ok P1.out, pThen_ok P2.out, pThen_ok hp, Int.toNat_natCast]
  have HPR := hid hPR
  have M4 := hid (And.intro (Mv.trans HS.out M3.out.1 hm) (And.intro (hm.blk M3.out.2.1 HG.out.1) (hm.blk M3.out.2.2 HG.out.2)))
  have a3 : 0 ≤ j3 ∧ j3 ≤ l.length := ⟨by omega, k1.2.1⟩
  clear hp hm k1 M3 a2 hPR P1 P2
  go_wp2
  go_loopw [11] (fun s11 wx => ∃ (k : Nat) (L : List Int) (i' : Int) (v : Value), k ≤ n ∧ s11 = .int .i64 k ∧ 0 ≤ i' ∧ i' ≤ l.length ∧ Hid (Rep (pNum 4) n l j3 k L i' ∧ Mv B w i' wx ∧ (Kd.int .u32).R 36 wx w.heap.size (fun _ => True) v L ∧ wx.heap[w3.heap.size]? = some (.cells #[.string nm, .int .i64 b, v, .slice none 0 0] 124 (0, 0)) ∧ wx.heap[w.heap.size]? = some (.cells #[.string ⟨#[]⟩, .int .i64 0, .slice none 0 0, .slice none 0 0] 124 (0, 0)))) (fun s11 _ => n - (intOf s11).toNat)
  case atStart => exact ⟨0, [], j3, _, by omega, rfl, a3.1, a3.2, hid ⟨rep0 _ _ _ _, M4.out.1, Kd.R_nil _ _ _ _ _, M4.out.2.1, M4.out.2.2⟩⟩
  case round =>
    obtain ⟨k, L, i', v, hk, rfl, hi0, hi1, hI⟩ := hrel
    by_cases hlt : (k : Int) < (n : Int)
    · have e3 : IntKind.i64.wrap ((k : Int) + 1) = (k : Int) + 1 := IntWalk.i64_in _ (by omega)
      have hk1 : k < n := by omega
      have HI := hid hI.out.1
      have HD := hid (And.intro (hI.out.2.1.mem (below_drw wr)) (And.intro (Kd.R_drew hI.out.2.2.1) (And.intro (blk_below hI.out.2.2.2.1 (below_drw wr)) (blk_below hI.out.2.2.2.2 (below_drw wr)))))
      clear hI
      go_wp2
      refine start_ (n := 9) (S := fun W => W.cell? ⟨w3.heap.size, 2, none⟩ = some v) (ds := [8]) #[false, false, false, false, false, false, false, false, false] (by kernel_rfl) rfl rfl (blk_cell HD.out.2.2.1 2) (fun hHeld => ?_)
      refine pure_ (i := 0) (N := (some 13)) (v := ?_) (a' := ?_) #[true, false, false, false, false, false, false, false, false] rfl rfl (by kernel_rfl) (fun _ _ _ h => h) (Or.inl ⟨by rfl, ?_⟩) ?_ ?_
      rotate_left
      · intro w'
        go_simp
        with_reducible rfl
      rotate_left
      · simp only [Act.put, List.setIfInBounds_toArray, List.set_cons_zero, List.set_cons_succ, i64_w]
        rfl
      refine take_ (i := 1) (N := (some 14)) (v := ?_) (a' := ?_) #[true, true, false, false, false, false, false, false, false] rfl rfl (by kernel_rfl) (fun _ _ _ h => h) (Or.inl ⟨by rfl, ?_⟩) hHeld ?_ ?_
      rotate_left
      · rintro w' s0
        go_simp
        with_reducible rfl
      rotate_left
      · simp only [Act.put, List.setIfInBounds_toArray, List.set_cons_zero, List.set_cons_succ, i64_w]
        rfl
      refine pure_ (i := 2) (N := (some 15)) (v := ?_) (a' := ?_) #[true, true, true, false, false, false, false, false, false] rfl rfl (by kernel_rfl) (fun _ _ _ h => h) (Or.inl ⟨by rfl, ?_⟩) ?_ ?_
      rotate_left
      · intro w'
        go_simp
        with_reducible rfl
      rotate_left
      · simp only [Act.put, List.setIfInBounds_toArray, List.set_cons_zero, List.set_cons_succ, i64_w]
        rfl
      refine one_ (i := 3) (N := (some 16)) #[true, true, true, true, false, false, false, false, false] rfl rfl (by kernel_rfl) (by decide) (fun K hK => ?_)
      refine may_ Try.func41 (by kernel_rfl) rfl #[.pointer (some ⟨B, 0, none⟩), .int .i64 4] (by rfl) rfl rfl (by first | rfl | (simp only [List.map_toArray, List.map_cons, List.map_nil]; rfl)) ?_
      refine (number_p B l i' 4 _ (HD.out.1.sc HS.out) hi0 hi1 (by omega) hl hb).mono ?_
      rintro e' wA hq
      rcases hp : pNum 4 l i' with x | ⟨d, j4⟩ <;> rw [hp] at hq
      · obtain ⟨rfl, ha⟩ := hq
        exact Or.inl ⟨_, rfl, rfl, PP.err (HPR.out.trans (pThen_err (rep_err HI.out hk1 hp))) (HD.out.1.aft ha)⟩
      obtain ⟨v', rfl, rfl, hm⟩ := hq
      have k1 := Bk.num4 l i' hb hi0 hi1 d j4 hp
      have hr2 := rep_ok HI.out hk1 hp
      have HR2 := hid hr2
      have a4 : 0 ≤ j4 ∧ j4 ≤ l.length := ⟨by omega, k1.2.1⟩
      have e1 : IntKind.u32.wrap d = d := by rw [IntKind.wrap_u32]; have := k1.2.2; omega
      have HW := hid (And.intro (Mv.trans HS.out HD.out.1 hm) (And.intro (R_mv HD.out.2.1 HBL.out hm) (And.intro (hm.blk HD.out.2.2.1 HG.out.1) (hm.blk HD.out.2.2.2 HG.out.2))))
      clear hm k1 hr2 hp HD
      refine Or.inr ⟨_, rfl, ?_⟩
      refine hK.out _ _ (blk_cell HW.out.2.2.1 2) (fun hHeld => ?_)
      clear hK K
      refine norm_ (a' := ?_) ?_ ?_
      rotate_left
      · show Act.put _ (some 16) _ = _
        simp only [Act.put, List.setIfInBounds_toArray, List.set_cons_zero, List.set_cons_succ, i64_w]
        rfl
      refine pure_ (i := 4) (N := (some 17)) (v := ?_) (a' := ?_) #[true, true, true, true, true, false, false, false, false] rfl rfl (by kernel_rfl) (fun _ _ _ h => h) (Or.inl ⟨by rfl, ?_⟩) ?_ ?_
      rotate_left
      · intro w'
        go_simp
        with_reducible rfl
      rotate_left
      · simp only [Act.put, List.setIfInBounds_toArray, List.set_cons_zero, List.set_cons_succ, i64_w]
        rfl
      refine one_ (i := 5) (N := (some 18)) #[true, true, true, true, true, true, false, false, false] rfl rfl (by kernel_rfl) (by decide) (fun K hK => ?_)
      go_simp
      have HB5 := hid (blk_alloc HW.out.2.2.1 (.cells #[.int .u32 d] 36))
      refine hK.out _ _ (blk_cell HB5.out 2) (fun hHeld => ?_)
      clear hK K
      refine one_ (i := 6) (N := (some 19)) #[true, true, true, true, true, true, true, false, false] rfl rfl (by kernel_rfl) (by decide) (fun K hK => ?_)
      refine Kd.R_append_step (Kd.int .u32) (w0 := w.setCell ⟨B, 1, none⟩ (.int .i64 j4)) w.heap.size (by rfl) (.tmp 14) (.tmp 18) 58 36 (.int .u32 0) 4 (by rfl) Try.underlying58 info36 rfl (by decide) (by decide) v L d [.int .u32 d] (fun _ => True) (fun _ => False) (by rfl) (by rfl) rfl (fun _ h => h.elim) (fun _ _ => trivial) HW.out.2.1 HW.out.1 (HW.out.1.size) (by have := HR2.out.2.1; rw [List.length_append] at this; simp at this; omega) ?_
      intro v6 w6 hr hb6 hg hat
      obtain ⟨T, hT⟩ : ∃ T, L ++ [d] = T := ⟨_, rfl⟩
      have HT := hid hT
      rw [hT] at hr
      clear hT
      obtain ⟨A6, c6, rfl, _, _⟩ := Kd.R_reads hr
      have n1 := Kd.R_ne HW.out.2.1 HW.out.2.2.1 (by decide)
      have n2 := Kd.R_ne HW.out.2.1 HW.out.2.2.2 (by decide)
      have HW6 := hid (And.intro hb6 (And.intro hr (And.intro (blk_grown HW.out.2.2.1 hg n1) (blk_grown HW.out.2.2.2 hg n2))))
      clear hr hb6 hg hat n1 n2
      refine hK.out _ _ (blk_cell HW6.out.2.2.1 2) (fun hHeld => ?_)
      clear hK K
      refine norm_ (a' := ?_) ?_ ?_
      rotate_left
      · show Act.put _ (some 19) _ = _
        simp only [Act.put, List.setIfInBounds_toArray, List.set_cons_zero, List.set_cons_succ, i64_w]
        rfl
      refine pure_ (i := 7) (N := (some 20)) (v := ?_) (a' := ?_) #[true, true, true, true, true, true, true, true, false] rfl rfl (by kernel_rfl) (fun _ _ _ h => h) (Or.inl ⟨by rfl, ?_⟩) ?_ ?_
      rotate_left
      · intro w'
        go_simp
        with_reducible rfl
      rotate_left
      · simp only [Act.put, List.setIfInBounds_toArray, List.set_cons_zero, List.set_cons_succ, i64_w]
        rfl
      refine last_ (i := 8) (N := none) #[true, true, true, true, true, true, true, true, true] rfl rfl (by kernel_rfl) (by decide) (fun K hK => ?_)
      have c6_ : w6.cell? ⟨w3.heap.size, 2, none⟩ = some v := blk_cell HW6.out.2.2.1 2
      have g6_ : w6.frozen? ⟨w3.heap.size, 2, none⟩ = false := blk_frozen HW6.out.2.2.1 2
      go_simp
      clear c6_ g6_
      refine hK.out _ _ ?_
      clear hK K
      refine done_ (by kernel_rfl) ?_
      have M7 := hid (And.intro ((show Mv B w j4 w6 from HW6.out.1).set (Nat.le_of_lt H3.out) 2 (.slice A6 T.length c6)) (And.intro (R_setB HW6.out.2.1 HW6.out.2.2.1 (by simp [Kd.int, Kd.scalar]) 2 (.slice A6 T.length c6)) (And.intro (blk_put HW6.out.2.2.1 2 (.slice A6 T.length c6) rfl) (blk_far HW6.out.2.2.2 (p := ⟨w3.heap.size, 2, none⟩) (show w.heap.size ≠ w3.heap.size from Nat.ne_of_lt H3.out) (.slice A6 T.length c6)))))
      go_wp2
      go_roundw
      case rel => exact ⟨k + 1, _, j4, _, by omega, by go_num, a4.1, a4.2, hid ⟨by rw [← HT.out]; exact HR2.out, M7.out.1, M7.out.2.1, M7.out.2.2.1, M7.out.2.2.2⟩⟩
      case measure => simp [intOf]; omega
    · have hkn : k = n := by omega
      subst hkn
      have hre := rep_end hI.out.1
      have HRE := hid hre
      have M7 := hid hI.out.2
      clear hre hI
      go_wp2_with fail
      refine (getRels_p B l i' _ (M7.out.1.sc HS.out) hi0 hi1 hl hb).mono ?_
      rintro e w8 hq
      rcases hp : pRels l i' with x | ⟨r, j4⟩ <;> rw [hp] at hq
      · obtain ⟨rfl, ha⟩ := hq
        exact ⟨rfl, PP.err (HPR.out.trans (by simp only [pThen_ok HRE.out, pThen_err hp])) (M7.out.1.aft ha)⟩
      obtain ⟨v3, rfl, hV3, hm⟩ := hq
      have hPF : pFunc l i = .ok (⟨nm, b, L, r⟩, j4) := HPR.out.trans (by simp only [pThen_ok HRE.out, pThen_ok hp]; rfl)
      have HPF := hid hPF
      obtain ⟨A3, c3, rfl, _, _⟩ := Kd.R_reads hV3
      obtain ⟨A2, c2, rfl, _, _⟩ := Kd.R_reads M7.out.2.1
      have f5 := hm.blk M7.out.2.2.1 HG.out.1
      have f6 := hm.blk M7.out.2.2.2 HG.out.2
      have M8 := hid (And.intro (Mv.trans HS.out M7.out.1 hm) (And.intro (R_mv M7.out.2.1 HBL.out hm) (And.intro (Kd.R_lower hV3 M7.out.1.size) (And.intro f5 f6))))
      have p3 := blk_put f5 3 (.slice A3 r.length c3) rfl
      have p0 := blk_far f6 (p := ⟨w3.heap.size, 3, none⟩) (show w.heap.size ≠ w3.heap.size from Nat.ne_of_lt H3.out) (.slice A3 r.length c3)
      have c3_ : w8.cell? ⟨w3.heap.size, 3, none⟩ = some (.slice none 0 0) := blk_cell f5 3
      have g3_ := blk_frozen f5 3
      have z0 : (w8.setCell ⟨w3.heap.size, 3, none⟩ (.slice A3 r.length c3)).cell? ⟨w3.heap.size, 0, none⟩ = some (.string nm) := blk_cell p3 0
      have z1 : (w8.setCell ⟨w3.heap.size, 3, none⟩ (.slice A3 r.length c3)).cell? ⟨w3.heap.size, 1, none⟩ = some (.int .i64 b) := blk_cell p3 1
      have z2 : (w8.setCell ⟨w3.heap.size, 3, none⟩ (.slice A3 r.length c3)).cell? ⟨w3.heap.size, 2, none⟩ = some (.slice A2 L.length c2) := blk_cell p3 2
      have z3 : (w8.setCell ⟨w3.heap.size, 3, none⟩ (.slice A3 r.length c3)).cell? ⟨w3.heap.size, 3, none⟩ = some (.slice A3 r.length c3) := blk_cell p3 3
      have y0 : (w8.setCell ⟨w3.heap.size, 3, none⟩ (.slice A3 r.length c3)).cell? ⟨w.heap.size, 0, none⟩ = some (.string ⟨#[]⟩) := blk_cell p0 0
      have x0 : (w8.setCell ⟨w3.heap.size, 3, none⟩ (.slice A3 r.length c3)).frozen? ⟨w.heap.size, 0, none⟩ = false := blk_frozen p0 0
      have y1 : (w8.setCell ⟨w3.heap.size, 3, none⟩ (.slice A3 r.length c3)).cell? ⟨w.heap.size, 1, none⟩ = some (.int .i64 0) := blk_cell p0 1
      have x1 : (w8.setCell ⟨w3.heap.size, 3, none⟩ (.slice A3 r.length c3)).frozen? ⟨w.heap.size, 1, none⟩ = false := blk_frozen p0 1
      have y2 : (w8.setCell ⟨w3.heap.size, 3, none⟩ (.slice A3 r.length c3)).cell? ⟨w.heap.size, 2, none⟩ = some (.slice none 0 0) := blk_cell p0 2
      have x2 : (w8.setCell ⟨w3.heap.size, 3, none⟩ (.slice A3 r.length c3)).frozen? ⟨w.heap.size, 2, none⟩ = false := blk_frozen p0 2
      have y3 : (w8.setCell ⟨w3.heap.size, 3, none⟩ (.slice A3 r.length c3)).cell? ⟨w.heap.size, 3, none⟩ = some (.slice none 0 0) := blk_cell p0 3
      have x3 : (w8.setCell ⟨w3.heap.size, 3, none⟩ (.slice A3 r.length c3)).frozen? ⟨w.heap.size, 3, none⟩ = false := blk_frozen p0 3
      have M9 := hid (And.intro (M8.out.1.set (Nat.le_of_lt H3.out) 3 (.slice A3 r.length c3)) (And.intro (R_setB M8.out.2.1 f5 (by simp [Kd.int, Kd.scalar]) 3 (.slice A3 r.length c3)) (And.intro (R_setB M8.out.2.2.1 f5 (by simp [k153, Kd.iso, Kd.pair, Kd.int, Kd.scalar, Kd.string]) 3 (.slice A3 r.length c3)) p0)))
      clear hp hm hPF hV3 M8 f5 f6 p3 p0
      go_wp2
      have r2 := set4 M9.out.2.1 M9.out.2.2.2 (by simp [Kd.int, Kd.scalar]) (.string nm) (.int .i64 b) (.slice A2 L.length c2) (.slice A3 r.length c3)
      have r3 := set4 M9.out.2.2.1 M9.out.2.2.2 (by simp [k153, Kd.iso, Kd.pair, Kd.int, Kd.scalar, Kd.string]) (.string nm) (.int .i64 b) (.slice A2 L.length c2) (.slice A3 r.length c3)
      refine bodyPost_ret (results_single rfl (.cell w.heap.size 124 #[.string nm, .int .i64 b, .slice A2 L.length c2, .slice A3 r.length c3] (0, 0) _ rfl (put4 M9.out.2.2.2 _ _ _ _) Try.underlying124 rfl (by kernel_rfl) .nil)) rfl ?_
      exact PP.ok HPF.out ⟨_, _, rfl, k124_mkM _ _ _ ⟨nm, b, L, r⟩ r2 r3⟩ (mvs4 M9.out.1 (Nat.le_refl _) _ _ _ _)
end Go.Proofs.Ytmcfihpbiilbcaa.H
end
section
namespace Go.Proofs.Ytmcfihpbiilbcaa.H
open Go.RowKit Go.Proofs.YtmcfihpbiilbcaaW.PrintWords Go.Proofs.YtmcfihpbiilbcaaW.PrintLast Go.Proofs.YtmcfihpbiilbcaaW.PrintMore Go.Proofs.Ytmcfihpbiilbcaa.E
set_option linter.unusedVariables false
set_option linter.unusedSimpArgs false
set_option maxRecDepth 100000 in
set_option maxHeartbeats 4000000 in
theorem getData_p (B : Nat) (l : List Int) (i : Int) (w : World) (h : Sc w B l i) (h0 : 0 ≤ i) (h1 : i ≤ l.length) (hl : l.length ≤ 140737488351232) (hb : Bytes l) :
    Calls Try.prog 115 #[.pointer (some ⟨B, 0, none⟩)] w (PP w B (pData l i) (fun a w' v => ∃ v5 v6, v = .agg #[.string a.f0, .int .i64 a.f1, .int .i64 a.f2, .bool a.f3, .int .i64 a.f4, v5, v6] ∧ k102.M w' w.heap.size (fun _ => True) a [.string a.f0, .int .i64 a.f1, .int .i64 a.f2, .bool a.f3, .int .i64 a.f4, v5, v6])) := by
  have HS := hid h
  have hBl := h.lt
  have HBL := hid hBl
  have a0 : 0 ≤ i ∧ i ≤ l.length := ⟨h0, h1⟩
  obtain ⟨W, hW⟩ : ∃ W, W = w.alloc (.cells #[.string ⟨#[]⟩, .int .i64 0, .int .i64 0, .bool false, .int .i64 0, .slice none 0 0, .slice none 0 0] 102) := ⟨_, rfl⟩
  have f0 := blk_new w (.cells #[.string ⟨#[]⟩, .int .i64 0, .int .i64 0, .bool false, .int .i64 0, .slice none 0 0, .slice none 0 0] 102)
  have hB4 := below_alloc (Below.refl w.heap.size w) (.cells #[.string ⟨#[]⟩, .int .i64 0, .int .i64 0, .bool false, .int .i64 0, .slice none 0 0, .slice none 0 0] 102)
  rw [← hW] at f0 hB4
  have HX := hid hW
  have hgB : w.heap.size ≠ B := by omega
  have M0 := hid (And.intro ((Mv.start h).mem hB4) f0)
  clear hW f0 hB4 h hBl h0 h1
  go_enter Try.func115, Try.ntmps115
  go_wp2_with fail
  try rw [← HX.out]
  refine (name_p B l i _ (M0.out.1.sc HS.out) a0.1 a0.2 hl hb).mono ?_
  rintro e w1 hq
  rcases hp : pName l i with x | ⟨nm, j1⟩ <;> rw [hp] at hq
  · obtain ⟨rfl, ha⟩ := hq
    exact ⟨rfl, PP.err (by simp only [pData, pThen_err hp]) (M0.out.1.aft ha)⟩
  obtain ⟨v, rfl, rfl, hm⟩ := hq
  have k1 := Bk.name l i hb a0.1 a0.2 nm j1 hp
  have P1 := hid hp
  have a1 : 0 ≤ j1 ∧ j1 ≤ l.length := ⟨by omega, k1.2.1⟩
  have M1 := hid (And.intro (Mv.trans HS.out M0.out.1 hm) (hm.blk M0.out.2 hgB))
  clear hp hm k1 M0 a0
  go_wp2_with fail
  refine (bind_p B l j1 _ (M1.out.1.sc HS.out) a1.1 a1.2 hl hb).mono ?_
  rintro e w2 hq
  rcases hp : pBind l j1 with x | ⟨b, j2⟩ <;> rw [hp] at hq
  · obtain ⟨rfl, ha⟩ := hq
    exact ⟨rfl, PP.err (by simp only [pData, pThen_ok P1.out, pThen_err hp]) (M1.out.1.aft ha)⟩
  obtain ⟨v, rfl, rfl, hm⟩ := hq
  have k1 := Bk.bind l j1 hb a1.1 a1.2 b j2 hp
  have P2 := hid hp
  have a2 : 0 ≤ j2 ∧ j2 ≤ l.length := ⟨by omega, k1.2.1⟩
  have M2 := hid (And.intro (Mv.trans HS.out M1.out.1 hm) (hm.blk M1.out.2 hgB))
  clear hp hm k1 M1 a1
  go_wp2_with fail
  refine (number_p B l j2 1 _ (M2.out.1.sc HS.out) a2.1 a2.2 (by omega) hl hb).mono ?_
  rintro e w3 hq
  rcases hp : pNum 1 l j2 with x | ⟨x2, j3⟩ <;> rw [hp] at hq
  · obtain ⟨rfl, ha⟩ := hq
    exact ⟨rfl, PP.err (by simp only [pData, pThen_ok P1.out, pThen_ok P2.out, pThen_err hp]) (M2.out.1.aft ha)⟩
  obtain ⟨v, rfl, rfl, hm⟩ := hq
  have k1 := Bk.num1 l j2 hb a2.1 a2.2 x2 j3 hp
  have P3 := hid hp
  have a3 : 0 ≤ j3 ∧ j3 ≤ l.length := ⟨by omega, k1.2.1⟩
  have M3a := hid (And.intro (Mv.trans HS.out M2.out.1 hm) (hm.blk M2.out.2 hgB))
  clear hp hm k1 M2 a2 HX
  obtain ⟨X, hX⟩ : ∃ W, W = w3.alloc (.cells #[.string nm, .int .i64 b, .int .i64 x2, .bool false, .int .i64 0, .slice none 0 0, .slice none 0 0] 102) := ⟨_, rfl⟩
  have f0 := blk_new w3 (.cells #[.string nm, .int .i64 b, .int .i64 x2, .bool false, .int .i64 0, .slice none 0 0, .slice none 0 0] 102)
  have hB4 := below_alloc (Below.refl w3.heap.size w3) (.cells #[.string nm, .int .i64 b, .int .i64 x2, .bool false, .int .i64 0, .slice none 0 0, .slice none 0 0] 102)
  rw [← hX] at f0 hB4
  have HX := hid hX
  have hgB3 : w3.heap.size ≠ B := by have := HBL.out; have := M3a.out.1.size; omega
  have hs3 : w.heap.size < w3.heap.size := blk_lt M3a.out.2
  have M3 := hid (And.intro (M3a.out.1.mem hB4) (And.intro f0 (blk_below M3a.out.2 hB4)))
  have HG := hid (And.intro hgB3 hgB)
  have H3 := hid hs3
  clear hX f0 hB4 hgB3 hgB M3a hs3
  go_wp2_with fail
  try rw [← HX.out]
  refine (number_p B l j3 1 _ (M3.out.1.sc HS.out) a3.1 a3.2 (by omega) hl hb).mono ?_
  rintro e w4 hq
  rcases hp : pNum 1 l j3 with x | ⟨fl, j4⟩ <;> rw [hp] at hq
  · obtain ⟨rfl, ha⟩ := hq
    exact ⟨rfl, PP.err (by simp only [pData, pThen_ok P1.out, pThen_ok P2.out, pThen_ok P3.out, pThen_err hp]) (M3.out.1.aft ha)⟩
  obtain ⟨v, rfl, rfl, hm⟩ := hq
  have k1 := Bk.num1 l j3 hb a3.1 a3.2 fl j4 hp
  have P4 := hid hp
  have a4 : 0 ≤ j4 ∧ j4 ≤ l.length := ⟨by omega, k1.2.1⟩
  have M4 := hid (And.intro (Mv.trans HS.out M3.out.1 hm) (And.intro (hm.blk M3.out.2.1 HG.out.1) (hm.blk M3.out.2.2 HG.out.2)))
  clear hp hm k1 M3 a3 HX
  go_wp2_with fail
  refine (must_p _ _ _).mono ?_
  rintro e w5 hq
  rcases hq with ⟨hb1, rfl, rfl⟩ | ⟨hb1, rfl, rfl⟩
  rotate_left
  · exact ⟨rfl, PP.err (by simp only [pData, pThen_ok P1.out, pThen_ok P2.out, pThen_ok P3.out, pThen_ok P4.out, hb1]; rfl) (M4.out.1.aft (Aft.self B _))⟩
  have hmm : pMust (decide (fl ≤ 1)) l j4 = .ok ((), j4) := by rw [hb1]; rfl
  have P5 := hid hmm
  clear hmm hb1
  have c3_ : w5.cell? ⟨w3.heap.size, 3, none⟩ = some (.bool false) := blk_cell M4.out.2.1 3
  have g3_ := blk_frozen M4.out.2.1 3
  obtain ⟨fb, hfb⟩ : ∃ fb, decide (fl = 1) = fb := ⟨_, rfl⟩
  have hfb2 : (fl == 1) = fb := by rw [← hfb]; rfl
  have HFB := hid hfb
  obtain ⟨X, hX⟩ : ∃ W, W = w5.setCell ⟨w3.heap.size, 3, none⟩ (.bool fb) := ⟨_, rfl⟩
  have HX := hid hX
  have M5 := hid (show Mv B w j4 X ∧ X.heap[w3.heap.size]? = some (.cells #[.string nm, .int .i64 b, .int .i64 x2, .bool fb, .int .i64 0, .slice none 0 0, .slice none 0 0] 102 (0, 0)) ∧ X.heap[w.heap.size]? = some (.cells #[.string ⟨#[]⟩, .int .i64 0, .int .i64 0, .bool false, .int .i64 0, .slice none 0 0, .slice none 0 0] 102 (0, 0)) from by
    rw [hX]
    exact ⟨M4.out.1.set (Nat.le_of_lt H3.out) 3 _, blk_put M4.out.2.1 3 (.bool fb) rfl, blk_far M4.out.2.2 (p := ⟨w3.heap.size, 3, none⟩) (show w.heap.size ≠ w3.heap.size from Nat.ne_of_lt H3.out) _⟩)
  clear hX
  clear M4
  go_wp2_with fail
  try rw [← HX.out]
  refine (number_p B l j4 2 _ (M5.out.1.sc HS.out) a4.1 a4.2 (by omega) hl hb).mono ?_
  rintro e w6 hq
  rcases hp : pNum 2 l j4 with x | ⟨x4, j5⟩ <;> rw [hp] at hq
  · obtain ⟨rfl, ha⟩ := hq
    exact ⟨rfl, PP.err (by simp only [pData, pThen_ok P1.out, pThen_ok P2.out, pThen_ok P3.out, pThen_ok P4.out, pThen_ok P5.out, pThen_err hp]) (M5.out.1.aft ha)⟩
  obtain ⟨v, rfl, rfl, hm⟩ := hq
  have k1 := Bk.num2 l j4 hb a4.1 a4.2 x4 j5 hp
  have P6 := hid hp
  have a6 : 0 ≤ j5 ∧ j5 ≤ l.length := ⟨by omega, k1.2.1⟩
  have M6a := hid (And.intro (Mv.trans HS.out M5.out.1 hm) (And.intro (hm.blk M5.out.2.1 HG.out.1) (hm.blk M5.out.2.2 HG.out.2)))
  clear hp hm k1 M5 a4 HX hfb hfb2 c3_ g3_
  have c3_ : w6.cell? ⟨w3.heap.size, 4, none⟩ = some (.int .i64 0) := blk_cell M6a.out.2.1 4
  have g3_ := blk_frozen M6a.out.2.1 4
  obtain ⟨X, hX⟩ : ∃ W, W = w6.setCell ⟨w3.heap.size, 4, none⟩ (.int .i64 x4) := ⟨_, rfl⟩
  have HX := hid hX
  have M6 := hid (show Mv B w j5 X ∧ X.heap[w3.heap.size]? = some (.cells #[.string nm, .int .i64 b, .int .i64 x2, .bool fb, .int .i64 x4, .slice none 0 0, .slice none 0 0] 102 (0, 0)) ∧ X.heap[w.heap.size]? = some (.cells #[.string ⟨#[]⟩, .int .i64 0, .int .i64 0, .bool false, .int .i64 0, .slice none 0 0, .slice none 0 0] 102 (0, 0)) from by
    rw [hX]
    exact ⟨M6a.out.1.set (Nat.le_of_lt H3.out) 4 _, blk_put M6a.out.2.1 4 (.int .i64 x4) rfl, blk_far M6a.out.2.2 (p := ⟨w3.heap.size, 4, none⟩) (show w.heap.size ≠ w3.heap.size from Nat.ne_of_lt H3.out) _⟩)
  clear hX
  clear M6a
  go_wp2_with fail
  try rw [← HX.out]
  refine (count_p B l j5 4096 _ (M6.out.1.sc HS.out) a6.1 a6.2 hl hb).mono ?_
  rintro e w7 hq
  rcases hp : pCount 4096 l j5 with x | ⟨z, j6⟩ <;> rw [hp] at hq
  · obtain ⟨rfl, ha⟩ := hq
    exact ⟨rfl, PP.err (by simp only [pData, pThen_ok P1.out, pThen_ok P2.out, pThen_ok P3.out, pThen_ok P4.out, pThen_ok P5.out, pThen_ok P6.out, pThen_err hp]) (M6.out.1.aft ha)⟩
  obtain ⟨v, rfl, rfl, hm⟩ := hq
  have k1 := Bk.count 4096 l j5 hb a6.1 a6.2 z j6 hp
  have P7 := hid hp
  have a7 : 0 ≤ j6 ∧ j6 ≤ l.length := ⟨by omega, k1.2.1⟩
  have M7 := hid (And.intro (Mv.trans HS.out M6.out.1 hm) (And.intro (hm.blk M6.out.2.1 HG.out.1) (hm.blk M6.out.2.2 HG.out.2)))
  have hz0 : 0 ≤ z := k1.2.2.2.1
  clear hp hm k1 M6 a6 HX c3_ g3_
  go_wp2_with fail
  refine (bytes_p B l j6 z _ (M7.out.1.sc HS.out) a7.1 a7.2 hz0 hl).mono ?_
  rintro e w8 hq
  rcases hp : pBytes z l j6 with x | ⟨y, j7⟩ <;> rw [hp] at hq
  · obtain ⟨rfl, ha⟩ := hq
    exact ⟨rfl, PP.err (by simp only [pData, pThen_ok P1.out, pThen_ok P2.out, pThen_ok P3.out, pThen_ok P4.out, pThen_ok P5.out, pThen_ok P6.out, pThen_ok P7.out, pThen_err hp]) (M7.out.1.aft ha)⟩
  obtain ⟨v, rfl, hV, hm⟩ := hq
  have k1 := Bk.bytes z hz0 l j6 hb a7.1 a7.2 y j7 hp
  have P8 := hid hp
  have a8 : 0 ≤ j7 ∧ j7 ≤ l.length := ⟨by omega, k1.2.1⟩
  obtain ⟨A5, c5, rfl, _, _⟩ := Kd.R_reads hV
  have M8a := hid (And.intro (Mv.trans HS.out M7.out.1 hm) (And.intro (hm.blk M7.out.2.1 HG.out.1) (And.intro (hm.blk M7.out.2.2 HG.out.2) (Kd.R_lower hV M7.out.1.size))))
  clear hp hm k1 M7 a7 hV
  have c3_ : w8.cell? ⟨w3.heap.size, 5, none⟩ = some (.slice none 0 0) := blk_cell M8a.out.2.1 5
  have g3_ := blk_frozen M8a.out.2.1 5
  obtain ⟨X, hX⟩ : ∃ W, W = w8.setCell ⟨w3.heap.size, 5, none⟩ (.slice A5 y.length c5) := ⟨_, rfl⟩
  have HX := hid hX
  have M8 := hid (show Mv B w j7 X ∧ X.heap[w3.heap.size]? = some (.cells #[.string nm, .int .i64 b, .int .i64 x2, .bool fb, .int .i64 x4, .slice A5 y.length c5, .slice none 0 0] 102 (0, 0)) ∧ X.heap[w.heap.size]? = some (.cells #[.string ⟨#[]⟩, .int .i64 0, .int .i64 0, .bool false, .int .i64 0, .slice none 0 0, .slice none 0 0] 102 (0, 0)) ∧ (Kd.int .u8).R 5 X w.heap.size (fun _ => True) (.slice A5 y.length c5) y from by
    rw [hX]
    exact ⟨M8a.out.1.set (Nat.le_of_lt H3.out) 5 _, blk_put M8a.out.2.1 5 (.slice A5 y.length c5) rfl, blk_far M8a.out.2.2.1 (p := ⟨w3.heap.size, 5, none⟩) (show w.heap.size ≠ w3.heap.size from Nat.ne_of_lt H3.out) _, R_setB M8a.out.2.2.2 M8a.out.2.1 (by simp [k153, Kd.iso, Kd.pair, Kd.int, Kd.scalar, Kd.string]) 5 _⟩)
  clear hX
  clear M8a
  go_wp2_with fail
  try rw [← HX.out]
  refine (getRels_p B l j7 _ (M8.out.1.sc HS.out) a8.1 a8.2 hl hb).mono ?_
  rintro e w9 hq
  rcases hp : pRels l j7 with x | ⟨r, j8⟩ <;> rw [hp] at hq
  · obtain ⟨rfl, ha⟩ := hq
    exact ⟨rfl, PP.err (by simp only [pData, pThen_ok P1.out, pThen_ok P2.out, pThen_ok P3.out, pThen_ok P4.out, pThen_ok P5.out, pThen_ok P6.out, pThen_ok P7.out, pThen_ok P8.out, pThen_err hp]) (M8.out.1.aft ha)⟩
  obtain ⟨v, rfl, hV, hm⟩ := hq
  have k1 := Bk.rels l j7 hb a8.1 a8.2 r j8 hp
  have P9 := hid hp
  have a9 : 0 ≤ j8 ∧ j8 ≤ l.length := ⟨by omega, k1.2.1⟩
  obtain ⟨A6, c6, rfl, _, _⟩ := Kd.R_reads hV
  have hPF : pData l i = .ok (⟨nm, b, x2, fb, x4, y, r⟩, j8) := by simp only [pData, pThen_ok P1.out, pThen_ok P2.out, pThen_ok P3.out, pThen_ok P4.out, pThen_ok P5.out, pThen_ok P6.out, pThen_ok P7.out, pThen_ok P8.out, pThen_ok P9.out, HFB.out]; rfl
  have HPF := hid hPF
  have M9a := hid (And.intro (Mv.trans HS.out M8.out.1 hm) (And.intro (hm.blk M8.out.2.1 HG.out.1) (And.intro (hm.blk M8.out.2.2.1 HG.out.2) (And.intro (R_mv M8.out.2.2.2 HBL.out hm) (Kd.R_lower hV M8.out.1.size)))))
  clear hp hm k1 M8 a8 hV HX c3_ g3_ hPF
  have c3_ : w9.cell? ⟨w3.heap.size, 6, none⟩ = some (.slice none 0 0) := blk_cell M9a.out.2.1 6
  have g3_ := blk_frozen M9a.out.2.1 6
  have p3 := blk_put M9a.out.2.1 6 (.slice A6 r.length c6) rfl
  have p0 := blk_far M9a.out.2.2.1 (p := ⟨w3.heap.size, 6, none⟩) (show w.heap.size ≠ w3.heap.size from Nat.ne_of_lt H3.out) (.slice A6 r.length c6)
  have z0 : (w9.setCell ⟨w3.heap.size, 6, none⟩ (.slice A6 r.length c6)).cell? ⟨w3.heap.size, 0, none⟩ = some (.string nm) := blk_cell p3 0
  have z1 : (w9.setCell ⟨w3.heap.size, 6, none⟩ (.slice A6 r.length c6)).cell? ⟨w3.heap.size, 1, none⟩ = some (.int .i64 b) := blk_cell p3 1
  have z2 : (w9.setCell ⟨w3.heap.size, 6, none⟩ (.slice A6 r.length c6)).cell? ⟨w3.heap.size, 2, none⟩ = some (.int .i64 x2) := blk_cell p3 2
  have z3 : (w9.setCell ⟨w3.heap.size, 6, none⟩ (.slice A6 r.length c6)).cell? ⟨w3.heap.size, 3, none⟩ = some (.bool fb) := blk_cell p3 3
  have z4 : (w9.setCell ⟨w3.heap.size, 6, none⟩ (.slice A6 r.length c6)).cell? ⟨w3.heap.size, 4, none⟩ = some (.int .i64 x4) := blk_cell p3 4
  have z5 : (w9.setCell ⟨w3.heap.size, 6, none⟩ (.slice A6 r.length c6)).cell? ⟨w3.heap.size, 5, none⟩ = some (.slice A5 y.length c5) := blk_cell p3 5
  have z6 : (w9.setCell ⟨w3.heap.size, 6, none⟩ (.slice A6 r.length c6)).cell? ⟨w3.heap.size, 6, none⟩ = some (.slice A6 r.length c6) := blk_cell p3 6
  have yc0 : (w9.setCell ⟨w3.heap.size, 6, none⟩ (.slice A6 r.length c6)).cell? ⟨w.heap.size, 0, none⟩ = some (.string ⟨#[]⟩) := blk_cell p0 0
  have xf0 : (w9.setCell ⟨w3.heap.size, 6, none⟩ (.slice A6 r.length c6)).frozen? ⟨w.heap.size, 0, none⟩ = false := blk_frozen p0 0
  have yc1 : (w9.setCell ⟨w3.heap.size, 6, none⟩ (.slice A6 r.length c6)).cell? ⟨w.heap.size, 1, none⟩ = some (.int .i64 0) := blk_cell p0 1
  have xf1 : (w9.setCell ⟨w3.heap.size, 6, none⟩ (.slice A6 r.length c6)).frozen? ⟨w.heap.size, 1, none⟩ = false := blk_frozen p0 1
  have yc2 : (w9.setCell ⟨w3.heap.size, 6, none⟩ (.slice A6 r.length c6)).cell? ⟨w.heap.size, 2, none⟩ = some (.int .i64 0) := blk_cell p0 2
  have xf2 : (w9.setCell ⟨w3.heap.size, 6, none⟩ (.slice A6 r.length c6)).frozen? ⟨w.heap.size, 2, none⟩ = false := blk_frozen p0 2
  have yc3 : (w9.setCell ⟨w3.heap.size, 6, none⟩ (.slice A6 r.length c6)).cell? ⟨w.heap.size, 3, none⟩ = some (.bool false) := blk_cell p0 3
  have xf3 : (w9.setCell ⟨w3.heap.size, 6, none⟩ (.slice A6 r.length c6)).frozen? ⟨w.heap.size, 3, none⟩ = false := blk_frozen p0 3
  have yc4 : (w9.setCell ⟨w3.heap.size, 6, none⟩ (.slice A6 r.length c6)).cell? ⟨w.heap.size, 4, none⟩ = some (.int .i64 0) := blk_cell p0 4
  have xf4 : (w9.setCell ⟨w3.heap.size, 6, none⟩ (.slice A6 r.length c6)).frozen? ⟨w.heap.size, 4, none⟩ = false := blk_frozen p0 4
  have yc5 : (w9.setCell ⟨w3.heap.size, 6, none⟩ (.slice A6 r.length c6)).cell? ⟨w.heap.size, 5, none⟩ = some (.slice none 0 0) := blk_cell p0 5
  have xf5 : (w9.setCell ⟨w3.heap.size, 6, none⟩ (.slice A6 r.length c6)).frozen? ⟨w.heap.size, 5, none⟩ = false := blk_frozen p0 5
  have yc6 : (w9.setCell ⟨w3.heap.size, 6, none⟩ (.slice A6 r.length c6)).cell? ⟨w.heap.size, 6, none⟩ = some (.slice none 0 0) := blk_cell p0 6
  have xf6 : (w9.setCell ⟨w3.heap.size, 6, none⟩ (.slice A6 r.length c6)).frozen? ⟨w.heap.size, 6, none⟩ = false := blk_frozen p0 6
  have M9 := hid (And.intro (M9a.out.1.set (Nat.le_of_lt H3.out) 6 (.slice A6 r.length c6)) (And.intro (R_setB M9a.out.2.2.2.1 M9a.out.2.1 (by simp [Kd.int, Kd.scalar]) 6 (.slice A6 r.length c6)) (And.intro (R_setB M9a.out.2.2.2.2 M9a.out.2.1 (by simp [k153, Kd.iso, Kd.pair, Kd.int, Kd.scalar, Kd.string]) 6 (.slice A6 r.length c6)) p0)))
  clear M9a p3 p0
  go_wp2
  have r2 := set7 M9.out.2.1 M9.out.2.2.2 (by simp [Kd.int, Kd.scalar]) (.string nm) (.int .i64 b) (.int .i64 x2) (.bool fb) (.int .i64 x4) (.slice A5 y.length c5) (.slice A6 r.length c6)
  have r3 := set7 M9.out.2.2.1 M9.out.2.2.2 (by simp [k153, Kd.iso, Kd.pair, Kd.int, Kd.scalar, Kd.string]) (.string nm) (.int .i64 b) (.int .i64 x2) (.bool fb) (.int .i64 x4) (.slice A5 y.length c5) (.slice A6 r.length c6)
  refine bodyPost_ret (results_single rfl (.cell w.heap.size 102 #[.string nm, .int .i64 b, .int .i64 x2, .bool fb, .int .i64 x4, .slice A5 y.length c5, .slice A6 r.length c6] (0, 0) _ rfl (put7 M9.out.2.2.2 _ _ _ _ _ _ _) Try.underlying102 rfl (by kernel_rfl) .nil)) rfl ?_
  exact PP.ok HPF.out ⟨_, _, rfl, k102_mkM _ _ _ ⟨nm, b, x2, fb, x4, y, r⟩ r2 r3⟩ (mvs7 M9.out.1 (Nat.le_refl _) _ _ _ _ _ _ _)
end Go.Proofs.Ytmcfihpbiilbcaa.H
end
section
namespace Go.Proofs.Ytmcfihpbiilbcaa.H
open Go.RowKit Go.Proofs.YtmcfihpbiilbcaaW.PrintWords Go.Proofs.YtmcfihpbiilbcaaW.PrintLast Go.Proofs.YtmcfihpbiilbcaaW.PrintMore Go.Proofs.Ytmcfihpbiilbcaa.E
set_option linter.unusedVariables false
set_option linter.unusedSimpArgs false
theorem enter_113 (args : Array Value) (w : World) : (callFunc 113 args).run Try.prog w = .ok (.enter 113 args) w := Go.MuLone.run_callFunc_enter Try.func113 (by kernel_rfl) rfl args w
theorem info124 : (Try.prog.info? 124).map (fun i => (i.zero, i.size, i.bytes)) = some (some (.agg #[.string ⟨#[]⟩, .int .i64 0, .slice none 0 0, .slice none 0 0]), 4, 72) := by kernel_rfl
theorem info102 : (Try.prog.info? 102).map (fun i => (i.zero, i.size, i.bytes)) = some (some (.agg #[.string ⟨#[]⟩, .int .i64 0, .int .i64 0, .bool false, .int .i64 0, .slice none 0 0, .slice none 0 0]), 7, 96) := by kernel_rfl
theorem info122 : (Try.prog.info? 122).map (fun i => (i.zero, i.size, i.bytes)) = some (some (.agg #[.string ⟨#[]⟩, .int .i64 0]), 2, 24) := by kernel_rfl
theorem magicO_q (m : List Int) (h : Bytes m) : ((strOfNums m).toList == [83, 80, 76, 49]) = decide (m = [83, 80, 76, 49]) := by
  have hk := strEq m [83, 80, 76, 49] h (by intro x hx; simp at hx; omega)
  have e : (strOfNums [83, 80, 76, 49]).toList = [83, 80, 76, 49] := by rw [Lib.strOfNums_toList]; rfl
  rw [e] at hk
  exact hk
structure OS (w : World) (B N n0 b0 : Nat) (l : List Int) (wx : World) (i : Int) (v0 v1 v2 : Value) (F : List S124) (D : List S102) (M : List S122) : Prop where
  st : St w B N n0 91 wx l i #[v0, v1, v2]
  sz : b0 ≤ wx.heap.size
  f : k124.R 124 wx b0 (fun _ => True) v0 F
  d : k102.R 102 wx b0 (fun _ => True) v1 D
  n : k122.R 122 wx b0 (fun _ => True) v2 M
section
variable {w wx w1 w6 : World} {B N n0 b0 : Nat} {l : List Int} {i j : Int} {v0 v1 v2 v6 : Value} {F F' : List S124} {D D' : List S102} {M M' : List S122}
theorem OS.scan (h : OS w B N n0 b0 l wx i v0 v1 v2 F D M) (hB : B < b0) (hm : Mv B wx j w1) : OS w B N n0 b0 l w1 j v0 v1 v2 F D M :=
  ⟨h.st.scan hm, Nat.le_trans h.sz hm.size, R_mv h.f hB hm, R_mv h.d hB hm, R_mv h.n hB hm⟩
theorem OS.drew (h : OS w B N n0 b0 l wx i v0 v1 v2 F D M) : OS w B N n0 b0 l wx.drew i v0 v1 v2 F D M :=
  ⟨h.st.drew, h.sz, Kd.R_drew h.f, Kd.R_drew h.d, Kd.R_drew h.n⟩
theorem R_growns {α β : Type} {d : Kd α} {d' : Kd β} {e e' base base' : Nat} {W W' : World} {u v : Value} {xs : List α} {ys : List β} (h : d.R e W base (fun _ => True) u xs) (hv : d'.R e' W base' (fun _ => True) v ys) (ht : ∀ q, q ∈ e :: d.E → q ≠ e') (hg : W.grownBy W' v.ownBlock) : d.R e W' base (fun _ => True) u xs :=
  R_all (Kd.R_grown (Kd.R_apartR h hv ht) hg (fun k hk => hk.2))
theorem OS.appF (h : OS w B N n0 b0 l wx i v0 v1 v2 F D M) (hn : n0 ≤ b0) (hg : wx.grownBy w6 v0.ownBlock) (hb : Below b0 wx w6) (hr : k124.R 124 w6 b0 (fun _ => True) v6 F') :
    w6.cell? ⟨N, 0, none⟩ = some v0 ∧ w6.frozen? ⟨N, 0, none⟩ = false ∧ OS w B N n0 b0 l (w6.setCell ⟨N, 0, none⟩ v6) i v6 v1 v2 F' D M := by
  have hs := h.st.row hg (fun k hk => by obtain ⟨inner, ho⟩ := Kd.R_own h.f; exact ⟨Nat.le_trans hn (Kd.R_base h.f k hk), own_typed ho k hk⟩) (e := 124) (by decide) (by decide) (by decide) (by decide)
  have hd := R_growns h.d h.f (by simp [k102, k153, Kd.slice, Kd.iso, Kd.pair, Kd.int, Kd.scalar, Kd.string, Kd.bool]) hg
  have hm := R_growns h.n h.f (by simp [k122, Kd.slice, Kd.iso, Kd.pair, Kd.int, Kd.scalar, Kd.string, Kd.bool]) hg
  exact ⟨blk_cell hs.var 0, blk_frozen hs.var 0, hs.put (by decide) 0 v6, by have := hb.size; have := h.sz; simp; omega, Kd.R_set hr hs.var (by simp [k124, k153, Kd.slice, Kd.iso, Kd.pair, Kd.int, Kd.scalar, Kd.string, Kd.bool]) 0 v6, Kd.R_set hd hs.var (by simp [k102, k153, Kd.slice, Kd.iso, Kd.pair, Kd.int, Kd.scalar, Kd.string, Kd.bool]) 0 v6, Kd.R_set hm hs.var (by simp [k122, Kd.slice, Kd.iso, Kd.pair, Kd.int, Kd.scalar, Kd.string, Kd.bool]) 0 v6⟩
theorem OS.appD (h : OS w B N n0 b0 l wx i v0 v1 v2 F D M) (hn : n0 ≤ b0) (hg : wx.grownBy w6 v1.ownBlock) (hb : Below b0 wx w6) (hr : k102.R 102 w6 b0 (fun _ => True) v6 D') :
    w6.cell? ⟨N, 1, none⟩ = some v1 ∧ w6.frozen? ⟨N, 1, none⟩ = false ∧ OS w B N n0 b0 l (w6.setCell ⟨N, 1, none⟩ v6) i v0 v6 v2 F D' M := by
  have hs := h.st.row hg (fun k hk => by obtain ⟨inner, ho⟩ := Kd.R_own h.d; exact ⟨Nat.le_trans hn (Kd.R_base h.d k hk), own_typed ho k hk⟩) (e := 102) (by decide) (by decide) (by decide) (by decide)
  have hf := R_growns h.f h.d (by simp [k124, k153, Kd.slice, Kd.iso, Kd.pair, Kd.int, Kd.scalar, Kd.string, Kd.bool]) hg
  have hm := R_growns h.n h.d (by simp [k122, Kd.slice, Kd.iso, Kd.pair, Kd.int, Kd.scalar, Kd.string, Kd.bool]) hg
  exact ⟨blk_cell hs.var 1, blk_frozen hs.var 1, hs.put (by decide) 1 v6, by have := hb.size; have := h.sz; simp; omega, Kd.R_set hf hs.var (by simp [k124, k153, Kd.slice, Kd.iso, Kd.pair, Kd.int, Kd.scalar, Kd.string, Kd.bool]) 1 v6, Kd.R_set hr hs.var (by simp [k102, k153, Kd.slice, Kd.iso, Kd.pair, Kd.int, Kd.scalar, Kd.string, Kd.bool]) 1 v6, Kd.R_set hm hs.var (by simp [k122, Kd.slice, Kd.iso, Kd.pair, Kd.int, Kd.scalar, Kd.string, Kd.bool]) 1 v6⟩
theorem OS.appN (h : OS w B N n0 b0 l wx i v0 v1 v2 F D M) (hn : n0 ≤ b0) (hg : wx.grownBy w6 v2.ownBlock) (hb : Below b0 wx w6) (hr : k122.R 122 w6 b0 (fun _ => True) v6 M') :
    w6.cell? ⟨N, 2, none⟩ = some v2 ∧ w6.frozen? ⟨N, 2, none⟩ = false ∧ OS w B N n0 b0 l (w6.setCell ⟨N, 2, none⟩ v6) i v0 v1 v6 F D M' := by
  have hs := h.st.row hg (fun k hk => by obtain ⟨inner, ho⟩ := Kd.R_own h.n; exact ⟨Nat.le_trans hn (Kd.R_base h.n k hk), own_typed ho k hk⟩) (e := 122) (by decide) (by decide) (by decide) (by decide)
  have hf := R_growns h.f h.n (by simp [k124, k153, Kd.slice, Kd.iso, Kd.pair, Kd.int, Kd.scalar, Kd.string, Kd.bool]) hg
  have hd := R_growns h.d h.n (by simp [k102, k153, Kd.slice, Kd.iso, Kd.pair, Kd.int, Kd.scalar, Kd.string, Kd.bool]) hg
  exact ⟨blk_cell hs.var 2, blk_frozen hs.var 2, hs.put (by decide) 2 v6, by have := hb.size; have := h.sz; simp; omega, Kd.R_set hf hs.var (by simp [k124, k153, Kd.slice, Kd.iso, Kd.pair, Kd.int, Kd.scalar, Kd.string, Kd.bool]) 2 v6, Kd.R_set hd hs.var (by simp [k102, k153, Kd.slice, Kd.iso, Kd.pair, Kd.int, Kd.scalar, Kd.string, Kd.bool]) 2 v6, Kd.R_set hr hs.var (by simp [k122, Kd.slice, Kd.iso, Kd.pair, Kd.int, Kd.scalar, Kd.string, Kd.bool]) 2 v6⟩
end
theorem readO_err {l : List Int} {x : Int} (h : pObj l 0 = .error x) : readO l = .error x := by unfold readO; rw [h]
theorem readO_ok {l : List Int} {o : O3} {j : Int} (h : pObj l 0 = .ok (o, j)) : readO l = if j < l.length then .error 2 else .ok o := by unfold readO; rw [h]
def ObjPost (w : World) (N n0 : Nat) (l : List Int) (w2 : World) (x : Int) : Prop :=
  Below n0 w w2 ∧ w2.heap[w.heap.size]? = some (.cells #[.int .i64 0] 25 (0, 0)) ∧ (∀ y, readO l = .error y → x = y) ∧
    ∀ o : O3, readO l = .ok o → x = 0 ∧ ∃ v0 v1 v2, w2.heap[N]? = some (.cells #[v0, v1, v2] 91 (0, 0)) ∧ k124.R 124 w2 n0 (fun _ => True) v0 o.1 ∧ k102.R 102 w2 n0 (fun _ => True) v1 o.2.1 ∧ k122.R 122 w2 n0 (fun _ => True) v2 o.2.2
theorem ObjPost.fail {w w2 : World} {B N n0 : Nat} {l : List Int} {x : Int} (h : w2.heap[w.heap.size]? = some (.cells #[.int .i64 0] 25 (0, 0)) ∧ Below n0 w w2) (hx : pObj l 0 = .error x) : ReadPost w l B (ObjPost w N n0 l) (.panicked (fail_ x)) w2 :=
  .inr ⟨x, rfl, h.1, h.2, h.1, fun y hy => by rw [readO_err hx] at hy; cases hy; rfl, fun o ho => by rw [readO_err hx] at ho; cases ho⟩
set_option maxRecDepth 100000 in
set_option maxHeartbeats 8000000 in
theorem read113 (w w1 : World) (B N n0 : Nat) (l : List Int) (hF : Fresh w w1 B l) (hN : w.heap[N]? = some (.cells #[.slice none 0 0, .slice none 0 0, .slice none 0 0] 91 (0, 0))) (hle : n0 ≤ N) (hb : Bytes l) (hl : l.length ≤ 140737488351232) :
    Calls Try.prog 113 (#[.pointer (some ⟨B, 0, none⟩)] ++ #[.pointer (some ⟨N, 0, none⟩)]) w1 (ReadPost w l B (ObjPost w N n0 l)) := by
  have hst := St.start (t := 91) hF hN hle
  obtain ⟨b0, hb0⟩ : ∃ b, b = w1.heap.size := ⟨_, rfl⟩
  have hBl : B < b0 := by rw [hb0]; exact hF.sc.lt
  have hn : n0 ≤ b0 := by have := hst.lt; have := hst.gt; omega
  have H0 := hid (show OS w B N n0 b0 l w1 0 (.slice none 0 0) (.slice none 0 0) (.slice none 0 0) [] [] [] from ⟨hst, by omega, Kd.R_nil _ _ _ _ _, Kd.R_nil _ _ _ _ _, Kd.R_nil _ _ _ _ _⟩)
  have HBL := hid hBl
  have HN := hid hn
  clear hF hN hst hb0 hBl hn
  go_enter Try.func113, Try.ntmps113
  go_wp2_with fail
  refine (bytes_p B l 0 4 _ H0.out.st.sc (Int.le_refl 0) (by omega) (by omega) hl).mono ?_
  rintro e w2 hq
  rcases hp : pBytes 4 l 0 with x | ⟨m, j⟩ <;> rw [hp] at hq
  · obtain ⟨rfl, ha⟩ := hq
    exact ⟨rfl, ObjPost.fail (H0.out.st.fail ha) (by simp only [pObj, pThen_err hp])⟩
  obtain ⟨v, rfl, hR, hm⟩ := hq
  have k1 := Bk.bytes 4 (by omega) l 0 hb (Int.le_refl 0) (by omega) m j hp
  have a1 : 0 ≤ j ∧ j ≤ l.length := ⟨k1.1, k1.2.1⟩
  obtain ⟨A2, c2, rfl, hc2, hC2⟩ := Kd.R_reads hR
  have hstr := Kd.C_string (c := c2) Try.underlying22 Try.underlying5 Try.underlying9 hC2
  have hq := magicO_q m k1.2.2.2.1
  have HMG := hid hq
  have PB := hid hp
  have H1 := hid (H0.out.scan HBL.out hm)
  clear hp hm hR hC2 k1 hq H0
  go_wp2_with fail
  rw [HMG.out]
  refine (must_p _ _ _).mono ?_
  rintro e w3 hq
  rcases hq with ⟨hb1, rfl, rfl⟩ | ⟨hb1, rfl, rfl⟩
  rotate_left
  · exact ⟨rfl, ObjPost.fail (H1.out.st.fail (Aft.self B _)) (by simp only [pObj, pThen_ok PB.out, hb1]; rfl)⟩
  have hmm : pMust (decide (m = [83, 80, 76, 49])) l j = .ok ((), j) := by rw [hb1]; rfl
  have PM := hid hmm
  clear hmm hb1 hstr HMG
  go_wp2_with fail
  refine (count_p B l j 64 _ H1.out.st.sc a1.1 a1.2 hl hb).mono ?_
  rintro e wc hq
  rcases hp : pCount 64 l j with x | ⟨nn, j0⟩ <;> rw [hp] at hq
  · obtain ⟨rfl, ha⟩ := hq
    exact ⟨rfl, ObjPost.fail (H1.out.st.fail ha) (by simp only [pObj, pThen_ok PB.out, pThen_ok PM.out, pThen_err hp])⟩
  obtain ⟨v, rfl, rfl, hm⟩ := hq
  have k1 := Bk.count 64 l j hb a1.1 a1.2 nn j0 hp
  obtain ⟨n0', rfl⟩ : ∃ n : Nat, nn = n := ⟨nn.toNat, by have := k1.2.2.2.1; omega⟩
  have hn0 : n0' ≤ 64 := by have := k1.2.2.2.2.2; omega
  have b0' : 0 ≤ j0 ∧ j0 ≤ l.length := ⟨by omega, k1.2.1⟩
  have PC0 := hid hp
  have HQ0 := hid (H1.out.scan HBL.out hm)
  clear hp hm k1 H1
  go_wp2
  go_loopw [11] (fun s11 wx => ∃ (k : Nat) (L : List S124) (i' : Int) (v : Value), k ≤ n0' ∧ s11 = .int .i64 k ∧ 0 ≤ i' ∧ i' ≤ l.length ∧ Hid (Rep pFunc n0' l j0 k L i' ∧ OS w B N n0 b0 l wx i' v (.slice none 0 0) (.slice none 0 0) L [] [])) (fun s11 _ => n0' - (intOf s11).toNat)
  case atStart => exact ⟨0, [], j0, _, by omega, rfl, b0'.1, b0'.2, hid ⟨rep0 _ _ _ _, HQ0.out⟩⟩
  case round =>
    obtain ⟨k, L, i', v0, hk, rfl, hi0, hi1, hI⟩ := hrel
    by_cases hlt : (k : Int) < (n0' : Int)
    · have e3 : IntKind.i64.wrap ((k : Int) + 1) = (k : Int) + 1 := IntWalk.i64_in _ (by omega)
      have hk1 : k < n0' := by omega
      have HI := hid hI.out.1
      have HD := hid hI.out.2.drew
      clear hI
      go_wp2
      refine start_ (n := 8) (S := fun W => W.cell? ⟨N, 0, none⟩ = some v0) (ds := [7]) #[false, false, false, false, false, false, false, false] (by kernel_rfl) rfl rfl (blk_cell HD.out.st.var 0) (fun hHeld => ?_)
      refine pure_ (i := 0) (N := (some 13)) (v := ?_) (a' := ?_) #[true, false, false, false, false, false, false, false] rfl rfl (by kernel_rfl) (fun _ _ _ h => h) (Or.inl ⟨by rfl, ?_⟩) ?_ ?_
      rotate_left
      · intro w'
        go_simp
        with_reducible rfl
      rotate_left
      · simp only [Act.put, List.setIfInBounds_toArray, List.set_cons_zero, List.set_cons_succ, i64_w]
        rfl
      refine take_ (i := 1) (N := (some 14)) (v := ?_) (a' := ?_) #[true, true, false, false, false, false, false, false] rfl rfl (by kernel_rfl) (fun _ _ _ h => h) (Or.inl ⟨by rfl, ?_⟩) hHeld ?_ ?_
      rotate_left
      · rintro w' s0
        go_simp
        with_reducible rfl
      rotate_left
      · simp only [Act.put, List.setIfInBounds_toArray, List.set_cons_zero, List.set_cons_succ, i64_w]
        rfl
      refine pure_ (i := 2) (N := (some 15)) (v := ?_) (a' := ?_) #[true, true, true, false, false, false, false, false] rfl rfl (by kernel_rfl) (fun _ _ _ h => h) (Or.inl ⟨by rfl, ?_⟩) ?_ ?_
      rotate_left
      · intro w'
        go_simp
        with_reducible rfl
      rotate_left
      · simp only [Act.put, List.setIfInBounds_toArray, List.set_cons_zero, List.set_cons_succ, i64_w]
        rfl
      refine one_ (i := 3) (N := (some 16)) #[true, true, true, true, false, false, false, false] rfl rfl (by kernel_rfl) (by decide) (fun K hK => ?_)
      refine may_ Try.func114 (by kernel_rfl) rfl #[.pointer (some ⟨B, 0, none⟩)] (by rfl) rfl rfl (by first | rfl | (simp only [List.map_toArray, List.map_cons, List.map_nil]; rfl)) ?_
      refine (getFunc_p B l i' _ HD.out.st.sc hi0 hi1 hl hb).mono ?_
      rintro e' wA hq
      rcases hp : pFunc l i' with x | ⟨a, j4⟩ <;> rw [hp] at hq
      · obtain ⟨rfl, ha⟩ := hq
        exact Or.inl ⟨_, rfl, rfl, ObjPost.fail (HD.out.st.fail ha) (by simp only [pObj, pThen_ok PB.out, pThen_ok PM.out, pThen_ok PC0.out, Int.toNat_natCast, pThen_err (rep_err HI.out hk1 hp)])⟩
      obtain ⟨v', rfl, ⟨u2, u3, rfl, hM⟩, hm⟩ := hq
      have k1 := Bk.func l i' hb hi0 hi1 a j4 hp
      have hr2 := rep_ok HI.out hk1 hp
      have HR2 := hid hr2
      have a4 : 0 ≤ j4 ∧ j4 ≤ l.length := ⟨by omega, k1.2.1⟩
      obtain ⟨t2, t3, hcs, g2, g3⟩ := k124_openM hM
      simp only [List.cons.injEq, true_and, and_true] at hcs
      obtain ⟨rfl, rfl⟩ := hcs
      obtain ⟨A2, c2, rfl, _, _⟩ := Kd.R_reads g2
      obtain ⟨A3, c3, rfl, _, _⟩ := Kd.R_reads g3
      have HM := hid (k124.M_lower HD.out.sz (k124.M_mono (ok' := fun k => wr.drew.heap.size ≤ k) (fun k hk => hk.2.1) (k124.M_bound hM)))
      have HLT := hid (Kd.R_lt HD.out.f)
      have HW := hid (HD.out.scan HBL.out hm)
      clear hm k1 hr2 hp HD hM g2 g3
      refine Or.inr ⟨_, rfl, ?_⟩
      refine hK.out _ _ (blk_cell HW.out.st.var 0) (fun hHeld => ?_)
      clear hK K
      refine norm_ (a' := ?_) ?_ ?_
      rotate_left
      · show Act.put _ (some 16) _ = _
        simp only [Act.put, List.setIfInBounds_toArray, List.set_cons_zero, List.set_cons_succ, i64_w]
        rfl
      refine one_ (i := 4) (N := (some 17)) #[true, true, true, true, true, false, false, false] rfl rfl (by kernel_rfl) (by decide) (fun K hK => ?_)
      go_simp
      have HB5 := hid (blk_alloc HW.out.st.var (.cells #[.string a.f0, .int .i64 a.f1, .slice A2 a.f2.length c2, .slice A3 a.f3.length c3] 124))
      refine hK.out _ _ (blk_cell HB5.out 0) (fun hHeld => ?_)
      clear hK K
      refine one_ (i := 5) (N := (some 18)) #[true, true, true, true, true, true, false, false] rfl rfl (by kernel_rfl) (by decide) (fun K hK => ?_)
      refine Kd.R_append_step k124 (w0 := wA) b0 (by rfl) (.tmp 14) (.tmp 17) 87 124 (.agg #[.string ⟨#[]⟩, .int .i64 0, .slice none 0 0, .slice none 0 0]) 72 (by rfl) Try.underlying87 info124 rfl (by decide) (by decide) v0 L a [.string a.f0, .int .i64 a.f1, .slice A2 a.f2.length c2, .slice A3 a.f3.length c3] (fun _ => True) (fun k => wr.drew.heap.size ≤ k) (by rfl) (by rfl) HM.out (fun k hk => ⟨trivial, fun e => by have h1 := HLT.out k e.symm; have h2 : wr.drew.heap.size ≤ k := hk; omega⟩) (fun _ _ => trivial) HW.out.f (Below.refl b0 wA) HW.out.sz (by have := HR2.out.2.1; rw [List.length_append] at this; simp at this; omega) ?_
      intro v6 w6 hr hb6 hg hat
      obtain ⟨T, hT⟩ : ∃ T, L ++ [a] = T := ⟨_, rfl⟩
      have HT := hid hT
      rw [hT] at hr
      clear hT
      obtain ⟨A6, c6, rfl, _, _⟩ := Kd.R_reads hr
      obtain ⟨c6_, g6_, hO⟩ := HW.out.appF HN.out hg hb6 hr
      have HO := hid hO
      have HC6 := hid (And.intro c6_ g6_)
      clear hr hb6 hg hat hO c6_ g6_
      refine hK.out _ _ HC6.out.1 (fun hHeld => ?_)
      clear hK K
      refine norm_ (a' := ?_) ?_ ?_
      rotate_left
      · show Act.put _ (some 18) _ = _
        simp only [Act.put, List.setIfInBounds_toArray, List.set_cons_zero, List.set_cons_succ, i64_w]
        rfl
      refine pure_ (i := 6) (N := (some 19)) (v := ?_) (a' := ?_) #[true, true, true, true, true, true, true, false] rfl rfl (by kernel_rfl) (fun _ _ _ h => h) (Or.inl ⟨by rfl, ?_⟩) ?_ ?_
      rotate_left
      · intro w'
        go_simp
        with_reducible rfl
      rotate_left
      · simp only [Act.put, List.setIfInBounds_toArray, List.set_cons_zero, List.set_cons_succ, i64_w]
        rfl
      refine last_ (i := 7) (N := none) #[true, true, true, true, true, true, true, true] rfl rfl (by kernel_rfl) (by decide) (fun K hK => ?_)
      have c6_ := HC6.out.1
      have g6_ := HC6.out.2
      go_simp
      clear c6_ g6_
      refine hK.out _ _ ?_
      clear hK K
      refine done_ (by kernel_rfl) ?_
      go_wp2
      go_roundw
      case rel => exact ⟨k + 1, T, j4, _, by omega, by go_num, a4.1, a4.2, hid ⟨by rw [← HT.out]; exact HR2.out, HO.out⟩⟩
      case measure => simp [intOf]; omega
    · have hkn : k = n0' := by omega
      subst hkn
      have hre := rep_end hI.out.1
      have HRE0 := hid hre
      have HO := hid hI.out.2
      clear hre hI
      generalize hV : v0 = V0 at *
      clear hV
      generalize hL : L = F at *
      clear hL
      go_wp2_with fail
      refine (count_p B l i' 64 _ HO.out.st.sc hi0 hi1 hl hb).mono ?_
      rintro e wc hq
      rcases hp : pCount 64 l i' with x | ⟨nn, j1⟩ <;> rw [hp] at hq
      · obtain ⟨rfl, ha⟩ := hq
        exact ⟨rfl, ObjPost.fail (HO.out.st.fail ha) (by simp only [pObj, pThen_ok PB.out, pThen_ok PM.out, pThen_ok PC0.out, pThen_ok HRE0.out, Int.toNat_natCast, pThen_err hp])⟩
      obtain ⟨v, rfl, rfl, hm⟩ := hq
      have k1 := Bk.count 64 l i' hb hi0 hi1 nn j1 hp
      obtain ⟨n1, rfl⟩ : ∃ n : Nat, nn = n := ⟨nn.toNat, by have := k1.2.2.2.1; omega⟩
      have hn1 : n1 ≤ 64 := by have := k1.2.2.2.2.2; omega
      have b1 : 0 ≤ j1 ∧ j1 ≤ l.length := ⟨by omega, k1.2.1⟩
      have PC1 := hid hp
      have HQ1 := hid (HO.out.scan HBL.out hm)
      clear hp hm k1
      go_wp2
      go_loopw [23] (fun s23 wx => ∃ (k : Nat) (L : List S102) (i' : Int) (v : Value), k ≤ n1 ∧ s23 = .int .i64 k ∧ 0 ≤ i' ∧ i' ≤ l.length ∧ Hid (Rep pData n1 l j1 k L i' ∧ OS w B N n0 b0 l wx i' V0 v (.slice none 0 0) F L [])) (fun s23 _ => n1 - (intOf s23).toNat)
      case atStart => exact ⟨0, [], j1, _, by omega, rfl, b1.1, b1.2, hid ⟨rep0 _ _ _ _, HQ1.out⟩⟩
      case round =>
        obtain ⟨k, L, i', v1, hk, rfl, hi0, hi1, hI⟩ := hrel
        by_cases hlt : (k : Int) < (n1 : Int)
        · have e3 : IntKind.i64.wrap ((k : Int) + 1) = (k : Int) + 1 := IntWalk.i64_in _ (by omega)
          have hk1 : k < n1 := by omega
          have HI := hid hI.out.1
          have HD := hid hI.out.2.drew
          clear hI
          go_wp2
          refine start_ (n := 8) (S := fun W => W.cell? ⟨N, 1, none⟩ = some v1) (ds := [7]) #[false, false, false, false, false, false, false, false] (by kernel_rfl) rfl rfl (blk_cell HD.out.st.var 1) (fun hHeld => ?_)
          refine pure_ (i := 0) (N := (some 25)) (v := ?_) (a' := ?_) #[true, false, false, false, false, false, false, false] rfl rfl (by kernel_rfl) (fun _ _ _ h => h) (Or.inl ⟨by rfl, ?_⟩) ?_ ?_
          rotate_left
          · intro w'
            go_simp
            with_reducible rfl
          rotate_left
          · simp only [Act.put, List.setIfInBounds_toArray, List.set_cons_zero, List.set_cons_succ, i64_w]
            rfl
          refine take_ (i := 1) (N := (some 26)) (v := ?_) (a' := ?_) #[true, true, false, false, false, false, false, false] rfl rfl (by kernel_rfl) (fun _ _ _ h => h) (Or.inl ⟨by rfl, ?_⟩) hHeld ?_ ?_
          rotate_left
          · rintro w' s0
            go_simp
            with_reducible rfl
          rotate_left
          · simp only [Act.put, List.setIfInBounds_toArray, List.set_cons_zero, List.set_cons_succ, i64_w]
            rfl
          refine pure_ (i := 2) (N := (some 27)) (v := ?_) (a' := ?_) #[true, true, true, false, false, false, false, false] rfl rfl (by kernel_rfl) (fun _ _ _ h => h) (Or.inl ⟨by rfl, ?_⟩) ?_ ?_
          rotate_left
          · intro w'
            go_simp
            with_reducible rfl
          rotate_left
          · simp only [Act.put, List.setIfInBounds_toArray, List.set_cons_zero, List.set_cons_succ, i64_w]
            rfl
          refine one_ (i := 3) (N := (some 28)) #[true, true, true, true, false, false, false, false] rfl rfl (by kernel_rfl) (by decide) (fun K hK => ?_)
          refine may_ Try.func115 (by kernel_rfl) rfl #[.pointer (some ⟨B, 0, none⟩)] (by rfl) rfl rfl (by first | rfl | (simp only [List.map_toArray, List.map_cons, List.map_nil]; rfl)) ?_
          refine (getData_p B l i' _ HD.out.st.sc hi0 hi1 hl hb).mono ?_
          rintro e' wA hq
          rcases hp : pData l i' with x | ⟨a, j4⟩ <;> rw [hp] at hq
          · obtain ⟨rfl, ha⟩ := hq
            exact Or.inl ⟨_, rfl, rfl, ObjPost.fail (HD.out.st.fail ha) (by simp only [pObj, pThen_ok PB.out, pThen_ok PM.out, pThen_ok PC0.out, pThen_ok HRE0.out, pThen_ok PC1.out, Int.toNat_natCast, pThen_err (rep_err HI.out hk1 hp)])⟩
          obtain ⟨v', rfl, ⟨u5, u6, rfl, hM⟩, hm⟩ := hq
          have k1 := Bk.data l i' hb hi0 hi1 a j4 hp
          have hr2 := rep_ok HI.out hk1 hp
          have HR2 := hid hr2
          have a4 : 0 ≤ j4 ∧ j4 ≤ l.length := ⟨by omega, k1.2.1⟩
          obtain ⟨t2, t3, hcs, g2, g3⟩ := k102_openM hM
          simp only [List.cons.injEq, true_and, and_true] at hcs
          obtain ⟨rfl, rfl⟩ := hcs
          obtain ⟨A2, c2, rfl, _, _⟩ := Kd.R_reads g2
          obtain ⟨A3, c3, rfl, _, _⟩ := Kd.R_reads g3
          have HM := hid (k102.M_lower HD.out.sz (k102.M_mono (ok' := fun k => wr.drew.heap.size ≤ k) (fun k hk => hk.2.1) (k102.M_bound hM)))
          have HLT := hid (Kd.R_lt HD.out.d)
          have HW := hid (HD.out.scan HBL.out hm)
          clear hm k1 hr2 hp HD hM g2 g3
          refine Or.inr ⟨_, rfl, ?_⟩
          refine hK.out _ _ (blk_cell HW.out.st.var 1) (fun hHeld => ?_)
          clear hK K
          refine norm_ (a' := ?_) ?_ ?_
          rotate_left
          · show Act.put _ (some 28) _ = _
            simp only [Act.put, List.setIfInBounds_toArray, List.set_cons_zero, List.set_cons_succ, i64_w]
            rfl
          refine one_ (i := 4) (N := (some 29)) #[true, true, true, true, true, false, false, false] rfl rfl (by kernel_rfl) (by decide) (fun K hK => ?_)
          go_simp
          have HB5 := hid (blk_alloc HW.out.st.var (.cells #[.string a.f0, .int .i64 a.f1, .int .i64 a.f2, .bool a.f3, .int .i64 a.f4, .slice A2 a.f5.length c2, .slice A3 a.f6.length c3] 102))
          refine hK.out _ _ (blk_cell HB5.out 1) (fun hHeld => ?_)
          clear hK K
          refine one_ (i := 5) (N := (some 30)) #[true, true, true, true, true, true, false, false] rfl rfl (by kernel_rfl) (by decide) (fun K hK => ?_)
          refine Kd.R_append_step k102 (w0 := wA) b0 (by rfl) (.tmp 26) (.tmp 29) 88 102 (.agg #[.string ⟨#[]⟩, .int .i64 0, .int .i64 0, .bool false, .int .i64 0, .slice none 0 0, .slice none 0 0]) 96 (by rfl) Try.underlying88 info102 rfl (by decide) (by decide) v1 L a [.string a.f0, .int .i64 a.f1, .int .i64 a.f2, .bool a.f3, .int .i64 a.f4, .slice A2 a.f5.length c2, .slice A3 a.f6.length c3] (fun _ => True) (fun k => wr.drew.heap.size ≤ k) (by rfl) (by rfl) HM.out (fun k hk => ⟨trivial, fun e => by have h1 := HLT.out k e.symm; have h2 : wr.drew.heap.size ≤ k := hk; omega⟩) (fun _ _ => trivial) HW.out.d (Below.refl b0 wA) HW.out.sz (by have := HR2.out.2.1; rw [List.length_append] at this; simp at this; omega) ?_
          intro v6 w6 hr hb6 hg hat
          obtain ⟨T, hT⟩ : ∃ T, L ++ [a] = T := ⟨_, rfl⟩
          have HT := hid hT
          rw [hT] at hr
          clear hT
          obtain ⟨A6, c6, rfl, _, _⟩ := Kd.R_reads hr
          obtain ⟨c6_, g6_, hO⟩ := HW.out.appD HN.out hg hb6 hr
          have HO := hid hO
          have HC6 := hid (And.intro c6_ g6_)
          clear hr hb6 hg hat hO c6_ g6_
          refine hK.out _ _ HC6.out.1 (fun hHeld => ?_)
          clear hK K
          refine norm_ (a' := ?_) ?_ ?_
          rotate_left
          · show Act.put _ (some 30) _ = _
            simp only [Act.put, List.setIfInBounds_toArray, List.set_cons_zero, List.set_cons_succ, i64_w]
            rfl
          refine pure_ (i := 6) (N := (some 31)) (v := ?_) (a' := ?_) #[true, true, true, true, true, true, true, false] rfl rfl (by kernel_rfl) (fun _ _ _ h => h) (Or.inl ⟨by rfl, ?_⟩) ?_ ?_
          rotate_left
          · intro w'
            go_simp
            with_reducible rfl
          rotate_left
          · simp only [Act.put, List.setIfInBounds_toArray, List.set_cons_zero, List.set_cons_succ, i64_w]
            rfl
          refine last_ (i := 7) (N := none) #[true, true, true, true, true, true, true, true] rfl rfl (by kernel_rfl) (by decide) (fun K hK => ?_)
          have c6_ := HC6.out.1
          have g6_ := HC6.out.2
          go_simp
          clear c6_ g6_
          refine hK.out _ _ ?_
          clear hK K
          refine done_ (by kernel_rfl) ?_
          go_wp2
          go_roundw
          case rel => exact ⟨k + 1, T, j4, _, by omega, by go_num, a4.1, a4.2, hid ⟨by rw [← HT.out]; exact HR2.out, HO.out⟩⟩
          case measure => simp [intOf]; omega
        · have hkn : k = n1 := by omega
          subst hkn
          have hre := rep_end hI.out.1
          have HRE1 := hid hre
          have HO := hid hI.out.2
          clear hre hI
          generalize hV : v1 = V1 at *
          clear hV
          generalize hL : L = D at *
          clear hL
          go_wp2_with fail
          refine (count_p B l i' 64 _ HO.out.st.sc hi0 hi1 hl hb).mono ?_
          rintro e wc hq
          rcases hp : pCount 64 l i' with x | ⟨nn, j2⟩ <;> rw [hp] at hq
          · obtain ⟨rfl, ha⟩ := hq
            exact ⟨rfl, ObjPost.fail (HO.out.st.fail ha) (by simp only [pObj, pThen_ok PB.out, pThen_ok PM.out, pThen_ok PC0.out, pThen_ok HRE0.out, pThen_ok PC1.out, pThen_ok HRE1.out, Int.toNat_natCast, pThen_err hp])⟩
          obtain ⟨v, rfl, rfl, hm⟩ := hq
          have k1 := Bk.count 64 l i' hb hi0 hi1 nn j2 hp
          obtain ⟨n2, rfl⟩ : ∃ n : Nat, nn = n := ⟨nn.toNat, by have := k1.2.2.2.1; omega⟩
          have hn2 : n2 ≤ 64 := by have := k1.2.2.2.2.2; omega
          have b2 : 0 ≤ j2 ∧ j2 ≤ l.length := ⟨by omega, k1.2.1⟩
          have PC2 := hid hp
          have HQ2 := hid (HO.out.scan HBL.out hm)
          clear hp hm k1
          go_wp2
          go_loopw [35] (fun s35 wx => ∃ (k : Nat) (L : List S122) (i' : Int) (v : Value), k ≤ n2 ∧ s35 = .int .i64 k ∧ 0 ≤ i' ∧ i' ≤ l.length ∧ Hid (Rep pNote n2 l j2 k L i' ∧ OS w B N n0 b0 l wx i' V0 V1 v F D L)) (fun s35 _ => n2 - (intOf s35).toNat)
          case atStart => exact ⟨0, [], j2, _, by omega, rfl, b2.1, b2.2, hid ⟨rep0 _ _ _ _, HQ2.out⟩⟩
          case round =>
            obtain ⟨k, L, i', v2, hk, rfl, hi0, hi1, hI⟩ := hrel
            by_cases hlt : (k : Int) < (n2 : Int)
            · have e3 : IntKind.i64.wrap ((k : Int) + 1) = (k : Int) + 1 := IntWalk.i64_in _ (by omega)
              have hk1 : k < n2 := by omega
              have HI := hid hI.out.1
              have HD := hid hI.out.2.drew
              clear hI
              go_wp2
              refine start_ (n := 11) (S := fun W => W.cell? ⟨N, 2, none⟩ = some v2) (ds := [10]) #[false, false, false, false, false, false, false, false, false, false, false] (by kernel_rfl) rfl rfl (blk_cell HD.out.st.var 2) (fun hHeld => ?_)
              refine pure_ (i := 0) (N := (some 37)) (v := ?_) (a' := ?_) #[true, false, false, false, false, false, false, false, false, false, false] rfl rfl (by kernel_rfl) (fun _ _ _ h => h) (Or.inl ⟨by rfl, ?_⟩) ?_ ?_
              rotate_left
              · intro w'
                go_simp
                with_reducible rfl
              rotate_left
              · simp only [Act.put, List.setIfInBounds_toArray, List.set_cons_zero, List.set_cons_succ, i64_w]
                rfl
              refine take_ (i := 1) (N := (some 38)) (v := ?_) (a' := ?_) #[true, true, false, false, false, false, false, false, false, false, false] rfl rfl (by kernel_rfl) (fun _ _ _ h => h) (Or.inl ⟨by rfl, ?_⟩) hHeld ?_ ?_
              rotate_left
              · rintro w' s0
                go_simp
                with_reducible rfl
              rotate_left
              · simp only [Act.put, List.setIfInBounds_toArray, List.set_cons_zero, List.set_cons_succ, i64_w]
                rfl
              refine pure_ (i := 2) (N := (some 39)) (v := ?_) (a' := ?_) #[true, true, true, false, false, false, false, false, false, false, false] rfl rfl (by kernel_rfl) (fun _ _ _ h => h) (Or.inl ⟨by rfl, ?_⟩) ?_ ?_
              rotate_left
              · intro w'
                go_simp
                with_reducible rfl
              rotate_left
              · simp only [Act.put, List.setIfInBounds_toArray, List.set_cons_zero, List.set_cons_succ, i64_w]
                rfl
              refine pure_ (i := 4) (N := (some 41)) (v := ?_) (a' := ?_) #[true, true, true, false, true, false, false, false, false, false, false] rfl rfl (by kernel_rfl) (fun _ _ _ h => h) (Or.inl ⟨by rfl, ?_⟩) ?_ ?_
              rotate_left
              · intro w'
                go_simp
                with_reducible rfl
              rotate_left
              · simp only [Act.put, List.setIfInBounds_toArray, List.set_cons_zero, List.set_cons_succ, i64_w]
                rfl
              refine one_ (i := 3) (N := (some 40)) #[true, true, true, true, true, false, false, false, false, false, false] rfl rfl (by kernel_rfl) (by decide) (fun K hK => ?_)
              refine may_ Try.func42 (by kernel_rfl) rfl #[.pointer (some ⟨B, 0, none⟩)] (by rfl) rfl rfl (by first | rfl | (simp only [List.map_toArray, List.map_cons, List.map_nil]; rfl)) ?_
              refine (name_p B l i' _ HD.out.st.sc hi0 hi1 hl hb).mono ?_
              rintro e' wA hq
              rcases hp : pName l i' with x | ⟨nm, j3⟩ <;> rw [hp] at hq
              · obtain ⟨rfl, ha⟩ := hq
                exact Or.inl ⟨_, rfl, rfl, ObjPost.fail (HD.out.st.fail ha) (by simp only [pObj, pThen_ok PB.out, pThen_ok PM.out, pThen_ok PC0.out, pThen_ok HRE0.out, pThen_ok PC1.out, pThen_ok HRE1.out, pThen_ok PC2.out, Int.toNat_natCast, pThen_err (rep_err (x := x) HI.out hk1 (by simp only [pNote, pThen_err hp]))])⟩
              obtain ⟨v', rfl, rfl, hm⟩ := hq
              have k1 := Bk.name l i' hb hi0 hi1 nm j3 hp
              have PN := hid hp
              have a3 : 0 ≤ j3 ∧ j3 ≤ l.length := ⟨by omega, k1.2.1⟩
              have HD3 := hid (HD.out.scan HBL.out hm)
              clear hm k1 hp HD
              refine Or.inr ⟨_, rfl, ?_⟩
              refine hK.out _ _ (blk_cell HD3.out.st.var 2) (fun hHeld => ?_)
              clear hK K
              refine norm_ (a' := ?_) ?_ ?_
              rotate_left
              · show Act.put _ (some 40) _ = _
                simp only [Act.put, List.setIfInBounds_toArray, List.set_cons_zero, List.set_cons_succ, i64_w]
                rfl
              refine one_ (i := 5) (N := (some 42)) #[true, true, true, true, true, true, false, false, false, false, false] rfl rfl (by kernel_rfl) (by decide) (fun K hK => ?_)
              refine may_ Try.func41 (by kernel_rfl) rfl #[.pointer (some ⟨B, 0, none⟩), .int .i64 1] (by rfl) rfl rfl (by first | rfl | (simp only [List.map_toArray, List.map_cons, List.map_nil]; rfl)) ?_
              refine (number_p B l j3 1 _ HD3.out.st.sc a3.1 a3.2 (by omega) hl hb).mono ?_
              rintro e' wB hq
              rcases hp : pNum 1 l j3 with x | ⟨y, j4⟩ <;> rw [hp] at hq
              · obtain ⟨rfl, ha⟩ := hq
                exact Or.inl ⟨_, rfl, rfl, ObjPost.fail (HD3.out.st.fail ha) (by simp only [pObj, pThen_ok PB.out, pThen_ok PM.out, pThen_ok PC0.out, pThen_ok HRE0.out, pThen_ok PC1.out, pThen_ok HRE1.out, pThen_ok PC2.out, Int.toNat_natCast, pThen_err (rep_err (x := x) HI.out hk1 (by simp only [pNote, pThen_ok PN.out, pThen_err hp]))])⟩
              obtain ⟨v', rfl, rfl, hm⟩ := hq
              have k1 := Bk.num1 l j3 hb a3.1 a3.2 y j4 hp
              have hr2 := rep_ok HI.out hk1 (a := ⟨nm, y⟩) (j := j4) (by simp only [pNote, pThen_ok PN.out, pThen_ok hp]; rfl)
              have HR2 := hid hr2
              have a4 : 0 ≤ j4 ∧ j4 ≤ l.length := ⟨by omega, k1.2.1⟩
              have HW := hid (HD3.out.scan HBL.out hm)
              have HM := hid (k122_mkM wB b0 (fun _ => False) (⟨nm, y⟩ : S122))
              clear hm k1 hr2 hp HD3
              refine Or.inr ⟨_, rfl, ?_⟩
              refine hK.out _ _ (blk_cell HW.out.st.var 2) (fun hHeld => ?_)
              clear hK K
              refine norm_ (a' := ?_) ?_ ?_
              rotate_left
              · show Act.put _ (some 42) _ = _
                simp only [Act.put, List.setIfInBounds_toArray, List.set_cons_zero, List.set_cons_succ, i64_w]
                rfl
              refine pure_ (i := 6) (N := (some 43)) (v := ?_) (a' := ?_) #[true, true, true, true, true, true, true, false, false, false, false] rfl rfl (by kernel_rfl) (fun _ _ _ h => h) (Or.inl ⟨by rfl, ?_⟩) ?_ ?_
              rotate_left
              · intro w'
                go_simp
                with_reducible rfl
              rotate_left
              · simp only [Act.put, List.setIfInBounds_toArray, List.set_cons_zero, List.set_cons_succ, i64_w]
                rfl
              refine one_ (i := 7) (N := (some 44)) #[true, true, true, true, true, true, true, true, false, false, false] rfl rfl (by kernel_rfl) (by decide) (fun K hK => ?_)
              go_simp
              have HB5 := hid (blk_alloc HW.out.st.var (.cells #[.string nm, .int .i64 y] 122))
              refine hK.out _ _ (blk_cell HB5.out 2) (fun hHeld => ?_)
              clear hK K
              refine one_ (i := 8) (N := (some 45)) #[true, true, true, true, true, true, true, true, true, false, false] rfl rfl (by kernel_rfl) (by decide) (fun K hK => ?_)
              refine Kd.R_append_step k122 (w0 := wB) b0 (by rfl) (.tmp 38) (.tmp 44) 89 122 (.agg #[.string ⟨#[]⟩, .int .i64 0]) 24 (by rfl) Try.underlying89 info122 rfl (by decide) (by decide) v2 L ⟨nm, y⟩ [.string nm, .int .i64 y] (fun _ => True) (fun _ => False) (by rfl) (by rfl) HM.out (fun _ h => h.elim) (fun _ _ => trivial) HW.out.n (Below.refl b0 wB) HW.out.sz (by have := HR2.out.2.1; rw [List.length_append] at this; simp at this; omega) ?_
              intro v6 w6 hr hb6 hg hat
              obtain ⟨T, hT⟩ : ∃ T, L ++ [⟨nm, y⟩] = T := ⟨_, rfl⟩
              have HT := hid hT
              rw [hT] at hr
              clear hT
              obtain ⟨A6, c6, rfl, _, _⟩ := Kd.R_reads hr
              obtain ⟨c6_, g6_, hO⟩ := HW.out.appN HN.out hg hb6 hr
              have HO := hid hO
              have HC6 := hid (And.intro c6_ g6_)
              clear hr hb6 hg hat hO c6_ g6_
              refine hK.out _ _ HC6.out.1 (fun hHeld => ?_)
              clear hK K
              refine norm_ (a' := ?_) ?_ ?_
              rotate_left
              · show Act.put _ (some 45) _ = _
                simp only [Act.put, List.setIfInBounds_toArray, List.set_cons_zero, List.set_cons_succ, i64_w]
                rfl
              refine pure_ (i := 9) (N := (some 46)) (v := ?_) (a' := ?_) #[true, true, true, true, true, true, true, true, true, true, false] rfl rfl (by kernel_rfl) (fun _ _ _ h => h) (Or.inl ⟨by rfl, ?_⟩) ?_ ?_
              rotate_left
              · intro w'
                go_simp
                with_reducible rfl
              rotate_left
              · simp only [Act.put, List.setIfInBounds_toArray, List.set_cons_zero, List.set_cons_succ, i64_w]
                rfl
              refine last_ (i := 10) (N := none) #[true, true, true, true, true, true, true, true, true, true, true] rfl rfl (by kernel_rfl) (by decide) (fun K hK => ?_)
              have c6_ := HC6.out.1
              have g6_ := HC6.out.2
              go_simp
              clear c6_ g6_
              refine hK.out _ _ ?_
              clear hK K
              refine done_ (by kernel_rfl) ?_
              go_wp2
              go_roundw
              case rel => exact ⟨k + 1, T, j4, _, by omega, by go_num, a4.1, a4.2, hid ⟨by rw [← HT.out]; exact HR2.out, HO.out⟩⟩
              case measure => simp [intOf]; omega
            · have hkn : k = n2 := by omega
              subst hkn
              have hre := rep_end hI.out.1
              have HRE2 := hid hre
              have HO := hid hI.out.2
              clear hre hI
              go_wp2
              first | go_end0 | refine bodyPost_ret (results_none rfl _ _ _) rfl ?_
              have hP : pObj l 0 = .ok ((F, D, L), i') := by simp only [pObj, pThen_ok PB.out, pThen_ok PM.out, pThen_ok PC0.out, pThen_ok HRE0.out, pThen_ok PC1.out, pThen_ok HRE1.out, pThen_ok PC2.out, pThen_ok HRE2.out, Int.toNat_natCast]; rfl
              have hS := HO.out
              refine .inl ⟨i', rfl, hi0, hi1, hS.st.sc, hS.st.errno, hS.st.below, hS.st.errno, fun y hy => ?_, fun o ho => ?_⟩
              · rw [readO_ok hP] at hy
                by_cases hil : i' < (l.length : Int)
                · rw [if_pos hil] at hy ⊢; cases hy; rfl
                · rw [if_neg hil] at hy; cases hy
              · rw [readO_ok hP] at ho
                by_cases hil : i' < (l.length : Int)
                · rw [if_pos hil] at ho; cases ho
                · rw [if_neg hil] at ho ⊢
                  cases ho
                  exact ⟨rfl, _, _, _, hS.st.var, Kd.R_lower hS.f HN.out, Kd.R_lower hS.d HN.out, Kd.R_lower hS.n HN.out⟩
end Go.Proofs.Ytmcfihpbiilbcaa.H
end
section
namespace Go.Proofs.Ytmcfihpbiilbcaa.H
open Go.RowKit Go.Proofs.YtmcfihpbiilbcaaW.PrintWords Go.Proofs.YtmcfihpbiilbcaaW.PrintLast Go.Proofs.YtmcfihpbiilbcaaW.PrintMore Go.Proofs.Ytmcfihpbiilbcaa.E
set_option linter.unusedVariables false
set_option linter.unusedSimpArgs false
def Er {α : Type} (p : Pa α) : Prop := ∀ l i x, p l i = .error x → x = 2 ∨ x = 4
theorem Er.then_ {α β : Type} {p : Pa α} {f : α → Pa β} (h : Er p) (k : ∀ a, Er (f a)) : Er (pThen p f) := by
  intro l i x e
  cases hp : p l i with
  | error y => rw [pThen_err hp] at e; cases e; exact h l i _ hp
  | ok r =>
    obtain ⟨a, j⟩ := r
    rw [pThen_ok hp] at e
    exact k a l j x e
theorem Er.ret {α : Type} (a : α) : Er (pRet a) := by intro l i x e; cases e
theorem Er.must (b : Bool) : Er (pMust b) := by
  intro l i x e
  unfold pMust at e
  split at e <;> cases e
  exact .inr rfl
theorem Er.bytes (n : Int) : Er (pBytes n) := by
  intro l i x e
  unfold pBytes at e
  split at e <;> cases e
  exact .inl rfl
theorem Er.num (n : Int) : Er (pNum n) := by
  intro l i x e
  unfold pNum at e
  split at e <;> cases e
  exact .inl rfl
theorem Er.rep {α : Type} {p : Pa α} (h : Er p) : ∀ n, Er (pRep n p)
  | 0 => Er.ret []
  | n + 1 => h.then_ fun a => (Er.rep h n).then_ fun ls => Er.ret (a :: ls)
theorem Er.name : Er pName := (Er.num 1).then_ fun z => (Er.bytes z).then_ fun s => (Er.must _).then_ fun _ => Er.ret _
theorem Er.count (m : Int) : Er (pCount m) := (Er.num 2).then_ fun n => (Er.must _).then_ fun _ => Er.ret _
theorem Er.bind : Er pBind := (Er.num 1).then_ fun n => (Er.must _).then_ fun _ => Er.ret _
theorem Er.rel : Er pRel := (Er.num 2).then_ fun a => (Er.num 1).then_ fun b => Er.name.then_ fun nm => (Er.num 4).then_ fun d => (Er.must _).then_ fun _ => Er.ret _
theorem Er.rels : Er pRels := (Er.count 64).then_ fun n => Er.rep Er.rel _
theorem Er.func : Er pFunc := Er.name.then_ fun nm => Er.bind.then_ fun b => (Er.count 2000).then_ fun n => (Er.rep (Er.num 4) _).then_ fun c => Er.rels.then_ fun r => Er.ret _
theorem Er.data : Er pData := Er.name.then_ fun nm => Er.bind.then_ fun b => (Er.num 1).then_ fun x2 => (Er.num 1).then_ fun fl => (Er.must _).then_ fun _ => (Er.num 2).then_ fun x4 => (Er.count 4096).then_ fun z => (Er.bytes z).then_ fun y => Er.rels.then_ fun r => Er.ret _
theorem Er.note : Er pNote := Er.name.then_ fun nm => (Er.num 1).then_ fun k => Er.ret _
theorem Er.obj : Er pObj := (Er.bytes 4).then_ fun m => (Er.must _).then_ fun _ => (Er.count 64).then_ fun a => (Er.rep Er.func _).then_ fun F => (Er.count 64).then_ fun b => (Er.rep Er.data _).then_ fun D => (Er.count 64).then_ fun c => (Er.rep Er.note _).then_ fun N => Er.ret _
theorem readO_code {l : List Int} {y : Int} (h : readO l = .error y) : y = 2 ∨ y = 4 := by
  unfold readO at h
  cases hp : pObj l 0 with
  | error x => rw [hp] at h; cases h; exact Er.obj l 0 _ hp
  | ok r =>
    obtain ⟨o, j⟩ := r
    rw [hp] at h
    dsimp only at h
    split at h <;> cases h
    exact .inl rfl
abbrev zObj : Array Value := #[.slice none 0 0, .slice none 0 0, .slice none 0 0]
theorem below3 {w w4 : World} {g n0 : Nat} (h : Below n0 w w4) (hg : n0 ≤ g) (b0 b1 b2 : Value) :
    Below n0 w (((w4.setCell ⟨g, 0, none⟩ b0).setCell ⟨g, 1, none⟩ b1).setCell ⟨g, 2, none⟩ b2) :=
  ((h.setCell (p := ⟨g, 0, none⟩) hg _).setCell (p := ⟨g, 1, none⟩) hg _).setCell (p := ⟨g, 2, none⟩) hg _
set_option maxRecDepth 100000 in
theorem oread_err (A : Option Addr) (c : Nat) (l : List Int) (w : World) (y : Int) (hC : CB w A l) (hc : l.length ≤ c) (hby : Bytes l) (hl : l.length ≤ 140737488351232) (hE : readO l = .error y) :
    Calls Try.prog 73 #[.slice A l.length c] w fun e w' => e = .returned (.tuple #[.agg zObj, .int .i64 y]) ∧ Below w.heap.size w w' := by
  have hmf : ∀ (fn : Fn) (first cap : Array Value) (w : World), (Instr.makeFunc fn first cap).run Try.prog w = .ok (.func fn first cap) w := fun _ _ _ _ => rfl
  have HC := hid hC
  have hy := readO_code hE
  clear hC
  go_enter Try.func73, Try.ntmps73
  go_wp2_with fail
  obtain ⟨W3, hW3⟩ : ∃ W, W = (w.alloc (.cells zObj 91)).alloc (.cells zObj 91) := ⟨_, rfl⟩
  have d0 := blk_alloc (blk_new w (.cells zObj 91)) (.cells zObj 91)
  have d1 := blk_new_at (w.alloc (.cells zObj 91)) (.cells zObj 91) (w.heap.size + 1) (by simp)
  have hb := below_alloc (below_alloc (Below.refl w.heap.size w) (.cells zObj 91)) (.cells zObj 91)
  rw [← hW3] at d0 d1 hb
  have hs3 : W3.heap.size = w.heap.size + 2 := by rw [hW3]; simp
  rw [← hW3]
  have H3 := hid (And.intro d0 (And.intro d1 hb))
  have HE := hid hE
  clear d0 d1 hb hW3 hE
  refine (try_c 113 enter_113 #[.pointer (some ⟨w.heap.size + 1, 0, none⟩)] A c l W3 (Kd.C_below HC.out H3.out.2.2) hc hl (ObjPost W3 (w.heap.size + 1) (w.heap.size + 1) l) (fun w1 B hF => read113 W3 w1 B (w.heap.size + 1) (w.heap.size + 1) l hF H3.out.2.1 (by omega) hby hl)).mono ?_
  rintro e w4 ⟨x, w2, rfl, ⟨hB2, hE2, hI1, hI2⟩, ha⟩
  obtain rfl := hI1 y HE.out
  have hlt2 := blk_lt hE2
  have hB4 : Below w.heap.size w w4 := Aft.below (H3.out.2.2.trans (hB2.mono (by omega))) ha (by omega) (by omega)
  have d4 : w4.heap[w.heap.size]? = some (.cells zObj 91 (0, 0)) := (ha.block _ (by omega) (by omega)).trans ((hB2.block _ (by omega)).trans H3.out.1)
  have k0 : w4.cell? ⟨w.heap.size, 0, none⟩ = some (.slice none 0 0) := blk_cell d4 0
  have k1 : w4.cell? ⟨w.heap.size, 1, none⟩ = some (.slice none 0 0) := blk_cell d4 1
  have k2 : w4.cell? ⟨w.heap.size, 2, none⟩ = some (.slice none 0 0) := blk_cell d4 2
  have z0 : w4.frozen? ⟨w.heap.size, 0, none⟩ = false := blk_frozen d4 0
  have z1 : w4.frozen? ⟨w.heap.size, 1, none⟩ = false := blk_frozen d4 1
  have z2 : w4.frozen? ⟨w.heap.size, 2, none⟩ = false := blk_frozen d4 2
  have hx1 : (x == 0) = false := beq_eq_false_iff_ne.2 (by omega)
  have hx2 : (x != 0) = true := bne_iff_ne.2 (by omega)
  have H4 := hid (And.intro hB4 d4)
  clear hB4 d4 ha hB2 hE2 hI2 hI1 HE
  go_wp2
  refine bodyPost_ret (results_ct rfl _ _ w.heap.size 91 #[.slice none 0 0, .slice none 0 0, .slice none 0 0] (0, 0) _ rfl (put3 H4.out.2 _ _ _) Try.underlying91 rfl (by kernel_rfl)) rfl ?_
  exact ⟨rfl, below3 H4.out.1 (Nat.le_refl _) _ _ _⟩
set_option maxRecDepth 100000 in
theorem oread_ok (A : Option Addr) (c : Nat) (l : List Int) (w : World) (o : O3) (hC : CB w A l) (hc : l.length ≤ c) (hby : Bytes l) (hl : l.length ≤ 140737488351232) (hE : readO l = .ok o) :
    Calls Try.prog 73 #[.slice A l.length c] w fun e w' => ∃ A0 A1 A2 c0 c1 c2, e = .returned (.tuple #[.agg #[.slice A0 o.1.length c0, .slice A1 o.2.1.length c1, .slice A2 o.2.2.length c2], .int .i64 0]) ∧ k124.R 124 w' w.heap.size (fun _ => True) (.slice A0 o.1.length c0) o.1 ∧ k102.R 102 w' w.heap.size (fun _ => True) (.slice A1 o.2.1.length c1) o.2.1 ∧ k122.R 122 w' w.heap.size (fun _ => True) (.slice A2 o.2.2.length c2) o.2.2 ∧ Below w.heap.size w w' := by
  have hmf : ∀ (fn : Fn) (first cap : Array Value) (w : World), (Instr.makeFunc fn first cap).run Try.prog w = .ok (.func fn first cap) w := fun _ _ _ _ => rfl
  have HC := hid hC
  clear hC
  go_enter Try.func73, Try.ntmps73
  go_wp2_with fail
  obtain ⟨W3, hW3⟩ : ∃ W, W = (w.alloc (.cells zObj 91)).alloc (.cells zObj 91) := ⟨_, rfl⟩
  have d0 := blk_alloc (blk_new w (.cells zObj 91)) (.cells zObj 91)
  have d1 := blk_new_at (w.alloc (.cells zObj 91)) (.cells zObj 91) (w.heap.size + 1) (by simp)
  have hb := below_alloc (below_alloc (Below.refl w.heap.size w) (.cells zObj 91)) (.cells zObj 91)
  rw [← hW3] at d0 d1 hb
  have hs3 : W3.heap.size = w.heap.size + 2 := by rw [hW3]; simp
  rw [← hW3]
  have H3 := hid (And.intro d0 (And.intro d1 hb))
  have HE := hid hE
  clear d0 d1 hb hW3 hE
  refine (try_c 113 enter_113 #[.pointer (some ⟨w.heap.size + 1, 0, none⟩)] A c l W3 (Kd.C_below HC.out H3.out.2.2) hc hl (ObjPost W3 (w.heap.size + 1) (w.heap.size + 1) l) (fun w1 B hF => read113 W3 w1 B (w.heap.size + 1) (w.heap.size + 1) l hF H3.out.2.1 (by omega) hby hl)).mono ?_
  rintro e w4 ⟨x, w2, rfl, ⟨hB2, hE2, hI1, hI2⟩, ha⟩
  obtain ⟨rfl, v0, v1, v2, hv, hr0, hr1, hr2⟩ := hI2 o HE.out
  have hlt2 := blk_lt hE2
  have hB4 : Below w.heap.size w w4 := Aft.below (H3.out.2.2.trans (hB2.mono (by omega))) ha (by omega) (by omega)
  have d4 : w4.heap[w.heap.size]? = some (.cells zObj 91 (0, 0)) := (ha.block _ (by omega) (by omega)).trans ((hB2.block _ (by omega)).trans H3.out.1)
  have d5 : w4.heap[w.heap.size + 1]? = some (.cells #[v0, v1, v2] 91 (0, 0)) := (ha.block _ (blk_lt hv) (by omega)).trans hv
  have r0 := R_aft hr0 ha hE2 (by simp [k124, k153, Kd.slice, Kd.iso, Kd.pair, Kd.int, Kd.scalar, Kd.string, Kd.bool])
  have r1 := R_aft hr1 ha hE2 (by simp [k102, k153, Kd.slice, Kd.iso, Kd.pair, Kd.int, Kd.scalar, Kd.string, Kd.bool])
  have r2 := R_aft hr2 ha hE2 (by simp [k122, Kd.slice, Kd.iso, Kd.pair, Kd.int, Kd.scalar, Kd.string, Kd.bool])
  obtain ⟨F, D, N⟩ := o
  dsimp only at r0 r1 r2 ⊢
  obtain ⟨A0, c0, rfl, _, _⟩ := Kd.R_reads r0
  obtain ⟨A1, c1, rfl, _, _⟩ := Kd.R_reads r1
  obtain ⟨A2, c2, rfl, _, _⟩ := Kd.R_reads r2
  have k0 : w4.cell? ⟨w.heap.size, 0, none⟩ = some (.slice none 0 0) := blk_cell d4 0
  have k1 : w4.cell? ⟨w.heap.size, 1, none⟩ = some (.slice none 0 0) := blk_cell d4 1
  have k2 : w4.cell? ⟨w.heap.size, 2, none⟩ = some (.slice none 0 0) := blk_cell d4 2
  have z0 : w4.frozen? ⟨w.heap.size, 0, none⟩ = false := blk_frozen d4 0
  have z1 : w4.frozen? ⟨w.heap.size, 1, none⟩ = false := blk_frozen d4 1
  have z2 : w4.frozen? ⟨w.heap.size, 2, none⟩ = false := blk_frozen d4 2
  have m0 : w4.cell? ⟨w.heap.size + 1, 0, none⟩ = some (.slice A0 F.length c0) := blk_cell d5 0
  have m1 : w4.cell? ⟨w.heap.size + 1, 1, none⟩ = some (.slice A1 D.length c1) := blk_cell d5 1
  have m2 : w4.cell? ⟨w.heap.size + 1, 2, none⟩ = some (.slice A2 N.length c2) := blk_cell d5 2
  have H4 := hid (And.intro hB4 (And.intro d4 (And.intro r0 (And.intro r1 r2))))
  clear hB4 d4 d5 ha hB2 hE2 hI2 hI1 HE hr0 hr1 hr2 r0 r1 r2 hv
  go_wp2
  refine bodyPost_ret (results_ct rfl _ _ w.heap.size 91 #[.slice A0 F.length c0, .slice A1 D.length c1, .slice A2 N.length c2] (0, 0) _ rfl (put3 H4.out.2.1 _ _ _) Try.underlying91 rfl (by kernel_rfl)) rfl ?_
  have r0 := set3 H4.out.2.2.1 H4.out.2.1 (by simp [k124, k153, Kd.slice, Kd.iso, Kd.pair, Kd.int, Kd.scalar, Kd.string, Kd.bool]) (.slice A0 F.length c0) (.slice A1 D.length c1) (.slice A2 N.length c2)
  have r1 := set3 H4.out.2.2.2.1 H4.out.2.1 (by simp [k102, k153, Kd.slice, Kd.iso, Kd.pair, Kd.int, Kd.scalar, Kd.string, Kd.bool]) (.slice A0 F.length c0) (.slice A1 D.length c1) (.slice A2 N.length c2)
  have r2 := set3 H4.out.2.2.2.2 H4.out.2.1 (by simp [k122, Kd.slice, Kd.iso, Kd.pair, Kd.int, Kd.scalar, Kd.string, Kd.bool]) (.slice A0 F.length c0) (.slice A1 D.length c1) (.slice A2 N.length c2)
  exact ⟨_, _, _, _, _, _, rfl, Kd.R_lower r0 (by omega), Kd.R_lower r1 (by omega), Kd.R_lower r2 (by omega), below3 H4.out.1 (Nat.le_refl _) _ _ _⟩
theorem CO_of {w : World} {b0 : Nat} {A0 A1 A2 : Option Addr} {c0 c1 c2 : Nat} {F : List S124} {D : List S102} {N : List S122} (h0 : k124.R 124 w b0 (fun _ => True) (.slice A0 F.length c0) F) (h1 : k102.R 102 w b0 (fun _ => True) (.slice A1 D.length c1) D) (h2 : k122.R 122 w b0 (fun _ => True) (.slice A2 N.length c2) N) : CO w A0 A1 A2 c0 c1 c2 F D N := by
  obtain ⟨-, a1, a2⟩ := Kd.R_reads' h0
  obtain ⟨-, b1, b2⟩ := Kd.R_reads' h1
  obtain ⟨-, e1, e2⟩ := Kd.R_reads' h2
  exact ⟨a2, b2, e2, a1, b1, e1⟩
end Go.Proofs.Ytmcfihpbiilbcaa.H
end
section
namespace Go.Proofs.Ytmcfihpbiilbcaa.H
open Go.RowKit Go.Proofs.YtmcfihpbiilbcaaW.PrintWords Go.Proofs.YtmcfihpbiilbcaaW.PrintLast Go.Proofs.YtmcfihpbiilbcaaW.PrintMore Go.Proofs.Ytmcfihpbiilbcaa.E
set_option linter.unusedVariables false
set_option linter.unusedSimpArgs false
theorem const_13 {w : World} {g : Nat} {fr : Nat × Nat} (h : w.heap[g]? = some (.cells #[.int .u8 83, .int .u8 80, .int .u8 76, .int .u8 49, .int .u8 0, .int .u8 0, .int .u8 0, .int .u8 0, .int .u8 1, .int .u8 0, .int .u8 1, .int .u8 102, .int .u8 2] 5 fr)) : CB w (some ⟨g, 0, none⟩) [83, 80, 76, 49, 0, 0, 0, 0, 1, 0, 1, 102, 2] :=
  C_block h (by simp) (fun j p h => by match j, h with | 0, h => simp at h ⊢; exact h | 1, h => simp at h ⊢; exact h | 2, h => simp at h ⊢; exact h | 3, h => simp at h ⊢; exact h | 4, h => simp at h ⊢; exact h | 5, h => simp at h ⊢; exact h | 6, h => simp at h ⊢; exact h | 7, h => simp at h ⊢; exact h | 8, h => simp at h ⊢; exact h | 9, h => simp at h ⊢; exact h | 10, h => simp at h ⊢; exact h | 11, h => simp at h ⊢; exact h | 12, h => simp at h ⊢; exact h | j + 13, h => simp at h)
def nF : S122 := ⟨⟨#[102]⟩, 2⟩
theorem b13 : objS [] [] [nF] = [83, 80, 76, 49, 0, 0, 0, 0, 1, 0, 1, 102, 2] := by decide +kernel
theorem b10 : objS [] [] [] = [83, 80, 76, 49, 0, 0, 0, 0, 0, 0] := by decide +kernel
theorem e10 : ((strOfNums [83, 80, 76, 49, 0, 0, 0, 0, 0, 0]).toList == [83, 80, 76, 49, 0, 0, 0, 0, 0, 0]) = true := by
  rw [Lib.strOfNums_toList]; rfl
theorem w9_ (w : World) : Calls Try.prog 70 #[.agg #[.slice none 0 0, .slice none 0 0, .slice none 0 0]] w fun e w' => ∃ A c, e = .returned (.tuple #[.slice A 10 c, .int .i64 0]) ∧ 10 ≤ c ∧ CB w' A [83, 80, 76, 49, 0, 0, 0, 0, 0, 0] ∧ Below w.heap.size w w' := by
  have hC : CO w none none none 0 0 0 [] [] [] := CO_of (b0 := 0) (Kd.R_nil _ _ _ _ _) (Kd.R_nil _ _ _ _ _) (Kd.R_nil _ _ _ _ _)
  refine (objWrite_c none none none 0 0 0 [] [] [] w hC ⟨by simp, by simp, by simp, by simp, by simp⟩).mono ?_
  rintro e w' ⟨⟨_, v, rfl, hR⟩ | ⟨h, _⟩, hb⟩
  · rw [b10] at hR
    obtain ⟨A, c, rfl, hc, hC⟩ := Kd.R_reads hR
    exact ⟨A, c, rfl, hc, hC, hb⟩
  · cases (show objB [] [] [] = true by decide +kernel).symm.trans h
theorem r9_ (w : World) (A : Option Addr) (hC : CB w A [83, 80, 76, 49, 0, 0, 0, 0, 1, 0, 1, 102, 2]) : Calls Try.prog 73 #[.slice A 13 13] w fun e w' => ∃ A0 A1 A2 c0 c1 c2, e = .returned (.tuple #[.agg #[.slice A0 0 c0, .slice A1 0 c1, .slice (some A2) 1 c2], .int .i64 0]) ∧ CO w' A0 A1 (some A2) c0 c1 c2 [] [] [nF] ∧ w'.cell? A2 = some (.string ⟨#[102]⟩) ∧ w'.cell? ⟨A2.block, A2.off + 1, none⟩ = some (.int .i64 2) ∧ Below w.heap.size w w' := by
  have hr : readO [83, 80, 76, 49, 0, 0, 0, 0, 1, 0, 1, 102, 2] = .ok ([], [], [nF]) := by rw [← b13]; exact readO_obj [] [] [nF] (by decide +kernel) ⟨by simp, by simp⟩
  refine (oread_ok A 13 [83, 80, 76, 49, 0, 0, 0, 0, 1, 0, 1, 102, 2] w _ hC (by decide) (by intro x hx; simp at hx; omega) (by decide) hr).mono ?_
  rintro e w' ⟨A0, A1, A2, c0, c1, c2, rfl, h0, h1, h2, hb⟩
  have hco := CO_of h0 h1 h2
  obtain ⟨ad, rfl, q0, q1⟩ := at_T122 hco.n 0 (by omega) (by simp)
  refine ⟨A0, A1, ad, c0, c1, c2, rfl, hco, ?_, ?_, hb⟩
  · have := q0; simpa [Addr.add, rd_T122, nF] using this
  · have := q1; simpa [Addr.add, rd_T122, nF] using this
theorem n9_ (w : World) (g : Nat) (hg : w.heap.size = g) : Calls Try.prog 73 #[.slice (some ⟨g, 0, none⟩) 4 4] (w.alloc (.cells #[.int .u8 83, .int .u8 80, .int .u8 76, .int .u8 50] 5 (4, 5))) fun e w' => e = .returned (.tuple #[.agg #[.slice none 0 0, .slice none 0 0, .slice none 0 0], .int .i64 4]) ∧ Below (g + 1) (w.alloc (.cells #[.int .u8 83, .int .u8 80, .int .u8 76, .int .u8 50] 5 (4, 5))) w' := by
  subst hg
  have hr : readO [83, 80, 76, 50] = .error 4 := by rfl
  have h := oread_err (some ⟨w.heap.size, 0, none⟩) 4 [83, 80, 76, 50] (w.alloc (.cells #[.int .u8 83, .int .u8 80, .int .u8 76, .int .u8 50] 5 (4, 5))) 4 (const_4 (blk_new w _)) (by decide) (by intro x hx; simp at hx; omega) (by decide) hr
  simpa using h
theorem s9_ (A0 A1 A2 : Option Addr) (c0 c1 c2 : Nat) (w : World) (hC : CO w A0 A1 A2 c0 c1 c2 [] [] [nF]) : Calls Try.prog 76 #[.agg #[.slice A0 0 c0, .slice A1 0 c1, .slice A2 1 c2], .agg #[.slice A0 0 c0, .slice A1 0 c1, .slice A2 1 c2]] w fun e w' => e = .returned (.bool true) ∧ Below w.heap.size w w' := by
  have h := objSame_c A0 A1 A2 A0 A1 A2 c0 c1 c2 c0 c1 c2 [] [] [] [] [nF] [nF] w hC hC ⟨by simp, by simp, by simp, by simp, by simp⟩
  simpa using h
theorem eqn (W : World) : (binOp .eql 122 (.agg #[.string ⟨#[102]⟩, .int .i64 2]) (.agg #[.string ⟨#[102]⟩, .int .i64 2])).run Try.prog W = .ok (.bool true) W := by
  have h := eqA122 9998 W ⟨#[102]⟩ ⟨#[102]⟩ 2 2
  have e : ((⟨#[102]⟩ : ByteArray).toList == (⟨#[102]⟩ : ByteArray).toList && ((2 : Int) == 2)) = true := by simp
  rw [e] at h
  simp only [binOp]
  simp [Op.equal, Op.maxDepth, h]
set_option maxRecDepth 100000 in
set_option maxHeartbeats 2000000 in
theorem awake9_c (w : World) : Calls Try.prog 68 #[] w fun e w' => e = .returned (.bool true) ∧ Below w.heap.size w w' := by
  have hq := eqn
  have he := e10
  go_enter Try.func68, Try.ntmps68
  go_wp2_with fail
  refine (w9_ w).mono ?_
  rintro e w1 ⟨A, c, rfl, hc, hC, hb⟩
  have H1 := hid (And.intro hC hb)
  have kc := const_at w1 w1.heap.size rfl
  clear hC hb
  go_wp2_with fail
  refine (r9_ _ _ (const_13 (blk_new w1 _))).mono ?_
  rintro e w2 ⟨A0, A1, ad, c0, c1, c2, rfl, hO, q0, q1, hb⟩
  have H2 := hid (And.intro hO (And.intro (Kd.C_below (Kd.C_alloc H1.out.1 _) hb) (below_step (below_alloc H1.out.2 _) hb)))
  clear hO hb H1 kc
  obtain ⟨W3, hW3⟩ : ∃ W, W = w2.alloc (.cells #[.slice A0 0 c0, .slice A1 0 c1, .slice (some ad) 1 c2] 91) := ⟨_, rfl⟩
  have f0 := blk_new w2 (.cells #[.slice A0 0 c0, .slice A1 0 c1, .slice (some ad) 1 c2] 91)
  have hB3 := below_alloc (Below.refl w2.heap.size w2) (.cells #[.slice A0 0 c0, .slice A1 0 c1, .slice (some ad) 1 c2] 91)
  rw [← hW3] at f0 hB3
  have HW := hid hW3
  have q0' := (hB3.cell (World.block_lt_of_cell? _ _ q0)).trans q0
  have q1' := (hB3.cell (World.block_lt_of_cell? _ _ q1)).trans q1
  have kc := const_at (w2.alloc (.cells #[.slice A0 0 c0, .slice A1 0 c1, .slice (some ad) 1 c2] 91)) (w2.heap.size + 1) (by simp)
  have hs3 : W3.heap.size = w2.heap.size + 1 := by rw [hW3]; simp
  have HS3 := hid hs3
  have H3 := hid (And.intro (H2.out.1.below hB3) (And.intro (Kd.C_below H2.out.2.1 hB3) (And.intro (below_step H2.out.2.2 hB3) (And.intro f0 (And.intro q0' q1')))))
  clear H2 hB3 f0 q0 q1 q0' q1' 
  clear hs3 hW3
  go_wp2_with fail
  rw [← HW.out]
  refine (n9_ W3 (w2.heap.size + 1) HS3.out).mono ?_
  clear kc
  rintro e w4 ⟨rfl, hb⟩
  have hb' : Below (W3.alloc (.cells #[.int .u8 83, .int .u8 80, .int .u8 76, .int .u8 50] 5 (4, 5))).heap.size (W3.alloc (.cells #[.int .u8 83, .int .u8 80, .int .u8 76, .int .u8 50] 5 (4, 5))) w4 := by have := HS3.out; simpa [this] using hb
  have hB4 := below_step (below_alloc (Below.refl _ _) (.cells #[.int .u8 83, .int .u8 80, .int .u8 76, .int .u8 50] 5 (4, 5))) hb'
  have H4 := hid (And.intro (H3.out.1.below hB4) (below_step H3.out.2.2.1 hB4))
  have hB5 := below_alloc (Below.refl w4.heap.size w4) (.cells #[.slice none 0 0, .slice none 0 0, .slice none 0 0] 91)
  have f4 := blk_below H3.out.2.2.2.1 hB4
  have hC4 := Kd.C_below H3.out.2.1 hB4
  have hstr : (convert 22 9 (.slice A 10 c)).run Try.prog (w4.alloc (.cells #[.slice none 0 0, .slice none 0 0, .slice none 0 0] 91)) = .ok (.string (strOfNums [83, 80, 76, 49, 0, 0, 0, 0, 0, 0])) (w4.alloc (.cells #[.slice none 0 0, .slice none 0 0, .slice none 0 0] 91)) := Kd.C_string (c := c) Try.underlying22 Try.underlying5 Try.underlying9 (Kd.C_below hC4 hB5)
  obtain ⟨X, hX⟩ : ∃ W, W = w4.alloc (.cells #[.slice none 0 0, .slice none 0 0, .slice none 0 0] 91) := ⟨_, rfl⟩
  have k0 : (w4.alloc (.cells #[.slice none 0 0, .slice none 0 0, .slice none 0 0] 91)).cell? ⟨w2.heap.size, 0, none⟩ = some (.slice A0 0 c0) := blk_cell (blk_below f4 hB5) 0
  have k1 : (w4.alloc (.cells #[.slice none 0 0, .slice none 0 0, .slice none 0 0] 91)).cell? ⟨w2.heap.size, 1, none⟩ = some (.slice A1 0 c1) := blk_cell (blk_below f4 hB5) 1
  have k2 : (w4.alloc (.cells #[.slice none 0 0, .slice none 0 0, .slice none 0 0] 91)).cell? ⟨w2.heap.size, 2, none⟩ = some (.slice (some ad) 1 c2) := blk_cell (blk_below f4 hB5) 2
  have q0 : (w4.alloc (.cells #[.slice none 0 0, .slice none 0 0, .slice none 0 0] 91)).cell? ad = some (.string ⟨#[102]⟩) := (hB5.cell (World.block_lt_of_cell? _ _ ((hB4.cell (World.block_lt_of_cell? _ _ H3.out.2.2.2.2.1)).trans H3.out.2.2.2.2.1))).trans ((hB4.cell (World.block_lt_of_cell? _ _ H3.out.2.2.2.2.1)).trans H3.out.2.2.2.2.1)
  have q1 : (w4.alloc (.cells #[.slice none 0 0, .slice none 0 0, .slice none 0 0] 91)).cell? ⟨ad.block, ad.off + 1, none⟩ = some (.int .i64 2) := (hB5.cell (World.block_lt_of_cell? _ _ ((hB4.cell (World.block_lt_of_cell? _ _ H3.out.2.2.2.2.2)).trans H3.out.2.2.2.2.2))).trans ((hB4.cell (World.block_lt_of_cell? _ _ H3.out.2.2.2.2.2)).trans H3.out.2.2.2.2.2)
  have H5 := hid (And.intro (H4.out.1.below hB5) (below_step H4.out.2 hB5))
  clear hb hb' hB4 hB5 f4 hC4 hX X H3 H4
  go_wp2_with fail
  refine (s9_ _ _ _ _ _ _ _ H5.out.1).mono ?_
  rintro e w6 ⟨rfl, hb⟩
  have H6 := hid (below_step H5.out.2 hb)
  clear hb k0 k1 k2 q0 q1 hstr
  go_wp2
  go_ret
  exact ⟨rfl, H6.out⟩
end Go.Proofs.Ytmcfihpbiilbcaa.H
end
section
namespace Go.Proofs.Ytmcfihpbiilbcaa.H
open Go.RowKit Go.Proofs.YtmcfihpbiilbcaaW.PrintWords Go.Proofs.YtmcfihpbiilbcaaW.PrintLast Go.Proofs.YtmcfihpbiilbcaaW.PrintMore Go.Proofs.Ytmcfihpbiilbcaa.E
set_option linter.unusedVariables false
set_option linter.unusedSimpArgs false
theorem eqWords_from (a b : List Int) (hlen : a.length = b.length) (hL : a.length ≤ 4611686018427387904) : ∀ (d : Nat) (k : Nat) (i : Int), 0 ≤ i → i ≤ a.length → (a.length : Int) - i = d → d < k →
    spliceref01_Words.l0 k a b i = some (decide (a.drop i.toNat = b.drop i.toNat)) := by
  intro d
  induction d with
  | zero =>
    intro k i h0 h1 hd hk
    obtain ⟨k, rfl⟩ : ∃ m, k = m + 1 := ⟨k - 1, by omega⟩
    simp only [spliceref01_Words.l0]
    rw [if_neg (by omega), List.drop_eq_nil_of_le (by omega), List.drop_eq_nil_of_le (by omega)]
    simp
  | succ d ih =>
    intro k i h0 h1 hd hk
    obtain ⟨k, rfl⟩ : ∃ m, k = m + 1 := ⟨k - 1, by omega⟩
    simp only [spliceref01_Words.l0]
    have ha : i.toNat < a.length := by omega
    have hb : i.toNat < b.length := by omega
    rw [if_pos (by omega), if_pos h0, if_pos (by omega), List.drop_eq_getElem_cons ha, List.drop_eq_getElem_cons hb]
    have ra : rd a i = a[i.toNat] := by unfold rd; rw [List.getD_eq_getElem?_getD, List.getElem?_eq_getElem ha]; rfl
    have rb : rd b i = b[i.toNat] := by unfold rd; rw [List.getD_eq_getElem?_getD, List.getElem?_eq_getElem hb]; rfl
    rw [ra, rb]
    by_cases e : a[i.toNat] = b[i.toNat]
    · rw [if_pos e, wrap64_id (by omega) (by omega), ih k (i + 1) (by omega) (by omega) (by omega) (by omega), show (i + 1).toNat = i.toNat + 1 by omega, e]
      simp only [List.cons.injEq, true_and]
    · rw [if_neg e, decide_eq_false (fun h => e (List.cons.inj h).1)]
theorem eqWords (a b : List Int) (hL : a.length ≤ 4611686018427387904) (k : Nat) (hk : a.length < k) : spliceref01_Words.f k a b = some (decide (a = b)) := by
  unfold spliceref01_Words.f
  by_cases h : a.length = b.length
  · rw [if_pos (by omega), eqWords_from a b h hL a.length k 0 (by omega) (by omega) (by omega) (by omega)]
    simp
  · rw [if_neg (by omega), decide_eq_false (fun e => h (by rw [e]))]
theorem note_q (x y : S122) (W : World) : (binOp .neq 122 (.agg #[.string x.f0, .int .i64 x.f1]) (.agg #[.string y.f0, .int .i64 y.f1])).run Try.prog W = .ok (.bool (!decide (x = y))) W := by
  have h := eqA122 9998 W x.f0 y.f0 x.f1 y.f1
  have e : (x.f0.toList == y.f0.toList && (x.f1 == y.f1)) = decide (x = y) := by
    by_cases hxy : x = y
    · rw [decide_eq_true hxy, hxy]; simp
    · rw [decide_eq_false hxy]
      have := note_ne hxy
      revert this
      generalize (x.f0.toList == y.f0.toList) = p
      generalize (x.f1 == y.f1) = q
      cases p <;> cases q <;> simp
  rw [e] at h
  simp only [binOp]
  simp [Op.equal, Op.maxDepth, h]
set_option maxRecDepth 100000 in
set_option maxHeartbeats 8000000 in
theorem refSame9_c (A0 A1 A2 B0 B1 B2 : Option Addr) (c0 c1 c2 d0 d1 d2 : Nat) (F F' : List S124) (D D' : List S102) (N N' : List S122) (w : World) (hA : CO w A0 A1 A2 c0 c1 c2 F D N) (hB : CO w B0 B1 B2 d0 d1 d2 F' D' N') (ho : OB F D N) :
    Calls Try.prog 75 #[.agg #[.slice A0 F.length c0, .slice A1 D.length c1, .slice A2 N.length c2], .agg #[.slice B0 F'.length d0, .slice B1 D'.length d1, .slice B2 N'.length d2]] w fun e w' => e = .returned (.bool (decide (F = F' ∧ D = D' ∧ N = N'))) ∧ Below w.heap.size w w' := by
  obtain ⟨W2, hW2⟩ : ∃ W, W = (w.alloc (.cells #[.slice A0 F.length c0, .slice A1 D.length c1, .slice A2 N.length c2] 91)).alloc (.cells #[.slice B0 F'.length d0, .slice B1 D'.length d1, .slice B2 N'.length d2] 91) := ⟨_, rfl⟩
  have bx0 := blk_alloc (blk_new w (.cells #[.slice A0 F.length c0, .slice A1 D.length c1, .slice A2 N.length c2] 91)) (.cells #[.slice B0 F'.length d0, .slice B1 D'.length d1, .slice B2 N'.length d2] 91)
  have bx1 := blk_new_at (w.alloc (.cells #[.slice A0 F.length c0, .slice A1 D.length c1, .slice A2 N.length c2] 91)) (.cells #[.slice B0 F'.length d0, .slice B1 D'.length d1, .slice B2 N'.length d2] 91) (w.heap.size + 1) (by simp)
  have hb2 := below_alloc (below_alloc (Below.refl w.heap.size w) (.cells #[.slice A0 F.length c0, .slice A1 D.length c1, .slice A2 N.length c2] 91)) (.cells #[.slice B0 F'.length d0, .slice B1 D'.length d1, .slice B2 N'.length d2] 91)
  rw [← hW2] at bx0 bx1 hb2
  have HW := hid hW2
  have H0 := hid (And.intro hb2 (And.intro bx0 bx1))
  have HA := hid hA
  have HB := hid hB
  have HO := hid ho
  clear bx0 bx1 hb2 hW2 hA hB ho
  have on1 := HO.out.f
  have on2 := HO.out.d
  have on3 := HO.out.n
  by_cases l1 : (F.length : Int) = (F'.length : Int)
  rotate_left
  · rw [decide_eq_false (fun h => l1 (by rw [h.1]))]
    go_enter Try.func75, Try.ntmps75
    go_wp2
    try rw [← HW.out]
    go_ret
    exact ⟨rfl, H0.out.1⟩
  by_cases l2_ : (D.length : Int) = (D'.length : Int)
  rotate_left
  · rw [decide_eq_false (fun h => l2_ (by rw [h.2.1]))]
    go_enter Try.func75, Try.ntmps75
    go_wp2
    try rw [← HW.out]
    go_ret
    exact ⟨rfl, H0.out.1⟩
  by_cases l3_ : (N.length : Int) = (N'.length : Int)
  rotate_left
  · rw [decide_eq_false (fun h => l3_ (by rw [h.2.2]))]
    go_enter Try.func75, Try.ntmps75
    go_wp2
    try rw [← HW.out]
    go_ret
    exact ⟨rfl, H0.out.1⟩
  have hl1 : F'.length = F.length := by omega
  have hl2 : D'.length = D.length := by omega
  have hl3 : N'.length = N.length := by omega
  have HLL := hid (And.intro hl1 (And.intro hl2 hl3))
  obtain ⟨R, hR⟩ : ∃ R, decide (F = F' ∧ D = D' ∧ N = N') = R := ⟨_, rfl⟩
  rw [hR]
  have HRR := hid hR
  clear hR
  have nb1 : ((F.length : Int) != (F'.length : Int)) = false := bne_eq_false_iff_eq.2 l1
  have nb2 : ((D.length : Int) != (D'.length : Int)) = false := bne_eq_false_iff_eq.2 l2_
  have nb3 : ((N.length : Int) != (N'.length : Int)) = false := bne_eq_false_iff_eq.2 l3_
  have nc1 : ((F.length : Int) == (F'.length : Int)) = true := beq_iff_eq.2 l1
  have nc2 : ((D.length : Int) == (D'.length : Int)) = true := beq_iff_eq.2 l2_
  have nc3 : ((N.length : Int) == (N'.length : Int)) = true := beq_iff_eq.2 l3_
  clear l1 l2_ l3_ hl1 hl2 hl3
  go_enter Try.func75, Try.ntmps75
  go_wp2
  rw [← HW.out]
  go_loopw [5, 6, 7] (fun s5 _ _ wx => ∃ (k : Nat), k ≤ F.length ∧ s5 = .int .i64 k ∧ Hid (F.take k = F'.take k ∧ Below W2.heap.size W2 wx)) (fun s5 _ _ _ => F.length - (intOf s5).toNat)
  case atStart => exact ⟨0, by omega, rfl, hid ⟨by rw [List.take_zero, List.take_zero], Below.refl _ _⟩⟩
  case round =>
    obtain ⟨k, hk, rfl, hI⟩ := hrel
    have HBX := hid (And.intro (below_step H0.out.1 hI.out.2) (And.intro (blk_below H0.out.2.1 hI.out.2) (blk_below H0.out.2.2 hI.out.2)))
    have x0 : wr.cell? ⟨w.heap.size, 0, none⟩ = some (.slice A0 F.length c0) := blk_cell HBX.out.2.1 0
    have y0 : wr.cell? ⟨w.heap.size + 1, 0, none⟩ = some (.slice B0 F'.length d0) := blk_cell HBX.out.2.2 0
    by_cases hlt : (k : Int) < (F.length : Int)
    · have hk1 : k < F.length := by omega
      have hk2 : k < F'.length := by have h := HLL.out; omega
      have hltm : (k : Int) < (F'.length : Int) := by omega
      obtain ⟨ad, P2, c2_, P3, c3_, rfl, q0, q1, q2, q3, l2, g2, l3, g3⟩ := at_T124 (Kd.C_below HA.out.f HBX.out.1) (k : Int) (by omega) (by omega)
      obtain ⟨bd, Q2, d2_, Q3, d3_, rfl, p0, p1, p2, p3, m2, n2, m3, n3⟩ := at_T124 (Kd.C_below HB.out.f HBX.out.1) (k : Int) (by omega) (by omega)
      have rx : rd_T124 F (k : Int) = F[k] := by unfold rd_T124; rw [Int.toNat_natCast, List.getD_eq_getElem?_getD, List.getElem?_eq_getElem hk1]; rfl
      have ry : rd_T124 F' (k : Int) = F'[k] := by unfold rd_T124; rw [Int.toNat_natCast, List.getD_eq_getElem?_getD, List.getElem?_eq_getElem hk2]; rfl
      have e3 : IntKind.i64.wrap ((k : Int) + 1) = (k : Int) + 1 := IntWalk.i64_in _ (by omega)
      have hst := take_eq_step hk1 hk2 hI.out.1
      have hno : ¬ F[k] = F'[k] → ¬ (F = F' ∧ D = D' ∧ N = N') := fun h e => at_ne hk1 hk2 h (by exact e.1)
      have hbx := HO.out.fs _ (List.getElem_mem hk1)
      generalize rd_T124 F (k : Int) = x at *
      generalize rd_T124 F' (k : Int) = y at *
      rw [← rx] at hst hno hbx
      rw [← ry] at hst hno
      simp only [Int.toNat_natCast] at q0 q1 q2 q3 p0 p1 p2 p3
      clear rx ry
      obtain ⟨x_0, x_1, x_2, x_3⟩ := x
      obtain ⟨y_0, y_1, y_2, y_3⟩ := y
      dsimp only at q0 q1 q2 q3 p0 p1 p2 p3 l2 g2 l3 g3 m2 n2 m3 n3 hbx
      have ap0 := ((below_alloc (Below.refl wr.heap.size wr) (.cells #[.string x_0, .int .i64 x_1, .slice P2 x_2.length c2_, .slice P3 x_3.length c3_] 124)).cell (World.block_lt_of_cell? _ _ p0)).trans p0
      have ap1 := ((below_alloc (Below.refl wr.heap.size wr) (.cells #[.string x_0, .int .i64 x_1, .slice P2 x_2.length c2_, .slice P3 x_3.length c3_] 124)).cell (World.block_lt_of_cell? _ _ p1)).trans p1
      have ap2 := ((below_alloc (Below.refl wr.heap.size wr) (.cells #[.string x_0, .int .i64 x_1, .slice P2 x_2.length c2_, .slice P3 x_3.length c3_] 124)).cell (World.block_lt_of_cell? _ _ p2)).trans p2
      have ap3 := ((below_alloc (Below.refl wr.heap.size wr) (.cells #[.string x_0, .int .i64 x_1, .slice P2 x_2.length c2_, .slice P3 x_3.length c3_] 124)).cell (World.block_lt_of_cell? _ _ p3)).trans p3
      have ay0 := ((below_alloc (Below.refl wr.heap.size wr) (.cells #[.string x_0, .int .i64 x_1, .slice P2 x_2.length c2_, .slice P3 x_3.length c3_] 124)).cell (World.block_lt_of_cell? _ _ y0)).trans y0
      obtain ⟨W1, hW1⟩ : ∃ W, W = (wr.alloc (.cells #[.string x_0, .int .i64 x_1, .slice P2 x_2.length c2_, .slice P3 x_3.length c3_] 124)).alloc (.cells #[.string y_0, .int .i64 y_1, .slice Q2 y_2.length d2_, .slice Q3 y_3.length d3_] 124) := ⟨_, rfl⟩
      have hB1 := below_alloc (below_alloc (Below.refl wr.heap.size wr) (.cells #[.string x_0, .int .i64 x_1, .slice P2 x_2.length c2_, .slice P3 x_3.length c3_] 124)) (.cells #[.string y_0, .int .i64 y_1, .slice Q2 y_2.length d2_, .slice Q3 y_3.length d3_] 124)
      have f0 := blk_alloc (blk_new wr (.cells #[.string x_0, .int .i64 x_1, .slice P2 x_2.length c2_, .slice P3 x_3.length c3_] 124)) (.cells #[.string y_0, .int .i64 y_1, .slice Q2 y_2.length d2_, .slice Q3 y_3.length d3_] 124)
      have f1 := blk_new_at (wr.alloc (.cells #[.string x_0, .int .i64 x_1, .slice P2 x_2.length c2_, .slice P3 x_3.length c3_] 124)) (.cells #[.string y_0, .int .i64 y_1, .slice Q2 y_2.length d2_, .slice Q3 y_3.length d3_] 124) (wr.heap.size + 1) (by simp)
      rw [← hW1] at hB1 f0 f1
      have HW1 := hid hW1
      have H1 := hid (And.intro (below_step HBX.out.1 hB1) (And.intro f0 f1))
      have H1b := hid (below_step hI.out.2 hB1)
      have HG := hid (And.intro (Kd.C_below g2 hB1) (And.intro (Kd.C_below g3 hB1) (And.intro (Kd.C_below n2 hB1) (Kd.C_below n3 hB1))))
      have HS := hid (And.intro hst (And.intro hno hbx))
      clear hst hno hbx g2 g3 n2 n3 hW1 hB1 f0 f1 hI
      by_cases e0 : x_0 = y_0
      rotate_left
      · have hne := HS.out.2.1 (fun h => e0 (by injection h))
        have HNE := hid hne
        clear hne
        have b0 : (x_0.toList == y_0.toList) = false := by rw [Lib.bytes_beq_false_iff]; exact e0
        go_wp2
        try rw [← HW1.out]
        go_ret
        exact ⟨by rw [← HRR.out, decide_eq_false HNE.out] <;> rfl, by first | exact H1.out.1 | (rw [← HW1.out]; exact H1.out.1)⟩
      subst e0
      by_cases e1 : x_1 = y_1
      rotate_left
      · have hne := HS.out.2.1 (fun h => e1 (by injection h))
        have HNE := hid hne
        clear hne
        go_wp2
        try rw [← HW1.out]
        go_ret
        exact ⟨by rw [← HRR.out, decide_eq_false HNE.out] <;> rfl, by first | exact H1.out.1 | (rw [← HW1.out]; exact H1.out.1)⟩
      subst e1
      go_wp2_with fail
      try rw [← HW1.out]
      refine (spliceref01_Words.calls 1000000001 P2 c2_ x_2 Q2 d2_ y_2 (decide (x_2 = y_2)) W1 HG.out.1 l2 HG.out.2.2.1 m2 (eqWords _ _ (by have := HS.out.2.2.1; omega) _ (by have := HS.out.2.2.1; omega))).mono ?_
      rintro e w2 ⟨rfl, ⟨nd, rfl⟩⟩
      by_cases e8 : x_2 = y_2
      rotate_left
      · have hne := HS.out.2.1 (fun h => e8 (by injection h))
        have HNE := hid hne
        rw [decide_eq_false e8]
        clear e8 hne
        go_wp2
        go_ret
        exact ⟨by rw [← HRR.out, decide_eq_false HNE.out] <;> rfl, pw_below_drewN H1.out.1 nd⟩
      rw [decide_eq_true e8]
      have H2b := hid (pw_below_drewN (Below.refl W1.heap.size W1) nd)
      have u0 : (W1.drewN nd).cell? ⟨wr.heap.size, 0, none⟩ = some (.string x_0) := blk_cell H1.out.2.1 0
      have v0 : (W1.drewN nd).cell? ⟨wr.heap.size + 1, 0, none⟩ = some (.string x_0) := blk_cell H1.out.2.2 0
      have u1 : (W1.drewN nd).cell? ⟨wr.heap.size, 1, none⟩ = some (.int .i64 x_1) := blk_cell H1.out.2.1 1
      have v1 : (W1.drewN nd).cell? ⟨wr.heap.size + 1, 1, none⟩ = some (.int .i64 x_1) := blk_cell H1.out.2.2 1
      have u2 : (W1.drewN nd).cell? ⟨wr.heap.size, 2, none⟩ = some (.slice P2 x_2.length c2_) := blk_cell H1.out.2.1 2
      have v2 : (W1.drewN nd).cell? ⟨wr.heap.size + 1, 2, none⟩ = some (.slice Q2 y_2.length d2_) := blk_cell H1.out.2.2 2
      have u3 : (W1.drewN nd).cell? ⟨wr.heap.size, 3, none⟩ = some (.slice P3 x_3.length c3_) := blk_cell H1.out.2.1 3
      have v3 : (W1.drewN nd).cell? ⟨wr.heap.size + 1, 3, none⟩ = some (.slice Q3 y_3.length d3_) := blk_cell H1.out.2.2 3
      have HE8 := hid e8
      clear e8
      go_wp2_with fail
      refine (spliceref09_sameRels.calls 1000000001 P3 c3_ x_3 Q3 d3_ y_3 (decide (x_3 = y_3)) _ (Kd.C_below HG.out.2.1 H2b.out) l3 (Kd.C_below HG.out.2.2.2 H2b.out) m3 (eqRels _ _ (by have := HS.out.2.2.2; omega) _ (by have := HS.out.2.2.2; omega))).mono ?_
      rintro e w3 ⟨rfl, ⟨nd3, rfl⟩⟩
      have H3 := hid (pw_below_drewN (pw_below_drewN H1b.out nd) nd3)
      by_cases e9 : x_3 = y_3
      rotate_left
      · have hne := HS.out.2.1 (fun h => e9 (by injection h))
        have HNE := hid hne
        rw [decide_eq_false e9]
        clear e9 hne
        go_wp2
        go_ret
        exact ⟨by rw [← HRR.out, decide_eq_false HNE.out] <;> rfl, by simpa using below_step H0.out.1 H3.out⟩
      rw [decide_eq_true e9]
      have hst := HS.out.1 (by rw [HE8.out, e9])
      have HST := hid hst
      clear e9 hst u0 v0 u1 v1 u2 v2 u3 v3
      go_wp2
      go_roundw
      case rel => exact ⟨k + 1, by omega, by go_num, hid ⟨HST.out, by simpa using H3.out⟩⟩
      case measure => simp [intOf]; omega
    · have hkl : k = F.length := by omega
      have heq : F = F' := by
        have h := hI.out.1
        rw [List.take_of_length_le (by omega), List.take_of_length_le (by have h2 := HLL.out; omega)] at h
        exact h
      have HEQ := hid heq
      have HWR := hid hI.out.2
      clear heq hI HBX
      go_wp2
      go_loopw [8, 9, 10] (fun s8 _ _ wx => ∃ (k : Nat), k ≤ D.length ∧ s8 = .int .i64 k ∧ Hid (D.take k = D'.take k ∧ Below W2.heap.size W2 wx)) (fun s8 _ _ _ => D.length - (intOf s8).toNat)
      case atStart => exact ⟨0, by omega, rfl, hid ⟨by rw [List.take_zero, List.take_zero], HWR.out⟩⟩
      case round =>
        obtain ⟨k, hk, rfl, hI⟩ := hrel
        have HBX := hid (And.intro (below_step H0.out.1 hI.out.2) (And.intro (blk_below H0.out.2.1 hI.out.2) (blk_below H0.out.2.2 hI.out.2)))
        have x1 : wr.cell? ⟨w.heap.size, 1, none⟩ = some (.slice A1 D.length c1) := blk_cell HBX.out.2.1 1
        have y1 : wr.cell? ⟨w.heap.size + 1, 1, none⟩ = some (.slice B1 D'.length d1) := blk_cell HBX.out.2.2 1
        by_cases hlt : (k : Int) < (D.length : Int)
        · have hk1 : k < D.length := by omega
          have hk2 : k < D'.length := by have h := HLL.out; omega
          have hltm : (k : Int) < (D'.length : Int) := by omega
          obtain ⟨ad, P5, c5_, P6, c6_, rfl, q0, q1, q2, q3, q4, q5, q6, l2, g2, l3, g3⟩ := at_T102 (Kd.C_below HA.out.d HBX.out.1) (k : Int) (by omega) (by omega)
          obtain ⟨bd, Q5, d5_, Q6, d6_, rfl, p0, p1, p2, p3, p4, p5, p6, m2, n2, m3, n3⟩ := at_T102 (Kd.C_below HB.out.d HBX.out.1) (k : Int) (by omega) (by omega)
          have rx : rd_T102 D (k : Int) = D[k] := by unfold rd_T102; rw [Int.toNat_natCast, List.getD_eq_getElem?_getD, List.getElem?_eq_getElem hk1]; rfl
          have ry : rd_T102 D' (k : Int) = D'[k] := by unfold rd_T102; rw [Int.toNat_natCast, List.getD_eq_getElem?_getD, List.getElem?_eq_getElem hk2]; rfl
          have e3 : IntKind.i64.wrap ((k : Int) + 1) = (k : Int) + 1 := IntWalk.i64_in _ (by omega)
          have hst := take_eq_step hk1 hk2 hI.out.1
          have hno : ¬ D[k] = D'[k] → ¬ (F = F' ∧ D = D' ∧ N = N') := fun h e => at_ne hk1 hk2 h (by exact e.2.1)
          have hbx := HO.out.ds _ (List.getElem_mem hk1)
          generalize rd_T102 D (k : Int) = x at *
          generalize rd_T102 D' (k : Int) = y at *
          rw [← rx] at hst hno hbx
          rw [← ry] at hst hno
          simp only [Int.toNat_natCast] at q0 q1 q2 q3 q4 q5 q6 p0 p1 p2 p3 p4 p5 p6
          clear rx ry
          obtain ⟨x_0, x_1, x_2, x_3, x_4, x_5, x_6⟩ := x
          obtain ⟨y_0, y_1, y_2, y_3, y_4, y_5, y_6⟩ := y
          dsimp only at q0 q1 q2 q3 q4 q5 q6 p0 p1 p2 p3 p4 p5 p6 l2 g2 l3 g3 m2 n2 m3 n3 hbx
          have ap0 := ((below_alloc (Below.refl wr.heap.size wr) (.cells #[.string x_0, .int .i64 x_1, .int .i64 x_2, .bool x_3, .int .i64 x_4, .slice P5 x_5.length c5_, .slice P6 x_6.length c6_] 102)).cell (World.block_lt_of_cell? _ _ p0)).trans p0
          have ap1 := ((below_alloc (Below.refl wr.heap.size wr) (.cells #[.string x_0, .int .i64 x_1, .int .i64 x_2, .bool x_3, .int .i64 x_4, .slice P5 x_5.length c5_, .slice P6 x_6.length c6_] 102)).cell (World.block_lt_of_cell? _ _ p1)).trans p1
          have ap2 := ((below_alloc (Below.refl wr.heap.size wr) (.cells #[.string x_0, .int .i64 x_1, .int .i64 x_2, .bool x_3, .int .i64 x_4, .slice P5 x_5.length c5_, .slice P6 x_6.length c6_] 102)).cell (World.block_lt_of_cell? _ _ p2)).trans p2
          have ap3 := ((below_alloc (Below.refl wr.heap.size wr) (.cells #[.string x_0, .int .i64 x_1, .int .i64 x_2, .bool x_3, .int .i64 x_4, .slice P5 x_5.length c5_, .slice P6 x_6.length c6_] 102)).cell (World.block_lt_of_cell? _ _ p3)).trans p3
          have ap4 := ((below_alloc (Below.refl wr.heap.size wr) (.cells #[.string x_0, .int .i64 x_1, .int .i64 x_2, .bool x_3, .int .i64 x_4, .slice P5 x_5.length c5_, .slice P6 x_6.length c6_] 102)).cell (World.block_lt_of_cell? _ _ p4)).trans p4
          have ap5 := ((below_alloc (Below.refl wr.heap.size wr) (.cells #[.string x_0, .int .i64 x_1, .int .i64 x_2, .bool x_3, .int .i64 x_4, .slice P5 x_5.length c5_, .slice P6 x_6.length c6_] 102)).cell (World.block_lt_of_cell? _ _ p5)).trans p5
          have ap6 := ((below_alloc (Below.refl wr.heap.size wr) (.cells #[.string x_0, .int .i64 x_1, .int .i64 x_2, .bool x_3, .int .i64 x_4, .slice P5 x_5.length c5_, .slice P6 x_6.length c6_] 102)).cell (World.block_lt_of_cell? _ _ p6)).trans p6
          have ay1 := ((below_alloc (Below.refl wr.heap.size wr) (.cells #[.string x_0, .int .i64 x_1, .int .i64 x_2, .bool x_3, .int .i64 x_4, .slice P5 x_5.length c5_, .slice P6 x_6.length c6_] 102)).cell (World.block_lt_of_cell? _ _ y1)).trans y1
          obtain ⟨W1, hW1⟩ : ∃ W, W = (wr.alloc (.cells #[.string x_0, .int .i64 x_1, .int .i64 x_2, .bool x_3, .int .i64 x_4, .slice P5 x_5.length c5_, .slice P6 x_6.length c6_] 102)).alloc (.cells #[.string y_0, .int .i64 y_1, .int .i64 y_2, .bool y_3, .int .i64 y_4, .slice Q5 y_5.length d5_, .slice Q6 y_6.length d6_] 102) := ⟨_, rfl⟩
          have hB1 := below_alloc (below_alloc (Below.refl wr.heap.size wr) (.cells #[.string x_0, .int .i64 x_1, .int .i64 x_2, .bool x_3, .int .i64 x_4, .slice P5 x_5.length c5_, .slice P6 x_6.length c6_] 102)) (.cells #[.string y_0, .int .i64 y_1, .int .i64 y_2, .bool y_3, .int .i64 y_4, .slice Q5 y_5.length d5_, .slice Q6 y_6.length d6_] 102)
          have f0 := blk_alloc (blk_new wr (.cells #[.string x_0, .int .i64 x_1, .int .i64 x_2, .bool x_3, .int .i64 x_4, .slice P5 x_5.length c5_, .slice P6 x_6.length c6_] 102)) (.cells #[.string y_0, .int .i64 y_1, .int .i64 y_2, .bool y_3, .int .i64 y_4, .slice Q5 y_5.length d5_, .slice Q6 y_6.length d6_] 102)
          have f1 := blk_new_at (wr.alloc (.cells #[.string x_0, .int .i64 x_1, .int .i64 x_2, .bool x_3, .int .i64 x_4, .slice P5 x_5.length c5_, .slice P6 x_6.length c6_] 102)) (.cells #[.string y_0, .int .i64 y_1, .int .i64 y_2, .bool y_3, .int .i64 y_4, .slice Q5 y_5.length d5_, .slice Q6 y_6.length d6_] 102) (wr.heap.size + 1) (by simp)
          rw [← hW1] at hB1 f0 f1
          have HW1 := hid hW1
          have H1 := hid (And.intro (below_step HBX.out.1 hB1) (And.intro f0 f1))
          have H1b := hid (below_step hI.out.2 hB1)
          have HG := hid (And.intro (Kd.C_below g2 hB1) (And.intro (Kd.C_below g3 hB1) (And.intro (Kd.C_below n2 hB1) (Kd.C_below n3 hB1))))
          have HS := hid (And.intro hst (And.intro hno hbx))
          clear hst hno hbx g2 g3 n2 n3 hW1 hB1 f0 f1 hI
          by_cases e0 : x_0 = y_0
          rotate_left
          · have hne := HS.out.2.1 (fun h => e0 (by injection h))
            have HNE := hid hne
            clear hne
            have b0 : (x_0.toList == y_0.toList) = false := by rw [Lib.bytes_beq_false_iff]; exact e0
            go_wp2
            try rw [← HW1.out]
            go_ret
            exact ⟨by rw [← HRR.out, decide_eq_false HNE.out] <;> rfl, by first | exact H1.out.1 | (rw [← HW1.out]; exact H1.out.1)⟩
          subst e0
          by_cases e1 : x_1 = y_1
          rotate_left
          · have hne := HS.out.2.1 (fun h => e1 (by injection h))
            have HNE := hid hne
            clear hne
            go_wp2
            try rw [← HW1.out]
            go_ret
            exact ⟨by rw [← HRR.out, decide_eq_false HNE.out] <;> rfl, by first | exact H1.out.1 | (rw [← HW1.out]; exact H1.out.1)⟩
          subst e1
          by_cases e2 : x_2 = y_2
          rotate_left
          · have hne := HS.out.2.1 (fun h => e2 (by injection h))
            have HNE := hid hne
            clear hne
            go_wp2
            try rw [← HW1.out]
            go_ret
            exact ⟨by rw [← HRR.out, decide_eq_false HNE.out] <;> rfl, by first | exact H1.out.1 | (rw [← HW1.out]; exact H1.out.1)⟩
          subst e2
          by_cases e3 : x_3 = y_3
          rotate_left
          · have hne := HS.out.2.1 (fun h => e3 (by injection h))
            have HNE := hid hne
            clear hne
            have b3 : (x_3 == y_3) = false := beq_eq_false_iff_ne.2 e3
            have b3n : (x_3 != y_3) = true := bne_iff_ne.2 e3
            go_wp2
            try rw [← HW1.out]
            go_ret
            exact ⟨by rw [← HRR.out, decide_eq_false HNE.out] <;> rfl, by first | exact H1.out.1 | (rw [← HW1.out]; exact H1.out.1)⟩
          subst e3
          by_cases e4 : x_4 = y_4
          rotate_left
          · have hne := HS.out.2.1 (fun h => e4 (by injection h))
            have HNE := hid hne
            clear hne
            go_wp2
            try rw [← HW1.out]
            go_ret
            exact ⟨by rw [← HRR.out, decide_eq_false HNE.out] <;> rfl, by first | exact H1.out.1 | (rw [← HW1.out]; exact H1.out.1)⟩
          subst e4
          go_wp2_with fail
          try rw [← HW1.out]
          refine (spliceref01_Same.calls (x_5.length + 1) P5 c5_ x_5 Q5 d5_ y_5 (decide (x_5 = y_5)) W1 HG.out.1 l2 HG.out.2.2.1 m2 (refSame_eq _ _ (by have := HS.out.2.2.1; omega))).mono ?_
          rintro e w2 ⟨rfl, ⟨nd, rfl⟩⟩
          by_cases e8 : x_5 = y_5
          rotate_left
          · have hne := HS.out.2.1 (fun h => e8 (by injection h))
            have HNE := hid hne
            rw [decide_eq_false e8]
            clear e8 hne
            go_wp2
            go_ret
            exact ⟨by rw [← HRR.out, decide_eq_false HNE.out] <;> rfl, pw_below_drewN H1.out.1 nd⟩
          rw [decide_eq_true e8]
          have H2b := hid (pw_below_drewN (Below.refl W1.heap.size W1) nd)
          have u0 : (W1.drewN nd).cell? ⟨wr.heap.size, 0, none⟩ = some (.string x_0) := blk_cell H1.out.2.1 0
          have v0 : (W1.drewN nd).cell? ⟨wr.heap.size + 1, 0, none⟩ = some (.string x_0) := blk_cell H1.out.2.2 0
          have u1 : (W1.drewN nd).cell? ⟨wr.heap.size, 1, none⟩ = some (.int .i64 x_1) := blk_cell H1.out.2.1 1
          have v1 : (W1.drewN nd).cell? ⟨wr.heap.size + 1, 1, none⟩ = some (.int .i64 x_1) := blk_cell H1.out.2.2 1
          have u2 : (W1.drewN nd).cell? ⟨wr.heap.size, 2, none⟩ = some (.int .i64 x_2) := blk_cell H1.out.2.1 2
          have v2 : (W1.drewN nd).cell? ⟨wr.heap.size + 1, 2, none⟩ = some (.int .i64 x_2) := blk_cell H1.out.2.2 2
          have u3 : (W1.drewN nd).cell? ⟨wr.heap.size, 3, none⟩ = some (.bool x_3) := blk_cell H1.out.2.1 3
          have v3 : (W1.drewN nd).cell? ⟨wr.heap.size + 1, 3, none⟩ = some (.bool x_3) := blk_cell H1.out.2.2 3
          have u4 : (W1.drewN nd).cell? ⟨wr.heap.size, 4, none⟩ = some (.int .i64 x_4) := blk_cell H1.out.2.1 4
          have v4 : (W1.drewN nd).cell? ⟨wr.heap.size + 1, 4, none⟩ = some (.int .i64 x_4) := blk_cell H1.out.2.2 4
          have u5 : (W1.drewN nd).cell? ⟨wr.heap.size, 5, none⟩ = some (.slice P5 x_5.length c5_) := blk_cell H1.out.2.1 5
          have v5 : (W1.drewN nd).cell? ⟨wr.heap.size + 1, 5, none⟩ = some (.slice Q5 y_5.length d5_) := blk_cell H1.out.2.2 5
          have u6 : (W1.drewN nd).cell? ⟨wr.heap.size, 6, none⟩ = some (.slice P6 x_6.length c6_) := blk_cell H1.out.2.1 6
          have v6 : (W1.drewN nd).cell? ⟨wr.heap.size + 1, 6, none⟩ = some (.slice Q6 y_6.length d6_) := blk_cell H1.out.2.2 6
          have HE8 := hid e8
          clear e8
          go_wp2_with fail
          refine (spliceref09_sameRels.calls 1000000001 P6 c6_ x_6 Q6 d6_ y_6 (decide (x_6 = y_6)) _ (Kd.C_below HG.out.2.1 H2b.out) l3 (Kd.C_below HG.out.2.2.2 H2b.out) m3 (eqRels _ _ (by have := HS.out.2.2.2; omega) _ (by have := HS.out.2.2.2; omega))).mono ?_
          rintro e w3 ⟨rfl, ⟨nd3, rfl⟩⟩
          have H3 := hid (pw_below_drewN (pw_below_drewN H1b.out nd) nd3)
          by_cases e9 : x_6 = y_6
          rotate_left
          · have hne := HS.out.2.1 (fun h => e9 (by injection h))
            have HNE := hid hne
            rw [decide_eq_false e9]
            clear e9 hne
            go_wp2
            go_ret
            exact ⟨by rw [← HRR.out, decide_eq_false HNE.out] <;> rfl, by simpa using below_step H0.out.1 H3.out⟩
          rw [decide_eq_true e9]
          have hst := HS.out.1 (by rw [HE8.out, e9])
          have HST := hid hst
          clear e9 hst u0 v0 u1 v1 u2 v2 u3 v3 u4 v4 u5 v5 u6 v6
          go_wp2
          go_roundw
          case rel => exact ⟨k + 1, by omega, by go_num, hid ⟨HST.out, by simpa using H3.out⟩⟩
          case measure => simp [intOf]; omega
        · have hkl : k = D.length := by omega
          have heq : D = D' := by
            have h := hI.out.1
            rw [List.take_of_length_le (by omega), List.take_of_length_le (by have h2 := HLL.out; omega)] at h
            exact h
          have HEQ2 := hid (And.intro HEQ.out heq)
          have HWR := hid hI.out.2
          clear heq hI HBX HEQ
          go_wp2
          go_loopw [11] (fun s11 wx => ∃ (k : Nat), k ≤ N.length ∧ s11 = .int .i64 k ∧ Hid (N.take k = N'.take k ∧ Below W2.heap.size W2 wx)) (fun s11 _ => N.length - (intOf s11).toNat)
          case atStart => exact ⟨0, by omega, rfl, hid ⟨by rw [List.take_zero, List.take_zero], HWR.out⟩⟩
          case round =>
            obtain ⟨k, hk, rfl, hI⟩ := hrel
            have HBX := hid (And.intro (below_step H0.out.1 hI.out.2) (And.intro (blk_below H0.out.2.1 hI.out.2) (blk_below H0.out.2.2 hI.out.2)))
            have x2 : wr.cell? ⟨w.heap.size, 2, none⟩ = some (.slice A2 N.length c2) := blk_cell HBX.out.2.1 2
            have y2 : wr.cell? ⟨w.heap.size + 1, 2, none⟩ = some (.slice B2 N'.length d2) := blk_cell HBX.out.2.2 2
            by_cases hlt : (k : Int) < (N.length : Int)
            · have hk1 : k < N.length := by omega
              have hk2 : k < N'.length := by have h := HLL.out; omega
              have hltm : (k : Int) < (N'.length : Int) := by omega
              have e3 : IntKind.i64.wrap ((k : Int) + 1) = (k : Int) + 1 := IntWalk.i64_in _ (by omega)
              obtain ⟨ad, rfl, q0, q1⟩ := at_T122 (Kd.C_below HA.out.n HBX.out.1) (k : Int) (by omega) (by omega)
              obtain ⟨bd, rfl, p0, p1⟩ := at_T122 (Kd.C_below HB.out.n HBX.out.1) (k : Int) (by omega) (by omega)
              have rx : rd_T122 N (k : Int) = N[k] := by unfold rd_T122; rw [Int.toNat_natCast, List.getD_eq_getElem?_getD, List.getElem?_eq_getElem hk1]; rfl
              have ry : rd_T122 N' (k : Int) = N'[k] := by unfold rd_T122; rw [Int.toNat_natCast, List.getD_eq_getElem?_getD, List.getElem?_eq_getElem hk2]; rfl
              have hst := take_eq_step hk1 hk2 hI.out.1
              have hno : ¬ N[k] = N'[k] → ¬ (F = F' ∧ D = D' ∧ N = N') := fun h e => at_ne hk1 hk2 h e.2.2
              generalize rd_T122 N (k : Int) = x at *
              generalize rd_T122 N' (k : Int) = y at *
              rw [← rx] at hst hno
              rw [← ry] at hst hno
              simp only [Int.toNat_natCast] at q0 q1 p0 p1
              have HS := hid (And.intro hst hno)
              have hq : ∀ W : World, (binOp .neq 122 (.agg #[.string x.f0, .int .i64 x.f1]) (.agg #[.string y.f0, .int .i64 y.f1])).run Try.prog W = .ok (.bool (!decide (x = y))) W := note_q x y
              have HBZ := hid hI.out.2.drew
              clear hst hno rx ry hI
              go_wp2
              refine start_ (n := 11) (S := fun W => W.cell? ⟨w.heap.size, 2, none⟩ = some (.slice (some ad) N.length c2) ∧ W.cell? ⟨w.heap.size + 1, 2, none⟩ = some (.slice (some bd) N'.length d2) ∧ W.cell? (ad.add (k * 2)) = some (.string x.f0) ∧ W.cell? ⟨(ad.add (k * 2)).block, (ad.add (k * 2)).off + 1, none⟩ = some (.int .i64 x.f1) ∧ W.cell? (bd.add (k * 2)) = some (.string y.f0) ∧ W.cell? ⟨(bd.add (k * 2)).block, (bd.add (k * 2)).off + 1, none⟩ = some (.int .i64 y.f1)) (ds := []) #[false, false, false, false, false, false, false, false, false, false, false] (by kernel_rfl) rfl rfl ⟨x2, y2, q0, q1, p0, p1⟩ (fun hHeld => ?_)
              refine pure_ (i := 0) (N := (some 155)) (v := ?_) (a' := ?_) #[true, false, false, false, false, false, false, false, false, false, false] rfl rfl (by kernel_rfl) (fun _ _ _ h => h) (Or.inl ⟨by rfl, ?_⟩) ?_ ?_
              rotate_left
              · intro w'
                go_simp
                with_reducible rfl
              rotate_left
              · simp only [Act.put, List.setIfInBounds_toArray, List.set_cons_zero, List.set_cons_succ, i64_w]
                rfl
              refine take_ (i := 1) (N := (some 156)) (v := ?_) (a' := ?_) #[true, true, false, false, false, false, false, false, false, false, false] rfl rfl (by kernel_rfl) (fun _ _ _ h => h) (Or.inl ⟨by rfl, ?_⟩) hHeld ?_ ?_
              rotate_left
              · rintro w' ⟨s0, s1, s2, s3, s4, s5⟩
                go_simp
                with_reducible rfl
              rotate_left
              · simp only [Act.put, List.setIfInBounds_toArray, List.set_cons_zero, List.set_cons_succ, i64_w]
                rfl
              refine pure_ (i := 2) (N := (some 157)) (v := ?_) (a' := ?_) #[true, true, true, false, false, false, false, false, false, false, false] rfl rfl (by kernel_rfl) (fun _ _ _ h => h) (Or.inl ⟨by rfl, ?_⟩) ?_ ?_
              rotate_left
              · intro w'
                go_simp
                with_reducible rfl
              rotate_left
              · simp only [Act.put, List.setIfInBounds_toArray, List.set_cons_zero, List.set_cons_succ, i64_w]
                rfl
              refine pure_ (i := 3) (N := (some 158)) (v := ?_) (a' := ?_) #[true, true, true, true, false, false, false, false, false, false, false] rfl rfl (by kernel_rfl) (fun _ _ _ h => h) (Or.inl ⟨by rfl, ?_⟩) ?_ ?_
              rotate_left
              · intro w'
                go_simp
                with_reducible rfl
              rotate_left
              · simp only [Act.put, List.setIfInBounds_toArray, List.set_cons_zero, List.set_cons_succ, i64_w]
                rfl
              refine take_ (i := 4) (N := (some 159)) (v := ?_) (a' := ?_) #[true, true, true, true, true, false, false, false, false, false, false] rfl rfl (by kernel_rfl) (fun _ _ _ h => h) (Or.inl ⟨by rfl, ?_⟩) hHeld ?_ ?_
              rotate_left
              · rintro w' ⟨s0, s1, s2, s3, s4, s5⟩
                go_simp
                with_reducible rfl
              rotate_left
              · simp only [Act.put, List.setIfInBounds_toArray, List.set_cons_zero, List.set_cons_succ, i64_w]
                rfl
              refine pure_ (i := 5) (N := (some 160)) (v := ?_) (a' := ?_) #[true, true, true, true, true, true, false, false, false, false, false] rfl rfl (by kernel_rfl) (fun _ _ _ h => h) (Or.inl ⟨by rfl, ?_⟩) ?_ ?_
              rotate_left
              · intro w'
                go_simp
                with_reducible rfl
              rotate_left
              · simp only [Act.put, List.setIfInBounds_toArray, List.set_cons_zero, List.set_cons_succ, i64_w]
                rfl
              refine take_ (i := 6) (N := (some 161)) (v := ?_) (a' := ?_) #[true, true, true, true, true, true, true, false, false, false, false] rfl rfl (by kernel_rfl) (fun _ _ _ h => h) (Or.inl ⟨by rfl, ?_⟩) hHeld ?_ ?_
              rotate_left
              · rintro w' ⟨s0, s1, s2, s3, s4, s5⟩
                go_simp
                with_reducible rfl
              rotate_left
              · simp only [Act.put, List.setIfInBounds_toArray, List.set_cons_zero, List.set_cons_succ, i64_w]
                rfl
              refine pure_ (i := 7) (N := (some 162)) (v := ?_) (a' := ?_) #[true, true, true, true, true, true, true, true, false, false, false] rfl rfl (by kernel_rfl) (fun _ _ _ h => h) (Or.inl ⟨by rfl, ?_⟩) ?_ ?_
              rotate_left
              · intro w'
                go_simp
                with_reducible rfl
              rotate_left
              · simp only [Act.put, List.setIfInBounds_toArray, List.set_cons_zero, List.set_cons_succ, i64_w]
                rfl
              refine pure_ (i := 8) (N := (some 163)) (v := ?_) (a' := ?_) #[true, true, true, true, true, true, true, true, true, false, false] rfl rfl (by kernel_rfl) (fun _ _ _ h => h) (Or.inl ⟨by rfl, ?_⟩) ?_ ?_
              rotate_left
              · intro w'
                go_simp
                with_reducible rfl
              rotate_left
              · simp only [Act.put, List.setIfInBounds_toArray, List.set_cons_zero, List.set_cons_succ, i64_w]
                rfl
              refine take_ (i := 9) (N := (some 164)) (v := ?_) (a' := ?_) #[true, true, true, true, true, true, true, true, true, true, false] rfl rfl (by kernel_rfl) (fun _ _ _ h => h) (Or.inl ⟨by rfl, ?_⟩) hHeld ?_ ?_
              rotate_left
              · rintro w' ⟨s0, s1, s2, s3, s4, s5⟩
                go_simp
                with_reducible rfl
              rotate_left
              · simp only [Act.put, List.setIfInBounds_toArray, List.set_cons_zero, List.set_cons_succ, i64_w]
                rfl
              refine pure_ (i := 10) (N := (some 165)) (v := ?_) (a' := ?_) #[true, true, true, true, true, true, true, true, true, true, true] rfl rfl (by kernel_rfl) (fun _ _ _ h => h) (Or.inl ⟨by rfl, ?_⟩) ?_ ?_
              rotate_left
              · intro w'
                go_simp
                with_reducible rfl
              rotate_left
              · simp only [Act.put, List.setIfInBounds_toArray, List.set_cons_zero, List.set_cons_succ, i64_w]
                rfl
              refine done_ (by kernel_rfl) ?_
              by_cases e9 : x = y
              · have hst := HS.out.1 e9
                have HST := hid hst
                have hd : (!decide (x = y)) = false := by rw [decide_eq_true e9]; rfl
                rw [hd]
                clear hst e9 hd
                go_wp2
                go_roundw
                case rel => exact ⟨k + 1, by omega, by go_num, hid ⟨HST.out, HBZ.out⟩⟩
                case measure => simp [intOf]; omega
              · have hne := HS.out.2 e9
                have HNE := hid hne
                have hd : (!decide (x = y)) = true := by rw [decide_eq_false e9]; rfl
                rw [hd]
                clear hne e9 hd
                go_wp2
                go_ret
                exact ⟨by rw [← HRR.out, decide_eq_false HNE.out] <;> rfl, below_step H0.out.1 HBZ.out⟩
            · have hkl : k = N.length := by omega
              have heq : N = N' := by
                have h := hI.out.1
                rw [List.take_of_length_le (by omega), List.take_of_length_le (by have h2 := HLL.out; omega)] at h
                exact h
              have HALL := hid (show F = F' ∧ D = D' ∧ N = N' from ⟨HEQ2.out.1, HEQ2.out.2, heq⟩)
              clear heq
              go_wp2
              go_ret
              exact ⟨by rw [← HRR.out, decide_eq_true HALL.out] <;> rfl, HBX.out.1⟩
end Go.Proofs.Ytmcfihpbiilbcaa.H
end
section
namespace Go.Proofs.Ytmcfihpbiilbcaa.H
open Go.RowKit Go.Proofs.YtmcfihpbiilbcaaW.PrintWords Go.Proofs.YtmcfihpbiilbcaaW.PrintLast Go.Proofs.YtmcfihpbiilbcaaW.PrintMore Go.Proofs.Ytmcfihpbiilbcaa.E
set_option linter.unusedVariables false
set_option linter.unusedSimpArgs false
abbrev G9 (w : World) (G : Nat) (A : Option Addr) (n c : Nat) (i e : Int) : Prop := w.heap[G]? = some (.cells #[.slice A n c, .int .i64 i, .int .i64 e] 139 (0, 0))
def pE {α : Type} (e : Int) (r : Except Int (α × Int)) : Except Int (α × Int) := if e = 0 then r else .error e
def Fa {α : Type} (e j : Int) (r : Except Int (α × Int)) (a : α) : Prop := (e = 0 ∧ r = .ok (a, j)) ∨ (e ≠ 0 ∧ r = .error e)
theorem Fa.bind {α β : Type} {p : Pa α} {f : α → Pa β} {l : List Int} {i j1 j2 e0 e1 e2 : Int} {a : α} {b : β} (h : Fa e1 j1 (pE e0 (p l i)) a) (k : Fa e2 j2 (pE e1 (f a l j1)) b) : Fa e2 j2 (pE e0 (pThen p f l i)) b := by
  unfold pE at *
  by_cases z0 : e0 = 0
  · rw [if_pos z0] at h ⊢
    rcases h with ⟨z1, hr⟩ | ⟨z1, hr⟩
    · rw [if_pos z1] at k
      rw [pThen_ok hr]
      exact k
    · rw [if_neg z1] at k
      rw [pThen_err hr]
      rcases k with ⟨_, hk⟩ | ⟨z2, hk⟩
      · cases hk
      · cases hk; exact .inr ⟨z1, rfl⟩
  · rw [if_neg z0] at h ⊢
    rcases h with ⟨_, hr⟩ | ⟨z1, hr⟩
    · cases hr
    · cases hr
      rw [if_neg z0] at k
      exact k
theorem Fa.ret {α : Type} (a : α) (l : List Int) (e j : Int) : Fa e j (pE e (pRet a l j)) a := by
  unfold pE
  by_cases z : e = 0
  · rw [if_pos z]; exact .inl ⟨z, rfl⟩
  · rw [if_neg z]; exact .inr ⟨z, rfl⟩
theorem G9.cells {w : World} {G : Nat} {A : Option Addr} {n c : Nat} {i e : Int} (h : G9 w G A n c i e) :
    w.cell? ⟨G, 0, none⟩ = some (.slice A n c) ∧ w.cell? ⟨G, 1, none⟩ = some (.int .i64 i) ∧ w.cell? ⟨G, 2, none⟩ = some (.int .i64 e) ∧ w.frozen? ⟨G, 1, none⟩ = false ∧ w.frozen? ⟨G, 2, none⟩ = false :=
  ⟨blk_cell h 0, blk_cell h 1, blk_cell h 2, blk_frozen h 1, blk_frozen h 2⟩
def R9 (w : World) (G : Nat) (A : Option Addr) (n c : Nat) (j e : Int) (w' : World) : Prop := Aft G w w' ∧ G9 w' G A n c j e
theorem Aft.setG (G : Nat) (w : World) (k : Nat) (u : Value) : Aft G w (w.setCell ⟨G, k, none⟩ u) :=
  ⟨rfl, rfl, rfl, by simp, fun b _ hne => Below.heap_setCell _ _ _ _ hne⟩
theorem Aft.of_alloc (G : Nat) (w : World) (o : Obj) : Aft G w (w.alloc o) :=
  ⟨rfl, rfl, rfl, by simp, fun b hb _ => Below.heap_alloc _ _ _ hb⟩
theorem Aft.of_belowN {G : Nat} {w w' : World} (h : Below w.heap.size w w') : Aft G w w' := ⟨h.os, h.tape, h.output, h.size, fun b hb _ => h.block b hb⟩
set_option maxRecDepth 100000 in
theorem must116 (w : World) (G : Nat) (A : Option Addr) (n c : Nat) (j e : Int) (b : Bool) (l : List Int) (h : G9 w G A n c j e) :
    Calls Try.prog 116 #[.pointer (some ⟨G, 0, none⟩), .bool b] w fun e' w' => e' = .returned (.tuple #[]) ∧ ∃ e2, Fa e2 j (pE e (pMust b l j)) () ∧ R9 w G A n c j e2 w' := by
  obtain ⟨c0_, c1_, c2_, g1_, g2_⟩ := h.cells
  have HH := hid h
  clear h
  by_cases z : e = 0
  · subst z
    cases b with
    | true =>
      go_enter Try.func116, Try.ntmps116
      go_wp2
      first | go_end0 | refine bodyPost_ret (results_none rfl _ _ _) rfl ?_
      exact ⟨rfl, 0, .inl ⟨rfl, rfl⟩, Aft.drawn (Drawn0.refl _), HH.out⟩
    | false =>
      go_enter Try.func116, Try.ntmps116
      go_wp2
      first | go_end0 | refine bodyPost_ret (results_none rfl _ _ _) rfl ?_
      exact ⟨rfl, 4, .inr ⟨by decide, rfl⟩, Aft.setG G w 2 _, blk_put HH.out 2 _ rfl⟩
  · have hz : (e == 0) = false := beq_eq_false_iff_ne.2 z
    have HZ := hid z
    clear z
    go_enter Try.func116, Try.ntmps116
    go_wp2
    first | go_end0 | refine bodyPost_ret (results_none rfl _ _ _) rfl ?_
    exact ⟨rfl, e, .inr ⟨HZ.out, by unfold pE; rw [if_neg HZ.out]⟩, Aft.drawn (Drawn0.refl _), HH.out⟩
end Go.Proofs.Ytmcfihpbiilbcaa.H
end
section
namespace Go.Proofs.Ytmcfihpbiilbcaa.H
open Go.RowKit Go.Proofs.YtmcfihpbiilbcaaW.PrintWords Go.Proofs.YtmcfihpbiilbcaaW.PrintLast Go.Proofs.YtmcfihpbiilbcaaW.PrintMore Go.Proofs.Ytmcfihpbiilbcaa.E
set_option linter.unusedVariables false
set_option linter.unusedSimpArgs false
theorem CB_made (W : World) (m : Nat) (hm : m ≤ 9223372036854775807) : CB (W.alloc (.cells (madeCells #[.int .u8 0] m) 5)) (some ⟨W.heap.size, 0, none⟩) (List.replicate m (0 : Int)) := by
  have h := own_made_of' (enc := Value.int .u8) (d := (0 : Int)) W W.heap.size 5 m (Nat.le_refl _) hm
  have hr : Kd.R (Kd.int .u8) 5 (W.alloc (.cells (madeCells #[.int .u8 0] m) 5)) W.heap.size (fun _ => True) (.slice (some ⟨W.heap.size, 0, none⟩) m m) (List.replicate m (0 : Int)) := Kd.R_of_own h (fun _ _ => trivial)
  exact (Kd.R_reads' hr).2.2
theorem zeros_bytes (m : Nat) : Bytes (List.replicate m (0 : Int)) := fun x hx => by rw [List.eq_of_mem_replicate hx]; omega
end Go.Proofs.Ytmcfihpbiilbcaa.H
end
section
namespace Go.Proofs.Ytmcfihpbiilbcaa.H
open Go.RowKit Go.Proofs.YtmcfihpbiilbcaaW.PrintWords Go.Proofs.YtmcfihpbiilbcaaW.PrintLast Go.Proofs.YtmcfihpbiilbcaaW.PrintMore Go.Proofs.Ytmcfihpbiilbcaa.E
set_option linter.unusedVariables false
set_option linter.unusedSimpArgs false
theorem SS.nums {F : List S124} {D : List S102} {N : List S122} (h : SS F D N) : NumsOk F D := ⟨h.w, h.b⟩
theorem objB_OB {F : List S124} {D : List S102} {N : List S122} (h : objB F D N = true) : OB F D N := by
  obtain ⟨g1, g2, g3⟩ := objB_spec h
  obtain ⟨f1, f2⟩ := all124B_spec g1
  obtain ⟨d1, d2⟩ := all102B_spec g2
  obtain ⟨n1, n2⟩ := all122B_spec g3
  refine ⟨by omega, by omega, by omega, fun x hx => ?_, fun x hx => ?_⟩
  · obtain ⟨a, b, c, d⟩ := funcB_spec (f2 x hx)
    obtain ⟨e, f⟩ := relsB_spec d
    omega
  · obtain ⟨a, b, c, d, e, f⟩ := dataB_spec (d2 x hx)
    obtain ⟨g, i⟩ := relsB_spec f
    omega
abbrev K3 (w : World) (g : Nat) (a b c : Value) : Prop := w.cell? ⟨g, 0, none⟩ = some a ∧ w.cell? ⟨g, 1, none⟩ = some b ∧ w.cell? ⟨g, 2, none⟩ = some c
theorem k3_of {w : World} {g : Nat} {a b c : Value} {t : TypeId} (h : w.heap[g]? = some (.cells #[a, b, c] t (0, 0))) : K3 w g a b c := ⟨blk_cell h 0, blk_cell h 1, blk_cell h 2⟩
end Go.Proofs.Ytmcfihpbiilbcaa.H
end
section
namespace Go.Proofs.Ytmcfihpbiilbcaa.H
open Go.RowKit Go.Proofs.YtmcfihpbiilbcaaW.PrintWords Go.Proofs.YtmcfihpbiilbcaaW.PrintLast Go.Proofs.YtmcfihpbiilbcaaW.PrintMore Go.Proofs.Ytmcfihpbiilbcaa.E
set_option linter.unusedVariables false
set_option linter.unusedSimpArgs false
theorem rnamed_step (k : Nat) (s : ByteArray) (i : Int) (h0 : 0 ≤ i) (h1 : i < s.size) : spliceref09_named.l0 (k + 1) s i = if letterB (bt s i) = true then spliceref09_named.l0 k s (wrap64 (i + 1)) else some false := by
  simp only [spliceref09_named.l0]
  rw [if_pos h1, if_pos h0]
  generalize spliceref09_named.l0 k s (wrap64 (i + 1)) = R
  generalize bt s i = c
  obtain ⟨L, hL⟩ : ∃ L, L = letterB c := ⟨_, rfl⟩
  rw [← hL]
  cases L
  · have hn : ¬ (97 ≤ c ∧ c ≤ 122 ∨ 65 ≤ c ∧ c ≤ 90 ∨ 48 ≤ c ∧ c ≤ 57 ∨ c = 95 ∨ c = 46) := of_decide_eq_false hL.symm
    clear hL
    have e1 : (if false = true then R else some false) = some false := if_neg (by decide)
    rw [e1]
    clear e1
    repeat' split
    all_goals first | rfl | (exfalso; omega)
  · have hn : 97 ≤ c ∧ c ≤ 122 ∨ 65 ≤ c ∧ c ≤ 90 ∨ 48 ≤ c ∧ c ≤ 57 ∨ c = 95 ∨ c = 46 := of_decide_eq_true hL.symm
    clear hL
    have e1 : (if true = true then R else some false) = R := if_pos rfl
    rw [e1]
    clear e1
    repeat' split
    all_goals first | rfl | (exfalso; omega)
theorem rnamed_from (s : ByteArray) (hs : s.size ≤ 32) : ∀ (d : Nat) (k : Nat) (i : Int), 0 ≤ i → i ≤ s.size → (s.size : Int) - i = d → d < k →
    spliceref09_named.l0 k s i = some (((bytesOf s).drop i.toNat).all letterB) := by
  intro d
  have hlen := bytesOf_length s
  induction d with
  | zero =>
    intro k i h0 h1 hd hk
    obtain ⟨k, rfl⟩ : ∃ m, k = m + 1 := ⟨k - 1, by omega⟩
    simp only [spliceref09_named.l0]
    rw [if_neg (by omega), List.drop_eq_nil_of_le (by omega)]
    rfl
  | succ d ih =>
    intro k i h0 h1 hd hk
    obtain ⟨k, rfl⟩ : ∃ m, k = m + 1 := ⟨k - 1, by omega⟩
    have ha : i.toNat < (bytesOf s).length := by omega
    rw [rnamed_step k s i h0 (by omega), List.drop_eq_getElem_cons ha, List.all_cons]
    have ra : bt s i = (bytesOf s)[i.toNat] := by rw [← rd_bytesOf]; unfold rd; rw [List.getD_eq_getElem?_getD, List.getElem?_eq_getElem ha]; rfl
    rw [ra]
    cases hb : letterB (bytesOf s)[i.toNat]
    · simp
    · rw [if_pos rfl, wrap64_id (by omega) (by omega), ih k (i + 1) (by omega) (by omega) (by omega) (by omega), show (i + 1).toNat = i.toNat + 1 by omega]
      simp
theorem rnamed_q (s : ByteArray) (k : Nat) (hk : 40 ≤ k) : spliceref09_named.f k s = some (namedB s) := by
  obtain ⟨k, rfl⟩ : ∃ m, k = m + 1 := ⟨k - 1, by omega⟩
  unfold spliceref09_named.f namedB
  by_cases h1 : (s.size : Int) < 1
  · rw [if_pos h1]
    simp only [spliceref09_named.j0]
    rw [decide_eq_false (show ¬ 1 ≤ s.size by omega)]
    simp
  · rw [if_neg h1]
    simp only [spliceref09_named.j0]
    by_cases h2 : (s.size : Int) > 32
    · rw [decide_eq_true h2, decide_eq_false (show ¬ s.size ≤ 32 by omega)]
      simp
    · have h := rnamed_from s (by omega) s.size k 0 (by omega) (by omega) (by omega) (by omega)
      rw [show ((0 : Int)).toNat = 0 from rfl, List.drop_zero] at h
      rw [decide_eq_false h2, if_neg (by decide), h, decide_eq_true (show 1 ≤ s.size by omega), decide_eq_true (show s.size ≤ 32 by omega)]
      simp
end Go.Proofs.Ytmcfihpbiilbcaa.H
end
section
namespace Go.Proofs.Ytmcfihpbiilbcaa.H
open Go.RowKit Go.Proofs.YtmcfihpbiilbcaaW.PrintWords Go.Proofs.YtmcfihpbiilbcaaW.PrintLast Go.Proofs.YtmcfihpbiilbcaaW.PrintMore Go.Proofs.Ytmcfihpbiilbcaa.E
set_option linter.unusedVariables false
set_option linter.unusedSimpArgs false
structure Rd (W0 w : World) (G : Nat) (A : Option Addr) (c : Nat) (l : List Int) (i e : Int) : Prop where
  g : G9 w G A l.length c i e
  b : Below W0.heap.size W0 w
  hG : W0.heap.size ≤ G
  C : CB W0 A l
  hc : l.length ≤ c
  by_ : Bytes l
  ll : l.length ≤ 140737488351232
  i0 : 0 ≤ i
  i1 : i ≤ l.length
theorem Rd.next {W0 w w' : World} {G : Nat} {A : Option Addr} {c : Nat} {l : List Int} {i e j e2 : Int} (h : Rd W0 w G A c l i e) (k : Aft G w w') (hg : G9 w' G A l.length c j e2) (j0 : 0 ≤ j) (j1 : j ≤ l.length) : Rd W0 w' G A c l j e2 :=
  ⟨hg, Aft.below h.b k h.hG h.b.size, h.hG, h.C, h.hc, h.by_, h.ll, j0, j1⟩
theorem Rd.cb {W0 w : World} {G : Nat} {A : Option Addr} {c : Nat} {l : List Int} {i e : Int} (h : Rd W0 w G A c l i e) : CB w A l := Kd.C_below h.C h.b
theorem Rd.lt {W0 w : World} {G : Nat} {A : Option Addr} {c : Nat} {l : List Int} {i e : Int} (h : Rd W0 w G A c l i e) : G < w.heap.size := blk_lt h.g
theorem Rd.mem {W0 w w' : World} {G : Nat} {A : Option Addr} {c : Nat} {l : List Int} {i e : Int} (h : Rd W0 w G A c l i e) (k : Below w.heap.size w w') : Rd W0 w' G A c l i e :=
  h.next (Aft.of_belowN k) (blk_below h.g k) h.i0 h.i1
theorem Rd.far {W0 w : World} {G : Nat} {A : Option Addr} {c : Nat} {l : List Int} {i e : Int} (h : Rd W0 w G A c l i e) {g : Nat} (hg : W0.heap.size ≤ g) (hne : G ≠ g) (k : Nat) (u : Value) : Rd W0 (w.setCell ⟨g, k, none⟩ u) G A c l i e :=
  ⟨blk_far h.g (p := ⟨g, k, none⟩) hne u, h.b.setCell (p := ⟨g, k, none⟩) hg u, h.hG, h.C, h.hc, h.by_, h.ll, h.i0, h.i1⟩
theorem R_aftG {α : Type} {d : Kd α} {e base G : Nat} {ok : Nat → Prop} {w w1 : World} {v : Value} {xs : List α} (h : d.R e w base ok v xs) (hG : G < base) (k : Aft G w w1) : d.R e w1 base ok v xs :=
  Kd.R_mono (Kd.R_step (Kd.R_bound h) (fun b hb hl => k.block b hl (by have := hb.2.1; omega))) (fun _ hk => hk.1)
theorem Aft.blk {G : Nat} {w w1 : World} (k : Aft G w w1) {g : Nat} {o : Obj} (h : w.heap[g]? = some o) (hne : g ≠ G) : w1.heap[g]? = some o := (k.block g (blk_lt h) hne).trans h
def M9 {α : Type} (W0 w : World) (G : Nat) (A : Option Addr) (c : Nat) (l : List Int) (r : Except Int (α × Int)) (V : α → World → Value → Int → Prop) (e : Ending) (w' : World) : Prop :=
  ∃ a j e2 v, e = .returned v ∧ V a w' v e2 ∧ Fa e2 j r a ∧ Rd W0 w' G A c l j e2 ∧ Aft G w w'
def TV (n : Int) (s : List Int) (w' : World) (v : Value) (e2 : Int) : Prop := ∃ A' c', v = .slice A' s.length c' ∧ s.length ≤ c' ∧ CB w' A' s ∧ (s.length : Int) = n ∧ Bytes s
set_option maxRecDepth 100000 in
theorem take_cut (W0 w : World) (G : Nat) (A : Option Addr) (c : Nat) (l : List Int) (i n : Int) (h : Rd W0 w G A c l i 0) (h0 : 0 ≤ n) (h1 : n ≤ 140737488355328) (hcut : ¬ i + n ≤ l.length) :
    Calls Try.prog 117 #[.pointer (some ⟨G, 0, none⟩), .int .i64 n] w (M9 W0 w G A c l (pE 0 (pBytes n l i)) (TV n)) := by
  obtain ⟨c0_, c1_, c2_, g1_, g2_⟩ := h.g.cells
  have i0 := h.i0
  have i1 := h.i1
  have ll := h.ll
  have HH := hid h
  have hmk := print_make_int (P := Try.prog) 22 5 (.int .u8 0) 1 Try.underlying22 info5 rfl (by decide) n h0 (by omega)
  obtain ⟨m, rfl⟩ : ∃ m : Nat, n = m := ⟨n.toNat, by omega⟩
  rw [Int.toNat_natCast] at hmk
  have e1 : IntKind.i64.wrap (i + (m : Int)) = i + (m : Int) := IntWalk.i64_in _ (by omega)
  have hd : decide ((l.length : Int) < i + (m : Int)) = true := decide_eq_true (by omega)
  clear h
  go_enter Try.func117, Try.ntmps117
  go_wp2
  go_quiet (fail)
  go_wp2
  go_ret
  have hA : Aft G w ((w.drewN nq).setCell ⟨G, 2, none⟩ (.int .i64 2)) := (Aft.of_belowN (pw_below_drewN (Below.refl w.heap.size w) nq)).then_ (Aft.setG G (w.drewN nq) 2 (.int .i64 2))
  have hA2 := hA.then_ (Aft.of_alloc G _ (.cells (madeCells #[.int .u8 0] m) 5))
  have hg : G9 ((w.drewN nq).setCell ⟨G, 2, none⟩ (.int .i64 2)) G A l.length c i 2 := blk_put (w := w.drewN nq) HH.out.g 2 (.int .i64 2) rfl
  refine ⟨List.replicate m 0, i, 2, _, rfl, ⟨_, m, by simp, by simp, CB_made _ m (by omega), by simp, zeros_bytes m⟩, .inr ⟨by decide, ?_⟩, HH.out.next hA2 (blk_alloc hg _) i0 i1, hA2⟩
  unfold pE pBytes
  rw [if_pos rfl, if_neg (by omega)]
set_option maxRecDepth 100000 in
theorem take_ok (W0 w : World) (G : Nat) (A : Option Addr) (c : Nat) (l : List Int) (i n : Int) (h : Rd W0 w G A c l i 0) (h0 : 0 ≤ n) (h1 : n ≤ 140737488355328) (hcut : i + n ≤ l.length) :
    Calls Try.prog 117 #[.pointer (some ⟨G, 0, none⟩), .int .i64 n] w (M9 W0 w G A c l (pE 0 (pBytes n l i)) (TV n)) := by
  obtain ⟨c0_, c1_, c2_, g1_, g2_⟩ := h.g.cells
  have i0 := h.i0
  have i1 := h.i1
  have ll := h.ll
  have hc := h.hc
  have HH := hid h
  obtain ⟨i5, hi5, _, hs5, _⟩ := info_parts info5
  have hsl := cut_mid 22 5 .i64 .i64 Try.underlying22 hi5 1 hs5 A l.length c i (i + n) i0 (by omega) hcut hc
  have hlm := mid_length i0 h0 hcut
  rw [← hlm] at hsl
  obtain ⟨A', hA'⟩ : ∃ A', (if c = i.toNat then A else A.map (·.add (i.toNat * 1))) = A' := ⟨_, rfl⟩
  rw [hA'] at hsl
  have hCm : ∀ W, CB W A l → CB W A' (mid l i n) := fun W hC => hA' ▸ Kd.C_mid (lo := i.toNat) (hi := (i + n).toNat) hC (by omega) (by omega) hc
  have HC := hid hCm
  have hml := mid_len i0 h0 hcut
  have hc' : (mid l i n).length ≤ c - i.toNat := by omega
  have e1 : IntKind.i64.wrap (i + n) = i + n := IntWalk.i64_in _ (by omega)
  have e2 : IntKind.i64.wrap i = i := IntWalk.i64_in _ (by omega)
  have e3 : IntKind.i64.wrap (i + n - n) = i := by rw [show i + n - n = i by omega]; exact e2
  have hd : decide ((l.length : Int) < i + n) = false := decide_eq_false (by omega)
  have HM := hid hml
  clear h hA' hCm hlm hml
  go_enter Try.func117, Try.ntmps117
  go_wp2
  go_quiet (fail)
  go_wp2
  have hG := blk_put (w := w.drewN nq) HH.out.g 1 (.int .i64 (i + n)) rfl
  have hA : Aft G w ((w.drewN nq).setCell ⟨G, 1, none⟩ (.int .i64 (i + n))) := (Aft.of_belowN (pw_below_drewN (Below.refl w.heap.size w) nq)).then_ (Aft.setG G (w.drewN nq) 1 (.int .i64 (i + n)))
  have hR : Rd W0 ((w.drewN nq).setCell ⟨G, 1, none⟩ (.int .i64 (i + n))) G A c l (i + n) 0 := HH.out.next hA hG (by omega) hcut
  generalize (w.drewN nq).setCell ⟨G, 1, none⟩ (.int .i64 (i + n)) = W at *
  clear c0_ c1_ c2_ g1_ g2_
  obtain ⟨c0_, c1_, c2_, g1_, g2_⟩ := hR.g.cells
  have HR := hid (And.intro hR hA)
  clear hR hA hG
  go_quiet (fail)
  go_wp2
  go_ret
  have hb := pw_below_drewN (Below.refl W.heap.size W) nq
  refine ⟨mid l i n, i + n, 0, _, rfl, ⟨A', _, rfl, hc', HC.out _ (Kd.C_below HR.out.1.cb hb), HM.out, HH.out.by_.mid i n⟩, .inl ⟨rfl, ?_⟩, HR.out.1.mem hb, HR.out.2.then_ (Aft.of_belowN hb)⟩
  unfold pE pBytes
  rw [if_pos rfl, if_pos (by omega)]
set_option maxRecDepth 100000 in
theorem take_bad9 (W0 w : World) (G : Nat) (A : Option Addr) (c : Nat) (l : List Int) (i e n : Int) (h : Rd W0 w G A c l i e) (hz : e ≠ 0) (h0 : 0 ≤ n) (h1 : n ≤ 140737488355328) :
    Calls Try.prog 117 #[.pointer (some ⟨G, 0, none⟩), .int .i64 n] w (M9 W0 w G A c l (pE e (pBytes n l i)) (TV n)) := by
  obtain ⟨c0_, c1_, c2_, g1_, g2_⟩ := h.g.cells
  have HH := hid h
  have hz1 : (e == 0) = false := beq_eq_false_iff_ne.2 hz
  have hz2 : (e != 0) = true := bne_iff_ne.2 hz
  have HZ := hid hz
  have hmk := print_make_int (P := Try.prog) 22 5 (.int .u8 0) 1 Try.underlying22 info5 rfl (by decide) n h0 (by omega)
  obtain ⟨m, rfl⟩ : ∃ m : Nat, n = m := ⟨n.toNat, by omega⟩
  rw [Int.toNat_natCast] at hmk
  clear h hz
  go_enter Try.func117, Try.ntmps117
  go_wp2
  go_quiet (fail)
  go_wp2
  go_ret
  have hb := below_alloc (pw_below_drewN (Below.refl w.heap.size w) nq) (.cells (madeCells #[.int .u8 0] m) 5)
  refine ⟨List.replicate m 0, i, e, _, rfl, ⟨_, m, by simp, by simp, CB_made _ m (by omega), by simp, zeros_bytes m⟩, .inr ⟨HZ.out, by unfold pE; rw [if_neg HZ.out]⟩, HH.out.mem hb, Aft.of_belowN hb⟩
theorem take9_c (W0 w : World) (G : Nat) (A : Option Addr) (c : Nat) (l : List Int) (i e n : Int) (h : Rd W0 w G A c l i e) (h0 : 0 ≤ n) (h1 : n ≤ 140737488355328) :
    Calls Try.prog 117 #[.pointer (some ⟨G, 0, none⟩), .int .i64 n] w (M9 W0 w G A c l (pE e (pBytes n l i)) (TV n)) := by
  by_cases z : e = 0
  · subst z
    by_cases hc : i + n ≤ l.length
    · exact take_ok W0 w G A c l i n h h0 h1 hc
    · exact take_cut W0 w G A c l i n h h0 h1 hc
  · exact take_bad9 W0 w G A c l i e n h z h0 h1
theorem Fa.any {α : Type} {e j : Int} {r : Except Int (α × Int)} {a : α} (h : Fa e j r a) (z : e ≠ 0) (b : α) : Fa e j r b := by
  rcases h with ⟨k, _⟩ | ⟨k, hr⟩
  · exact absurd k z
  · exact .inr ⟨k, hr⟩
theorem Fa.num {e0 e j n i : Int} {l s : List Int} (h : Fa e j (pE e0 (pBytes n l i)) s) : Fa e j (pE e0 (pNum n l i)) (wordOf s) := by
  unfold pE at h ⊢
  by_cases z : e0 = 0
  · rw [if_pos z] at h ⊢
    unfold pBytes at h
    unfold pNum
    by_cases hc : i + n ≤ l.length
    · rw [if_pos hc] at h ⊢
      rcases h with ⟨k, hr⟩ | ⟨k, hr⟩
      · simp only [Except.ok.injEq, Prod.mk.injEq] at hr
        exact .inl ⟨k, by rw [hr.1, hr.2]⟩
      · cases hr
    · rw [if_neg hc] at h ⊢
      rcases h with ⟨k, hr⟩ | ⟨k, hr⟩
      · cases hr
      · cases hr; exact .inr ⟨k, rfl⟩
  · rw [if_neg z] at h ⊢
    rcases h with ⟨k, hr⟩ | ⟨k, hr⟩
    · cases hr
    · cases hr; exact .inr ⟨k, rfl⟩
set_option maxRecDepth 100000 in
theorem num9_c (W0 w : World) (G : Nat) (A : Option Addr) (c : Nat) (l : List Int) (i e n : Int) (h : Rd W0 w G A c l i e) (h0 : 0 ≤ n) (h1 : n ≤ 8) :
    Calls Try.prog 120 #[.pointer (some ⟨G, 0, none⟩), .int .i64 n] w (M9 W0 w G A c l (pE e (pNum n l i)) (fun a _ v _ => v = .int .i64 a ∧ 0 ≤ a ∧ a ≤ 4294967295)) := by
  have HH := hid h
  clear h
  go_enter Try.func120, Try.ntmps120
  go_wp2_with fail
  refine (take9_c W0 _ G A c l i e n HH.out h0 (by omega)).mono ?_
  rintro e' w1 ⟨s, j, e2, v, rfl, ⟨A', c', rfl, hc, hC, hs, hb⟩, hF, hR, hA⟩
  have H1 := hid (And.intro hF (And.intro hR (And.intro hA (And.intro hb hC))))
  have hw := wordOf_range hb
  have e1 : IntKind.i64.wrap (wordOf s) = wordOf s := IntWalk.i64_in _ (by omega)
  clear hF hR hA hb hC hs
  go_wp2_with fail
  refine (spliceref01_Get.calls 5 A' c' s (wordOf s) _ H1.out.2.2.2.2 hc (refGet_eq s H1.out.2.2.2.1)).mono ?_
  rintro e' w2 ⟨rfl, ⟨nd, rfl⟩⟩
  go_wp2
  go_ret
  have hb := pw_below_drewN (Below.refl w1.heap.size w1) nd
  exact ⟨wordOf s, j, e2, _, rfl, ⟨rfl, hw⟩, H1.out.1.num, H1.out.2.1.mem hb, H1.out.2.2.1.then_ (Aft.of_belowN hb)⟩
theorem must9_c (W0 w : World) (G : Nat) (A : Option Addr) (c : Nat) (l : List Int) (i e : Int) (b : Bool) (h : Rd W0 w G A c l i e) :
    Calls Try.prog 116 #[.pointer (some ⟨G, 0, none⟩), .bool b] w fun e' w' => ∃ e2, e' = .returned (.tuple #[]) ∧ Fa e2 i (pE e (pMust b l i)) () ∧ Rd W0 w' G A c l i e2 ∧ Aft G w w' := by
  refine (must116 w G A l.length c i e b l h.g).mono ?_
  rintro e' w' ⟨rfl, e2, hF, hA, hg⟩
  exact ⟨e2, rfl, hF, h.next hA hg h.i0 h.i1, hA⟩
set_option maxRecDepth 100000 in
theorem count9_c (W0 w : World) (G : Nat) (A : Option Addr) (c : Nat) (l : List Int) (i e m : Int) (h : Rd W0 w G A c l i e) (hm : 0 ≤ m) :
    Calls Try.prog 118 #[.pointer (some ⟨G, 0, none⟩), .int .i64 m] w (M9 W0 w G A c l (pE e (pCount m l i)) (fun a _ v _ => v = .int .i64 a ∧ 0 ≤ a ∧ a ≤ m)) := by
  have HH := hid h
  clear h
  go_enter Try.func118, Try.ntmps118
  go_wp2_with fail
  refine (num9_c W0 _ G A c l i e 2 HH.out (by omega) (by omega)).mono ?_
  rintro e' w1 ⟨n, j, e1, v, rfl, ⟨rfl, n0, n1⟩, hF, hR, hA⟩
  have H1 := hid (And.intro hF (And.intro hR hA))
  clear hF hR hA
  go_wp2_with fail
  refine (must9_c W0 _ G A c l j e1 _ H1.out.2.1).mono ?_
  rintro e' w2 ⟨e2, rfl, hF, hR, hA⟩
  have H2 := hid (And.intro hF (And.intro hR (H1.out.2.2.then_ hA)))
  obtain ⟨c0_, c1_, c2_, g1_, g2_⟩ := hR.g.cells
  clear hF hR hA
  have hch : Fa e2 j (pE e (pCount m l i)) n := Fa.bind H1.out.1 (Fa.bind H2.out.1 (Fa.ret n l e2 j))
  have HF := hid hch
  clear hch
  by_cases z : e2 = 0
  · subst z
    have hle : n ≤ m := by
      rcases H2.out.1 with ⟨_, hr⟩ | ⟨k, _⟩
      · unfold pE at hr
        by_cases z1 : e1 = 0
        · rw [if_pos z1] at hr
          unfold pMust at hr
          by_cases hd : n ≤ m
          · exact hd
          · rw [decide_eq_false hd] at hr; cases hr
        · rw [if_neg z1] at hr; cases hr
      · exact absurd rfl k
    go_wp2
    go_ret
    exact ⟨n, j, 0, _, rfl, ⟨rfl, n0, hle⟩, HF.out, H2.out.2.1, H2.out.2.2⟩
  · have z1 : (e2 != 0) = true := bne_iff_ne.2 z
    have z2 : (e2 == 0) = false := beq_eq_false_iff_ne.2 z
    have HZ := hid z
    clear z
    go_wp2
    go_ret
    exact ⟨0, j, e2, _, rfl, ⟨rfl, by omega, hm⟩, HF.out.any HZ.out 0, H2.out.2.1, H2.out.2.2⟩
set_option maxRecDepth 100000 in
theorem name9_c (W0 w : World) (G : Nat) (A : Option Addr) (c : Nat) (l : List Int) (i e : Int) (h : Rd W0 w G A c l i e) :
    Calls Try.prog 119 #[.pointer (some ⟨G, 0, none⟩)] w (M9 W0 w G A c l (pE e (pName l i)) (fun a _ v _ => v = .string a ∧ a.size ≤ 4294967295)) := by
  have HH := hid h
  clear h
  go_enter Try.func119, Try.ntmps119
  go_wp2_with fail
  refine (num9_c W0 _ G A c l i e 1 HH.out (by omega) (by omega)).mono ?_
  rintro e' w1 ⟨n, j, e1, v, rfl, ⟨rfl, n0, n1⟩, hF, hR, hA⟩
  have H1 := hid (And.intro hF (And.intro hR hA))
  clear hF hR hA
  go_wp2_with fail
  refine (take9_c W0 _ G A c l j e1 n H1.out.2.1 n0 (by omega)).mono ?_
  rintro e' w2 ⟨s, j2, e2, v, rfl, ⟨A', c', rfl, hc, hC, hs, hb⟩, hF, hR, hA⟩
  have hsz := strOfNums_size s
  have H2 := hid (And.intro hF (And.intro hR (H1.out.2.2.then_ hA)))
  have hstr : (convert 22 9 (.slice A' s.length c')).run Try.prog w2 = .ok (.string (strOfNums s)) w2 := Kd.C_string (c := c') Try.underlying22 Try.underlying5 Try.underlying9 hC
  obtain ⟨t, ht⟩ : ∃ t, strOfNums s = t := ⟨_, rfl⟩
  rw [ht] at hstr hsz
  have HT := hid ht
  have HS := hid hsz
  have HSN := hid hs
  clear hF hR hA hb hC hs ht hsz
  go_wp2_with fail
  refine (spliceref09_named.calls 40 t (namedB t) _ (rnamed_q t 40 (by omega))).mono ?_
  rintro e' w3 ⟨rfl, ⟨nd, rfl⟩⟩
  have hb := pw_below_drewN (Below.refl w2.heap.size w2) nd
  have H3 := hid (And.intro (H2.out.2.1.mem hb) (H2.out.2.2.then_ (Aft.of_belowN hb)))
  obtain ⟨B, hB⟩ : ∃ B, namedB t = B := ⟨_, rfl⟩
  rw [hB]
  have HB := hid hB
  clear hb hB hstr
  go_wp2_with fail
  refine (must9_c W0 _ G A c l j2 e2 B H3.out.1).mono ?_
  rintro e' w4 ⟨e3, rfl, hF, hR, hA⟩
  have H4 := hid (And.intro hF (And.intro hR (H3.out.2.then_ hA)))
  clear hF hR hA
  go_wp2
  go_ret
  refine ⟨t, j2, e3, _, rfl, ⟨rfl, by have := HS.out; have := HSN.out; omega⟩, Fa.bind H1.out.1 (Fa.bind H2.out.1 ?_), H4.out.2.1, H4.out.2.2⟩
  rw [HT.out, HB.out]
  exact Fa.bind H4.out.1 (Fa.ret t l e3 j2)
end Go.Proofs.Ytmcfihpbiilbcaa.H
end
section
namespace Go.Proofs.Ytmcfihpbiilbcaa.H
open Go.RowKit Go.Proofs.YtmcfihpbiilbcaaW.PrintWords Go.Proofs.YtmcfihpbiilbcaaW.PrintLast Go.Proofs.YtmcfihpbiilbcaaW.PrintMore Go.Proofs.Ytmcfihpbiilbcaa.E
set_option linter.unusedVariables false
set_option linter.unusedSimpArgs false
def LoopS {α : Type} (p : Pa α) (n : Nat) (l : List Int) (j e1 : Int) (k : Nat) (L : List α) (jj ee : Int) : Prop :=
  (ee = 0 ∧ e1 = 0 ∧ Rep p n l j k L jj) ∨ (ee ≠ 0 ∧ pE e1 (pRep n p l j) = .error ee)
theorem LoopS.start {α : Type} (p : Pa α) (n : Nat) (l : List Int) (j e : Int) : LoopS p n l j e 0 [] j e := by
  by_cases z : e = 0
  · exact .inl ⟨z, z, rep0 p n l j⟩
  · exact .inr ⟨z, by unfold pE; rw [if_neg z]⟩
theorem LoopS.step {α : Type} {p : Pa α} {n : Nat} {l : List Int} {j e1 : Int} {k : Nat} {L : List α} {jj : Int} (h : LoopS p n l j e1 k L jj 0) (hk : k < n) {a : α} {j2 e2 : Int} (hF : Fa e2 j2 (pE 0 (p l jj)) a) : LoopS p n l j e1 (k + 1) (L ++ [a]) j2 e2 := by
  rcases h with ⟨_, z1, hr⟩ | ⟨z, _⟩
  · unfold pE at hF
    rw [if_pos rfl] at hF
    rcases hF with ⟨z2, hp⟩ | ⟨z2, hp⟩
    · exact .inl ⟨z2, z1, rep_ok hr hk hp⟩
    · exact .inr ⟨z2, by unfold pE; rw [if_pos z1]; exact rep_err hr hk hp⟩
  · exact absurd rfl z
theorem LoopS.full {α : Type} {p : Pa α} {n : Nat} {l : List Int} {j e1 : Int} {L : List α} {jj ee : Int} (h : LoopS p n l j e1 n L jj ee) : Fa ee jj (pE e1 (pRep n p l j)) L := by
  rcases h with ⟨z, z1, hr⟩ | ⟨z, hp⟩
  · exact .inl ⟨z, by unfold pE; rw [if_pos z1]; exact rep_end hr⟩
  · exact .inr ⟨z, hp⟩
theorem LoopS.bad {α : Type} {p : Pa α} {n : Nat} {l : List Int} {j e1 : Int} {k : Nat} {L : List α} {jj ee : Int} (h : LoopS p n l j e1 k L jj ee) (z : ee ≠ 0) : Fa ee jj (pE e1 (pRep n p l j)) L := by
  rcases h with ⟨z0, _⟩ | ⟨z, hp⟩
  · exact absurd z0 z
  · exact .inr ⟨z, hp⟩
theorem Fa.good {α : Type} {p : Pa α} {l : List Int} {i e0 e j : Int} {a : α} (h : Fa e j (pE e0 (p l i)) a) (z : e = 0) : e0 = 0 ∧ p l i = .ok (a, j) := by
  unfold pE at h
  by_cases z0 : e0 = 0
  · rw [if_pos z0] at h
    rcases h with ⟨_, hr⟩ | ⟨k, _⟩
    · exact ⟨z0, hr⟩
    · exact absurd z k
  · rw [if_neg z0] at h
    rcases h with ⟨_, hr⟩ | ⟨k, _⟩
    · cases hr
    · exact absurd z k
theorem Fa.swap {e e2 j : Int} {l : List Int} {b b' : Bool} (h : Fa e2 j (pE e (pMust b l j)) ()) (k : e = 0 → b = b') : Fa e2 j (pE e (pMust b' l j)) () := by
  by_cases z : e = 0
  · rw [← k z]; exact h
  · unfold pE at h ⊢
    rw [if_neg z] at h ⊢
    exact h
theorem Rd.above {W0 w w' : World} {G : Nat} {A : Option Addr} {c : Nat} {l : List Int} {i e : Int} {base : Nat} (h : Rd W0 w G A c l i e) (k : Below base w w') (hG : G < base) (hW : W0.heap.size ≤ base) : Rd W0 w' G A c l i e :=
  ⟨(k.block G hG).trans h.g, h.b.trans (k.mono hW), h.hG, h.C, h.hc, h.by_, h.ll, h.i0, h.i1⟩
theorem Aft.above {G base : Nat} {w0 w w' : World} (h : Aft G w0 w) (k : Below base w w') (hb : w0.heap.size ≤ base) : Aft G w0 w' :=
  ⟨k.os.trans h.os, k.tape.trans h.tape, k.output.trans h.output, Nat.le_trans h.size k.size, fun b hb' hne => (k.block b (by omega)).trans (h.block b hb' hne)⟩
theorem Aft.setN {G g : Nat} {w0 w : World} (h : Aft G w0 w) (hg : w0.heap.size ≤ g) (k : Nat) (u : Value) : Aft G w0 (w.setCell ⟨g, k, none⟩ u) :=
  ⟨h.os, h.tape, h.output, by have := h.size; simpa using this, fun b hb hne => (Below.heap_setCell w ⟨g, k, none⟩ u b (by show b ≠ g; omega)).trans (h.block b hb hne)⟩
structure Stt {α : Type} (d : Kd α) (t : Nat) (W0 w wx : World) (G : Nat) (A : Option Addr) (c : Nat) (l : List Int) (j e : Int) (v : Value) (L : List α) (g : Nat) (cs : Array Value) : Prop where
  r : Rd W0 wx G A c l j e
  a : Aft G w wx
  o : d.R t wx w.heap.size (fun k => k ≠ g) v L
  b : wx.heap[g]? = some (.cells cs t (0, 0))
theorem Stt.call {α : Type} {d : Kd α} {t : Nat} {W0 w wx w' : World} {G : Nat} {A : Option Addr} {c : Nat} {l : List Int} {j e j2 e2 : Int} {v : Value} {L : List α} {g : Nat} {cs : Array Value} (h : Stt d t W0 w wx G A c l j e v L g cs) (hG : G < w.heap.size) (hg : g ≠ G) (hr : Rd W0 w' G A c l j2 e2) (ha : Aft G wx w') : Stt d t W0 w w' G A c l j2 e2 v L g cs :=
  ⟨hr, h.a.then_ ha, R_aftG h.o hG ha, ha.blk h.b hg⟩
theorem Stt.set {α : Type} {d : Kd α} {t : Nat} {W0 w wx : World} {G : Nat} {A : Option Addr} {c : Nat} {l : List Int} {j e : Int} {v : Value} {L : List α} {g : Nat} {cs : Array Value} (h : Stt d t W0 w wx G A c l j e v L g cs) (hw : w.heap.size ≤ g) (hW : W0.heap.size ≤ g) (hg : G ≠ g) (k : Nat) (u : Value) (cs' : Array Value) (hc : cs.setIfInBounds k u = cs') : Stt d t W0 w (wx.setCell ⟨g, k, none⟩ u) G A c l j e v L g cs' :=
  ⟨h.r.far hW hg k u, h.a.setN hw k u, R_put h.o k u, blk_put h.b k u hc⟩
theorem relB_of {a b d : Int} {nm : ByteArray} (ha : 0 ≤ a ∧ a ≤ 65535) (hb : 0 ≤ b ∧ b ≤ 255) (hn : namedB nm = true) (B : Bool) (hB : decide (-1048576 ≤ d ∧ d ≤ 1048576) = B) : B = relB ⟨a, b, nm, d⟩ := by
  unfold relB
  rw [decide_eq_true ha, decide_eq_true hb, hn, hB]
  simp
set_option maxRecDepth 100000 in
set_option maxHeartbeats 4000000 in
theorem rels9_c (W0 w : World) (G : Nat) (A : Option Addr) (c : Nat) (l : List Int) (i e : Int) (h : Rd W0 w G A c l i e) :
    Calls Try.prog 121 #[.pointer (some ⟨G, 0, none⟩)] w (M9 W0 w G A c l (pE e (pRels l i)) (fun a w' v _ => k153.R 153 w' w.heap.size (fun _ => True) v a ∧ a.length ≤ 64)) := by
  have hGw := h.lt
  have hWG := h.hG
  have HGW := hid hGw
  have HWW := hid (show W0.heap.size ≤ w.heap.size from h.b.size)
  have HH := hid h
  clear h
  go_enter Try.func121, Try.ntmps121
  go_wp2_with fail
  refine (count9_c W0 _ G A c l i e 64 HH.out (by omega)).mono ?_
  rintro e' w1 ⟨nn, j, e1, v, rfl, ⟨rfl, n0, n1⟩, hF, hR, hA⟩
  obtain ⟨n, rfl⟩ : ∃ n : Nat, nn = n := ⟨nn.toNat, by omega⟩
  have H1 := hid (And.intro hF (And.intro hR hA))
  clear hF hR hA
  go_wp2
  go_loopw [3, 5, 6] (fun s3 s5 _ wx => ∃ (k : Nat) (L : List S153) (jj ee : Int), k ≤ n ∧ L.length = k ∧ s5 = .int .i64 k ∧ Hid (Rd W0 wx G A c l jj ee ∧ Aft G w wx ∧ k153.R 153 wx w.heap.size (fun _ => True) s3 L ∧ LoopS pRel n l j e1 k L jj ee)) (fun _ s5 _ _ => n - (intOf s5).toNat)
  case atStart => exact ⟨0, [], j, e1, by omega, rfl, rfl, hid ⟨H1.out.2.1, H1.out.2.2, Kd.R_nil _ _ _ _ _, LoopS.start _ _ _ _ _⟩⟩
  case round =>
    obtain ⟨k, L, jj, ee, hk, hkL, rfl, hI⟩ := hrel
    obtain ⟨c0_, c1_, c2_, g1_, g2_⟩ := hI.out.1.g.cells
    obtain ⟨Wo, hWo⟩ : ∃ W, W = wr := ⟨_, rfl⟩
    subst hWo
    by_cases hlt : (k : Int) < (n : Int)
    · by_cases z : ee = 0
      · subst z
        have hk1 : k < n := by omega
        have e3 : IntKind.i64.wrap ((k : Int) + 1) = (k : Int) + 1 := IntWalk.i64_in _ (by omega)
        have hsz : w.heap.size ≤ Wo.heap.size := hI.out.2.1.size
        have hgG : Wo.heap.size ≠ G := by have := HGW.out; omega
        have hB4 := below_alloc (Below.refl Wo.heap.size Wo) (.cells #[.int .i64 0, .int .i64 0, .string ⟨#[]⟩, .int .i64 0] 153)
        have HI := hid hI.out.2.2.2
        obtain ⟨X, hX⟩ : ∃ X, X = Wo.alloc (.cells #[.int .i64 0, .int .i64 0, .string ⟨#[]⟩, .int .i64 0] 153) := ⟨_, rfl⟩
        have f0 := blk_new Wo (.cells #[.int .i64 0, .int .i64 0, .string ⟨#[]⟩, .int .i64 0] 153)
        rw [← hX] at f0 hB4
        have S0 := hid (show Stt k153 153 W0 w X G A c l jj 0 _ L Wo.heap.size #[.int .i64 0, .int .i64 0, .string ⟨#[]⟩, .int .i64 0] from ⟨hI.out.1.mem hB4, hI.out.2.1.then_ (Aft.of_belowN hB4), R_apart hI.out.2.2.1 (Nat.le_refl _) hB4, f0⟩)
        have HX := hid hX
        have HGN := hid hgG
        have HS1 := hid (And.intro hsz (show W0.heap.size ≤ Wo.heap.size from by have := HWW.out; omega))
        clear hI f0 hB4 hX hgG
        go_wp2_with fail
        try rw [← HX.out]
        refine (num9_c W0 _ G A c l jj 0 2 S0.out.r (by omega) (by omega)).mono ?_
        rintro e' w1 ⟨a, j1, e1', v, rfl, ⟨rfl, a0, a1⟩, hF, hR, hA⟩
        have S1 := hid (S0.out.call HGW.out HGN.out hR hA)
        have F1 := hid hF
        have hp1 : pNum 2 l jj = .ok (a, j1) → 0 ≤ a ∧ a ≤ 65535 := fun p => (Bk.num2 l jj S0.out.r.by_ S0.out.r.i0 S0.out.r.i1 a j1 p).2.2.2
        have HP1 := hid hp1
        have q0_ := blk_cell S1.out.b 0
        have g0_ := blk_frozen S1.out.b 0
        have S1s := hid (S1.out.set HS1.out.1 HS1.out.2 (Ne.symm HGN.out) 0 (.int .i64 a) _ rfl)
        obtain ⟨Y1, hY1⟩ : ∃ X, X = w1.setCell ⟨Wo.heap.size, 0, none⟩ (.int .i64 a) := ⟨_, rfl⟩
        rw [← hY1] at S1s
        have HY1 := hid hY1
        clear hF hR hA hp1 hY1 S0 S1 c0_ c1_ c2_ g1_ g2_
        go_wp2_with fail
        try rw [← HY1.out]
        refine (num9_c W0 _ G A c l j1 e1' 1 S1s.out.r (by omega) (by omega)).mono ?_
        rintro e' w2 ⟨b, j2, e2, v, rfl, ⟨rfl, b0, b1⟩, hF, hR, hA⟩
        have S2 := hid (S1s.out.call HGW.out HGN.out hR hA)
        have F2 := hid hF
        have hp1 : pNum 1 l j1 = .ok (b, j2) → 0 ≤ b ∧ b ≤ 255 := fun p => (Bk.num1 l j1 S1s.out.r.by_ S1s.out.r.i0 S1s.out.r.i1 b j2 p).2.2.2
        have HP2 := hid hp1
        clear q0_ g0_
        have q1_ := blk_cell S2.out.b 1
        have g1_ := blk_frozen S2.out.b 1
        have S2s := hid (S2.out.set HS1.out.1 HS1.out.2 (Ne.symm HGN.out) 1 (.int .i64 b) _ rfl)
        obtain ⟨Y2, hY2⟩ : ∃ X, X = w2.setCell ⟨Wo.heap.size, 1, none⟩ (.int .i64 b) := ⟨_, rfl⟩
        rw [← hY2] at S2s
        have HY2 := hid hY2
        clear hF hR hA hp1 hY2 S1s S2
        go_wp2_with fail
        try rw [← HY2.out]
        refine (name9_c W0 _ G A c l j2 e2 S2s.out.r).mono ?_
        rintro e' w3 ⟨nm, j3, e3', v, rfl, ⟨rfl, nms⟩, hF, hR, hA⟩
        have S3 := hid (S2s.out.call HGW.out HGN.out hR hA)
        have F3 := hid hF
        have hp1 : pName l j2 = .ok (nm, j3) → namedB nm = true := fun p => (Bk.name l j2 S2s.out.r.by_ S2s.out.r.i0 S2s.out.r.i1 nm j3 p).2.2.2
        have HP3 := hid hp1
        clear q1_ g1_
        have q2_ := blk_cell S3.out.b 2
        have g2_ := blk_frozen S3.out.b 2
        have S3s := hid (S3.out.set HS1.out.1 HS1.out.2 (Ne.symm HGN.out) 2 (.string nm) _ rfl)
        obtain ⟨Y3, hY3⟩ : ∃ X, X = w3.setCell ⟨Wo.heap.size, 2, none⟩ (.string nm) := ⟨_, rfl⟩
        rw [← hY3] at S3s
        have HY3 := hid hY3
        clear hF hR hA hp1 hY3 S2s S3
        go_wp2_with fail
        try rw [← HY3.out]
        refine (num9_c W0 _ G A c l j3 e3' 4 S3s.out.r (by omega) (by omega)).mono ?_
        rintro e' w4 ⟨d, j4, e4, v, rfl, ⟨rfl, d0, d1⟩, hF, hR, hA⟩
        have S4 := hid (S3s.out.call HGW.out HGN.out hR hA)
        have F4 := hid hF
        have HP := hid (And.intro True.intro (And.intro True.intro (And.intro HP1.out (And.intro HP2.out HP3.out))))
        clear q2_ g2_
        have q3_ := blk_cell S4.out.b 3
        have g3_ := blk_frozen S4.out.b 3
        have e4' : IntKind.i64.wrap (d - 2147483648) = d - 2147483648 := IntWalk.i64_in _ (by omega)
        have S4s := hid (S4.out.set HS1.out.1 HS1.out.2 (Ne.symm HGN.out) 3 (.int .i64 (d - 2147483648)) _ rfl)
        obtain ⟨Y4, hY4⟩ : ∃ X, X = w4.setCell ⟨Wo.heap.size, 3, none⟩ (.int .i64 (d - 2147483648)) := ⟨_, rfl⟩
        rw [← hY4] at S4s
        have HY4 := hid hY4
        have y3_ : (w4.setCell ⟨Wo.heap.size, 3, none⟩ (.int .i64 (d - 2147483648))).cell? ⟨Wo.heap.size, 3, none⟩ = some (.int .i64 (d - 2147483648)) := by rw [← HY4.out]; exact blk_cell S4s.out.b 3
        clear hF hR hA hY4 S3s S4
        by_cases hlo : -1048576 ≤ d - 2147483648
        · by_cases hhi : d - 2147483648 ≤ 1048576
          · have HBV := hid (show decide (-1048576 ≤ d - 2147483648 ∧ d - 2147483648 ≤ 1048576) = true from decide_eq_true ⟨hlo, hhi⟩)
            have hd1 : decide (-1048576 ≤ d - 2147483648) = true := decide_eq_true hlo
            have hd2 : decide (d - 2147483648 ≤ 1048576) = true := decide_eq_true hhi
            clear hlo hhi
            go_wp2_with fail
            try rw [← HY4.out]
            clear q3_ g3_ hd1 hd2 y3_
            refine (must9_c W0 _ G A c l j4 e4 true S4s.out.r).mono ?_
            rintro e' w5 ⟨e5, rfl, hF, hR, hA⟩
            have S5 := hid (S4s.out.call HGW.out HGN.out hR hA)
            have F5 := hid (show Fa e5 j4 (pE e4 (pMust (relB ⟨a, b, nm, d - 2147483648⟩) l j4)) () from hF.swap (fun z => by
              obtain ⟨z3, p4⟩ := F4.out.good z
              obtain ⟨z2, p3⟩ := F3.out.good z3
              obtain ⟨z1, p2⟩ := F2.out.good z2
              obtain ⟨_, p1⟩ := F1.out.good z1
              exact relB_of (HP.out.2.2.1 p1) (HP.out.2.2.2.1 p2) (HP.out.2.2.2.2 p3) _ HBV.out))
            clear hF hR hA
            have q0_ := blk_cell S5.out.b 0
            have q1_ := blk_cell S5.out.b 1
            have q2_ := blk_cell S5.out.b 2
            have q3_ := blk_cell S5.out.b 3
            have hLl : L.length ≤ 1000000 := by omega
            go_wp2_with (at_builtin; refine app153 (w0 := w5) w.heap.size rfl (.tmp 45) (.tmp 47) rfl _ L ⟨a, b, nm, d - 2147483648⟩ rfl rfl (R_all S5.out.o) ((Below.refl w5.heap.size w5).mono S5.out.a.size) S5.out.a.size hLl ?_; intro vN wN hr hb7; have M7 := hid (And.intro hr hb7); clear hr hb7)
            go_roundw
            case rel =>
              refine ⟨k + 1, L ++ [⟨a, b, nm, d - 2147483648⟩], j4, e5, by omega, by rw [List.length_append, hkL]; rfl, by go_num, hid ⟨S5.out.r.above M7.out.2 HGW.out HWW.out, S5.out.a.above M7.out.2 (Nat.le_refl _), M7.out.1, ?_⟩⟩
              exact HI.out.step hk1 (Fa.bind F1.out (Fa.bind F2.out (Fa.bind F3.out (Fa.bind F4.out (Fa.bind F5.out (Fa.ret _ l e5 j4))))))
            case measure => simp [intOf]; omega
          · have HBV := hid (show decide (-1048576 ≤ d - 2147483648 ∧ d - 2147483648 ≤ 1048576) = false from decide_eq_false (fun h => hhi h.2))
            have hd1 : decide (-1048576 ≤ d - 2147483648) = true := decide_eq_true hlo
            have hd2 : decide (d - 2147483648 ≤ 1048576) = false := decide_eq_false hhi
            clear hlo hhi
            go_wp2_with fail
            try rw [← HY4.out]
            clear q3_ g3_ hd1 hd2 y3_
            refine (must9_c W0 _ G A c l j4 e4 false S4s.out.r).mono ?_
            rintro e' w5 ⟨e5, rfl, hF, hR, hA⟩
            have S5 := hid (S4s.out.call HGW.out HGN.out hR hA)
            have F5 := hid (show Fa e5 j4 (pE e4 (pMust (relB ⟨a, b, nm, d - 2147483648⟩) l j4)) () from hF.swap (fun z => by
              obtain ⟨z3, p4⟩ := F4.out.good z
              obtain ⟨z2, p3⟩ := F3.out.good z3
              obtain ⟨z1, p2⟩ := F2.out.good z2
              obtain ⟨_, p1⟩ := F1.out.good z1
              exact relB_of (HP.out.2.2.1 p1) (HP.out.2.2.2.1 p2) (HP.out.2.2.2.2 p3) _ HBV.out))
            clear hF hR hA
            have q0_ := blk_cell S5.out.b 0
            have q1_ := blk_cell S5.out.b 1
            have q2_ := blk_cell S5.out.b 2
            have q3_ := blk_cell S5.out.b 3
            have hLl : L.length ≤ 1000000 := by omega
            go_wp2_with (at_builtin; refine app153 (w0 := w5) w.heap.size rfl (.tmp 45) (.tmp 47) rfl _ L ⟨a, b, nm, d - 2147483648⟩ rfl rfl (R_all S5.out.o) ((Below.refl w5.heap.size w5).mono S5.out.a.size) S5.out.a.size hLl ?_; intro vN wN hr hb7; have M7 := hid (And.intro hr hb7); clear hr hb7)
            go_roundw
            case rel =>
              refine ⟨k + 1, L ++ [⟨a, b, nm, d - 2147483648⟩], j4, e5, by omega, by rw [List.length_append, hkL]; rfl, by go_num, hid ⟨S5.out.r.above M7.out.2 HGW.out HWW.out, S5.out.a.above M7.out.2 (Nat.le_refl _), M7.out.1, ?_⟩⟩
              exact HI.out.step hk1 (Fa.bind F1.out (Fa.bind F2.out (Fa.bind F3.out (Fa.bind F4.out (Fa.bind F5.out (Fa.ret _ l e5 j4))))))
            case measure => simp [intOf]; omega
        · have HBV := hid (show decide (-1048576 ≤ d - 2147483648 ∧ d - 2147483648 ≤ 1048576) = false from decide_eq_false (fun h => hlo h.1))
          have hd1 : decide (-1048576 ≤ d - 2147483648) = false := decide_eq_false hlo
          clear hlo
          go_wp2_with fail
          try rw [← HY4.out]
          clear q3_ g3_ hd1 y3_
          refine (must9_c W0 _ G A c l j4 e4 false S4s.out.r).mono ?_
          rintro e' w5 ⟨e5, rfl, hF, hR, hA⟩
          have S5 := hid (S4s.out.call HGW.out HGN.out hR hA)
          have F5 := hid (show Fa e5 j4 (pE e4 (pMust (relB ⟨a, b, nm, d - 2147483648⟩) l j4)) () from hF.swap (fun z => by
            obtain ⟨z3, p4⟩ := F4.out.good z
            obtain ⟨z2, p3⟩ := F3.out.good z3
            obtain ⟨z1, p2⟩ := F2.out.good z2
            obtain ⟨_, p1⟩ := F1.out.good z1
            exact relB_of (HP.out.2.2.1 p1) (HP.out.2.2.2.1 p2) (HP.out.2.2.2.2 p3) _ HBV.out))
          clear hF hR hA
          have q0_ := blk_cell S5.out.b 0
          have q1_ := blk_cell S5.out.b 1
          have q2_ := blk_cell S5.out.b 2
          have q3_ := blk_cell S5.out.b 3
          have hLl : L.length ≤ 1000000 := by omega
          go_wp2_with (at_builtin; refine app153 (w0 := w5) w.heap.size rfl (.tmp 45) (.tmp 47) rfl _ L ⟨a, b, nm, d - 2147483648⟩ rfl rfl (R_all S5.out.o) ((Below.refl w5.heap.size w5).mono S5.out.a.size) S5.out.a.size hLl ?_; intro vN wN hr hb7; have M7 := hid (And.intro hr hb7); clear hr hb7)
          go_roundw
          case rel =>
            refine ⟨k + 1, L ++ [⟨a, b, nm, d - 2147483648⟩], j4, e5, by omega, by rw [List.length_append, hkL]; rfl, by go_num, hid ⟨S5.out.r.above M7.out.2 HGW.out HWW.out, S5.out.a.above M7.out.2 (Nat.le_refl _), M7.out.1, ?_⟩⟩
            exact HI.out.step hk1 (Fa.bind F1.out (Fa.bind F2.out (Fa.bind F3.out (Fa.bind F4.out (Fa.bind F5.out (Fa.ret _ l e5 j4))))))
          case measure => simp [intOf]; omega
      · have z1 : (ee == 0) = false := beq_eq_false_iff_ne.2 z
        have HZ := hid z
        clear z
        go_wp2
        go_ret
        exact ⟨L, jj, ee, _, rfl, ⟨hI.out.2.2.1, by omega⟩, Fa.bind H1.out.1 (by rw [Int.toNat_natCast]; exact hI.out.2.2.2.bad HZ.out), hI.out.1, hI.out.2.1⟩
    · have hkn : k = n := by omega
      have hI2 := hI.out.2.2.2
      rw [hkn] at hI2
      have HI2 := hid hI2
      clear hI2
      go_wp2
      go_ret
      exact ⟨L, jj, ee, _, rfl, ⟨hI.out.2.2.1, by omega⟩, Fa.bind H1.out.1 (by rw [Int.toNat_natCast]; exact HI2.out.full), hI.out.1, hI.out.2.1⟩
end Go.Proofs.Ytmcfihpbiilbcaa.H
end
section
namespace Go.Proofs.Ytmcfihpbiilbcaa.H
open Go.RowKit Go.Proofs.YtmcfihpbiilbcaaW.PrintWords Go.Proofs.YtmcfihpbiilbcaaW.PrintLast Go.Proofs.YtmcfihpbiilbcaaW.PrintMore Go.Proofs.Ytmcfihpbiilbcaa.E
set_option linter.unusedVariables false
set_option linter.unusedSimpArgs false
theorem R_low {α : Type} {d : Kd α} {e base g : Nat} {ok : Nat → Prop} {w : World} {v : Value} {xs : List α} (h : d.R e w base ok v xs) (hg : g < base) (k : Nat) (u : Value) : d.R e (w.setCell ⟨g, k, none⟩ u) base ok v xs :=
  Kd.R_mono (Kd.R_step (Kd.R_bound h) (fun b hb hl => Below.heap_setCell w ⟨g, k, none⟩ u b (by have := hb.2.1; show b ≠ g; omega))) (fun _ hk => hk.1)
theorem R_up {α : Type} {d : Kd α} {e base : Nat} {ok : Nat → Prop} {w : World} {v : Value} {xs : List α} (h : d.R e w base (fun _ => True) v xs) {w1 : World} {G : Nat} (hG : G < base) (u : ∀ k, k < w.heap.size → k ≠ G → w1.heap[k]? = w.heap[k]?) : d.R e w1 base (fun _ => True) v xs :=
  Kd.R_mono (Kd.R_step (Kd.R_bound h) (fun b hb hl => u b hl (by have := hb.2.1; omega))) (fun _ hk => trivial)
structure Up (G top : Nat) (w w' : World) : Prop where
  size : top ≤ w'.heap.size
  block : ∀ k, k < top → k ≠ G → w'.heap[k]? = w.heap[k]?
theorem Up.start (G : Nat) (w : World) : Up G w.heap.size w w := ⟨Nat.le_refl _, fun _ _ _ => rfl⟩
theorem Up.aft {G top : Nat} {w w1 w2 : World} (h : Up G top w w1) (k : Aft G w1 w2) : Up G top w w2 :=
  ⟨Nat.le_trans h.size k.size, fun b hb hne => (k.block b (by have := h.size; omega) hne).trans (h.block b hb hne)⟩
theorem Up.below {G top : Nat} {w w1 w2 : World} (h : Up G top w w1) (k : Below top w1 w2) : Up G top w w2 :=
  ⟨Nat.le_trans h.size k.size, fun b hb hne => (k.block b hb).trans (h.block b hb hne)⟩
theorem Up.set {G top : Nat} {w w1 : World} (h : Up G top w w1) {g : Nat} (hg : top ≤ g) (k : Nat) (u : Value) : Up G top w (w1.setCell ⟨g, k, none⟩ u) :=
  ⟨by have := h.size; simpa using this, fun b hb hne => (Below.heap_setCell w1 ⟨g, k, none⟩ u b (by show b ≠ g; omega)).trans (h.block b hb hne)⟩
structure El (w Wo wx : World) (G : Nat) (A : Option Addr) (c : Nat) (l : List Int) (j e : Int) (cs : Array Value) (t : TypeId) : Prop where
  r : Rd w wx G A c l j e
  u : Up G Wo.heap.size Wo wx
  b : wx.heap[Wo.heap.size]? = some (.cells cs t (0, 0))
section
variable {w Wo wx w' : World} {G : Nat} {A : Option Addr} {c : Nat} {l : List Int} {j e j2 e2 : Int} {cs : Array Value} {t : TypeId}
theorem El.start (h : Rd w Wo G A c l j e) (cs : Array Value) (t : TypeId) : El w Wo (Wo.alloc (.cells cs t)) G A c l j e cs t :=
  ⟨h.mem (below_alloc (Below.refl _ _) _), (Up.start G Wo).below (below_alloc (Below.refl _ _) _), blk_new Wo _⟩
theorem El.call (h : El w Wo wx G A c l j e cs t) (hg : Wo.heap.size ≠ G) (hr : Rd w w' G A c l j2 e2) (ha : Aft G wx w') : El w Wo w' G A c l j2 e2 cs t :=
  ⟨hr, h.u.aft ha, ha.blk h.b hg⟩
theorem El.mem (h : El w Wo wx G A c l j e cs t) (k : Below wx.heap.size wx w') : El w Wo w' G A c l j e cs t :=
  ⟨h.r.mem k, h.u.below (k.mono h.u.size), blk_below h.b k⟩
theorem El.set (h : El w Wo wx G A c l j e cs t) (hw : w.heap.size ≤ Wo.heap.size) (hg : G ≠ Wo.heap.size) (k : Nat) (u : Value) (cs' : Array Value) (hc : cs.setIfInBounds k u = cs') : El w Wo (wx.setCell ⟨Wo.heap.size, k, none⟩ u) G A c l j e cs' t :=
  ⟨h.r.far hw hg k u, h.u.set (Nat.le_refl _) k u, blk_put h.b k u hc⟩
theorem El.grow (h : El w Wo wx G A c l j e cs t) (hG : G < Wo.heap.size + 1) (hw : w.heap.size ≤ Wo.heap.size) (k : Below (Wo.heap.size + 1) wx w') : El w Wo w' G A c l j e cs t :=
  ⟨h.r.above k hG (by omega), h.u.below (k.mono (by omega)), (k.block _ (by omega)).trans h.b⟩
end
structure RS (w wx : World) (A : Option Addr) (c : Nat) (l : List Int) (j e : Int) (v0 v1 v2 : Value) (F : List S124) (D : List S102) (N : List S122) : Prop where
  r : Rd w wx (w.heap.size + 1) A c l j e
  z : wx.heap[w.heap.size]? = some (.cells #[.slice none 0 0, .slice none 0 0, .slice none 0 0] 91 (0, 0))
  o : wx.heap[w.heap.size + 1 + 1]? = some (.cells #[v0, v1, v2] 91 (0, 0))
  s : w.heap.size + 3 ≤ wx.heap.size
  f : k124.R 124 wx (w.heap.size + 3) (fun _ => True) v0 F
  d : k102.R 102 wx (w.heap.size + 3) (fun _ => True) v1 D
  n : k122.R 122 wx (w.heap.size + 3) (fun _ => True) v2 N
section
variable {w wx w' w6 : World} {A : Option Addr} {c : Nat} {l : List Int} {j e j2 e2 : Int} {v0 v1 v2 v6 : Value} {F F' : List S124} {D D' : List S102} {N N' : List S122}
theorem RS.call (h : RS w wx A c l j e v0 v1 v2 F D N) (hr : Rd w w' (w.heap.size + 1) A c l j2 e2) (ha : Aft (w.heap.size + 1) wx w') : RS w w' A c l j2 e2 v0 v1 v2 F D N :=
  ⟨hr, ha.blk h.z (by omega), ha.blk h.o (by omega), Nat.le_trans h.s ha.size, R_aftG h.f (by omega) ha, R_aftG h.d (by omega) ha, R_aftG h.n (by omega) ha⟩
theorem RS.up (h : RS w wx A c l j e v0 v1 v2 F D N) (hr : Rd w w' (w.heap.size + 1) A c l j2 e2) (u : Up (w.heap.size + 1) wx.heap.size wx w') : RS w w' A c l j2 e2 v0 v1 v2 F D N :=
  ⟨hr, (u.block _ (blk_lt h.z) (by omega)).trans h.z, (u.block _ (blk_lt h.o) (by omega)).trans h.o, Nat.le_trans h.s u.size, R_up (ok := fun _ => True) h.f (by omega) u.block, R_up (ok := fun _ => True) h.d (by omega) u.block, R_up (ok := fun _ => True) h.n (by omega) u.block⟩
theorem RS.appF (h : RS w wx A c l j e v0 v1 v2 F D N) (hg : wx.grownBy w6 v0.ownBlock) (hb : Below (w.heap.size + 3) wx w6) (hr : k124.R 124 w6 (w.heap.size + 3) (fun _ => True) v6 F') :
    w6.cell? ⟨w.heap.size + 1 + 1, 0, none⟩ = some v0 ∧ w6.frozen? ⟨w.heap.size + 1 + 1, 0, none⟩ = false ∧ RS w (w6.setCell ⟨w.heap.size + 1 + 1, 0, none⟩ v6) A c l j e v6 v1 v2 F' D N := by
  have ho := (hb.block _ (by omega)).trans h.o
  have hz := (hb.block _ (by omega)).trans h.z
  have hR := h.r.above hb (by omega) (by omega)
  have hs := hb.size
  refine ⟨blk_cell ho 0, blk_frozen ho 0, hR.far (by omega) (by omega) 0 v6, blk_far hz (p := ⟨w.heap.size + 1 + 1, 0, none⟩) (by show w.heap.size ≠ w.heap.size + 1 + 1; omega) v6, blk_put ho 0 v6 rfl, by have := h.s; simp; omega, R_low hr (by omega) 0 v6, R_low (R_growns h.d h.f (by simp [k102, k153, Kd.slice, Kd.iso, Kd.pair, Kd.int, Kd.scalar, Kd.string, Kd.bool]) hg) (by omega) 0 v6, R_low (R_growns h.n h.f (by simp [k122, k153, Kd.slice, Kd.iso, Kd.pair, Kd.int, Kd.scalar, Kd.string, Kd.bool]) hg) (by omega) 0 v6⟩
theorem RS.appD (h : RS w wx A c l j e v0 v1 v2 F D N) (hg : wx.grownBy w6 v1.ownBlock) (hb : Below (w.heap.size + 3) wx w6) (hr : k102.R 102 w6 (w.heap.size + 3) (fun _ => True) v6 D') :
    w6.cell? ⟨w.heap.size + 1 + 1, 1, none⟩ = some v1 ∧ w6.frozen? ⟨w.heap.size + 1 + 1, 1, none⟩ = false ∧ RS w (w6.setCell ⟨w.heap.size + 1 + 1, 1, none⟩ v6) A c l j e v0 v6 v2 F D' N := by
  have ho := (hb.block _ (by omega)).trans h.o
  have hz := (hb.block _ (by omega)).trans h.z
  have hR := h.r.above hb (by omega) (by omega)
  have hs := hb.size
  refine ⟨blk_cell ho 1, blk_frozen ho 1, hR.far (by omega) (by omega) 1 v6, blk_far hz (p := ⟨w.heap.size + 1 + 1, 1, none⟩) (by show w.heap.size ≠ w.heap.size + 1 + 1; omega) v6, blk_put ho 1 v6 rfl, by have := h.s; simp; omega, R_low (R_growns h.f h.d (by simp [k124, k153, Kd.slice, Kd.iso, Kd.pair, Kd.int, Kd.scalar, Kd.string, Kd.bool]) hg) (by omega) 1 v6, R_low hr (by omega) 1 v6, R_low (R_growns h.n h.d (by simp [k122, k153, Kd.slice, Kd.iso, Kd.pair, Kd.int, Kd.scalar, Kd.string, Kd.bool]) hg) (by omega) 1 v6⟩
theorem RS.appN (h : RS w wx A c l j e v0 v1 v2 F D N) (hg : wx.grownBy w6 v2.ownBlock) (hb : Below (w.heap.size + 3) wx w6) (hr : k122.R 122 w6 (w.heap.size + 3) (fun _ => True) v6 N') :
    w6.cell? ⟨w.heap.size + 1 + 1, 2, none⟩ = some v2 ∧ w6.frozen? ⟨w.heap.size + 1 + 1, 2, none⟩ = false ∧ RS w (w6.setCell ⟨w.heap.size + 1 + 1, 2, none⟩ v6) A c l j e v0 v1 v6 F D N' := by
  have ho := (hb.block _ (by omega)).trans h.o
  have hz := (hb.block _ (by omega)).trans h.z
  have hR := h.r.above hb (by omega) (by omega)
  have hs := hb.size
  refine ⟨blk_cell ho 2, blk_frozen ho 2, hR.far (by omega) (by omega) 2 v6, blk_far hz (p := ⟨w.heap.size + 1 + 1, 2, none⟩) (by show w.heap.size ≠ w.heap.size + 1 + 1; omega) v6, blk_put ho 2 v6 rfl, by have := h.s; simp; omega, R_low (R_growns h.f h.n (by simp [k124, k153, Kd.slice, Kd.iso, Kd.pair, Kd.int, Kd.scalar, Kd.string, Kd.bool]) hg) (by omega) 2 v6, R_low (R_growns h.d h.n (by simp [k102, k153, Kd.slice, Kd.iso, Kd.pair, Kd.int, Kd.scalar, Kd.string, Kd.bool]) hg) (by omega) 2 v6, R_low hr (by omega) 2 v6⟩
end
theorem Fa.err {α : Type} {e j : Int} {r : Except Int (α × Int)} {a : α} (h : Fa e j r a) (z : e ≠ 0) : r = .error e := by
  rcases h with ⟨k, _⟩ | ⟨_, hr⟩
  · exact absurd k z
  · exact hr
def RRPost (w : World) (l : List Int) (e : Ending) (w' : World) : Prop :=
  ∃ (F : List S124) (D : List S102) (N : List S122) (A0 A1 A2 : Option Addr) (c0 c1 c2 : Nat) (y : Int), e = .returned (.tuple #[.agg #[.slice A0 F.length c0, .slice A1 D.length c1, .slice A2 N.length c2], .int .i64 y]) ∧ CO w' A0 A1 A2 c0 c1 c2 F D N ∧ Below w.heap.size w w' ∧ ((y ≠ 0 ∧ readO l = .error y ∧ F = [] ∧ D = [] ∧ N = []) ∨ (y = 0 ∧ readO l = .ok (F, D, N)))
theorem app124g {ops : Array Oper} {rest : List Oper} {o : Oper} {a : Act} {Q : Exit → Act → World → Prop} {w0 W : World} (base : Nat) (hgd : o.guard = none) (s x : Operand)
    (ho : o.op = .call { callee := .builtin .append, args := #[s, x], argTypes := #[87, 87] }) (v : Value) (xs : List S124) (p : S124) (A2 : Option Addr) (c2 : Nat) (A3 : Option Addr) (c3 : Nat) (okp : Nat → Prop) (hs : a.eval s = v) (hx : a.eval x = .slice (some ⟨W.heap.size, 0, none⟩) 1 1)
    (hp : k124.M W base okp p [.string p.f0, .int .i64 p.f1, .slice A2 p.f2.length c2, .slice A3 p.f3.length c3]) (hokp : ∀ k, okp k → some k ≠ v.ownBlock)
    (HO : k124.R 124 W base (fun _ => True) v xs) (HB : Below base w0 W) (hbase : base ≤ W.heap.size) (hl : xs.length ≤ 1000000)
    (h : ∀ v1 w1, k124.R 124 w1 base (fun _ => True) v1 (xs ++ [p]) → Below base w0 w1 → W.grownBy w1 v.ownBlock → wpList Try.prog ops Q rest (a.put o.dst v1) w1) :
    wpList Try.prog ops Q (o :: rest) a (W.alloc (.cells #[.string p.f0, .int .i64 p.f1, .slice A2 p.f2.length c2, .slice A3 p.f3.length c3] 124)) :=
  Kd.R_append k124 base hgd s x 87 124 (.agg #[.string ⟨#[]⟩, .int .i64 0, .slice none 0 0, .slice none 0 0]) 72 ho Try.underlying87 info124 rfl (by decide) (by decide) v xs p [.string p.f0, .int .i64 p.f1, .slice A2 p.f2.length c2, .slice A3 p.f3.length c3] (fun _ => True) okp hs hx hp (fun k hk => ⟨trivial, hokp k hk⟩) (fun _ _ => trivial) HO HB hbase (by omega) (fun v1 w1 hr hb hg _ => h v1 w1 hr hb hg)
theorem app102g {ops : Array Oper} {rest : List Oper} {o : Oper} {a : Act} {Q : Exit → Act → World → Prop} {w0 W : World} (base : Nat) (hgd : o.guard = none) (s x : Operand)
    (ho : o.op = .call { callee := .builtin .append, args := #[s, x], argTypes := #[88, 88] }) (v : Value) (xs : List S102) (p : S102) (A5 : Option Addr) (c5 : Nat) (A6 : Option Addr) (c6 : Nat) (okp : Nat → Prop) (hs : a.eval s = v) (hx : a.eval x = .slice (some ⟨W.heap.size, 0, none⟩) 1 1)
    (hp : k102.M W base okp p [.string p.f0, .int .i64 p.f1, .int .i64 p.f2, .bool p.f3, .int .i64 p.f4, .slice A5 p.f5.length c5, .slice A6 p.f6.length c6]) (hokp : ∀ k, okp k → some k ≠ v.ownBlock)
    (HO : k102.R 102 W base (fun _ => True) v xs) (HB : Below base w0 W) (hbase : base ≤ W.heap.size) (hl : xs.length ≤ 1000000)
    (h : ∀ v1 w1, k102.R 102 w1 base (fun _ => True) v1 (xs ++ [p]) → Below base w0 w1 → W.grownBy w1 v.ownBlock → wpList Try.prog ops Q rest (a.put o.dst v1) w1) :
    wpList Try.prog ops Q (o :: rest) a (W.alloc (.cells #[.string p.f0, .int .i64 p.f1, .int .i64 p.f2, .bool p.f3, .int .i64 p.f4, .slice A5 p.f5.length c5, .slice A6 p.f6.length c6] 102)) :=
  Kd.R_append k102 base hgd s x 88 102 (.agg #[.string ⟨#[]⟩, .int .i64 0, .int .i64 0, .bool false, .int .i64 0, .slice none 0 0, .slice none 0 0]) 96 ho Try.underlying88 info102 rfl (by decide) (by decide) v xs p [.string p.f0, .int .i64 p.f1, .int .i64 p.f2, .bool p.f3, .int .i64 p.f4, .slice A5 p.f5.length c5, .slice A6 p.f6.length c6] (fun _ => True) okp hs hx hp (fun k hk => ⟨trivial, hokp k hk⟩) (fun _ _ => trivial) HO HB hbase (by omega) (fun v1 w1 hr hb hg _ => h v1 w1 hr hb hg)
theorem app122g {ops : Array Oper} {rest : List Oper} {o : Oper} {a : Act} {Q : Exit → Act → World → Prop} {w0 W : World} (base : Nat) (hgd : o.guard = none) (s x : Operand)
    (ho : o.op = .call { callee := .builtin .append, args := #[s, x], argTypes := #[89, 89] }) (v : Value) (xs : List S122) (p : S122)  (okp : Nat → Prop) (hs : a.eval s = v) (hx : a.eval x = .slice (some ⟨W.heap.size, 0, none⟩) 1 1)
    (hp : k122.M W base okp p [.string p.f0, .int .i64 p.f1]) (hokp : ∀ k, okp k → some k ≠ v.ownBlock)
    (HO : k122.R 122 W base (fun _ => True) v xs) (HB : Below base w0 W) (hbase : base ≤ W.heap.size) (hl : xs.length ≤ 1000000)
    (h : ∀ v1 w1, k122.R 122 w1 base (fun _ => True) v1 (xs ++ [p]) → Below base w0 w1 → W.grownBy w1 v.ownBlock → wpList Try.prog ops Q rest (a.put o.dst v1) w1) :
    wpList Try.prog ops Q (o :: rest) a (W.alloc (.cells #[.string p.f0, .int .i64 p.f1] 122)) :=
  Kd.R_append k122 base hgd s x 89 122 (.agg #[.string ⟨#[]⟩, .int .i64 0]) 24 ho Try.underlying89 info122 rfl (by decide) (by decide) v xs p [.string p.f0, .int .i64 p.f1] (fun _ => True) okp hs hx hp (fun k hk => ⟨trivial, hokp k hk⟩) (fun _ _ => trivial) HO HB hbase (by omega) (fun v1 w1 hr hb hg _ => h v1 w1 hr hb hg)
theorem M_own {α : Type} {d : Kd α} {w : World} {gf b : Nat} {x : α} {cs : List Value} (h : d.M w gf (fun _ => True) x cs) (hb : b ≤ gf) : d.M w b (fun k => gf ≤ k) x cs :=
  d.M_lower hb (d.M_mono (fun k hk => hk.2.1) (d.M_bound h))
theorem loop_exit {α : Type} {p : Pa α} {n : Nat} {l : List Int} {j e1 : Int} {k : Nat} {L : List α} {jj ee : Int} (h : LoopS p n l j e1 k L jj ee) (hk : k ≤ n) (hx : ¬ ((k : Int) < (n : Int) ∧ ee = 0)) :
    Fa ee jj (pE e1 (pRep ((n : Int).toNat) p l j)) L ∧ (¬ ((k : Int) < (n : Int)) ∨ ((k : Int) < (n : Int) ∧ (ee == 0) = false)) := by
  rw [Int.toNat_natCast]
  by_cases hlt : (k : Int) < (n : Int)
  · have z : ee ≠ 0 := fun z => hx ⟨hlt, z⟩
    exact ⟨h.bad z, .inr ⟨hlt, beq_eq_false_iff_ne.2 z⟩⟩
  · have hkn : k = n := by omega
    subst hkn
    exact ⟨h.full, .inl hlt⟩
end Go.Proofs.Ytmcfihpbiilbcaa.H
end
section
namespace Go.Proofs.Ytmcfihpbiilbcaa.H
open Go.RowKit Go.Proofs.YtmcfihpbiilbcaaW.PrintWords Go.Proofs.YtmcfihpbiilbcaaW.PrintLast Go.Proofs.YtmcfihpbiilbcaaW.PrintMore Go.Proofs.Ytmcfihpbiilbcaa.E
set_option linter.unusedVariables false
set_option linter.unusedSimpArgs false
set_option maxRecDepth 100000 in
set_option maxHeartbeats 40000000 in
theorem rread9_c (A : Option Addr) (c : Nat) (l : List Int) (w : World) (hC : CB w A l) (hc : l.length ≤ c) (hby : Bytes l) (hl : l.length ≤ 140737488351232) :
    Calls Try.prog 74 #[.slice A l.length c] w (RRPost w l) := by
  obtain ⟨W3, hW3⟩ : ∃ W, W = ((w.alloc (.cells #[.slice none 0 0, .slice none 0 0, .slice none 0 0] 91)).alloc (.cells #[.slice A l.length c, .int .i64 0, .int .i64 0] 139)).alloc (.cells #[.slice none 0 0, .slice none 0 0, .slice none 0 0] 91) := ⟨_, rfl⟩
  have b0 := blk_alloc (blk_alloc (blk_new w (.cells #[.slice none 0 0, .slice none 0 0, .slice none 0 0] 91)) (.cells #[.slice A l.length c, .int .i64 0, .int .i64 0] 139)) (.cells #[.slice none 0 0, .slice none 0 0, .slice none 0 0] 91)
  have b1 := blk_alloc (blk_new_at (w.alloc (.cells #[.slice none 0 0, .slice none 0 0, .slice none 0 0] 91)) (.cells #[.slice A l.length c, .int .i64 0, .int .i64 0] 139) (w.heap.size + 1) (by simp)) (.cells #[.slice none 0 0, .slice none 0 0, .slice none 0 0] 91)
  have b2 := blk_new_at ((w.alloc (.cells #[.slice none 0 0, .slice none 0 0, .slice none 0 0] 91)).alloc (.cells #[.slice A l.length c, .int .i64 0, .int .i64 0] 139)) (.cells #[.slice none 0 0, .slice none 0 0, .slice none 0 0] 91) (w.heap.size + 1 + 1) (by simp)
  have hb3 := below_alloc (below_alloc (below_alloc (Below.refl w.heap.size w) (.cells #[.slice none 0 0, .slice none 0 0, .slice none 0 0] 91)) (.cells #[.slice A l.length c, .int .i64 0, .int .i64 0] 139)) (.cells #[.slice none 0 0, .slice none 0 0, .slice none 0 0] 91)
  have hs3 : (((w.alloc (.cells #[.slice none 0 0, .slice none 0 0, .slice none 0 0] 91)).alloc (.cells #[.slice A l.length c, .int .i64 0, .int .i64 0] 139)).alloc (.cells #[.slice none 0 0, .slice none 0 0, .slice none 0 0] 91)).heap.size = w.heap.size + 3 := by simp
  rw [← hW3] at b0 b1 b2 hb3 hs3
  have R0 := hid (show RS w W3 A c l 0 0 (.slice none 0 0) (.slice none 0 0) (.slice none 0 0) [] [] [] from ⟨⟨b1, hb3, by omega, hC, hc, hby, hl, by omega, by omega⟩, b0, b2, by omega, Kd.R_nil _ _ _ _ _, Kd.R_nil _ _ _ _ _, Kd.R_nil _ _ _ _ _⟩)
  have HW3 := hid hW3
  clear b0 b1 b2 hb3 hs3 hC hc hby hl hW3
  go_enter Try.func74, Try.ntmps74
  go_wp2_with fail
  try rw [← HW3.out]
  refine (take9_c w _ (w.heap.size + 1) A c l 0 0 4 R0.out.r (by omega) (by omega)).mono ?_
  rintro e' w1 ⟨m, j1, ea, v, rfl, ⟨A1, c1, rfl, hc1, hC1, hm4, hmb⟩, hF, hR, hA⟩
  have R1 := hid (R0.out.call hR hA)
  have F1 := hid hF
  have hstr := Kd.C_string (c := c1) Try.underlying22 Try.underlying5 Try.underlying9 hC1
  have hq := magicO_q m hmb
  have HMG := hid hq
  clear hF hR hA hC1 hq R0
  go_wp2_with fail
  rw [HMG.out]
  refine (must9_c w _ (w.heap.size + 1) A c l j1 ea _ R1.out.r).mono ?_
  rintro e' w2 ⟨eb, rfl, hF, hR, hA⟩
  have R2 := hid (R1.out.call hR hA)
  have F2 := hid hF
  clear hF hR hA hstr HMG R1
  go_wp2_with fail
  refine (count9_c w _ (w.heap.size + 1) A c l j1 eb 64 R2.out.r (by omega)).mono ?_
  rintro e' w3 ⟨nn, jF, eF, v, rfl, ⟨rfl, n0, n1⟩, hF, hR, hA⟩
  obtain ⟨nF, rfl⟩ : ∃ n : Nat, nn = n := ⟨nn.toNat, by omega⟩
  have R3 := hid (R2.out.call hR hA)
  have F3 := hid hF
  clear hF hR hA R2
  go_upto_block 0 with (fail)
  go_cut [7] (fun _ wx => ∃ (L : List S124) (jj ee : Int) (vv : Value), Hid (RS w wx A c l jj ee vv (.slice none 0 0) (.slice none 0 0) L [] [] ∧ Fa ee jj (pE eF (pRep ((nF : Int).toNat) pFunc l jF)) L))
  case first =>
    go_wp2_with fail
    go_loopw [7, 8, 9, 10] (fun s7 _ _ _ wx => ∃ (k : Nat) (L : List S124) (jj ee : Int) (vv : Value), k ≤ nF ∧ L.length = k ∧ s7 = .int .i64 k ∧ Hid (RS w wx A c l jj ee vv (.slice none 0 0) (.slice none 0 0) L [] [] ∧ LoopS pFunc nF l jF eF k L jj ee)) (fun s7 _ _ _ _ => nF - (intOf s7).toNat)
    case atStart => exact ⟨0, [], jF, eF, _, by omega, rfl, rfl, hid ⟨R3.out, LoopS.start _ _ _ _ _⟩⟩
    case round =>
      clear R3
      obtain ⟨k, L, jj, ee, vv, hk, hkL, rfl, hI⟩ := hrel
      have HkL := hid hkL
      clear hkL
      obtain ⟨c0_, c1_, c2_, g1_, g2_⟩ := hI.out.1.r.g.cells
      obtain ⟨Wo, hWo⟩ : ∃ W, W = wr := ⟨_, rfl⟩
      subst hWo
      by_cases hgo : (k : Int) < (nF : Int) ∧ ee = 0
      · obtain ⟨hlt, rfl⟩ := hgo
        have hk1 : k < nF := by omega
        have e3 : IntKind.i64.wrap ((k : Int) + 1) = (k : Int) + 1 := IntWalk.i64_in _ (by omega)
        have HI := hid hI.out.2
        have HR := hid hI.out.1
        have hsz := hI.out.1.s
        have hgG : Wo.heap.size ≠ w.heap.size + 1 := by omega
        have HSZ := hid (show w.heap.size ≤ Wo.heap.size from by omega)
        obtain ⟨X, hX⟩ : ∃ X, X = Wo.alloc (.cells #[.string ⟨#[]⟩, .int .i64 0, .slice none 0 0, .slice none 0 0] 124) := ⟨_, rfl⟩
        have hE := El.start hI.out.1.r #[.string ⟨#[]⟩, .int .i64 0, .slice none 0 0, .slice none 0 0] 124
        rw [← hX] at hE
        have E0 := hid hE
        have HX := hid hX
        have HLT := hid (Kd.R_lt hI.out.1.f)
        have HGN := hid hgG
        clear hI hE hX hgG
        go_wp2_with fail
        try rw [← HX.out]
        refine (name9_c w _ (w.heap.size + 1) A c l jj 0 E0.out.r).mono ?_
        rintro e' w1 ⟨nm, ja, a1, v, rfl, ⟨rfl, nms⟩, hF, hR, hA⟩
        have E1 := hid (E0.out.call HGN.out hR hA)
        have F1x := hid hF
        have q_ := blk_cell E1.out.b 0
        have g_ := blk_frozen E1.out.b 0
        have E1s := hid (E1.out.set HSZ.out (Ne.symm HGN.out) 0 (.string nm) _ rfl)
        obtain ⟨Y1, hY1⟩ : ∃ X, X = w1.setCell ⟨Wo.heap.size, 0, none⟩ (.string nm) := ⟨_, rfl⟩
        have hc_ : (w1.setCell ⟨Wo.heap.size, 0, none⟩ (.string nm)).cell? ⟨Wo.heap.size, 0, none⟩ = some (.string nm) := blk_cell E1s.out.b 0
        rw [← hY1] at E1s 
        have HY1 := hid hY1
        clear hF hR hA hY1 E0 E1 c0_ c1_ c2_ g1_ g2_
        go_wp2_with fail
        try rw [← HY1.out]
        refine (num9_c w _ (w.heap.size + 1) A c l ja a1 1 E1s.out.r (by omega) (by omega)).mono ?_
        rintro e' w2 ⟨b, jb, a2, v, rfl, ⟨rfl, b0, b1⟩, hF, hR, hA⟩
        have E2 := hid (E1s.out.call HGN.out hR hA)
        have F2x := hid hF
        clear q_ g_ hc_
        have q_ := blk_cell E2.out.b 1
        have g_ := blk_frozen E2.out.b 1
        have E2s := hid (E2.out.set HSZ.out (Ne.symm HGN.out) 1 (.int .i64 b) _ rfl)
        obtain ⟨Y2, hY2⟩ : ∃ X, X = w2.setCell ⟨Wo.heap.size, 1, none⟩ (.int .i64 b) := ⟨_, rfl⟩
        have hc_ : (w2.setCell ⟨Wo.heap.size, 1, none⟩ (.int .i64 b)).cell? ⟨Wo.heap.size, 1, none⟩ = some (.int .i64 b) := blk_cell E2s.out.b 1
        rw [← hY2] at E2s 
        have HY2 := hid hY2
        clear hF hR hA hY2 E2 E1s
        go_wp2_with fail
        try rw [← HY2.out]
        refine (must9_c w _ (w.heap.size + 1) A c l jb a2 _ E2s.out.r).mono ?_
        rintro e' w4 ⟨a3, rfl, hF, hR, hA⟩
        have E4 := hid (E2s.out.call HGN.out hR hA)
        have F4x := hid hF
        have F4b := hid (show Fa a3 jb (pE a1 (pBind l ja)) b from Fa.bind F2x.out (Fa.bind F4x.out (Fa.ret b l a3 jb)))
        clear hF hR hA E2s q_ g_ hc_
        go_wp2_with fail
        refine (count9_c w _ (w.heap.size + 1) A c l jb a3 2000 E4.out.r (by omega)).mono ?_
        rintro e' w5 ⟨nq, j5, a5, v, rfl, ⟨rfl, m0, m1⟩, hF, hR, hA⟩
        have E5 := hid (E4.out.call HGN.out hR hA)
        have F5x := hid hF
        obtain ⟨nC, rfl⟩ : ∃ n : Nat, nq = n := ⟨nq.toNat, by omega⟩
        clear hF hR hA E4
        go_upto_block 2 with (fail)
        go_cut [10] (fun _ wx => ∃ (Lq : List Int) (jq eq_ : Int) (v : Value), Hid (El w Wo wx (w.heap.size + 1) A c l jq eq_ #[.string nm, .int .i64 b, v, .slice none 0 0] 124 ∧ (Kd.int .u32).R 36 wx (Wo.heap.size + 1) (fun _ => True) v Lq ∧ Fa eq_ jq (pE a5 (pRep ((nC : Int).toNat) (pNum 4) l j5)) Lq))
        case first =>
          go_wp2_with fail
          go_loopw [10] (fun s10 wx => ∃ (q : Nat) (Lq : List Int) (jq eq_ : Int) (v : Value), q ≤ nC ∧ Lq.length = q ∧ s10 = .int .i64 q ∧ Hid (El w Wo wx (w.heap.size + 1) A c l jq eq_ #[.string nm, .int .i64 b, v, .slice none 0 0] 124 ∧ (Kd.int .u32).R 36 wx (Wo.heap.size + 1) (fun _ => True) v Lq ∧ LoopS (pNum 4) nC l j5 a5 q Lq jq eq_)) (fun s10 _ => nC - (intOf s10).toNat)
          case atStart => exact ⟨0, [], j5, a5, _, by omega, rfl, rfl, hid ⟨E5.out, Kd.R_nil _ _ _ _ _, LoopS.start _ _ _ _ _⟩⟩
          case round =>
            clear E5
            obtain ⟨q, Lq, jq, eq_, v, hq, hqL, rfl, hIq⟩ := hrel
            have HqL := hid hqL
            clear hqL
            obtain ⟨c0_, c1_, c2_, g1_, g2_⟩ := hIq.out.1.r.g.cells
            by_cases hgo : (q : Int) < (nC : Int) ∧ eq_ = 0
            · obtain ⟨hlt, rfl⟩ := hgo
              have hq1 : q < nC := by omega
              have e4i : IntKind.i64.wrap ((q : Int) + 1) = (q : Int) + 1 := IntWalk.i64_in _ (by omega)
              have HIq := hid hIq.out.2.2
              have HD := hid (And.intro (hIq.out.1.mem (below_drw wr)) (Kd.R_drew hIq.out.2.1))
              clear hIq
              go_wp2
              clear c0_ c1_ c2_ g1_ g2_
              refine start_ (n := 9) (S := fun W => W.cell? ⟨Wo.heap.size, 2, none⟩ = some v) (ds := [8]) #[false, false, false, false, false, false, false, false, false] (by kernel_rfl) rfl rfl (blk_cell HD.out.1.b 2) (fun hHeld => ?_)
              refine pure_ (i := 0) (N := (some 66)) (v := ?_) (a' := ?_) #[true, false, false, false, false, false, false, false, false] rfl rfl (by kernel_rfl) (fun _ _ _ h => h) (Or.inl ⟨by rfl, ?_⟩) ?_ ?_
              rotate_left
              · intro w'
                go_simp
                with_reducible rfl
              rotate_left
              · simp only [Act.put, List.setIfInBounds_toArray, List.set_cons_zero, List.set_cons_succ, i64_w]
                rfl
              refine take_ (i := 1) (N := (some 67)) (v := ?_) (a' := ?_) #[true, true, false, false, false, false, false, false, false] rfl rfl (by kernel_rfl) (fun _ _ _ h => h) (Or.inl ⟨by rfl, ?_⟩) hHeld ?_ ?_
              rotate_left
              · rintro w' s0
                go_simp
                with_reducible rfl
              rotate_left
              · simp only [Act.put, List.setIfInBounds_toArray, List.set_cons_zero, List.set_cons_succ, i64_w]
                rfl
              refine pure_ (i := 2) (N := (some 68)) (v := ?_) (a' := ?_) #[true, true, true, false, false, false, false, false, false] rfl rfl (by kernel_rfl) (fun _ _ _ h => h) (Or.inl ⟨by rfl, ?_⟩) ?_ ?_
              rotate_left
              · intro w'
                go_simp
                with_reducible rfl
              rotate_left
              · simp only [Act.put, List.setIfInBounds_toArray, List.set_cons_zero, List.set_cons_succ, i64_w]
                rfl
              refine one_ (i := 3) (N := (some 69)) #[true, true, true, true, false, false, false, false, false] rfl rfl (by kernel_rfl) (by decide) (fun K hK => ?_)
              refine goes_ Try.func120 (by kernel_rfl) rfl #[.pointer (some ⟨w.heap.size + 1, 0, none⟩), .int .i64 4] (by rfl) rfl rfl (by first | rfl | (simp only [List.map_toArray, List.map_cons, List.map_nil]; rfl)) ?_
              refine (num9_c w _ (w.heap.size + 1) A c l jq 0 4 HD.out.1.r (by omega) (by omega)).mono ?_
              rintro e' wA ⟨d, j4, e4, v', rfl, ⟨rfl, d0, d1⟩, hF, hR, hA⟩
              have e1 : IntKind.u32.wrap d = d := by rw [IntKind.wrap_u32]; omega
              have HST := hid (HIq.out.step hq1 hF)
              have HWq := hid (And.intro (HD.out.1.call HGN.out hR hA) (R_aftG HD.out.2 (by omega) hA))
              clear hF hR hA HD
              refine ⟨_, rfl, ?_⟩
              refine hK.out _ _ (blk_cell HWq.out.1.b 2) (fun hHeld => ?_)
              clear hK K
              refine norm_ (a' := ?_) ?_ ?_
              rotate_left
              · show Act.put _ (some 69) _ = _
                simp only [Act.put, List.setIfInBounds_toArray, List.set_cons_zero, List.set_cons_succ, i64_w]
                rfl
              refine pure_ (i := 4) (N := (some 70)) (v := ?_) (a' := ?_) #[true, true, true, true, true, false, false, false, false] rfl rfl (by kernel_rfl) (fun _ _ _ h => h) (Or.inl ⟨by rfl, ?_⟩) ?_ ?_
              rotate_left
              · intro w'
                go_simp
                with_reducible rfl
              rotate_left
              · simp only [Act.put, List.setIfInBounds_toArray, List.set_cons_zero, List.set_cons_succ, i64_w]
                rfl
              refine one_ (i := 5) (N := (some 71)) #[true, true, true, true, true, true, false, false, false] rfl rfl (by kernel_rfl) (by decide) (fun K hK => ?_)
              go_simp
              have HB5 := hid (blk_alloc HWq.out.1.b (.cells #[.int .u32 d] 36))
              refine hK.out _ _ (blk_cell HB5.out 2) (fun hHeld => ?_)
              clear hK K
              refine one_ (i := 6) (N := (some 72)) #[true, true, true, true, true, true, true, false, false] rfl rfl (by kernel_rfl) (by decide) (fun K hK => ?_)
              refine Kd.R_append_step (Kd.int .u32) (w0 := wA) (Wo.heap.size + 1) (by rfl) (.tmp 67) (.tmp 71) 58 36 (.int .u32 0) 4 (by rfl) Try.underlying58 info36 rfl (by decide) (by decide) v Lq d [.int .u32 d] (fun _ => True) (fun _ => False) (by rfl) (by rfl) rfl (fun _ h => h.elim) (fun _ _ => trivial) HWq.out.2 (Below.refl _ _) (by have := blk_lt HWq.out.1.b; omega) (by have := HqL.out; omega) ?_
              intro v6 w6 hr hb6 hg hat
              obtain ⟨T, hT⟩ : ∃ T, Lq ++ [d] = T := ⟨_, rfl⟩
              have HT := hid hT
              rw [hT] at hr
              clear hT
              obtain ⟨A6, c6, rfl, _, _⟩ := Kd.R_reads hr
              have HW6 := hid (And.intro (HWq.out.1.grow (by omega) HSZ.out hb6) hr)
              clear hr hb6 hg hat
              refine hK.out _ _ (blk_cell HW6.out.1.b 2) (fun hHeld => ?_)
              clear hK K
              refine norm_ (a' := ?_) ?_ ?_
              rotate_left
              · show Act.put _ (some 72) _ = _
                simp only [Act.put, List.setIfInBounds_toArray, List.set_cons_zero, List.set_cons_succ, i64_w]
                rfl
              refine pure_ (i := 7) (N := (some 73)) (v := ?_) (a' := ?_) #[true, true, true, true, true, true, true, true, false] rfl rfl (by kernel_rfl) (fun _ _ _ h => h) (Or.inl ⟨by rfl, ?_⟩) ?_ ?_
              rotate_left
              · intro w'
                go_simp
                with_reducible rfl
              rotate_left
              · simp only [Act.put, List.setIfInBounds_toArray, List.set_cons_zero, List.set_cons_succ, i64_w]
                rfl
              refine last_ (i := 8) (N := none) #[true, true, true, true, true, true, true, true, true] rfl rfl (by kernel_rfl) (by decide) (fun K hK => ?_)
              have c6_ : w6.cell? ⟨Wo.heap.size, 2, none⟩ = some v := blk_cell HW6.out.1.b 2
              have g6_ : w6.frozen? ⟨Wo.heap.size, 2, none⟩ = false := blk_frozen HW6.out.1.b 2
              go_simp
              clear c6_ g6_
              refine hK.out _ _ ?_
              clear hK K
              refine done_ (by kernel_rfl) ?_
              have M7 := hid (And.intro (HW6.out.1.set HSZ.out (Ne.symm HGN.out) 2 (.slice A6 T.length c6) _ rfl) (R_low HW6.out.2 (Nat.lt_succ_self _) 2 (.slice A6 T.length c6)))
              go_wp2
              go_roundw
              case rel => exact ⟨q + 1, T, j4, e4, _, by omega, by rw [← HT.out, List.length_append, HqL.out]; rfl, by go_num, hid ⟨M7.out.1, M7.out.2, by rw [← HT.out]; exact HST.out⟩⟩
              case measure => simp [intOf]; omega
            · obtain ⟨hfa, hx⟩ := loop_exit hIq.out.2.2 hq hgo
              have HFA := hid hfa
              have HEq := hid (And.intro hIq.out.1 (And.intro hIq.out.2.1 hfa))
              clear hfa hIq hgo HFA
              rcases hx with hlt | ⟨hlt, z1⟩
              all_goals
                go_wp2_with fail
                go_meet
                exact ⟨Lq, jq, eq_, v, HEq⟩
        case rest =>
          obtain ⟨Lq, jq, eq_, v, HEq3⟩ := hcut
          have HFA := hid HEq3.out.2.2
          have HEq := hid (And.intro HEq3.out.1 HEq3.out.2.1)
          clear HEq3
          go_wp2_with fail
          refine (rels9_c w _ (w.heap.size + 1) A c l jq eq_ HEq.out.1.r).mono ?_
          rintro e' w8 ⟨r, j8, e8, v8, rfl, ⟨hV8, hrl⟩, hF, hR, hA⟩
          obtain ⟨A8, c8, rfl, _, _⟩ := Kd.R_reads hV8
          obtain ⟨Av, cv, rfl, _, _⟩ := Kd.R_reads HEq.out.2
          have E8 := hid (HEq.out.1.call HGN.out hR hA)
          have C8 := hid (R_aftG HEq.out.2 (by omega) hA)
          have D8 := hid (Kd.R_lower hV8 (show Wo.heap.size + 1 ≤ _ from blk_lt HEq.out.1.b))
          have F8x := hid hF
          have q_ := blk_cell E8.out.b 3
          have g_ := blk_frozen E8.out.b 3
          have E8s := hid (E8.out.set HSZ.out (Ne.symm HGN.out) 3 (.slice A8 r.length c8) _ rfl)
          have C8s := hid (R_low C8.out (Nat.lt_succ_self _) 3 (.slice A8 r.length c8))
          have D8s := hid (R_low D8.out (Nat.lt_succ_self _) 3 (.slice A8 r.length c8))
          clear hF hR hA hV8 E8 C8 D8 HEq
          have R8 := hid (HR.out.up E8s.out.r E8s.out.u)
          have HM := hid (M_own (b := w.heap.size + 3) (k124_mkM (w8.setCell ⟨Wo.heap.size, 3, none⟩ (.slice A8 r.length c8)) (Wo.heap.size + 1) (fun _ => True) ⟨nm, b, Lq, r⟩ C8s.out D8s.out) (by omega))
          have z0_ : (w8.setCell ⟨Wo.heap.size, 3, none⟩ (.slice A8 r.length c8)).cell? ⟨Wo.heap.size, 0, none⟩ = some (.string nm) := blk_cell E8s.out.b 0
          have z1_ : (w8.setCell ⟨Wo.heap.size, 3, none⟩ (.slice A8 r.length c8)).cell? ⟨Wo.heap.size, 1, none⟩ = some (.int .i64 b) := blk_cell E8s.out.b 1
          have z2_ : (w8.setCell ⟨Wo.heap.size, 3, none⟩ (.slice A8 r.length c8)).cell? ⟨Wo.heap.size, 2, none⟩ = some (.slice Av Lq.length cv) := blk_cell E8s.out.b 2
          have z3_ : (w8.setCell ⟨Wo.heap.size, 3, none⟩ (.slice A8 r.length c8)).cell? ⟨Wo.heap.size, 3, none⟩ = some (.slice A8 r.length c8) := blk_cell E8s.out.b 3
          have k0_ : (w8.setCell ⟨Wo.heap.size, 3, none⟩ (.slice A8 r.length c8)).cell? ⟨w.heap.size + 1 + 1, 0, none⟩ = some vv := blk_cell R8.out.o 0
          have hLl : L.length ≤ 1000000 := by have := HkL.out; omega
          go_wp2_with (at_builtin; refine app124g (w0 := (w8.setCell ⟨Wo.heap.size, 3, none⟩ (.slice A8 r.length c8))) (w.heap.size + 3) rfl (.tmp 78) (.tmp 80) rfl vv L ⟨nm, b, Lq, r⟩ Av cv A8 c8 (fun k => Wo.heap.size + 1 ≤ k) rfl (by show Value.slice (some ⟨w8.heap.size, 0, none⟩) 1 1 = _; simp) HM.out (fun k hk e => by have h1 := HLT.out k e.symm; have h2 : Wo.heap.size + 1 ≤ k := hk; omega) R8.out.f (Below.refl _ _) R8.out.s hLl ?_; intro v6 w6 hr hb6 hg; obtain ⟨T, hT⟩ : ∃ T, L ++ [⟨nm, b, Lq, r⟩] = T := ⟨_, rfl⟩; have HT := hid hT; rw [hT] at hr; clear hT; obtain ⟨A6, c6, rfl, _, _⟩ := Kd.R_reads hr; obtain ⟨c6_, g6_, hO⟩ := R8.out.appF hg hb6 hr; have HO := hid hO; clear hr hb6 hg hO q_ g_ z0_ z1_ z2_ z3_ k0_)
          go_roundw
          case rel => exact ⟨k + 1, T, j8, e8, _, by omega, by rw [← HT.out, List.length_append, HkL.out]; rfl, by go_num, hid ⟨HO.out, by rw [← HT.out]; exact HI.out.step hk1 (Fa.bind F1x.out (Fa.bind F4b.out (Fa.bind F5x.out (Fa.bind HFA.out (Fa.bind F8x.out (Fa.ret _ l e8 j8))))))⟩⟩
          case measure => simp [intOf]; omega
      · obtain ⟨hfa, hx⟩ := loop_exit hI.out.2 hk hgo
        have HEX := hid (And.intro hI.out.1 hfa)
        clear hfa hI hgo
        rcases hx with hlt | ⟨hlt, z1⟩
        all_goals
          go_wp2_with fail
          go_meet
          exact ⟨L, jj, ee, vv, HEX⟩
  case rest =>
    obtain ⟨LF, jf_, ef_, vF, hI⟩ := hcut
    have FF := hid hI.out.2
    have RF := hid hI.out.1
    clear hI
    go_wp2_with fail
    refine (count9_c w _ (w.heap.size + 1) A c l jf_ ef_ 64 RF.out.r (by omega)).mono ?_
    rintro e' wc ⟨nn, jD, eD, v, rfl, ⟨rfl, n0_, n1_⟩, hF, hR, hA⟩
    obtain ⟨nD, rfl⟩ : ∃ n : Nat, nn = n := ⟨nn.toNat, by omega⟩
    have RFc := hid (RF.out.call hR hA)
    have FCD := hid hF
    clear hF hR hA RF
    go_upto_block 4 with (fail)
    go_cut [11] (fun _ wx => ∃ (L : List S102) (jj ee : Int) (vv : Value), Hid (RS w wx A c l jj ee vF vv (.slice none 0 0) LF L [] ∧ Fa ee jj (pE eD (pRep ((nD : Int).toNat) pData l jD)) L))
    case first =>
      go_wp2_with fail
      go_loopw [11, 12, 13, 14] (fun s11 _ _ _ wx => ∃ (k : Nat) (L : List S102) (jj ee : Int) (vv : Value), k ≤ nD ∧ L.length = k ∧ s11 = .int .i64 k ∧ Hid (RS w wx A c l jj ee vF vv (.slice none 0 0) LF L [] ∧ LoopS pData nD l jD eD k L jj ee)) (fun s11 _ _ _ _ => nD - (intOf s11).toNat)
      case atStart => exact ⟨0, [], jD, eD, _, by omega, rfl, rfl, hid ⟨RFc.out, LoopS.start _ _ _ _ _⟩⟩
      case round =>
        clear RFc
        obtain ⟨k, L, jj, ee, vv, hk, hkL, rfl, hI⟩ := hrel
        have HkL := hid hkL
        clear hkL
        obtain ⟨c0_, c1_, c2_, g1_, g2_⟩ := hI.out.1.r.g.cells
        obtain ⟨Wo, hWo⟩ : ∃ W, W = wr := ⟨_, rfl⟩
        subst hWo
        by_cases hgo : (k : Int) < (nD : Int) ∧ ee = 0
        · obtain ⟨hlt, rfl⟩ := hgo
          have hk1 : k < nD := by omega
          have e3 : IntKind.i64.wrap ((k : Int) + 1) = (k : Int) + 1 := IntWalk.i64_in _ (by omega)
          have HI := hid hI.out.2
          have HR := hid hI.out.1
          have hsz := hI.out.1.s
          have hgG : Wo.heap.size ≠ w.heap.size + 1 := by omega
          have HSZ := hid (show w.heap.size ≤ Wo.heap.size from by omega)
          obtain ⟨X, hX⟩ : ∃ X, X = Wo.alloc (.cells #[.string ⟨#[]⟩, .int .i64 0, .int .i64 0, .bool false, .int .i64 0, .slice none 0 0, .slice none 0 0] 102) := ⟨_, rfl⟩
          have hE := El.start hI.out.1.r #[.string ⟨#[]⟩, .int .i64 0, .int .i64 0, .bool false, .int .i64 0, .slice none 0 0, .slice none 0 0] 102
          rw [← hX] at hE
          have E0 := hid hE
          have HX := hid hX
          have HLT := hid (Kd.R_lt hI.out.1.d)
          have HGN := hid hgG
          clear hI hE hX hgG
          go_wp2_with fail
          try rw [← HX.out]
          refine (name9_c w _ (w.heap.size + 1) A c l jj 0 E0.out.r).mono ?_
          rintro e' w1 ⟨nm, ja, a1, v, rfl, ⟨rfl, nms⟩, hF, hR, hA⟩
          have E1 := hid (E0.out.call HGN.out hR hA)
          have F1x := hid hF
          have q_ := blk_cell E1.out.b 0
          have g_ := blk_frozen E1.out.b 0
          have E1s := hid (E1.out.set HSZ.out (Ne.symm HGN.out) 0 (.string nm) _ rfl)
          obtain ⟨Y1, hY1⟩ : ∃ X, X = w1.setCell ⟨Wo.heap.size, 0, none⟩ (.string nm) := ⟨_, rfl⟩
          have hc_ : (w1.setCell ⟨Wo.heap.size, 0, none⟩ (.string nm)).cell? ⟨Wo.heap.size, 0, none⟩ = some (.string nm) := blk_cell E1s.out.b 0
          rw [← hY1] at E1s 
          have HY1 := hid hY1
          clear hF hR hA hY1 E0 E1 c0_ c1_ c2_ g1_ g2_
          go_wp2_with fail
          try rw [← HY1.out]
          refine (num9_c w _ (w.heap.size + 1) A c l ja a1 1 E1s.out.r (by omega) (by omega)).mono ?_
          rintro e' w2 ⟨b, jb, a2, v, rfl, ⟨rfl, b0, b1⟩, hF, hR, hA⟩
          have E2 := hid (E1s.out.call HGN.out hR hA)
          have F2x := hid hF
          clear q_ g_ hc_
          have q_ := blk_cell E2.out.b 1
          have g_ := blk_frozen E2.out.b 1
          have E2s := hid (E2.out.set HSZ.out (Ne.symm HGN.out) 1 (.int .i64 b) _ rfl)
          obtain ⟨Y2, hY2⟩ : ∃ X, X = w2.setCell ⟨Wo.heap.size, 1, none⟩ (.int .i64 b) := ⟨_, rfl⟩
          have hc_ : (w2.setCell ⟨Wo.heap.size, 1, none⟩ (.int .i64 b)).cell? ⟨Wo.heap.size, 1, none⟩ = some (.int .i64 b) := blk_cell E2s.out.b 1
          rw [← hY2] at E2s 
          have HY2 := hid hY2
          clear hF hR hA hY2 E2 E1s
          go_wp2_with fail
          try rw [← HY2.out]
          refine (must9_c w _ (w.heap.size + 1) A c l jb a2 _ E2s.out.r).mono ?_
          rintro e' w3 ⟨a3, rfl, hF, hR, hA⟩
          have E3 := hid (E2s.out.call HGN.out hR hA)
          have F3x := hid hF
          have F3b := hid (show Fa a3 jb (pE a1 (pBind l ja)) b from Fa.bind F2x.out (Fa.bind F3x.out (Fa.ret b l a3 jb)))
          clear hF hR hA E2s q_ g_ hc_
          go_wp2_with fail
          refine (num9_c w _ (w.heap.size + 1) A c l jb a3 1 E3.out.r (by omega) (by omega)).mono ?_
          rintro e' w4 ⟨x2, jc, a4, v, rfl, ⟨rfl, y0, y1⟩, hF, hR, hA⟩
          have E4 := hid (E3.out.call HGN.out hR hA)
          have F4x := hid hF
          have q_ := blk_cell E4.out.b 2
          have g_ := blk_frozen E4.out.b 2
          have E4s := hid (E4.out.set HSZ.out (Ne.symm HGN.out) 2 (.int .i64 x2) _ rfl)
          obtain ⟨Y4, hY4⟩ : ∃ X, X = w4.setCell ⟨Wo.heap.size, 2, none⟩ (.int .i64 x2) := ⟨_, rfl⟩
          have hc_ : (w4.setCell ⟨Wo.heap.size, 2, none⟩ (.int .i64 x2)).cell? ⟨Wo.heap.size, 2, none⟩ = some (.int .i64 x2) := blk_cell E4s.out.b 2
          rw [← hY4] at E4s 
          have HY4 := hid hY4
          clear hF hR hA hY4 E4 E3
          go_wp2_with fail
          try rw [← HY4.out]
          refine (num9_c w _ (w.heap.size + 1) A c l jc a4 1 E4s.out.r (by omega) (by omega)).mono ?_
          rintro e' w5 ⟨fl, jd, a5, v, rfl, ⟨rfl, f0, f1⟩, hF, hR, hA⟩
          have E5 := hid (E4s.out.call HGN.out hR hA)
          have F5x := hid hF
          clear hF hR hA q_ g_ hc_ E4s
          go_wp2_with fail
          refine (must9_c w _ (w.heap.size + 1) A c l jd a5 _ E5.out.r).mono ?_
          rintro e' w6 ⟨a6, rfl, hF, hR, hA⟩
          have E6 := hid (E5.out.call HGN.out hR hA)
          have F6x := hid hF
          clear hF hR hA E5
          obtain ⟨fb, hfb⟩ : ∃ fb, decide (fl = 1) = fb := ⟨_, rfl⟩
          have hfb2 : (fl == 1) = fb := by rw [← hfb]; rfl
          have HFB := hid hfb
          have hF := True.intro
          have hR := True.intro
          have hA := True.intro
          have q_ := blk_cell E6.out.b 3
          have g_ := blk_frozen E6.out.b 3
          have E6s := hid (E6.out.set HSZ.out (Ne.symm HGN.out) 3 (.bool fb) _ rfl)
          obtain ⟨Y6, hY6⟩ : ∃ X, X = w6.setCell ⟨Wo.heap.size, 3, none⟩ (.bool fb) := ⟨_, rfl⟩
          have hc_ : (w6.setCell ⟨Wo.heap.size, 3, none⟩ (.bool fb)).cell? ⟨Wo.heap.size, 3, none⟩ = some (.bool fb) := blk_cell E6s.out.b 3
          rw [← hY6] at E6s 
          have HY6 := hid hY6
          clear hF hR hA hY6 E6
          go_wp2_with fail
          try rw [← HY6.out]
          refine (num9_c w _ (w.heap.size + 1) A c l jd a6 2 E6s.out.r (by omega) (by omega)).mono ?_
          rintro e' w7 ⟨x4, je, a7, v, rfl, ⟨rfl, u0, u1⟩, hF, hR, hA⟩
          have E7 := hid (E6s.out.call HGN.out hR hA)
          have F7x := hid hF
          clear q_ g_ hc_ hfb hfb2
          have q_ := blk_cell E7.out.b 4
          have g_ := blk_frozen E7.out.b 4
          have E7s := hid (E7.out.set HSZ.out (Ne.symm HGN.out) 4 (.int .i64 x4) _ rfl)
          obtain ⟨Y7, hY7⟩ : ∃ X, X = w7.setCell ⟨Wo.heap.size, 4, none⟩ (.int .i64 x4) := ⟨_, rfl⟩
          have hc_ : (w7.setCell ⟨Wo.heap.size, 4, none⟩ (.int .i64 x4)).cell? ⟨Wo.heap.size, 4, none⟩ = some (.int .i64 x4) := blk_cell E7s.out.b 4
          rw [← hY7] at E7s 
          have HY7 := hid hY7
          clear hF hR hA hY7 E7 E6s
          go_wp2_with fail
          try rw [← HY7.out]
          refine (count9_c w _ (w.heap.size + 1) A c l je a7 4096 E7s.out.r (by omega)).mono ?_
          rintro e' w8 ⟨nq, jg, a8, v, rfl, ⟨rfl, m0, m1⟩, hF, hR, hA⟩
          have E8 := hid (E7s.out.call HGN.out hR hA)
          have F8x := hid hF
          clear hF hR hA q_ g_ hc_ E7s
          have E9 := hid (E8.out.mem (below_alloc (Below.refl _ _) (.cells #[] 5)))
          go_wp2_with fail
          refine (take9_c w _ (w.heap.size + 1) A c l jg a8 nq E9.out.r m0 (by omega)).mono ?_
          rintro e' w10 ⟨s, jh, a10, v, rfl, ⟨As, cs, rfl, hcs, hCs, hs4, hsb⟩, hF, hR, hA⟩
          have E10 := hid (E9.out.call HGN.out hR hA)
          have F10x := hid hF
          have hr8 := blk_lt E8.out.b
          have RE := hid (Kd.R_lower (R_aftG (R_empty w8) (by omega) hA) (show Wo.heap.size + 1 ≤ w8.heap.size from hr8))
          have CS := hid hCs
          have HL5 := hid (show ([] : List Int).length + s.length ≤ 140737488355328 from by simp only [List.length_nil]; omega)
          clear hF hR hA hCs E9 E8
          go_wp2_with (at_builtin; refine app_c (w0 := w10) (Wo.heap.size + 1) rfl (.tmp 126) (.tmp 129) rfl _ [] s As cs rfl rfl RE.out CS.out (Below.refl _ _) (blk_lt E10.out.b) HL5.out ?_; intro v5 w11 hr hb hg hat; rw [List.nil_append] at hr; obtain ⟨A5, c5, rfl, hc5, _⟩ := Kd.R_reads hr; have E11 := hid (E10.out.grow (by omega) HSZ.out hb); have C11 := hid hr; clear hr hb hg hat; have q_ := blk_cell E11.out.b 5; have g_ := blk_frozen E11.out.b 5; have E11s := hid (E11.out.set HSZ.out (Ne.symm HGN.out) 5 (.slice A5 s.length c5) _ rfl); have C11s := hid (R_low C11.out (Nat.lt_succ_self _) 5 (.slice A5 s.length c5)))
          refine (rels9_c w _ (w.heap.size + 1) A c l jh a10 E11s.out.r).mono ?_
          rintro e' w13 ⟨r, j8, e8, v8, rfl, ⟨hV8, hrl⟩, hF, hR, hA⟩
          obtain ⟨A8, c8, rfl, _, _⟩ := Kd.R_reads hV8
          have E13 := hid (E11s.out.call HGN.out hR hA)
          have C13 := hid (R_aftG C11s.out (by omega) hA)
          have D13 := hid (Kd.R_lower hV8 (show Wo.heap.size + 1 ≤ _ from blk_lt E11s.out.b))
          have F13x := hid hF
          clear q_ g_
          have q_ := blk_cell E13.out.b 6
          have g_ := blk_frozen E13.out.b 6
          have E13s := hid (E13.out.set HSZ.out (Ne.symm HGN.out) 6 (.slice A8 r.length c8) _ rfl)
          have C13s := hid (R_low C13.out (Nat.lt_succ_self _) 6 (.slice A8 r.length c8))
          have D13s := hid (R_low D13.out (Nat.lt_succ_self _) 6 (.slice A8 r.length c8))
          clear hF hR hA hV8 E13 C13 D13 E11 C11 E11s C11s E10
          have R8 := hid (HR.out.up E13s.out.r E13s.out.u)
          have HM := hid (M_own (b := w.heap.size + 3) (k102_mkM (w13.setCell ⟨Wo.heap.size, 6, none⟩ (.slice A8 r.length c8)) (Wo.heap.size + 1) (fun _ => True) ⟨nm, b, x2, fb, x4, s, r⟩ C13s.out D13s.out) (by omega))
          have z0_ : (w13.setCell ⟨Wo.heap.size, 6, none⟩ (.slice A8 r.length c8)).cell? ⟨Wo.heap.size, 0, none⟩ = some (.string nm) := blk_cell E13s.out.b 0
          have z1_ : (w13.setCell ⟨Wo.heap.size, 6, none⟩ (.slice A8 r.length c8)).cell? ⟨Wo.heap.size, 1, none⟩ = some (.int .i64 b) := blk_cell E13s.out.b 1
          have z2_ : (w13.setCell ⟨Wo.heap.size, 6, none⟩ (.slice A8 r.length c8)).cell? ⟨Wo.heap.size, 2, none⟩ = some (.int .i64 x2) := blk_cell E13s.out.b 2
          have z3_ : (w13.setCell ⟨Wo.heap.size, 6, none⟩ (.slice A8 r.length c8)).cell? ⟨Wo.heap.size, 3, none⟩ = some (.bool fb) := blk_cell E13s.out.b 3
          have z4_ : (w13.setCell ⟨Wo.heap.size, 6, none⟩ (.slice A8 r.length c8)).cell? ⟨Wo.heap.size, 4, none⟩ = some (.int .i64 x4) := blk_cell E13s.out.b 4
          have z5_ : (w13.setCell ⟨Wo.heap.size, 6, none⟩ (.slice A8 r.length c8)).cell? ⟨Wo.heap.size, 5, none⟩ = some (.slice A5 s.length c5) := blk_cell E13s.out.b 5
          have z6_ : (w13.setCell ⟨Wo.heap.size, 6, none⟩ (.slice A8 r.length c8)).cell? ⟨Wo.heap.size, 6, none⟩ = some (.slice A8 r.length c8) := blk_cell E13s.out.b 6
          have k0_ : (w13.setCell ⟨Wo.heap.size, 6, none⟩ (.slice A8 r.length c8)).cell? ⟨w.heap.size + 1 + 1, 1, none⟩ = some vv := blk_cell R8.out.o 1
          have hLl : L.length ≤ 1000000 := by have := HkL.out; omega
          go_wp2_with (at_builtin; refine app102g (w0 := (w13.setCell ⟨Wo.heap.size, 6, none⟩ (.slice A8 r.length c8))) (w.heap.size + 3) rfl (.tmp 136) (.tmp 138) rfl vv L ⟨nm, b, x2, fb, x4, s, r⟩ A5 c5 A8 c8 (fun k => Wo.heap.size + 1 ≤ k) rfl (by show Value.slice (some ⟨w13.heap.size, 0, none⟩) 1 1 = _; simp) HM.out (fun k hk e => by have h1 := HLT.out k e.symm; have h2 : Wo.heap.size + 1 ≤ k := hk; omega) R8.out.d (Below.refl _ _) R8.out.s hLl ?_; intro v6 w6 hr hb6 hg; obtain ⟨T, hT⟩ : ∃ T, L ++ [⟨nm, b, x2, fb, x4, s, r⟩] = T := ⟨_, rfl⟩; have HT := hid hT; rw [hT] at hr; clear hT; obtain ⟨A6, c6, rfl, _, _⟩ := Kd.R_reads hr; obtain ⟨c6_, g6_, hO⟩ := R8.out.appD hg hb6 hr; have HO := hid hO; clear hr hb6 hg hO q_ g_ z0_ z1_ z2_ z3_ z4_ z5_ z6_ k0_)
          go_roundw
          case rel => exact ⟨k + 1, T, j8, e8, _, by omega, by rw [← HT.out, List.length_append, HkL.out]; rfl, by go_num, hid ⟨HO.out, by rw [← HT.out]; exact HI.out.step hk1 (Fa.bind F1x.out (Fa.bind F3b.out (Fa.bind F4x.out (Fa.bind F5x.out (Fa.bind F6x.out (Fa.bind F7x.out (Fa.bind F8x.out (Fa.bind F10x.out (Fa.bind F13x.out (by rw [HFB.out]; exact Fa.ret _ l e8 j8))))))))))⟩⟩
          case measure => simp [intOf]; omega
        · obtain ⟨hfa, hx⟩ := loop_exit hI.out.2 hk hgo
          have HEX := hid (And.intro hI.out.1 hfa)
          clear hfa hI hgo
          rcases hx with hlt | ⟨hlt, z1⟩
          all_goals
            go_wp2_with fail
            go_meet
            exact ⟨L, jj, ee, vv, HEX⟩
    case rest =>
      obtain ⟨LD, jd_, ed_, vD, hI⟩ := hcut
      have FD := hid hI.out.2
      have RD := hid hI.out.1
      clear hI
      go_wp2_with fail
      refine (count9_c w _ (w.heap.size + 1) A c l jd_ ed_ 64 RD.out.r (by omega)).mono ?_
      rintro e' wc ⟨nn, jN, eN, v, rfl, ⟨rfl, n0_, n1_⟩, hF, hR, hA⟩
      obtain ⟨nN, rfl⟩ : ∃ n : Nat, nn = n := ⟨nn.toNat, by omega⟩
      have RDc := hid (RD.out.call hR hA)
      have FCN := hid hF
      clear hF hR hA RD
      go_upto_block 6 with (fail)
      go_cut [15] (fun _ wx => ∃ (L : List S122) (jj ee : Int) (vv : Value), Hid (RS w wx A c l jj ee vF vD vv LF LD L ∧ Fa ee jj (pE eN (pRep ((nN : Int).toNat) pNote l jN)) L))
      case first =>
        go_wp2_with fail
        go_loopw [15, 16] (fun s15 _ wx => ∃ (k : Nat) (L : List S122) (jj ee : Int) (vv : Value), k ≤ nN ∧ L.length = k ∧ s15 = .int .i64 k ∧ Hid (RS w wx A c l jj ee vF vD vv LF LD L ∧ LoopS pNote nN l jN eN k L jj ee)) (fun s15 _ _ => nN - (intOf s15).toNat)
        case atStart => exact ⟨0, [], jN, eN, _, by omega, rfl, rfl, hid ⟨RDc.out, LoopS.start _ _ _ _ _⟩⟩
        case round =>
          clear RDc
          obtain ⟨k, L, jj, ee, vv, hk, hkL, rfl, hI⟩ := hrel
          have HkL := hid hkL
          clear hkL
          obtain ⟨c0_, c1_, c2_, g1_, g2_⟩ := hI.out.1.r.g.cells
          obtain ⟨Wo, hWo⟩ : ∃ W, W = wr := ⟨_, rfl⟩
          subst hWo
          by_cases hgo : (k : Int) < (nN : Int) ∧ ee = 0
          · obtain ⟨hlt, rfl⟩ := hgo
            have hk1 : k < nN := by omega
            have e3 : IntKind.i64.wrap ((k : Int) + 1) = (k : Int) + 1 := IntWalk.i64_in _ (by omega)
            have HI := hid hI.out.2
            have HR := hid hI.out.1
            have hsz := hI.out.1.s
            have hgG : Wo.heap.size ≠ w.heap.size + 1 := by omega
            have HSZ := hid (show w.heap.size ≤ Wo.heap.size from by omega)
            obtain ⟨X, hX⟩ : ∃ X, X = Wo.alloc (.cells #[.string ⟨#[]⟩, .int .i64 0] 122) := ⟨_, rfl⟩
            have hE := El.start hI.out.1.r #[.string ⟨#[]⟩, .int .i64 0] 122
            rw [← hX] at hE
            have E0 := hid hE
            have HX := hid hX
            have HLT := hid (Kd.R_lt hI.out.1.n)
            have HGN := hid hgG
            clear hI hE hX hgG
            go_wp2_with fail
            try rw [← HX.out]
            refine (name9_c w _ (w.heap.size + 1) A c l jj 0 E0.out.r).mono ?_
            rintro e' w1 ⟨nm, ja, a1, v, rfl, ⟨rfl, nms⟩, hF, hR, hA⟩
            have E1 := hid (E0.out.call HGN.out hR hA)
            have F1x := hid hF
            have q_ := blk_cell E1.out.b 0
            have g_ := blk_frozen E1.out.b 0
            have E1s := hid (E1.out.set HSZ.out (Ne.symm HGN.out) 0 (.string nm) _ rfl)
            obtain ⟨Y1, hY1⟩ : ∃ X, X = w1.setCell ⟨Wo.heap.size, 0, none⟩ (.string nm) := ⟨_, rfl⟩
            have hc_ : (w1.setCell ⟨Wo.heap.size, 0, none⟩ (.string nm)).cell? ⟨Wo.heap.size, 0, none⟩ = some (.string nm) := blk_cell E1s.out.b 0
            rw [← hY1] at E1s 
            have HY1 := hid hY1
            clear hF hR hA hY1 E0 E1 c0_ c1_ c2_ g1_ g2_
            go_wp2_with fail
            try rw [← HY1.out]
            refine (num9_c w _ (w.heap.size + 1) A c l ja a1 1 E1s.out.r (by omega) (by omega)).mono ?_
            rintro e' w2 ⟨b, jb, a2, v, rfl, ⟨rfl, b0, b1⟩, hF, hR, hA⟩
            have E2 := hid (E1s.out.call HGN.out hR hA)
            have F2x := hid hF
            clear q_ g_ hc_
            have q_ := blk_cell E2.out.b 1
            have g_ := blk_frozen E2.out.b 1
            have E2s := hid (E2.out.set HSZ.out (Ne.symm HGN.out) 1 (.int .i64 b) _ rfl)
            clear hF hR hA E1s E2
            have R8 := hid (HR.out.up E2s.out.r E2s.out.u)
            have HM := hid (M_own (b := w.heap.size + 3) (k122_mkM (w2.setCell ⟨Wo.heap.size, 1, none⟩ (.int .i64 b)) (Wo.heap.size + 1) (fun _ => True) ⟨nm, b⟩) (by omega))
            have z0_ : (w2.setCell ⟨Wo.heap.size, 1, none⟩ (.int .i64 b)).cell? ⟨Wo.heap.size, 0, none⟩ = some (.string nm) := blk_cell E2s.out.b 0
            have z1_ : (w2.setCell ⟨Wo.heap.size, 1, none⟩ (.int .i64 b)).cell? ⟨Wo.heap.size, 1, none⟩ = some (.int .i64 b) := blk_cell E2s.out.b 1
            have k0_ : (w2.setCell ⟨Wo.heap.size, 1, none⟩ (.int .i64 b)).cell? ⟨w.heap.size + 1 + 1, 2, none⟩ = some vv := blk_cell R8.out.o 2
            have hLl : L.length ≤ 1000000 := by have := HkL.out; omega
            go_wp2_with (at_builtin; refine app122g (w0 := (w2.setCell ⟨Wo.heap.size, 1, none⟩ (.int .i64 b))) (w.heap.size + 3) rfl (.tmp 163) (.tmp 165) rfl vv L ⟨nm, b⟩ (fun k => Wo.heap.size + 1 ≤ k) rfl (by show Value.slice (some ⟨w2.heap.size, 0, none⟩) 1 1 = _; simp) HM.out (fun k hk e => by have h1 := HLT.out k e.symm; have h2 : Wo.heap.size + 1 ≤ k := hk; omega) R8.out.n (Below.refl _ _) R8.out.s hLl ?_; intro v6 w6 hr hb6 hg; obtain ⟨T, hT⟩ : ∃ T, L ++ [⟨nm, b⟩] = T := ⟨_, rfl⟩; have HT := hid hT; rw [hT] at hr; clear hT; obtain ⟨A6, c6, rfl, _, _⟩ := Kd.R_reads hr; obtain ⟨c6_, g6_, hO⟩ := R8.out.appN hg hb6 hr; have HO := hid hO; clear hr hb6 hg hO q_ g_ z0_ z1_ k0_)
            go_roundw
            case rel => exact ⟨k + 1, T, jb, a2, _, by omega, by rw [← HT.out, List.length_append, HkL.out]; rfl, by go_num, hid ⟨HO.out, by rw [← HT.out]; exact HI.out.step hk1 (Fa.bind F1x.out (Fa.bind F2x.out (Fa.ret _ l a2 jb)))⟩⟩
            case measure => simp [intOf]; omega
          · obtain ⟨hfa, hx⟩ := loop_exit hI.out.2 hk hgo
            have HEX := hid (And.intro hI.out.1 hfa)
            clear hfa hI hgo
            rcases hx with hlt | ⟨hlt, z1⟩
            all_goals
              go_wp2_with fail
              go_meet
              exact ⟨L, jj, ee, vv, HEX⟩
      case rest =>
        obtain ⟨LN, jj, ee, vN, hI⟩ := hcut
        have FN_ := hid hI.out.2
        have RN := hid hI.out.1
        clear hI
        have HOBJ := hid (show Fa ee jj (pE 0 (pObj l 0)) (LF, LD, LN) from Fa.bind F1.out (Fa.bind F2.out (Fa.bind F3.out (Fa.bind FF.out (Fa.bind FCD.out (Fa.bind FD.out (Fa.bind FCN.out (Fa.bind FN_.out (Fa.ret _ l ee jj)))))))))
        obtain ⟨A0, d0, rfl, _, _⟩ := Kd.R_reads RN.out.f
        obtain ⟨A1_, d1, rfl, _, _⟩ := Kd.R_reads RN.out.d
        obtain ⟨A2, d2, rfl, _, _⟩ := Kd.R_reads RN.out.n
        obtain ⟨c0_, c1_, c2_, g1_, g2_⟩ := RN.out.r.g.cells
        have z0_ : wc.cell? ⟨w.heap.size, 0, none⟩ = some (.slice none 0 0) := blk_cell RN.out.z 0
        have z1_ : wc.cell? ⟨w.heap.size, 1, none⟩ = some (.slice none 0 0) := blk_cell RN.out.z 1
        have z2_ : wc.cell? ⟨w.heap.size, 2, none⟩ = some (.slice none 0 0) := blk_cell RN.out.z 2
        have y0_ := blk_frozen RN.out.z 0
        have y1_ := blk_frozen RN.out.z 1
        have y2_ := blk_frozen RN.out.z 2
        by_cases z : ee = 0
        · subst z
          by_cases hcut : jj < (l.length : Int)
          · have HE := hid (show readO l = .error 2 from by
              obtain ⟨_, hp⟩ := HOBJ.out.good rfl
              rw [readO_ok hp, if_pos hcut])
            have hR := RN.out.r.next (Aft.setG (w.heap.size + 1) wc 2 (.int .i64 2)) (blk_put RN.out.r.g 2 (.int .i64 2) rfl) RN.out.r.i0 RN.out.r.i1
            have hz := blk_far RN.out.z (p := ⟨w.heap.size + 1, 2, none⟩) (show w.heap.size ≠ w.heap.size + 1 from by omega) (.int .i64 2)
            go_wp2
            obtain ⟨V, hV⟩ : ∃ V, V = wc.setCell ⟨w.heap.size + 1, 2, none⟩ (.int .i64 2) := ⟨_, rfl⟩
            rw [← hV] at hR hz ⊢
            have HV := hid (And.intro hR hz)
            clear hR hz hV z0_ z1_ z2_ y0_ y1_ y2_ c0_ c1_ c2_ g1_ g2_
            have z0_ : V.cell? ⟨w.heap.size, 0, none⟩ = some (.slice none 0 0) := blk_cell HV.out.2 0
            have z1_ : V.cell? ⟨w.heap.size, 1, none⟩ = some (.slice none 0 0) := blk_cell HV.out.2 1
            have z2_ : V.cell? ⟨w.heap.size, 2, none⟩ = some (.slice none 0 0) := blk_cell HV.out.2 2
            have y0_ := blk_frozen HV.out.2 0
            have y1_ := blk_frozen HV.out.2 1
            have y2_ := blk_frozen HV.out.2 2
            have HG3 := hid (show (((V.drew.setCell ⟨w.heap.size, 0, none⟩ (.slice none 0 0)).setCell ⟨w.heap.size, 1, none⟩ (.slice none 0 0)).setCell ⟨w.heap.size, 2, none⟩ (.slice none 0 0)).heap[w.heap.size + 1]? = some (.cells #[.slice A l.length c, .int .i64 jj, .int .i64 2] 139 (0, 0)) from blk_far (p := ⟨w.heap.size, 2, none⟩) (blk_far (p := ⟨w.heap.size, 1, none⟩) (blk_far (p := ⟨w.heap.size, 0, none⟩) (w := V.drew) HV.out.1.g (show w.heap.size + 1 ≠ w.heap.size by omega) _) (show w.heap.size + 1 ≠ w.heap.size by omega) _) (show w.heap.size + 1 ≠ w.heap.size by omega) _)
            refine start_ (n := 7) (S := fun W => W.cell? ⟨w.heap.size + 1, 2, none⟩ = some (.int .i64 2)) (ds := []) #[false, false, false, false, false, false, false] (by kernel_rfl) rfl rfl (blk_cell HV.out.1.g 2) (fun hHeld => ?_)
            refine pure_ (i := 0) (N := (some 190)) (v := ?_) (a' := ?_) #[true, false, false, false, false, false, false] rfl rfl (by kernel_rfl) (fun _ _ _ h => h) (Or.inl ⟨by rfl, ?_⟩) ?_ ?_
            rotate_left
            · intro w'
              go_simp
              with_reducible rfl
            rotate_left
            · simp only [Act.put, List.setIfInBounds_toArray, List.set_cons_zero, List.set_cons_succ, i64_w]
              rfl
            refine pure_ (i := 1) (N := (some 191)) (v := ?_) (a' := ?_) #[true, true, false, false, false, false, false] rfl rfl (by kernel_rfl) (fun _ _ _ h => h) (Or.inl ⟨by rfl, ?_⟩) ?_ ?_
            rotate_left
            · intro w'
              go_simp
              with_reducible rfl
            rotate_left
            · simp only [Act.put, List.setIfInBounds_toArray, List.set_cons_zero, List.set_cons_succ, i64_w]
              rfl
            refine pure_ (i := 2) (N := (some 192)) (v := ?_) (a' := ?_) #[true, true, true, false, false, false, false] rfl rfl (by kernel_rfl) (fun _ _ _ h => h) (Or.inl ⟨by rfl, ?_⟩) ?_ ?_
            rotate_left
            · intro w'
              go_simp
              with_reducible rfl
            rotate_left
            · simp only [Act.put, List.setIfInBounds_toArray, List.set_cons_zero, List.set_cons_succ, i64_w]
              rfl
            refine pure_ (i := 3) (N := (some 193)) (v := ?_) (a' := ?_) #[true, true, true, true, false, false, false] rfl rfl (by kernel_rfl) (fun _ _ _ h => h) (Or.inl ⟨by rfl, ?_⟩) ?_ ?_
            rotate_left
            · intro w'
              go_simp
              with_reducible rfl
            rotate_left
            · simp only [Act.put, List.setIfInBounds_toArray, List.set_cons_zero, List.set_cons_succ, i64_w]
              rfl
            refine take_ (i := 4) (N := (some 194)) (v := ?_) (a' := ?_) #[true, true, true, true, true, false, false] rfl rfl (by kernel_rfl) (fun _ _ _ h => h) (Or.inl ⟨by rfl, ?_⟩) hHeld ?_ ?_
            rotate_left
            · rintro w' s0
              go_simp
              with_reducible rfl
            rotate_left
            · simp only [Act.put, List.setIfInBounds_toArray, List.set_cons_zero, List.set_cons_succ, i64_w]
              rfl
            refine one_ (i := 5) (N := none) #[true, true, true, true, true, true, false] rfl rfl (by kernel_rfl) (by decide) (fun K hK => ?_)
            go_simp
            refine hK.out _ _ (blk_cell (HG3.out) 2) (fun hHeld => ?_)
            clear hK K
            refine pure_ (i := 6) (N := (some 3)) (v := ?_) (a' := ?_) #[true, true, true, true, true, true, true] rfl rfl (by kernel_rfl) (fun _ _ _ h => h) (Or.inl ⟨by rfl, ?_⟩) ?_ ?_
            rotate_left
            · intro w'
              go_simp
              with_reducible rfl
            rotate_left
            · simp only [Act.put, List.setIfInBounds_toArray, List.set_cons_zero, List.set_cons_succ, i64_w]
              rfl
            refine done_ (by kernel_rfl) ?_
            go_wp2
            refine bodyPost_ret (results_ct rfl _ _ w.heap.size 91 #[.slice none 0 0, .slice none 0 0, .slice none 0 0] (0, 0) _ rfl (put3 (w := V.drew) HV.out.2 _ _ _) Try.underlying91 rfl (by kernel_rfl)) rfl ?_
            exact ⟨[], [], [], none, none, none, 0, 0, 0, 2, rfl, CO_of (b0 := 0) (Kd.R_nil _ _ _ _ _) (Kd.R_nil _ _ _ _ _) (Kd.R_nil _ _ _ _ _), below3 (w4 := V.drew) HV.out.1.b.drew (Nat.le_refl _) _ _ _, .inl ⟨by decide, HE.out, rfl, rfl, rfl⟩⟩
          · have HE := hid (show readO l = .ok (LF, LD, LN) from by
              obtain ⟨_, hp⟩ := HOBJ.out.good rfl
              rw [readO_ok hp, if_neg hcut])
            have x0_ : wc.cell? ⟨w.heap.size + 1 + 1, 0, none⟩ = some (.slice A0 LF.length d0) := blk_cell RN.out.o 0
            have x1_ : wc.cell? ⟨w.heap.size + 1 + 1, 1, none⟩ = some (.slice A1_ LD.length d1) := blk_cell RN.out.o 1
            have x2_ : wc.cell? ⟨w.heap.size + 1 + 1, 2, none⟩ = some (.slice A2 LN.length d2) := blk_cell RN.out.o 2
            go_wp2
            refine bodyPost_ret (results_ct rfl _ _ w.heap.size 91 #[.slice A0 LF.length d0, .slice A1_ LD.length d1, .slice A2 LN.length d2] (0, 0) _ rfl (put3 RN.out.z _ _ _) Try.underlying91 rfl (by kernel_rfl)) rfl ?_
            have f1 := R_low (R_low (R_low RN.out.f (show w.heap.size < w.heap.size + 3 by omega) 0 (.slice A0 LF.length d0)) (show w.heap.size < w.heap.size + 3 by omega) 1 (.slice A1_ LD.length d1)) (show w.heap.size < w.heap.size + 3 by omega) 2 (.slice A2 LN.length d2)
            have f2 := R_low (R_low (R_low RN.out.d (show w.heap.size < w.heap.size + 3 by omega) 0 (.slice A0 LF.length d0)) (show w.heap.size < w.heap.size + 3 by omega) 1 (.slice A1_ LD.length d1)) (show w.heap.size < w.heap.size + 3 by omega) 2 (.slice A2 LN.length d2)
            have f3 := R_low (R_low (R_low RN.out.n (show w.heap.size < w.heap.size + 3 by omega) 0 (.slice A0 LF.length d0)) (show w.heap.size < w.heap.size + 3 by omega) 1 (.slice A1_ LD.length d1)) (show w.heap.size < w.heap.size + 3 by omega) 2 (.slice A2 LN.length d2)
            exact ⟨LF, LD, LN, A0, A1_, A2, d0, d1, d2, 0, rfl, CO_of f1 f2 f3, below3 RN.out.r.b (Nat.le_refl _) _ _ _, .inr ⟨rfl, HE.out⟩⟩
        · have zb1 : (ee == 0) = false := beq_eq_false_iff_ne.2 z
          have zb2 : (ee != 0) = true := bne_iff_ne.2 z
          have HE := hid (show readO l = .error ee from readO_err (by have := HOBJ.out.err z; unfold pE at this; rw [if_pos rfl] at this; exact this))
          have HZ := hid z
          clear z
          go_wp2
          have HV := hid (And.intro RN.out.r RN.out.z)
          clear z0_ z1_ z2_ y0_ y1_ y2_ c0_ c1_ c2_ g1_ g2_
          have z0_ : wc.cell? ⟨w.heap.size, 0, none⟩ = some (.slice none 0 0) := blk_cell HV.out.2 0
          have z1_ : wc.cell? ⟨w.heap.size, 1, none⟩ = some (.slice none 0 0) := blk_cell HV.out.2 1
          have z2_ : wc.cell? ⟨w.heap.size, 2, none⟩ = some (.slice none 0 0) := blk_cell HV.out.2 2
          have y0_ := blk_frozen HV.out.2 0
          have y1_ := blk_frozen HV.out.2 1
          have y2_ := blk_frozen HV.out.2 2
          have HG3 := hid (show (((wc.drew.setCell ⟨w.heap.size, 0, none⟩ (.slice none 0 0)).setCell ⟨w.heap.size, 1, none⟩ (.slice none 0 0)).setCell ⟨w.heap.size, 2, none⟩ (.slice none 0 0)).heap[w.heap.size + 1]? = some (.cells #[.slice A l.length c, .int .i64 jj, .int .i64 ee] 139 (0, 0)) from blk_far (p := ⟨w.heap.size, 2, none⟩) (blk_far (p := ⟨w.heap.size, 1, none⟩) (blk_far (p := ⟨w.heap.size, 0, none⟩) (w := wc.drew) HV.out.1.g (show w.heap.size + 1 ≠ w.heap.size by omega) _) (show w.heap.size + 1 ≠ w.heap.size by omega) _) (show w.heap.size + 1 ≠ w.heap.size by omega) _)
          refine start_ (n := 7) (S := fun W => W.cell? ⟨w.heap.size + 1, 2, none⟩ = some (.int .i64 ee)) (ds := []) #[false, false, false, false, false, false, false] (by kernel_rfl) rfl rfl (blk_cell HV.out.1.g 2) (fun hHeld => ?_)
          refine pure_ (i := 0) (N := (some 190)) (v := ?_) (a' := ?_) #[true, false, false, false, false, false, false] rfl rfl (by kernel_rfl) (fun _ _ _ h => h) (Or.inl ⟨by rfl, ?_⟩) ?_ ?_
          rotate_left
          · intro w'
            go_simp
            with_reducible rfl
          rotate_left
          · simp only [Act.put, List.setIfInBounds_toArray, List.set_cons_zero, List.set_cons_succ, i64_w]
            rfl
          refine pure_ (i := 1) (N := (some 191)) (v := ?_) (a' := ?_) #[true, true, false, false, false, false, false] rfl rfl (by kernel_rfl) (fun _ _ _ h => h) (Or.inl ⟨by rfl, ?_⟩) ?_ ?_
          rotate_left
          · intro w'
            go_simp
            with_reducible rfl
          rotate_left
          · simp only [Act.put, List.setIfInBounds_toArray, List.set_cons_zero, List.set_cons_succ, i64_w]
            rfl
          refine pure_ (i := 2) (N := (some 192)) (v := ?_) (a' := ?_) #[true, true, true, false, false, false, false] rfl rfl (by kernel_rfl) (fun _ _ _ h => h) (Or.inl ⟨by rfl, ?_⟩) ?_ ?_
          rotate_left
          · intro w'
            go_simp
            with_reducible rfl
          rotate_left
          · simp only [Act.put, List.setIfInBounds_toArray, List.set_cons_zero, List.set_cons_succ, i64_w]
            rfl
          refine pure_ (i := 3) (N := (some 193)) (v := ?_) (a' := ?_) #[true, true, true, true, false, false, false] rfl rfl (by kernel_rfl) (fun _ _ _ h => h) (Or.inl ⟨by rfl, ?_⟩) ?_ ?_
          rotate_left
          · intro w'
            go_simp
            with_reducible rfl
          rotate_left
          · simp only [Act.put, List.setIfInBounds_toArray, List.set_cons_zero, List.set_cons_succ, i64_w]
            rfl
          refine take_ (i := 4) (N := (some 194)) (v := ?_) (a' := ?_) #[true, true, true, true, true, false, false] rfl rfl (by kernel_rfl) (fun _ _ _ h => h) (Or.inl ⟨by rfl, ?_⟩) hHeld ?_ ?_
          rotate_left
          · rintro w' s0
            go_simp
            with_reducible rfl
          rotate_left
          · simp only [Act.put, List.setIfInBounds_toArray, List.set_cons_zero, List.set_cons_succ, i64_w]
            rfl
          refine one_ (i := 5) (N := none) #[true, true, true, true, true, true, false] rfl rfl (by kernel_rfl) (by decide) (fun K hK => ?_)
          go_simp
          refine hK.out _ _ (blk_cell (HG3.out) 2) (fun hHeld => ?_)
          clear hK K
          refine pure_ (i := 6) (N := (some 3)) (v := ?_) (a' := ?_) #[true, true, true, true, true, true, true] rfl rfl (by kernel_rfl) (fun _ _ _ h => h) (Or.inl ⟨by rfl, ?_⟩) ?_ ?_
          rotate_left
          · intro w'
            go_simp
            with_reducible rfl
          rotate_left
          · simp only [Act.put, List.setIfInBounds_toArray, List.set_cons_zero, List.set_cons_succ, i64_w]
            rfl
          refine done_ (by kernel_rfl) ?_
          go_wp2
          refine bodyPost_ret (results_ct rfl _ _ w.heap.size 91 #[.slice none 0 0, .slice none 0 0, .slice none 0 0] (0, 0) _ rfl (put3 (w := wc.drew) HV.out.2 _ _ _) Try.underlying91 rfl (by kernel_rfl)) rfl ?_
          exact ⟨[], [], [], none, none, none, 0, 0, 0, ee, rfl, CO_of (b0 := 0) (Kd.R_nil _ _ _ _ _) (Kd.R_nil _ _ _ _ _) (Kd.R_nil _ _ _ _ _), below3 (w4 := wc.drew) HV.out.1.b.drew (Nat.le_refl _) _ _ _, .inl ⟨HZ.out, HE.out, rfl, rfl, rfl⟩⟩
end Go.Proofs.Ytmcfihpbiilbcaa.H
end
section
namespace Go.Proofs.Ytmcfihpbiilbcaa.H
open Go.RowKit Go.Proofs.YtmcfihpbiilbcaaW.PrintWords Go.Proofs.YtmcfihpbiilbcaaW.PrintLast Go.Proofs.YtmcfihpbiilbcaaW.PrintMore Go.Proofs.Ytmcfihpbiilbcaa.E
set_option linter.unusedVariables false
set_option linter.unusedSimpArgs false
theorem oread9_c (A : Option Addr) (c : Nat) (l : List Int) (w : World) (hC : CB w A l) (hc : l.length ≤ c) (hby : Bytes l) (hl : l.length ≤ 140737488351232) :
    Calls Try.prog 73 #[.slice A l.length c] w (RRPost w l) := by
  cases hE : readO l with
  | error y =>
    refine (oread_err A c l w y hC hc hby hl hE).mono ?_
    rintro e w' ⟨rfl, hb⟩
    exact ⟨[], [], [], none, none, none, 0, 0, 0, y, rfl, CO_of (b0 := 0) (Kd.R_nil _ _ _ _ _) (Kd.R_nil _ _ _ _ _) (Kd.R_nil _ _ _ _ _), hb, .inl ⟨by have := readO_code hE; omega, hE, rfl, rfl, rfl⟩⟩
  | ok o =>
    refine (oread_ok A c l w o hC hc hby hl hE).mono ?_
    rintro e w' ⟨A0, A1, A2, c0, c1, c2, rfl, h0, h1, h2, hb⟩
    exact ⟨o.1, o.2.1, o.2.2, A0, A1, A2, c0, c1, c2, 0, rfl, CO_of h0 h1 h2, hb, .inr ⟨rfl, hE⟩⟩
theorem RR_OB {l : List Int} (hby : Bytes l) {F : List S124} {D : List S102} {N : List S122} {y : Int} (h : (y ≠ 0 ∧ readO l = .error y ∧ F = [] ∧ D = [] ∧ N = []) ∨ (y = 0 ∧ readO l = .ok (F, D, N))) : OB F D N := by
  rcases h with ⟨_, _, rfl, rfl, rfl⟩ | ⟨_, hr⟩
  · exact ⟨by simp, by simp, by simp, by simp, by simp⟩
  · exact objB_OB (readO_back hby hr).2.1
theorem RR_same {l : List Int} {F F' : List S124} {D D' : List S102} {N N' : List S122} {y y' : Int} (h : (y ≠ 0 ∧ readO l = .error y ∧ F = [] ∧ D = [] ∧ N = []) ∨ (y = 0 ∧ readO l = .ok (F, D, N))) (k : (y' ≠ 0 ∧ readO l = .error y' ∧ F' = [] ∧ D' = [] ∧ N' = []) ∨ (y' = 0 ∧ readO l = .ok (F', D', N'))) : y = y' ∧ F = F' ∧ D = D' ∧ N = N' := by
  rcases h with ⟨a, b, rfl, rfl, rfl⟩ | ⟨a, b⟩ <;> rcases k with ⟨a', b', rfl, rfl, rfl⟩ | ⟨a', b'⟩ <;> rw [b] at b' <;> cases b'
  · exact ⟨rfl, rfl, rfl, rfl⟩
  · exact ⟨by rw [a, a'], rfl, rfl, rfl⟩
set_option maxRecDepth 100000 in
set_option maxHeartbeats 4000000 in
theorem oreads_1 (P : Option Addr) (p : Nat) (l : List Int) (w : World) (hl : CB w P l) (hp : l.length ≤ p) (hby : Bytes l) (h2 : 20000 < (l.length : Int)) :
    Calls Try.prog 19 #[.slice P l.length p] w fun e w' => e = .returned (.bool true) ∧ Below w.heap.size w w' := by
  have HL := hid hl
  have HY := hid hby
  clear hl hby
  go_enter Try.func19, Try.ntmps19
  go_wp2_with fail
  refine (awake9_c _).mono ?_
  rintro e w1 ⟨rfl, hb⟩
  have H1 := hid (show Below w.heap.size w w1 from hb)
  clear hb
  go_wp2_with fail
  refine (awake9_c _).mono ?_
  rintro e w2 ⟨rfl, hb⟩
  have H2 := hid (below_step H1.out hb)
  clear hb
  go_wp2
  go_ret
  exact ⟨rfl, H2.out⟩
set_option maxRecDepth 100000 in
set_option maxHeartbeats 4000000 in
theorem oreads_2 (P : Option Addr) (p : Nat) (l : List Int) (w : World) (hl : CB w P l) (hp : l.length ≤ p) (hby : Bytes l) (h2 : ¬ 20000 < (l.length : Int)) :
    Calls Try.prog 19 #[.slice P l.length p] w fun e w' => e = .returned (.bool true) ∧ Below w.heap.size w w' := by
  have HL := hid hl
  have HY := hid hby
  clear hl hby
  go_enter Try.func19, Try.ntmps19
  go_wp2_with fail
  refine (awake9_c _).mono ?_
  rintro e w1 ⟨rfl, hb⟩
  have H1 := hid (show Below w.heap.size w w1 from hb)
  clear hb
  go_wp2_with fail
  refine (oread9_c P p l w1 (Kd.C_below HL.out H1.out) hp HY.out (by omega)).mono ?_
  rintro e w2 ⟨F, D, N, A0, A1, A2, c0, c1, c2, y, rfl, hco, hb, hq⟩
  obtain ⟨X, hX⟩ : ∃ W, W = w2.alloc (.cells #[.slice A0 F.length c0, .slice A1 D.length c1, .slice A2 N.length c2] 91) := ⟨_, rfl⟩
  have n2 := blk_new w2 (.cells #[.slice A0 F.length c0, .slice A1 D.length c1, .slice A2 N.length c2] 91)
  have hB := below_alloc (below_step H1.out hb) (.cells #[.slice A0 F.length c0, .slice A1 D.length c1, .slice A2 N.length c2] 91)
  have hB' := below_alloc (Below.refl w2.heap.size w2) (.cells #[.slice A0 F.length c0, .slice A1 D.length c1, .slice A2 N.length c2] 91)
  rw [← hX] at n2 hB hB'
  have H2 := hid (And.intro hB (And.intro n2 (hco.below hB')))
  have HQ := hid hq
  have HX := hid hX
  clear hco hb hq hX n2 hB hB'
  go_wp2_with fail
  try rw [← HX.out]
  refine (rread9_c P p l X (Kd.C_below HL.out H2.out.1) hp HY.out (by omega)).mono ?_
  rintro e w3 ⟨F', D', N', B0, B1, B2, d0, d1, d2, y', rfl, hco, hb, hq⟩
  obtain ⟨rfl, rfl, rfl, rfl⟩ := RR_same HQ.out hq
  obtain ⟨Y, hY⟩ : ∃ W, W = w3.alloc (.cells #[.slice B0 F.length d0, .slice B1 D.length d1, .slice B2 N.length d2] 91) := ⟨_, rfl⟩
  have n3 := blk_new w3 (.cells #[.slice B0 F.length d0, .slice B1 D.length d1, .slice B2 N.length d2] 91)
  have hB := below_alloc hb (.cells #[.slice B0 F.length d0, .slice B1 D.length d1, .slice B2 N.length d2] 91)
  have hB' := below_alloc (Below.refl w3.heap.size w3) (.cells #[.slice B0 F.length d0, .slice B1 D.length d1, .slice B2 N.length d2] 91)
  rw [← hY] at n3 hB hB'
  obtain ⟨k0_, k1_, k2_⟩ := k3_of (blk_below H2.out.2.1 hB)
  obtain ⟨l0_, l1_, l2_⟩ := k3_of n3
  have H3 := hid (And.intro (below_step H2.out.1 hB) (And.intro (H2.out.2.2.below hB) (hco.below hB')))
  have HOB := hid (RR_OB HY.out HQ.out)
  have HY3 := hid hY
  rw [hY] at k0_ k1_ k2_ l0_ l1_ l2_
  clear hco hb hq hY n3 hB hB'
  go_wp2_with fail
  try rw [← HY3.out]
  refine (refSame9_c A0 A1 A2 B0 B1 B2 c0 c1 c2 d0 d1 d2 F F D D N N Y H3.out.2.1 H3.out.2.2 HOB.out).mono ?_
  rintro e w4 ⟨rfl, hb⟩
  rw [decide_eq_true (show F = F ∧ D = D ∧ N = N from ⟨rfl, rfl, rfl⟩)]
  have H4 := hid (below_step H3.out.1 hb)
  clear hb k0_ k1_ k2_ l0_ l1_ l2_
  go_wp2
  go_ret
  exact ⟨rfl, H4.out⟩
theorem oreads_c (P : Option Addr) (p : Nat) (l : List Int) (w : World) (hl : CB w P l) (hp : l.length ≤ p) (hby : Bytes l) :
    Calls Try.prog 19 #[.slice P l.length p] w fun e w' => e = .returned (.bool true) ∧ Below w.heap.size w w' := by
  by_cases h2 : 20000 < (l.length : Int)
  · exact oreads_1 P p l w hl hp hby h2
  · exact oreads_2 P p l w hl hp hby h2
end Go.Proofs.Ytmcfihpbiilbcaa.H
end
