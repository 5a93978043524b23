/- image.Read's reader: its walk. -/
import Derived.Test.YtmcfihpbiilbcaaImgD
namespace Go.Proofs.Ytmcfihpbiilbcaa.H
open Go.RowKit Go.Proofs.YtmcfihpbiilbcaaW.PrintWords Go.Proofs.YtmcfihpbiilbcaaW.PrintLast Go.Proofs.YtmcfihpbiilbcaaW.PrintMore Go.Proofs.Ytmcfihpbiilbcaa.E
set_option linter.unusedVariables false
set_option linter.unusedSimpArgs false
theorem enter_90 (args : Array Value) (w : World) : (callFunc 90 args).run Try.prog w = .ok (.enter 90 args) w := Go.MuLone.run_callFunc_enter Try.func90 (by kernel_rfl) rfl args w
theorem magic_q (l : List Int) (h : Bytes l) : ((strOfNums (mid l 0 4)).toList == [83, 80, 88, 49]) = magicB l := by
  have q := strEq (mid l 0 4) [83, 80, 88, 49] (h.mid 0 4) (by intro x hx; simp at hx; omega)
  have e : (strOfNums [83, 80, 88, 49]).toList = [83, 80, 88, 49] := by rw [Lib.strOfNums_toList]; rfl
  rw [e] at q
  exact q
theorem info36 : (Try.prog.info? 36).map (fun i => (i.zero, i.size, i.bytes)) = some (some (.int .u32 0), 1, 4) := by kernel_rfl
theorem St.base {w : World} {B N n0 : Nat} {t : TypeId} {wc : World} {l : List Int} {i : Int} {cs : Array Value} (h : St w B N n0 t wc l i cs) : n0 ≤ wc.heap.size := by
  have := blk_lt h.errno
  have := h.lt
  have := h.le
  omega
theorem St.scb {w : World} {B N n0 : Nat} {t : TypeId} {wc : World} {l : List Int} {i : Int} {cs : Array Value} (h : St w B N n0 t wc l i cs) : wc.heap[B]? = some (.cells #[h.sc.choose, .int .i64 i] 106 (0, 0)) := h.sc.choose_spec.1
/-- A call that dies. -/
theorem dies_ {ops : Array Oper} {Q : Exit → Act → World → Prop} {oi : Oper} {N : Option Tmp} {a : Act} {w : World} {K : Act → World → Prop} {f : FuncId} {fn : Func} {as_ : Array Operand} {ts : Array TypeId} (hf : Try.prog.funcs[f]? = some fn) (hname : (fn.name == "runtime.NumGoroutine") = false) (hb : fn.body.isSome = true) (args : Array Value)
    (hw : Region.wanted oi (yielded ops a.tmps) = true) (hN : oi.dst = N) (hop : oi.op = .call { callee := .value (.func f), args := as_, argTypes := ts }) (hargs : as_.map a.eval = args)
    (h : Calls Try.prog f args w fun e w' => ∃ c, e = .panicked c ∧ Q (.panic c) a w') : if Region.wanted oi (yielded ops a.tmps) = true then Oper.wp Try.prog oi a w K Q else K (a.put N undef) w := by
  rw [if_pos hw]
  have he := enters_ hf hname hb args w
  have hrun : (execOp a.eval oi).run Try.prog w = .ok (.enter f args) w := by
    unfold execOp
    simp [hop, resolve, Deferred.ofValue, invoke, Act.eval, hargs, he]
  unfold Oper.wp
  rw [hrun, Oper.upon_enter]
  refine h.mono fun e w'' hh => ?_
  obtain ⟨c, rfl, hk⟩ := hh
  exact hk
/-- An exit by a failure. -/
theorem ImgPost.fail {w w2 : World} {B N n0 : Nat} {l : List Int} {x : Int} (h : w2.heap[w.heap.size]? = some (.cells #[.int .i64 0] 25 (0, 0)) ∧ Below n0 w w2) (hx : x = readE l) (h0 : x ≠ 0) : ReadPost w l B (ImgPost w N n0 l) (.panicked (fail_ x)) w2 :=
  .inr ⟨x, rfl, h.1, hx, h.2, h.1, fun e => absurd e h0⟩
set_option maxRecDepth 100000 in
set_option maxHeartbeats 2000000 in
theorem read90 (w w1 : World) (B N n0 : Nat) (l : List Int) (hF : Fresh w w1 B l) (hN : w.heap[N]? = some (.cells #[.slice none 0 0, .int .i64 0, .slice none 0 0, .int .i64 0, .int .i64 0] 60 (0, 0))) (hle : n0 ≤ N) (hby : Bytes l) (hl : l.length ≤ 140737488351232) :
    Calls Try.prog 90 (#[.pointer (some ⟨B, 0, none⟩)] ++ #[.pointer (some ⟨N, 0, none⟩)]) w1 (ReadPost w l B (ImgPost w N n0 l)) := by
  have HS := hid (St.start (t := 60) hF hN hle)
  clear hF hN
  by_cases a0 : (l.length : Int) < 4
  · have hE := hid (readE_cut1 l a0)
    go_enter Try.func90, Try.ntmps90
    go_wp2_with fail
    refine (bytes_no B l 0 4 _ HS.out.sc (Int.le_refl 0) (by omega) hl (by omega)).mono ?_
    rintro e w2 ⟨rfl, hd⟩
    exact ⟨rfl, ImgPost.fail (HS.out.fail (Aft.drawn hd)) hE.out.symm (by decide)⟩
  go_enter Try.func90, Try.ntmps90
  go_wp2_with fail
  refine (bytes_c B l 0 4 _ HS.out.sc (Int.le_refl 0) (by omega) (by omega) hl).mono ?_
  rintro e w2 ⟨v, rfl, hR, hw⟩
  rw [Int.zero_add] at hw
  obtain ⟨A2, c2, rfl, hc2, hC2⟩ := Kd.R_reads hR
  have hstr := Kd.C_string (c := c2) Try.underlying22 Try.underlying5 Try.underlying9 hC2
  have H2 := hid (HS.out.scan hw)
  clear hw hR hC2 HS
  cases hM : magicB l
  · have hE := hid (readE_magic l (by omega) hM)
    go_wp2_with fail
    rw [magic_q l hby, hM]
    refine (must_no _ _).mono ?_
    rintro e w3 ⟨rfl, rfl⟩
    exact ⟨rfl, ImgPost.fail (H2.out.fail (Aft.drawn (Drawn0.refl _))) hE.out.symm (by decide)⟩
  have HMg := hid hM
  go_wp2_with fail
  rw [magic_q l hby, hM]
  refine (must_c _ _).mono ?_
  rintro e w3 ⟨rfl, rfl⟩
  clear hM
  have r0 := N4_range hby 4
  by_cases a1 : (l.length : Int) < 8
  · have hE := hid (readE_cut2 l HMg.out (by omega) a1)
    go_wp2_with fail
    refine (icount_cut B l 4 65536 _ H2.out.sc (by omega) (by omega) (by omega) hl).mono ?_
    rintro e w4 ⟨rfl, hd⟩
    exact ⟨rfl, ImgPost.fail (H2.out.fail hd) hE.out.symm (by decide)⟩
  by_cases a2 : 65536 < rdN l
  · have hE := hid (readE_many l HMg.out (by omega) a2)
    go_wp2_with fail
    refine (icount_form B l 4 65536 _ H2.out.sc (by omega) (by omega) hl hby a2).mono ?_
    rintro e w4 ⟨rfl, hd⟩
    exact ⟨rfl, ImgPost.fail (H2.out.fail hd) hE.out.symm (by decide)⟩
  go_wp2_with fail
  refine (icount_c B l 4 65536 _ H2.out.sc (by omega) (by omega) hl hby (by unfold rdN at a2; omega)).mono ?_
  rintro e w4 ⟨rfl, hw⟩
  have H4 := hid (H2.out.scan hw)
  clear hw H2 hstr
  obtain ⟨n, hn⟩ : ∃ n : Nat, (n : Int) = N4 l 4 := ⟨(N4 l 4).toNat, by omega⟩
  have hnR : rdN l = n := hn.symm
  rw [← hn]
  have HN := hid hnR
  have n1 : n ≤ 65536 := by omega
  clear hn hnR a2 r0
  go_wp2
  go_loopw [11] (fun s11 wx => ∃ (k : Nat) (vc : Value), k ≤ n ∧ s11 = .int .i64 k ∧ Hid (St w B N n0 60 wx l (8 + 4 * (k : Int)) #[vc, .int .i64 0, .slice none 0 0, .int .i64 0, .int .i64 0] ∧ RU wx n0 vc (rdC l k) ∧ 8 + 4 * (k : Int) ≤ l.length)) (fun s11 _ => n - (intOf s11).toNat)
  case atStart => exact ⟨0, _, by omega, rfl, hid ⟨H4.out, Kd.R_nil _ _ _ _ _, by omega⟩⟩
  case round =>
    obtain ⟨k, vc, hk, rfl, hI⟩ := hrel
    have hlen := hI.out.2.2
    by_cases hlt : (k : Int) < (n : Int)
    · by_cases b0 : (l.length : Int) < 8 + 4 * (k : Int) + 4
      · have hE := hid (readE_words l HMg.out (by omega) (by have := HN.out; omega) (by have := HN.out; unfold rdI; omega))
        go_wp2
        refine start_ (n := 9) (S := fun W => W.cell? ⟨N, 0, none⟩ = some vc) (ds := []) #[false, false, false, false, false, false, false, false, false] (by kernel_rfl) rfl rfl (blk_cell hI.out.1.drew.var 0) (fun hHeld => ?_)
        refine pure_ (i := 0) (N := (some 13)) (v := ?_) (a' := ?_) #[true, false, false, false, false, false, false, false, false] rfl rfl (by kernel_rfl) (fun _ _ _ h => h) (Or.inl ⟨by rfl, ?_⟩) ?_ ?_
        rotate_left
        · intro w'
          go_simp
          with_reducible rfl
        rotate_left
        · simp only [Act.put, List.setIfInBounds_toArray, List.set_cons_zero, List.set_cons_succ, i64_w]
          rfl
        refine take_ (i := 1) (N := (some 14)) (v := ?_) (a' := ?_) #[true, true, false, false, false, false, false, false, false] rfl rfl (by kernel_rfl) (fun _ _ _ h => h) (Or.inl ⟨by rfl, ?_⟩) hHeld ?_ ?_
        rotate_left
        · rintro w' s0
          go_simp
          with_reducible rfl
        rotate_left
        · simp only [Act.put, List.setIfInBounds_toArray, List.set_cons_zero, List.set_cons_succ, i64_w]
          rfl
        refine pure_ (i := 2) (N := (some 15)) (v := ?_) (a' := ?_) #[true, true, true, false, false, false, false, false, false] rfl rfl (by kernel_rfl) (fun _ _ _ h => h) (Or.inl ⟨by rfl, ?_⟩) ?_ ?_
        rotate_left
        · intro w'
          go_simp
          with_reducible rfl
        rotate_left
        · simp only [Act.put, List.setIfInBounds_toArray, List.set_cons_zero, List.set_cons_succ, i64_w]
          rfl
        refine one_ (i := 3) (N := (some 16)) #[true, true, true, true, false, false, false, false, false] rfl rfl (by kernel_rfl) (by decide) (fun K hK => ?_)
        refine dies_ Try.func41 (by kernel_rfl) rfl #[.pointer (some ⟨B, 0, none⟩), .int .i64 4] (by rfl) rfl rfl (by first | rfl | (simp only [List.map_toArray, List.map_cons, List.map_nil]; rfl)) ?_
        refine (number_no B l (8 + 4 * (k : Int)) 4 _ hI.out.1.drew.sc (by omega) (by omega) hl (by omega)).mono ?_
        rintro e w4 ⟨rfl, hd⟩
        refine ⟨_, rfl, ?_⟩
        exact ⟨rfl, ImgPost.fail (hI.out.1.drew.fail (Aft.drawn hd)) hE.out.symm (by decide)⟩
      · obtain ⟨x, hx⟩ : ∃ x, wordOf (mid l (8 + 4 * (k : Int)) 4) = x := ⟨_, rfl⟩
        have hxr := N4_range hby (8 + 4 * (k : Int))
        rw [show N4 l (8 + 4 * (k : Int)) = x from hx] at hxr
        have HX := hid hx
        have e1 : IntKind.u32.wrap x = x := by rw [IntKind.wrap_u32]; omega
        obtain ⟨vs, hsb, _⟩ := hI.out.1.drew.sc
        have i3 : IntKind.i64.wrap ((k : Int) + 1) = (k : Int) + 1 := IntWalk.i64_in _ (by omega)
        clear hx
        go_wp2
        refine start_ (n := 9) (S := fun W => W.cell? ⟨N, 0, none⟩ = some vc) (ds := [8]) #[false, false, false, false, false, false, false, false, false] (by kernel_rfl) rfl rfl (blk_cell hI.out.1.drew.var 0) (fun hHeld => ?_)
        refine pure_ (i := 0) (N := (some 13)) (v := ?_) (a' := ?_) #[true, false, false, false, false, false, false, false, false] rfl rfl (by kernel_rfl) (fun _ _ _ h => h) (Or.inl ⟨by rfl, ?_⟩) ?_ ?_
        rotate_left
        · intro w'
          go_simp
          with_reducible rfl
        rotate_left
        · simp only [Act.put, List.setIfInBounds_toArray, List.set_cons_zero, List.set_cons_succ, i64_w]
          rfl
        refine take_ (i := 1) (N := (some 14)) (v := ?_) (a' := ?_) #[true, true, false, false, false, false, false, false, false] rfl rfl (by kernel_rfl) (fun _ _ _ h => h) (Or.inl ⟨by rfl, ?_⟩) hHeld ?_ ?_
        rotate_left
        · rintro w' s0
          go_simp
          with_reducible rfl
        rotate_left
        · simp only [Act.put, List.setIfInBounds_toArray, List.set_cons_zero, List.set_cons_succ, i64_w]
          rfl
        refine pure_ (i := 2) (N := (some 15)) (v := ?_) (a' := ?_) #[true, true, true, false, false, false, false, false, false] rfl rfl (by kernel_rfl) (fun _ _ _ h => h) (Or.inl ⟨by rfl, ?_⟩) ?_ ?_
        rotate_left
        · intro w'
          go_simp
          with_reducible rfl
        rotate_left
        · simp only [Act.put, List.setIfInBounds_toArray, List.set_cons_zero, List.set_cons_succ, i64_w]
          rfl
        refine one_ (i := 3) (N := (some 16)) #[true, true, true, true, false, false, false, false, false] rfl rfl (by kernel_rfl) (by decide) (fun K hK => ?_)
        refine goes_ Try.func41 (by kernel_rfl) rfl #[.pointer (some ⟨B, 0, none⟩), .int .i64 4] (by rfl) rfl rfl (by first | rfl | (simp only [List.map_toArray, List.map_cons, List.map_nil]; rfl)) ?_
        refine (number_c B l (8 + 4 * (k : Int)) 4 _ hI.out.1.drew.sc (by omega) (by omega) (by omega) hl hby).mono ?_
        rintro e w4 ⟨rfl, hw⟩
        have HW := hid (And.intro (hI.out.1.drew.scan hw) (Kd.R_below (Kd.R_set (Kd.R_drew hI.out.2.1) (g := B) (t := 106) hsb (by simp [Kd.int, Kd.scalar]) 1 (.int .i64 (8 + 4 * (k : Int) + 4))) (by simpa using hw)))
        clear hw
        rw [show wordOf (mid l (8 + 4 * (k : Int)) 4) = x from HX.out]
        refine ⟨_, rfl, ?_⟩
        refine hK.out _ _ (blk_cell HW.out.1.var 0) (fun hHeld => ?_)
        clear hK K
        refine norm_ (a' := ?_) ?_ ?_
        rotate_left
        · show Act.put _ (some 16) _ = _
          simp only [Act.put, List.setIfInBounds_toArray, List.set_cons_zero, List.set_cons_succ, i64_w]
          rfl
        refine pure_ (i := 4) (N := (some 17)) (v := ?_) (a' := ?_) #[true, true, true, true, true, false, false, false, false] rfl rfl (by kernel_rfl) (fun _ _ _ h => h) (Or.inl ⟨by rfl, ?_⟩) ?_ ?_
        rotate_left
        · intro w'
          go_simp
          with_reducible rfl
        rotate_left
        · simp only [Act.put, List.setIfInBounds_toArray, List.set_cons_zero, List.set_cons_succ, i64_w]
          rfl
        refine one_ (i := 5) (N := (some 18)) #[true, true, true, true, true, true, false, false, false] rfl rfl (by kernel_rfl) (by decide) (fun K hK => ?_)
        go_simp
        have HW5 := hid (And.intro (HW.out.1.mem (below_alloc (Below.refl _ _) (.cells #[.int .u32 x] 36))) (Kd.R_alloc HW.out.2 (.cells #[.int .u32 x] 36)))
        refine hK.out _ _ (blk_cell HW5.out.1.var 0) (fun hHeld => ?_)
        clear hK K
        refine one_ (i := 6) (N := (some 19)) #[true, true, true, true, true, true, true, false, false] rfl rfl (by kernel_rfl) (by decide) (fun K hK => ?_)
        refine Kd.R_append_step (Kd.int .u32) (w0 := w) n0 (by rfl) (.tmp 14) (.tmp 18) 58 36 (.int .u32 0) 4 (by rfl) Try.underlying58 info36 rfl (by decide) (by decide) vc (rdC l k) x [.int .u32 x] (fun _ => True) (fun _ => False) (by rfl) (by rfl) rfl (fun _ h => h.elim) (fun _ _ => trivial) HW.out.2 HW.out.1.below (HW.out.1.base) (by rw [rdC_len]; omega) ?_
        intro v6 w6 hr hb hg hat
        rw [show rdC l k ++ [x] = rdC l (k + 1) by rw [rdC_step, show N4 l (8 + 4 * (k : Int)) = x from HX.out]] at hr
        obtain ⟨A6, c6, rfl, _, _⟩ := Kd.R_reads hr
        have HW6 := hid (And.intro (HW.out.1.row hg (fun k' hk' => by obtain ⟨inner, ho⟩ := Kd.R_own HW.out.2; exact ⟨Kd.R_base HW.out.2 k' hk', own_typed ho k' hk'⟩) (e := 36) (by decide) (by decide) (by decide) (by decide)) hr)
        clear hr hb hg hat
        refine hK.out _ _ (blk_cell HW6.out.1.var 0) (fun hHeld => ?_)
        clear hK K
        refine norm_ (a' := ?_) ?_ ?_
        rotate_left
        · show Act.put _ (some 19) _ = _
          simp only [Act.put, List.setIfInBounds_toArray, List.set_cons_zero, List.set_cons_succ, i64_w]
          rfl
        refine pure_ (i := 7) (N := (some 20)) (v := ?_) (a' := ?_) #[true, true, true, true, true, true, true, true, false] rfl rfl (by kernel_rfl) (fun _ _ _ h => h) (Or.inl ⟨by rfl, ?_⟩) ?_ ?_
        rotate_left
        · intro w'
          go_simp
          with_reducible rfl
        rotate_left
        · simp only [Act.put, List.setIfInBounds_toArray, List.set_cons_zero, List.set_cons_succ, i64_w]
          rfl
        refine last_ (i := 8) (N := none) #[true, true, true, true, true, true, true, true, true] rfl rfl (by kernel_rfl) (by decide) (fun K hK => ?_)
        have c6_ : w6.cell? ⟨N, 0, none⟩ = some vc := blk_cell HW6.out.1.var 0
        have g6_ : w6.frozen? ⟨N, 0, none⟩ = false := blk_frozen HW6.out.1.var 0
        go_simp
        clear c6_ g6_
        refine hK.out _ _ ?_
        clear hK K
        refine done_ (by kernel_rfl) ?_

        go_wp2
        go_roundw
        case rel =>
          refine ⟨k + 1, .slice A6 (rdC l (k + 1)).length c6, by omega, by go_num, hid ⟨?_, ?_, by omega⟩⟩
          · have h1 := HW6.out.1.put (by decide) 0 (.slice A6 (rdC l (k + 1)).length c6)
            rw [show (8 : Int) + 4 * (k : Int) + 4 = 8 + 4 * ((k + 1 : Nat) : Int) by omega] at h1
            exact h1
          · have h2 := Kd.R_set HW6.out.2 HW6.out.1.var (by simp [Kd.int, Kd.scalar]) 0 (.slice A6 (rdC l (k + 1)).length c6)
            exact h2
        case measure => simp [intOf]; omega
    · obtain rfl : k = n := by omega
      obtain ⟨Ac, cc, rfl, hcc, hCc⟩ := Kd.R_reads hI.out.2.1
      have hI8 : (8 : Int) + 4 * (k : Int) = rdI l := by have := HN.out; unfold rdI; omega
      have s0 := hI.out.1
      rw [hI8] at s0 hlen
      have hmn : rdC l k = rdC l (rdN l).toNat := by rw [HN.out]; rfl
      have hrl := rdC_len l k
      have H5 := hid (And.intro s0 (And.intro hI.out.2.1 (And.intro hmn hrl)))
      have g8 : 8 ≤ rdI l := by omega
      have hIN : rdI l = 8 + 4 * rdN l := rfl
      have HIN := hid hIN
      clear s0 hI hmn hrl hCc hI8 hIN
      by_cases a3 : (l.length : Int) < rdI l + 4
      · have hE := hid (readE_words l HMg.out (by omega) (by have := HN.out; omega) a3)
        go_wp2_with fail
        refine (number_no B l (rdI l) 4 _ H5.out.1.sc (by omega) hlen hl (by omega)).mono ?_
        rintro e w6 ⟨rfl, hd⟩
        exact ⟨rfl, ImgPost.fail (H5.out.1.fail (Aft.drawn hd)) hE.out.symm (by decide)⟩
      have reR := N4_range hby (rdI l)
      go_wp2_with fail
      have hk := number_c B l (rdI l) 4 _ H5.out.1.sc (by omega) (by omega) (by omega) hl hby
      rw [show wordOf (mid l (rdI l) 4) = rdE l from rfl] at hk
      refine hk.mono ?_
      clear hk
      rintro e w6 ⟨rfl, hw⟩
      have s6 := H5.out.1.scan hw
      have r6 := Kd.R_below (Kd.R_set H5.out.2.1 (g := B) (t := 106) H5.out.1.scb (by simp [Kd.int, Kd.scalar]) 1 (.int .i64 (rdI l + 4))) (by simpa using hw)
      have c0 : w6.cell? ⟨N, 0, none⟩ = some (.slice Ac (rdC l k).length cc) := blk_cell s6.var 0
      have c1 : w6.cell? ⟨N, 1, none⟩ = some (.int .i64 0) := blk_cell s6.var 1
      have g1 : w6.frozen? ⟨N, 1, none⟩ = false := blk_frozen s6.var 1
      have s7 := s6.put (by decide) 1 (.int .i64 (rdE l))
      have r7 := Kd.R_set r6 s6.var (by simp [Kd.int, Kd.scalar]) 1 (.int .i64 (rdE l))
      obtain ⟨W7, hW7⟩ : ∃ W, W = w6.setCell ⟨N, 1, none⟩ (.int .i64 (rdE l)) := ⟨_, rfl⟩
      rw [← hW7] at s7 r7
      have H7 := hid (And.intro s7 (And.intro r7 H5.out.2.2))
      have HW7 := hid hW7
      clear hw s6 r6 s7 r7 hW7 H5
      by_cases ent : ¬ (rdE l = 0 ∨ 0 < rdE l ∧ rdE l < rdN l)
      · have hE := hid (readE_entry l HMg.out (by omega) (by have := HN.out; omega) (by have := HN.out; omega) (by omega) ent)
        have hq : image_entry.f (rdE l) ((rdC l k).length : Int) = some false := by
          have h1 := H7.out.2.2.2
          have h2 := HN.out
          unfold image_entry.f
          rw [h1, if_neg (fun q => ent (.inl q))]
          by_cases p : rdE l > 0
          · rw [if_pos p, decide_eq_false (fun q => ent (.inr ⟨p, by omega⟩))]
          · rw [if_neg p]
        have HQ := hid hq
        clear ent hq reR
        go_wp2_with fail
        rw [← HW7.out]
        refine (image_entry.calls (rdE l) ((rdC l k).length : Int) false _ HQ.out).mono ?_
        rintro e' w8 ⟨rfl, ⟨nd, rfl⟩⟩
        go_wp2_with fail
        refine (must_no _ _).mono ?_
        rintro e' w9 ⟨rfl, rfl⟩
        exact ⟨rfl, ImgPost.fail ((H7.out.1.drawn nd).fail (Aft.drawn (Drawn0.refl _))) hE.out.symm (by decide)⟩
      have ent := Decidable.not_not.1 ent
      have hre := readE_rest l HMg.out (by omega) (by have := HN.out; omega) (by have := HN.out; omega) (by omega) ent
      have HRE := hid hre
      have hq : image_entry.f (rdE l) ((rdC l k).length : Int) = some true := by
        have h1 := H7.out.2.2.2
        have h2 := HN.out
        unfold image_entry.f
        rw [h1]
        by_cases p : rdE l = 0
        · rw [if_pos p]
        · rcases ent with p' | ⟨p1, p2⟩
          · exact absurd p' p
          · rw [if_neg p, if_pos p1, decide_eq_true (by omega)]
      have HQ := hid hq
      clear ent hq reR hre
      go_wp2_with fail
      rw [← HW7.out]
      refine (image_entry.calls (rdE l) ((rdC l k).length : Int) true _ HQ.out).mono ?_
      rintro e' w8 ⟨rfl, ⟨nd, rfl⟩⟩
      have H8 := hid (And.intro (H7.out.1.drawn nd) (And.intro (Kd.R_drewN H7.out.2.1 nd) H7.out.2.2))
      generalize W7.drewN nd = w8 at *
      go_wp2_with fail
      refine (must_c _ _).mono ?_
      rintro e' w9 ⟨rfl, rfl⟩
      clear HQ H7 HW7 c0 c1 g1
      by_cases a4 : (l.length : Int) < rdI l + 8
      · have hE := hid (HRE.out.trans (if_pos (by omega)))
        go_wp2_with fail
        refine (icount_cut B l (rdI l + 4) 65536 _ H8.out.1.sc (by omega) (by omega) (by omega) hl).mono ?_
        rintro e' wf ⟨rfl, hd⟩
        exact ⟨rfl, ImgPost.fail (H8.out.1.fail hd) hE.out.symm (by decide)⟩
      by_cases a5 : 65536 < rdZ l
      · have hE := hid (HRE.out.trans ((if_neg (by omega)).trans (if_pos (by omega))))
        go_wp2_with fail
        refine (icount_form B l (rdI l + 4) 65536 _ H8.out.1.sc (by omega) (by omega) hl hby a5).mono ?_
        rintro e' wf ⟨rfl, hd⟩
        exact ⟨rfl, ImgPost.fail (H8.out.1.fail hd) hE.out.symm (by decide)⟩
      have rzR := N4_range hby (rdI l + 4)
      rw [show N4 l (rdI l + 4) = rdZ l from rfl] at rzR
      go_wp2_with fail
      have hk := icount_c B l (rdI l + 4) 65536 _ H8.out.1.sc (by omega) (by omega) hl hby (by show rdZ l ≤ 65536; omega)
      rw [show N4 l (rdI l + 4) = rdZ l from rfl, show rdI l + 4 + 4 = rdI l + 8 by omega] at hk
      refine hk.mono ?_
      clear hk
      rintro e' w10 ⟨rfl, hw⟩
      have s10 := H8.out.1.scan hw
      have r10 := Kd.R_below (Kd.R_set H8.out.2.1 (g := B) (t := 106) H8.out.1.scb (by simp [Kd.int, Kd.scalar]) 1 (.int .i64 (rdI l + 8))) (by simpa using hw)
      have H10 := hid (And.intro s10 (And.intro r10 H8.out.2.2))
      clear hw s10 r10 H8
      by_cases a6 : (l.length : Int) < rdI l + 8 + rdZ l
      · have hE := hid (HRE.out.trans ((if_neg (by omega)).trans ((if_neg (by omega)).trans (if_pos (by omega)))))
        go_wp2_with fail
        refine (bytes_no B l (rdI l + 8) (rdZ l) _ H10.out.1.sc (by omega) (by omega) hl (by omega)).mono ?_
        rintro e' wf ⟨rfl, hd⟩
        exact ⟨rfl, ImgPost.fail (H10.out.1.fail (Aft.drawn hd)) hE.out.symm (by decide)⟩
      go_wp2_with fail
      refine (bytes_c B l (rdI l + 8) (rdZ l) _ H10.out.1.sc (by omega) (by omega) (by omega) hl).mono ?_
      rintro e' w11 ⟨v11, rfl, hR, hw⟩
      rw [show mid l (rdI l + 8) (rdZ l) = rdD l from rfl] at hR
      have hzl : ((rdD l).length : Int) = rdZ l := mid_len (by omega) (by omega) (by omega)
      obtain ⟨Ad, cd, rfl, hcd, _⟩ := Kd.R_reads hR
      have s11 := H10.out.1.scan hw
      have r11 := Kd.R_below (Kd.R_set H10.out.2.1 (g := B) (t := 106) H10.out.1.scb (by simp [Kd.int, Kd.scalar]) 1 (.int .i64 (rdI l + 8 + rdZ l))) (by simpa using hw)
      have d11 := Kd.R_lower hR H10.out.1.base
      have g2 : w11.frozen? ⟨N, 2, none⟩ = false := blk_frozen s11.var 2
      have c2' : w11.cell? ⟨N, 2, none⟩ = some (.slice none 0 0) := blk_cell s11.var 2
      have s12 := s11.put (by decide) 2 (.slice Ad (rdD l).length cd)
      have r12 := Kd.R_set r11 s11.var (by simp [Kd.int, Kd.scalar]) 2 (.slice Ad (rdD l).length cd)
      have d12 := Kd.R_set d11 s11.var (by simp [Kd.int, Kd.scalar]) 2 (.slice Ad (rdD l).length cd)
      obtain ⟨W12, hW12⟩ : ∃ W, W = w11.setCell ⟨N, 2, none⟩ (.slice Ad (rdD l).length cd) := ⟨_, rfl⟩
      rw [← hW12] at s12 r12 d12
      have H12 := hid (And.intro s12 (And.intro r12 (And.intro d12 H10.out.2.2)))
      have HW12 := hid hW12
      have HZL := hid hzl
      clear hw s11 r11 d11 s12 r12 d12 hW12 hR H10 hzl
      by_cases a7 : (l.length : Int) < rdI l + 8 + rdZ l + 4
      · have hE := hid (HRE.out.trans ((if_neg (by omega)).trans ((if_neg (by omega)).trans ((if_neg (by omega)).trans (if_pos (by omega))))))
        go_wp2_with fail
        rw [← HW12.out]
        refine (icount_cut B l (rdI l + 8 + rdZ l) ((rdD l).length : Int) _ H12.out.1.sc (by omega) (by omega) (by omega) hl).mono ?_
        rintro e' wf ⟨rfl, hd⟩
        exact ⟨rfl, ImgPost.fail (H12.out.1.fail hd) hE.out.symm (by decide)⟩
      by_cases a8 : rdZ l < rdW l
      · have hE := hid (HRE.out.trans ((if_neg (by omega)).trans ((if_neg (by omega)).trans ((if_neg (by omega)).trans ((if_neg (by omega)).trans (if_pos (by omega)))))))
        go_wp2_with fail
        rw [← HW12.out]
        refine (icount_form B l (rdI l + 8 + rdZ l) ((rdD l).length : Int) _ H12.out.1.sc (by omega) (by omega) hl hby (by have := HZL.out; show _ < rdW l; omega)).mono ?_
        rintro e' wf ⟨rfl, hd⟩
        exact ⟨rfl, ImgPost.fail (H12.out.1.fail hd) hE.out.symm (by decide)⟩
      go_wp2_with fail
      rw [← HW12.out]
      have hk := icount_c B l (rdI l + 8 + rdZ l) ((rdD l).length : Int) _ H12.out.1.sc (by omega) (by omega) hl hby (by have := HZL.out; show rdW l ≤ _; omega)
      rw [show N4 l (rdI l + 8 + rdZ l) = rdW l from rfl] at hk
      refine hk.mono ?_
      clear hk
      rintro e' w13 ⟨rfl, hw⟩
      have s13 := H12.out.1.scan hw
      have r13 := Kd.R_below (Kd.R_set H12.out.2.1 (g := B) (t := 106) H12.out.1.scb (by simp [Kd.int, Kd.scalar]) 1 (.int .i64 (rdI l + 8 + rdZ l + 4))) (by simpa using hw)
      have d13 := Kd.R_below (Kd.R_set H12.out.2.2.1 (g := B) (t := 106) H12.out.1.scb (by simp [Kd.int, Kd.scalar]) 1 (.int .i64 (rdI l + 8 + rdZ l + 4))) (by simpa using hw)
      clear g2 c2'
      have g3 : w13.frozen? ⟨N, 3, none⟩ = false := blk_frozen s13.var 3
      have c3 : w13.cell? ⟨N, 3, none⟩ = some (.int .i64 0) := blk_cell s13.var 3
      have s14 := s13.put (by decide) 3 (.int .i64 (rdW l))
      have r14 := Kd.R_set r13 s13.var (by simp [Kd.int, Kd.scalar]) 3 (.int .i64 (rdW l))
      have d14 := Kd.R_set d13 s13.var (by simp [Kd.int, Kd.scalar]) 3 (.int .i64 (rdW l))
      obtain ⟨W14, hW14⟩ : ∃ W, W = w13.setCell ⟨N, 3, none⟩ (.int .i64 (rdW l)) := ⟨_, rfl⟩
      rw [← hW14] at s14 r14 d14
      have H14 := hid (And.intro s14 (And.intro r14 (And.intro d14 H12.out.2.2.2)))
      have HW14 := hid hW14
      clear hw s13 r13 d13 s14 r14 d14 hW14 H12 HW12
      by_cases a9 : (l.length : Int) < rdI l + 8 + rdZ l + 8
      · have hE := hid (HRE.out.trans ((if_neg (by omega)).trans ((if_neg (by omega)).trans ((if_neg (by omega)).trans ((if_neg (by omega)).trans ((if_neg (by omega)).trans (if_pos (by omega))))))))
        go_wp2_with fail
        rw [← HW14.out]
        refine (icount_cut B l (rdI l + 8 + rdZ l + 4) 65536 _ H14.out.1.sc (by omega) (by omega) (by omega) hl).mono ?_
        rintro e' wf ⟨rfl, hd⟩
        exact ⟨rfl, ImgPost.fail (H14.out.1.fail hd) hE.out.symm (by decide)⟩
      by_cases a10 : 65536 < rdM l
      · have hE := hid (HRE.out.trans ((if_neg (by omega)).trans ((if_neg (by omega)).trans ((if_neg (by omega)).trans ((if_neg (by omega)).trans ((if_neg (by omega)).trans ((if_neg (by omega)).trans (if_pos (by omega)))))))))
        go_wp2_with fail
        rw [← HW14.out]
        refine (icount_form B l (rdI l + 8 + rdZ l + 4) 65536 _ H14.out.1.sc (by omega) (by omega) hl hby a10).mono ?_
        rintro e' wf ⟨rfl, hd⟩
        exact ⟨rfl, ImgPost.fail (H14.out.1.fail hd) hE.out.symm (by decide)⟩
      have hfin := HRE.out.trans ((if_neg (by omega)).trans ((if_neg (by omega)).trans ((if_neg (by omega)).trans ((if_neg (by omega)).trans ((if_neg (by omega)).trans ((if_neg (by omega)).trans ((if_neg (by omega)).trans (rfl))))))))
      have HFIN := hid hfin
      clear hfin
      go_wp2_with fail
      rw [← HW14.out]
      have hk := icount_c B l (rdI l + 8 + rdZ l + 4) 65536 _ H14.out.1.sc (by omega) (by omega) hl hby (by show rdM l ≤ 65536; omega)
      rw [show N4 l (rdI l + 8 + rdZ l + 4) = rdM l from rfl, show rdI l + 8 + rdZ l + 4 + 4 = rdI l + 8 + rdZ l + 8 by omega] at hk
      refine hk.mono ?_
      clear hk
      rintro e' w15 ⟨rfl, hw⟩
      have s15 := H14.out.1.scan hw
      have r15 := Kd.R_below (Kd.R_set H14.out.2.1 (g := B) (t := 106) H14.out.1.scb (by simp [Kd.int, Kd.scalar]) 1 (.int .i64 (rdI l + 8 + rdZ l + 8))) (by simpa using hw)
      have d15 := Kd.R_below (Kd.R_set H14.out.2.2.1 (g := B) (t := 106) H14.out.1.scb (by simp [Kd.int, Kd.scalar]) 1 (.int .i64 (rdI l + 8 + rdZ l + 8))) (by simpa using hw)
      clear g3 c3
      have g4 : w15.frozen? ⟨N, 4, none⟩ = false := blk_frozen s15.var 4
      have c4 : w15.cell? ⟨N, 4, none⟩ = some (.int .i64 0) := blk_cell s15.var 4
      have s16 := s15.put (by decide) 4 (.int .i64 (rdM l))
      have r16 := Kd.R_set r15 s15.var (by simp [Kd.int, Kd.scalar]) 4 (.int .i64 (rdM l))
      have d16 := Kd.R_set d15 s15.var (by simp [Kd.int, Kd.scalar]) 4 (.int .i64 (rdM l))
      have H16 := hid (And.intro s16 (And.intro r16 (And.intro d16 H14.out.2.2.2.1)))
      clear hw s15 r15 d15 s16 r16 d16 H14 HW14
      go_wp2
      first | go_end0 | refine bodyPost_ret (results_none rfl _ _ _) rfl ?_
      refine .inl ⟨rdI l + 8 + rdZ l + 8, rfl, by omega, by omega, H16.out.1.sc, H16.out.1.errno, HFIN.out.symm, H16.out.1.below, H16.out.1.errno, fun _ => ⟨.slice Ac (rdC l k).length cc, .slice Ad (rdD l).length cd, H16.out.1.var, ?_, H16.out.2.2.1⟩⟩
      rw [← H16.out.2.2.2]
      exact H16.out.2.1
end Go.Proofs.Ytmcfihpbiilbcaa.H
