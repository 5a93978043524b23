/- ImageKeeps' walk. -/
import Derived.Test.YtmcfihpbiilbcaaImgL
namespace Go.Proofs.Ytmcfihpbiilbcaa.H
open Go.RowKit Go.Proofs.YtmcfihpbiilbcaaW.PrintWords Go.Proofs.YtmcfihpbiilbcaaW.PrintLast Go.Proofs.YtmcfihpbiilbcaaW.PrintMore Go.Proofs.Ytmcfihpbiilbcaa.E
set_option linter.unusedVariables false
set_option linter.unusedSimpArgs false
theorem iread_wr (A : Option Addr) (ca : Nat) (L : List Int) (c : List Int) (e : Int) (d : List Int) (wq mo : Int) (w : World) (hC : CB w A L) (hc : L.length ≤ ca) (hby : ∀ x ∈ c, 0 ≤ x ∧ x ≤ 4294967295) (hd : Bytes d) (hm : mayB c e d wq mo = true) (hL : L = imgW c e d wq mo) :
    Calls Try.prog 54 #[.slice A L.length ca] w fun e' w' => ∃ v0 v2, e' = .returned (.tuple #[.agg #[v0, .int .i64 e, v2, .int .i64 wq, .int .i64 mo], .int .i64 0]) ∧ RU w' w.heap.size v0 c ∧ RB w' w.heap.size v2 d ∧ Below w.heap.size w w' := by
  have hz : readE L = 0 := by rw [hL]; exact readE_imgW c e d wq mo hby hm
  have hb : Bytes L := by rw [hL]; exact imgW_bytes c e d wq mo hby hd hm
  obtain ⟨f0, f1, f2, f3, f4, f5, f6, f7, f8⟩ := fields_w c e d wq mo hby hm
  have hM := may_bounds hm
  rw [← hL] at f0 f1 f2 f3 f4 f5 f6 f7 f8
  refine (iread_ok A ca L w hC hc hb (by omega) hz).mono ?_
  rintro e' w' ⟨v0, v2, rfl, hR0, hR2, hb⟩
  rw [show (rdN L).toNat = c.length by omega, f7] at hR0
  rw [f6] at hR2
  rw [f2, f4, f5]
  exact ⟨v0, v2, rfl, hR0, hR2, hb⟩
/-- A row that stands above another's block is kept by what turns in it. -/
theorem R_above {α : Type} {k : Kd α} {t : Nat} {w wx : World} {b0 : Nat} {v : Value} {xs : List α} {row : Option Nat} (h : k.R t w b0 (fun _ => True) v xs) (hg : w.grownBy wx row) (hlt : ∀ j, row = some j → j < b0) : k.R t wx b0 (fun _ => True) v xs := by
  refine Kd.R_mono (Kd.R_step (Kd.R_bound h) (fun j hj hjl => hg.block j hjl (fun e => ?_))) (fun _ _ => trivial)
  have := hlt j e.symm
  have := hj.2.1
  omega
set_option maxRecDepth 100000 in
set_option maxHeartbeats 1000000 in
theorem keeps15_big (Ac : Option Addr) (cc : Nat) (c : List Int) (e : Int) (Ad : Option Addr) (cd : Nat) (d : List Int) (wq mo : Int) (w : World) (hc : CU w Ac c) (hcc : c.length ≤ cc) (hd : CB w Ad d) (hcd : d.length ≤ cd) (hby : ∀ x ∈ c, 0 ≤ x ∧ x ≤ 4294967295) (hdy : Bytes d) (hs : smallI c d = false) :
    Calls Try.prog 11 #[.agg #[.slice Ac c.length cc, .int .i64 e, .slice Ad d.length cd, .int .i64 wq, .int .i64 mo]] w fun e' w' => e' = .returned (.bool true) ∧ Below w.heap.size w w' := by
  have HC := hid (And.intro hc (And.intro hd True.intro))
  have HY := hid (And.intro hby hdy)
  clear hc hd hby hdy
  go_enter Try.func11, Try.ntmps11
  go_wp2_with fail
  refine (awake15_c _).mono ?_
  rintro e' w1 ⟨rfl, hb⟩
  have hB := below_step (below_alloc (Below.refl w.heap.size w) _) hb
  have b1 := blk_below (blk_new w _) hb
  obtain ⟨k0, k1, k2, k3, k4⟩ := five b1
  have H1 := hid (And.intro hB b1)
  clear hb b1 hB
  go_wp2_with fail
  refine (splicelaw15_small.calls Ac cc c e Ad cd d wq mo false _ (Kd.C_below HC.out.1 H1.out.1) hcc (Kd.C_below HC.out.2.1 H1.out.1) hcd (by rw [small15_q, hs])).mono ?_
  rintro e' w2 ⟨rfl, hb⟩
  have H2 := hid (And.intro (below_step H1.out.1 hb) (blk_below H1.out.2 hb))
  clear hb H1 k0 k1 k2 k3 k4
  go_wp2_with fail
  refine (awake15_c _).mono ?_
  rintro e' w3 ⟨rfl, hb⟩
  have H3 := hid (below_step H2.out.1 hb)
  clear hb H2
  go_wp2
  go_ret
  exact ⟨rfl, H3.out⟩
set_option maxRecDepth 100000 in
set_option maxHeartbeats 1000000 in
theorem keeps15_no (Ac : Option Addr) (cc : Nat) (c : List Int) (e : Int) (Ad : Option Addr) (cd : Nat) (d : List Int) (wq mo : Int) (w : World) (hc : CU w Ac c) (hcc : c.length ≤ cc) (hd : CB w Ad d) (hcd : d.length ≤ cd) (hby : ∀ x ∈ c, 0 ≤ x ∧ x ≤ 4294967295) (hdy : Bytes d) (hs : smallI c d = true) (hm : mayB c e d wq mo = false) :
    Calls Try.prog 11 #[.agg #[.slice Ac c.length cc, .int .i64 e, .slice Ad d.length cd, .int .i64 wq, .int .i64 mo]] w fun e' w' => e' = .returned (.bool true) ∧ Below w.heap.size w w' := by
  have HC := hid (And.intro hc (And.intro hd True.intro))
  have HY := hid (And.intro hby hdy)
  clear hc hd hby hdy
  go_enter Try.func11, Try.ntmps11
  go_wp2_with fail
  refine (awake15_c _).mono ?_
  rintro e' w1 ⟨rfl, hb⟩
  have hB := below_step (below_alloc (Below.refl w.heap.size w) _) hb
  have b1 := blk_below (blk_new w _) hb
  obtain ⟨k0, k1, k2, k3, k4⟩ := five b1
  have H1 := hid (And.intro hB b1)
  clear hb b1 hB
  go_wp2_with fail
  refine (splicelaw15_small.calls Ac cc c e Ad cd d wq mo true _ (Kd.C_below HC.out.1 H1.out.1) hcc (Kd.C_below HC.out.2.1 H1.out.1) hcd (by rw [small15_q, hs])).mono ?_
  rintro e' w2 ⟨rfl, hb⟩
  have H2 := hid (And.intro (below_step H1.out.1 hb) (blk_below H1.out.2 hb))
  clear hb H1 k0 k1 k2 k3 k4
  obtain ⟨k0, k1, k2, k3, k4⟩ := five H2.out.2
  go_wp2_with fail
  refine (imgWrite_no Ac cc c e Ad cd d wq mo w2 (Kd.C_below HC.out.1 H2.out.1) hcc (Kd.C_below HC.out.2.1 H2.out.1) hcd hm).mono ?_
  rintro e' w6 ⟨rfl, hb⟩
  have G := hid (below_step H2.out.1 hb)
  clear hb H2 k0 k1 k2 k3 k4
  go_wp2
  go_ret
  exact ⟨rfl, G.out⟩
set_option maxRecDepth 100000 in
set_option maxHeartbeats 1000000 in
theorem keeps15_yes (Ac : Option Addr) (cc : Nat) (c : List Int) (e : Int) (Ad : Option Addr) (cd : Nat) (d : List Int) (wq mo : Int) (w : World) (hc : CU w Ac c) (hcc : c.length ≤ cc) (hd : CB w Ad d) (hcd : d.length ≤ cd) (hby : ∀ x ∈ c, 0 ≤ x ∧ x ≤ 4294967295) (hdy : Bytes d) (hs : smallI c d = true) (hm : mayB c e d wq mo = true) :
    Calls Try.prog 11 #[.agg #[.slice Ac c.length cc, .int .i64 e, .slice Ad d.length cd, .int .i64 wq, .int .i64 mo]] w fun e' w' => e' = .returned (.bool true) ∧ Below w.heap.size w w' := by
  have HC := hid (And.intro hc (And.intro hd True.intro))
  have HY := hid (And.intro hby hdy)
  clear hc hd hby hdy
  obtain ⟨L, j0, hf⟩ := back_facts c e d wq mo 0 HY.out.1 HY.out.2 hm (by decide)
  have hL := hf.1
  have hLn2 := hf.2.2.2.2.1
  have HL := hid hL
  have hM := may_bounds hm
  have HM := hid hM
  have HLN := hid hLn2
  clear hf hM hL hLn2
  go_enter Try.func11, Try.ntmps11
  go_wp2_with fail
  refine (awake15_c _).mono ?_
  rintro e' w1 ⟨rfl, hb⟩
  have hB := below_step (below_alloc (Below.refl w.heap.size w) _) hb
  have b1 := blk_below (blk_new w _) hb
  obtain ⟨k0, k1, k2, k3, k4⟩ := five b1
  have H1 := hid (And.intro hB b1)
  clear hb b1 hB
  go_wp2_with fail
  refine (splicelaw15_small.calls Ac cc c e Ad cd d wq mo true _ (Kd.C_below HC.out.1 H1.out.1) hcc (Kd.C_below HC.out.2.1 H1.out.1) hcd (by rw [small15_q, hs])).mono ?_
  rintro e' w2 ⟨rfl, hb⟩
  have H2 := hid (And.intro (below_step H1.out.1 hb) (blk_below H1.out.2 hb))
  clear hb H1 k0 k1 k2 k3 k4
  obtain ⟨k0, k1, k2, k3, k4⟩ := five H2.out.2
  go_wp2_with fail
  have hk := imgWrite_yes Ac cc c e Ad cd d wq mo w2 (Kd.C_below HC.out.1 H2.out.1) hcc (Kd.C_below HC.out.2.1 H2.out.1) hcd HY.out.1 hm
  rw [← HL.out] at hk
  refine hk.mono ?_
  clear hk
  rintro e' w3 ⟨v, rfl, hR, hb⟩
  obtain ⟨A3, c3, rfl, hc3, hC3⟩ := Kd.R_reads hR
  have hg3 := Kd.R_lt hR
  have hm2 := blk_lt H2.out.2
  have hs23 := hb.size
  have H3 := hid (And.intro (below_step H2.out.1 hb) (And.intro (blk_below H2.out.2 hb) (And.intro hR hC3)))
  have HG := hid hg3
  clear hb H2 k0 k1 k2 k3 k4 hR hC3 hg3
  go_wp2_with fail
  refine (iread_wr A3 c3 L c e d wq mo w3 H3.out.2.2.2 hc3 HY.out.1 HY.out.2 hm HL.out).mono ?_
  rintro e' w4 ⟨v0, v2, rfl, hR0, hR2, hb⟩
  obtain ⟨An, cn, rfl, hcn, _⟩ := Kd.R_reads hR0
  obtain ⟨Am, cm, rfl, hcm, _⟩ := Kd.R_reads hR2
  obtain ⟨W4, hW4⟩ : ∃ W, W = w4.alloc (.cells #[.slice An c.length cn, .int .i64 e, .slice Am d.length cm, .int .i64 wq, .int .i64 mo] 60) := ⟨_, rfl⟩
  have hba := hb.trans (below_alloc (Below.refl w4.heap.size w4) (.cells #[.slice An c.length cn, .int .i64 e, .slice Am d.length cm, .int .i64 wq, .int .i64 mo] 60) |>.mono hb.size)
  have hs34 := hb.size
  have n4 := blk_new w4 (.cells #[.slice An c.length cn, .int .i64 e, .slice Am d.length cm, .int .i64 wq, .int .i64 mo] 60)
  have hB := below_step H3.out.1 hba
  have m4 := blk_below H3.out.2.1 hba
  have x4 := Kd.R_below H3.out.2.2.1 hba
  have u4 := Kd.R_below hR0 (below_alloc (Below.refl w4.heap.size w4) (.cells #[.slice An c.length cn, .int .i64 e, .slice Am d.length cm, .int .i64 wq, .int .i64 mo] 60))
  have v4 := Kd.R_below hR2 (below_alloc (Below.refl w4.heap.size w4) (.cells #[.slice An c.length cn, .int .i64 e, .slice Am d.length cm, .int .i64 wq, .int .i64 mo] 60))
  rw [← hW4] at n4 hB m4 x4 u4 v4
  have H4 := hid (And.intro hB (And.intro m4 (And.intro n4 (And.intro x4 (And.intro u4 v4)))))
  have HW4 := hid hW4
  clear hW4 n4 hB m4 x4 u4 v4 hR0 hR2 hba hb H3
  go_wp2
  rw [← HW4.out]
  go_loopw [7] (fun s7 wx => ∃ (k : Nat) (ys : List Int), k ≤ L.length ∧ s7 = .int .i64 k ∧ Hid (ys.length = L.length ∧ RB wx w2.heap.size (.slice A3 L.length c3) ys ∧ W4.grownBy wx (Value.slice A3 L.length c3).ownBlock)) (fun s7 _ => L.length - (intOf s7).toNat)
  case atStart => exact ⟨0, L, by omega, rfl, hid ⟨rfl, H4.out.2.2.2.1, World.grownBy.refl _ _⟩⟩
  case round =>
    obtain ⟨k, ys, hk, rfl, hI⟩ := hrel
    by_cases hlt : (k : Int) < (L.length : Int)
    · have ho := Kd.own_of_R hI.out.2.1
      rw [hI.out.1] at ho
      obtain ⟨g, cap, he, hgb, hgl⟩ := ho.form (by omega)
      obtain ⟨rfl, rfl⟩ : A3 = some ⟨g, 0, none⟩ ∧ c3 = cap := by injection he with h1 h2 h3; exact ⟨h1, h3⟩
      obtain ⟨q1, q2⟩ := own_at ho k (by omega) (by exact_mod_cast hlt)
      rw [Int.toNat_natCast] at q1 q2
      have HO := hid ho
      have hw1 : IntKind.i64.wrap ((k : Int) + 1) = (k : Int) + 1 := IntWalk.i64_in _ (by have := HLN.out; omega)
      clear ho he
      go_wp2
      go_roundw
      case rel =>
        obtain ⟨s1, s2⟩ := own_store HO.out (k : Int) (bits BinOp.xor IntKind.u8 (rd ys k) 255)
        exact ⟨k + 1, ys.set k (bits BinOp.xor IntKind.u8 (rd ys k) 255), by omega, by go_num, hid ⟨by rw [List.length_set]; exact hI.out.1, Kd.R_of_own (by rw [List.length_set, hI.out.1]; exact s1) (fun _ _ => trivial), hI.out.2.2.trans s2⟩⟩
      case measure => simp [intOf]; omega
    · have hg := hI.out.2.2
      have hB : Below w.heap.size w wr := H4.out.1.grown hg (by have := H4.out.1.size; omega) (fun j hj => by have := Kd.R_base hI.out.2.1 j hj; omega)
      have mr := blk_grown H4.out.2.1 hg (fun e => by have := Kd.R_base hI.out.2.1 _ e.symm; omega)
      have nr := blk_grown H4.out.2.2.1 hg (fun e => by have := HG.out _ e.symm; omega)
      have ur := R_above H4.out.2.2.2.2.1 hg (fun j hj => HG.out j hj)
      have vr := R_above H4.out.2.2.2.2.2 hg (fun j hj => HG.out j hj)
      obtain ⟨k0, k1, k2, k3, k4⟩ := five mr
      obtain ⟨l0, l1, l2, l3, l4⟩ := five nr
      have HR := hid (And.intro hB (And.intro mr (And.intro nr (And.intro (Kd.R_reads' ur).2.2 (And.intro (Kd.R_reads' vr).2.2 vr)))))
      clear hg hB mr nr ur vr hI H4 HG HW4
      go_wp2_with fail
      have hk := spliceref14_Same.calls 1000000001 An cn c e Am cm d wq mo Ac cc c e Ad cd d wq mo true
      refine (hk _ HR.out.2.2.2.1 hcn HR.out.2.2.2.2.1 hcm (Kd.C_below HC.out.1 HR.out.1) hcc (Kd.C_below HC.out.2.1 HR.out.1) hcd (by rw [same14_q _ _ _ _ _ _ _ _ _ _ (by have := HM.out.1; omega) (by have := HM.out.2; omega), sameI_self])).mono ?_
      clear hk
      rintro e' w5 ⟨rfl, hb⟩
      have hs5 := hb.size
      have H5 := hid (And.intro (below_step HR.out.1 hb) (And.intro (blk_below HR.out.2.1 hb) (And.intro (blk_below HR.out.2.2.1 hb) (Kd.R_below HR.out.2.2.2.2.2 hb))))
      clear hb HR k0 k1 k2 k3 k4 l0 l1 l2 l3 l4
      go_wp2
      go_loopw [8] (fun s8 wx => ∃ (k : Nat) (ys : List Int), k ≤ d.length ∧ s8 = .int .i64 k ∧ Hid (ys.length = d.length ∧ RB wx w3.heap.size (.slice Am d.length cm) ys ∧ Below w.heap.size w wx ∧ wx.heap[w.heap.size]? = some (.cells #[.slice Ac c.length cc, .int .i64 e, .slice Ad d.length cd, .int .i64 wq, .int .i64 mo] 60 (0, 0)) ∧ wx.heap[w4.heap.size]? = some (.cells #[.slice An c.length cn, .int .i64 e, .slice Am d.length cm, .int .i64 wq, .int .i64 mo] 60 (0, 0)))) (fun s8 _ => d.length - (intOf s8).toNat)
      case atStart => exact ⟨0, d, by omega, rfl, hid ⟨rfl, H5.out.2.2.2, H5.out.1, H5.out.2.1, H5.out.2.2.1⟩⟩
      case round =>
        obtain ⟨k, ys, hk, rfl, hI⟩ := hrel
        have k2 := blk_cell hI.out.2.2.2.2 2
        have k2 : wr.cell? ⟨w4.heap.size, 2, none⟩ = some (.slice Am d.length cm) := k2
        by_cases hlt : (k : Int) < (d.length : Int)
        · have ho := Kd.own_of_R hI.out.2.1
          have ht := (Kd.R_types hI.out.2.1 hI.out.2.2.2.1 (by simp [Kd.int, Kd.scalar])).1
          have ht2 := (Kd.R_types hI.out.2.1 hI.out.2.2.2.2 (by simp [Kd.int, Kd.scalar])).1
          rw [hI.out.1] at ho
          obtain ⟨g, cap, he, hgb, hgl⟩ := ho.form (by omega)
          obtain ⟨rfl, rfl⟩ : Am = some ⟨g, 0, none⟩ ∧ cm = cap := by injection he with h1 h2 h3; exact ⟨h1, h3⟩
          have hg1 : g ≠ w.heap.size := (ht g rfl).2
          have hg2 : g ≠ w4.heap.size := (ht2 g rfl).2
          obtain ⟨q1, q2⟩ := own_at ho k (by omega) (by exact_mod_cast hlt)
          rw [Int.toNat_natCast] at q1 q2
          have HO := hid ho
          have HN := hid (And.intro hg1 hg2)
          have hw1 : IntKind.i64.wrap ((k : Int) + 1) = (k : Int) + 1 := IntWalk.i64_in _ (by have := HM.out.2; omega)
          clear ho he ht ht2 hg1 hg2
          go_wp2
          refine start_ (n := 11) (S := fun W => W.cell? ⟨w4.heap.size, 2, none⟩ = some (.slice (some ⟨g, 0, none⟩) d.length cm) ∧ W.cell? ⟨g, k, none⟩ = some (.int .u8 (rd ys k)) ∧ W.frozen? ⟨g, k, none⟩ = false) (ds := [10]) #[false, false, false, false, false, false, false, false, false, false, false] (by kernel_rfl) rfl rfl ⟨k2, q1, q2⟩ (fun hHeld => ?_)
          refine pure_ (i := 0) (N := (some 56)) (v := ?_) (a' := ?_) #[true, false, false, false, false, false, false, false, false, false, false] rfl rfl (by kernel_rfl) (fun _ _ _ h => h) (Or.inl ⟨by rfl, ?_⟩) ?_ ?_
          rotate_left
          · intro w'
            go_simp
            with_reducible rfl
          rotate_left
          · simp only [Act.put, List.setIfInBounds_toArray, List.set_cons_zero, List.set_cons_succ, i64_w]
            rfl
          refine take_ (i := 1) (N := (some 57)) (v := ?_) (a' := ?_) #[true, true, false, false, false, false, false, false, false, false, false] rfl rfl (by kernel_rfl) (fun _ _ _ h => h) (Or.inl ⟨by rfl, ?_⟩) hHeld ?_ ?_
          rotate_left
          · rintro w' ⟨s0, s1, s2⟩
            go_simp
            with_reducible rfl
          rotate_left
          · simp only [Act.put, List.setIfInBounds_toArray, List.set_cons_zero, List.set_cons_succ, i64_w]
            rfl
          refine pure_ (i := 2) (N := (some 58)) (v := ?_) (a' := ?_) #[true, true, true, false, false, false, false, false, false, false, false] rfl rfl (by kernel_rfl) (fun _ _ _ h => h) (Or.inl ⟨by rfl, ?_⟩) ?_ ?_
          rotate_left
          · intro w'
            go_simp
            with_reducible rfl
          rotate_left
          · simp only [Act.put, List.setIfInBounds_toArray, List.set_cons_zero, List.set_cons_succ, i64_w]
            rfl
          refine pure_ (i := 3) (N := (some 59)) (v := ?_) (a' := ?_) #[true, true, true, true, false, false, false, false, false, false, false] rfl rfl (by kernel_rfl) (fun _ _ _ h => h) (Or.inl ⟨by rfl, ?_⟩) ?_ ?_
          rotate_left
          · intro w'
            go_simp
            with_reducible rfl
          rotate_left
          · simp only [Act.put, List.setIfInBounds_toArray, List.set_cons_zero, List.set_cons_succ, i64_w]
            rfl
          refine take_ (i := 4) (N := (some 60)) (v := ?_) (a' := ?_) #[true, true, true, true, true, false, false, false, false, false, false] rfl rfl (by kernel_rfl) (fun _ _ _ h => h) (Or.inl ⟨by rfl, ?_⟩) hHeld ?_ ?_
          rotate_left
          · rintro w' ⟨s0, s1, s2⟩
            go_simp
            with_reducible rfl
          rotate_left
          · simp only [Act.put, List.setIfInBounds_toArray, List.set_cons_zero, List.set_cons_succ, i64_w]
            rfl
          refine pure_ (i := 5) (N := (some 61)) (v := ?_) (a' := ?_) #[true, true, true, true, true, true, false, false, false, false, false] rfl rfl (by kernel_rfl) (fun _ _ _ h => h) (Or.inl ⟨by rfl, ?_⟩) ?_ ?_
          rotate_left
          · intro w'
            go_simp
            with_reducible rfl
          rotate_left
          · simp only [Act.put, List.setIfInBounds_toArray, List.set_cons_zero, List.set_cons_succ, i64_w]
            rfl
          refine pure_ (i := 6) (N := (some 62)) (v := ?_) (a' := ?_) #[true, true, true, true, true, true, true, false, false, false, false] rfl rfl (by kernel_rfl) (fun _ _ _ h => h) (Or.inl ⟨by rfl, ?_⟩) ?_ ?_
          rotate_left
          · intro w'
            go_simp
            with_reducible rfl
          rotate_left
          · simp only [Act.put, List.setIfInBounds_toArray, List.set_cons_zero, List.set_cons_succ, i64_w]
            rfl
          refine take_ (i := 7) (N := (some 63)) (v := ?_) (a' := ?_) #[true, true, true, true, true, true, true, true, false, false, false] rfl rfl (by kernel_rfl) (fun _ _ _ h => h) (Or.inl ⟨by rfl, ?_⟩) hHeld ?_ ?_
          rotate_left
          · rintro w' ⟨s0, s1, s2⟩
            go_simp
            with_reducible rfl
          rotate_left
          · simp only [Act.put, List.setIfInBounds_toArray, List.set_cons_zero, List.set_cons_succ, i64_w]
            rfl
          refine pure_ (i := 8) (N := (some 64)) (v := ?_) (a' := ?_) #[true, true, true, true, true, true, true, true, true, false, false] rfl rfl (by kernel_rfl) (fun _ _ _ h => h) (Or.inl ⟨by rfl, ?_⟩) ?_ ?_
          rotate_left
          · intro w'
            go_simp
            with_reducible rfl
          rotate_left
          · simp only [Act.put, List.setIfInBounds_toArray, List.set_cons_zero, List.set_cons_succ, i64_w]
            rfl
          refine pure_ (i := 9) (N := (some 65)) (v := ?_) (a' := ?_) #[true, true, true, true, true, true, true, true, true, true, false] rfl rfl (by kernel_rfl) (fun _ _ _ h => h) (Or.inl ⟨by rfl, ?_⟩) ?_ ?_
          rotate_left
          · intro w'
            go_simp
            with_reducible rfl
          rotate_left
          · simp only [Act.put, List.setIfInBounds_toArray, List.set_cons_zero, List.set_cons_succ, i64_w]
            rfl
          refine last_ (i := 10) (N := none) #[true, true, true, true, true, true, true, true, true, true, true] rfl rfl (by kernel_rfl) (by decide) (fun K hK => ?_)
          go_simp
          refine hK.out _ _ ?_
          clear hK K
          refine done_ (by kernel_rfl) ?_
          go_wp2
          go_roundw
          case rel =>
            obtain ⟨s1, s2⟩ := own_store HO.out (k : Int) (bits BinOp.xor IntKind.u8 (rd ys k) 255)
            refine ⟨k + 1, ys.set k (bits BinOp.xor IntKind.u8 (rd ys k) 255), by omega, by go_num, hid ⟨by rw [List.length_set]; exact hI.out.1, ?_, ?_, ?_, ?_⟩⟩
            · exact Kd.R_of_own (by rw [List.length_set, hI.out.1]; exact s1) (fun _ _ => trivial)
            · exact hI.out.2.2.1.drew.setCell (by show _ ≤ g; omega) _
            · exact blk_far hI.out.2.2.2.1 (fun e => HN.out.1 e.symm) _
            · exact blk_far hI.out.2.2.2.2 (fun e => HN.out.2 e.symm) _
          case measure => simp [intOf]; omega
        · have hH := hid (And.intro hI.out.2.2.1 hI.out.2.2.2.1)
          obtain ⟨l0, l1, l2, l3, l4⟩ := five hI.out.2.2.2.1
          clear hI H5
          go_wp2_with fail
          have hk := imgWrite_yes Ac cc c e Ad cd d wq mo wr (Kd.C_below HC.out.1 hH.out.1) hcc (Kd.C_below HC.out.2.1 hH.out.1) hcd HY.out.1 hm
          rw [← HL.out] at hk
          refine hk.mono ?_
          clear hk
          rintro e' w6 ⟨v, rfl, hR, hb⟩
          obtain ⟨A6, c6, rfl, hc6, hC6⟩ := Kd.R_reads hR
          have H6 := hid (And.intro (below_step hH.out.1 hb) (And.intro (blk_below hH.out.2 hb) hC6))
          clear hb hR hC6 hH k2 l0 l1 l2 l3 l4
          obtain ⟨l0, l1, l2, l3, l4⟩ := five H6.out.2.1
          go_wp2_with fail
          have hk := refWrite_c Ac cc c e Ad cd d wq mo w6 (Kd.C_below HC.out.1 H6.out.1) hcc (Kd.C_below HC.out.2.1 H6.out.1) hcd HY.out.1 hm
          rw [← HL.out] at hk
          refine hk.mono ?_
          clear hk
          rintro e' w7 ⟨v, rfl, hR, hb⟩
          obtain ⟨A7, c7, rfl, hc7, hC7⟩ := Kd.R_reads hR
          have H7 := hid (And.intro (below_step H6.out.1 hb) (And.intro (Kd.C_below H6.out.2.2 hb) hC7))
          clear hb hR hC7 H6 l0 l1 l2 l3 l4
          go_wp2_with fail
          refine (spliceref01_Same.calls (L.length + 1) A6 c6 L A7 c7 L true w7 H7.out.2.1 hc6 H7.out.2.2 hc7 (by rw [refSame_k _ _ (by have := HLN.out; omega) _ (by omega)]; simp)).mono ?_
          rintro e' w9 ⟨rfl, ⟨nd, rfl⟩⟩
          have H9 := hid (pw_below_drewN H7.out.1 nd)
          go_wp2
          go_ret
          exact ⟨rfl, H9.out⟩
theorem keeps15_c (Ac : Option Addr) (cc : Nat) (c : List Int) (e : Int) (Ad : Option Addr) (cd : Nat) (d : List Int) (wq mo : Int) (w : World) (hc : CU w Ac c) (hcc : c.length ≤ cc) (hd : CB w Ad d) (hcd : d.length ≤ cd) (hby : ∀ x ∈ c, 0 ≤ x ∧ x ≤ 4294967295) (hdy : Bytes d) :
    Calls Try.prog 11 #[.agg #[.slice Ac c.length cc, .int .i64 e, .slice Ad d.length cd, .int .i64 wq, .int .i64 mo]] w fun e' w' => e' = .returned (.bool true) ∧ Below w.heap.size w w' := by
  rcases Bool.eq_false_or_eq_true (smallI c d) with h | h
  · rcases Bool.eq_false_or_eq_true (mayB c e d wq mo) with h2 | h2
    · exact keeps15_yes Ac cc c e Ad cd d wq mo w hc hcc hd hcd hby hdy h h2
    · exact keeps15_no Ac cc c e Ad cd d wq mo w hc hcc hd hcd hby hdy h h2
  · exact keeps15_big Ac cc c e Ad cd d wq mo w hc hcc hd hcd hby hdy h
end Go.Proofs.Ytmcfihpbiilbcaa.H
