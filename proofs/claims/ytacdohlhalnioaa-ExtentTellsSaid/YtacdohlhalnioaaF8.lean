/- Contract: the blocks of a file (the document's). -/
import Derived.Test.YtacdohlhalnioaaF7
set_option linter.unusedVariables false
set_option maxRecDepth 20000
namespace Go.Proofs.Ytacdohlhalnioaa
open Go.RowKit
attribute [local go_sem] Oper.semAt_some

theorem own_new (e : TypeId) (w : World) : (w.alloc (.cells #[] e)).ownsRow w.heap.size e 1 (.slice (some ⟨w.heap.size, 0, none⟩) 0 0) 0 [] :=
  ⟨rfl, .inr ⟨w.heap.size, 0, #[], rfl, Nat.le_refl _, blk_new w _, Nat.le_refl _, by simp [maxLen], rfl, rfl⟩⟩
set_option maxHeartbeats 1000000 in
theorem rblocks_no (A : Option Addr) (c : Nat) (v : Vol) (n : Int) (w : World) (hr : RS w A v) (h : getE v n ≠ 0) :
    Calls Try.prog 19 #[.slice A v.length c, .int .i64 n] w fun e w' => ∃ u, e = .returned u ∧ w'.ownsRow w.heap.size 3 1 u 0 (ints []) ∧ Below w.heap.size w w' := by
  have HP := fun w hr => rget18_no A c v n w hr h
  generalize getE v n = er at *
  have hbn : (er != 0) = true := by simpa using h
  have hb : (er == 0) = false := by simpa using h
  have HPl := Lib.hid HP
  have HRR := Lib.hid hr
  clear HP hr
  go_enter Try.func19, Try.ntmps19
  have hb0 : Below w.heap.size w (w.alloc (.cells #[] 3)) := (Below.refl _ _).alloc (Nat.le_refl _) _
  go_wp2_with (go_at_call 55; refine (HPl.out _ (HRR.out.below hb0)).mono ?_; rintro e w1 ⟨rfl, hb1⟩; have B1 := Lib.hid hb1; clear hb1)
  go_ret
  refine ⟨_, rfl, own_below (own_new 3 w) ?_, ?_⟩
  · exact B1.out.alloc B1.out.size _
  · exact (below_keep hb0 (Nat.le_refl _) B1.out).alloc (below_keep hb0 (Nat.le_refl _) B1.out).size _
theorem blocks_snoc (d L : Nat) (v : Vol) (x : Ino) (k : Nat) : (List.range (k + 1)).map (fun k => holeI (atN d L v x k)) = (List.range k).map (fun k => holeI (atN d L v x k)) ++ [holeI (atN d L v x k)] := by
  rw [List.range_succ, List.map_append, List.map_singleton]
set_option maxHeartbeats 4000000 in
theorem rblocks_ok (A : Option Addr) (c : Nat) (v : Vol) (n : Nat) (w : World) (hr : RS w A v) (hv : okV v = true) (h1 : 1 ≤ n) (h2 : n ≤ inosV v) :
    Calls Try.prog 19 #[.slice A v.length c, .int .i64 n] w fun e w' => ∃ u, e = .returned u ∧ w'.ownsRow w.heap.size 3 1 u (blocksV v n).length (ints (blocksV v n)) ∧ Below w.heap.size w w' := by
  obtain ⟨i0, hi0, hz0, hz1, hz2⟩ := info_parts (show (Try.prog.info? 3).map (fun i => (i.zero, i.size, i.bytes)) = some (some (.int .i64 0), 1, 8) by kernel_rfl)
  have HOK := okV_iff.1 hv
  have hd0 : 0 < dataV v := by rw [dataV]; omega
  have HS := Lib.hid HOK.size
  have HV := Lib.hid hv
  have HR := Lib.hid hr
  clear hv hr HOK
  have hget := Lib.hid (fun w hr => rget18_ok A c v n w hr HV.out h1 h2)
  have hdat := Lib.hid (fun w hr => rdata_ok A c v w hr HV.out)
  rw [blocksV]
  obtain ⟨d, hd⟩ : ∃ d, dataV v = d := ⟨_, rfl⟩
  obtain ⟨x, hX⟩ : ∃ x, inoV v n = x := ⟨_, rfl⟩
  rw [hd] at hd0 hdat ⊢
  rw [hX] at hget ⊢
  clear hd hX
  obtain ⟨s, hsx⟩ : ∃ s, sizeX x = s := ⟨_, rfl⟩
  have hs8 : s ≤ 8960 := by rw [← hsx, sizeX]; omega
  rw [hsx]
  obtain ⟨m, hm⟩ : ∃ m, needS s = m := ⟨_, rfl⟩
  have hm70 : m ≤ 70 := by rw [← hm, needS]; omega
  rw [hm]
  have HM := Lib.hid hm
  have HSX := Lib.hid hsx
  clear hm hsx
  have hbA : Below w.heap.size w (w.alloc (.cells #[] 3)) := (Below.refl _ _).alloc (Nat.le_refl _) _
  have hsA : (w.alloc (.cells #[] 3)).heap.size = w.heap.size + 1 := by simp
  have hown0 := own_new 3 w
  go_enter Try.func19, Try.ntmps19
  have HO0 := Lib.hid hown0
  have HBA := Lib.hid hbA
  clear hown0 hbA
  go_wp2_with (first
    | (go_at_call 55; refine (hget.out _ (HR.out.below HBA.out)).mono ?_; rintro e w1 ⟨rfl, hb1⟩; have B1 := Lib.hid hb1; clear hb1)
    | (go_at_call 56; refine (hdat.out _ (HR.out.below (below_keep HBA.out (Nat.le_refl _) (B1.out.alloc B1.out.size _)))).mono ?_; rintro e w2 ⟨rfl, hb2⟩; have B2 := Lib.hid (below_keep (B1.out.alloc B1.out.size _) (Nat.le_refl _) hb2); have K2 := Lib.hid (blk_keep (blk_new w1 (.cells #[.int .i64 ((x.kind : Nat) : Int), .int .i64 ((x.links : Nat) : Int), .int .i64 ((x.owner : Nat) : Int), .int .i64 ((x.size : Nat) : Int), .int .i64 ((x.d0 : Nat) : Int), .int .i64 ((x.d1 : Nat) : Int), .int .i64 ((x.d2 : Nat) : Int), .int .i64 ((x.d3 : Nat) : Int), .int .i64 ((x.d4 : Nat) : Int), .int .i64 ((x.d5 : Nat) : Int), .int .i64 ((x.ind : Nat) : Int), .int .i64 ((x.ext : Nat) : Int)] 45)) hb2); clear hb2))
  have hs1 := B1.out.size
  have hs2 := B2.out.size
  have hq2 := blk_lt K2.out
  have HO2 := Lib.hid (own_below HO0.out B2.out)
  have HB2 := Lib.hid (below_keep HBA.out (Nat.le_refl _) B2.out)
  generalize w1.heap.size = q at *
  have hwq : w.heap.size < q := by omega
  go_loopw [5, 9] (fun uv iv wr => ∃ k : Nat, k ≤ m ∧ iv = .int .i64 k ∧ Hid (wr.ownsRow w.heap.size 3 1 uv k (ints ((List.range k).map fun k => holeI (atN d v.length v x k))) ∧ (∀ g, uv.ownBlock = some g → g ≠ q)) ∧ Hid (wr.heap[q]? = some (.cells #[.int .i64 ((x.kind : Nat) : Int), .int .i64 ((x.links : Nat) : Int), .int .i64 ((x.owner : Nat) : Int), .int .i64 ((x.size : Nat) : Int), .int .i64 ((x.d0 : Nat) : Int), .int .i64 ((x.d1 : Nat) : Int), .int .i64 ((x.d2 : Nat) : Int), .int .i64 ((x.d3 : Nat) : Int), .int .i64 ((x.d4 : Nat) : Int), .int .i64 ((x.d5 : Nat) : Int), .int .i64 ((x.ind : Nat) : Int), .int .i64 ((x.ext : Nat) : Int)] 45 (0, 0))) ∧ Hid (Below w.heap.size w wr)) (fun _ iv _ => 70 - (intOf iv).toNat)
  case atStart => exact ⟨0, by omega, rfl, ⟨HO2.out, fun g e => by have e2 : some w.heap.size = some g := e; have := Option.some.inj e2; omega⟩, K2, HB2⟩
  case round =>
    obtain ⟨k, hk, rfl, ho, hq, hB⟩ := hrel
    obtain ⟨ua, uc, rfl⟩ := own_slice ho.out.1
    obtain ⟨q0, q1, q2, q3, q4, q5, q6, q7, q8, q9, q10, q11⟩ := cells12 hq.out
    by_cases hlt : k < m
    · have hki : (k : Int) < (m : Nat) := by omega
      have hsn := blocks_snoc d v.length v x k
      obtain ⟨l, hl⟩ : ∃ l, (List.range k).map (fun k => holeI (atN d v.length v x k)) = l := ⟨_, rfl⟩
      obtain ⟨b, hb⟩ : ∃ b, atN d v.length v x k = b := ⟨_, rfl⟩
      rw [hb, hl] at hsn
      rw [hl] at ho
      have HSN := Lib.hid hsn
      have HBB := Lib.hid hb
      clear hsn hl hb
      have hh : (b = 0 ∧ holeI b = -1) ∨ (b ≠ 0 ∧ holeI b = b) := by
        unfold holeI
        split
        · rename_i h; exact .inl ⟨h, rfl⟩
        · rename_i h; exact .inr ⟨h, rfl⟩
      obtain ⟨hb, hhb⟩ : ∃ z, holeI b = z := ⟨_, rfl⟩
      rw [hhb] at hh
      have HHB := Lib.hid hhb
      clear hhb
      rcases hh with ⟨rfl, rfl⟩ | ⟨hne, rfl⟩
      all_goals
        go_wp2_with (first
          | (go_at_call 58; refine (rsize_ok x _).mono ?_; rw [HSX.out]; rintro e w3 ⟨rfl, hb3⟩; have hq3 := blk_keep hq.out hb3; obtain ⟨q0, q1, q2, q3, q4, q5, q6, q7, q8, q9, q10, q11⟩ := cells12 hq3; have B3 := Lib.hid hb3; have Q3 := Lib.hid hq3; clear hb3 hq3)
          | (go_at_call 57; refine (rblocks1_ok s _ hs8).mono ?_; rw [HM.out]; rintro e w3 ⟨rfl, rfl⟩)
          | (go_at_call 59; refine (rat_ok A c d v.length v x k _ ((HR.out.below hB.out).below B3.out) rfl (by omega) hd0 HS.out).mono ?_; rw [HBB.out]; rintro e w4 ⟨rfl, hb4⟩; have B4 := Lib.hid (below_keep B3.out (Nat.le_refl _) hb4); clear hb4)
          | (at_builtin; refine wpList_append_own_at _ rfl _ _ 26 rfl w.heap.size 3 i0 (.int .i64 0) 1 8 Try.underlying26 hi0 hz0 hz1 hz2 rfl (by decide) _ k _ rfl (own_below ho.out.1 (B4.out.alloc B4.out.size _)) ⟨w4.heap.size, 0, none⟩ 1 1 [.int .i64 _] rfl rfl (cell_one_new _ _ _) (by simp [Value.oneCell']) (by simp only [maxLen]; omega) (by omega) (by have := B4.out.size; have := hB.out.size; simp; omega) ?_; intro u' w5 hown' hgrow _ howb; have EG := Lib.hid hgrow; have EO := Lib.hid hown'; have EB := Lib.hid howb; clear hgrow hown' howb))
        have hsz4 := B4.out.size
        have hro : ∀ r, (Value.slice ua k uc).ownBlock = some r → w.heap.size ≤ r := fun r e => (ho.out.1.lt r e).1
        have hlr := blk_lt hq.out
        have hk5 : w5.heap[q]? = some (.cells #[.int .i64 ((x.kind : Nat) : Int), .int .i64 ((x.links : Nat) : Int), .int .i64 ((x.owner : Nat) : Int), .int .i64 ((x.size : Nat) : Int), .int .i64 ((x.d0 : Nat) : Int), .int .i64 ((x.d1 : Nat) : Int), .int .i64 ((x.d2 : Nat) : Int), .int .i64 ((x.d3 : Nat) : Int), .int .i64 ((x.d4 : Nat) : Int), .int .i64 ((x.d5 : Nat) : Int), .int .i64 ((x.ind : Nat) : Int), .int .i64 ((x.ext : Nat) : Int)] 45 (0, 0)) := (EG.out.block q (by simp; omega) (fun e => ho.out.2 q e.symm rfl)).trans (blk_keep hq.out (B4.out.alloc B4.out.size _))
        have hB5 : Below w.heap.size w w5 := (below_keep hB.out (by have := hB.out.size; omega) (B4.out.alloc B4.out.size _)).grown EG.out (by have := hB.out.size; simp; omega) (fun r e => hro r e)
        refine ⟨⟨k + 1, by omega, by go_num, ⟨?_, fun r e => ?_⟩, hk5, hB5⟩, by simp only [intOf]; omega⟩
        · rw [HSN.out, HHB.out, ints, List.map_append]
          exact EO.out
        · rcases EB.out with h | h
          · rw [h] at e
            exact ho.out.2 r e
          · rw [h] at e
            have := Option.some.inj e
            simp at this
            omega
    · obtain rfl : k = m := by omega
      go_wp2_with (first
          | (go_at_call 58; refine (rsize_ok x _).mono ?_; rw [HSX.out]; rintro e w3 ⟨rfl, hb3⟩; have B3 := Lib.hid hb3; clear hb3)
          | (go_at_call 57; refine (rblocks1_ok s _ hs8).mono ?_; rw [HM.out]; rintro e w3 ⟨rfl, rfl⟩))
      go_ret
      refine ⟨_, rfl, ?_, below_keep hB.out (by have := hB.out.size; omega) B3.out⟩
      have := own_below ho.out.1 B3.out
      simpa using this
end Go.Proofs.Ytacdohlhalnioaa
