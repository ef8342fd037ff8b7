/- Contract: how many blocks an inode has. -/
import Derived.Test.YtacdohlhalnioaaE5
set_option linter.unusedVariables false
set_option maxRecDepth 20000
namespace Go.Proofs.Ytacdohlhalnioaa
open Go.RowKit
attribute [local go_sem] Oper.semAt_some

set_option maxHeartbeats 400000 in
theorem blocks_no (A : Option Addr) (c : Nat) (v : Vol) (n : Int) (w : World) (hr : RS w A v) (h : getE v n ≠ 0) :
    Calls Try.prog 18 #[.slice A v.length c, .int .i64 n] w fun e w' => e = .returned (.slice none 0 0) ∧ Below w.heap.size w w' := by
  have HP := Lib.hid (fun w hr => open_no A c v n w hr h)
  have HR := Lib.hid hr
  clear hr
  generalize getE v n = er at *
  have hb : (er == 0) = false := by simpa using h
  have hbn : (er != 0) = true := by simpa using h
  refine callsIn_wide.1 (callsIn_of_wp_marks (n := 3) Try.func18 rfl trivial (wpIn_wide.2 ?_) rfl)
  simp only [Try.ntmps18, List.size_toArray, List.length_cons, List.length_nil, Nat.reduceAdd, Nat.reduceSub, Array.replicate_succ, Array.replicate_zero, List.push_toArray, List.append_toArray, List.nil_append, List.cons_append]
  go_wp2_with (go_at_call 51; refine (HP.out _ HR.out).mono ?_; rintro e w1 ⟨rfl, hb1⟩)
  exact ⟨_, results_tmp rfl _ _ _, rfl, hb1⟩

theorem index2 (a b : Value) (i : Int) (W : World) (h : i = 0 ∨ i = 1) : (Instr.index 23 (.agg #[a, b]) (.int .i64 i)).run Try.prog W = .ok (if i = 0 then a else b) W := by
  rcases h with rfl | rfl <;> rfl
def cntTo (d L : Nat) (v : Vol) (x : Ino) (l : List Nat) : Nat := (l.filter fun k => atN d L v x k != 0).length
def one (b : Bool) : Nat := if b then 1 else 0
/-- How many blocks an inode has. -/
def countV (v : Vol) (n : Nat) : Nat := cntTo (dataV v) v.length v (inoV v n) (List.range 70) + one (goodN (dataV v) v.length (inoV v n).ind) + one (goodN (dataV v) v.length (inoV v n).ext)
theorem cntTo_snoc (d L : Nat) (v : Vol) (x : Ino) (l : List Nat) (k : Nat) : cntTo d L v x (l ++ [k]) = cntTo d L v x l + (if atN d L v x k = 0 then 0 else 1) := by
  by_cases h : atN d L v x k = 0
  · simp [cntTo, List.filter_append, h]
  · simp [cntTo, List.filter_append, h]
theorem cntTo_le (d L : Nat) (v : Vol) (x : Ino) (l : List Nat) : cntTo d L v x l ≤ l.length := List.length_filter_le _ _
set_option maxHeartbeats 4000000 in
theorem count_ok (A : Option Addr) (c : Nat) (v : Vol) (n : Nat) (w : World) (hr : RS w A v) (hv : okV v = true) (h1 : 1 ≤ n) (h2 : n ≤ inosV v) (hx : (inoV v n).size < 4294967296) :
    Calls Try.prog 22 #[.slice A v.length c, .int .i64 n] w fun e w' => e = .returned (.int .i64 (countV v n)) ∧ Below w.heap.size w w' := by
  have HOK := okV_iff.1 hv
  have h1' := HOK.lo
  have h2' := HOK.hi
  have hd0 : 0 < dataV v := by rw [dataV]; omega
  have HS := Lib.hid HOK.size
  have HV := Lib.hid hv
  have HR := Lib.hid hr
  clear hv hr HOK
  obtain ⟨d, hd⟩ : ∃ d, dataV v = d := ⟨_, rfl⟩
  obtain ⟨x, hX⟩ : ∃ x, inoV v n = x := ⟨_, rfl⟩
  rw [countV]
  rw [hd] at hd0 ⊢
  rw [hX] at hx ⊢
  have hop := Lib.hid (fun w hr => open_ok A c v n w hr HV.out h1 h2)
  rw [hd, hX] at hop
  have HD := Lib.hid hd
  have HX := Lib.hid hX
  clear hd hX
  refine callsIn_wide.1 (callsIn_of_wp_marks (n := 3) Try.func22 rfl trivial (wpIn_wide.2 ?_) rfl)
  simp only [Try.ntmps22, List.size_toArray, List.length_cons, List.length_nil, Nat.reduceAdd, Nat.reduceSub, Array.replicate_succ, Array.replicate_zero, List.push_toArray, List.append_toArray, List.nil_append, List.cons_append]
  go_wp2_with (first
    | (go_at_call 51; refine (hop.out _ HR.out).mono ?_; rintro e w1 ⟨F, g, cg, rfl, hf1, hF, hg, hb1⟩; have hf2 := hf1.keep ((Below.refl _ _).alloc (Nat.le_refl _) (.cells #[.int .i64 0] 3)); have HF2 := Lib.hid hf2; have HF1 := Lib.hid hf1; have HB1 := Lib.hid hb1; clear hf1 hf2 hb1)
    | (go_at_call 52; refine (all_ok F 70 _).mono ?_; rintro e w2 ⟨rfl, rfl⟩))
  have hf1 := HF1.out
  have hlt1 := hf1.lt
  have hlt2 := hf1.vol.lt
  obtain ⟨W0, hW0⟩ : ∃ W0, ((w1.alloc (.cells #[.int .i64 0] 3)).alloc (.cells #[.pointer (some ⟨F, 0, none⟩)] 75)).alloc (.cells #[.int .i64 (70 : Nat)] 3) = W0 := ⟨_, rfl⟩
  obtain ⟨k0, k1, k2, hsz, hB0⟩ := alloc3 _ _ _ _ _ hW0
  simp only [Int.cast_ofNat_Int] at hW0
  rw [hW0]
  have hA0 := hf1.keep hB0
  have hBw := below_keep HB1.out (Nat.le_refl _) hB0
  have hs1 := HB1.out.size
  generalize w1.heap.size = q at *
  clear hW0 hf1
  have HA0 := Lib.hid hA0
  clear hA0
  refine wp_rangeFunc (α := Fin 70) (gf := 95) (lb := #[.pointer (some ⟨q + 1 + 1, 0, none⟩), .pointer (some ⟨q + 1, 0, none⟩)]) rfl (enters_of Try.func95 (by kernel_rfl) rfl)
    (all_stops 2 F g cg v.length (inosV v) d n (q + 2) (q + 1) 70 v x (fun k => k = q) W0 k2 k1 HA0.out (by omega) (by omega) (by omega) (by omega) (by omega) hd0 HS.out h2') (fun _ => rfl)
    (fun pre W => Hid (W.heap[q]? = some (.cells #[.int .i64 (cntTo d v.length v x (pre.map fun (k : Fin 70) => k.val))] 3 (0, 0)) ∧ FileAt W F g cg v.length (inosV v) d n v x ∧ Below w.heap.size w W ∧ q + 3 ≤ W.heap.size))
    (fun _ _ _ => False)
    ?own (fun _ _ _ _ _ hs _ _ => hs) ⟨k0, HA0.out, hBw, by omega⟩
    (fun k => { tmps := #[Value.slice A (List.length v) c, Value.int IntKind.i64 ((n : Nat) : Int), undef, undef, Value.int IntKind.i64 0, Value.pointer (some ⟨F, 0, none⟩), Value.int IntKind.i64 0, Value.pointer (some ⟨q, 0, none⟩), undef, .int .i64 (holeI (atN d v.length v x k)), undef, undef, Value.tuple #[Value.pointer (some ⟨F, 0, none⟩), Value.int IntKind.i64 0], Value.slice A (List.length v) c, Value.int IntKind.i64 ((n : Nat) : Int), Value.tuple #[Value.pointer (some ⟨F, 0, none⟩), Value.int IntKind.i64 0], Value.pointer (some ⟨F, 0, none⟩), Value.int IntKind.i64 0, Value.int IntKind.i64 0, Value.bool false, Value.pointer (some ⟨F, 0, none⟩), Value.func (Fn.func 95) #[] #[Value.pointer (some ⟨q + 1 + 1, 0, none⟩), Value.pointer (some ⟨q + 1, 0, none⟩)], .int .i64 ((k : Nat) : Int), .int .i64 (holeI (atN d v.length v x k)), undef, undef, undef, undef, undef, undef, undef, undef, undef, undef, undef, undef, undef, undef, undef, undef, undef, undef, undef, undef, undef, undef, undef, undef, undef], defers := [] }) ?assign ?body ?done ?stop
  case own =>
    rintro pre A B row ⟨e1, e2, e3, e4⟩ hg hr
    have hr' : ∀ r, row = some r → ∃ o : Obj, A.heap[r]? = some o ∧ o.isCells = false := fun r e => (hr r e).2
    obtain ⟨cur, hgg, hcc⟩ := e2.vol
    exact ⟨cells_grown e1 hg hr', ⟨cells_grown e2.blk hg hr', ⟨cur, cells_grown hgg hg hr', hcc⟩, e2.len, e2.ne⟩, e3.grown hg (by omega) (fun r e => by have := (hr r e).1; omega), Nat.le_trans e4 hg.size⟩
  case assign =>
    intro l k W K hK
    gi_wp2
    exact hK
  case body =>
    rintro l pre k W ⟨e1, e2, e3, e4⟩ hlen
    have hle := cntTo_le d v.length v x (pre.map fun (k : Fin 70) => k.val)
    rw [List.length_map] at hle
    have hsn := cntTo_snoc d v.length v x (pre.map fun (k : Fin 70) => k.val) k
    obtain ⟨z, hz⟩ : ∃ z, cntTo d v.length v x (pre.map fun (k : Fin 70) => k.val) = z := ⟨_, rfl⟩
    rw [hz] at e1 hle hsn
    have hcu : W.cell? ⟨q, 0, none⟩ = some (.int .i64 z) := by rw [cell_at e1]; rfl
    have hfq := free_of e1 0
    obtain ⟨b, hb⟩ : ∃ b, atN d v.length v x k = b := ⟨_, rfl⟩
    have hmp : ((pre ++ [k]).map fun (k : Fin 70) => k.val) = (pre.map fun (k : Fin 70) => k.val) ++ [k.val] := by simp
    have E1 := Lib.hid e1
    have E2 := Lib.hid e2
    have E3 := Lib.hid e3
    rw [hb] at hsn ⊢
    have HBB := Lib.hid hb
    have HSN := Lib.hid hsn
    have HMP := Lib.hid hmp
    clear e1 e2 e3 hb hz hsn hmp
    by_cases h0 : b = 0
    · subst h0
      rw [show holeI 0 = -1 from rfl]
      gi_wp2
      refine ⟨KeepsOthers.refl _, KpC.refl _ _, ?_, E2.out, E3.out, e4⟩
      rw [HMP.out, HSN.out]
      exact E1.out
    · rw [show holeI b = (b : Int) from if_neg h0]
      have hbm : ((b : Int) == -1) = false := by rw [beq_eq_false_iff_ne]; omega
      gi_wp2
      have hne1 : F ≠ q := by omega
      have hne2 : g ≠ q := by omega
      refine ⟨KeepsOthers.setCell _ _ _, KpC.setCell (F := fun k => k = q) (KpC.refl _ _) rfl _, ?_, ⟨blk_set_other E2.out.blk hne1 _ _, E2.out.vol.other hne2, E2.out.len, E2.out.ne⟩, below_set E3.out (by omega), by simpa using e4⟩
      rw [HMP.out, HSN.out, if_neg h0]
      have := blk_set E1.out 0 (.int .i64 ((z : Int) + 1))
      simpa using this
  case done =>
    rintro D xs W hD rfl ⟨e1, e2, e3, e4⟩ hK
    have hxs : ((List.finRange 70).map fun (k : Fin 70) => k.val) = List.range 70 := (List.ext_getElem (by simp) (by simp)).symm
    rw [hxs] at e1
    have hle := cntTo_le d v.length v x (List.range 70)
    rw [List.length_range] at hle
    obtain ⟨z, hz⟩ : ∃ z, cntTo d v.length v x (List.range 70) = z := ⟨_, rfl⟩
    rw [hz] at e1 hle
    have HZ := Lib.hid hz
    have c18 : W.cell? ⟨F, 18, none⟩ = some (.int .i64 x.ind) := by rw [cell_at e2.blk]; rfl
    have c19 : W.cell? ⟨F, 19, none⟩ = some (.int .i64 x.ext) := by rw [cell_at e2.blk]; rfl
    have E1 := Lib.hid e1
    have E2 := Lib.hid e2
    have E3 := Lib.hid e3
    have HK := Lib.hid hK
    clear e1 e2 e3 hK k0 k1 k2 hz hxs
    go_wp2
    go_quiet (fail)
    rename_i nq
    have hQD := below_drewN' W nq
    generalize W.drewN nq = WD at *
    have hD0 : Hid (WD.heap[q]? = some (.cells #[.int .i64 ((z + 0 : Nat) : Int)] 3 (0, 0)))   := blk_keep E1.out hQD
    have hD1 : Hid (FileAt WD F g cg v.length (inosV v) d n v x) := E2.out.keep hQD
    have hD2 : Hid (Below w.heap.size w WD) := below_keep E3.out (Nat.le_refl _) hQD
    have hD3 : Hid (WD.heap[D]? = some (.deferred (some []))) := blk_keep HK.out hQD
    clear c18 c19
    have hix0 := fun W => index2 (.int .i64 x.ind) (.int .i64 x.ext) 0 W (.inl rfl)
    have hix1 := fun W => index2 (.int .i64 x.ind) (.int .i64 x.ext) 1 W (.inr rfl)
    simp only [Int.reduceToNat, List.getElem_toArray, List.getElem_cons_zero, List.getElem_cons_succ] at hix0 hix1
    go_wp2
    go_loopw [11, 39] (fun _ iv wr => ∃ k cc : Nat, k ≤ 2 ∧ iv = .int .i64 k ∧ cc ≤ k ∧ Hid (cc = (if k = 0 then 0 else if k = 1 then one (goodN d v.length x.ind) else one (goodN d v.length x.ind) + one (goodN d v.length x.ext))) ∧ Hid (wr.heap[q]? = some (.cells #[.int .i64 ((z + cc : Nat) : Int)] 3 (0, 0))) ∧ Hid (FileAt wr F g cg v.length (inosV v) d n v x) ∧ Hid (Below w.heap.size w wr) ∧ Hid (wr.heap[D]? = some (.deferred (some [])))) (fun _ iv _ => 2 - (intOf iv).toNat)
    case atStart => exact ⟨0, 0, by omega, rfl, by omega, rfl, hD0, hD1, hD2, hD3⟩
    case round =>
      obtain ⟨k, cc, hk, rfl, hcc, HC, e1, e2, e3, hK⟩ := hrel
      have hcu : wr.cell? ⟨q, 0, none⟩ = some (.int .i64 ((z + cc : Nat) : Int)) := by rw [cell_at e1.out]; rfl
      have hfq := free_of e1.out 0
      have hne1 : F ≠ q := by omega
      have hne2 : g ≠ q := by omega
      have hnd : D ≠ q := by omega
      by_cases hk2 : k < 2
      · obtain ⟨b, hb⟩ : ∃ b, (if k = 0 then x.ind else x.ext) = b := ⟨_, rfl⟩
        have hcn : cc + one (goodN d v.length b) = (if k + 1 = 0 then 0 else if k + 1 = 1 then one (goodN d v.length x.ind) else one (goodN d v.length x.ind) + one (goodN d v.length x.ext)) := by
          rw [HC.out, ← hb]
          rcases (by omega : k = 0 ∨ k = 1) with rfl | rfl <;> simp
        have HCN := Lib.hid hcn
        clear hcn
        have hsplit : (k = 0 ∧ x.ind = b) ∨ (k = 1 ∧ x.ext = b) := by
          rcases (by omega : k = 0 ∨ k = 1) with rfl | rfl
          · exact .inl ⟨rfl, by simpa using hb⟩
          · exact .inr ⟨rfl, by simpa using hb⟩
        clear hb HC
        by_cases hgd : goodN d v.length b = true
        · rw [hgd] at HCN
          rcases hsplit with ⟨rfl, rfl⟩ | ⟨rfl, rfl⟩
          all_goals
            go_wp2_with (go_at_call 63; refine (good_ok _ _ _ _ _ _ _ _ _ _ _ e2.out).mono ?_; rw [hgd]; rintro e w3 ⟨rfl, rfl⟩)
            refine ⟨⟨_, cc + 1, ?_, by go_num, ?_, HCN, ?_, ⟨blk_set_other e2.out.blk hne1 _ _, e2.out.vol.other hne2, e2.out.len, e2.out.ne⟩, below_set e3.out (by omega), blk_set_other hK.out hnd _ _⟩, ?_⟩
            · omega
            · omega
            · have := blk_set e1.out 0 (.int .i64 ((z : Int) + cc + 1))
              exact this
            · simp only [intOf]; omega
        · have hgd' : goodN d v.length b = false := by simpa using hgd
          rw [hgd'] at HCN
          rcases hsplit with ⟨rfl, rfl⟩ | ⟨rfl, rfl⟩
          all_goals
            go_wp2_with (go_at_call 63; refine (good_ok _ _ _ _ _ _ _ _ _ _ _ e2.out).mono ?_; rw [hgd']; rintro e w3 ⟨rfl, rfl⟩)
            refine ⟨⟨_, cc, ?_, by go_num, ?_, HCN, e1, e2, e3, hK⟩, ?_⟩
            · omega
            · omega
            · simp only [intOf]; omega
      · obtain rfl : k = 2 := by omega
        go_wp2
        refine ⟨by simp, .inl ⟨_, _, rfl, run_takeDeferred hK.out, ?_⟩⟩
        refine ⟨_, results_tmp rfl _ _ _, ?_, below_putD e3.out (by omega) hK.out⟩
        refine ret_int ?_
        rw [HZ.out]
        have := HC.out
        simp at this
        omega
  case stop =>
    rintro D c pre W _ _ h _
    exact h.elim
end Go.Proofs.Ytacdohlhalnioaa
