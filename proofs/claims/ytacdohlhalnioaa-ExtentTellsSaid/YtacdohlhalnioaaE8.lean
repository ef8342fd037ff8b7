/- Contract: bytes of a file are read. -/
import Derived.Test.YtacdohlhalnioaaE7
import Derived.Test.YtacdohlhalnioaaR2
set_option linter.unusedVariables false
set_option maxRecDepth 20000
namespace Go.Proofs.Ytacdohlhalnioaa
open Go.RowKit
attribute [local go_sem] Oper.semAt_some

theorem ret_str_int {a b : Blk} {i : Int} (h : a = b) : Ending.returned (.tuple #[.string (mk a), .int .i64 i]) = .returned (.tuple #[.string (mk b), .int .i64 i]) := by rw [h]
set_option maxHeartbeats 4000000 in
theorem read_ok (A : Option Addr) (c : Nat) (v : Vol) (n off sz : Nat) (w : World) (hr : RS w A v) (hv : okV v = true) (h1 : 1 ≤ n) (h2 : n ≤ inosV v) (hx : (inoV v n).size < 4294967296) :
    Calls Try.prog 20 #[.slice A v.length c, .int .i64 n, .int .i64 off, .int .i64 sz] w fun e w' => e = .returned (.tuple #[.string (mk (readV v n off sz)), .int .i64 0]) ∧ Below w.heap.size w w' := by
  have HOK := okV_iff.1 hv
  have h1' := HOK.lo
  have h2' := HOK.hi
  have hd0 : 0 < dataV v := by rw [dataV]; omega
  have HS := Lib.hid HOK.size
  have HV := Lib.hid hv
  have HR := Lib.hid hr
  clear hv hr HOK
  obtain ⟨d, hd⟩ : ∃ d, dataV v = d := ⟨_, rfl⟩
  obtain ⟨x, hX⟩ : ∃ x, inoV v n = x := ⟨_, rfl⟩
  rw [readV, contV]
  rw [hd] at hd0 ⊢
  rw [hX] at hx ⊢
  obtain ⟨s, hsx⟩ : ∃ s, sizeX x = s := ⟨_, rfl⟩
  have hs8 : s ≤ 8960 := by rw [← hsx, sizeX]; omega
  have hmin : min x.size 8960 = s := hsx
  rw [hsx]
  obtain ⟨m, hm⟩ : ∃ m, needS s = m := ⟨_, rfl⟩
  have hm70 : m ≤ 70 := by rw [← hm, needS]; omega
  have hms : (s + 127) / 128 = m := hm
  have hsm : s ≤ 128 * m := by rw [← hm, needS]; omega
  rw [hm]
  have hop := Lib.hid (fun w hr => open_ok A c v n w hr HV.out h1 h2)
  rw [hd, hX] at hop
  have HD := Lib.hid hd
  have HX := Lib.hid hX
  have HM := Lib.hid hm
  have HSX := Lib.hid hsx
  have HMN := Lib.hid hmin
  clear hd hX hm hsx hmin
  have ho0 : (0 : Int) ≤ (off : Int) := by omega
  have hz0 : (0 : Int) ≤ (sz : Int) := by omega
  refine callsIn_wide.1 (callsIn_of_wp_marks (n := 3) Try.func20 rfl trivial (wpIn_wide.2 ?_) rfl)
  simp only [Try.ntmps20, List.size_toArray, List.length_cons, List.length_nil, Nat.reduceAdd, Nat.reduceSub, Array.replicate_succ, Array.replicate_zero, List.push_toArray, List.append_toArray, List.nil_append, List.cons_append]
  go_wp2_with (go_at_call 51; refine (hop.out _ HR.out).mono ?_; rintro e w1 ⟨F, g, cg, rfl, hf1, hF, hg, hb1⟩; have HF1 := Lib.hid hf1; have HB1 := Lib.hid hb1; clear hf1 hb1)
  have hf2 := HF1.out.keep (((Below.refl _ _).alloc (Nat.le_refl _) (.cells #[.pointer (some ⟨F, 0, none⟩)] 75)).alloc (by simp) (.cells #[.pointer none, .slice none 0 0] 87))
  have hq0 : ((w1.alloc (.cells #[.pointer (some ⟨F, 0, none⟩)] 75)).alloc (.cells #[.pointer none, .slice none 0 0] 87)).heap[w1.heap.size]? = some (.cells #[.pointer (some ⟨F, 0, none⟩)] 75 (0, 0)) := heap_alloc_lt _ _ _ _ (blk_new _ _)
  have hq1 : ((w1.alloc (.cells #[.pointer (some ⟨F, 0, none⟩)] 75)).alloc (.cells #[.pointer none, .slice none 0 0] 87)).heap[w1.heap.size + 1]? = some (.cells #[.pointer none, .slice none 0 0] 87 (0, 0)) := heap_alloc_at _ _ _ (by simp)
  have hqs : ((w1.alloc (.cells #[.pointer (some ⟨F, 0, none⟩)] 75)).alloc (.cells #[.pointer none, .slice none 0 0] 87)).heap.size = w1.heap.size + 2 := by simp
  have hB2 : Below w.heap.size w ((w1.alloc (.cells #[.pointer (some ⟨F, 0, none⟩)] 75)).alloc (.cells #[.pointer none, .slice none 0 0] 87)) := (HB1.out.alloc HB1.out.size _).alloc (by have := HB1.out.size; simp; omega) _
  have hs1 := HB1.out.size
  have hltF := HF1.out.lt
  have hltg := HF1.out.vol.lt
  generalize (w1.alloc (.cells #[.pointer (some ⟨F, 0, none⟩)] 75)).alloc (.cells #[.pointer none, .slice none 0 0] 87) = W1 at *
  generalize w1.heap.size = q at *
  have HF2 := Lib.hid hf2
  have HQ0 := Lib.hid hq0
  have HQ1 := Lib.hid hq1
  have HB2 := Lib.hid hB2
  have c10 : W1.cell? ⟨q, 0, none⟩ = some (.pointer (some ⟨F, 0, none⟩)) := by rw [cell_at hq0]; rfl
  clear hf2 hq0 hq1 hB2 HF1 HB1
  refine wp_noPanic ?_
  refine region_P (fun w' => w'.cell? ⟨q, 0, none⟩ = some (.pointer (some ⟨F, 0, none⟩))) [] (by kernel_rfl) ?_ (fun hHeld => ?_)
  · exact c10
  refine wpP_take (i := 0) (oi := ?oi192001) (v := ?v192001) ?hi192001 (by kernel_rfl) (by kernel_rfl) (by kernel_rfl) (by kernel_rfl) ?hQ192001 ?hy192001 (by assumption) ?rest192001
  case hi192001 => (simp only [List.getElem?_toArray, List.getElem?_cons_succ, List.getElem?_cons_zero]; exact rfl)
  case hQ192001 => exact fun _ _ _ h => (h.1 _ rfl).elim
  case hy192001 => (refine Or.inl ⟨by kernel_rfl, ?_⟩; intro w hSw; (try dsimp only at hSw); go_simp; try (with_reducible rfl))
  try simp only [Act.put, List.setIfInBounds_toArray, List.set_cons_zero, List.set_cons_succ]
  refine wpP_take (i := 1) (oi := ?oi192002) (v := ?v192002) ?hi192002 (by kernel_rfl) (by kernel_rfl) (by kernel_rfl) (by kernel_rfl) ?hQ192002 ?hy192002 (by assumption) ?rest192002
  case hi192002 => (simp only [List.getElem?_toArray, List.getElem?_cons_succ, List.getElem?_cons_zero]; exact rfl)
  case hQ192002 => exact fun _ _ _ h => (h.1 _ rfl).elim
  case hy192002 => (refine Or.inl ⟨by kernel_rfl, ?_⟩; intro w hSw; (try dsimp only at hSw); go_simp; try (with_reducible rfl))
  try simp only [Act.put, List.setIfInBounds_toArray, List.set_cons_zero, List.set_cons_succ]
  refine wpP_ready (rs := [2]) (by kernel_rfl) (by simp) ?_
  refine AllP.cons (o := ?o192003) ?ho192003 (fun K hK => ?_) AllP.nil
  case ho192003 => (simp only [List.getElem?_toArray, List.getElem?_cons_succ, List.getElem?_cons_zero]; exact rfl)
  go_simp
  go_at_call 54
  refine (size_ok _ _ _ _ _ _ _ _ _ _ (HF2.out.keep ((Below.refl _ _).drew)) hx).mono ?_
  rw [HMN.out]
  rintro e w2 ⟨rfl, rfl⟩
  refine hK.out _ _ ?_ (fun hHeld => ?_)
  · exact c10
  clear hK K
  try simp only [Act.put, List.setIfInBounds_toArray, List.set_cons_zero, List.set_cons_succ]
  refine wpP_ready (rs := [3]) (by kernel_rfl) (by simp) ?_
  refine AllP.cons (o := ?o192004) ?ho192004 (fun K hK => ?_) AllP.nil
  case ho192004 => (simp only [List.getElem?_toArray, List.getElem?_cons_succ, List.getElem?_cons_zero]; exact rfl)
  go_simp
  go_at_call 53
  refine (need_ok _ _ (by omega)).mono ?_
  rw [hms]
  rintro e w2 ⟨rfl, rfl⟩
  refine hK.out _ _ ?_ (fun hHeld => ?_)
  · exact c10
  clear hK K
  try simp only [Act.put, List.setIfInBounds_toArray, List.set_cons_zero, List.set_cons_succ]
  refine wpP_ready (rs := [4]) (by kernel_rfl) (by simp) ?_
  refine AllP.cons (o := ?o192005) ?ho192005 (fun K hK => ?_) AllP.nil
  case ho192005 => (simp only [List.getElem?_toArray, List.getElem?_cons_succ, List.getElem?_cons_zero]; exact rfl)
  go_simp
  go_at_call 52
  refine (all_ok F m _).mono ?_
  rintro e w2 ⟨rfl, rfl⟩
  refine hK.out _ _ ?_ (fun hHeld => ?_)
  · exact (cell_keep c10 (((Below.refl _ _).drew.alloc (Nat.le_refl _) _).alloc (by simp) _))
  clear hK K
  try simp only [Act.put, List.setIfInBounds_toArray, List.set_cons_zero, List.set_cons_succ]
  refine wpP_done (by kernel_rfl) ?_ _
  refine noPanic_normal ?_
  go_wp2
  obtain ⟨W0, hW0⟩ : ∃ W0, (W1.drew.alloc (.cells #[.pointer (some ⟨F, 0, none⟩)] 75)).alloc (.cells #[.int .i64 m] 3) = W0 := ⟨_, rfl⟩
  have hqd : W1.drew.heap.size = q + 2 := hqs
  have k1 : W0.heap[q + 2]? = some (.cells #[.pointer (some ⟨F, 0, none⟩)] 75 (0, 0)) := by rw [← hW0]; exact heap_alloc_lt _ _ _ _ (heap_alloc_at _ _ _ hqd.symm)
  have k2 : W0.heap[q + 3]? = some (.cells #[.int .i64 m] 3 (0, 0)) := by rw [← hW0]; exact heap_alloc_at _ _ _ (by simp [hqd])
  have hsz : W0.heap.size = q + 4 := by rw [← hW0]; simp [hqd]
  have hB0 : Below W1.heap.size W1 W0 := by rw [← hW0]; exact ((Below.refl _ _).drew.alloc (Nat.le_refl _) _).alloc (by simp) _
  rw [hW0, hqd]
  have hA0 := HF2.out.keep hB0
  have hBw := below_keep HB2.out (Nat.le_refl _) hB0
  have k0 := blk_keep HQ0.out hB0
  have hib : IsB (q + 1) [] W0 := isB_new _ _ (blk_keep HQ1.out hB0)
  clear hW0 hHeld c10 hqd
  have HA0 := Lib.hid hA0
  clear hA0
  have hcl := Lib.hid (catTo_len (d := d) (x := x) HS.out)
  have hneF : ∀ k, k ≠ q + 1 → some k ≠ some (q + 1) := fun k h e => h (Option.some.inj e)
  refine wp_rangeFunc (α := Fin m) (gf := 95) (lb := #[.pointer (some ⟨q + 2 + 1, 0, none⟩), .pointer (some ⟨q + 2, 0, none⟩)]) rfl (enters_of Try.func95 (by kernel_rfl) rfl)
    (all_stops 2 F g cg v.length (inosV v) d n (q + 3) (q + 2) m v x (fun k => k ≠ q + 3 ∧ k ≠ q + 2 ∧ k ≠ F ∧ k ≠ g) W0 k2 k1 HA0.out (by simp) (by simp) (by simp) (by simp) hm70 hd0 HS.out h2') (fun _ => rfl)
    (fun pre W => Hid (W.heap[q]? = some (.cells #[.pointer (some ⟨F, 0, none⟩)] 75 (0, 0)) ∧ W.heap[q + 2]? = some (.cells #[.pointer (some ⟨F, 0, none⟩)] 75 (0, 0)) ∧ W.heap[q + 3]? = some (.cells #[.int .i64 m] 3 (0, 0)) ∧ IsB (q + 1) (catTo d v.length v x (pre.map fun (k : Fin m) => k.val)) W ∧ FileAt W F g cg v.length (inosV v) d n v x ∧ Below w.heap.size w W ∧ q + 4 ≤ W.heap.size))
    (fun _ _ _ => False)
    ?own (fun _ _ _ _ _ hs _ _ => hs) ⟨k0, k1, k2, hib, HA0.out, hBw, by omega⟩
    (fun k => { tmps := #[Value.slice A (List.length v) c, Value.int IntKind.i64 ((n : Nat) : Int), Value.int IntKind.i64 ((off : Nat) : Int), Value.int IntKind.i64 ((sz : Nat) : Int), undef, undef, undef, undef, Value.string (mk []), Value.int IntKind.i64 0, Value.pointer (some ⟨q, 0, none⟩), Value.int IntKind.i64 0, Value.pointer (some ⟨q + 1, 0, none⟩), undef, .int .i64 (holeI (atN d v.length v x k)), undef, Value.tuple #[Value.pointer (some ⟨F, 0, none⟩), Value.int IntKind.i64 0], Value.slice A (List.length v) c, Value.int IntKind.i64 ((n : Nat) : Int), Value.tuple #[Value.pointer (some ⟨F, 0, none⟩), Value.int IntKind.i64 0], Value.pointer (some ⟨F, 0, none⟩), Value.int IntKind.i64 0, Value.bool false, Value.int IntKind.i64 0, Value.bool false, undef, Value.bool (decide ((off : Int) < 0) || decide (((sz : Nat) : Int) < 0)), Value.int IntKind.i64 ((off : Nat) : Int), Value.bool (decide ((off : Int) < 0)), Value.bool (decide ((off : Int) < 0)), Value.int IntKind.i64 ((sz : Nat) : Int), Value.bool (decide (((sz : Nat) : Int) < 0)), Value.bool (decide ((off : Int) < 0) || decide (((sz : Nat) : Int) < 0)), Value.pointer (some ⟨F, 0, none⟩), Value.pointer (some ⟨F, 0, none⟩), Value.int IntKind.i64 ((s : Nat) : Int), Value.int IntKind.i64 ((m : Nat) : Int), Value.func (Fn.func 95) #[] #[Value.pointer (some ⟨q + 2 + 1, 0, none⟩), Value.pointer (some ⟨q + 2, 0, none⟩)], .int .i64 ((k : Nat) : Int), .int .i64 (holeI (atN d v.length v x k)), undef, undef, undef, undef, undef, undef, undef, undef, undef, undef, undef, undef, undef, undef, undef, undef, undef, undef, undef, undef, undef, undef, undef, undef, undef, undef, undef, undef], defers := [] }) ?assign ?body ?done ?stop
  case own =>
    rintro pre A B row ⟨e0, e1, e2, eb, ef, e3, e4⟩ hg hr
    have hr' : ∀ r, row = some r → ∃ o : Obj, A.heap[r]? = some o ∧ o.isCells = false := fun r e => (hr r e).2
    obtain ⟨cur, hgg, hcc⟩ := ef.vol
    exact ⟨cells_grown e0 hg hr', cells_grown e1 hg hr', cells_grown e2 hg hr', isB_grown eb hg hr', ⟨cells_grown ef.blk hg hr', ⟨cur, cells_grown hgg hg hr', hcc⟩, ef.len, ef.ne⟩, e3.grown hg (by omega) (fun r e => by have := (hr r e).1; omega), Nat.le_trans e4 hg.size⟩
  case assign =>
    intro l k W K hK
    gi_wp2
    exact hK
  case body =>
    rintro l pre k W ⟨e0, e1, e2, eb, ef, e3, e4⟩ hlen
    obtain ⟨t, ht⟩ : ∃ t, catTo d v.length v x (pre.map fun (k : Fin m) => k.val) = t := ⟨_, rfl⟩
    have htl : t.length ≤ 8960 := by rw [← ht, hcl.out, List.length_map]; omega
    have hsn : catTo d v.length v x ((pre ++ [k]).map fun (k : Fin m) => k.val) = t ++ blkAt d v.length v x k := by rw [← ht]; simp [catTo]
    have hbl := blkAt_len (d := d) (x := x) HS.out k
    rw [ht] at eb
    obtain ⟨b, hb⟩ : ∃ b, atN d v.length v x k = b := ⟨_, rfl⟩
    have hbd : b ≠ 0 → d ≤ b ∧ b < v.length := by rw [← hb]; exact atN_lt
    have hbe : blkAt d v.length v x k = if b = 0 then zs 128 else bk v b := by rw [blkAt, hb]
    have EB := Lib.hid eb
    have EF := Lib.hid ef
    have E0 := Lib.hid e0
    have E1 := Lib.hid e1
    have E2 := Lib.hid e2
    have E3 := Lib.hid e3
    rw [hb]
    have HBB := Lib.hid hb
    have HT := Lib.hid ht
    have HSN := Lib.hid hsn
    have HBL := Lib.hid hbl
    have HBE := Lib.hid hbe
    have c10 : W.cell? ⟨q, 0, none⟩ = some (.pointer (some ⟨F, 0, none⟩)) := by rw [cell_at e0]; rfl
    clear eb ef e0 e1 e2 e3 hb ht hsn hbl hbe k0 k1 k2 hib hBw hB0
    have hfin : ∀ (W3 W' : World), Below W.heap.size W W3 → IsB (q + 1) (t ++ blkAt d v.length v x k) W' → Below (q + 1) W3 W' → Lib.OthersKept 5 (some (q + 1)) W3 W' →
        KeepsOthers W W' ∧ KpC (fun k => k ≠ q + 3 ∧ k ≠ q + 2 ∧ k ≠ F ∧ k ≠ g) W W' ∧ Hid (W'.heap[q]? = some (.cells #[.pointer (some ⟨F, 0, none⟩)] 75 (0, 0)) ∧ W'.heap[q + 2]? = some (.cells #[.pointer (some ⟨F, 0, none⟩)] 75 (0, 0)) ∧ W'.heap[q + 3]? = some (.cells #[.int .i64 m] 3 (0, 0)) ∧ IsB (q + 1) (catTo d v.length v x ((pre ++ [k]).map fun (k : Fin m) => k.val)) W' ∧ FileAt W' F g cg v.length (inosV v) d n v x ∧ Below w.heap.size w W' ∧ q + 4 ≤ W'.heap.size) := by
      intro W3 W' hb3 hib' hbw hok
      have n1 : ∀ (cs : Array Value) (T : Nat) (fz : Nat × Nat), T ≠ 5 → ∀ c' fz', Obj.cells cs T fz ≠ Obj.cells c' 5 fz' := fun cs T fz hT c' fz' h => hT (by injection h)
      obtain ⟨cur, hgg, hcc⟩ := EF.out.vol
      have z0 := hok _ _ (blk_keep E0.out hb3) (hneF _ (by omega)) (n1 _ _ _ (by decide))
      have z1 := hok _ _ (blk_keep E1.out hb3) (hneF _ (by omega)) (n1 _ _ _ (by decide))
      have z2 := hok _ _ (blk_keep E2.out hb3) (hneF _ (by omega)) (n1 _ _ _ (by decide))
      have z3 := hok _ _ (blk_keep EF.out.blk hb3) (hneF _ (by omega)) (n1 _ _ _ (by decide))
      have z4 := hok _ _ (blk_keep hgg hb3) (hneF _ (by omega)) (n1 _ _ _ (by decide))
      have hsz3 : W.heap.size ≤ W'.heap.size := Nat.le_trans hb3.size hbw.size
      refine ⟨⟨hsz3, fun j o ho hoc => ?_⟩, fun j c' T fz hj hnF => ?_, z0, z1, z2, by rw [HSN.out]; exact hib', ⟨z3, ⟨cur, z4, hcc⟩, EF.out.len, EF.out.ne⟩, below_keep (B := w.heap.size) (w := w) E3.out (Nat.le_refl _) hb3 |>.trans (hbw.mono (by omega)), Nat.le_trans e4 hsz3⟩
      · refine hok _ _ (blk_keep ho hb3) (fun e => ?_) (fun c' fz' h => by rw [h] at hoc; cases hoc)
        have e' := Option.some.inj e
        subst e'
        rcases EB.out with ⟨_, u, hu, _⟩ | ⟨_, u, hu, _⟩
        all_goals
          rw [hu] at ho
          injection ho with ho
          subst ho
          cases hoc
      · by_cases j1 : j = q + 3
        · subst j1; rw [E2.out] at hj; rw [← hj]; exact z2
        · by_cases j2 : j = q + 2
          · subst j2; rw [E1.out] at hj; rw [← hj]; exact z1
          · by_cases j3 : j = F
            · subst j3; rw [EF.out.blk] at hj; rw [← hj]; exact z3
            · by_cases j4 : j = g
              · subst j4; rw [hgg] at hj; rw [← hj]; exact z4
              · exact absurd ⟨j1, j2, j3, j4⟩ hnF
    have HFin := Lib.hid hfin
    clear hfin
    by_cases h0 : b = 0
    · subst h0
      rw [show holeI 0 = -1 from rfl]
      gi_wp2_with (first
        | (refine ⟨trivial, CallsIn.inRound l (callsIn_wide.2 ?_)⟩; go_at_call 61; refine (repeat0_ok 128 _ (by omega)).mono ?_; rintro e w3 ⟨rfl, hb3⟩)
        | (refine ⟨trivial, CallsIn.inRound l (callsIn_wide.2 ?_)⟩; go_at_call 60; refine (wstr_ok (q + 1) t (zs 128) _ (isB_below EB.out hb3) (by simp; omega) (by have := hb3.size; omega)).mono ?_; rintro e w4 ⟨⟨y, rfl⟩, hib4, hbw4, hok4⟩))
      rw [← (show blkAt d v.length v x k = zs 128 from HBE.out)] at hib4
      exact HFin.out _ _ hb3 hib4 hbw4 hok4
    · rw [show holeI b = (b : Int) from if_neg h0]
      have hbm : ((b : Int) == -1) = false := by rw [beq_eq_false_iff_ne]; omega
      have hbl2 := hbd h0
      have c0 : W.cell? ⟨F, 0, none⟩ = some (.slice (some ⟨g, 0, none⟩) v.length cg) := by rw [cell_at EF.out.blk]; rfl
      have cb := EF.out.vol.cell b (by have := EF.out.len; omega)
      have hbi : (b : Int) < (v.length : Nat) := by omega
      have hbk : (bk v b).length = 128 := HS.out b (by omega)
      have HBK := Lib.hid hbk
      clear hbk
      gi_wp2_with (refine ⟨trivial, CallsIn.inRound l (callsIn_wide.2 ?_)⟩; go_at_call 60; refine (wstr_ok (q + 1) t (bk v b) _ EB.out (by have := HBK.out; omega) (by omega)).mono ?_; rintro e w4 ⟨⟨y, rfl⟩, hib4, hbw4, hok4⟩)
      rw [← (show blkAt d v.length v x k = bk v b from HBE.out.trans (if_neg h0))] at hib4
      exact HFin.out _ _ (Below.refl _ _) hib4 hbw4 hok4
  case done =>
    rintro D xs W hD rfl ⟨e0, e1, e2, eb, ef, e3, e4⟩ hK
    have hxs : ((List.finRange m).map fun (k : Fin m) => k.val) = List.range m := (List.ext_getElem (by simp) (by simp)).symm
    rw [hxs] at eb
    obtain ⟨t, ht⟩ : ∃ t, catTo d v.length v x (List.range m) = t := ⟨_, rfl⟩
    have htl : t.length = 128 * m := by rw [← ht, hcl.out, List.length_range]
    rw [ht] at eb
    have HT := Lib.hid ht
    have c10 : W.cell? ⟨q, 0, none⟩ = some (.pointer (some ⟨F, 0, none⟩)) := by rw [cell_at e0]; rfl
    have EB := Lib.hid eb
    have EF := Lib.hid ef
    have E3 := Lib.hid e3
    have HK := Lib.hid hK
    have hst : s ≤ t.length := by omega
    have hsi : (s : Int) ≤ (t.length : Nat) := by omega
    have HTL := Lib.hid htl
    clear e0 e1 e2 eb ef e3 hK k0 k1 k2 hib hBw hB0 ht hxs htl
    go_wp2
    refine wp_noPanic ?_
    refine region_P (fun w' => w'.cell? ⟨q, 0, none⟩ = some (.pointer (some ⟨F, 0, none⟩))) [] (by kernel_rfl) ?_ (fun hHeld => ?_)
    · exact c10
    refine wpP_take (i := 1) (oi := ?oi192006) (v := ?v192006) ?hi192006 (by kernel_rfl) (by kernel_rfl) (by kernel_rfl) (by kernel_rfl) ?hQ192006 ?hy192006 (by assumption) ?rest192006
    case hi192006 => (simp only [List.getElem?_toArray, List.getElem?_cons_succ, List.getElem?_cons_zero]; exact rfl)
    case hQ192006 => exact fun _ _ _ h => (h.1 _ rfl).elim
    case hy192006 => (refine Or.inl ⟨by kernel_rfl, ?_⟩; intro w hSw; (try dsimp only at hSw); go_simp; try (with_reducible rfl))
    try simp only [Act.put, List.setIfInBounds_toArray, List.set_cons_zero, List.set_cons_succ]
    refine wpP_ready (rs := [0]) (by kernel_rfl) (by simp) ?_
    refine AllP.cons (o := ?o192007) ?ho192007 (fun K hK => ?_) AllP.nil
    case ho192007 => (simp only [List.getElem?_toArray, List.getElem?_cons_succ, List.getElem?_cons_zero]; exact rfl)
    go_simp
    go_at_call 62
    refine (bstr_ok (q + 1) t _ (isB_below EB.out ((Below.refl _ _).drew)) (show q + 1 ≤ W.heap.size by omega)).mono ?_
    rintro e w4 ⟨rfl, hb4, hok4⟩
    have F4 : Hid (FileAt w4 F g cg v.length (inosV v) d n v x) := ⟨(hb4.block F (by omega)).trans EF.out.blk, EF.out.vol.same (hb4.block g (by omega)), EF.out.len, EF.out.ne⟩
    have z10 : w4.cell? ⟨q, 0, none⟩ = some (.pointer (some ⟨F, 0, none⟩)) := (hb4.cell (show q < q + 1 by omega)).trans hHeld
    refine hK.out _ _ ?_ (fun hHeld => ?_)
    · exact z10
    clear hK K
    try simp only [Act.put, List.setIfInBounds_toArray, List.set_cons_zero, List.set_cons_succ]
    refine wpP_ready (rs := [2]) (by kernel_rfl) (by simp) ?_
    refine AllP.cons (o := ?o192008) ?ho192008 (fun K hK => ?_) AllP.nil
    case ho192008 => (simp only [List.getElem?_toArray, List.getElem?_cons_succ, List.getElem?_cons_zero]; exact rfl)
    go_simp
    go_at_call 54
    refine (size_ok _ _ _ _ _ _ _ _ _ _ F4.out hx).mono ?_
    rw [HMN.out]
    rintro e w5 ⟨rfl, rfl⟩
    refine hK.out _ _ ?_ (fun hHeld => ?_)
    · exact z10
    clear hK K
    try simp only [Act.put, List.setIfInBounds_toArray, List.set_cons_zero, List.set_cons_succ]
    refine wpP_take (i := 3) (oi := ?oi192009) (v := ?v192009) ?hi192009 (by kernel_rfl) (by kernel_rfl) (by kernel_rfl) (by kernel_rfl) ?hQ192009 ?hy192009 (by assumption) ?rest192009
    case hi192009 => (simp only [List.getElem?_toArray, List.getElem?_cons_succ, List.getElem?_cons_zero]; exact rfl)
    case hQ192009 => exact fun _ _ _ h => (h.1 _ rfl).elim
    case hy192009 => (refine Or.inl ⟨by kernel_rfl, ?_⟩; intro w hSw; (try dsimp only at hSw); go_simp; try (with_reducible rfl))
    try simp only [Act.put, List.setIfInBounds_toArray, List.set_cons_zero, List.set_cons_succ]
    refine wpP_take (i := 4) (oi := ?oi192010) (v := ?v192010) ?hi192010 (by kernel_rfl) (by kernel_rfl) (by kernel_rfl) (by kernel_rfl) ?hQ192010 ?hy192010 (by assumption) ?rest192010
    case hi192010 => (simp only [List.getElem?_toArray, List.getElem?_cons_succ, List.getElem?_cons_zero]; exact rfl)
    case hQ192010 => exact fun _ _ _ h => (h.1 _ rfl).elim
    case hy192010 => (refine Or.inl ⟨by kernel_rfl, ?_⟩; intro w hSw; (try dsimp only at hSw); go_simp; try (with_reducible rfl))
    try simp only [Act.put, List.setIfInBounds_toArray, List.set_cons_zero, List.set_cons_succ]
    refine wpP_done (by kernel_rfl) ?_ _
    refine noPanic_normal ?_
    have hK4 : w4.heap[D]? = some (.deferred (some [])) := hok4 _ _ (show W.drew.heap[D]? = _ from HK.out) (fun e => by have := Option.some.inj e; omega) (fun c' fz' h => by cases h)
    have hB4 : Below w.heap.size w w4 := E3.out.drew.trans (hb4.mono (by omega))
    have HK4 := Lib.hid hK4
    have HB4 := Lib.hid hB4
    clear hok4 hb4 z10 hHeld hK4 hB4
    obtain ⟨cs, hcs⟩ : ∃ cs, t.take s = cs := ⟨_, rfl⟩
    have hcl2 : cs.length = s := by rw [← hcs, List.length_take]; omega
    rw [hcs]
    have HCS := Lib.hid hcs
    clear hcs
    have hoi : (0 : Int) ≤ (off : Nat) := by omega
    have hm1 : min off cs.length ≤ cs.length := Nat.min_le_right _ _
    go_wp2
    refine ⟨by simp, .inl ⟨_, _, rfl, run_takeDeferred HK4.out, ?_⟩⟩
    refine ⟨_, results_tmp2 rfl _ _ _, ?_, below_putD HB4.out (by omega) HK4.out⟩
    rw [HT.out, HCS.out]
    refine ret_str_int ?_
    have e1 : (min (off : Int) (s : Int)).toNat = min off s := by omega
    rw [e1]
    have e2 : (min (sz : Int) ((s - min off s : Nat) : Int)).toNat = min sz (s - min off s) := by omega
    rw [e2]
    have e3 : List.take (s - min off s) (List.drop (min off s) cs) = List.drop (min off s) cs := List.take_of_length_le (by rw [List.length_drop]; omega)
    rw [e3]
    have e4 : List.drop (min off s) cs = List.drop off cs := by
      rcases Nat.le_total off s with h | h
      · rw [Nat.min_eq_left h]
      · rw [Nat.min_eq_right h, List.drop_of_length_le (by omega), List.drop_of_length_le (by omega)]
    have e5 : s - min off s = (List.drop off cs).length := by rw [List.length_drop]; omega
    rw [e4, e5]
    rcases Nat.le_total sz (List.drop off cs).length with h | h
    · rw [Nat.min_eq_left h]
    · rw [Nat.min_eq_right h, List.take_of_length_le (Nat.le_refl _), List.take_of_length_le h]
  case stop =>
    rintro D c pre W _ _ h _
    exact h.elim
end Go.Proofs.Ytacdohlhalnioaa
