/- Joined: XE5 XE6 XE7 XE8 XE9. -/
import Derived.Test.YtacdohlhalnioaaJ4
import Derived.Test.YtacdohlhalnioaaJ1
/- Contract: the blocks of a file. -/
section
set_option linter.unusedSimpArgs false
set_option linter.unusedVariables false
set_option maxRecDepth 20000
namespace Go.Proofs.Ytacdohlhalnioaa
open Go.RowKit
attribute [local go_sem] Oper.semAt_some

theorem own_grown {W W' : World} {row : Option Nat} {base e size n : Nat} {u : Value} {xs : List Value} (h : W.ownsRow base e size u n xs) (hg : W.grownBy W' row) (hr : ∀ r, row = some r → ∃ o : Obj, W.heap[r]? = some o ∧ o.isCells = false) : W'.ownsRow base e size u n xs := by
  refine ⟨h.1, ?_⟩
  rcases h.2 with h0 | ⟨g, cap, cur, h1, h2, h3, h4⟩
  · exact .inl h0
  · exact .inr ⟨g, cap, cur, h1, h2, cells_grown h3 hg hr, h4⟩
theorem own_below {W W' : World} {base e size n : Nat} {u : Value} {xs : List Value} (h : W.ownsRow base e size u n xs) (hb : Below W.heap.size W W') : W'.ownsRow base e size u n xs :=
  own_grown h ⟨hb.os, hb.tape, hb.output, hb.size, fun q hq _ => hb.block q hq⟩ (row := none) (fun r e => by cases e)
theorem own_base {W : World} {base base' e size n : Nat} {u : Value} {xs : List Value} (h : W.ownsRow base e size u n xs) (hb : base' ≤ base) : W.ownsRow base' e size u n xs := by
  refine ⟨h.1, ?_⟩
  rcases h.2 with h0 | ⟨g, cap, cur, h1, h2, h3⟩
  · exact .inl h0
  · exact .inr ⟨g, cap, cur, h1, Nat.le_trans hb h2, h3⟩
theorem own_slice {W : World} {base e size n : Nat} {u : Value} {xs : List Value} (h : W.ownsRow base e size u n xs) : ∃ a cp, u = .slice a n cp := by
  rcases h.2 with ⟨h0, h1⟩ | ⟨g, cap, cur, h1, h3⟩
  · subst h1; exact ⟨_, _, h0⟩
  · exact ⟨_, _, h1⟩
theorem own_set {W : World} {base e size n k i : Nat} {u y : Value} {xs : List Value} (h : W.ownsRow base e size u n xs) (hne : ∀ g, u.ownBlock = some g → g ≠ k) : (W.setCell ⟨k, i, none⟩ y).ownsRow base e size u n xs := by
  refine ⟨h.1, ?_⟩
  rcases h.2 with h0 | ⟨g, cap, cur, h1, h2, h3, h4⟩
  · exact .inl h0
  · exact .inr ⟨g, cap, cur, h1, h2, blk_set_other h3 (hne g (by rw [h1]; rfl)) _ _, h4⟩
theorem kpc_grown {Fr : Nat → Prop} {W W' : World} {row : Option Nat} (hg : W.grownBy W' row) (hr : ∀ r, row = some r → Fr r) : KpC Fr W W' := by
  intro k c t fz hk hF
  exact (hg.block k (Array.getElem?_eq_some_iff.1 hk).1 (fun e => hF (hr k e.symm))).trans hk

def sizeX (x : Ino) : Nat := min x.size 8960
def needS (s : Nat) : Nat := (s + 127) / 128
/-- The blocks of an inode's bytes. -/
def blocksV (v : Vol) (n : Nat) : List Int := (List.range (needS (sizeX (inoV v n)))).map fun k => holeI (atN (dataV v) v.length v (inoV v n) k)
def ints (l : List Int) : List Value := l.map fun i => .int .i64 i

set_option maxHeartbeats 4000000 in
theorem blocks_ok (A : Option Addr) (c : Nat) (v : Vol) (n : Nat) (w : World) (hr : RS w A v) (hv : okV v = true) (h1 : 1 ≤ n) (h2 : n ≤ inosV v) (hx : (inoV v n).size < 4294967296) :
    Calls Try.prog 18 #[.slice A v.length c, .int .i64 n] w fun e w' => ∃ u, e = .returned u ∧ w'.ownsRow w.heap.size 3 1 u (blocksV v n).length (ints (blocksV v n)) ∧ Below w.heap.size w w' := by
  obtain ⟨i0, hi0, hz0, hz1, hz2⟩ := info_parts (show (Try.prog.info? 3).map (fun i => (i.zero, i.size, i.bytes)) = some (some (.int .i64 0), 1, 8) by kernel_rfl)
  have HOK := okV_iff.1 hv
  have h1' := HOK.lo
  have h2' := HOK.hi
  have hd0 : 0 < dataV v := by rw [dataV]; omega
  have HS := Lib.hid HOK.size
  have HV := Lib.hid hv
  have HR := Lib.hid hr
  clear hv hr HOK
  obtain ⟨d, hd⟩ : ∃ d, dataV v = d := ⟨_, rfl⟩
  obtain ⟨x, hX⟩ : ∃ x, inoV v n = x := ⟨_, rfl⟩
  rw [blocksV]
  rw [hd] at hd0 ⊢
  rw [hX] at hx ⊢
  obtain ⟨m, hm⟩ : ∃ m, needS (sizeX x) = m := ⟨_, rfl⟩
  have hm70 : m ≤ 70 := by rw [← hm, needS, sizeX]; omega
  have hms : (min x.size 8960 + 127) / 128 = m := by rw [← hm, needS, sizeX]
  rw [hm]
  have hop := Lib.hid (fun w hr => open_ok A c v n w hr HV.out h1 h2)
  rw [hd, hX] at hop
  have HD := Lib.hid hd
  have HX := Lib.hid hX
  have HM := Lib.hid hm
  clear hd hX hm
  refine callsIn_wide.1 (callsIn_of_wp_marks (n := 3) Try.func18 rfl trivial (wpIn_wide.2 ?_) rfl)
  simp only [Try.ntmps18, List.size_toArray, List.length_cons, List.length_nil, Nat.reduceAdd, Nat.reduceSub, Array.replicate_succ, Array.replicate_zero, List.push_toArray, List.append_toArray, List.nil_append, List.cons_append]
  go_wp2_with (first
    | (go_at_call 51; refine (hop.out _ HR.out).mono ?_; rintro e w1 ⟨F, g, cg, rfl, hf1, hF, hg, hb1⟩; have hf2 := hf1.keep ((Below.refl _ _).alloc (Nat.le_refl _) (.cells #[.slice none 0 0] 26)); have HF2 := Lib.hid hf2; have HF1 := Lib.hid hf1; have HB1 := Lib.hid hb1; clear hf1 hf2 hb1)
    | (go_at_call 54; refine (size_ok _ _ _ _ _ _ _ _ _ _ HF2.out hx).mono ?_; rintro e w2 ⟨rfl, rfl⟩)
    | (go_at_call 53; refine (need_ok _ _ (by omega)).mono ?_; rw [hms]; rintro e w2 ⟨rfl, rfl⟩)
    | (go_at_call 52; refine (all_ok F m _).mono ?_; rintro e w2 ⟨rfl, rfl⟩))
  have hf1 := HF1.out
  have hlt1 := hf1.lt
  have hlt2 := hf1.vol.lt
  obtain ⟨W0, hW0⟩ : ∃ W0, ((w1.alloc (.cells #[.slice none 0 0] 26)).alloc (.cells #[.pointer (some ⟨F, 0, none⟩)] 75)).alloc (.cells #[.int .i64 m] 3) = W0 := ⟨_, rfl⟩
  obtain ⟨k0, k1, k2, hsz, hB0⟩ := alloc3 _ _ _ _ _ hW0
  rw [hW0]
  have hA0 := hf1.keep hB0
  have hBw := below_keep HB1.out (Nat.le_refl _) hB0
  have hs1 := HB1.out.size
  generalize w1.heap.size = q at *
  clear hW0 hf1
  have HA0 := Lib.hid hA0
  clear hA0
  refine wp_rangeFunc (α := Fin m) (gf := 95) (lb := #[.pointer (some ⟨q + 1 + 1, 0, none⟩), .pointer (some ⟨q + 1, 0, none⟩)]) rfl (enters_of Try.func95 (by kernel_rfl) rfl)
    (all_stops 2 F g cg v.length (inosV v) d n (q + 2) (q + 1) m v x (fun k => q + 3 ≤ k ∨ k = q) W0 k2 k1 HA0.out (by omega) (by omega) (by omega) (by omega) hm70 hd0 HS.out h2') (fun _ => rfl)
    (fun pre W => Hid (∃ u, W.heap[q]? = some (.cells #[u] 26 (0, 0)) ∧ W.ownsRow (q + 3) 3 1 u pre.length (ints (pre.map fun (k : Fin m) => holeI (atN d v.length v x k))) ∧ Below w.heap.size w W ∧ q + 3 ≤ W.heap.size))
    (fun _ _ _ => False)
    ?own (fun _ _ _ _ _ hs _ _ => hs) ⟨_, k0, World.ownsRow_nil _ _ _ _, hBw, by omega⟩
    (fun k => { tmps := #[Value.slice A (List.length v) c, Value.int IntKind.i64 ((n : Nat) : Int), undef, undef, Value.slice none 0 0, Value.pointer (some ⟨F, 0, none⟩), Value.int IntKind.i64 0, Value.pointer (some ⟨q, 0, none⟩), undef, .int .i64 (holeI (atN d v.length v x k)), Value.tuple #[Value.pointer (some ⟨F, 0, none⟩), Value.int IntKind.i64 0], Value.slice A (List.length v) c, Value.int IntKind.i64 ((n : Nat) : Int), Value.tuple #[Value.pointer (some ⟨F, 0, none⟩), Value.int IntKind.i64 0], Value.pointer (some ⟨F, 0, none⟩), Value.int IntKind.i64 0, Value.int IntKind.i64 0, Value.bool false, Value.pointer (some ⟨F, 0, none⟩), Value.pointer (some ⟨F, 0, none⟩), Value.int IntKind.i64 ((min x.size 8960 : Nat) : Int), Value.int IntKind.i64 ((m : Nat) : Int), Value.func (Fn.func 95) #[] #[Value.pointer (some ⟨q + 1 + 1, 0, none⟩), Value.pointer (some ⟨q + 1, 0, none⟩)], .int .i64 ((k : Nat) : Int), .int .i64 (holeI (atN d v.length v x k)), undef, undef, undef, undef, undef], defers := [] }) ?assign ?body ?done ?stop
  case own =>
    rintro pre A B row ⟨u, e1, e2, e3, e4⟩ hg hr
    have hr' : ∀ r, row = some r → ∃ o : Obj, A.heap[r]? = some o ∧ o.isCells = false := fun r e => (hr r e).2
    exact ⟨u, cells_grown e1 hg hr', own_grown e2 hg hr', e3.grown hg (by omega) (fun r e => by have := (hr r e).1; omega), Nat.le_trans e4 hg.size⟩
  case assign =>
    intro l k W K hK
    gi_wp2
    exact hK
  case body =>
    rintro l pre k W ⟨u, e1, e2, e3, e4⟩ hlen
    obtain ⟨ua, uc, rfl⟩ := own_slice e2
    have hcu : W.cell? ⟨q, 0, none⟩ = some (.slice ua pre.length uc) := by rw [cell_at e1]; rfl
    obtain ⟨b, hb⟩ : ∃ b, holeI (atN d v.length v x k) = b := ⟨_, rfl⟩
    have E1 := Lib.hid e1
    have E2 := Lib.hid e2
    have E3 := Lib.hid e3
    rw [hb]
    have HBB := Lib.hid hb
    clear e1 e2 e3 hb
    gi_wp2_with (gi_at_builtin; refine wpListIn_append_own _ rfl _ _ 26 rfl (q + 3) 3 i0 (.int .i64 0) 1 8 Try.underlying26 hi0 hz0 hz1 hz2 rfl (by decide) _ pre.length _ rfl (own_below E2.out ((Below.refl _ _).alloc (Nat.le_refl _) _)) ⟨W.heap.size, 0, none⟩ 1 1 [.int .i64 b] rfl rfl (cell_one_new _ _ _) (by simp [Value.oneCell']) (by simp only [maxLen]; omega) (by omega) (by simp; omega) ?_; intro v' w5 hown' hgrow _; obtain ⟨va, vc, rfl⟩ := own_slice hown'; have e5 : w5.heap[q]? = some (.cells #[.slice ua pre.length uc] 26 (0, 0)) := (hgrow.block q (by simp; omega) (fun e => by have := (E2.out.lt q e.symm).1; omega)).trans (blk_keep E1.out ((Below.refl _ _).alloc (Nat.le_refl _) _)); have c5 := cell_at e5 0; have f5 := free_of e5 0; have E5 := Lib.hid e5; have EG := Lib.hid hgrow; have EO := Lib.hid hown'; clear e5 hgrow hown')
    have hgA : W.grownBy w5 (Value.slice ua pre.length uc).ownBlock := ⟨EG.out.os, EG.out.tape, EG.out.output, Nat.le_trans (by simp) EG.out.size, fun j hj hne => (EG.out.block j (by simp; omega) hne).trans (Below.heap_alloc W _ j hj)⟩
    have hro : ∀ r, (Value.slice ua pre.length uc).ownBlock = some r → q + 3 ≤ r := fun r e => (E2.out.lt r e).1
    refine ⟨(KeepsOthers.of_grownBy hgA ?_).trans (KeepsOthers.setCell _ _ _), KpC.setCell (F := fun k => q + 3 ≤ k ∨ k = q) (kpc_grown hgA (fun r e => .inl (hro r e))) (.inr rfl) _, ?_⟩
    · intro j o e ho
      rcases E2.out.2 with ⟨h0, _⟩ | ⟨gg, cap, cur, h1, _, h3, _⟩
      · rw [h0] at e; cases e
      · rw [h1] at e
        injection e with e
        subst e
        rw [h3] at ho
        injection ho with ho
        subst ho
        rfl
    · refine ⟨_, blk_set E5.out 0 _, ?_, below_set (E3.out.grown hgA (by omega) (fun r e => by have := hro r e; omega)) (by omega), Nat.le_trans e4 (Nat.le_trans hgA.size (by simp))⟩
      have hl : (pre ++ [k]).length = pre.length + 1 := by simp
      rw [hl, List.map_append, List.map_singleton, HBB.out, ints, List.map_append]
      refine own_set EO.out (fun g e => ?_)
      have := (EO.out.lt g e).1
      omega
  case done =>
    rintro D xs W hD rfl ⟨u, e1, e2, e3, e4⟩ hK
    have hcu : W.cell? ⟨q, 0, none⟩ = some u := by rw [cell_at e1]; rfl
    have E2 := Lib.hid e2
    have E3 := Lib.hid e3
    have HK := Lib.hid hK
    clear e1 e2 e3 hK k0 k1 k2
    go_wp2
    refine ⟨by simp, .inl ⟨_, _, rfl, run_takeDeferred HK.out, ?_⟩⟩
    refine ⟨_, results_tmp rfl _ _ _, ?_⟩
    refine ⟨u, rfl, ?_, below_putD E3.out (by omega) HK.out⟩
    have hE := E2.out
    have hml : ((List.finRange m).map fun (k : Fin m) => holeI (atN d v.length v x k)) = (List.range m).map fun k => holeI (atN d v.length v x k) := by
      rw [show List.range m = (List.finRange m).map (fun k => k.val) from List.ext_getElem (by simp) (by simp), List.map_map]
      rfl
    rw [hml] at hE
    have hl2 : ((List.range m).map fun k => holeI (atN d v.length v x k)).length = (List.finRange m).length := by simp
    rw [hl2]
    refine own_base (own_grown hE (grownBy_putObj' W D _) (fun r e => ?_)) (show w.heap.size ≤ q + 3 by omega)
    cases e
    exact ⟨_, HK.out, rfl⟩
  case stop =>
    rintro D c pre W _ _ h _
    exact h.elim
end Go.Proofs.Ytacdohlhalnioaa
end

/- Contract: how many blocks an inode has. -/
section
set_option linter.unusedSimpArgs false
set_option linter.unusedVariables false
set_option maxRecDepth 20000
namespace Go.Proofs.Ytacdohlhalnioaa
open Go.RowKit
attribute [local go_sem] Oper.semAt_some

set_option maxHeartbeats 400000 in
theorem blocks_no (A : Option Addr) (c : Nat) (v : Vol) (n : Int) (w : World) (hr : RS w A v) (h : getE v n ≠ 0) :
    Calls Try.prog 18 #[.slice A v.length c, .int .i64 n] w fun e w' => e = .returned (.slice none 0 0) ∧ Below w.heap.size w w' := by
  have HP := Lib.hid (fun w hr => open_no A c v n w hr h)
  have HR := Lib.hid hr
  clear hr
  generalize getE v n = er at *
  have hb : (er == 0) = false := by simpa using h
  have hbn : (er != 0) = true := by simpa using h
  refine callsIn_wide.1 (callsIn_of_wp_marks (n := 3) Try.func18 rfl trivial (wpIn_wide.2 ?_) rfl)
  simp only [Try.ntmps18, List.size_toArray, List.length_cons, List.length_nil, Nat.reduceAdd, Nat.reduceSub, Array.replicate_succ, Array.replicate_zero, List.push_toArray, List.append_toArray, List.nil_append, List.cons_append]
  go_wp2_with (go_at_call 51; refine (HP.out _ HR.out).mono ?_; rintro e w1 ⟨rfl, hb1⟩)
  exact ⟨_, results_tmp rfl _ _ _, rfl, hb1⟩

theorem index2 (a b : Value) (i : Int) (W : World) (h : i = 0 ∨ i = 1) : (Instr.index 23 (.agg #[a, b]) (.int .i64 i)).run Try.prog W = .ok (if i = 0 then a else b) W := by
  rcases h with rfl | rfl <;> rfl
def cntTo (d L : Nat) (v : Vol) (x : Ino) (l : List Nat) : Nat := (l.filter fun k => atN d L v x k != 0).length
def one (b : Bool) : Nat := if b then 1 else 0
/-- How many blocks an inode has. -/
def countV (v : Vol) (n : Nat) : Nat := cntTo (dataV v) v.length v (inoV v n) (List.range 70) + one (goodN (dataV v) v.length (inoV v n).ind) + one (goodN (dataV v) v.length (inoV v n).ext)
theorem cntTo_snoc (d L : Nat) (v : Vol) (x : Ino) (l : List Nat) (k : Nat) : cntTo d L v x (l ++ [k]) = cntTo d L v x l + (if atN d L v x k = 0 then 0 else 1) := by
  by_cases h : atN d L v x k = 0
  · simp [cntTo, List.filter_append, h]
  · simp [cntTo, List.filter_append, h]
theorem cntTo_le (d L : Nat) (v : Vol) (x : Ino) (l : List Nat) : cntTo d L v x l ≤ l.length := List.length_filter_le _ _
set_option maxHeartbeats 4000000 in
theorem count_ok (A : Option Addr) (c : Nat) (v : Vol) (n : Nat) (w : World) (hr : RS w A v) (hv : okV v = true) (h1 : 1 ≤ n) (h2 : n ≤ inosV v) (hx : (inoV v n).size < 4294967296) :
    Calls Try.prog 22 #[.slice A v.length c, .int .i64 n] w fun e w' => e = .returned (.int .i64 (countV v n)) ∧ Below w.heap.size w w' := by
  have HOK := okV_iff.1 hv
  have h1' := HOK.lo
  have h2' := HOK.hi
  have hd0 : 0 < dataV v := by rw [dataV]; omega
  have HS := Lib.hid HOK.size
  have HV := Lib.hid hv
  have HR := Lib.hid hr
  clear hv hr HOK
  obtain ⟨d, hd⟩ : ∃ d, dataV v = d := ⟨_, rfl⟩
  obtain ⟨x, hX⟩ : ∃ x, inoV v n = x := ⟨_, rfl⟩
  rw [countV]
  rw [hd] at hd0 ⊢
  rw [hX] at hx ⊢
  have hop := Lib.hid (fun w hr => open_ok A c v n w hr HV.out h1 h2)
  rw [hd, hX] at hop
  have HD := Lib.hid hd
  have HX := Lib.hid hX
  clear hd hX
  refine callsIn_wide.1 (callsIn_of_wp_marks (n := 3) Try.func22 rfl trivial (wpIn_wide.2 ?_) rfl)
  simp only [Try.ntmps22, List.size_toArray, List.length_cons, List.length_nil, Nat.reduceAdd, Nat.reduceSub, Array.replicate_succ, Array.replicate_zero, List.push_toArray, List.append_toArray, List.nil_append, List.cons_append]
  go_wp2_with (first
    | (go_at_call 51; refine (hop.out _ HR.out).mono ?_; rintro e w1 ⟨F, g, cg, rfl, hf1, hF, hg, hb1⟩; have hf2 := hf1.keep ((Below.refl _ _).alloc (Nat.le_refl _) (.cells #[.int .i64 0] 3)); have HF2 := Lib.hid hf2; have HF1 := Lib.hid hf1; have HB1 := Lib.hid hb1; clear hf1 hf2 hb1)
    | (go_at_call 52; refine (all_ok F 70 _).mono ?_; rintro e w2 ⟨rfl, rfl⟩))
  have hf1 := HF1.out
  have hlt1 := hf1.lt
  have hlt2 := hf1.vol.lt
  obtain ⟨W0, hW0⟩ : ∃ W0, ((w1.alloc (.cells #[.int .i64 0] 3)).alloc (.cells #[.pointer (some ⟨F, 0, none⟩)] 75)).alloc (.cells #[.int .i64 (70 : Nat)] 3) = W0 := ⟨_, rfl⟩
  obtain ⟨k0, k1, k2, hsz, hB0⟩ := alloc3 _ _ _ _ _ hW0
  simp only [Int.cast_ofNat_Int] at hW0
  rw [hW0]
  have hA0 := hf1.keep hB0
  have hBw := below_keep HB1.out (Nat.le_refl _) hB0
  have hs1 := HB1.out.size
  generalize w1.heap.size = q at *
  clear hW0 hf1
  have HA0 := Lib.hid hA0
  clear hA0
  refine wp_rangeFunc (α := Fin 70) (gf := 95) (lb := #[.pointer (some ⟨q + 1 + 1, 0, none⟩), .pointer (some ⟨q + 1, 0, none⟩)]) rfl (enters_of Try.func95 (by kernel_rfl) rfl)
    (all_stops 2 F g cg v.length (inosV v) d n (q + 2) (q + 1) 70 v x (fun k => k = q) W0 k2 k1 HA0.out (by omega) (by omega) (by omega) (by omega) (by omega) hd0 HS.out h2') (fun _ => rfl)
    (fun pre W => Hid (W.heap[q]? = some (.cells #[.int .i64 (cntTo d v.length v x (pre.map fun (k : Fin 70) => k.val))] 3 (0, 0)) ∧ FileAt W F g cg v.length (inosV v) d n v x ∧ Below w.heap.size w W ∧ q + 3 ≤ W.heap.size))
    (fun _ _ _ => False)
    ?own (fun _ _ _ _ _ hs _ _ => hs) ⟨k0, HA0.out, hBw, by omega⟩
    (fun k => { tmps := #[Value.slice A (List.length v) c, Value.int IntKind.i64 ((n : Nat) : Int), undef, undef, Value.int IntKind.i64 0, Value.pointer (some ⟨F, 0, none⟩), Value.int IntKind.i64 0, Value.pointer (some ⟨q, 0, none⟩), undef, .int .i64 (holeI (atN d v.length v x k)), undef, undef, Value.tuple #[Value.pointer (some ⟨F, 0, none⟩), Value.int IntKind.i64 0], Value.slice A (List.length v) c, Value.int IntKind.i64 ((n : Nat) : Int), Value.tuple #[Value.pointer (some ⟨F, 0, none⟩), Value.int IntKind.i64 0], Value.pointer (some ⟨F, 0, none⟩), Value.int IntKind.i64 0, Value.int IntKind.i64 0, Value.bool false, Value.pointer (some ⟨F, 0, none⟩), Value.func (Fn.func 95) #[] #[Value.pointer (some ⟨q + 1 + 1, 0, none⟩), Value.pointer (some ⟨q + 1, 0, none⟩)], .int .i64 ((k : Nat) : Int), .int .i64 (holeI (atN d v.length v x k)), undef, undef, undef, undef, undef, undef, undef, undef, undef, undef, undef, undef, undef, undef, undef, undef, undef, undef, undef, undef, undef, undef, undef, undef, undef], defers := [] }) ?assign ?body ?done ?stop
  case own =>
    rintro pre A B row ⟨e1, e2, e3, e4⟩ hg hr
    have hr' : ∀ r, row = some r → ∃ o : Obj, A.heap[r]? = some o ∧ o.isCells = false := fun r e => (hr r e).2
    obtain ⟨cur, hgg, hcc⟩ := e2.vol
    exact ⟨cells_grown e1 hg hr', ⟨cells_grown e2.blk hg hr', ⟨cur, cells_grown hgg hg hr', hcc⟩, e2.len, e2.ne⟩, e3.grown hg (by omega) (fun r e => by have := (hr r e).1; omega), Nat.le_trans e4 hg.size⟩
  case assign =>
    intro l k W K hK
    gi_wp2
    exact hK
  case body =>
    rintro l pre k W ⟨e1, e2, e3, e4⟩ hlen
    have hle := cntTo_le d v.length v x (pre.map fun (k : Fin 70) => k.val)
    rw [List.length_map] at hle
    have hsn := cntTo_snoc d v.length v x (pre.map fun (k : Fin 70) => k.val) k
    obtain ⟨z, hz⟩ : ∃ z, cntTo d v.length v x (pre.map fun (k : Fin 70) => k.val) = z := ⟨_, rfl⟩
    rw [hz] at e1 hle hsn
    have hcu : W.cell? ⟨q, 0, none⟩ = some (.int .i64 z) := by rw [cell_at e1]; rfl
    have hfq := free_of e1 0
    obtain ⟨b, hb⟩ : ∃ b, atN d v.length v x k = b := ⟨_, rfl⟩
    have hmp : ((pre ++ [k]).map fun (k : Fin 70) => k.val) = (pre.map fun (k : Fin 70) => k.val) ++ [k.val] := by simp
    have E1 := Lib.hid e1
    have E2 := Lib.hid e2
    have E3 := Lib.hid e3
    rw [hb] at hsn ⊢
    have HBB := Lib.hid hb
    have HSN := Lib.hid hsn
    have HMP := Lib.hid hmp
    clear e1 e2 e3 hb hz hsn hmp
    by_cases h0 : b = 0
    · subst h0
      rw [show holeI 0 = -1 from rfl]
      gi_wp2
      refine ⟨KeepsOthers.refl _, KpC.refl _ _, ?_, E2.out, E3.out, e4⟩
      rw [HMP.out, HSN.out]
      exact E1.out
    · rw [show holeI b = (b : Int) from if_neg h0]
      have hbm : ((b : Int) == -1) = false := by rw [beq_eq_false_iff_ne]; omega
      gi_wp2
      have hne1 : F ≠ q := by omega
      have hne2 : g ≠ q := by omega
      refine ⟨KeepsOthers.setCell _ _ _, KpC.setCell (F := fun k => k = q) (KpC.refl _ _) rfl _, ?_, ⟨blk_set_other E2.out.blk hne1 _ _, E2.out.vol.other hne2, E2.out.len, E2.out.ne⟩, below_set E3.out (by omega), by simpa using e4⟩
      rw [HMP.out, HSN.out, if_neg h0]
      have := blk_set E1.out 0 (.int .i64 ((z : Int) + 1))
      simpa using this
  case done =>
    rintro D xs W hD rfl ⟨e1, e2, e3, e4⟩ hK
    have hxs : ((List.finRange 70).map fun (k : Fin 70) => k.val) = List.range 70 := (List.ext_getElem (by simp) (by simp)).symm
    rw [hxs] at e1
    have hle := cntTo_le d v.length v x (List.range 70)
    rw [List.length_range] at hle
    obtain ⟨z, hz⟩ : ∃ z, cntTo d v.length v x (List.range 70) = z := ⟨_, rfl⟩
    rw [hz] at e1 hle
    have HZ := Lib.hid hz
    have c18 : W.cell? ⟨F, 18, none⟩ = some (.int .i64 x.ind) := by rw [cell_at e2.blk]; rfl
    have c19 : W.cell? ⟨F, 19, none⟩ = some (.int .i64 x.ext) := by rw [cell_at e2.blk]; rfl
    have E1 := Lib.hid e1
    have E2 := Lib.hid e2
    have E3 := Lib.hid e3
    have HK := Lib.hid hK
    clear e1 e2 e3 hK k0 k1 k2 hz hxs
    go_wp2
    go_quiet (fail)
    rename_i nq
    have hQD := below_drewN' W nq
    generalize W.drewN nq = WD at *
    have hD0 : Hid (WD.heap[q]? = some (.cells #[.int .i64 ((z + 0 : Nat) : Int)] 3 (0, 0)))   := blk_keep E1.out hQD
    have hD1 : Hid (FileAt WD F g cg v.length (inosV v) d n v x) := E2.out.keep hQD
    have hD2 : Hid (Below w.heap.size w WD) := below_keep E3.out (Nat.le_refl _) hQD
    have hD3 : Hid (WD.heap[D]? = some (.deferred (some []))) := blk_keep HK.out hQD
    clear c18 c19
    have hix0 := fun W => index2 (.int .i64 x.ind) (.int .i64 x.ext) 0 W (.inl rfl)
    have hix1 := fun W => index2 (.int .i64 x.ind) (.int .i64 x.ext) 1 W (.inr rfl)
    simp only [Int.reduceToNat, List.getElem_toArray, List.getElem_cons_zero, List.getElem_cons_succ] at hix0 hix1
    go_wp2
    go_loopw [11, 39] (fun _ iv wr => ∃ k cc : Nat, k ≤ 2 ∧ iv = .int .i64 k ∧ cc ≤ k ∧ Hid (cc = (if k = 0 then 0 else if k = 1 then one (goodN d v.length x.ind) else one (goodN d v.length x.ind) + one (goodN d v.length x.ext))) ∧ Hid (wr.heap[q]? = some (.cells #[.int .i64 ((z + cc : Nat) : Int)] 3 (0, 0))) ∧ Hid (FileAt wr F g cg v.length (inosV v) d n v x) ∧ Hid (Below w.heap.size w wr) ∧ Hid (wr.heap[D]? = some (.deferred (some [])))) (fun _ iv _ => 2 - (intOf iv).toNat)
    case atStart => exact ⟨0, 0, by omega, rfl, by omega, rfl, hD0, hD1, hD2, hD3⟩
    case round =>
      obtain ⟨k, cc, hk, rfl, hcc, HC, e1, e2, e3, hK⟩ := hrel
      have hcu : wr.cell? ⟨q, 0, none⟩ = some (.int .i64 ((z + cc : Nat) : Int)) := by rw [cell_at e1.out]; rfl
      have hfq := free_of e1.out 0
      have hne1 : F ≠ q := by omega
      have hne2 : g ≠ q := by omega
      have hnd : D ≠ q := by omega
      by_cases hk2 : k < 2
      · obtain ⟨b, hb⟩ : ∃ b, (if k = 0 then x.ind else x.ext) = b := ⟨_, rfl⟩
        have hcn : cc + one (goodN d v.length b) = (if k + 1 = 0 then 0 else if k + 1 = 1 then one (goodN d v.length x.ind) else one (goodN d v.length x.ind) + one (goodN d v.length x.ext)) := by
          rw [HC.out, ← hb]
          rcases (by omega : k = 0 ∨ k = 1) with rfl | rfl <;> simp
        have HCN := Lib.hid hcn
        clear hcn
        have hsplit : (k = 0 ∧ x.ind = b) ∨ (k = 1 ∧ x.ext = b) := by
          rcases (by omega : k = 0 ∨ k = 1) with rfl | rfl
          · exact .inl ⟨rfl, by simpa using hb⟩
          · exact .inr ⟨rfl, by simpa using hb⟩
        clear hb HC
        by_cases hgd : goodN d v.length b = true
        · rw [hgd] at HCN
          rcases hsplit with ⟨rfl, rfl⟩ | ⟨rfl, rfl⟩
          all_goals
            go_wp2_with (go_at_call 63; refine (good_ok _ _ _ _ _ _ _ _ _ _ _ e2.out).mono ?_; rw [hgd]; rintro e w3 ⟨rfl, rfl⟩)
            refine ⟨⟨_, cc + 1, ?_, by go_num, ?_, HCN, ?_, ⟨blk_set_other e2.out.blk hne1 _ _, e2.out.vol.other hne2, e2.out.len, e2.out.ne⟩, below_set e3.out (by omega), blk_set_other hK.out hnd _ _⟩, ?_⟩
            · omega
            · omega
            · have := blk_set e1.out 0 (.int .i64 ((z : Int) + cc + 1))
              exact this
            · simp only [intOf]; omega
        · have hgd' : goodN d v.length b = false := by simpa using hgd
          rw [hgd'] at HCN
          rcases hsplit with ⟨rfl, rfl⟩ | ⟨rfl, rfl⟩
          all_goals
            go_wp2_with (go_at_call 63; refine (good_ok _ _ _ _ _ _ _ _ _ _ _ e2.out).mono ?_; rw [hgd']; rintro e w3 ⟨rfl, rfl⟩)
            refine ⟨⟨_, cc, ?_, by go_num, ?_, HCN, e1, e2, e3, hK⟩, ?_⟩
            · omega
            · omega
            · simp only [intOf]; omega
      · obtain rfl : k = 2 := by omega
        go_wp2
        refine ⟨by simp, .inl ⟨_, _, rfl, run_takeDeferred hK.out, ?_⟩⟩
        refine ⟨_, results_tmp rfl _ _ _, ?_, below_putD e3.out (by omega) hK.out⟩
        refine ret_int ?_
        rw [HZ.out]
        have := HC.out
        simp at this
        omega
  case stop =>
    rintro D c pre W _ _ h _
    exact h.elim
end Go.Proofs.Ytacdohlhalnioaa
end

/- Contract: the bytes of a file. -/
section
set_option linter.unusedSimpArgs false
set_option linter.unusedVariables false
set_option maxRecDepth 20000
namespace Go.Proofs.Ytacdohlhalnioaa
open Go.RowKit
attribute [local go_sem] Oper.semAt_some

abbrev IsB (b : Nat) (l : Blk) (w : World) : Prop := Lib.IsBuilderF 87 5 b b (Lib.byteCells l) w
theorem wstr_ok (b : Nat) (l t : Blk) (w : World) (h : IsB b l w) (hlen : l.length + t.length ≤ 140737488355328) (hb : b ≤ w.heap.size) :
    Calls Try.prog 60 #[.pointer (some ⟨b, 0, none⟩), .string (mk t)] w fun e w' => (∃ x, e = .returned x) ∧ IsB b (l ++ t) w' ∧ Below b w w' ∧ Lib.OthersKept 5 (some b) w w' := by
  refine (Any.Builder_WriteString_k Try.bw166 Try.Builder_Extra_105 b b (Lib.byteCells l) (mk t) w h (by simpa [Lib.byteCells] using hlen) hb).mono ?_
  rintro e w' ⟨rfl, h1, h2, h3⟩
  refine ⟨⟨_, rfl⟩, .inr ?_, h2, h3⟩
  have e : Lib.byteCells (l ++ t) = Lib.byteCells l ++ Lib.strCells (mk t) := by simp [Lib.byteCells, Lib.strCells]
  rw [e]
  exact h1
theorem bstr_ok (b : Nat) (l : Blk) (w : World) (h : IsB b l w) (hb : b ≤ w.heap.size) :
    Calls Try.prog 62 #[.pointer (some ⟨b, 0, none⟩)] w fun e w' => e = .returned (.string (mk l)) ∧ Below b w w' ∧ Lib.OthersKept 5 (some b) w w' :=
  (Try.Builder_String_any_k b b l w h hb).mono fun e w' h => ⟨h.1, h.2.2⟩
theorem isB_new (b : Nat) (w : World) (h : w.heap[b]? = some (.cells #[.pointer none, .slice none 0 0] 87 (0, 0))) : IsB b [] w :=
  .inl ⟨Nat.le_refl _, .slice none 0 0, h, ⟨rfl, .inl ⟨rfl, rfl⟩⟩, by simp [Value.ownBlock]⟩
theorem bAt_grown {T e : TypeId} {B b : Nat} {p : Value} {bs : List Value} {W W' : World} {row : Option Nat} (h : Lib.BuilderAtF T e B b p bs W) (hg : W.grownBy W' row) (hr : ∀ r, row = some r → ∃ o : Obj, W.heap[r]? = some o ∧ o.isCells = false) : Lib.BuilderAtF T e B b p bs W' := by
  obtain ⟨hB, u, hb, hown, hne⟩ := h
  refine ⟨hB, u, cells_grown hb hg hr, ⟨hown.1, ?_⟩, hne⟩
  rcases hown.2 with h0 | ⟨g, cap, cur, fz, h1, h2, h3, h4⟩
  · exact .inl h0
  · exact .inr ⟨g, cap, cur, fz, h1, h2, cells_grown h3 hg hr, h4⟩
theorem isB_grown {b : Nat} {l : Blk} {W W' : World} {row : Option Nat} (h : IsB b l W) (hg : W.grownBy W' row) (hr : ∀ r, row = some r → ∃ o : Obj, W.heap[r]? = some o ∧ o.isCells = false) : IsB b l W' :=
  h.elim (fun x => .inl (bAt_grown x hg hr)) (fun x => .inr (bAt_grown x hg hr))
theorem isB_below {b : Nat} {l : Blk} {W W' : World} (h : IsB b l W) (hb : Below W.heap.size W W') : IsB b l W' :=
  isB_grown h ⟨hb.os, hb.tape, hb.output, hb.size, fun q hq _ => hb.block q hq⟩ (row := none) (fun r e => by cases e)

/-- The bytes of the block k. -/
def blkAt (d L : Nat) (v : Vol) (x : Ino) (k : Nat) : Blk := if atN d L v x k = 0 then zs 128 else bk v (atN d L v x k)
def catTo (d L : Nat) (v : Vol) (x : Ino) (l : List Nat) : Blk := l.flatMap fun k => blkAt d L v x k
/-- All bytes of a file. -/
def contV (v : Vol) (n : Nat) : Blk := (catTo (dataV v) v.length v (inoV v n) (List.range (needS (sizeX (inoV v n))))).take (sizeX (inoV v n))
def readV (v : Vol) (n off sz : Nat) : Blk := ((contV v n).drop off).take sz
theorem atN_lt {d L : Nat} {v : Vol} {x : Ino} {k : Nat} (h : atN d L v x k ≠ 0) : d ≤ atN d L v x k ∧ atN d L v x k < L := by
  unfold atN at h ⊢
  split
  · rename_i hg
    simpa [goodN] using hg
  · rename_i hg
    rw [if_neg hg] at h
    exact absurd rfl h
theorem blkAt_len {d L : Nat} {v : Vol} {x : Ino} (hs : ∀ j, j < L → (bk v j).length = 128) (k : Nat) : (blkAt d L v x k).length = 128 := by
  unfold blkAt
  split
  · simp
  · rename_i h
    exact hs _ (atN_lt h).2
theorem catTo_len {d L : Nat} {v : Vol} {x : Ino} (hs : ∀ j, j < L → (bk v j).length = 128) (l : List Nat) : (catTo d L v x l).length = 128 * l.length := by
  induction l with
  | nil => rfl
  | cons k l ih =>
    have := blkAt_len (d := d) (x := x) hs k
    simp only [catTo, List.flatMap_cons, List.length_append, List.length_cons] at ih ⊢
    omega
end Go.Proofs.Ytacdohlhalnioaa
end

/- Contract: bytes of a file are read. -/
section
set_option linter.unusedSimpArgs false
set_option linter.unusedVariables false
set_option maxRecDepth 20000
namespace Go.Proofs.Ytacdohlhalnioaa
open Go.RowKit
attribute [local go_sem] Oper.semAt_some

theorem ret_str_int {a b : Blk} {i : Int} (h : a = b) : Ending.returned (.tuple #[.string (mk a), .int .i64 i]) = .returned (.tuple #[.string (mk b), .int .i64 i]) := by rw [h]
set_option maxHeartbeats 4000000 in
theorem read_ok (A : Option Addr) (c : Nat) (v : Vol) (n off sz : Nat) (w : World) (hr : RS w A v) (hv : okV v = true) (h1 : 1 ≤ n) (h2 : n ≤ inosV v) (hx : (inoV v n).size < 4294967296) :
    Calls Try.prog 20 #[.slice A v.length c, .int .i64 n, .int .i64 off, .int .i64 sz] w fun e w' => e = .returned (.tuple #[.string (mk (readV v n off sz)), .int .i64 0]) ∧ Below w.heap.size w w' := by
  have HOK := okV_iff.1 hv
  have h1' := HOK.lo
  have h2' := HOK.hi
  have hd0 : 0 < dataV v := by rw [dataV]; omega
  have HS := Lib.hid HOK.size
  have HV := Lib.hid hv
  have HR := Lib.hid hr
  clear hv hr HOK
  obtain ⟨d, hd⟩ : ∃ d, dataV v = d := ⟨_, rfl⟩
  obtain ⟨x, hX⟩ : ∃ x, inoV v n = x := ⟨_, rfl⟩
  rw [readV, contV]
  rw [hd] at hd0 ⊢
  rw [hX] at hx ⊢
  obtain ⟨s, hsx⟩ : ∃ s, sizeX x = s := ⟨_, rfl⟩
  have hs8 : s ≤ 8960 := by rw [← hsx, sizeX]; omega
  have hmin : min x.size 8960 = s := hsx
  rw [hsx]
  obtain ⟨m, hm⟩ : ∃ m, needS s = m := ⟨_, rfl⟩
  have hm70 : m ≤ 70 := by rw [← hm, needS]; omega
  have hms : (s + 127) / 128 = m := hm
  have hsm : s ≤ 128 * m := by rw [← hm, needS]; omega
  rw [hm]
  have hop := Lib.hid (fun w hr => open_ok A c v n w hr HV.out h1 h2)
  rw [hd, hX] at hop
  have HD := Lib.hid hd
  have HX := Lib.hid hX
  have HM := Lib.hid hm
  have HSX := Lib.hid hsx
  have HMN := Lib.hid hmin
  clear hd hX hm hsx hmin
  have ho0 : (0 : Int) ≤ (off : Int) := by omega
  have hz0 : (0 : Int) ≤ (sz : Int) := by omega
  refine callsIn_wide.1 (callsIn_of_wp_marks (n := 3) Try.func20 rfl trivial (wpIn_wide.2 ?_) rfl)
  simp only [Try.ntmps20, List.size_toArray, List.length_cons, List.length_nil, Nat.reduceAdd, Nat.reduceSub, Array.replicate_succ, Array.replicate_zero, List.push_toArray, List.append_toArray, List.nil_append, List.cons_append]
  go_wp2_with (go_at_call 51; refine (hop.out _ HR.out).mono ?_; rintro e w1 ⟨F, g, cg, rfl, hf1, hF, hg, hb1⟩; have HF1 := Lib.hid hf1; have HB1 := Lib.hid hb1; clear hf1 hb1)
  have hf2 := HF1.out.keep (((Below.refl _ _).alloc (Nat.le_refl _) (.cells #[.pointer (some ⟨F, 0, none⟩)] 75)).alloc (by simp) (.cells #[.pointer none, .slice none 0 0] 87))
  have hq0 : ((w1.alloc (.cells #[.pointer (some ⟨F, 0, none⟩)] 75)).alloc (.cells #[.pointer none, .slice none 0 0] 87)).heap[w1.heap.size]? = some (.cells #[.pointer (some ⟨F, 0, none⟩)] 75 (0, 0)) := heap_alloc_lt _ _ _ _ (blk_new _ _)
  have hq1 : ((w1.alloc (.cells #[.pointer (some ⟨F, 0, none⟩)] 75)).alloc (.cells #[.pointer none, .slice none 0 0] 87)).heap[w1.heap.size + 1]? = some (.cells #[.pointer none, .slice none 0 0] 87 (0, 0)) := heap_alloc_at _ _ _ (by simp)
  have hqs : ((w1.alloc (.cells #[.pointer (some ⟨F, 0, none⟩)] 75)).alloc (.cells #[.pointer none, .slice none 0 0] 87)).heap.size = w1.heap.size + 2 := by simp
  have hB2 : Below w.heap.size w ((w1.alloc (.cells #[.pointer (some ⟨F, 0, none⟩)] 75)).alloc (.cells #[.pointer none, .slice none 0 0] 87)) := (HB1.out.alloc HB1.out.size _).alloc (by have := HB1.out.size; simp; omega) _
  have hs1 := HB1.out.size
  have hltF := HF1.out.lt
  have hltg := HF1.out.vol.lt
  generalize (w1.alloc (.cells #[.pointer (some ⟨F, 0, none⟩)] 75)).alloc (.cells #[.pointer none, .slice none 0 0] 87) = W1 at *
  generalize w1.heap.size = q at *
  have HF2 := Lib.hid hf2
  have HQ0 := Lib.hid hq0
  have HQ1 := Lib.hid hq1
  have HB2 := Lib.hid hB2
  have c10 : W1.cell? ⟨q, 0, none⟩ = some (.pointer (some ⟨F, 0, none⟩)) := by rw [cell_at hq0]; rfl
  clear hf2 hq0 hq1 hB2 HF1 HB1
  refine wp_noPanic ?_
  refine region_P (fun w' => w'.cell? ⟨q, 0, none⟩ = some (.pointer (some ⟨F, 0, none⟩))) [] (by kernel_rfl) ?_ (fun hHeld => ?_)
  · exact c10
  refine wpP_take (i := 0) (oi := ?oi192001) (v := ?v192001) ?hi192001 (by kernel_rfl) (by kernel_rfl) (by kernel_rfl) (by kernel_rfl) ?hQ192001 ?hy192001 (by assumption) ?rest192001
  case hi192001 => (simp only [List.getElem?_toArray, List.getElem?_cons_succ, List.getElem?_cons_zero]; exact rfl)
  case hQ192001 => exact fun _ _ _ h => (h.1 _ rfl).elim
  case hy192001 => (refine Or.inl ⟨by kernel_rfl, ?_⟩; intro w hSw; (try dsimp only at hSw); go_simp; try (with_reducible rfl))
  try simp only [Act.put, List.setIfInBounds_toArray, List.set_cons_zero, List.set_cons_succ]
  refine wpP_take (i := 1) (oi := ?oi192002) (v := ?v192002) ?hi192002 (by kernel_rfl) (by kernel_rfl) (by kernel_rfl) (by kernel_rfl) ?hQ192002 ?hy192002 (by assumption) ?rest192002
  case hi192002 => (simp only [List.getElem?_toArray, List.getElem?_cons_succ, List.getElem?_cons_zero]; exact rfl)
  case hQ192002 => exact fun _ _ _ h => (h.1 _ rfl).elim
  case hy192002 => (refine Or.inl ⟨by kernel_rfl, ?_⟩; intro w hSw; (try dsimp only at hSw); go_simp; try (with_reducible rfl))
  try simp only [Act.put, List.setIfInBounds_toArray, List.set_cons_zero, List.set_cons_succ]
  refine wpP_ready (rs := [2]) (by kernel_rfl) (by simp) ?_
  refine AllP.cons (o := ?o192003) ?ho192003 (fun K hK => ?_) AllP.nil
  case ho192003 => (simp only [List.getElem?_toArray, List.getElem?_cons_succ, List.getElem?_cons_zero]; exact rfl)
  go_simp
  go_at_call 54
  refine (size_ok _ _ _ _ _ _ _ _ _ _ (HF2.out.keep ((Below.refl _ _).drew)) hx).mono ?_
  rw [HMN.out]
  rintro e w2 ⟨rfl, rfl⟩
  refine hK.out _ _ ?_ (fun hHeld => ?_)
  · exact c10
  clear hK K
  try simp only [Act.put, List.setIfInBounds_toArray, List.set_cons_zero, List.set_cons_succ]
  refine wpP_ready (rs := [3]) (by kernel_rfl) (by simp) ?_
  refine AllP.cons (o := ?o192004) ?ho192004 (fun K hK => ?_) AllP.nil
  case ho192004 => (simp only [List.getElem?_toArray, List.getElem?_cons_succ, List.getElem?_cons_zero]; exact rfl)
  go_simp
  go_at_call 53
  refine (need_ok _ _ (by omega)).mono ?_
  rw [hms]
  rintro e w2 ⟨rfl, rfl⟩
  refine hK.out _ _ ?_ (fun hHeld => ?_)
  · exact c10
  clear hK K
  try simp only [Act.put, List.setIfInBounds_toArray, List.set_cons_zero, List.set_cons_succ]
  refine wpP_ready (rs := [4]) (by kernel_rfl) (by simp) ?_
  refine AllP.cons (o := ?o192005) ?ho192005 (fun K hK => ?_) AllP.nil
  case ho192005 => (simp only [List.getElem?_toArray, List.getElem?_cons_succ, List.getElem?_cons_zero]; exact rfl)
  go_simp
  go_at_call 52
  refine (all_ok F m _).mono ?_
  rintro e w2 ⟨rfl, rfl⟩
  refine hK.out _ _ ?_ (fun hHeld => ?_)
  · exact (cell_keep c10 (((Below.refl _ _).drew.alloc (Nat.le_refl _) _).alloc (by simp) _))
  clear hK K
  try simp only [Act.put, List.setIfInBounds_toArray, List.set_cons_zero, List.set_cons_succ]
  refine wpP_done (by kernel_rfl) ?_ _
  refine noPanic_normal ?_
  go_wp2
  obtain ⟨W0, hW0⟩ : ∃ W0, (W1.drew.alloc (.cells #[.pointer (some ⟨F, 0, none⟩)] 75)).alloc (.cells #[.int .i64 m] 3) = W0 := ⟨_, rfl⟩
  have hqd : W1.drew.heap.size = q + 2 := hqs
  have k1 : W0.heap[q + 2]? = some (.cells #[.pointer (some ⟨F, 0, none⟩)] 75 (0, 0)) := by rw [← hW0]; exact heap_alloc_lt _ _ _ _ (heap_alloc_at _ _ _ hqd.symm)
  have k2 : W0.heap[q + 3]? = some (.cells #[.int .i64 m] 3 (0, 0)) := by rw [← hW0]; exact heap_alloc_at _ _ _ (by simp [hqd])
  have hsz : W0.heap.size = q + 4 := by rw [← hW0]; simp [hqd]
  have hB0 : Below W1.heap.size W1 W0 := by rw [← hW0]; exact ((Below.refl _ _).drew.alloc (Nat.le_refl _) _).alloc (by simp) _
  rw [hW0, hqd]
  have hA0 := HF2.out.keep hB0
  have hBw := below_keep HB2.out (Nat.le_refl _) hB0
  have k0 := blk_keep HQ0.out hB0
  have hib : IsB (q + 1) [] W0 := isB_new _ _ (blk_keep HQ1.out hB0)
  clear hW0 hHeld c10 hqd
  have HA0 := Lib.hid hA0
  clear hA0
  have hcl := Lib.hid (catTo_len (d := d) (x := x) HS.out)
  have hneF : ∀ k, k ≠ q + 1 → some k ≠ some (q + 1) := fun k h e => h (Option.some.inj e)
  refine wp_rangeFunc (α := Fin m) (gf := 95) (lb := #[.pointer (some ⟨q + 2 + 1, 0, none⟩), .pointer (some ⟨q + 2, 0, none⟩)]) rfl (enters_of Try.func95 (by kernel_rfl) rfl)
    (all_stops 2 F g cg v.length (inosV v) d n (q + 3) (q + 2) m v x (fun k => k ≠ q + 3 ∧ k ≠ q + 2 ∧ k ≠ F ∧ k ≠ g) W0 k2 k1 HA0.out (by simp) (by simp) (by simp) (by simp) hm70 hd0 HS.out h2') (fun _ => rfl)
    (fun pre W => Hid (W.heap[q]? = some (.cells #[.pointer (some ⟨F, 0, none⟩)] 75 (0, 0)) ∧ W.heap[q + 2]? = some (.cells #[.pointer (some ⟨F, 0, none⟩)] 75 (0, 0)) ∧ W.heap[q + 3]? = some (.cells #[.int .i64 m] 3 (0, 0)) ∧ IsB (q + 1) (catTo d v.length v x (pre.map fun (k : Fin m) => k.val)) W ∧ FileAt W F g cg v.length (inosV v) d n v x ∧ Below w.heap.size w W ∧ q + 4 ≤ W.heap.size))
    (fun _ _ _ => False)
    ?own (fun _ _ _ _ _ hs _ _ => hs) ⟨k0, k1, k2, hib, HA0.out, hBw, by omega⟩
    (fun k => { tmps := #[Value.slice A (List.length v) c, Value.int IntKind.i64 ((n : Nat) : Int), Value.int IntKind.i64 ((off : Nat) : Int), Value.int IntKind.i64 ((sz : Nat) : Int), undef, undef, undef, undef, Value.string (mk []), Value.int IntKind.i64 0, Value.pointer (some ⟨q, 0, none⟩), Value.int IntKind.i64 0, Value.pointer (some ⟨q + 1, 0, none⟩), undef, .int .i64 (holeI (atN d v.length v x k)), undef, Value.tuple #[Value.pointer (some ⟨F, 0, none⟩), Value.int IntKind.i64 0], Value.slice A (List.length v) c, Value.int IntKind.i64 ((n : Nat) : Int), Value.tuple #[Value.pointer (some ⟨F, 0, none⟩), Value.int IntKind.i64 0], Value.pointer (some ⟨F, 0, none⟩), Value.int IntKind.i64 0, Value.bool false, Value.int IntKind.i64 0, Value.bool false, undef, Value.bool (decide ((off : Int) < 0) || decide (((sz : Nat) : Int) < 0)), Value.int IntKind.i64 ((off : Nat) : Int), Value.bool (decide ((off : Int) < 0)), Value.bool (decide ((off : Int) < 0)), Value.int IntKind.i64 ((sz : Nat) : Int), Value.bool (decide (((sz : Nat) : Int) < 0)), Value.bool (decide ((off : Int) < 0) || decide (((sz : Nat) : Int) < 0)), Value.pointer (some ⟨F, 0, none⟩), Value.pointer (some ⟨F, 0, none⟩), Value.int IntKind.i64 ((s : Nat) : Int), Value.int IntKind.i64 ((m : Nat) : Int), Value.func (Fn.func 95) #[] #[Value.pointer (some ⟨q + 2 + 1, 0, none⟩), Value.pointer (some ⟨q + 2, 0, none⟩)], .int .i64 ((k : Nat) : Int), .int .i64 (holeI (atN d v.length v x k)), undef, undef, undef, undef, undef, undef, undef, undef, undef, undef, undef, undef, undef, undef, undef, undef, undef, undef, undef, undef, undef, undef, undef, undef, undef, undef, undef, undef], defers := [] }) ?assign ?body ?done ?stop
  case own =>
    rintro pre A B row ⟨e0, e1, e2, eb, ef, e3, e4⟩ hg hr
    have hr' : ∀ r, row = some r → ∃ o : Obj, A.heap[r]? = some o ∧ o.isCells = false := fun r e => (hr r e).2
    obtain ⟨cur, hgg, hcc⟩ := ef.vol
    exact ⟨cells_grown e0 hg hr', cells_grown e1 hg hr', cells_grown e2 hg hr', isB_grown eb hg hr', ⟨cells_grown ef.blk hg hr', ⟨cur, cells_grown hgg hg hr', hcc⟩, ef.len, ef.ne⟩, e3.grown hg (by omega) (fun r e => by have := (hr r e).1; omega), Nat.le_trans e4 hg.size⟩
  case assign =>
    intro l k W K hK
    gi_wp2
    exact hK
  case body =>
    rintro l pre k W ⟨e0, e1, e2, eb, ef, e3, e4⟩ hlen
    obtain ⟨t, ht⟩ : ∃ t, catTo d v.length v x (pre.map fun (k : Fin m) => k.val) = t := ⟨_, rfl⟩
    have htl : t.length ≤ 8960 := by rw [← ht, hcl.out, List.length_map]; omega
    have hsn : catTo d v.length v x ((pre ++ [k]).map fun (k : Fin m) => k.val) = t ++ blkAt d v.length v x k := by rw [← ht]; simp [catTo]
    have hbl := blkAt_len (d := d) (x := x) HS.out k
    rw [ht] at eb
    obtain ⟨b, hb⟩ : ∃ b, atN d v.length v x k = b := ⟨_, rfl⟩
    have hbd : b ≠ 0 → d ≤ b ∧ b < v.length := by rw [← hb]; exact atN_lt
    have hbe : blkAt d v.length v x k = if b = 0 then zs 128 else bk v b := by rw [blkAt, hb]
    have EB := Lib.hid eb
    have EF := Lib.hid ef
    have E0 := Lib.hid e0
    have E1 := Lib.hid e1
    have E2 := Lib.hid e2
    have E3 := Lib.hid e3
    rw [hb]
    have HBB := Lib.hid hb
    have HT := Lib.hid ht
    have HSN := Lib.hid hsn
    have HBL := Lib.hid hbl
    have HBE := Lib.hid hbe
    have c10 : W.cell? ⟨q, 0, none⟩ = some (.pointer (some ⟨F, 0, none⟩)) := by rw [cell_at e0]; rfl
    clear eb ef e0 e1 e2 e3 hb ht hsn hbl hbe k0 k1 k2 hib hBw hB0
    have hfin : ∀ (W3 W' : World), Below W.heap.size W W3 → IsB (q + 1) (t ++ blkAt d v.length v x k) W' → Below (q + 1) W3 W' → Lib.OthersKept 5 (some (q + 1)) W3 W' →
        KeepsOthers W W' ∧ KpC (fun k => k ≠ q + 3 ∧ k ≠ q + 2 ∧ k ≠ F ∧ k ≠ g) W W' ∧ Hid (W'.heap[q]? = some (.cells #[.pointer (some ⟨F, 0, none⟩)] 75 (0, 0)) ∧ W'.heap[q + 2]? = some (.cells #[.pointer (some ⟨F, 0, none⟩)] 75 (0, 0)) ∧ W'.heap[q + 3]? = some (.cells #[.int .i64 m] 3 (0, 0)) ∧ IsB (q + 1) (catTo d v.length v x ((pre ++ [k]).map fun (k : Fin m) => k.val)) W' ∧ FileAt W' F g cg v.length (inosV v) d n v x ∧ Below w.heap.size w W' ∧ q + 4 ≤ W'.heap.size) := by
      intro W3 W' hb3 hib' hbw hok
      have n1 : ∀ (cs : Array Value) (T : Nat) (fz : Nat × Nat), T ≠ 5 → ∀ c' fz', Obj.cells cs T fz ≠ Obj.cells c' 5 fz' := fun cs T fz hT c' fz' h => hT (by injection h)
      obtain ⟨cur, hgg, hcc⟩ := EF.out.vol
      have z0 := hok _ _ (blk_keep E0.out hb3) (hneF _ (by omega)) (n1 _ _ _ (by decide))
      have z1 := hok _ _ (blk_keep E1.out hb3) (hneF _ (by omega)) (n1 _ _ _ (by decide))
      have z2 := hok _ _ (blk_keep E2.out hb3) (hneF _ (by omega)) (n1 _ _ _ (by decide))
      have z3 := hok _ _ (blk_keep EF.out.blk hb3) (hneF _ (by omega)) (n1 _ _ _ (by decide))
      have z4 := hok _ _ (blk_keep hgg hb3) (hneF _ (by omega)) (n1 _ _ _ (by decide))
      have hsz3 : W.heap.size ≤ W'.heap.size := Nat.le_trans hb3.size hbw.size
      refine ⟨⟨hsz3, fun j o ho hoc => ?_⟩, fun j c' T fz hj hnF => ?_, z0, z1, z2, by rw [HSN.out]; exact hib', ⟨z3, ⟨cur, z4, hcc⟩, EF.out.len, EF.out.ne⟩, below_keep (B := w.heap.size) (w := w) E3.out (Nat.le_refl _) hb3 |>.trans (hbw.mono (by omega)), Nat.le_trans e4 hsz3⟩
      · refine hok _ _ (blk_keep ho hb3) (fun e => ?_) (fun c' fz' h => by rw [h] at hoc; cases hoc)
        have e' := Option.some.inj e
        subst e'
        rcases EB.out with ⟨_, u, hu, _⟩ | ⟨_, u, hu, _⟩
        all_goals
          rw [hu] at ho
          injection ho with ho
          subst ho
          cases hoc
      · by_cases j1 : j = q + 3
        · subst j1; rw [E2.out] at hj; rw [← hj]; exact z2
        · by_cases j2 : j = q + 2
          · subst j2; rw [E1.out] at hj; rw [← hj]; exact z1
          · by_cases j3 : j = F
            · subst j3; rw [EF.out.blk] at hj; rw [← hj]; exact z3
            · by_cases j4 : j = g
              · subst j4; rw [hgg] at hj; rw [← hj]; exact z4
              · exact absurd ⟨j1, j2, j3, j4⟩ hnF
    have HFin := Lib.hid hfin
    clear hfin
    by_cases h0 : b = 0
    · subst h0
      rw [show holeI 0 = -1 from rfl]
      gi_wp2_with (first
        | (refine ⟨trivial, CallsIn.inRound l (callsIn_wide.2 ?_)⟩; go_at_call 61; refine (repeat0_ok 128 _ (by omega)).mono ?_; rintro e w3 ⟨rfl, hb3⟩)
        | (refine ⟨trivial, CallsIn.inRound l (callsIn_wide.2 ?_)⟩; go_at_call 60; refine (wstr_ok (q + 1) t (zs 128) _ (isB_below EB.out hb3) (by simp; omega) (by have := hb3.size; omega)).mono ?_; rintro e w4 ⟨⟨y, rfl⟩, hib4, hbw4, hok4⟩))
      rw [← (show blkAt d v.length v x k = zs 128 from HBE.out)] at hib4
      exact HFin.out _ _ hb3 hib4 hbw4 hok4
    · rw [show holeI b = (b : Int) from if_neg h0]
      have hbm : ((b : Int) == -1) = false := by rw [beq_eq_false_iff_ne]; omega
      have hbl2 := hbd h0
      have c0 : W.cell? ⟨F, 0, none⟩ = some (.slice (some ⟨g, 0, none⟩) v.length cg) := by rw [cell_at EF.out.blk]; rfl
      have cb := EF.out.vol.cell b (by have := EF.out.len; omega)
      have hbi : (b : Int) < (v.length : Nat) := by omega
      have hbk : (bk v b).length = 128 := HS.out b (by omega)
      have HBK := Lib.hid hbk
      clear hbk
      gi_wp2_with (refine ⟨trivial, CallsIn.inRound l (callsIn_wide.2 ?_)⟩; go_at_call 60; refine (wstr_ok (q + 1) t (bk v b) _ EB.out (by have := HBK.out; omega) (by omega)).mono ?_; rintro e w4 ⟨⟨y, rfl⟩, hib4, hbw4, hok4⟩)
      rw [← (show blkAt d v.length v x k = bk v b from HBE.out.trans (if_neg h0))] at hib4
      exact HFin.out _ _ (Below.refl _ _) hib4 hbw4 hok4
  case done =>
    rintro D xs W hD rfl ⟨e0, e1, e2, eb, ef, e3, e4⟩ hK
    have hxs : ((List.finRange m).map fun (k : Fin m) => k.val) = List.range m := (List.ext_getElem (by simp) (by simp)).symm
    rw [hxs] at eb
    obtain ⟨t, ht⟩ : ∃ t, catTo d v.length v x (List.range m) = t := ⟨_, rfl⟩
    have htl : t.length = 128 * m := by rw [← ht, hcl.out, List.length_range]
    rw [ht] at eb
    have HT := Lib.hid ht
    have c10 : W.cell? ⟨q, 0, none⟩ = some (.pointer (some ⟨F, 0, none⟩)) := by rw [cell_at e0]; rfl
    have EB := Lib.hid eb
    have EF := Lib.hid ef
    have E3 := Lib.hid e3
    have HK := Lib.hid hK
    have hst : s ≤ t.length := by omega
    have hsi : (s : Int) ≤ (t.length : Nat) := by omega
    have HTL := Lib.hid htl
    clear e0 e1 e2 eb ef e3 hK k0 k1 k2 hib hBw hB0 ht hxs htl
    go_wp2
    refine wp_noPanic ?_
    refine region_P (fun w' => w'.cell? ⟨q, 0, none⟩ = some (.pointer (some ⟨F, 0, none⟩))) [] (by kernel_rfl) ?_ (fun hHeld => ?_)
    · exact c10
    refine wpP_take (i := 1) (oi := ?oi192006) (v := ?v192006) ?hi192006 (by kernel_rfl) (by kernel_rfl) (by kernel_rfl) (by kernel_rfl) ?hQ192006 ?hy192006 (by assumption) ?rest192006
    case hi192006 => (simp only [List.getElem?_toArray, List.getElem?_cons_succ, List.getElem?_cons_zero]; exact rfl)
    case hQ192006 => exact fun _ _ _ h => (h.1 _ rfl).elim
    case hy192006 => (refine Or.inl ⟨by kernel_rfl, ?_⟩; intro w hSw; (try dsimp only at hSw); go_simp; try (with_reducible rfl))
    try simp only [Act.put, List.setIfInBounds_toArray, List.set_cons_zero, List.set_cons_succ]
    refine wpP_ready (rs := [0]) (by kernel_rfl) (by simp) ?_
    refine AllP.cons (o := ?o192007) ?ho192007 (fun K hK => ?_) AllP.nil
    case ho192007 => (simp only [List.getElem?_toArray, List.getElem?_cons_succ, List.getElem?_cons_zero]; exact rfl)
    go_simp
    go_at_call 62
    refine (bstr_ok (q + 1) t _ (isB_below EB.out ((Below.refl _ _).drew)) (show q + 1 ≤ W.heap.size by omega)).mono ?_
    rintro e w4 ⟨rfl, hb4, hok4⟩
    have F4 : Hid (FileAt w4 F g cg v.length (inosV v) d n v x) := ⟨(hb4.block F (by omega)).trans EF.out.blk, EF.out.vol.same (hb4.block g (by omega)), EF.out.len, EF.out.ne⟩
    have z10 : w4.cell? ⟨q, 0, none⟩ = some (.pointer (some ⟨F, 0, none⟩)) := (hb4.cell (show q < q + 1 by omega)).trans hHeld
    refine hK.out _ _ ?_ (fun hHeld => ?_)
    · exact z10
    clear hK K
    try simp only [Act.put, List.setIfInBounds_toArray, List.set_cons_zero, List.set_cons_succ]
    refine wpP_ready (rs := [2]) (by kernel_rfl) (by simp) ?_
    refine AllP.cons (o := ?o192008) ?ho192008 (fun K hK => ?_) AllP.nil
    case ho192008 => (simp only [List.getElem?_toArray, List.getElem?_cons_succ, List.getElem?_cons_zero]; exact rfl)
    go_simp
    go_at_call 54
    refine (size_ok _ _ _ _ _ _ _ _ _ _ F4.out hx).mono ?_
    rw [HMN.out]
    rintro e w5 ⟨rfl, rfl⟩
    refine hK.out _ _ ?_ (fun hHeld => ?_)
    · exact z10
    clear hK K
    try simp only [Act.put, List.setIfInBounds_toArray, List.set_cons_zero, List.set_cons_succ]
    refine wpP_take (i := 3) (oi := ?oi192009) (v := ?v192009) ?hi192009 (by kernel_rfl) (by kernel_rfl) (by kernel_rfl) (by kernel_rfl) ?hQ192009 ?hy192009 (by assumption) ?rest192009
    case hi192009 => (simp only [List.getElem?_toArray, List.getElem?_cons_succ, List.getElem?_cons_zero]; exact rfl)
    case hQ192009 => exact fun _ _ _ h => (h.1 _ rfl).elim
    case hy192009 => (refine Or.inl ⟨by kernel_rfl, ?_⟩; intro w hSw; (try dsimp only at hSw); go_simp; try (with_reducible rfl))
    try simp only [Act.put, List.setIfInBounds_toArray, List.set_cons_zero, List.set_cons_succ]
    refine wpP_take (i := 4) (oi := ?oi192010) (v := ?v192010) ?hi192010 (by kernel_rfl) (by kernel_rfl) (by kernel_rfl) (by kernel_rfl) ?hQ192010 ?hy192010 (by assumption) ?rest192010
    case hi192010 => (simp only [List.getElem?_toArray, List.getElem?_cons_succ, List.getElem?_cons_zero]; exact rfl)
    case hQ192010 => exact fun _ _ _ h => (h.1 _ rfl).elim
    case hy192010 => (refine Or.inl ⟨by kernel_rfl, ?_⟩; intro w hSw; (try dsimp only at hSw); go_simp; try (with_reducible rfl))
    try simp only [Act.put, List.setIfInBounds_toArray, List.set_cons_zero, List.set_cons_succ]
    refine wpP_done (by kernel_rfl) ?_ _
    refine noPanic_normal ?_
    have hK4 : w4.heap[D]? = some (.deferred (some [])) := hok4 _ _ (show W.drew.heap[D]? = _ from HK.out) (fun e => by have := Option.some.inj e; omega) (fun c' fz' h => by cases h)
    have hB4 : Below w.heap.size w w4 := E3.out.drew.trans (hb4.mono (by omega))
    have HK4 := Lib.hid hK4
    have HB4 := Lib.hid hB4
    clear hok4 hb4 z10 hHeld hK4 hB4
    obtain ⟨cs, hcs⟩ : ∃ cs, t.take s = cs := ⟨_, rfl⟩
    have hcl2 : cs.length = s := by rw [← hcs, List.length_take]; omega
    rw [hcs]
    have HCS := Lib.hid hcs
    clear hcs
    have hoi : (0 : Int) ≤ (off : Nat) := by omega
    have hm1 : min off cs.length ≤ cs.length := Nat.min_le_right _ _
    go_wp2
    refine ⟨by simp, .inl ⟨_, _, rfl, run_takeDeferred HK4.out, ?_⟩⟩
    refine ⟨_, results_tmp2 rfl _ _ _, ?_, below_putD HB4.out (by omega) HK4.out⟩
    rw [HT.out, HCS.out]
    refine ret_str_int ?_
    have e1 : (min (off : Int) (s : Int)).toNat = min off s := by omega
    rw [e1]
    have e2 : (min (sz : Int) ((s - min off s : Nat) : Int)).toNat = min sz (s - min off s) := by omega
    rw [e2]
    have e3 : List.take (s - min off s) (List.drop (min off s) cs) = List.drop (min off s) cs := List.take_of_length_le (by rw [List.length_drop]; omega)
    rw [e3]
    have e4 : List.drop (min off s) cs = List.drop off cs := by
      rcases Nat.le_total off s with h | h
      · rw [Nat.min_eq_left h]
      · rw [Nat.min_eq_right h, List.drop_of_length_le (by omega), List.drop_of_length_le (by omega)]
    have e5 : s - min off s = (List.drop off cs).length := by rw [List.length_drop]; omega
    rw [e4, e5]
    rcases Nat.le_total sz (List.drop off cs).length with h | h
    · rw [Nat.min_eq_left h]
    · rw [Nat.min_eq_right h, List.take_of_length_le (Nat.le_refl _), List.take_of_length_le h]
  case stop =>
    rintro D c pre W _ _ h _
    exact h.elim
end Go.Proofs.Ytacdohlhalnioaa
end

/- Contracts: Count and Read where there is no such inode. -/
section
set_option linter.unusedSimpArgs false
set_option linter.unusedVariables false
set_option maxRecDepth 20000
namespace Go.Proofs.Ytacdohlhalnioaa
open Go.RowKit
attribute [local go_sem] Oper.semAt_some

set_option maxHeartbeats 400000 in
theorem count_no (A : Option Addr) (c : Nat) (v : Vol) (n : Int) (w : World) (hr : RS w A v) (h : getE v n ≠ 0) :
    Calls Try.prog 22 #[.slice A v.length c, .int .i64 n] w fun e w' => e = .returned (.int .i64 0) ∧ Below w.heap.size w w' := by
  have HP := Lib.hid (fun w hr => open_no A c v n w hr h)
  have HR := Lib.hid hr
  clear hr
  generalize getE v n = er at *
  have hb : (er == 0) = false := by simpa using h
  have hbn : (er != 0) = true := by simpa using h
  refine callsIn_wide.1 (callsIn_of_wp_marks (n := 3) Try.func22 rfl trivial (wpIn_wide.2 ?_) rfl)
  simp only [Try.ntmps22, List.size_toArray, List.length_cons, List.length_nil, Nat.reduceAdd, Nat.reduceSub, Array.replicate_succ, Array.replicate_zero, List.push_toArray, List.append_toArray, List.nil_append, List.cons_append]
  go_wp2_with (go_at_call 51; refine (HP.out _ HR.out).mono ?_; rintro e w1 ⟨rfl, hb1⟩)
  exact ⟨_, results_tmp rfl _ _ _, rfl, hb1⟩
set_option maxHeartbeats 400000 in
theorem read_no (A : Option Addr) (c : Nat) (v : Vol) (n off sz : Int) (w : World) (hr : RS w A v) (h : getE v n ≠ 0) :
    Calls Try.prog 20 #[.slice A v.length c, .int .i64 n, .int .i64 off, .int .i64 sz] w fun e w' => e = .returned (.tuple #[.string (mk []), .int .i64 (getE v n)]) ∧ Below w.heap.size w w' := by
  have HP := Lib.hid (fun w hr => open_no A c v n w hr h)
  have HR := Lib.hid hr
  clear hr
  generalize getE v n = er at *
  have hb : (er == 0) = false := by simpa using h
  have hbn : (er != 0) = true := by simpa using h
  refine callsIn_wide.1 (callsIn_of_wp_marks (n := 3) Try.func20 rfl trivial (wpIn_wide.2 ?_) rfl)
  simp only [Try.ntmps20, List.size_toArray, List.length_cons, List.length_nil, Nat.reduceAdd, Nat.reduceSub, Array.replicate_succ, Array.replicate_zero, List.push_toArray, List.append_toArray, List.nil_append, List.cons_append]
  go_wp2_with (go_at_call 51; refine (HP.out _ HR.out).mono ?_; rintro e w1 ⟨rfl, hb1⟩)
  exact ⟨_, results_tmp2 rfl _ _ _, rfl, hb1.alloc hb1.size _⟩
set_option maxHeartbeats 1000000 in
theorem read_neg (A : Option Addr) (c : Nat) (v : Vol) (n : Nat) (off sz : Int) (w : World) (hr : RS w A v) (hv : okV v = true) (h1 : 1 ≤ n) (h2 : n ≤ inosV v) (ho : off < 0 ∨ sz < 0) :
    Calls Try.prog 20 #[.slice A v.length c, .int .i64 n, .int .i64 off, .int .i64 sz] w fun e w' => e = .returned (.tuple #[.string (mk []), .int .i64 1]) ∧ Below w.heap.size w w' := by
  have HP := Lib.hid (fun w hr => open_ok A c v n w hr hv h1 h2)
  have HR := Lib.hid hr
  clear hr hv
  have ho' : off < 0 ∨ (0 ≤ off ∧ sz < 0) := by omega
  clear ho
  rcases ho' with ho | ⟨ho, hz⟩
  all_goals
    refine callsIn_wide.1 (callsIn_of_wp_marks (n := 3) Try.func20 rfl trivial (wpIn_wide.2 ?_) rfl)
    simp only [Try.ntmps20, List.size_toArray, List.length_cons, List.length_nil, Nat.reduceAdd, Nat.reduceSub, Array.replicate_succ, Array.replicate_zero, List.push_toArray, List.append_toArray, List.nil_append, List.cons_append]
    go_wp2_with (go_at_call 51; refine (HP.out _ HR.out).mono ?_; rintro e w1 ⟨F, g, cg, rfl, hf1, hF, hg, hb1⟩)
    exact ⟨_, results_tmp2 rfl _ _ _, rfl, hb1.alloc hb1.size _⟩
end Go.Proofs.Ytacdohlhalnioaa
end
