/- Contract: the blocks of a file. -/
import Derived.Test.YtacdohlhalnioaaE4
set_option linter.unusedVariables false
set_option maxRecDepth 20000
namespace Go.Proofs.Ytacdohlhalnioaa
open Go.RowKit
attribute [local go_sem] Oper.semAt_some

theorem own_grown {W W' : World} {row : Option Nat} {base e size n : Nat} {u : Value} {xs : List Value} (h : W.ownsRow base e size u n xs) (hg : W.grownBy W' row) (hr : ∀ r, row = some r → ∃ o : Obj, W.heap[r]? = some o ∧ o.isCells = false) : W'.ownsRow base e size u n xs := by
  refine ⟨h.1, ?_⟩
  rcases h.2 with h0 | ⟨g, cap, cur, h1, h2, h3, h4⟩
  · exact .inl h0
  · exact .inr ⟨g, cap, cur, h1, h2, cells_grown h3 hg hr, h4⟩
theorem own_below {W W' : World} {base e size n : Nat} {u : Value} {xs : List Value} (h : W.ownsRow base e size u n xs) (hb : Below W.heap.size W W') : W'.ownsRow base e size u n xs :=
  own_grown h ⟨hb.os, hb.tape, hb.output, hb.size, fun q hq _ => hb.block q hq⟩ (row := none) (fun r e => by cases e)
theorem own_base {W : World} {base base' e size n : Nat} {u : Value} {xs : List Value} (h : W.ownsRow base e size u n xs) (hb : base' ≤ base) : W.ownsRow base' e size u n xs := by
  refine ⟨h.1, ?_⟩
  rcases h.2 with h0 | ⟨g, cap, cur, h1, h2, h3⟩
  · exact .inl h0
  · exact .inr ⟨g, cap, cur, h1, Nat.le_trans hb h2, h3⟩
theorem own_slice {W : World} {base e size n : Nat} {u : Value} {xs : List Value} (h : W.ownsRow base e size u n xs) : ∃ a cp, u = .slice a n cp := by
  rcases h.2 with ⟨h0, h1⟩ | ⟨g, cap, cur, h1, h3⟩
  · subst h1; exact ⟨_, _, h0⟩
  · exact ⟨_, _, h1⟩
theorem own_set {W : World} {base e size n k i : Nat} {u y : Value} {xs : List Value} (h : W.ownsRow base e size u n xs) (hne : ∀ g, u.ownBlock = some g → g ≠ k) : (W.setCell ⟨k, i, none⟩ y).ownsRow base e size u n xs := by
  refine ⟨h.1, ?_⟩
  rcases h.2 with h0 | ⟨g, cap, cur, h1, h2, h3, h4⟩
  · exact .inl h0
  · exact .inr ⟨g, cap, cur, h1, h2, blk_set_other h3 (hne g (by rw [h1]; rfl)) _ _, h4⟩
theorem kpc_grown {Fr : Nat → Prop} {W W' : World} {row : Option Nat} (hg : W.grownBy W' row) (hr : ∀ r, row = some r → Fr r) : KpC Fr W W' := by
  intro k c t fz hk hF
  exact (hg.block k (Array.getElem?_eq_some_iff.1 hk).1 (fun e => hF (hr k e.symm))).trans hk

def sizeX (x : Ino) : Nat := min x.size 8960
def needS (s : Nat) : Nat := (s + 127) / 128
/-- The blocks of an inode's bytes. -/
def blocksV (v : Vol) (n : Nat) : List Int := (List.range (needS (sizeX (inoV v n)))).map fun k => holeI (atN (dataV v) v.length v (inoV v n) k)
def ints (l : List Int) : List Value := l.map fun i => .int .i64 i

set_option maxHeartbeats 4000000 in
theorem blocks_ok (A : Option Addr) (c : Nat) (v : Vol) (n : Nat) (w : World) (hr : RS w A v) (hv : okV v = true) (h1 : 1 ≤ n) (h2 : n ≤ inosV v) (hx : (inoV v n).size < 4294967296) :
    Calls Try.prog 18 #[.slice A v.length c, .int .i64 n] w fun e w' => ∃ u, e = .returned u ∧ w'.ownsRow w.heap.size 3 1 u (blocksV v n).length (ints (blocksV v n)) ∧ Below w.heap.size w w' := by
  obtain ⟨i0, hi0, hz0, hz1, hz2⟩ := info_parts (show (Try.prog.info? 3).map (fun i => (i.zero, i.size, i.bytes)) = some (some (.int .i64 0), 1, 8) by kernel_rfl)
  have HOK := okV_iff.1 hv
  have h1' := HOK.lo
  have h2' := HOK.hi
  have hd0 : 0 < dataV v := by rw [dataV]; omega
  have HS := Lib.hid HOK.size
  have HV := Lib.hid hv
  have HR := Lib.hid hr
  clear hv hr HOK
  obtain ⟨d, hd⟩ : ∃ d, dataV v = d := ⟨_, rfl⟩
  obtain ⟨x, hX⟩ : ∃ x, inoV v n = x := ⟨_, rfl⟩
  rw [blocksV]
  rw [hd] at hd0 ⊢
  rw [hX] at hx ⊢
  obtain ⟨m, hm⟩ : ∃ m, needS (sizeX x) = m := ⟨_, rfl⟩
  have hm70 : m ≤ 70 := by rw [← hm, needS, sizeX]; omega
  have hms : (min x.size 8960 + 127) / 128 = m := by rw [← hm, needS, sizeX]
  rw [hm]
  have hop := Lib.hid (fun w hr => open_ok A c v n w hr HV.out h1 h2)
  rw [hd, hX] at hop
  have HD := Lib.hid hd
  have HX := Lib.hid hX
  have HM := Lib.hid hm
  clear hd hX hm
  refine callsIn_wide.1 (callsIn_of_wp_marks (n := 3) Try.func18 rfl trivial (wpIn_wide.2 ?_) rfl)
  simp only [Try.ntmps18, List.size_toArray, List.length_cons, List.length_nil, Nat.reduceAdd, Nat.reduceSub, Array.replicate_succ, Array.replicate_zero, List.push_toArray, List.append_toArray, List.nil_append, List.cons_append]
  go_wp2_with (first
    | (go_at_call 51; refine (hop.out _ HR.out).mono ?_; rintro e w1 ⟨F, g, cg, rfl, hf1, hF, hg, hb1⟩; have hf2 := hf1.keep ((Below.refl _ _).alloc (Nat.le_refl _) (.cells #[.slice none 0 0] 26)); have HF2 := Lib.hid hf2; have HF1 := Lib.hid hf1; have HB1 := Lib.hid hb1; clear hf1 hf2 hb1)
    | (go_at_call 54; refine (size_ok _ _ _ _ _ _ _ _ _ _ HF2.out hx).mono ?_; rintro e w2 ⟨rfl, rfl⟩)
    | (go_at_call 53; refine (need_ok _ _ (by omega)).mono ?_; rw [hms]; rintro e w2 ⟨rfl, rfl⟩)
    | (go_at_call 52; refine (all_ok F m _).mono ?_; rintro e w2 ⟨rfl, rfl⟩))
  have hf1 := HF1.out
  have hlt1 := hf1.lt
  have hlt2 := hf1.vol.lt
  obtain ⟨W0, hW0⟩ : ∃ W0, ((w1.alloc (.cells #[.slice none 0 0] 26)).alloc (.cells #[.pointer (some ⟨F, 0, none⟩)] 75)).alloc (.cells #[.int .i64 m] 3) = W0 := ⟨_, rfl⟩
  obtain ⟨k0, k1, k2, hsz, hB0⟩ := alloc3 _ _ _ _ _ hW0
  rw [hW0]
  have hA0 := hf1.keep hB0
  have hBw := below_keep HB1.out (Nat.le_refl _) hB0
  have hs1 := HB1.out.size
  generalize w1.heap.size = q at *
  clear hW0 hf1
  have HA0 := Lib.hid hA0
  clear hA0
  refine wp_rangeFunc (α := Fin m) (gf := 95) (lb := #[.pointer (some ⟨q + 1 + 1, 0, none⟩), .pointer (some ⟨q + 1, 0, none⟩)]) rfl (enters_of Try.func95 (by kernel_rfl) rfl)
    (all_stops 2 F g cg v.length (inosV v) d n (q + 2) (q + 1) m v x (fun k => q + 3 ≤ k ∨ k = q) W0 k2 k1 HA0.out (by omega) (by omega) (by omega) (by omega) hm70 hd0 HS.out h2') (fun _ => rfl)
    (fun pre W => Hid (∃ u, W.heap[q]? = some (.cells #[u] 26 (0, 0)) ∧ W.ownsRow (q + 3) 3 1 u pre.length (ints (pre.map fun (k : Fin m) => holeI (atN d v.length v x k))) ∧ Below w.heap.size w W ∧ q + 3 ≤ W.heap.size))
    (fun _ _ _ => False)
    ?own (fun _ _ _ _ _ hs _ _ => hs) ⟨_, k0, World.ownsRow_nil _ _ _ _, hBw, by omega⟩
    (fun k => { tmps := #[Value.slice A (List.length v) c, Value.int IntKind.i64 ((n : Nat) : Int), undef, undef, Value.slice none 0 0, Value.pointer (some ⟨F, 0, none⟩), Value.int IntKind.i64 0, Value.pointer (some ⟨q, 0, none⟩), undef, .int .i64 (holeI (atN d v.length v x k)), Value.tuple #[Value.pointer (some ⟨F, 0, none⟩), Value.int IntKind.i64 0], Value.slice A (List.length v) c, Value.int IntKind.i64 ((n : Nat) : Int), Value.tuple #[Value.pointer (some ⟨F, 0, none⟩), Value.int IntKind.i64 0], Value.pointer (some ⟨F, 0, none⟩), Value.int IntKind.i64 0, Value.int IntKind.i64 0, Value.bool false, Value.pointer (some ⟨F, 0, none⟩), Value.pointer (some ⟨F, 0, none⟩), Value.int IntKind.i64 ((min x.size 8960 : Nat) : Int), Value.int IntKind.i64 ((m : Nat) : Int), Value.func (Fn.func 95) #[] #[Value.pointer (some ⟨q + 1 + 1, 0, none⟩), Value.pointer (some ⟨q + 1, 0, none⟩)], .int .i64 ((k : Nat) : Int), .int .i64 (holeI (atN d v.length v x k)), undef, undef, undef, undef, undef], defers := [] }) ?assign ?body ?done ?stop
  case own =>
    rintro pre A B row ⟨u, e1, e2, e3, e4⟩ hg hr
    have hr' : ∀ r, row = some r → ∃ o : Obj, A.heap[r]? = some o ∧ o.isCells = false := fun r e => (hr r e).2
    exact ⟨u, cells_grown e1 hg hr', own_grown e2 hg hr', e3.grown hg (by omega) (fun r e => by have := (hr r e).1; omega), Nat.le_trans e4 hg.size⟩
  case assign =>
    intro l k W K hK
    gi_wp2
    exact hK
  case body =>
    rintro l pre k W ⟨u, e1, e2, e3, e4⟩ hlen
    obtain ⟨ua, uc, rfl⟩ := own_slice e2
    have hcu : W.cell? ⟨q, 0, none⟩ = some (.slice ua pre.length uc) := by rw [cell_at e1]; rfl
    obtain ⟨b, hb⟩ : ∃ b, holeI (atN d v.length v x k) = b := ⟨_, rfl⟩
    have E1 := Lib.hid e1
    have E2 := Lib.hid e2
    have E3 := Lib.hid e3
    rw [hb]
    have HBB := Lib.hid hb
    clear e1 e2 e3 hb
    gi_wp2_with (gi_at_builtin; refine wpListIn_append_own _ rfl _ _ 26 rfl (q + 3) 3 i0 (.int .i64 0) 1 8 Try.underlying26 hi0 hz0 hz1 hz2 rfl (by decide) _ pre.length _ rfl (own_below E2.out ((Below.refl _ _).alloc (Nat.le_refl _) _)) ⟨W.heap.size, 0, none⟩ 1 1 [.int .i64 b] rfl rfl (cell_one_new _ _ _) (by simp [Value.oneCell']) (by simp only [maxLen]; omega) (by omega) (by simp; omega) ?_; intro v' w5 hown' hgrow _; obtain ⟨va, vc, rfl⟩ := own_slice hown'; have e5 : w5.heap[q]? = some (.cells #[.slice ua pre.length uc] 26 (0, 0)) := (hgrow.block q (by simp; omega) (fun e => by have := (E2.out.lt q e.symm).1; omega)).trans (blk_keep E1.out ((Below.refl _ _).alloc (Nat.le_refl _) _)); have c5 := cell_at e5 0; have f5 := free_of e5 0; have E5 := Lib.hid e5; have EG := Lib.hid hgrow; have EO := Lib.hid hown'; clear e5 hgrow hown')
    have hgA : W.grownBy w5 (Value.slice ua pre.length uc).ownBlock := ⟨EG.out.os, EG.out.tape, EG.out.output, Nat.le_trans (by simp) EG.out.size, fun j hj hne => (EG.out.block j (by simp; omega) hne).trans (Below.heap_alloc W _ j hj)⟩
    have hro : ∀ r, (Value.slice ua pre.length uc).ownBlock = some r → q + 3 ≤ r := fun r e => (E2.out.lt r e).1
    refine ⟨(KeepsOthers.of_grownBy hgA ?_).trans (KeepsOthers.setCell _ _ _), KpC.setCell (F := fun k => q + 3 ≤ k ∨ k = q) (kpc_grown hgA (fun r e => .inl (hro r e))) (.inr rfl) _, ?_⟩
    · intro j o e ho
      rcases E2.out.2 with ⟨h0, _⟩ | ⟨gg, cap, cur, h1, _, h3, _⟩
      · rw [h0] at e; cases e
      · rw [h1] at e
        injection e with e
        subst e
        rw [h3] at ho
        injection ho with ho
        subst ho
        rfl
    · refine ⟨_, blk_set E5.out 0 _, ?_, below_set (E3.out.grown hgA (by omega) (fun r e => by have := hro r e; omega)) (by omega), Nat.le_trans e4 (Nat.le_trans hgA.size (by simp))⟩
      have hl : (pre ++ [k]).length = pre.length + 1 := by simp
      rw [hl, List.map_append, List.map_singleton, HBB.out, ints, List.map_append]
      refine own_set EO.out (fun g e => ?_)
      have := (EO.out.lt g e).1
      omega
  case done =>
    rintro D xs W hD rfl ⟨u, e1, e2, e3, e4⟩ hK
    have hcu : W.cell? ⟨q, 0, none⟩ = some u := by rw [cell_at e1]; rfl
    have E2 := Lib.hid e2
    have E3 := Lib.hid e3
    have HK := Lib.hid hK
    clear e1 e2 e3 hK k0 k1 k2
    go_wp2
    refine ⟨by simp, .inl ⟨_, _, rfl, run_takeDeferred HK.out, ?_⟩⟩
    refine ⟨_, results_tmp rfl _ _ _, ?_⟩
    refine ⟨u, rfl, ?_, below_putD E3.out (by omega) HK.out⟩
    have hE := E2.out
    have hml : ((List.finRange m).map fun (k : Fin m) => holeI (atN d v.length v x k)) = (List.range m).map fun k => holeI (atN d v.length v x k) := by
      rw [show List.range m = (List.finRange m).map (fun k => k.val) from List.ext_getElem (by simp) (by simp), List.map_map]
      rfl
    rw [hml] at hE
    have hl2 : ((List.range m).map fun k => holeI (atN d v.length v x k)).length = (List.finRange m).length := by simp
    rw [hl2]
    refine own_base (own_grown hE (grownBy_putObj' W D _) (fun r e => ?_)) (show w.heap.size ≤ q + 3 by omega)
    cases e
    exact ⟨_, HK.out, rfl⟩
  case stop =>
    rintro D c pre W _ _ h _
    exact h.elim
end Go.Proofs.Ytacdohlhalnioaa
