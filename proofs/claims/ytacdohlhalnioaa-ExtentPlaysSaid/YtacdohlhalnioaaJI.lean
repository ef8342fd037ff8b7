/- Joined: XHJ XHK XHN. -/
import Derived.Test.YtacdohlhalnioaaT9
import Derived.Test.YtacdohlhalnioaaJ2
import Derived.Deep.Slices
import Derived.Lib.SmallJoins
import Derived.Test.YtacdohlhalnioaaJH
import Derived.Test.YtacdohlhalnioaaJF
/- A row of acts that came in: what it reads as. -/
section
set_option linter.unusedVariables false
set_option linter.unusedSimpArgs false
set_option maxRecDepth 20000
namespace Go.Proofs.Ytacdohlhalnioaa
open Go.ChangeShapes Go.WideShapes Go.ChangeAt Go.RowKit

/-- What is done with a file. -/
structure Deed where
  kind : Int
  n : Int
  off : Int
  data : Blk
instance : Inhabited Deed := ⟨⟨0, 0, 0, []⟩⟩
/-- A slice reads as a row of deeds. -/
def RA (w : World) (A : Option Addr) (l : List Deed) : Prop := l.length ≤ 9223372036854775807 ∧ (l ≠ [] → ∃ b o, A = some ⟨b, o, none⟩ ∧ b < w.heap.size ∧ ∀ i a, l[i]? = some a →
  w.cell? ⟨b, o + i * 4, none⟩ = some (.int .i64 a.kind) ∧ w.cell? ⟨b, o + i * 4 + 1, none⟩ = some (.int .i64 a.n) ∧ w.cell? ⟨b, o + i * 4 + 2, none⟩ = some (.int .i64 a.off) ∧ w.cell? ⟨b, o + i * 4 + 3, none⟩ = some (.string (mk a.data)))
/-- A deed's numbers are those of the machine, its text of a length that may be. -/
def okD (a : Deed) : Prop := (-9223372036854775808 ≤ a.kind ∧ a.kind ≤ 9223372036854775807) ∧ (-9223372036854775808 ≤ a.n ∧ a.n ≤ 9223372036854775807) ∧ (-9223372036854775808 ≤ a.off ∧ a.off ≤ 9223372036854775807) ∧ (a.data.length : Int) ≤ 140737488351232
theorem add_at (b o j : Nat) : (⟨b, o, none⟩ : Addr).add j = ⟨b, o + j, none⟩ := by
  by_cases h0 : j = 0
  · subst h0; simp [Addr.add]
  · simp [Addr.add, h0]
theorem cell_lt {w : World} {b o : Nat} {v : Value} (h : w.cell? ⟨b, o, none⟩ = some v) : b < w.heap.size := by
  rcases Nat.lt_or_ge b w.heap.size with h1 | h1
  · exact h1
  · simp only [World.cell?, Array.getElem?_eq_none h1] at h
    cases h
theorem weightsAll_mem {H : Type} {P : Program} {e : TypeId} {d : DataW H} {n : Nat} : ∀ {l : List (DataW H)}, d ∈ l → n ∈ d.weights P e → n ∈ DataW.weightsAll P e l
  | x :: l, hd, hn => by
    rw [DataW.weightsAll, List.mem_append]
    rcases List.mem_cons.1 hd with rfl | hd
    · exact .inl hn
    · exact .inr (weightsAll_mem hd hn)
theorem Try.cellsAct : Try.prog.cellsOf 55 = 4 := by kernel_rfl
theorem Try.cellsInt : Try.prog.cellsOf 3 = 1 := by kernel_rfl
theorem open_deeds {H : Type} {enc : TypeId × Value → H} {W : World} {v : Value} {d : DataW H} {p : List MemPlace} {ts : List TypeId} {ds : List (DataW H)} {j : Nat}
    (hok : ∃ a len cap, v = .slice a len cap) (h : DataW.Trod enc Try.prog W 0 (fun _ => true) true 52 v d p) (hp : ∀ x ∈ p, x.block < W.heap.size)
    (hsz : (DataW.weightsEach Try.prog ts ds).all (· ≤ reachBytes) = true) (ht : ts[j]? = some 52) (hd : ds[j]? = some d) :
    ∃ (A : Option Addr) (l : List Deed) (c : Nat), v = .slice A l.length c ∧ RA W A l ∧ ∀ a ∈ l, okD a := by
  obtain ⟨a, len, cap, rfl⟩ := hok
  obtain ⟨fuel, hf⟩ := h
  rcases Deep.open_slice Try.underlying52 hf with ⟨hcs, hx⟩ | ⟨a', len', cap', m, n, D, Pl, hcs, _, hl, hm, hmm, hx, hi⟩
  · simp [Value.cells] at hcs
    obtain ⟨rfl, rfl, rfl⟩ := hcs
    exact ⟨none, [], 0, rfl, ⟨by simp, fun h => absurd rfl h⟩, fun a h => by cases h⟩
  · simp [Value.cells] at hcs
    obtain ⟨rfl, rfl, rfl⟩ := hcs
    simp only [if_true] at hmm
    subst hmm
    simp only [Prod.mk.injEq] at hx
    obtain ⟨hdd, hpp⟩ := hx
    have each : ∀ i, i < len → ∃ q : Deed, (W.cell? (a'.add (i * 4)) = some (.int .i64 q.kind) ∧ W.cell? (a'.add (i * 4 + 1)) = some (.int .i64 q.n) ∧ W.cell? (a'.add (i * 4 + 2)) = some (.int .i64 q.off) ∧ W.cell? (a'.add (i * 4 + 3)) = some (.string (mk q.data))) ∧ okD q := by
      intro i hil
      obtain ⟨cs', h1, h2⟩ := hi i (by omega)
      rw [Try.cellsAct] at h1
      obtain ⟨_, hlen, hcell⟩ := World.cells?_some h1
      obtain ⟨y0, y1, y2, y3, k, hxy, _, g0, g1, g2, g3⟩ := Joins.trod_struct4 Try.underlying55 h2
      match cs', hlen with
      | [v0, v1, v2, v3], _ =>
        have e0 := hcell 0 (by omega)
        have e1 := hcell 1 (by omega)
        have e2 := hcell 2 (by omega)
        have e3 := hcell 3 (by omega)
        rw [Deep.add_add] at e0 e1 e2 e3
        simp only [List.drop_zero, List.drop_succ_cons, Try.cellsInt, Try.cellsStr, List.take_succ_cons, List.take_zero] at g0 g1 g2 g3
        obtain ⟨z0, r0, _, w0⟩ := DataW.trod_int Try.underlying3 g0
        obtain ⟨z1, r1, _, w1⟩ := DataW.trod_int Try.underlying3 g1
        obtain ⟨z2, r2, _, w2⟩ := DataW.trod_int Try.underlying3 g2
        obtain ⟨s, r3, q3, _⟩ := DataW.trod_string Try.underlying9 g3
        simp only [List.cons.injEq, and_true] at r0 r1 r2 r3
        subst r0 r1 r2 r3
        simp only [List.getElem?_cons_zero, List.getElem?_cons_succ, Nat.add_zero] at e0 e1 e2 e3
        refine ⟨⟨z0, z1, z2, s.data.toList⟩, ⟨e0, e1, e2, by rw [e3, mk_of]⟩, ?_⟩
        have b0 := bounds_i64 w0
        have b1 := bounds_i64 w1
        have b2 := bounds_i64 w2
        refine ⟨by omega, by omega, by omega, ?_⟩
        simp only [Prod.mk.injEq] at hxy
        have hmem : s.data.toList.length ∈ DataW.weightsEach Try.prog ts ds := by
          refine DataW.weights_mem_each ht hd _ ?_
          rw [hdd, DataW.weights, Try.underlying52]
          refine List.mem_cons_of_mem _ (List.mem_append_left _ (weightsAll_mem (List.mem_map.2 ⟨i, List.mem_range.2 hil, rfl⟩) ?_))
          rw [hxy.1, DataW.weights, Try.underlying55]
          refine DataW.weights_mem_each (j := 3) (t := 9) (d := y3.1) rfl rfl _ ?_
          rw [q3]
          exact List.mem_singleton.2 rfl
        have := of_decide_eq_true (List.all_eq_true.1 hsz _ hmem)
        simp only [reachBytes] at this
        show ((s.data.toList.length : Nat) : Int) ≤ 140737488351232
        omega
    obtain ⟨q, hq⟩ := Deep.choose_lt each
    have hlen : ((List.range len).map q).length = len := by simp
    refine ⟨some a', (List.range len).map q, m, by rw [hlen], ⟨by rw [hlen]; simp only [maxLen] at hm; omega, fun h0 => ?_⟩, fun y hy => ?_⟩
    · have hl0 : 0 < len := by
        rcases Nat.eq_zero_or_pos len with h | h
        · subst h; exact absurd rfl h0
        · exact h
      obtain ⟨b, off, spot⟩ := a'
      have hc0 := (hq 0 hl0).1.1
      have hspot : spot = none := by simpa [Addr.add] using World.cell?_spot hc0
      subst hspot
      rw [add_at] at hc0
      refine ⟨b, off, rfl, cell_lt hc0, fun i y hy => ?_⟩
      rw [List.getElem?_map] at hy
      obtain ⟨k, hk, rfl⟩ := Option.map_eq_some_iff.1 hy
      obtain ⟨hil, hk2⟩ := List.getElem?_eq_some_iff.1 hk
      rw [List.getElem_range] at hk2
      subst hk2
      have hil' : i < len := by simpa using hil
      have := (hq i hil').1
      simp only [add_at] at this
      obtain ⟨c0, c1, c2, c3⟩ := this
      exact ⟨c0, by rw [Nat.add_assoc]; exact c1, by rw [Nat.add_assoc]; exact c2, by rw [Nat.add_assoc]; exact c3⟩
    · obtain ⟨i, hi2, rfl⟩ := List.mem_map.1 hy
      exact (hq i (List.mem_range.1 hi2)).2
theorem RA.keep {w w' : World} {A : Option Addr} {l : List Deed} (h : RA w A l) (hb : Below w.heap.size w w') : RA w' A l := by
  refine ⟨h.1, fun h0 => ?_⟩
  obtain ⟨b, o, e, hlt, hc⟩ := h.2 h0
  refine ⟨b, o, e, Nat.lt_of_lt_of_le hlt hb.size, fun i a ha => ?_⟩
  obtain ⟨c0, c1, c2, c3⟩ := hc i a ha
  exact ⟨cell_keep c0 hb, cell_keep c1 hb, cell_keep c2 hb, cell_keep c3 hb⟩
end Go.Proofs.Ytacdohlhalnioaa
end

/- Contract: whether acts are more than is gone through. -/
section
set_option linter.unusedVariables false
set_option linter.unusedSimpArgs false
set_option maxRecDepth 20000
namespace Go.Proofs.Ytacdohlhalnioaa
open Go.RowKit
attribute [local go_sem] Oper.semAt_some

set_option maxHeartbeats 1000000 in
theorem dgreat_ok (A : Option Addr) (c : Nat) (l : List Deed) (w : World) (hr : RA w A l) :
    Calls Try.prog 36 #[.slice A l.length c] w fun e w' => (∃ b, e = .returned (.bool b)) ∧ Below w.heap.size w w' := by
  have HR := Lib.hid hr
  have hL := hr.1
  clear hr
  go_enter Try.func36, Try.ntmps36
  go_wp2
  go_loopw [3, 8] (fun sv kv wr => ∃ (k : Nat) (z : Int), k ≤ l.length ∧ sv = .int .i64 z ∧ kv = .int .i64 k ∧ Hid (Below w.heap.size w wr)) (fun _ kv _ => l.length - (intOf kv).toNat)
  case atStart => exact ⟨0, 0, by omega, rfl, rfl, Below.refl _ _⟩
  case round =>
    obtain ⟨k, z, hk, rfl, rfl, hB⟩ := hrel
    by_cases hlt : k < l.length
    · have hki : (k : Int) < (l.length : Nat) := by omega
      obtain ⟨b, o, hAe, hbl, hc⟩ := HR.out.2 (by intro e; rw [e] at hlt; exact absurd hlt (by simp))
      obtain ⟨d, hd⟩ : ∃ d, l[k]? = some d := ⟨_, List.getElem?_eq_getElem hlt⟩
      obtain ⟨c0, c1, c2, c3⟩ := hc k d hd
      have c0 := cell_keep c0 hB.out
      have c1 := cell_keep c1 hB.out
      have c2 := cell_keep c2 hB.out
      have c3 := cell_keep c3 hB.out
      subst hAe
      clear hc hd
      go_wp2
      refine ⟨⟨k + 1, _, by omega, rfl, by go_num, hB.out.alloc hB.out.size _⟩, by simp only [intOf]; go_num⟩
    · obtain rfl : k = l.length := by omega
      go_wp2
      go_ret
      exact ⟨⟨_, rfl⟩, hB.out⟩
end Go.Proofs.Ytacdohlhalnioaa
end

/- The law ExtentPlays, walked: whatever is written and cut, each answer is the document's. -/
section
set_option linter.unusedVariables false
set_option linter.unusedSimpArgs false
set_option maxRecDepth 20000
namespace Go.Proofs.Ytacdohlhalnioaa
open Go.RowKit
attribute [local go_sem] Oper.semAt_some

theorem cells4 {w : World} {b t : Nat} {a0 a1 a2 a3 : Value} {fz : Nat × Nat} (h : w.heap[b]? = some (.cells #[a0, a1, a2, a3] t fz)) :
    w.cell? ⟨b, 0, none⟩ = some a0 ∧ w.cell? ⟨b, 1, none⟩ = some a1 ∧ w.cell? ⟨b, 2, none⟩ = some a2 ∧ w.cell? ⟨b, 3, none⟩ = some a3 := by
  refine ⟨?_, ?_, ?_, ?_⟩ <;> rw [cell_at h] <;> rfl
set_option maxHeartbeats 8000000 in
theorem plays_ok (A Al : Option Addr) (c cl : Nat) (v : Vol) (l : List Deed) (w : World) (hr : RS w A v) (hl : RA w Al l) (hd : ∀ a ∈ l, okD a) :
    Calls Try.prog 8 #[.slice A v.length c, .slice Al l.length cl] w fun e w' => e = .returned (.bool true) ∧ Below w.heap.size w w' := by
  have HR := Lib.hid hr
  have HL := Lib.hid hl
  have HD := Lib.hid hd
  have hll := hl.1
  have hgr := Lib.hid (fun w hr => great_ok A c v w hr)
  have hdg := Lib.hid (fun w hr => dgreat_ok Al cl l w hr)
  clear hr hl hd
  by_cases hsm : smallV v = true
  · rw [show greatI v = 0 from if_pos hsm] at hgr
    clear hsm
    go_enter Try.func8, Try.ntmps8
    go_wp2_with (first
      | (go_at_call 16; refine (hgr.out _ HR.out).mono ?_; rintro e w1 ⟨rfl, rfl⟩)
      | (go_at_call 36; refine (hdg.out _ HL.out).mono ?_; rintro e w2 ⟨⟨bq, rfl⟩, hb2⟩; have HB2 := Lib.hid hb2; clear hb2; cases bq)
      | (go_at_call 17; refine (fixed_ok _).mono ?_; rintro e w8 ⟨rfl, hb8⟩; have HB8 := Lib.hid hb8; clear hb8))
    · go_loopw [0, 21] (fun sv kv wr => ∃ (k : Nat) (v' : Vol) (A' : Option Addr) (c' : Nat), k ≤ l.length ∧ sv = .slice A' v'.length c' ∧ kv = .int .i64 k ∧ Hid (RS wr A' v') ∧ Hid (Below w.heap.size w wr)) (fun _ kv _ => l.length - (intOf kv).toNat)
      case atStart => exact ⟨0, v, A, c, by omega, rfl, rfl, HR.out.below HB2.out, HB2⟩
      case round =>
        obtain ⟨k, v', A', c', hk, rfl, rfl, hrv, hB⟩ := hrel
        by_cases hlt : k < l.length
        · have hki : (k : Int) < (l.length : Nat) := by omega
          obtain ⟨b, o, hAe, hbl, hc⟩ := HL.out.2 (by intro e; rw [e] at hlt; exact absurd hlt (by simp))
          obtain ⟨d, hdk⟩ : ∃ d, l[k]? = some d := ⟨_, List.getElem?_eq_getElem hlt⟩
          obtain ⟨c0, c1, c2, c3⟩ := hc k d hdk
          have c0 := cell_keep c0 hB.out
          have c1 := cell_keep c1 hB.out
          have c2 := cell_keep c2 hB.out
          have c3 := cell_keep c3 hB.out
          have hok := HD.out d (List.mem_of_getElem? hdk)
          obtain ⟨_, _, ho, hdl⟩ := hok
          subst hAe
          have hw1 := Lib.hid (fun w hr => write_is A' c' v' d.n d.off d.data w hr ho.2 hdl)
          have hw2 := Lib.hid (fun w hr => rwrite_is A' c' v' d.n d.off d.data w hr hdl)
          have hc1 := Lib.hid (fun w hr => cut_is A' c' v' d.n d.off w hr)
          have hc2 := Lib.hid (fun w hr => rcut_is A' c' v' d.n d.off w hr)
          have hsame := Lib.hid (fun (V : Vol) (A B : Option Addr) (c c' : Nat) w hr hr' => same19_ok A B c c' V V w hr hr')
          simp only [decide_true] at hsame
          obtain ⟨⟨er, V⟩, hRw⟩ : ∃ R, writeR v' d.n d.off d.data = R := ⟨_, rfl⟩
          obtain ⟨⟨er2, V2⟩, hRc⟩ : ∃ R, cutR v' d.n d.off = R := ⟨_, rfl⟩
          rw [hRw] at hw1 hw2
          rw [hRc] at hc1 hc2
          have hba := (Below.refl wr.heap.size wr).alloc (Nat.le_refl _) (.cells #[.int .i64 d.kind, .int .i64 d.n, .int .i64 d.off, .string (mk d.data)] 55)
          have hx0 := blk_new wr (.cells #[.int .i64 d.kind, .int .i64 d.n, .int .i64 d.off, .string (mk d.data)] 55)
          have HBA := Lib.hid hba
          have HX0 := Lib.hid hx0
          clear hRw hRc hc hdk ho hdl hba hx0
          generalize d.n = dn at *
          generalize d.off = dof at *
          generalize d.data = dd at *
          generalize d.kind = dk at *
          by_cases hk1 : dk = 1
          · have hkb : (dk == 1) = true := by simpa using hk1
            clear hk1
            by_cases h0 : er2 = 0
            · have h0b : (er2 == 0) = true := by simpa using h0
              clear h0
              go_wp2_with (first
                | (go_at_call 35; refine (hw1.out _ (hrv.out.below HBA.out)).mono ?_; rintro e w3 ⟨A3, c3, rfl, hr3, hb3⟩; have HR3 := Lib.hid hr3; have HB3 := Lib.hid (below_keep HBA.out (Nat.le_refl _) hb3); have HX3 := Lib.hid (blk_keep HX0.out hb3); obtain ⟨x0, x1, x2, x3⟩ := cells4 HX3.out; clear hr3 hb3)
                | (go_at_call 37; refine (hw2.out _ (hrv.out.below HB3.out)).mono ?_; rintro e w4 ⟨A4, c4, rfl, hr4, hb4⟩; have HR4 := Lib.hid hr4; have HB4 := Lib.hid (below_keep HB3.out (Nat.le_refl _) hb4); have HX4 := Lib.hid (blk_keep HX3.out hb4); obtain ⟨x0, x1, x2, x3⟩ := cells4 HX4.out; have HR34 := Lib.hid (HR3.out.below hb4); clear x0 x1 x2 x3; obtain ⟨x0, x1, x2, x3⟩ := cells4 HX4.out; clear hr4 hb4)
                | (go_at_call 38; refine (hc1.out _ (hrv.out.below HB4.out)).mono ?_; rintro e w5 ⟨A5, c5, rfl, hr5, hb5⟩; have HR5 := Lib.hid hr5; have HB5 := Lib.hid (below_keep HB4.out (Nat.le_refl _) hb5); have HX5 := Lib.hid (blk_keep HX4.out hb5); obtain ⟨x0, x1, x2, x3⟩ := cells4 HX5.out; clear x0 x1 x2 x3; obtain ⟨x0, x1, x2, x3⟩ := cells4 HX5.out; clear hr5 hb5)
                | (go_at_call 39; refine (hc2.out _ (hrv.out.below HB5.out)).mono ?_; rintro e w6 ⟨A6, c6, rfl, hr6, hb6⟩; have HR6 := Lib.hid hr6; have HB6 := Lib.hid (below_keep HB5.out (Nat.le_refl _) hb6); have HX6 := Lib.hid (blk_keep HX5.out hb6); obtain ⟨x0, x1, x2, x3⟩ := cells4 HX6.out; have HR56 := Lib.hid (HR5.out.below hb6); clear x0 x1 x2 x3; clear hr6 hb6)
                | (go_at_call 40; refine (hsame.out V2 _ _ _ _ _ HR56.out HR6.out).mono ?_; rintro e w7 ⟨rfl, hb7⟩; have HB7 := Lib.hid hb7; clear hb7))
              exact ⟨⟨k + 1, V2, A6, c6, by omega, rfl, by go_num, HR6.out.below HB7.out, below_keep (below_keep hB.out (Nat.le_refl _) HB6.out) (Nat.le_refl _) HB7.out⟩, by simp only [intOf]; go_num⟩
            · have h0b : (er2 == 0) = false := by simpa using h0
              clear h0
              go_wp2_with (first
                | (go_at_call 35; refine (hw1.out _ (hrv.out.below HBA.out)).mono ?_; rintro e w3 ⟨A3, c3, rfl, hr3, hb3⟩; have HR3 := Lib.hid hr3; have HB3 := Lib.hid (below_keep HBA.out (Nat.le_refl _) hb3); have HX3 := Lib.hid (blk_keep HX0.out hb3); obtain ⟨x0, x1, x2, x3⟩ := cells4 HX3.out; clear hr3 hb3)
                | (go_at_call 37; refine (hw2.out _ (hrv.out.below HB3.out)).mono ?_; rintro e w4 ⟨A4, c4, rfl, hr4, hb4⟩; have HR4 := Lib.hid hr4; have HB4 := Lib.hid (below_keep HB3.out (Nat.le_refl _) hb4); have HX4 := Lib.hid (blk_keep HX3.out hb4); obtain ⟨x0, x1, x2, x3⟩ := cells4 HX4.out; have HR34 := Lib.hid (HR3.out.below hb4); clear x0 x1 x2 x3; obtain ⟨x0, x1, x2, x3⟩ := cells4 HX4.out; clear hr4 hb4)
                | (go_at_call 38; refine (hc1.out _ (hrv.out.below HB4.out)).mono ?_; rintro e w5 ⟨A5, c5, rfl, hr5, hb5⟩; have HR5 := Lib.hid hr5; have HB5 := Lib.hid (below_keep HB4.out (Nat.le_refl _) hb5); have HX5 := Lib.hid (blk_keep HX4.out hb5); obtain ⟨x0, x1, x2, x3⟩ := cells4 HX5.out; clear x0 x1 x2 x3; obtain ⟨x0, x1, x2, x3⟩ := cells4 HX5.out; clear hr5 hb5)
                | (go_at_call 39; refine (hc2.out _ (hrv.out.below HB5.out)).mono ?_; rintro e w6 ⟨A6, c6, rfl, hr6, hb6⟩; have HR6 := Lib.hid hr6; have HB6 := Lib.hid (below_keep HB5.out (Nat.le_refl _) hb6); have HX6 := Lib.hid (blk_keep HX5.out hb6); obtain ⟨x0, x1, x2, x3⟩ := cells4 HX6.out; have HR56 := Lib.hid (HR5.out.below hb6); clear x0 x1 x2 x3; clear hr6 hb6)
                | (go_at_call 40; refine (hsame.out V2 _ _ _ _ _ HR56.out HR6.out).mono ?_; rintro e w7 ⟨rfl, hb7⟩; have HB7 := Lib.hid hb7; clear hb7))
              exact ⟨⟨k + 1, v', A', c', by omega, rfl, by go_num, (hrv.out.below HB6.out).below HB7.out, below_keep (below_keep hB.out (Nat.le_refl _) HB6.out) (Nat.le_refl _) HB7.out⟩, by simp only [intOf]; go_num⟩
          · have hkb : (dk == 1) = false := by simpa using hk1
            clear hk1
            by_cases h0 : er = 0
            · have h0b : (er == 0) = true := by simpa using h0
              clear h0
              go_wp2_with (first
                | (go_at_call 35; refine (hw1.out _ (hrv.out.below HBA.out)).mono ?_; rintro e w3 ⟨A3, c3, rfl, hr3, hb3⟩; have HR3 := Lib.hid hr3; have HB3 := Lib.hid (below_keep HBA.out (Nat.le_refl _) hb3); have HX3 := Lib.hid (blk_keep HX0.out hb3); obtain ⟨x0, x1, x2, x3⟩ := cells4 HX3.out; clear hr3 hb3)
                | (go_at_call 37; refine (hw2.out _ (hrv.out.below HB3.out)).mono ?_; rintro e w4 ⟨A4, c4, rfl, hr4, hb4⟩; have HR4 := Lib.hid hr4; have HB4 := Lib.hid (below_keep HB3.out (Nat.le_refl _) hb4); have HX4 := Lib.hid (blk_keep HX3.out hb4); obtain ⟨x0, x1, x2, x3⟩ := cells4 HX4.out; have HR34 := Lib.hid (HR3.out.below hb4); clear x0 x1 x2 x3; obtain ⟨x0, x1, x2, x3⟩ := cells4 HX4.out; clear hr4 hb4)
                | (go_at_call 40; refine (hsame.out V _ _ _ _ _ HR34.out HR4.out).mono ?_; rintro e w7 ⟨rfl, hb7⟩; have HB7 := Lib.hid hb7; clear hb7))
              exact ⟨⟨k + 1, V, A4, c4, by omega, rfl, by go_num, HR4.out.below HB7.out, below_keep (below_keep hB.out (Nat.le_refl _) HB4.out) (Nat.le_refl _) HB7.out⟩, by simp only [intOf]; go_num⟩
            · have h0b : (er == 0) = false := by simpa using h0
              clear h0
              go_wp2_with (first
                | (go_at_call 35; refine (hw1.out _ (hrv.out.below HBA.out)).mono ?_; rintro e w3 ⟨A3, c3, rfl, hr3, hb3⟩; have HR3 := Lib.hid hr3; have HB3 := Lib.hid (below_keep HBA.out (Nat.le_refl _) hb3); have HX3 := Lib.hid (blk_keep HX0.out hb3); obtain ⟨x0, x1, x2, x3⟩ := cells4 HX3.out; clear hr3 hb3)
                | (go_at_call 37; refine (hw2.out _ (hrv.out.below HB3.out)).mono ?_; rintro e w4 ⟨A4, c4, rfl, hr4, hb4⟩; have HR4 := Lib.hid hr4; have HB4 := Lib.hid (below_keep HB3.out (Nat.le_refl _) hb4); have HX4 := Lib.hid (blk_keep HX3.out hb4); obtain ⟨x0, x1, x2, x3⟩ := cells4 HX4.out; have HR34 := Lib.hid (HR3.out.below hb4); clear x0 x1 x2 x3; obtain ⟨x0, x1, x2, x3⟩ := cells4 HX4.out; clear hr4 hb4)
                | (go_at_call 40; refine (hsame.out V _ _ _ _ _ HR34.out HR4.out).mono ?_; rintro e w7 ⟨rfl, hb7⟩; have HB7 := Lib.hid hb7; clear hb7))
              exact ⟨⟨k + 1, v', A', c', by omega, rfl, by go_num, (hrv.out.below HB4.out).below HB7.out, below_keep (below_keep hB.out (Nat.le_refl _) HB4.out) (Nat.le_refl _) HB7.out⟩, by simp only [intOf]; go_num⟩
        · obtain rfl : k = l.length := by omega
          go_wp2_with (go_at_call 17; refine (fixed_ok _).mono ?_; rintro e w8 ⟨rfl, hb8⟩)
          go_ret
          exact ⟨rfl, below_keep hB.out (Nat.le_refl _) hb8⟩
    · go_ret
      exact ⟨rfl, below_keep HB2.out (Nat.le_refl _) HB8.out⟩
  · rw [show greatI v = 1 from if_neg hsm] at hgr
    clear hsm
    go_enter Try.func8, Try.ntmps8
    go_wp2_with (first
      | (go_at_call 16; refine (hgr.out _ HR.out).mono ?_; rintro e w1 ⟨rfl, rfl⟩)
      | (go_at_call 17; refine (fixed_ok _).mono ?_; rintro e w8 ⟨rfl, hb8⟩))
    go_ret
    exact ⟨rfl, hb8⟩
end Go.Proofs.Ytacdohlhalnioaa
end
