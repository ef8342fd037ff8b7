/- Joined: XHE XHF. -/
import Derived.Test.YtacdohlhalnioaaJC
import Derived.Deep.Cut
import Derived.Test.YtacdohlhalnioaaJ7
/- Contract: bytes are written into a file (the document's). -/
section
set_option linter.unusedVariables false
set_option linter.unusedSimpArgs false
set_option maxRecDepth 20000
namespace Go.Proofs.Ytacdohlhalnioaa
open Go.RowKit
attribute [local go_sem] Oper.semAt_some

theorem st12_facts {w : World} {k t : Nat} {b0 b1 b2 b3 b4 b5 b6 b7 b8 b9 b10 b11 : Value} (x : Ino) (h : w.heap[k]? = some (.cells #[b0, b1, b2, b3, b4, b5, b6, b7, b8, b9, b10, b11] t (0, 0))) :
    ∃ W, ((((((((((((w.setCell ⟨k, 0, none⟩ (.int .i64 ((x.kind : Nat) : Int))).setCell ⟨k, 1, none⟩ (.int .i64 ((x.links : Nat) : Int))).setCell ⟨k, 2, none⟩ (.int .i64 ((x.owner : Nat) : Int))).setCell ⟨k, 3, none⟩ (.int .i64 ((x.size : Nat) : Int))).setCell ⟨k, 4, none⟩ (.int .i64 ((x.d0 : Nat) : Int))).setCell ⟨k, 5, none⟩ (.int .i64 ((x.d1 : Nat) : Int))).setCell ⟨k, 6, none⟩ (.int .i64 ((x.d2 : Nat) : Int))).setCell ⟨k, 7, none⟩ (.int .i64 ((x.d3 : Nat) : Int))).setCell ⟨k, 8, none⟩ (.int .i64 ((x.d4 : Nat) : Int))).setCell ⟨k, 9, none⟩ (.int .i64 ((x.d5 : Nat) : Int))).setCell ⟨k, 10, none⟩ (.int .i64 ((x.ind : Nat) : Int))).setCell ⟨k, 11, none⟩ (.int .i64 ((x.ext : Nat) : Int))) = W ∧ W.heap[k]? = some (.cells #[.int .i64 ((x.kind : Nat) : Int), .int .i64 ((x.links : Nat) : Int), .int .i64 ((x.owner : Nat) : Int), .int .i64 ((x.size : Nat) : Int), .int .i64 ((x.d0 : Nat) : Int), .int .i64 ((x.d1 : Nat) : Int), .int .i64 ((x.d2 : Nat) : Int), .int .i64 ((x.d3 : Nat) : Int), .int .i64 ((x.d4 : Nat) : Int), .int .i64 ((x.d5 : Nat) : Int), .int .i64 ((x.ind : Nat) : Int), .int .i64 ((x.ext : Nat) : Int)] t (0, 0)) ∧ (∀ (D : Nat) (o : Obj), D ≠ k → w.heap[D]? = some o → W.heap[D]? = some o) ∧ (∀ (B : Nat) (w0 : World), Below B w0 w → B ≤ k → Below B w0 W) ∧ W.heap.size = w.heap.size :=
  ⟨_, rfl, blk_set12 h, fun D o hne hD => heap_set12 hD hne, fun B w0 hb hB => below_set12 hb hB, by simp only [World.size_setCell]⟩
theorem rs_other {w W : World} {k : Nat} {A : Option Addr} {v : Vol} (h : RS w A v) (hk : ∀ (D : Nat) (o : Obj), D ≠ k → w.heap[D]? = some o → W.heap[D]? = some o) (hne : ∀ b o, A = some ⟨b, o, none⟩ → b ≠ k) : RS W A v := by
  refine ⟨h.1, fun h0 => ?_⟩
  obtain ⟨b, o, e, hb, hc⟩ := h.open_ h0
  refine ⟨b, o, e, fun j hj => ?_⟩
  have h1 := hc j hj
  have hob := Array.getElem?_eq_getElem hb
  have h2 := hk b _ (hne b o e) hob
  simp only [World.cell?] at h1 ⊢
  rw [h2]
  rw [hob] at h1
  exact h1
/-- What a write ends with. -/
def wEnd (n e : Nat) : Option (Vol × Ino) → Int × Vol
  | none => (10, [])
  | some (v', x') => (0, putV v' n (if min x'.size 8960 < e then x'.setS e else x'))
set_option maxHeartbeats 16000000 in
theorem rwrite_main (A : Option Addr) (c : Nat) (v : Vol) (n off : Nat) (t : Blk) (w : World) (hr : RS w A v) (hv : okV v = true) (h1 : 1 ≤ n) (h2 : n ≤ inosV v) (ho : off + t.length ≤ 8960) (ht : t ≠ []) :
    Calls Try.prog 37 #[.slice A v.length c, .int .i64 n, .int .i64 off, .string (mk t)] w (Ans w (wEnd n (off + t.length) (wrV t.length v (inoV v n) off t))) := by
  have HP := Lib.hid (fun w hr => rget18_ok A c v n w hr hv h1 h2)
  have HR := Lib.hid hr
  have HXF := Lib.hid (inoV_fit v n)
  have hL := (okV_iff.1 hv).hi
  obtain ⟨x, hX⟩ : ∃ x, inoV v n = x := ⟨_, rfl⟩
  rw [hX] at HP HXF ⊢
  obtain ⟨R, hR⟩ : ∃ R, wrV t.length v x off t = R := ⟨_, rfl⟩
  rw [hR]
  have HRR := Lib.hid hR
  have HV := Lib.hid hv
  clear hr hv hR hX
  have h0 : (0 : Int) ≤ (off : Int) := by omega
  have hbi : ¬ (8960 : Int) < (off : Int) := by omega
  have hwe : IntKind.i64.wrap ((off : Int) + (t.length : Int)) = (off : Int) + (t.length : Int) := by simp [IntKind.wrap, IntKind.bits, IntKind.signed]; omega
  have hlt : ¬ 8960 < (off : Int) + (t.length : Int) := by omega
  have hie : t.isEmpty = false := by
    cases t with
    | nil => exact absurd rfl ht
    | cons _ _ => rfl
  have htl : 0 < t.length := List.length_pos_iff.2 ht
  have htl' : ¬ t = [] := ht
  obtain ⟨k0, hk0⟩ : ∃ k0, off / 128 = k0 := ⟨_, rfl⟩
  have hk0i : (off : Int) / 128 = (k0 : Int) := by omega
  have hwk0 : IntKind.i64.wrap (k0 : Int) = (k0 : Int) := by simp [IntKind.wrap, IntKind.bits, IntKind.signed]; omega
  obtain ⟨K, hK⟩ : ∃ K, (off + t.length - 1) / 128 = K := ⟨_, rfl⟩
  have hKi : ((off : Int) + (t.length : Int) - 1) / 128 = (K : Int) := by omega
  have hwK : IntKind.i64.wrap (K : Int) = (K : Int) := by simp [IntKind.wrap, IntKind.bits, IntKind.signed]; omega
  have hw1 : IntKind.i64.wrap ((off : Int) + (t.length : Int) - 1) = (off : Int) + (t.length : Int) - 1 := by simp [IntKind.wrap, IntKind.bits, IntKind.signed]; omega
  have hn1 : (0 : Int) ≤ (off : Int) + (t.length : Int) - 1 := by omega
  go_enter Try.func37, Try.ntmps37
  go_wp2_with (go_at_call 55; refine (HP.out _ HR.out).mono ?_; rintro e w1 ⟨rfl, hb1⟩; have HB1 := Lib.hid (hb1.alloc hb1.size (.cells #[.int .i64 ((x.kind : Nat) : Int), .int .i64 ((x.links : Nat) : Int), .int .i64 ((x.owner : Nat) : Int), .int .i64 ((x.size : Nat) : Int), .int .i64 ((x.d0 : Nat) : Int), .int .i64 ((x.d1 : Nat) : Int), .int .i64 ((x.d2 : Nat) : Int), .int .i64 ((x.d3 : Nat) : Int), .int .i64 ((x.d4 : Nat) : Int), .int .i64 ((x.d5 : Nat) : Int), .int .i64 ((x.ind : Nat) : Int), .int .i64 ((x.ext : Nat) : Int)] 45)); have HX1 := Lib.hid (blk_new w1 (.cells #[.int .i64 ((x.kind : Nat) : Int), .int .i64 ((x.links : Nat) : Int), .int .i64 ((x.owner : Nat) : Int), .int .i64 ((x.size : Nat) : Int), .int .i64 ((x.d0 : Nat) : Int), .int .i64 ((x.d1 : Nat) : Int), .int .i64 ((x.d2 : Nat) : Int), .int .i64 ((x.d3 : Nat) : Int), .int .i64 ((x.d4 : Nat) : Int), .int .i64 ((x.d5 : Nat) : Int), .int .i64 ((x.ind : Nat) : Int), .int .i64 ((x.ext : Nat) : Int)] 45)); have s1 := hb1.size; clear hb1)
  obtain ⟨W1, hW1⟩ : ∃ W1, w1.alloc (.cells #[.int .i64 ((x.kind : Nat) : Int), .int .i64 ((x.links : Nat) : Int), .int .i64 ((x.owner : Nat) : Int), .int .i64 ((x.size : Nat) : Int), .int .i64 ((x.d0 : Nat) : Int), .int .i64 ((x.d1 : Nat) : Int), .int .i64 ((x.d2 : Nat) : Int), .int .i64 ((x.d3 : Nat) : Int), .int .i64 ((x.d4 : Nat) : Int), .int .i64 ((x.d5 : Nat) : Int), .int .i64 ((x.ind : Nat) : Int), .int .i64 ((x.ext : Nat) : Int)] 45) = W1 := ⟨_, rfl⟩
  obtain ⟨q, hq⟩ : ∃ q, w1.heap.size = q := ⟨_, rfl⟩
  rw [hW1, hq] at HX1
  rw [hW1] at HB1 ⊢
  rw [hq] at s1 ⊢
  clear hW1 hq
  have HRW := Lib.hid (HR.out.below HB1.out)
  go_loopw [0, 12] (fun sv kv wr => ∃ (m k : Nat) (v' : Vol) (x' : Ino) (A' : Option Addr) (c' : Nat), k0 ≤ k ∧ k ≤ K + 1 ∧ sv = .slice A' v.length c' ∧ kv = .int .i64 k ∧ (t.drop (max off (128 * k) - off)).length ≤ m ∧ Hid (wrV m v' x' (max off (128 * k)) (t.drop (max off (128 * k) - off)) = R ∧ Kept v v' ∧ fitI x') ∧ Hid (RS wr A' v' ∧ ∀ b o, A' = some ⟨b, o, none⟩ → b ≠ q) ∧ Hid (wr.heap[q]? = some (.cells #[.int .i64 ((x'.kind : Nat) : Int), .int .i64 ((x'.links : Nat) : Int), .int .i64 ((x'.owner : Nat) : Int), .int .i64 ((x'.size : Nat) : Int), .int .i64 ((x'.d0 : Nat) : Int), .int .i64 ((x'.d1 : Nat) : Int), .int .i64 ((x'.d2 : Nat) : Int), .int .i64 ((x'.d3 : Nat) : Int), .int .i64 ((x'.d4 : Nat) : Int), .int .i64 ((x'.d5 : Nat) : Int), .int .i64 ((x'.ind : Nat) : Int), .int .i64 ((x'.ext : Nat) : Int)] 45 (0, 0))) ∧ Hid (Below w.heap.size w wr)) (fun _ kv _ => K + 1 - (intOf kv).toNat)
  case atStart =>
    have e : max off (128 * k0) = off := by omega
    exact ⟨t.length, k0, v, x, A, c, Nat.le_refl _, by omega, rfl, rfl, by simp, ⟨by rw [e, Nat.sub_self, List.drop_zero]; exact HRR.out, .rfl HV.out, HXF.out⟩, ⟨HRW.out, fun b o e => by
      obtain ⟨b', o', e', hb', _⟩ := HR.out.open_ (by have := (okV_iff.1 HV.out).lo; omega)
      rw [e] at e'
      cases e'
      omega⟩, HX1, HB1⟩
  case round =>
    obtain ⟨m, k, v', x', A', c', hk1, hk2, rfl, rfl, hm, hW, hf, hx, hB⟩ := hrel
    by_cases hlt2 : k ≤ K
    · obtain ⟨a, ha⟩ : ∃ a, max off (128 * k) = a := ⟨_, rfl⟩
      have hak : a / 128 = k := by omega
      have hk70 : k < 70 := by omega
      have hkK : (k : Int) ≤ (K : Int) := by omega
      rw [ha] at hW hm
      obtain ⟨p, hp⟩ : ∃ p, placeV v' x' k = p := ⟨_, rfl⟩
      obtain ⟨s, hs⟩ : ∃ s, t.drop (a - off) = s := ⟨_, rfl⟩
      have hsl : t.length - (a - off) = s.length := by rw [← hs, List.length_drop]
      rw [hs] at hW hm
      have hmk := hW.out.1
      obtain ⟨m1, rfl⟩ : ∃ m1, m = m1 + 1 := ⟨m - 1, by omega⟩
      have hsne : s ≠ [] := fun e => by rw [e] at hsl; simp only [List.length_nil] at hsl; omega
      rw [wrV, if_neg hsne, hak, hp] at hmk
      have hlv := hW.out.2.1.len
      have HA := Lib.hid ha
      have HSS := Lib.hid hs
      obtain ⟨x0, x1', x2, x3, x4, x5, x6, x7, x8, x9, x10, x11⟩ := cells12 hx.out
      rcases p with _ | ⟨b, v1, x1⟩
      · have hpl := Lib.hid (fun w hr => rplace_full A' c' v' x' k w hr hW.out.2.1.ok hk70 hp)
        rw [hlv] at hpl
        try simp only at hmk
        have HMK := Lib.hid hmk
        clear hmk hp hs ha
        go_upto_region 15 with (go_at_call 80; refine (hpl.out _ hf.out.1).mono ?_; rintro e w3 ⟨rfl, hb3⟩; have HB3 := Lib.hid (below_keep hB.out (Nat.le_refl _) (hb3.alloc hb3.size (.cells #[.slice none 0 0, .int .i64 0, .int .i64 0, .int .i64 0, .int .i64 0, .int .i64 0, .int .i64 0, .int .i64 0, .int .i64 0, .int .i64 0, .int .i64 0, .int .i64 0, .int .i64 0, .int .i64 0, .int .i64 10] 114))); obtain ⟨z0, z1, z2, z3, z4, z5, z6, z7, z8, z9, z10, z11, z12, z13, z14⟩ := cells15 (blk_new w3 (.cells #[.slice none 0 0, .int .i64 0, .int .i64 0, .int .i64 0, .int .i64 0, .int .i64 0, .int .i64 0, .int .i64 0, .int .i64 0, .int .i64 0, .int .i64 0, .int .i64 0, .int .i64 0, .int .i64 0, .int .i64 10] 114)); clear hb3)
        refine region_P (fun w' => w'.cell? ⟨w3.heap.size, 14, none⟩ = some (.int .i64 10)) [] (by kernel_rfl) ?_ (fun hHeld => ?_)
        · exact z14
        refine wpP_take (i := 1) (oi := ?oi741001) (v := ?v741001) ?hi741001 (by kernel_rfl) (by kernel_rfl) (by kernel_rfl) (by kernel_rfl) ?hQ741001 ?hy741001 (by assumption) ?rest741001
        case hi741001 => (simp only [List.getElem?_toArray, List.getElem?_cons_succ, List.getElem?_cons_zero]; exact rfl)
        case hQ741001 => exact fun _ _ _ h => h
        case hy741001 => (refine Or.inl ⟨by kernel_rfl, ?_⟩; intro w hSw; (try dsimp only at hSw); go_simp; try (with_reducible rfl))
        try simp only [Act.put, List.setIfInBounds_toArray, List.set_cons_zero, List.set_cons_succ]
        refine wpP_take (i := 2) (oi := ?oi741002) (v := ?v741002) ?hi741002 (by kernel_rfl) (by kernel_rfl) (by kernel_rfl) (by kernel_rfl) ?hQ741002 ?hy741002 (by assumption) ?rest741002
        case hi741002 => (simp only [List.getElem?_toArray, List.getElem?_cons_succ, List.getElem?_cons_zero]; exact rfl)
        case hQ741002 => exact fun _ _ _ h => h
        case hy741002 => (refine Or.inl ⟨by kernel_rfl, ?_⟩; intro w hSw; (try dsimp only at hSw); go_simp; try (with_reducible rfl))
        try simp only [Act.put, List.setIfInBounds_toArray, List.set_cons_zero, List.set_cons_succ]
        refine wpP_ready (rs := [0]) (by kernel_rfl) (by simp) ?_
        refine AllP.cons (o := ?o741003) ?ho741003 (fun K hK => ?_) AllP.nil
        case ho741003 => (simp only [List.getElem?_toArray, List.getElem?_cons_succ, List.getElem?_cons_zero]; exact rfl)
        go_simp
        refine hK.out _ _ ?_ (fun hHeld => ?_)
        · exact (cell_keep hHeld ((Below.refl _ _).alloc (Nat.le_refl _) _))
        clear hK K
        try simp only [Act.put, List.setIfInBounds_toArray, List.set_cons_zero, List.set_cons_succ]
        refine wpP_take (i := 3) (oi := ?oi741004) (v := ?v741004) ?hi741004 (by kernel_rfl) (by kernel_rfl) (by kernel_rfl) (by kernel_rfl) ?hQ741004 ?hy741004 (by assumption) ?rest741004
        case hi741004 => (simp only [List.getElem?_toArray, List.getElem?_cons_succ, List.getElem?_cons_zero]; exact rfl)
        case hQ741004 => exact fun _ _ _ h => h
        case hy741004 => (refine Or.inl ⟨by kernel_rfl, ?_⟩; intro w hSw; (try dsimp only at hSw); go_simp; try (with_reducible rfl))
        try simp only [Act.put, List.setIfInBounds_toArray, List.set_cons_zero, List.set_cons_succ]
        refine wpP_take (i := 4) (oi := ?oi741005) (v := ?v741005) ?hi741005 (by kernel_rfl) (by kernel_rfl) (by kernel_rfl) (by kernel_rfl) ?hQ741005 ?hy741005 (by assumption) ?rest741005
        case hi741005 => (simp only [List.getElem?_toArray, List.getElem?_cons_succ, List.getElem?_cons_zero]; exact rfl)
        case hQ741005 => exact fun _ _ _ h => h
        case hy741005 => (refine Or.inl ⟨by kernel_rfl, ?_⟩; intro w hSw; (try dsimp only at hSw); go_simp; try (with_reducible rfl))
        try simp only [Act.put, List.setIfInBounds_toArray, List.set_cons_zero, List.set_cons_succ]
        refine wpP_done (by kernel_rfl) ?_ _
        go_wp2
        go_ret2
        rw [← HMK.out]
        exact ⟨_, _, rfl, rs_any _ _, (HB3.out.drew.alloc HB3.out.drew.size _)⟩
      · have hpl := Lib.hid (fun w hr => rplace_ok A' c' v' x' k b v1 x1 w hr hW.out.2.1.ok hk70 hp)
        rw [hlv] at hpl
        obtain ⟨p1, p2, p3, p4, p5⟩ := place_facts hW.out.2.1.ok hW.out.2.2 hp
        rw [hlv] at p2
        try simp only at hmk
        have hv1 := (hW.out.2.1.trans p3)
        have hlv1 : v1.length = v.length := hv1.len
        have hb1 : b < v1.length := by omega
        have hbi1 : (b : Int) < (v.length : Nat) := by omega
        have hs1 := (okV_iff.1 hv1.ok).size b hb1
        have hbd : 2 < b := by have := dataV_pos v'; omega
        have HMK := Lib.hid hmk
        have HV1 := Lib.hid hv1
        clear hmk hp hs ha hv1 p3 p5
        go_upto_region 16 with (go_at_call 80; refine (hpl.out _ hf.out.1).mono ?_; rintro e w3 ⟨A2, c2, rfl, hr2, hb3⟩; have HR2 := Lib.hid hr2; have HB3 := Lib.hid hb3; have hb4 := hb3.alloc hb3.size (.cells #[.slice A2 v.length c2, .int .i64 ((x1.kind : Nat) : Int), .int .i64 ((x1.links : Nat) : Int), .int .i64 ((x1.owner : Nat) : Int), .int .i64 ((x1.size : Nat) : Int), .int .i64 ((x1.d0 : Nat) : Int), .int .i64 ((x1.d1 : Nat) : Int), .int .i64 ((x1.d2 : Nat) : Int), .int .i64 ((x1.d3 : Nat) : Int), .int .i64 ((x1.d4 : Nat) : Int), .int .i64 ((x1.d5 : Nat) : Int), .int .i64 ((x1.ind : Nat) : Int), .int .i64 ((x1.ext : Nat) : Int), .int .i64 b, .int .i64 0] 114); obtain ⟨z0, z1, z2, z3, z4, z5, z6, z7, z8, z9, z10, z11, z12, z13, z14⟩ := cells15 (blk_new w3 (.cells #[.slice A2 v.length c2, .int .i64 ((x1.kind : Nat) : Int), .int .i64 ((x1.links : Nat) : Int), .int .i64 ((x1.owner : Nat) : Int), .int .i64 ((x1.size : Nat) : Int), .int .i64 ((x1.d0 : Nat) : Int), .int .i64 ((x1.d1 : Nat) : Int), .int .i64 ((x1.d2 : Nat) : Int), .int .i64 ((x1.d3 : Nat) : Int), .int .i64 ((x1.d4 : Nat) : Int), .int .i64 ((x1.d5 : Nat) : Int), .int .i64 ((x1.ind : Nat) : Int), .int .i64 ((x1.ext : Nat) : Int), .int .i64 b, .int .i64 0] 114)); clear hb3 hb4 hr2)
        have hb4 := HB3.out.alloc HB3.out.size (.cells #[.slice A2 v.length c2, .int .i64 ((x1.kind : Nat) : Int), .int .i64 ((x1.links : Nat) : Int), .int .i64 ((x1.owner : Nat) : Int), .int .i64 ((x1.size : Nat) : Int), .int .i64 ((x1.d0 : Nat) : Int), .int .i64 ((x1.d1 : Nat) : Int), .int .i64 ((x1.d2 : Nat) : Int), .int .i64 ((x1.d3 : Nat) : Int), .int .i64 ((x1.d4 : Nat) : Int), .int .i64 ((x1.d5 : Nat) : Int), .int .i64 ((x1.ind : Nat) : Int), .int .i64 ((x1.ext : Nat) : Int), .int .i64 b, .int .i64 0] 114)
        have hb4' : Below w3.heap.size w3 (w3.alloc (.cells #[.slice A2 v.length c2, .int .i64 ((x1.kind : Nat) : Int), .int .i64 ((x1.links : Nat) : Int), .int .i64 ((x1.owner : Nat) : Int), .int .i64 ((x1.size : Nat) : Int), .int .i64 ((x1.d0 : Nat) : Int), .int .i64 ((x1.d1 : Nat) : Int), .int .i64 ((x1.d2 : Nat) : Int), .int .i64 ((x1.d3 : Nat) : Int), .int .i64 ((x1.d4 : Nat) : Int), .int .i64 ((x1.d5 : Nat) : Int), .int .i64 ((x1.ind : Nat) : Int), .int .i64 ((x1.ext : Nat) : Int), .int .i64 b, .int .i64 0] 114)) := (Below.refl _ _).alloc (Nat.le_refl _) _
        have hp4 := blk_new w3 (.cells #[.slice A2 v.length c2, .int .i64 ((x1.kind : Nat) : Int), .int .i64 ((x1.links : Nat) : Int), .int .i64 ((x1.owner : Nat) : Int), .int .i64 ((x1.size : Nat) : Int), .int .i64 ((x1.d0 : Nat) : Int), .int .i64 ((x1.d1 : Nat) : Int), .int .i64 ((x1.d2 : Nat) : Int), .int .i64 ((x1.d3 : Nat) : Int), .int .i64 ((x1.d4 : Nat) : Int), .int .i64 ((x1.d5 : Nat) : Int), .int .i64 ((x1.ind : Nat) : Int), .int .i64 ((x1.ext : Nat) : Int), .int .i64 b, .int .i64 0] 114)
        have hr4 := HR2.out.below hb4'
        clear z0 z1 z2 z3 z4 z5 z6 z7 z8 z9 z10 z11 z12 z13 z14 x0 x1' x2 x3 x4 x5 x6 x7 x8 x9 x10 x11
        obtain ⟨W4, hW4⟩ : ∃ W4, w3.alloc (.cells #[.slice A2 v.length c2, .int .i64 ((x1.kind : Nat) : Int), .int .i64 ((x1.links : Nat) : Int), .int .i64 ((x1.owner : Nat) : Int), .int .i64 ((x1.size : Nat) : Int), .int .i64 ((x1.d0 : Nat) : Int), .int .i64 ((x1.d1 : Nat) : Int), .int .i64 ((x1.d2 : Nat) : Int), .int .i64 ((x1.d3 : Nat) : Int), .int .i64 ((x1.d4 : Nat) : Int), .int .i64 ((x1.d5 : Nat) : Int), .int .i64 ((x1.ind : Nat) : Int), .int .i64 ((x1.ext : Nat) : Int), .int .i64 b, .int .i64 0] 114) = W4 := ⟨_, rfl⟩
        obtain ⟨qp, hqp⟩ : ∃ qp, w3.heap.size = qp := ⟨_, rfl⟩
        have sw3 := HB3.out.size
        have sqx := blk_lt hx.out
        have hqq : q < qp := by omega
        have hA2 : ∀ b o, A2 = some ⟨b, o, none⟩ → b ≠ q → b < qp := fun b' o' e' _ => by
          obtain ⟨b2, o2, e2, hb2, _⟩ := HR2.out.open_ (by omega)
          rw [e'] at e2
          cases e2
          omega
        rw [hW4] at hb4 hb4' hp4 hr4 ⊢
        rw [hqp] at hp4 ⊢
        have hx4 := blk_keep hx.out hb4
        have HB4 := Lib.hid (below_keep hB.out (Nat.le_refl _) hb4)
        have HP4 := Lib.hid hp4
        have HX4 := Lib.hid hx4
        have HR4 := Lib.hid hr4
        have HB43 := Lib.hid hb4'
        clear hW4 hb4 hx4 hr4 hb4'
        obtain ⟨z0, z1, z2, z3, z4, z5, z6, z7, z8, z9, z10, z11, z12, z13, z14⟩ := cells15 hp4
        clear hp4
        obtain ⟨bA2, oA2, hA2e, hbA2, hc2⟩ := HR4.out.open_ (by omega)
        subst hA2e
        have hcb := hc2 b hb1
        obtain ⟨B, hBk⟩ : ∃ B, bk v1 b = B := ⟨_, rfl⟩
        rw [hBk] at hs1 hcb
        have HBK := Lib.hid hBk
        have hcv := bytes_conv B W4
        rw [hs1] at hcv
        clear hc2 hBk
        go_upto_region 18 with (fail)
        have hbr := BR.new B W4
        have hb5 := bytes_below B W4
        obtain ⟨W5, hW5⟩ : ∃ W5, Lib.bytesWorld W4 5 (mk B) = W5 := ⟨_, rfl⟩
        obtain ⟨cp, hcp⟩ : ∃ cp, grownCap W4 128 0 5 = cp := ⟨_, rfl⟩
        obtain ⟨gb1, hgb1⟩ : ∃ gb1, W4.heap.size = gb1 := ⟨_, rfl⟩
        rw [hW5, hgb1] at hbr
        rw [hW5, hgb1] at hb5
        rw [hW5, hgb1, hcp]
        have HGB := Lib.hid hgb1
        have HBR0 := Lib.hid hbr
        have HB50 := Lib.hid hb5
        have HS1 := Lib.hid hs1
        clear hW5 hcp hcv hbr hb5 hgb1 hcb z0 z1 z2 z3 z4 z5 z6 z7 z8 z9 z10 z11 z12 z13 z14 hs1
        go_loopw [15] (fun iv wr => ∃ j : Nat, j ≤ 128 ∧ iv = .int .i64 j ∧ Hid (BR wr gb1 (insB B t off (128 * k) j)) ∧ Hid (Below gb1 W4 wr)) (fun iv _ => 128 - (intOf iv).toNat)
        case atStart => exact ⟨0, by omega, rfl, HBR0, HB50⟩
        case round =>
          obtain ⟨j, hj, rfl, hbr, hb5⟩ := hrel
          by_cases hj128 : j < 128
          · have hji : (j : Int) < 128 := by omega
            have e1 : IntKind.i64.wrap (128 * (k : Int)) = 128 * (k : Int) := by simp [IntKind.wrap, IntKind.bits, IntKind.signed]; omega
            have e2 : IntKind.i64.wrap (128 * (k : Int) + (j : Int)) = 128 * (k : Int) + (j : Int) := by simp [IntKind.wrap, IntKind.bits, IntKind.signed]; omega
            have e3 : IntKind.i64.wrap (128 * (k : Int) + (j : Int) - (off : Int)) = 128 * (k : Int) + (j : Int) - (off : Int) := by simp [IntKind.wrap, IntKind.bits, IntKind.signed]; omega
            have hsu := insB_succ B t off (128 * k) j
            have hln : (insB B t off (128 * k) j).length = 128 := by rw [insB_length, HS1.out]
            by_cases hc : off ≤ 128 * k + j ∧ 128 * k + j - off < t.length
            · rw [if_pos hc] at hsu
              obtain ⟨z, hz⟩ : ∃ z, 128 * k + j - off = z := ⟨_, rfl⟩
              rw [hz] at hsu hc
              have hzi : 128 * (k : Int) + (j : Int) - (off : Int) = (z : Int) := by omega
              have hzl : (z : Int) < (t.length : Int) := by omega
              have hz0 : (0 : Int) ≤ (z : Int) := by omega
              rw [hzi] at e3
              have hcl := hbr.out.cell j (by omega)
              have hfr := hbr.out.free j (by omega)
              have hset := Lib.hid (hbr.out.set j (UInt8.ofNat (gb t z)).toNat (by omega) (UInt8.ofNat (gb t z)).toNat_lt)
              have hgz : (UInt8.ofNat (gb t z)).toNat = gb t z := by have := gb_lt t z; simp; omega
              rw [hgz] at hset
              have HSU := Lib.hid hsu
              have hoc : (off : Int) ≤ 128 * (k : Int) + (j : Int) := by omega
              clear hsu hz hgz
              go_wp2
              refine ⟨⟨j + 1, by omega, by go_num, ?_, ?_⟩, by simp only [intOf]; omega⟩
              · rw [HSU.out]
                exact hset
              · exact Lib.hid (below_set hb5.out (Nat.le_refl _))
            · rw [if_neg hc] at hsu
              have HSU := Lib.hid hsu
              clear hsu
              by_cases hc1 : off ≤ 128 * k + j
              · obtain ⟨z, hz⟩ : ∃ z, 128 * k + j - off = z := ⟨_, rfl⟩
                have hzi : 128 * (k : Int) + (j : Int) - (off : Int) = (z : Int) := by omega
                rw [hzi] at e3
                have hzl : ¬ (z : Int) < (t.length : Int) := by omega
                have hz0 : (0 : Int) ≤ (z : Int) := by omega
                have hoc : (off : Int) ≤ 128 * (k : Int) + (j : Int) := by omega
                clear hz hc
                go_wp2
                exact ⟨⟨j + 1, by omega, by go_num, by rw [HSU.out]; exact hbr, hb5⟩, by simp only [intOf]; omega⟩
              · have hoc : ¬ (off : Int) ≤ 128 * (k : Int) + (j : Int) := by omega
                have hoz : ¬ (0 : Int) ≤ 128 * (k : Int) + (j : Int) - (off : Int) := by omega
                clear hc
                go_wp2
                exact ⟨⟨j + 1, by omega, by go_num, by rw [HSU.out]; exact hbr, hb5⟩, by simp only [intOf]; omega⟩
          · obtain rfl : j = 128 := by omega
            have k45 : Below W4.heap.size W4 wr := by rw [HGB.out]; exact hb5.out
            obtain ⟨T, hT⟩ : ∃ T, insB B t off (128 * k) 128 = T := ⟨_, rfl⟩
            have HTL : Hid (T.length = 128) := Lib.hid (by rw [← hT, insB_length, HS1.out])
            have HTT : Hid (T = over (bk v1 b) (a % 128) (s.take (128 - a % 128))) := Lib.hid (by rw [← hT, insB_over B t off k a HS1.out HA.out.symm hak, HBK.out, HSS.out])
            rw [hT] at hbr
            have HBR := Lib.hid hbr.out
            have HB7 := Lib.hid k45
            have HX7 := Lib.hid (blk_keep HX4.out k45)
            have HWI := Lib.hid (fun A' c' w hr => rwith19_ok A' c' v1 b T w v.length hlv1 hr hb1)
            have hstr : (convert 62 9 (.slice (some ⟨gb1, 0, none⟩) 128 cp)).run Try.prog wr.drew = .ok (.string (mk T)) wr.drew := (show BR wr.drew gb1 T from HBR.out).str HTL.out
            obtain ⟨y0, y1, y2, y3, y4, y5, y6, y7, y8, y9, y10, y11, y12, y13, y14⟩ := cells15 (blk_keep HP4.out k45)
            clear k45 hT hbr y14
            go_upto_region 23 with (fail)
            refine region_P (fun w' => w'.cell? ⟨qp, 0, none⟩ = some (.slice (some ⟨bA2, oA2, none⟩) v.length c2) ∧ w'.cell? ⟨qp, 1, none⟩ = some (.int .i64 ((x1.kind : Nat) : Int)) ∧ w'.cell? ⟨qp, 2, none⟩ = some (.int .i64 ((x1.links : Nat) : Int)) ∧ w'.cell? ⟨qp, 3, none⟩ = some (.int .i64 ((x1.owner : Nat) : Int)) ∧ w'.cell? ⟨qp, 4, none⟩ = some (.int .i64 ((x1.size : Nat) : Int)) ∧ w'.cell? ⟨qp, 5, none⟩ = some (.int .i64 ((x1.d0 : Nat) : Int)) ∧ w'.cell? ⟨qp, 6, none⟩ = some (.int .i64 ((x1.d1 : Nat) : Int)) ∧ w'.cell? ⟨qp, 7, none⟩ = some (.int .i64 ((x1.d2 : Nat) : Int)) ∧ w'.cell? ⟨qp, 8, none⟩ = some (.int .i64 ((x1.d3 : Nat) : Int)) ∧ w'.cell? ⟨qp, 9, none⟩ = some (.int .i64 ((x1.d4 : Nat) : Int)) ∧ w'.cell? ⟨qp, 10, none⟩ = some (.int .i64 ((x1.d5 : Nat) : Int)) ∧ w'.cell? ⟨qp, 11, none⟩ = some (.int .i64 ((x1.ind : Nat) : Int)) ∧ w'.cell? ⟨qp, 12, none⟩ = some (.int .i64 ((x1.ext : Nat) : Int)) ∧ w'.cell? ⟨qp, 13, none⟩ = some (.int .i64 b) ∧ (convert 62 9 (.slice (some ⟨gb1, 0, none⟩) 128 cp)).run Try.prog w' = .ok (.string (mk T)) w') [10] (by kernel_rfl) ?_ (fun hHeld => ?_)
            · exact ⟨y0, y1, y2, y3, y4, y5, y6, y7, y8, y9, y10, y11, y12, y13, hstr⟩
            refine wpP_take (i := 0) (oi := ?oi741006) (v := ?v741006) ?hi741006 (by kernel_rfl) (by kernel_rfl) (by kernel_rfl) (by kernel_rfl) ?hQ741006 ?hy741006 (by assumption) ?rest741006
            case hi741006 => (simp only [List.getElem?_toArray, List.getElem?_cons_succ, List.getElem?_cons_zero]; exact rfl)
            case hQ741006 => exact fun _ _ _ h => h
            case hy741006 => (refine Or.inl ⟨by kernel_rfl, ?_⟩; intro w hSw; (try dsimp only at hSw); go_simp; try (with_reducible rfl))
            try simp only [Act.put, List.setIfInBounds_toArray, List.set_cons_zero, List.set_cons_succ]
            refine wpP_take (i := 1) (oi := ?oi741007) (v := ?v741007) ?hi741007 (by kernel_rfl) (by kernel_rfl) (by kernel_rfl) (by kernel_rfl) ?hQ741007 ?hy741007 (by assumption) ?rest741007
            case hi741007 => (simp only [List.getElem?_toArray, List.getElem?_cons_succ, List.getElem?_cons_zero]; exact rfl)
            case hQ741007 => exact fun _ _ _ h => h
            case hy741007 => (refine Or.inl ⟨by kernel_rfl, ?_⟩; intro w hSw; (try dsimp only at hSw); go_simp; try (with_reducible rfl))
            try simp only [Act.put, List.setIfInBounds_toArray, List.set_cons_zero, List.set_cons_succ]
            refine wpP_take (i := 2) (oi := ?oi741008) (v := ?v741008) ?hi741008 (by kernel_rfl) (by kernel_rfl) (by kernel_rfl) (by kernel_rfl) ?hQ741008 ?hy741008 (by assumption) ?rest741008
            case hi741008 => (simp only [List.getElem?_toArray, List.getElem?_cons_succ, List.getElem?_cons_zero]; exact rfl)
            case hQ741008 => exact fun _ _ _ h => h
            case hy741008 => (refine Or.inl ⟨by kernel_rfl, ?_⟩; intro w hSw; (try dsimp only at hSw); go_simp; try (with_reducible rfl))
            try simp only [Act.put, List.setIfInBounds_toArray, List.set_cons_zero, List.set_cons_succ]
            refine wpP_take (i := 3) (oi := ?oi741009) (v := ?v741009) ?hi741009 (by kernel_rfl) (by kernel_rfl) (by kernel_rfl) (by kernel_rfl) ?hQ741009 ?hy741009 (by assumption) ?rest741009
            case hi741009 => (simp only [List.getElem?_toArray, List.getElem?_cons_succ, List.getElem?_cons_zero]; exact rfl)
            case hQ741009 => exact fun _ _ _ h => h
            case hy741009 => (refine Or.inl ⟨by kernel_rfl, ?_⟩; intro w hSw; (try dsimp only at hSw); go_simp; try (with_reducible rfl))
            try simp only [Act.put, List.setIfInBounds_toArray, List.set_cons_zero, List.set_cons_succ]
            refine wpP_take (i := 4) (oi := ?oi741010) (v := ?v741010) ?hi741010 (by kernel_rfl) (by kernel_rfl) (by kernel_rfl) (by kernel_rfl) ?hQ741010 ?hy741010 (by assumption) ?rest741010
            case hi741010 => (simp only [List.getElem?_toArray, List.getElem?_cons_succ, List.getElem?_cons_zero]; exact rfl)
            case hQ741010 => exact fun _ _ _ h => h
            case hy741010 => (refine Or.inl ⟨by kernel_rfl, ?_⟩; intro w hSw; (try dsimp only at hSw); go_simp; try (with_reducible rfl))
            try simp only [Act.put, List.setIfInBounds_toArray, List.set_cons_zero, List.set_cons_succ]
            refine wpP_take (i := 5) (oi := ?oi741011) (v := ?v741011) ?hi741011 (by kernel_rfl) (by kernel_rfl) (by kernel_rfl) (by kernel_rfl) ?hQ741011 ?hy741011 (by assumption) ?rest741011
            case hi741011 => (simp only [List.getElem?_toArray, List.getElem?_cons_succ, List.getElem?_cons_zero]; exact rfl)
            case hQ741011 => exact fun _ _ _ h => h
            case hy741011 => (refine Or.inl ⟨by kernel_rfl, ?_⟩; intro w hSw; (try dsimp only at hSw); go_simp; try (with_reducible rfl))
            try simp only [Act.put, List.setIfInBounds_toArray, List.set_cons_zero, List.set_cons_succ]
            refine wpP_take (i := 7) (oi := ?oi741012) (v := ?v741012) ?hi741012 (by kernel_rfl) (by kernel_rfl) (by kernel_rfl) (by kernel_rfl) ?hQ741012 ?hy741012 (by assumption) ?rest741012
            case hi741012 => (simp only [List.getElem?_toArray, List.getElem?_cons_succ, List.getElem?_cons_zero]; exact rfl)
            case hQ741012 => exact fun _ _ _ h => h
            case hy741012 => (refine Or.inl ⟨by kernel_rfl, ?_⟩; intro w hSw; (try dsimp only at hSw); go_simp; try (with_reducible rfl))
            try simp only [Act.put, List.setIfInBounds_toArray, List.set_cons_zero, List.set_cons_succ]
            refine wpP_take (i := 8) (oi := ?oi741013) (v := ?v741013) ?hi741013 (by kernel_rfl) (by kernel_rfl) (by kernel_rfl) (by kernel_rfl) ?hQ741013 ?hy741013 (by assumption) ?rest741013
            case hi741013 => (simp only [List.getElem?_toArray, List.getElem?_cons_succ, List.getElem?_cons_zero]; exact rfl)
            case hQ741013 => exact fun _ _ _ h => h
            case hy741013 => (refine Or.inl ⟨by kernel_rfl, ?_⟩; intro w hSw; (try dsimp only at hSw); go_simp; try (with_reducible rfl))
            try simp only [Act.put, List.setIfInBounds_toArray, List.set_cons_zero, List.set_cons_succ]
            refine wpP_ready (rs := [6]) (by kernel_rfl) (by simp) ?_
            refine AllP.cons (o := ?o741014) ?ho741014 (fun K hK => ?_) AllP.nil
            case ho741014 => (simp only [List.getElem?_toArray, List.getElem?_cons_succ, List.getElem?_cons_zero]; exact rfl)
            go_simp
            go_at_call 81
            refine (HWI.out _ _ _ (HR4.out.below HB7.out.drew)).mono ?_
            rintro e w5 ⟨g5, c5, rfl, hg5, hgs5, hb5⟩
            have k5 : Below wr.heap.size wr w5 := below_und hb5
            have hq1 := blk_keep HX7.out k5
            obtain ⟨xx0, xx1, xx2, xx3, xx4, xx5, xx6, xx7, xx8, xx9, xx10, xx11⟩ := cells12 hq1
            obtain ⟨fx0, fx1, fx2, fx3, fx4, fx5, fx6, fx7, fx8, fx9, fx10, fx11⟩ := frees12 hq1
            have HX8 := Lib.hid hq1
            clear hq1
            refine hK.out _ _ ?_ (fun hHeld => ?_)
            · exact ⟨cell_keep hHeld.1 hb5, cell_keep hHeld.2.1 hb5, cell_keep hHeld.2.2.1 hb5, cell_keep hHeld.2.2.2.1 hb5, cell_keep hHeld.2.2.2.2.1 hb5, cell_keep hHeld.2.2.2.2.2.1 hb5, cell_keep hHeld.2.2.2.2.2.2.1 hb5, cell_keep hHeld.2.2.2.2.2.2.2.1 hb5, cell_keep hHeld.2.2.2.2.2.2.2.2.1 hb5, cell_keep hHeld.2.2.2.2.2.2.2.2.2.1 hb5, cell_keep hHeld.2.2.2.2.2.2.2.2.2.2.1 hb5, cell_keep hHeld.2.2.2.2.2.2.2.2.2.2.2.1 hb5, cell_keep hHeld.2.2.2.2.2.2.2.2.2.2.2.2.1 hb5, cell_keep hHeld.2.2.2.2.2.2.2.2.2.2.2.2.2.1 hb5, (HBR.out.keep k5).str HTL.out⟩
            clear hK K
            try simp only [Act.put, List.setIfInBounds_toArray, List.set_cons_zero, List.set_cons_succ]
            refine wpP_take (i := 9) (oi := ?oi741015) (v := ?v741015) ?hi741015 (by kernel_rfl) (by kernel_rfl) (by kernel_rfl) (by kernel_rfl) ?hQ741015 ?hy741015 (by assumption) ?rest741015
            case hi741015 => (simp only [List.getElem?_toArray, List.getElem?_cons_succ, List.getElem?_cons_zero]; exact rfl)
            case hQ741015 => exact fun _ _ _ h => h
            case hy741015 => (refine Or.inl ⟨by kernel_rfl, ?_⟩; intro w hSw; (try dsimp only at hSw); go_simp; try (with_reducible rfl))
            try simp only [Act.put, List.setIfInBounds_toArray, List.set_cons_zero, List.set_cons_succ]
            refine wpP_ready (rs := [10]) (by kernel_rfl) (by simp) ?_
            refine AllP.last (o := ?o741016) ?ho741016 (by kernel_rfl) (fun K hK => ?_) AllP.nil
            case ho741016 => (simp only [List.getElem?_toArray, List.getElem?_cons_succ, List.getElem?_cons_zero]; exact rfl)
            go_simp
            refine hK.out _ _ ?_
            clear hK K
            try simp only [Act.put, List.setIfInBounds_toArray, List.set_cons_zero, List.set_cons_succ]
            refine wpP_done (by kernel_rfl) ?_ _
            obtain ⟨W6, hW6, f1, f2, f3, f4⟩ := st12_facts x1 HX8.out
            rw [hW6]
            clear hW6 xx0 xx1 xx2 xx3 xx4 xx5 xx6 xx7 xx8 xx9 xx10 xx11 fx0 fx1 fx2 fx3 fx4 fx5 fx6 fx7 fx8 fx9 fx10 fx11 y0 y1 y2 y3 y4 y5 y6 y7 y8 y9 y10 y11 y12 y13 hHeld hstr
            have F1 := Lib.hid f1
            have F2 := Lib.hid f2
            have F3 := Lib.hid f3
            have s4 := HB4.out.size
            have s5 := HB7.out.size
            have HG5 := Lib.hid hg5
            have K5 := Lib.hid k5
            have hg5q : g5 ≠ q := by
              have := blk_lt HX7.out
              have e : wr.drew.heap.size = wr.heap.size := rfl
              omega
            clear f1 f2 f3 hg5 k5 hb5
            go_wp2
            have hol : (over (bk v1 b) (a % 128) (s.take (128 - a % 128))).length = 128 := by rw [← HTT.out, HTL.out]
            have ha2 : max off (128 * (k + 1)) = 128 * (k + 1) := by have := HA.out; omega
            refine ⟨⟨m1, k + 1, v1.set b T, x1, some ⟨g5, 0, none⟩, c5, by omega, by omega, rfl, by go_num, by rw [ha2, List.length_drop]; have := HA.out; omega, ⟨?_, HV1.out.trans (kept_set HV1.out.ok hbd HTL.out), p4⟩, ⟨?_, ?_⟩, F1, ?_⟩, by simp only [intOf]; omega⟩
            · rw [ha2, HTT.out]
              have HM := HMK.out
              have hss := HSS.out
              have haa := HA.out
              by_cases hfull : 128 - a % 128 ≤ s.length
              · have e1 : (s.take (128 - a % 128)).length = 128 - a % 128 := by rw [List.length_take]; omega
                rw [e1] at HM
                rw [show a + (128 - a % 128) = 128 * (k + 1) from by omega, ← hss, List.drop_drop, show a - off + (128 - a % 128) = 128 * (k + 1) - off from by omega, hss] at HM
                exact HM
              · have e1 : (s.take (128 - a % 128)).length = s.length := by rw [List.length_take]; omega
                rw [e1, List.drop_length, wrV_nil] at HM
                rw [show t.drop (128 * (k + 1) - off) = [] from List.drop_eq_nil_of_le (by omega), wrV_nil]
                exact HM
            · exact rs_other (HG5.out.rs (by rw [List.length_set]; omega)) F2.out (fun b' o' e => by cases e; exact hg5q)
            · intro b' o' e
              cases e
              exact hg5q
            · exact Lib.hid (F3.out _ _ (below_keep (below_keep HB4.out (Nat.le_refl _) HB7.out) (Nat.le_refl _) K5.out) (by omega))
    · obtain rfl : k = K + 1 := by omega
      have hsnil : t.drop (max off (128 * (K + 1)) - off) = [] := List.drop_eq_nil_of_le (by omega)
      have hW1 := hW.out.1
      rw [hsnil, wrV_nil] at hW1
      have hk := hW.out.2.1
      have hfit := hW.out.2.2
      have hlv := hk.len
      have HK := Lib.hid hk
      subst hW1
      have hkK : ¬ ((K : Int) + 1 ≤ (K : Int)) := by omega
      obtain ⟨z, hz⟩ : ∃ z, min x'.size 8960 = z := ⟨_, rfl⟩
      have HRF := Lib.hid hf.out.1
      obtain ⟨x0, x1, x2, x3, x4, x5, x6, x7, x8, x9, x10, x11⟩ := cells12 hx.out
      have hfits := (fitI_iff.1 hfit).2.2.2.1
      by_cases hlz : z < off + t.length
      · have hlzi : (z : Int) < (off : Int) + (t.length : Int) := by omega
        have hpt := Lib.hid (fun w hr => rput18_ok A' c' v' n (x'.setS (off + t.length)) w hr HK.out.ok h1 (by rw [HK.out.ino]; exact h2) (setS_fit hfit (by omega)))
        rw [hlv, show ((((x'.setS (off + t.length)).size : Nat)) : Int) = (off : Int) + (t.length : Int) from Int.natCast_add _ _] at hpt
        have hfr := free_of hx.out 3
        have hx3 : Hid ((wr.setCell ⟨q, 3, none⟩ (.int .i64 ((off : Int) + (t.length : Int)))).heap[q]? = some (.cells #[.int .i64 (((x'.setS (off + t.length)).kind : Nat) : Int), .int .i64 (((x'.setS (off + t.length)).links : Nat) : Int), .int .i64 (((x'.setS (off + t.length)).owner : Nat) : Int), .int .i64 (((x'.setS (off + t.length)).size : Nat) : Int), .int .i64 (((x'.setS (off + t.length)).d0 : Nat) : Int), .int .i64 (((x'.setS (off + t.length)).d1 : Nat) : Int), .int .i64 (((x'.setS (off + t.length)).d2 : Nat) : Int), .int .i64 (((x'.setS (off + t.length)).d3 : Nat) : Int), .int .i64 (((x'.setS (off + t.length)).d4 : Nat) : Int), .int .i64 (((x'.setS (off + t.length)).d5 : Nat) : Int), .int .i64 (((x'.setS (off + t.length)).ind : Nat) : Int), .int .i64 (((x'.setS (off + t.length)).ext : Nat) : Int)] 45 (0, 0))) := Lib.hid (by rw [← Int.natCast_add]; exact blk_set hx.out 3 (.int .i64 ((off + t.length : Nat) : Int)))
        obtain ⟨z0, z1, z2, z3, z4, z5, z6, z7, z8, z9, z10, z11⟩ := cells12 hx3.out
        have HZ := Lib.hid hz
        clear hk hfit hz
        go_wp2_with (first
          | (go_at_call 58; refine (rsize_ok x' _).mono ?_; rw [show sizeX x' = z from HZ.out]; rintro e w2 ⟨rfl, hb2⟩; have HB2 := Lib.hid (below_keep hB.out (Nat.le_refl _) hb2); have HX2 := Lib.hid (blk_keep hx.out hb2); have HR2 := Lib.hid (HRF.out.below hb2); clear x0 x1 x2 x3 x4 x5 x6 x7 x8 x9 x10 x11; obtain ⟨x0, x1, x2, x3, x4, x5, x6, x7, x8, x9, x10, x11⟩ := cells12 HX2.out; have hfr := free_of HX2.out 3; clear hb2)
          | (go_at_call 82; refine (hpt.out _ (rs_other HR2.out (fun D o hne hD => blk_set_other hD hne _ _) hf.out.2)).mono ?_; rintro e w4 ⟨g4, c4, rfl, hg4, hgs4, hb4⟩; have HG4 := Lib.hid hg4; have HB4 := Lib.hid hb4; clear hg4 hb4))
        go_ret2
        have s2 := HB2.out.size
        have s3 : (w2.setCell ⟨q, 3, none⟩ (.int .i64 ((off : Int) + (t.length : Int)))).heap.size = w2.heap.size := by simp
        have e1 : wEnd n (off + t.length) (some (v', x')) = (0, putV v' n (x'.setS (off + t.length))) := by rw [wEnd, HZ.out, if_pos hlz]
        have hpl : (putV v' n (x'.setS (off + t.length))).length = v.length := by rw [putV, List.length_set, hlv]
        rw [e1]
        refine ⟨some ⟨g4, 0, none⟩, c4, ?_, HG4.out.rs (by rw [hpl]; omega), below_keep (below_set HB2.out (by omega)) (by omega) HB4.out⟩
        show _ = Ending.returned (.tuple #[.slice (some ⟨g4, 0, none⟩) (putV v' n (x'.setS (off + t.length))).length c4, .int .i64 0])
        rw [hpl]
        rfl
      · have hlzi : ¬ (z : Int) < (off : Int) + (t.length : Int) := by omega
        have hpt := Lib.hid (fun w hr => rput18_ok A' c' v' n x' w hr HK.out.ok h1 (by rw [HK.out.ino]; exact h2) hfit)
        rw [hlv] at hpt
        have HZ := Lib.hid hz
        clear hk hfit hz
        go_wp2_with (first
          | (go_at_call 58; refine (rsize_ok x' _).mono ?_; rw [show sizeX x' = z from HZ.out]; rintro e w2 ⟨rfl, hb2⟩; have HB2 := Lib.hid (below_keep hB.out (Nat.le_refl _) hb2); have HX2 := Lib.hid (blk_keep hx.out hb2); have HR2 := Lib.hid (HRF.out.below hb2); clear x0 x1 x2 x3 x4 x5 x6 x7 x8 x9 x10 x11; obtain ⟨x0, x1, x2, x3, x4, x5, x6, x7, x8, x9, x10, x11⟩ := cells12 HX2.out; clear hb2)
          | (go_at_call 82; refine (hpt.out _ HR2.out).mono ?_; rintro e w4 ⟨g4, c4, rfl, hg4, hgs4, hb4⟩; have HG4 := Lib.hid hg4; have HB4 := Lib.hid hb4; clear hg4 hb4))
        go_ret2
        have e1 : wEnd n (off + t.length) (some (v', x')) = (0, putV v' n (x')) := by rw [wEnd, HZ.out, if_neg hlz]
        have hpl : (putV v' n (x')).length = v.length := by rw [putV, List.length_set, hlv]
        rw [e1]
        refine ⟨some ⟨g4, 0, none⟩, c4, ?_, HG4.out.rs (by rw [hpl]; omega), below_keep HB2.out (Nat.le_refl _) HB4.out⟩
        show _ = Ending.returned (.tuple #[.slice (some ⟨g4, 0, none⟩) (putV v' n (x')).length c4, .int .i64 0])
        rw [hpl]
        rfl
end Go.Proofs.Ytacdohlhalnioaa
end

/- Contract: bytes are written into a file: every case, of the document's Write and of the program's. -/
section
set_option linter.unusedVariables false
set_option linter.unusedSimpArgs false
set_option maxRecDepth 20000
namespace Go.Proofs.Ytacdohlhalnioaa
open Go.RowKit
attribute [local go_sem] Oper.semAt_some

theorem getE_nt {v : Vol} {n : Int} (h : getE v n = 0) : okV v = true ∧ 1 ≤ n.toNat ∧ n.toNat ≤ inosV v ∧ n = (n.toNat : Int) := by
  obtain ⟨h1, h2, h3⟩ := getE_ok h
  exact ⟨h1, by omega, by omega, by omega⟩
/-- What Write answers. -/
def writeR (v : Vol) (n off : Int) (t : Blk) : Int × Vol :=
  if getE v n ≠ 0 then (getE v n, []) else if off < 0 then (1, []) else if 8960 < off ∨ 8960 < off + t.length then (6, []) else if t = [] then (0, v) else wEnd n.toNat (off.toNat + t.length) (wrV t.length v (inoV v n.toNat) off.toNat t)
set_option maxHeartbeats 400000 in
theorem rwrite_no (A : Option Addr) (c : Nat) (v : Vol) (n off : Int) (t : Blk) (w : World) (hr : RS w A v) (h : getE v n ≠ 0) :
    Calls Try.prog 37 #[.slice A v.length c, .int .i64 n, .int .i64 off, .string (mk t)] w (Ans w (getE v n, [])) := by
  have HP := fun w hr => rget18_no A c v n w hr h
  generalize getE v n = er at *
  have hbn : (er != 0) = true := by simpa using h
  have hb : (er == 0) = false := by simpa using h
  have HPl := Lib.hid HP
  have HRR := Lib.hid hr
  clear HP hr
  go_enter Try.func37, Try.ntmps37
  go_wp2_with (go_at_call 55; refine (HPl.out _ HRR.out).mono ?_; rintro e w1 ⟨rfl, hb1⟩; have B1 := Lib.hid hb1; clear hb1)
  go_ret2
  refine ⟨_, _, rfl, rs_any _ _, ?_⟩
  exact (B1.out.alloc B1.out.size _).alloc (by have := B1.out.size; simp; omega) _
set_option maxHeartbeats 1000000 in
theorem rwrite_neg (A : Option Addr) (c : Nat) (v : Vol) (n : Nat) (off : Int) (t : Blk) (w : World) (hr : RS w A v) (hv : okV v = true) (h1 : 1 ≤ n) (h2 : n ≤ inosV v) (ho : off < 0) :
    Calls Try.prog 37 #[.slice A v.length c, .int .i64 n, .int .i64 off, .string (mk t)] w (Ans w (1, [])) := by
  have HPl := Lib.hid (fun w hr => rget18_ok A c v n w hr hv h1 h2)
  have HRR := Lib.hid hr
  generalize inoV v n = x at *
  clear hr hv
  go_enter Try.func37, Try.ntmps37
  go_wp2_with (go_at_call 55; refine (HPl.out _ HRR.out).mono ?_; rintro e w1 ⟨rfl, hb1⟩; have B1 := Lib.hid hb1; clear hb1)
  go_ret2
  refine ⟨_, _, rfl, rs_any _ _, ?_⟩
  exact (B1.out.alloc B1.out.size _).alloc (by have := B1.out.size; simp; omega) _
set_option maxHeartbeats 1000000 in
theorem rwrite_limit (A : Option Addr) (c : Nat) (v : Vol) (n off : Nat) (t : Blk) (w : World) (hr : RS w A v) (hv : okV v = true) (h1 : 1 ≤ n) (h2 : n ≤ inosV v) (ho : 8960 < off ∨ 8960 < off + t.length) (htl : (t.length : Int) ≤ 140737488351232) :
    Calls Try.prog 37 #[.slice A v.length c, .int .i64 n, .int .i64 off, .string (mk t)] w (Ans w (6, [])) := by
  have HPl := Lib.hid (fun w hr => rget18_ok A c v n w hr hv h1 h2)
  have HRR := Lib.hid hr
  generalize inoV v n = x at *
  clear hr hv
  have h0 : (0 : Int) ≤ (off : Int) := by omega
  by_cases hb : 8960 < off
  · have hbi : (8960 : Int) < (off : Int) := by omega
    go_enter Try.func37, Try.ntmps37
    go_wp2_with (go_at_call 55; refine (HPl.out _ HRR.out).mono ?_; rintro e w1 ⟨rfl, hb1⟩; have B1 := Lib.hid hb1; clear hb1)
    go_ret2
    refine ⟨_, _, rfl, rs_any _ _, ?_⟩
    exact (B1.out.alloc B1.out.size _).alloc (by have := B1.out.size; simp; omega) _
  · have hbi : ¬ (8960 : Int) < (off : Int) := by omega
    have hwe : IntKind.i64.wrap ((off : Int) + (t.length : Int)) = (off : Int) + (t.length : Int) := by simp [IntKind.wrap, IntKind.bits, IntKind.signed]; omega
    have hlt : 8960 < (off : Int) + (t.length : Int) := by omega
    go_enter Try.func37, Try.ntmps37
    go_wp2_with (go_at_call 55; refine (HPl.out _ HRR.out).mono ?_; rintro e w1 ⟨rfl, hb1⟩; have B1 := Lib.hid hb1; clear hb1)
    go_ret2
    refine ⟨_, _, rfl, rs_any _ _, ?_⟩
    exact (B1.out.alloc B1.out.size _).alloc (by have := B1.out.size; simp; omega) _
set_option maxHeartbeats 1000000 in
theorem rwrite_nil (A : Option Addr) (c : Nat) (v : Vol) (n off : Nat) (w : World) (hr : RS w A v) (hv : okV v = true) (h1 : 1 ≤ n) (h2 : n ≤ inosV v) (ho : off ≤ 8960) :
    Calls Try.prog 37 #[.slice A v.length c, .int .i64 n, .int .i64 off, .string (mk [])] w (Ans w (0, v)) := by
  have HPl := Lib.hid (fun w hr => rget18_ok A c v n w hr hv h1 h2)
  have HRR := Lib.hid hr
  generalize inoV v n = x at *
  clear hr hv
  have h0 : (0 : Int) ≤ (off : Int) := by omega
  have hbi : ¬ (8960 : Int) < (off : Int) := by omega
  have hwe : IntKind.i64.wrap (off : Int) = (off : Int) := by simp [IntKind.wrap, IntKind.bits, IntKind.signed]; omega
  go_enter Try.func37, Try.ntmps37
  go_wp2_with (go_at_call 55; refine (HPl.out _ HRR.out).mono ?_; rintro e w1 ⟨rfl, hb1⟩; have B1 := Lib.hid hb1; clear hb1)
  go_ret2
  refine ⟨_, _, rfl, ?_, ?_⟩
  · exact HRR.out.below (B1.out.alloc B1.out.size _)
  · exact B1.out.alloc B1.out.size _

/-- What stays through a write. -/
theorem wrV_facts {m : Nat} {v : Vol} {x : Ino} {a : Nat} {t : Blk} (hv : okV v = true) (hx : fitI x) {v' : Vol} {x' : Ino} (h : wrV m v x a t = some (v', x')) : Kept v v' ∧ fitI x' := by
  induction m generalizing v x a t with
  | zero => cases h; exact ⟨.rfl hv, hx⟩
  | succ m ih =>
    rw [wrV] at h
    by_cases ht : t = []
    · rw [if_pos ht] at h
      cases h
      exact ⟨.rfl hv, hx⟩
    · rw [if_neg ht] at h
      obtain ⟨p, hp⟩ : ∃ p, placeV v x (a / 128) = p := ⟨_, rfl⟩
      rw [hp] at h
      rcases p with _ | ⟨b, v1, x1⟩
      · cases h
      · obtain ⟨p1, p2, p3, p4, p5⟩ := place_facts hv hx hp
        have hs := (okV_iff.1 p3.ok).size b (by rw [p3.len]; exact p2)
        have hk := p3.trans (kept_set p3.ok (b := b) (s := over (bk v1 b) (a % 128) (t.take (128 - a % 128))) (by have := dataV_pos v; omega) (by rw [over_length _ _ _ (by rw [List.length_take, hs]; omega), hs]))
        obtain ⟨q1, q2⟩ := ih hk.ok p4 h
        exact ⟨hk.trans q1, q2⟩
/-- The document's Write. -/
theorem rwrite_is (A : Option Addr) (c : Nat) (v : Vol) (n off : Int) (t : Blk) (w : World) (hr : RS w A v) (htl : (t.length : Int) ≤ 140737488351232) :
    Calls Try.prog 37 #[.slice A v.length c, .int .i64 n, .int .i64 off, .string (mk t)] w (Ans w (writeR v n off t)) := by
  unfold writeR
  by_cases hg : getE v n = 0
  · obtain ⟨hv, h1, h2, h3⟩ := getE_nt hg
    generalize n.toNat = N at *
    subst h3
    rw [if_neg (by simp [hg])]
    by_cases ho : off < 0
    · rw [if_pos ho]
      exact rwrite_neg A c v N off t w hr hv h1 h2 ho
    · rw [if_neg ho]
      obtain ⟨o, rfl⟩ : ∃ o : Nat, off = (o : Int) := ⟨off.toNat, by omega⟩
      by_cases hl : 8960 < (o : Int) ∨ 8960 < (o : Int) + (t.length : Int)
      · rw [if_pos hl]
        exact rwrite_limit A c v N o t w hr hv h1 h2 (by omega) htl
      · rw [if_neg hl]
        by_cases ht : t = []
        · rw [if_pos ht, ht]
          exact rwrite_nil A c v N o w hr hv h1 h2 (by omega)
        · rw [if_neg ht]
          exact rwrite_main A c v N o t w hr hv h1 h2 (by omega) ht
  · rw [if_pos hg]
    exact rwrite_no A c v n off t w hr hg
/-- The program's Write. -/
theorem write_is (A : Option Addr) (c : Nat) (v : Vol) (n off : Int) (t : Blk) (w : World) (hr : RS w A v) (hoff : off ≤ 9223372036854775807) (htl : (t.length : Int) ≤ 140737488351232) :
    Calls Try.prog 35 #[.slice A v.length c, .int .i64 n, .int .i64 off, .string (mk t)] w (Ans w (writeR v n off t)) := by
  unfold writeR
  by_cases hg : getE v n = 0
  · obtain ⟨hv, h1, h2, h3⟩ := getE_nt hg
    generalize n.toNat = N at *
    subst h3
    have hlo := (okV_iff.1 hv).lo
    have hhi := (okV_iff.1 hv).hi
    rw [if_neg (by simp [hg])]
    by_cases ho : off < 0
    · rw [if_pos ho]
      refine (write_neg A c v N off t w hr hv h1 h2 ho).mono ?_
      rintro e w' ⟨rfl, hb⟩
      exact ⟨_, _, rfl, rs_any _ _, hb⟩
    · rw [if_neg ho]
      obtain ⟨o, rfl⟩ : ∃ o : Nat, off = (o : Int) := ⟨off.toNat, by omega⟩
      by_cases hl : 8960 < (o : Int) ∨ 8960 < (o : Int) + (t.length : Int)
      · rw [if_pos hl]
        refine (write_limit A c v N o t w hr hv h1 h2 (by omega) hoff (by omega)).mono ?_
        rintro e w' ⟨rfl, hb⟩
        exact ⟨_, _, rfl, rs_any _ _, hb⟩
      · rw [if_neg hl]
        by_cases ht : t = []
        · rw [if_pos ht, ht]
          refine (write_nil A c v N o w hr hv h1 h2 (by omega)).mono ?_
          rintro e w' ⟨g, c', rfl, h, hg, hb⟩
          exact ⟨_, _, rfl, h.rs (by omega), hb⟩
        · rw [if_neg ht]
          refine (write_ok A c v N o t w hr hv h1 h2 (by omega) ht).mono ?_
          intro e w' h
          rw [show (o : Int).toNat = o from rfl]
          have hkp := fun (v' : Vol) (x' : Ino) (h : wrV t.length v (inoV v N) o t = some (v', x')) => (wrV_facts hv (inoV_fit v N) h)
          generalize wrV t.length v (inoV v N) o t = R at *
          rcases R with _ | ⟨v', x'⟩
          · obtain ⟨rfl, hb⟩ := h
            exact ⟨_, _, rfl, rs_any _ _, hb⟩
          · obtain ⟨g, c', rfl, h, hg, hb⟩ := h
            have hln : (wEnd N (o + t.length) (some (v', x'))).2.length = v.length := by
              simp only [wEnd, putV, List.length_set]
              exact (hkp _ _ rfl).1.len
            refine ⟨some ⟨g, 0, none⟩, c', ?_, h.rs ?_, hb⟩
            · rw [hln]
              rfl
            · have h9 : (putV v' N (if min x'.size 8960 < o + t.length then x'.setS (o + t.length) else x')).length = v.length := hln
              rw [h9]
              omega
  · rw [if_pos hg]
    refine (write_no A c v n off t w hr hg).mono ?_
    rintro e w' ⟨rfl, hb⟩
    exact ⟨_, _, rfl, rs_any _ _, hb⟩
end Go.Proofs.Ytacdohlhalnioaa
end
