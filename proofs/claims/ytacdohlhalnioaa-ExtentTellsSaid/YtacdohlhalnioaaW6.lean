/- Contract: bytes are written into a file, block by block. -/
import Derived.Test.YtacdohlhalnioaaW5
set_option linter.unusedVariables false
set_option maxRecDepth 20000
namespace Go.Proofs.Ytacdohlhalnioaa
open Go.RowKit
attribute [local go_sem] Oper.semAt_some

/-- What a write of some bytes answers. -/
def WAns (w : World) (v : Vol) (n e : Nat) (R : Option (Vol × Ino)) (r : Ending) (w' : World) : Prop :=
  match R with
  | none => r = .returned (.tuple #[.slice none 0 0, .int .i64 10]) ∧ Below w.heap.size w w'
  | some (v', x') => ∃ g c', r = .returned (.tuple #[.slice (some ⟨g, 0, none⟩) v.length c', .int .i64 0]) ∧ VS w' g (putV v' n (if min x'.size 8960 < e then x'.setS e else x')) ∧ w.heap.size ≤ g ∧ Below w.heap.size w w'
theorem fcells_size (F g c L I d n i : Nat) (x : Ino) :
    (#[.slice (some ⟨g, 0, none⟩) L c, .int .i64 L, .int .i64 I, .int .i64 1, .int .i64 2, .int .i64 3, .int .i64 d, .int .i64 n, .int .i64 ((x.kind : Nat) : Int), .int .i64 ((x.links : Nat) : Int), .int .i64 ((x.owner : Nat) : Int), .int .i64 ((x.size : Nat) : Int), .int .i64 ((x.d0 : Nat) : Int), .int .i64 ((x.d1 : Nat) : Int), .int .i64 ((x.d2 : Nat) : Int), .int .i64 ((x.d3 : Nat) : Int), .int .i64 ((x.d4 : Nat) : Int), .int .i64 ((x.d5 : Nat) : Int), .int .i64 ((x.ind : Nat) : Int), .int .i64 ((x.ext : Nat) : Int)] : Array Value).setIfInBounds 11 (.int .i64 i) = #[.slice (some ⟨g, 0, none⟩) L c, .int .i64 L, .int .i64 I, .int .i64 1, .int .i64 2, .int .i64 3, .int .i64 d, .int .i64 n, .int .i64 (((x.setS i).kind : Nat) : Int), .int .i64 (((x.setS i).links : Nat) : Int), .int .i64 (((x.setS i).owner : Nat) : Int), .int .i64 (((x.setS i).size : Nat) : Int), .int .i64 (((x.setS i).d0 : Nat) : Int), .int .i64 (((x.setS i).d1 : Nat) : Int), .int .i64 (((x.setS i).d2 : Nat) : Int), .int .i64 (((x.setS i).d3 : Nat) : Int), .int .i64 (((x.setS i).d4 : Nat) : Int), .int .i64 (((x.setS i).d5 : Nat) : Int), .int .i64 (((x.setS i).ind : Nat) : Int), .int .i64 (((x.setS i).ext : Nat) : Int)] := rfl
theorem FileAt.setS {w : World} {F g c L I d n : Nat} {v : Vol} {x : Ino} (h : FileAt w F g c L I d n v x) (i : Nat) : FileAt (w.setCell ⟨F, 11, none⟩ (.int .i64 i)) F g c L I d n v (x.setS i) := by
  have hb := blk_set h.blk 11 (.int .i64 i)
  rw [fcells_size F] at hb
  exact ⟨hb, h.vol.other (Ne.symm h.ne), h.len, h.ne⟩
set_option maxHeartbeats 8000000 in
theorem write_ok (A : Option Addr) (c : Nat) (v : Vol) (n off : Nat) (t : Blk) (w : World) (hr : RS w A v) (hv : okV v = true) (h1 : 1 ≤ n) (h2 : n ≤ inosV v) (ho : off + t.length ≤ 8960) (ht : t ≠ []) :
    Calls Try.prog 35 #[.slice A v.length c, .int .i64 n, .int .i64 off, .string (mk t)] w (WAns w v n (off + t.length) (wrV t.length v (inoV v n) off t)) := by
  have HP := Lib.hid (fun w hr => open_ok A c v n w hr hv h1 h2)
  have HR := Lib.hid hr
  have hxf := inoV_fit v n
  have HXF := Lib.hid hxf
  have hL := (okV_iff.1 hv).hi
  obtain ⟨x, hX⟩ : ∃ x, inoV v n = x := ⟨_, rfl⟩
  rw [hX] at HP HXF ⊢
  obtain ⟨d, hd⟩ : ∃ d, dataV v = d := ⟨_, rfl⟩
  rw [hd] at HP
  obtain ⟨R, hR⟩ : ∃ R, wrV t.length v x off t = R := ⟨_, rfl⟩
  rw [hR]
  have HRR := Lib.hid hR
  have HV := Lib.hid hv
  have HD := Lib.hid hd
  clear hr hv hxf hR hX hd
  have h0 : (0 : Int) ≤ (off : Int) := by omega
  have hbi : ¬ (8960 : Int) < (off : Int) := by omega
  have hw : IntKind.i64.wrap (8960 - (off : Int)) = 8960 - (off : Int) := by simp [IntKind.wrap, IntKind.bits, IntKind.signed]; omega
  have hlt : ¬ 8960 - (off : Int) < (t.length : Int) := by omega
  have hie : t.isEmpty = false := by
    cases t with
    | nil => exact absurd rfl ht
    | cons _ _ => rfl
  have htl : 0 < t.length := List.length_pos_iff.2 ht
  have hwe : IntKind.i64.wrap ((off : Int) + (t.length : Int)) = (off : Int) + (t.length : Int) := by simp [IntKind.wrap, IntKind.bits, IntKind.signed]; omega
  go_enter Try.func35, Try.ntmps35
  go_wp2_with (go_at_call 51; refine (HP.out _ HR.out).mono ?_; rintro e w1 ⟨F, g, cg, rfl, hf1, hF, hg, hb1⟩; have HF1 := Lib.hid hf1; have HB1 := Lib.hid hb1; clear hf1 hb1)
  have hxs : (inoV v n).size = x.size → True := fun _ => trivial
  go_loopw [13] (fun av wr => ∃ (m : Nat) (v' : Vol) (x' : Ino) (g' cg' a : Nat), off ≤ a ∧ a ≤ off + t.length ∧ av = .int .i64 a ∧ (t.drop (a - off)).length ≤ m ∧ Hid (wrV m v' x' a (t.drop (a - off)) = R ∧ Kept v v' ∧ fitI x') ∧ Hid (FileAt wr F g' cg' v.length (inosV v) d n v' x') ∧ w.heap.size ≤ g' ∧ Hid (Below w.heap.size w wr)) (fun av _ => off + t.length - (intOf av).toNat)
  case atStart => exact ⟨t.length, v, x, g, cg, off, Nat.le_refl _, by omega, rfl, by simp, ⟨by rw [Nat.sub_self, List.drop_zero]; exact HRR.out, .rfl HV.out, HXF.out⟩, HF1, hg, HB1⟩
  case round =>
    obtain ⟨m, v', x', g', cg', a, ha1, ha2, rfl, hm, hW, hf, hgs, hB⟩ := hrel
    by_cases hlt2 : a < off + t.length
    · obtain ⟨k, hk⟩ : ∃ k, a / 128 = k := ⟨_, rfl⟩
      obtain ⟨r, hr⟩ : ∃ r, a % 128 = r := ⟨_, rfl⟩
      have hk70 : k < 70 := by omega
      have hkq : (a : Int) / 128 = (k : Int) := by omega
      have hkr : (a : Int).tmod 128 = (r : Int) := by rw [Int.tmod_eq_emod_of_nonneg (by omega)]; omega
      have hwk : IntKind.i64.wrap (k : Int) = (k : Int) := by simp [IntKind.wrap, IntKind.bits, IntKind.signed]; omega
      have hwr : IntKind.i64.wrap (r : Int) = (r : Int) := by simp [IntKind.wrap, IntKind.bits, IntKind.signed]; omega
      have hai : (a : Int) < (off : Int) + (t.length : Int) := by omega
      have hd' : dataV v' = d := by rw [hW.out.2.1.dat, HD.out]
      obtain ⟨p, hp⟩ : ∃ p, placeV v' x' k = p := ⟨_, rfl⟩
      obtain ⟨s, hs⟩ : ∃ s, t.drop (a - off) = s := ⟨_, rfl⟩
      have hsl : t.length - (a - off) = s.length := by rw [← hs, List.length_drop]
      rw [hs] at hW hm
      have hmk := hW.out.1
      obtain ⟨m1, rfl⟩ : ∃ m1, m = m1 + 1 := ⟨m - 1, by omega⟩
      have hsne : s ≠ [] := fun e => by rw [e] at hsl; simp only [List.length_nil] at hsl; omega
      rw [wrV, if_neg hsne, hk, hr, hp] at hmk
      rcases p with _ | ⟨b, v1, x1⟩
      · have hpl := Lib.hid (xplace_full F g' cg' v.length (inosV v) d n v' x' k wr hf.out hW.out.2.1.ok hd' hk70 hp)
        go_wp2_with (go_at_call 78; refine hpl.out.mono ?_; rintro e w3 ⟨rfl, hb3⟩)
        go_ret2
        try simp only at hmk
        rw [← hmk]
        exact ⟨rfl, hB.out.trans (hb3 _ hF)⟩
      · have hpl := Lib.hid (xplace_ok F g' cg' v.length (inosV v) d n v' x' k b v1 x1 wr hf.out hW.out.2.1.ok hd' hk70 hp)
        obtain ⟨p1, p2, p3, p4, p5⟩ := place_facts hW.out.2.1.ok hW.out.2.2 hp
        try simp only at hmk
        obtain ⟨q, hq⟩ : ∃ q, min s.length (128 - r) = q := ⟨_, rfl⟩
        obtain ⟨pc, hpc⟩ : ∃ pc, s.take q = pc := ⟨_, rfl⟩
        have hpc2 : s.take (128 - r) = pc := by
          rw [← hpc, ← hq]
          rcases Nat.le_total s.length (128 - r) with h | h
          · rw [Nat.min_eq_left h, List.take_of_length_le h, List.take_length]
          · rw [Nat.min_eq_right h]
        have hpl2 : pc.length = q := by rw [← hpc, List.length_take]; omega
        have hr128 : r < 128 := by omega
        have hq1 : 0 < q := by
          have := List.length_pos_iff.2 hsne
          omega
        rw [hpc2, hpl2] at hmk
        have hmn : (min (s.length : Int) (128 - (r : Int))).toNat = q := by omega
        have HM := Lib.hid hmk
        have HP2 := Lib.hid hpc2
        have hv1 := (hW.out.2.1.trans p3)
        have hb1 : b < v1.length := by rw [p3.len]; exact p2
        have hlv1 : v1.length = v.length := hv1.len
        have hbi1 : (b : Int) < (v.length : Nat) := by omega
        have hs1 := (okV_iff.1 hv1.ok).size b hb1
        obtain ⟨B, hBk⟩ : ∃ B, bk v1 b = B := ⟨_, rfl⟩
        rw [hBk] at hs1
        have HBK := Lib.hid hBk
        have HV1 := Lib.hid hv1
        have hmo : min r 128 = r := by omega
        have hc1 : ¬ (9223372036854775807 < r + q) := by omega
        have hc2 : ¬ (9223372036854775807 < r + q + (128 - (r + q))) := by omega
        have hc3 : ¬ ((128 : Int) < (r : Int)) := by omega
        have hc4 : ¬ ((128 : Int) < (r : Int) + (q : Int)) := by omega
        have hc5 : (r : Int) + (q : Int) ≤ 128 := by omega
        have hc6 : (r : Int) ≤ 128 := by omega
        have hww : IntKind.i64.wrap ((r : Int) + (q : Int)) = (r : Int) + (q : Int) := by simp [IntKind.wrap, IntKind.bits, IntKind.signed]; omega
        have hwa : IntKind.i64.wrap ((a : Int) + (q : Int)) = (a : Int) + (q : Int) := by simp [IntKind.wrap, IntKind.bits, IntKind.signed]; omega
        have hw2 : ((r : Int) + (q : Int)).toNat = r + q := by omega
        have hp1 : (0 : Int) ≤ (r : Int) + (q : Int) := by omega
        have htk : List.take (128 - (r + q)) (List.drop (r + q) B) = List.drop (r + q) B := List.take_of_length_le (by simp [hs1])
        clear hmk hpc2 hp hBk hv1 p3
        go_wp2_with (go_at_call 78; refine hpl.out.mono ?_; rintro e w3 ⟨rfl, g3, c3, hf3, hb3⟩; have q0 : w3.cell? ⟨F, 0, none⟩ = some (.slice (some ⟨g3, 0, none⟩) v.length c3) := (by rw [cell_at hf3.blk]; rfl); have q1 : w3.cell? ⟨g3, b, none⟩ = some (.string (mk B)) := (by rw [← HBK.out]; exact hf3.vol.cell b hb1); have q2 := hf3.vol.free b; have HF3 := Lib.hid hf3; have HB3 := Lib.hid hb3; clear hf3 hb3)
        refine region_P (fun w' => w'.cell? ⟨F, 0, none⟩ = some (.slice (some ⟨g3, 0, none⟩) v.length c3)) [18] (by kernel_rfl) ?_ (fun hHeld => ?_)
        · exact q0
        refine wpP_take (i := 0) (oi := ?oi583001) (v := ?v583001) ?hi583001 (by kernel_rfl) (by kernel_rfl) (by kernel_rfl) (by kernel_rfl) ?hQ583001 ?hy583001 (by assumption) ?rest583001
        case hi583001 => (simp only [List.getElem?_toArray, List.getElem?_cons_succ, List.getElem?_cons_zero]; exact rfl)
        case hQ583001 => exact fun _ _ _ h => h
        case hy583001 => (refine Or.inl ⟨by kernel_rfl, ?_⟩; intro w hSw; (try dsimp only at hSw); go_simp; try (with_reducible rfl))
        try simp only [Act.put, List.setIfInBounds_toArray, List.set_cons_zero, List.set_cons_succ]
        refine wpP_take (i := 1) (oi := ?oi583002) (v := ?v583002) ?hi583002 (by kernel_rfl) (by kernel_rfl) (by kernel_rfl) (by kernel_rfl) ?hQ583002 ?hy583002 (by assumption) ?rest583002
        case hi583002 => (simp only [List.getElem?_toArray, List.getElem?_cons_succ, List.getElem?_cons_zero]; exact rfl)
        case hQ583002 => exact fun _ _ _ h => h
        case hy583002 => (refine Or.inl ⟨by kernel_rfl, ?_⟩; intro w hSw; (try dsimp only at hSw); go_simp; try (with_reducible rfl))
        try simp only [Act.put, List.setIfInBounds_toArray, List.set_cons_zero, List.set_cons_succ]
        refine wpP_take (i := 2) (oi := ?oi583003) (v := ?v583003) ?hi583003 (by kernel_rfl) (by kernel_rfl) (by kernel_rfl) (by kernel_rfl) ?hQ583003 ?hy583003 (by assumption) ?rest583003
        case hi583003 => (simp only [List.getElem?_toArray, List.getElem?_cons_succ, List.getElem?_cons_zero]; exact rfl)
        case hQ583003 => exact fun _ _ _ h => h
        case hy583003 => (refine Or.inl ⟨by kernel_rfl, ?_⟩; intro w hSw; (try dsimp only at hSw); go_simp; try (with_reducible rfl))
        try simp only [Act.put, List.setIfInBounds_toArray, List.set_cons_zero, List.set_cons_succ]
        refine wpP_take (i := 3) (oi := ?oi583004) (v := ?v583004) ?hi583004 (by kernel_rfl) (by kernel_rfl) (by kernel_rfl) (by kernel_rfl) ?hQ583004 ?hy583004 (by assumption) ?rest583004
        case hi583004 => (simp only [List.getElem?_toArray, List.getElem?_cons_succ, List.getElem?_cons_zero]; exact rfl)
        case hQ583004 => exact fun _ _ _ h => h
        case hy583004 => (refine Or.inl ⟨by kernel_rfl, ?_⟩; intro w hSw; (try dsimp only at hSw); go_simp; try (with_reducible rfl))
        try simp only [Act.put, List.setIfInBounds_toArray, List.set_cons_zero, List.set_cons_succ]
        refine wpP_take (i := 4) (oi := ?oi583005) (v := ?v583005) ?hi583005 (by kernel_rfl) (by kernel_rfl) (by kernel_rfl) (by kernel_rfl) ?hQ583005 ?hy583005 (by assumption) ?rest583005
        case hi583005 => (simp only [List.getElem?_toArray, List.getElem?_cons_succ, List.getElem?_cons_zero]; exact rfl)
        case hQ583005 => exact fun _ _ _ h => h
        case hy583005 => (refine Or.inl ⟨by kernel_rfl, ?_⟩; intro w hSw; (try dsimp only at hSw); go_simp; try (with_reducible rfl))
        try simp only [Act.put, List.setIfInBounds_toArray, List.set_cons_zero, List.set_cons_succ]
        refine wpP_take (i := 5) (oi := ?oi583006) (v := ?v583006) ?hi583006 (by kernel_rfl) (by kernel_rfl) (by kernel_rfl) (by kernel_rfl) ?hQ583006 ?hy583006 (by assumption) ?rest583006
        case hi583006 => (simp only [List.getElem?_toArray, List.getElem?_cons_succ, List.getElem?_cons_zero]; exact rfl)
        case hQ583006 => exact fun _ _ _ h => h
        case hy583006 => (refine Or.inl ⟨by kernel_rfl, ?_⟩; intro w hSw; (try dsimp only at hSw); go_simp; try (with_reducible rfl))
        try simp only [Act.put, List.setIfInBounds_toArray, List.set_cons_zero, List.set_cons_succ]
        refine wpP_take (i := 6) (oi := ?oi583007) (v := ?v583007) ?hi583007 (by kernel_rfl) (by kernel_rfl) (by kernel_rfl) (by kernel_rfl) ?hQ583007 ?hy583007 (by assumption) ?rest583007
        case hi583007 => (simp only [List.getElem?_toArray, List.getElem?_cons_succ, List.getElem?_cons_zero]; exact rfl)
        case hQ583007 => exact fun _ _ _ h => h
        case hy583007 => (refine Or.inl ⟨by kernel_rfl, ?_⟩; intro w hSw; (try dsimp only at hSw); go_simp; try (with_reducible rfl))
        try simp only [Act.put, List.setIfInBounds_toArray, List.set_cons_zero, List.set_cons_succ]
        refine wpP_take (i := 7) (oi := ?oi583008) (v := ?v583008) ?hi583008 (by kernel_rfl) (by kernel_rfl) (by kernel_rfl) (by kernel_rfl) ?hQ583008 ?hy583008 (by assumption) ?rest583008
        case hi583008 => (simp only [List.getElem?_toArray, List.getElem?_cons_succ, List.getElem?_cons_zero]; exact rfl)
        case hQ583008 => exact fun _ _ _ h => h
        case hy583008 => (refine Or.inl ⟨by kernel_rfl, ?_⟩; intro w hSw; (try dsimp only at hSw); go_simp; try (with_reducible rfl))
        try simp only [Act.put, List.setIfInBounds_toArray, List.set_cons_zero, List.set_cons_succ]
        refine wpP_take (i := 8) (oi := ?oi583009) (v := ?v583009) ?hi583009 (by kernel_rfl) (by kernel_rfl) (by kernel_rfl) (by kernel_rfl) ?hQ583009 ?hy583009 (by assumption) ?rest583009
        case hi583009 => (simp only [List.getElem?_toArray, List.getElem?_cons_succ, List.getElem?_cons_zero]; exact rfl)
        case hQ583009 => exact fun _ _ _ h => h
        case hy583009 => (refine Or.inl ⟨by kernel_rfl, ?_⟩; intro w hSw; (try dsimp only at hSw); go_simp; try (with_reducible rfl))
        try simp only [Act.put, List.setIfInBounds_toArray, List.set_cons_zero, List.set_cons_succ]
        refine wpP_take (i := 9) (oi := ?oi583010) (v := ?v583010) ?hi583010 (by kernel_rfl) (by kernel_rfl) (by kernel_rfl) (by kernel_rfl) ?hQ583010 ?hy583010 (by assumption) ?rest583010
        case hi583010 => (simp only [List.getElem?_toArray, List.getElem?_cons_succ, List.getElem?_cons_zero]; exact rfl)
        case hQ583010 => exact fun _ _ _ h => h
        case hy583010 => (refine Or.inl ⟨by kernel_rfl, ?_⟩; intro w hSw; (try dsimp only at hSw); go_simp; try (with_reducible rfl))
        try simp only [Act.put, List.setIfInBounds_toArray, List.set_cons_zero, List.set_cons_succ]
        refine wpP_take (i := 10) (oi := ?oi583011) (v := ?v583011) ?hi583011 (by kernel_rfl) (by kernel_rfl) (by kernel_rfl) (by kernel_rfl) ?hQ583011 ?hy583011 (by assumption) ?rest583011
        case hi583011 => (simp only [List.getElem?_toArray, List.getElem?_cons_succ, List.getElem?_cons_zero]; exact rfl)
        case hQ583011 => exact fun _ _ _ h => h
        case hy583011 => (refine Or.inl ⟨by kernel_rfl, ?_⟩; intro w hSw; (try dsimp only at hSw); go_simp; try (with_reducible rfl))
        try simp only [Act.put, List.setIfInBounds_toArray, List.set_cons_zero, List.set_cons_succ]
        refine wpP_take (i := 11) (oi := ?oi583012) (v := ?v583012) ?hi583012 (by kernel_rfl) (by kernel_rfl) (by kernel_rfl) (by kernel_rfl) ?hQ583012 ?hy583012 (by assumption) ?rest583012
        case hi583012 => (simp only [List.getElem?_toArray, List.getElem?_cons_succ, List.getElem?_cons_zero]; exact rfl)
        case hQ583012 => exact fun _ _ _ h => h
        case hy583012 => (refine Or.inl ⟨by kernel_rfl, ?_⟩; intro w hSw; (try dsimp only at hSw); go_simp; try (with_reducible rfl))
        try simp only [Act.put, List.setIfInBounds_toArray, List.set_cons_zero, List.set_cons_succ]
        refine wpP_take (i := 12) (oi := ?oi583013) (v := ?v583013) ?hi583013 (by kernel_rfl) (by kernel_rfl) (by kernel_rfl) (by kernel_rfl) ?hQ583013 ?hy583013 (by assumption) ?rest583013
        case hi583013 => (simp only [List.getElem?_toArray, List.getElem?_cons_succ, List.getElem?_cons_zero]; exact rfl)
        case hQ583013 => exact fun _ _ _ h => h
        case hy583013 => (refine Or.inl ⟨by kernel_rfl, ?_⟩; intro w hSw; (try dsimp only at hSw); go_simp; try (with_reducible rfl))
        try simp only [Act.put, List.setIfInBounds_toArray, List.set_cons_zero, List.set_cons_succ]
        refine wpP_take (i := 13) (oi := ?oi583014) (v := ?v583014) ?hi583014 (by kernel_rfl) (by kernel_rfl) (by kernel_rfl) (by kernel_rfl) ?hQ583014 ?hy583014 (by assumption) ?rest583014
        case hi583014 => (simp only [List.getElem?_toArray, List.getElem?_cons_succ, List.getElem?_cons_zero]; exact rfl)
        case hQ583014 => exact fun _ _ _ h => h
        case hy583014 => (refine Or.inl ⟨by kernel_rfl, ?_⟩; intro w hSw; (try dsimp only at hSw); go_simp; try (with_reducible rfl))
        try simp only [Act.put, List.setIfInBounds_toArray, List.set_cons_zero, List.set_cons_succ]
        refine wpP_take (i := 14) (oi := ?oi583015) (v := ?v583015) ?hi583015 (by kernel_rfl) (by kernel_rfl) (by kernel_rfl) (by kernel_rfl) ?hQ583015 ?hy583015 (by assumption) ?rest583015
        case hi583015 => (simp only [List.getElem?_toArray, List.getElem?_cons_succ, List.getElem?_cons_zero]; exact rfl)
        case hQ583015 => exact fun _ _ _ h => h
        case hy583015 => (refine Or.inl ⟨by kernel_rfl, ?_⟩; intro w hSw; (try dsimp only at hSw); go_simp; try (with_reducible rfl))
        try simp only [Act.put, List.setIfInBounds_toArray, List.set_cons_zero, List.set_cons_succ]
        refine wpP_take (i := 15) (oi := ?oi583016) (v := ?v583016) ?hi583016 (by kernel_rfl) (by kernel_rfl) (by kernel_rfl) (by kernel_rfl) ?hQ583016 ?hy583016 (by assumption) ?rest583016
        case hi583016 => (simp only [List.getElem?_toArray, List.getElem?_cons_succ, List.getElem?_cons_zero]; exact rfl)
        case hQ583016 => exact fun _ _ _ h => h
        case hy583016 => (refine Or.inl ⟨by kernel_rfl, ?_⟩; intro w hSw; (try dsimp only at hSw); go_simp; try (with_reducible rfl))
        try simp only [Act.put, List.setIfInBounds_toArray, List.set_cons_zero, List.set_cons_succ]
        refine wpP_take (i := 16) (oi := ?oi583017) (v := ?v583017) ?hi583017 (by kernel_rfl) (by kernel_rfl) (by kernel_rfl) (by kernel_rfl) ?hQ583017 ?hy583017 (by assumption) ?rest583017
        case hi583017 => (simp only [List.getElem?_toArray, List.getElem?_cons_succ, List.getElem?_cons_zero]; exact rfl)
        case hQ583017 => exact fun _ _ _ h => h
        case hy583017 => (refine Or.inl ⟨by kernel_rfl, ?_⟩; intro w hSw; (try dsimp only at hSw); go_simp; try (with_reducible rfl))
        try simp only [Act.put, List.setIfInBounds_toArray, List.set_cons_zero, List.set_cons_succ]
        refine wpP_take (i := 17) (oi := ?oi583018) (v := ?v583018) ?hi583018 (by kernel_rfl) (by kernel_rfl) (by kernel_rfl) (by kernel_rfl) ?hQ583018 ?hy583018 (by assumption) ?rest583018
        case hi583018 => (simp only [List.getElem?_toArray, List.getElem?_cons_succ, List.getElem?_cons_zero]; exact rfl)
        case hQ583018 => exact fun _ _ _ h => h
        case hy583018 => (refine Or.inl ⟨by kernel_rfl, ?_⟩; intro w hSw; (try dsimp only at hSw); go_simp; try (with_reducible rfl))
        try simp only [Act.put, List.setIfInBounds_toArray, List.set_cons_zero, List.set_cons_succ]
        refine wpP_ready (rs := [18]) (by kernel_rfl) (by simp) ?_
        refine AllP.last (o := ?o583019) ?ho583019 (by kernel_rfl) (fun K hK => ?_) AllP.nil
        case ho583019 => (simp only [List.getElem?_toArray, List.getElem?_cons_succ, List.getElem?_cons_zero]; exact rfl)
        go_simp
        refine hK.out _ _ ?_
        clear hK K
        try simp only [Act.put, List.setIfInBounds_toArray, List.set_cons_zero, List.set_cons_succ]
        refine wpP_done (by kernel_rfl) ?_ _
        go_wp2
        have hov : B.take r ++ (pc ++ B.drop (r + q)) = over (bk v1 b) r pc := by rw [HBK.out, over, hpl2, List.append_assoc]
        have hol : (over (bk v1 b) r pc).length = 128 := by rw [over_length _ _ _ (by rw [HBK.out, hpl2]; omega), HBK.out, hs1]
        rw [hov]
        have hgs3 := (HB3.out _ hF hgs)
        refine ⟨⟨m1, v1.set b (over (bk v1 b) r pc), x1, g3, c3, a + q, by omega, by omega, by go_num, by rw [List.length_drop]; omega, ⟨?_, HV1.out.trans (kept_set HV1.out.ok (by have := dataV_pos v'; omega) hol), p4⟩, ⟨blk_set_other HF3.out.blk HF3.out.ne _ _, HF3.out.vol.set b _ hb1, by rw [List.length_set]; exact hlv1, HF3.out.ne⟩, hgs3.1, Lib.hid (below_set (hB.out.trans hgs3.2) hgs3.1).drew⟩, by simp only [intOf]; omega⟩
        rw [show a + q - off = (a - off) + q from by omega, ← List.drop_drop, hs]
        exact HM.out
    · obtain rfl : a = off + t.length := by omega
      have hsnil : t.drop (off + t.length - off) = [] := by rw [show off + t.length - off = t.length from by omega, List.drop_length]
      have hW1 := hW.out.1
      rw [hsnil, wrV_nil] at hW1
      have hk := hW.out.2.1
      have hfit := hW.out.2.2
      have hsz := (fitI_iff.1 hfit).2.2.2.1
      have HF := hf
      have hlen := HF.out.len
      subst hW1
      obtain ⟨z, hz⟩ : ∃ z, min x'.size 8960 = z := ⟨_, rfl⟩
      by_cases hlz : z < off + t.length
      · have hlzi : (z : Int) < (off : Int) + (t.length : Int) := by omega
        have hcl := Lib.hid (fun w hf => close_ok F g' cg' v.length (inosV v) d n v' (x'.setS (off + t.length)) w hf hk.ok h1 (by rw [hk.ino]; exact h2) (setS_fit hfit (by omega)))
        have e1 : (if min x'.size 8960 < off + t.length then x'.setS (off + t.length) else x') = x'.setS (off + t.length) := if_pos (by omega)
        have q11 : wr.cell? ⟨F, 11, none⟩ = some (.int .i64 x'.size) := by rw [cell_at HF.out.blk]; rfl
        have hfr := free_of HF.out.blk 11
        have hf4 : Hid (FileAt (wr.setCell ⟨F, 11, none⟩ (.int .i64 ((off : Int) + (t.length : Int)))) F g' cg' v.length (inosV v) d n v' (x'.setS (off + t.length))) := Lib.hid (by rw [← Int.natCast_add]; exact HF.out.setS _)
        go_wp2_with (first
          | (go_at_call 54; refine (size_ok _ _ _ _ _ _ _ _ _ _ HF.out hsz).mono ?_; rw [hz]; rintro e w2 ⟨rfl, rfl⟩)
          | (go_at_call 79; refine (hcl.out _ hf4.out).mono ?_; rintro e w3 ⟨g4, c4, rfl, hg4, hgs4, hb4⟩))
        go_ret2
        have s1 := hB.out.size
        have s2 : (wr.setCell ⟨F, 11, none⟩ (.int .i64 ((off : Int) + (t.length : Int)))).heap.size = wr.heap.size := by simp
        refine ⟨g4, c4, rfl, by rw [hz, if_pos hlz]; exact hg4, by omega, ?_⟩
        exact below_keep (below_set hB.out hF) (by omega) hb4
      · have hlzi : ¬ (z : Int) < (off : Int) + (t.length : Int) := by omega
        have hcl := Lib.hid (fun w hf => close_ok F g' cg' v.length (inosV v) d n v' x' w hf hk.ok h1 (by rw [hk.ino]; exact h2) hfit)
        go_wp2_with (first
          | (go_at_call 54; refine (size_ok _ _ _ _ _ _ _ _ _ _ HF.out hsz).mono ?_; rw [hz]; rintro e w2 ⟨rfl, rfl⟩)
          | (go_at_call 79; refine (hcl.out _ HF.out).mono ?_; rintro e w3 ⟨g4, c4, rfl, hg4, hgs4, hb4⟩))
        go_ret2
        have s1 := hB.out.size
        exact ⟨g4, c4, rfl, by rw [hz, if_neg hlz]; exact hg4, by omega, below_keep hB.out (by omega) hb4⟩
end Go.Proofs.Ytacdohlhalnioaa
