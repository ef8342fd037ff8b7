/- Contract: a volume without anything (the program's). -/
import Derived.Test.YtacdohlhalnioaaG3
set_option linter.unusedVariables false
set_option maxRecDepth 20000
namespace Go.Proofs.Ytacdohlhalnioaa
open Go.RowKit
attribute [local go_sem] Oper.semAt_some

def turns (d : Nat) : Blk := (List.range d).foldl turn (zs 128)
theorem turns_succ (d : Nat) : turns (d + 1) = turn (turns d) d := by simp [turns, List.range_succ]
@[simp] theorem turns_length (d : Nat) : (turns d).length = 128 := by
  induction d with
  | zero => simp [turns]
  | succ d ih => rw [turns_succ, turn_length, ih]
theorem set_bk (v : Vol) (i : Nat) (h : i < v.length) : v.set i (bk v i) = v := by rw [← bk_get v i h]; exact List.set_getElem_self h
/-- A fresh volume. -/
def fmtV (b i : Nat) : Vol := ((List.replicate b (zs 128)).set 0 (firstB b i)).set 2 (turns (3 + (i + 1) / 2))
def fill (n k : Nat) : Vol := List.replicate k (zs 128) ++ List.replicate (n - k) []
theorem fill_length (n k : Nat) (h : k ≤ n) : (fill n k).length = n := by simp [fill]; omega
theorem fill_set (n k : Nat) (h : k < n) : (fill n k).set k (zs 128) = fill n (k + 1) := by
  have e : n - k = n - (k + 1) + 1 := by omega
  rw [fill, fill, List.set_append_right _ _ (by simp), e, List.replicate_succ, List.length_replicate, Nat.sub_self, List.set_cons_zero, List.replicate_succ', List.append_assoc]
  rfl
theorem fill_all (n : Nat) : fill n n = List.replicate n (zs 128) := by simp [fill]

set_option maxHeartbeats 4000000 in
theorem format_ok (b i : Nat) (w : World) (h : planE b i = 0) :
    Calls Try.prog 48 #[.int .i64 b, .int .i64 i] w fun e w' => ∃ g, e = .returned (.tuple #[.slice (some ⟨g, 0, none⟩) b b, .int .i64 0]) ∧ VS w' g (fmtV b i) ∧ w.heap.size ≤ g ∧ Below w.heap.size w w' := by
  obtain ⟨h1, h2, h3, h4, h5⟩ := planE_ok h
  have hmk := mk_strs b (by omega)
  obtain ⟨d, hd⟩ : ∃ d, 3 + (i + 1) / 2 = d := ⟨_, rfl⟩
  have hdd : (3 + ((i : Nat) + 1 : Int) / 2) = (d : Int) := by omega
  have hf : fmtV b i = ((List.replicate b (zs 128)).set 0 (firstB b i)).set 2 (turns d) := by rw [fmtV, hd]
  have hd1 : d < b := by omega
  rw [hf]
  have HP := Lib.hid h
  clear h hf hd
  go_enter Try.func48, Try.ntmps48
  go_wp2_with (go_at_call 90; refine (plan_ok b i _ (by omega) (by omega) HP.out).mono ?_; rw [hdd]; rintro e w1 ⟨rfl, hb1⟩)
  obtain ⟨G, hG⟩ : ∃ G, Obj.cells #[.int .i64 (b : Int), .int .i64 (i : Int), .int .i64 1, .int .i64 2, .int .i64 3, .int .i64 (d : Int)] 66 = G := ⟨_, rfl⟩
  have hv0 : VS ((w1.alloc G).alloc (.cells (strs (List.replicate b [])).toArray 9)) (w1.heap.size + 1) (fill b 0) :=
    ⟨_, heap_alloc_at _ _ _ (by simp), fun j hj => by rw [List.getElem?_toArray]; exact strs_get (List.replicate b []) j (by simpa [fill] using hj)⟩
  have hg0 : ((w1.alloc G).alloc (.cells (strs (List.replicate b [])).toArray 9)).heap[w1.heap.size]? = some G := heap_alloc_lt _ _ _ _ (blk_new w1 G)
  have hB0 : Below w.heap.size w ((w1.alloc G).alloc (.cells (strs (List.replicate b [])).toArray 9)) := (hb1.alloc hb1.size _).alloc (by have := hb1.size; simp; omega) _
  rw [hG]
  generalize (w1.alloc G).alloc (.cells (strs (List.replicate b [])).toArray 9) = W0 at *
  have hsz := hb1.size
  generalize w1.heap.size = gg at *
  have HMK := Lib.hid hmk
  clear hb1 hmk
  have HV0 := Lib.hid hv0
  have HG0 := Lib.hid hg0
  have HB0 := Lib.hid hB0
  clear hv0 hg0 hB0
  go_loopw [9, 24] (fun _ iv wr => ∃ k : Nat, k ≤ b ∧ iv = .int .i64 k ∧ Hid (VS wr (gg + 1) (fill b k)) ∧ Hid (wr.heap[gg]? = some G) ∧ Below w.heap.size w wr) (fun _ iv _ => b - (intOf iv).toNat)
  case atStart => exact ⟨0, Nat.zero_le _, rfl, HV0, HG0, HB0.out⟩
  case round =>
    obtain ⟨k, hk, rfl, hv, hg, hB⟩ := hrel
    by_cases hlt : k < b
    · have hlf := fill_length b k hk
      go_wp2_with (go_at_call 91; refine (zeros_ok _).mono ?_; rintro e w2 ⟨rfl, hb2⟩; have hv2 := hv.out.keep hb2; have c1 := hv2.cell k (by rw [hlf]; exact hlt); have f1 := hv2.free k; have HV2 := Lib.hid hv2; clear hv2)
      refine ⟨⟨k + 1, by omega, by go_num, ?_, ?_, ?_⟩, by simp only [intOf]; omega⟩
      · show VS _ _ _
        rw [← fill_set b k hlt]
        exact HV2.out.set k _ (by rw [hlf]; exact hlt)
      · exact blk_set_other (blk_keep hg.out hb2) (by omega) _ _
      · exact below_set (below_keep hB (Nat.le_refl _) hb2) (by omega)
    · obtain rfl : k = b := by omega
      have hgc := hg.out
      rw [← hG] at hgc
      obtain ⟨g0, g1, g2, g3, g4, g5⟩ := cells6 hgc
      have hlf := fill_length k k hk
      clear hgc
      go_wp2_with (go_at_call 92; refine (first_ok _ _ _ _ _ _ _ (by omega) (by omega)).mono ?_; rintro e w2 ⟨rfl, hb2⟩; have hv2 := hv.out.keep hb2; have c1 := hv2.cell 0 (by rw [hlf]; omega); have f1 := hv2.free 0; have e5 := cell_keep g5 hb2; have e3 := cell_keep g3 hb2; have HG2 := Lib.hid (blk_keep hg.out hb2); have HB2 := Lib.hid (below_keep hB (Nat.le_refl _) hb2); have HV2 := Lib.hid hv2; clear hv2 hb2 g0 g1 g2 g3 g4 g5)
      have hv3 := HV2.out.set 0 (firstB k i) (by rw [hlf]; omega)
      have hg3 := blk_set_other (i := 0) (u := .string (mk (firstB k i))) HG2.out (show gg ≠ gg + 1 by omega)
      have hB3 := below_set (i := 0) (u := .string (mk (firstB k i))) HB2.out (show w.heap.size ≤ gg + 1 by omega)
      rw [fill_all] at hv3
      have hL : ((List.replicate k (zs 128)).set 0 (firstB k i)).length = k := by simp
      have hbk2 : bk ((List.replicate k (zs 128)).set 0 (firstB k i)) 2 = turns 0 := by
        rw [bk_set_other _ _ _ _ (by omega)]
        simp [bk, List.getD_eq_getElem?_getD, List.getElem?_replicate, show 2 < k from by omega, turns]
      obtain ⟨v0, hve⟩ : ∃ v0, (List.replicate k (zs 128)).set 0 (firstB k i) = v0 := ⟨_, rfl⟩
      rw [hve] at hv3 hL hbk2
      have HE := Lib.hid hve
      clear hve
      have hv00 : v0.set 2 (turns 0) = v0 := by rw [← hbk2]; exact set_bk v0 2 (by omega)
      rw [← hv00] at hv3
      clear hbk2 hv00
      have HV3 := Lib.hid hv3
      have HG3 := Lib.hid hg3
      have HB3 := Lib.hid hB3
      clear hv3 hg3 hB3
      go_loopw [10, 38] (fun _ iv wr => ∃ j : Nat, j ≤ d ∧ iv = .int .i64 j ∧ Hid (VS wr (gg + 1) (v0.set 2 (turns j))) ∧ Hid (wr.heap[gg]? = some G) ∧ Hid (Below w.heap.size w wr)) (fun _ iv _ => d - (intOf iv).toNat)
      case atStart => exact ⟨0, Nat.zero_le _, rfl, HV3, HG3, HB3⟩
      case round =>
        obtain ⟨j, hj, rfl, hv', hg', hB'⟩ := hrel
        by_cases hlt2 : j < d
        · have hLs : (v0.set 2 (turns j)).length = k := by rw [List.length_set]; exact hL
          have ht : bk (v0.set 2 (turns j)) 2 = turns j := bk_set_same _ _ _ (by omega)
          have hgc := hg'.out
          rw [← hG] at hgc
          obtain ⟨g0, g1, g2, g3, g4, g5⟩ := cells6 hgc
          have c2 := hv'.out.cell 2 (by omega)
          rw [ht] at c2
          have i2 : (2 : Int) < (k : Nat) := by omega
          have f2 := hv'.out.free 2
          have HT := Lib.hid ht
          clear hgc g0 g1 g2 g4 g5 ht
          go_wp2
          refine region_P (fun w' => w'.cell? ⟨gg, 3, none⟩ = some (.int .i64 2) ∧ w'.cell? ⟨gg + 1, 2, none⟩ = some (.string (mk (turns j)))) [11] (by kernel_rfl) ?_ (fun hHeld => ?_)
          · exact ⟨g3, c2⟩
          refine wpP_take (i := 0) (oi := ?oi474001) (v := ?v474001) ?hi474001 (by kernel_rfl) (by kernel_rfl) (by kernel_rfl) (by kernel_rfl) ?hQ474001 ?hy474001 (by assumption) ?rest474001
          case hi474001 => (simp only [List.getElem?_toArray, List.getElem?_cons_succ, List.getElem?_cons_zero]; exact rfl)
          case hQ474001 => exact fun _ _ _ h => h
          case hy474001 => (refine Or.inl ⟨by kernel_rfl, ?_⟩; intro w hSw; (try dsimp only at hSw); go_simp; try (with_reducible rfl))
          try simp only [Act.put, List.setIfInBounds_toArray, List.set_cons_zero, List.set_cons_succ]
          refine wpP_take (i := 1) (oi := ?oi474002) (v := ?v474002) ?hi474002 (by kernel_rfl) (by kernel_rfl) (by kernel_rfl) (by kernel_rfl) ?hQ474002 ?hy474002 (by assumption) ?rest474002
          case hi474002 => (simp only [List.getElem?_toArray, List.getElem?_cons_succ, List.getElem?_cons_zero]; exact rfl)
          case hQ474002 => exact fun _ _ _ h => h
          case hy474002 => (refine Or.inl ⟨by kernel_rfl, ?_⟩; intro w hSw; (try dsimp only at hSw); go_simp; try (with_reducible rfl))
          try simp only [Act.put, List.setIfInBounds_toArray, List.set_cons_zero, List.set_cons_succ]
          refine wpP_take (i := 2) (oi := ?oi474003) (v := ?v474003) ?hi474003 (by kernel_rfl) (by kernel_rfl) (by kernel_rfl) (by kernel_rfl) ?hQ474003 ?hy474003 (by assumption) ?rest474003
          case hi474003 => (simp only [List.getElem?_toArray, List.getElem?_cons_succ, List.getElem?_cons_zero]; exact rfl)
          case hQ474003 => exact fun _ _ _ h => h
          case hy474003 => (refine Or.inl ⟨by kernel_rfl, ?_⟩; intro w hSw; (try dsimp only at hSw); go_simp; try (with_reducible rfl))
          try simp only [Act.put, List.setIfInBounds_toArray, List.set_cons_zero, List.set_cons_succ]
          refine wpP_take (i := 3) (oi := ?oi474004) (v := ?v474004) ?hi474004 (by kernel_rfl) (by kernel_rfl) (by kernel_rfl) (by kernel_rfl) ?hQ474004 ?hy474004 (by assumption) ?rest474004
          case hi474004 => (simp only [List.getElem?_toArray, List.getElem?_cons_succ, List.getElem?_cons_zero]; exact rfl)
          case hQ474004 => exact fun _ _ _ h => h
          case hy474004 => (refine Or.inl ⟨by kernel_rfl, ?_⟩; intro w hSw; (try dsimp only at hSw); go_simp; try (with_reducible rfl))
          try simp only [Act.put, List.setIfInBounds_toArray, List.set_cons_zero, List.set_cons_succ]
          refine wpP_take (i := 4) (oi := ?oi474005) (v := ?v474005) ?hi474005 (by kernel_rfl) (by kernel_rfl) (by kernel_rfl) (by kernel_rfl) ?hQ474005 ?hy474005 (by assumption) ?rest474005
          case hi474005 => (simp only [List.getElem?_toArray, List.getElem?_cons_succ, List.getElem?_cons_zero]; exact rfl)
          case hQ474005 => exact fun _ _ _ h => h
          case hy474005 => (refine Or.inl ⟨by kernel_rfl, ?_⟩; intro w hSw; (try dsimp only at hSw); go_simp; try (with_reducible rfl))
          try simp only [Act.put, List.setIfInBounds_toArray, List.set_cons_zero, List.set_cons_succ]
          refine wpP_take (i := 5) (oi := ?oi474006) (v := ?v474006) ?hi474006 (by kernel_rfl) (by kernel_rfl) (by kernel_rfl) (by kernel_rfl) ?hQ474006 ?hy474006 (by assumption) ?rest474006
          case hi474006 => (simp only [List.getElem?_toArray, List.getElem?_cons_succ, List.getElem?_cons_zero]; exact rfl)
          case hQ474006 => exact fun _ _ _ h => h
          case hy474006 => (refine Or.inl ⟨by kernel_rfl, ?_⟩; intro w hSw; (try dsimp only at hSw); go_simp; try (with_reducible rfl))
          try simp only [Act.put, List.setIfInBounds_toArray, List.set_cons_zero, List.set_cons_succ]
          refine wpP_take (i := 6) (oi := ?oi474007) (v := ?v474007) ?hi474007 (by kernel_rfl) (by kernel_rfl) (by kernel_rfl) (by kernel_rfl) ?hQ474007 ?hy474007 (by assumption) ?rest474007
          case hi474007 => (simp only [List.getElem?_toArray, List.getElem?_cons_succ, List.getElem?_cons_zero]; exact rfl)
          case hQ474007 => exact fun _ _ _ h => h
          case hy474007 => (refine Or.inl ⟨by kernel_rfl, ?_⟩; intro w hSw; (try dsimp only at hSw); go_simp; try (with_reducible rfl))
          try simp only [Act.put, List.setIfInBounds_toArray, List.set_cons_zero, List.set_cons_succ]
          refine wpP_take (i := 7) (oi := ?oi474008) (v := ?v474008) ?hi474008 (by kernel_rfl) (by kernel_rfl) (by kernel_rfl) (by kernel_rfl) ?hQ474008 ?hy474008 (by assumption) ?rest474008
          case hi474008 => (simp only [List.getElem?_toArray, List.getElem?_cons_succ, List.getElem?_cons_zero]; exact rfl)
          case hQ474008 => exact fun _ _ _ h => h
          case hy474008 => (refine Or.inl ⟨by kernel_rfl, ?_⟩; intro w hSw; (try dsimp only at hSw); go_simp; try (with_reducible rfl))
          try simp only [Act.put, List.setIfInBounds_toArray, List.set_cons_zero, List.set_cons_succ]
          refine wpP_take (i := 8) (oi := ?oi474009) (v := ?v474009) ?hi474009 (by kernel_rfl) (by kernel_rfl) (by kernel_rfl) (by kernel_rfl) ?hQ474009 ?hy474009 (by assumption) ?rest474009
          case hi474009 => (simp only [List.getElem?_toArray, List.getElem?_cons_succ, List.getElem?_cons_zero]; exact rfl)
          case hQ474009 => exact fun _ _ _ h => h
          case hy474009 => (refine Or.inl ⟨by kernel_rfl, ?_⟩; intro w hSw; (try dsimp only at hSw); go_simp; try (with_reducible rfl))
          try simp only [Act.put, List.setIfInBounds_toArray, List.set_cons_zero, List.set_cons_succ]
          refine wpP_ready (rs := [9]) (by kernel_rfl) (by simp) ?_
          refine AllP.cons (o := ?o474010) ?ho474010 (fun K hK => ?_) AllP.nil
          case ho474010 => (simp only [List.getElem?_toArray, List.getElem?_cons_succ, List.getElem?_cons_zero]; exact rfl)
          go_simp
          go_at_call 93
          refine (turn_ok _ _ _ (by simp) (by omega)).mono ?_
          rintro e w4 ⟨rfl, k1⟩
          have hv4 := hv'.out.keep (below_und k1)
          have f4 := hv4.free 2
          refine hK.out _ _ ?_ (fun hHeld => ?_)
          · exact ⟨cell_keep hHeld.1 k1, cell_keep hHeld.2 k1⟩
          clear hK K
          try simp only [Act.put, List.setIfInBounds_toArray, List.set_cons_zero, List.set_cons_succ]
          refine wpP_take (i := 10) (oi := ?oi474011) (v := ?v474011) ?hi474011 (by kernel_rfl) (by kernel_rfl) (by kernel_rfl) (by kernel_rfl) ?hQ474011 ?hy474011 (by assumption) ?rest474011
          case hi474011 => (simp only [List.getElem?_toArray, List.getElem?_cons_succ, List.getElem?_cons_zero]; exact rfl)
          case hQ474011 => exact fun _ _ _ h => h
          case hy474011 => (refine Or.inl ⟨by kernel_rfl, ?_⟩; intro w hSw; (try dsimp only at hSw); go_simp; try (with_reducible rfl))
          try simp only [Act.put, List.setIfInBounds_toArray, List.set_cons_zero, List.set_cons_succ]
          refine wpP_ready (rs := [11]) (by kernel_rfl) (by simp) ?_
          refine AllP.last (o := ?o474012) ?ho474012 (by kernel_rfl) (fun K hK => ?_) AllP.nil
          case ho474012 => (simp only [List.getElem?_toArray, List.getElem?_cons_succ, List.getElem?_cons_zero]; exact rfl)
          go_simp
          refine hK.out _ _ ?_
          clear hK K
          try simp only [Act.put, List.setIfInBounds_toArray, List.set_cons_zero, List.set_cons_succ]
          refine wpP_done (by kernel_rfl) ?_ _
          go_wp2
          refine ⟨⟨j + 1, by omega, by go_num, ?_, ?_, ?_⟩, by simp only [intOf]; omega⟩
          · have := hv4.set 2 (turns (j + 1)) (by omega)
            rw [List.set_set] at this
            rw [← turns_succ]
            exact this
          · exact blk_set_other (blk_keep hg'.out (below_und k1)) (by omega) _ _
          · exact below_set (below_keep hB'.out (Nat.le_refl _) (below_und k1)) (by omega)
        · obtain rfl : j = d := by omega
          go_wp2
          go_ret2
          exact ⟨_, rfl, (by rw [HE.out]; exact hv'.out), by omega, hB'.out⟩
end Go.Proofs.Ytacdohlhalnioaa
