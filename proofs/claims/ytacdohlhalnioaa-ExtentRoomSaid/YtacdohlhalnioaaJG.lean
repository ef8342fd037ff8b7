/- Joined: XP2 XW7 XW8 XW9. -/
import Derived.Test.YtacdohlhalnioaaJ7
import Derived.Test.YtacdohlhalnioaaJ5
/- The pure law: blocks that are given back, a file that is cut. -/
section
set_option linter.unusedVariables false
set_option linter.unusedSimpArgs false
set_option maxRecDepth 20000
namespace Go.Proofs.Ytacdohlhalnioaa
open Go.RowKit

theorem kept_turn {v : Vol} (hv : okV v = true) {i : Nat} (h1 : dataV v ≤ i) (h2 : i < v.length) : Kept v (v.set 2 (turn (bk v 2) i)) := by
  have H := okV_iff.1 hv
  have hd := dataV_pos v
  have hlo := H.lo
  have hhi := H.hi
  have h128 := H.size 2 (by omega)
  have e0 : bk (v.set 2 (turn (bk v 2) i)) 0 = bk v 0 := bk_set_other _ _ _ _ (by omega)
  have e2 : bk (v.set 2 (turn (bk v 2) i)) 2 = turn (bk v 2) i := bk_set_same _ _ _ (by omega)
  have ei : inosV (v.set 2 (turn (bk v 2) i)) = inosV v := by rw [inosV, e0, inosV]
  have ed : dataV (v.set 2 (turn (bk v 2) i)) = dataV v := by rw [dataV, ei, dataV]
  have el : (v.set 2 (turn (bk v 2) i)).length = v.length := by simp
  refine ⟨okV_iff.2 ⟨fun j hj => ?_, ?_, ?_, ?_, ?_, ?_, ?_, ?_⟩, el, ei, ed⟩
  · by_cases h : 2 = j
    · subst h; rw [e2]; simpa using h128
    · rw [bk_set_other _ _ _ _ h]; exact H.size j (by simpa using hj)
  · rw [el]; exact H.lo
  · rw [el]; exact H.hi
  · rw [ei]; exact H.ilo
  · rw [ei]; exact H.ihi
  · rw [el, ei]; exact H.data
  · rw [e0, el, ei]; exact H.head
  · rw [e2, ed, el, okmap_iff]
    intro j hj
    obtain ⟨m1, m2⟩ := (okmap_iff.1 H.map) j hj
    rw [bit_turn _ _ _ h128 (by omega)]
    refine ⟨fun h => ?_, fun h => ?_⟩
    · rw [if_neg (by omega)]; exact m1 h
    · rw [if_neg (by omega)]; exact m2 h
/-- The volume where a block of the data is given back, if it is taken. -/
def giveV (v : Vol) (b : Nat) : Vol := if bit (bk v 2) b = true then v.set 2 (turn (bk v 2) b) else v
theorem kept_giveV {v : Vol} (hv : okV v = true) {b : Nat} (h1 : dataV v ≤ b) (h2 : b < v.length) : Kept v (giveV v b) := by
  unfold giveV
  split
  · exact kept_turn hv h1 h2
  · exact .rfl hv
/-- The k-th block goes. -/
def dropG (d : Nat) (v : Vol) (x : Ino) (k : Nat) : Vol := if atN d v.length v x k = 0 then v else giveV v (atN d v.length v x k)
def dropV (v : Vol) (x : Ino) (k : Nat) : Vol × Ino := (nameV (dataV v) (dropG (dataV v) v x k) x k 0, nameX x k 0)
theorem kept_dropG {v : Vol} (hv : okV v = true) (x : Ino) (k : Nat) : Kept v (dropG (dataV v) v x k) := by
  unfold dropG
  split
  · exact .rfl hv
  · rename_i h
    obtain ⟨h1, h2⟩ := atN_lt' h
    exact kept_giveV hv h1 h2
theorem kept_dropV {v : Vol} (hv : okV v = true) (x : Ino) (k : Nat) : Kept v (dropV v x k).1 := by
  have h := kept_dropG hv x k
  exact h.trans (kept_nameV h.ok h.dat.symm)
theorem fit_dropV {v : Vol} {x : Ino} (hx : fitI x) (k : Nat) : fitI (dropV v x k).2 ∧ (dropV v x k).2.size = x.size := ⟨nameX_fit hx (by omega), nameX_size _ _ _⟩
/-- All blocks from the k-th on go: m of them. -/
def dropTo : Nat → Vol → Ino → Nat → Vol × Ino
  | 0, v, x, _ => (v, x)
  | m + 1, v, x, k => dropTo m (dropV v x k).1 (dropV v x k).2 (k + 1)
theorem kept_dropTo (m : Nat) : ∀ {v : Vol} {x : Ino} (k : Nat), okV v = true → fitI x → Kept v (dropTo m v x k).1 ∧ fitI (dropTo m v x k).2 ∧ (dropTo m v x k).2.size = x.size := by
  induction m with
  | zero => intro v x k hv hx; exact ⟨.rfl hv, hx, rfl⟩
  | succ m ih =>
    intro v x k hv hx
    have h1 := kept_dropV hv x k
    have h2 := fit_dropV (v := v) hx k
    obtain ⟨a, b, c⟩ := ih (k + 1) h1.ok h2.1
    exact ⟨h1.trans a, b, c.trans h2.2⟩
/-- The block of the numbers goes, where it isn't needed any more. -/
def farV (v : Vol) (x : Ino) (s : Nat) : Vol × Ino := if s ≤ 768 then ((if goodN (dataV v) v.length x.ind = true then giveV v x.ind else v), x.setI 0) else (v, x)
theorem kept_farV {v : Vol} {x : Ino} (s : Nat) (hv : okV v = true) (hx : fitI x) : Kept v (farV v x s).1 ∧ fitI (farV v x s).2 ∧ (farV v x s).2.size = x.size := by
  unfold farV
  split
  · refine ⟨?_, setI_fit hx (by omega), rfl⟩
    show Kept v (if goodN (dataV v) v.length x.ind = true then giveV v x.ind else v)
    split
    · rename_i h
      have := goodN_iff.1 h
      exact kept_giveV hv this.1 this.2
    · exact .rfl hv
  · exact ⟨.rfl hv, hx, rfl⟩
/-- The rest of the last block becomes zeros. -/
def restV (v : Vol) (x : Ino) (s : Nat) : Vol := if s % 128 = 0 ∨ atN (dataV v) v.length v x (s / 128) = 0 then v else v.set (atN (dataV v) v.length v x (s / 128)) ((bk v (atN (dataV v) v.length v x (s / 128))).take (s % 128) ++ zs (128 - s % 128))
theorem kept_restV {v : Vol} {x : Ino} (s : Nat) (hv : okV v = true) : Kept v (restV v x s) := by
  unfold restV
  split
  · exact .rfl hv
  · rename_i h
    rw [not_or] at h
    obtain ⟨h1, h2⟩ := atN_lt' h.2
    have := dataV_pos v
    have hs := (okV_iff.1 hv).size _ h2
    refine kept_set hv (by omega) ?_
    rw [List.length_append, List.length_take, hs, zs_length]
    omega
def shortV (v : Vol) (x : Ino) (s : Nat) : Vol × Ino :=
  (restV (farV (dropTo (70 - needS s) v x (needS s)).1 (dropTo (70 - needS s) v x (needS s)).2 s).1 (farV (dropTo (70 - needS s) v x (needS s)).1 (dropTo (70 - needS s) v x (needS s)).2 s).2 s, (farV (dropTo (70 - needS s) v x (needS s)).1 (dropTo (70 - needS s) v x (needS s)).2 s).2)
theorem kept_shortV {v : Vol} {x : Ino} (s : Nat) (hv : okV v = true) (hx : fitI x) : Kept v (shortV v x s).1 ∧ fitI (shortV v x s).2 ∧ (shortV v x s).2.size = x.size := by
  obtain ⟨a, b, c⟩ := kept_dropTo (70 - needS s) (needS s) hv hx
  obtain ⟨a2, b2, c2⟩ := kept_farV s a.ok b
  have a3 := kept_restV (x := (farV (dropTo (70 - needS s) v x (needS s)).1 (dropTo (70 - needS s) v x (needS s)).2 s).2) s a2.ok
  exact ⟨(a.trans a2).trans a3, b2, c2.trans c⟩
/-- What a cut answers, of an inode that is, within the bound. -/
def cutV (v : Vol) (n s : Nat) : Vol := if s < sizeX (inoV v n) then putV (shortV v (inoV v n) s).1 n ((shortV v (inoV v n) s).2.setS s) else putV v n ((inoV v n).setS s)
end Go.Proofs.Ytacdohlhalnioaa
end

/- Contracts: a block is given back; an open file gives one back. -/
section
set_option linter.unusedVariables false
set_option linter.unusedSimpArgs false
set_option maxRecDepth 20000
namespace Go.Proofs.Ytacdohlhalnioaa
open Go.RowKit
attribute [local go_sem] Oper.semAt_some

theorem below_more {B : Nat} {w W w1 : World} (h : Below B w W) (hB : B ≤ W.heap.size) (hb : Below W.heap.size W w1) : Below B w w1 := h.trans (hb.mono hB)
set_option maxHeartbeats 2000000 in
theorem ggive_ok (A : Option Addr) (c : Nat) (v : Vol) (i : Nat) (w : World) (hr : RS w A v) (hv : okV v = true) (hi1 : dataV v ≤ i) (hi2 : i < v.length) (hi3 : bit (bk v 2) i = true) :
    Calls Try.prog 133 #[.slice A v.length c, .int .i64 i] w fun e w' => ∃ g c', e = .returned (.tuple #[.slice (some ⟨g, 0, none⟩) v.length c', .int .i64 0]) ∧ VS w' g (v.set 2 (turn (bk v 2) i)) ∧ w.heap.size ≤ g ∧ Below w.heap.size w w' := by
  have H := okV_iff.1 hv
  obtain ⟨h1, h2, h3, h4, h5, h6, h7, h8⟩ := H
  have hl := hr.1
  have HRR := Lib.hid hr
  obtain ⟨bA, oA, rfl, hbA, hc⟩ := hr.open_ (by omega)
  have hc2 := hc 2 (by omega)
  have S2 := Lib.hid (h1 2 (by omega))
  have HV := Lib.hid hv
  have i2 : (2 : Int) < (v.length : Nat) := by omega
  clear hr hc hv h1 h7 h8
  obtain ⟨d, hd⟩ : ∃ d, dataV v = d := ⟨_, rfl⟩
  have hdd : (3 + ((inosV v : Nat) + 1 : Int) / 2) = (d : Int) := by rw [← hd, dataV]; omega
  rw [hd] at hi1
  have hid : ¬ ((i : Int) < (d : Int)) := by omega
  have hil : ¬ ((v.length : Int) ≤ (i : Int)) := by omega
  go_enter Try.func133, Try.ntmps133
  go_wp2_with (first
    | (go_at_call 71; refine (of_ok _ _ _ _ HRR.out HV.out).mono ?_; rw [hdd]; rintro e w1 ⟨rfl, hb1⟩; have hb2 := hb1.alloc hb1.size (.cells #[.int .i64 v.length, .int .i64 (inosV v), .int .i64 1, .int .i64 2, .int .i64 3, .int .i64 d] 66); obtain ⟨g0, g1, g2, g3, g4, g5⟩ := cells6 (blk_new w1 (.cells #[.int .i64 v.length, .int .i64 (inosV v), .int .i64 1, .int .i64 2, .int .i64 3, .int .i64 d] 66)); have d2 := cell_keep hc2 hb2; have HRW := Lib.hid (HRR.out.below hb2); have HB2 := Lib.hid hb2; clear hb1 hb2)
    | (go_at_call 94; refine (has_ok _ _ _ S2.out (by omega)).mono ?_; rw [hi3]; rintro e w3 ⟨rfl, rfl⟩))
  have s1 := HB2.out.size
  refine region_P (fun w' => w'.cell? ⟨bA, oA + 2, none⟩ = some (.string (mk (bk v 2))) ∧ w'.cell? ⟨w1.heap.size, 3, none⟩ = some (.int .i64 2)) [] (by kernel_rfl) ?_ (fun hHeld => ?_)
  · exact ⟨d2, g3⟩
  refine wpP_take (i := 0) (oi := ?oi519001) (v := ?v519001) ?hi519001 (by kernel_rfl) (by kernel_rfl) (by kernel_rfl) (by kernel_rfl) ?hQ519001 ?hy519001 (by assumption) ?rest519001
  case hi519001 => (simp only [List.getElem?_toArray, List.getElem?_cons_succ, List.getElem?_cons_zero]; exact rfl)
  case hQ519001 => exact fun _ _ _ h => h
  case hy519001 => (refine Or.inl ⟨by kernel_rfl, ?_⟩; intro w hSw; (try dsimp only at hSw); go_simp; try (with_reducible rfl))
  try simp only [Act.put, List.setIfInBounds_toArray, List.set_cons_zero, List.set_cons_succ]
  refine wpP_take (i := 1) (oi := ?oi519002) (v := ?v519002) ?hi519002 (by kernel_rfl) (by kernel_rfl) (by kernel_rfl) (by kernel_rfl) ?hQ519002 ?hy519002 (by assumption) ?rest519002
  case hi519002 => (simp only [List.getElem?_toArray, List.getElem?_cons_succ, List.getElem?_cons_zero]; exact rfl)
  case hQ519002 => exact fun _ _ _ h => h
  case hy519002 => (refine Or.inl ⟨by kernel_rfl, ?_⟩; intro w hSw; (try dsimp only at hSw); go_simp; try (with_reducible rfl))
  try simp only [Act.put, List.setIfInBounds_toArray, List.set_cons_zero, List.set_cons_succ]
  refine wpP_take (i := 2) (oi := ?oi519003) (v := ?v519003) ?hi519003 (by kernel_rfl) (by kernel_rfl) (by kernel_rfl) (by kernel_rfl) ?hQ519003 ?hy519003 (by assumption) ?rest519003
  case hi519003 => (simp only [List.getElem?_toArray, List.getElem?_cons_succ, List.getElem?_cons_zero]; exact rfl)
  case hQ519003 => exact fun _ _ _ h => h
  case hy519003 => (refine Or.inl ⟨by kernel_rfl, ?_⟩; intro w hSw; (try dsimp only at hSw); go_simp; try (with_reducible rfl))
  try simp only [Act.put, List.setIfInBounds_toArray, List.set_cons_zero, List.set_cons_succ]
  refine wpP_take (i := 3) (oi := ?oi519004) (v := ?v519004) ?hi519004 (by kernel_rfl) (by kernel_rfl) (by kernel_rfl) (by kernel_rfl) ?hQ519004 ?hy519004 (by assumption) ?rest519004
  case hi519004 => (simp only [List.getElem?_toArray, List.getElem?_cons_succ, List.getElem?_cons_zero]; exact rfl)
  case hQ519004 => exact fun _ _ _ h => h
  case hy519004 => (refine Or.inl ⟨by kernel_rfl, ?_⟩; intro w hSw; (try dsimp only at hSw); go_simp; try (with_reducible rfl))
  try simp only [Act.put, List.setIfInBounds_toArray, List.set_cons_zero, List.set_cons_succ]
  refine wpP_take (i := 4) (oi := ?oi519005) (v := ?v519005) ?hi519005 (by kernel_rfl) (by kernel_rfl) (by kernel_rfl) (by kernel_rfl) ?hQ519005 ?hy519005 (by assumption) ?rest519005
  case hi519005 => (simp only [List.getElem?_toArray, List.getElem?_cons_succ, List.getElem?_cons_zero]; exact rfl)
  case hQ519005 => exact fun _ _ _ h => h
  case hy519005 => (refine Or.inl ⟨by kernel_rfl, ?_⟩; intro w hSw; (try dsimp only at hSw); go_simp; try (with_reducible rfl))
  try simp only [Act.put, List.setIfInBounds_toArray, List.set_cons_zero, List.set_cons_succ]
  refine wpP_take (i := 5) (oi := ?oi519006) (v := ?v519006) ?hi519006 (by kernel_rfl) (by kernel_rfl) (by kernel_rfl) (by kernel_rfl) ?hQ519006 ?hy519006 (by assumption) ?rest519006
  case hi519006 => (simp only [List.getElem?_toArray, List.getElem?_cons_succ, List.getElem?_cons_zero]; exact rfl)
  case hQ519006 => exact fun _ _ _ h => h
  case hy519006 => (refine Or.inl ⟨by kernel_rfl, ?_⟩; intro w hSw; (try dsimp only at hSw); go_simp; try (with_reducible rfl))
  try simp only [Act.put, List.setIfInBounds_toArray, List.set_cons_zero, List.set_cons_succ]
  refine wpP_take (i := 6) (oi := ?oi519007) (v := ?v519007) ?hi519007 (by kernel_rfl) (by kernel_rfl) (by kernel_rfl) (by kernel_rfl) ?hQ519007 ?hy519007 (by assumption) ?rest519007
  case hi519007 => (simp only [List.getElem?_toArray, List.getElem?_cons_succ, List.getElem?_cons_zero]; exact rfl)
  case hQ519007 => exact fun _ _ _ h => h
  case hy519007 => (refine Or.inl ⟨by kernel_rfl, ?_⟩; intro w hSw; (try dsimp only at hSw); go_simp; try (with_reducible rfl))
  try simp only [Act.put, List.setIfInBounds_toArray, List.set_cons_zero, List.set_cons_succ]
  refine wpP_take (i := 7) (oi := ?oi519008) (v := ?v519008) ?hi519008 (by kernel_rfl) (by kernel_rfl) (by kernel_rfl) (by kernel_rfl) ?hQ519008 ?hy519008 (by assumption) ?rest519008
  case hi519008 => (simp only [List.getElem?_toArray, List.getElem?_cons_succ, List.getElem?_cons_zero]; exact rfl)
  case hQ519008 => exact fun _ _ _ h => h
  case hy519008 => (refine Or.inl ⟨by kernel_rfl, ?_⟩; intro w hSw; (try dsimp only at hSw); go_simp; try (with_reducible rfl))
  try simp only [Act.put, List.setIfInBounds_toArray, List.set_cons_zero, List.set_cons_succ]
  refine wpP_take (i := 8) (oi := ?oi519009) (v := ?v519009) ?hi519009 (by kernel_rfl) (by kernel_rfl) (by kernel_rfl) (by kernel_rfl) ?hQ519009 ?hy519009 (by assumption) ?rest519009
  case hi519009 => (simp only [List.getElem?_toArray, List.getElem?_cons_succ, List.getElem?_cons_zero]; exact rfl)
  case hQ519009 => exact fun _ _ _ h => h
  case hy519009 => (refine Or.inl ⟨by kernel_rfl, ?_⟩; intro w hSw; (try dsimp only at hSw); go_simp; try (with_reducible rfl))
  try simp only [Act.put, List.setIfInBounds_toArray, List.set_cons_zero, List.set_cons_succ]
  refine wpP_ready (rs := [9]) (by kernel_rfl) (by simp) ?_
  refine AllP.cons (o := ?o519010) ?ho519010 (fun K hK => ?_) AllP.nil
  case ho519010 => (simp only [List.getElem?_toArray, List.getElem?_cons_succ, List.getElem?_cons_zero]; exact rfl)
  go_simp
  go_at_call 93
  refine (turn_ok _ _ _ S2.out (by omega)).mono ?_
  rintro e w3 ⟨rfl, k1⟩
  refine hK.out _ _ ?_ (fun hHeld => ?_)
  · exact ⟨cell_keep hHeld.1 k1, cell_keep hHeld.2 k1⟩
  clear hK K
  try simp only [Act.put, List.setIfInBounds_toArray, List.set_cons_zero, List.set_cons_succ]
  refine wpP_ready (rs := [10]) (by kernel_rfl) (by simp) ?_
  refine AllP.cons (o := ?o519011) ?ho519011 (fun K hK => ?_) AllP.nil
  case ho519011 => (simp only [List.getElem?_toArray, List.getElem?_cons_succ, List.getElem?_cons_zero]; exact rfl)
  go_simp
  go_at_call 135
  refine (with_ok _ _ v 2 _ _ ((HRW.out.below (Below.refl _ _).drew).below k1) (by omega)).mono ?_
  rintro e w4 ⟨g, rfl, hg1, hg, k2⟩
  refine hK.out _ _ ?_ (fun hHeld => ?_)
  · exact ⟨cell_keep hHeld.1 k2, cell_keep hHeld.2 k2⟩
  clear hK K
  try simp only [Act.put, List.setIfInBounds_toArray, List.set_cons_zero, List.set_cons_succ]
  refine wpP_take (i := 11) (oi := ?oi519012) (v := ?v519012) ?hi519012 (by kernel_rfl) (by kernel_rfl) (by kernel_rfl) (by kernel_rfl) ?hQ519012 ?hy519012 (by assumption) ?rest519012
  case hi519012 => (simp only [List.getElem?_toArray, List.getElem?_cons_succ, List.getElem?_cons_zero]; exact rfl)
  case hQ519012 => exact fun _ _ _ h => h
  case hy519012 => (refine Or.inl ⟨by kernel_rfl, ?_⟩; intro w hSw; (try dsimp only at hSw); go_simp; try (with_reducible rfl))
  try simp only [Act.put, List.setIfInBounds_toArray, List.set_cons_zero, List.set_cons_succ]
  refine wpP_take (i := 12) (oi := ?oi519013) (v := ?v519013) ?hi519013 (by kernel_rfl) (by kernel_rfl) (by kernel_rfl) (by kernel_rfl) ?hQ519013 ?hy519013 (by assumption) ?rest519013
  case hi519013 => (simp only [List.getElem?_toArray, List.getElem?_cons_succ, List.getElem?_cons_zero]; exact rfl)
  case hQ519013 => exact fun _ _ _ h => h
  case hy519013 => (refine Or.inl ⟨by kernel_rfl, ?_⟩; intro w hSw; (try dsimp only at hSw); go_simp; try (with_reducible rfl))
  try simp only [Act.put, List.setIfInBounds_toArray, List.set_cons_zero, List.set_cons_succ]
  refine wpP_done (by kernel_rfl) ?_ _
  go_wp2
  go_ret2
  have s3 := k1.size
  have s4 := k2.size
  have e0 : (w1.alloc (.cells #[.int .i64 v.length, .int .i64 (inosV v), .int .i64 1, .int .i64 2, .int .i64 3, .int .i64 d] 66)).drew.heap.size = (w1.alloc (.cells #[.int .i64 v.length, .int .i64 (inosV v), .int .i64 1, .int .i64 2, .int .i64 3, .int .i64 d] 66)).heap.size := rfl
  have hs3 : w.heap.size ≤ w3.heap.size := by omega
  exact ⟨g, _, rfl, hg1, by omega, below_more (below_more HB2.out.drew (by omega) k1) hs3 k2⟩
set_option maxHeartbeats 1000000 in
theorem ggive_none (A : Option Addr) (c : Nat) (v : Vol) (i : Nat) (w : World) (hr : RS w A v) (hv : okV v = true) (hi1 : dataV v ≤ i) (hi2 : i < v.length) (hi3 : bit (bk v 2) i = false) :
    Calls Try.prog 133 #[.slice A v.length c, .int .i64 i] w fun e w' => e = .returned (.tuple #[.slice none 0 0, .int .i64 9]) ∧ Below w.heap.size w w' := by
  have H := okV_iff.1 hv
  obtain ⟨h1, h2, h3, h4, h5, h6, h7, h8⟩ := H
  have HRR := Lib.hid hr
  obtain ⟨bA, oA, rfl, hbA, hc⟩ := hr.open_ (by omega)
  have hc2 := hc 2 (by omega)
  have S2 := Lib.hid (h1 2 (by omega))
  have HV := Lib.hid hv
  have i2 : (2 : Int) < (v.length : Nat) := by omega
  clear hr hc hv h1 h7 h8
  obtain ⟨d, hd⟩ : ∃ d, dataV v = d := ⟨_, rfl⟩
  have hdd : (3 + ((inosV v : Nat) + 1 : Int) / 2) = (d : Int) := by rw [← hd, dataV]; omega
  rw [hd] at hi1
  have hid : ¬ ((i : Int) < (d : Int)) := by omega
  have hil : ¬ ((v.length : Int) ≤ (i : Int)) := by omega
  go_enter Try.func133, Try.ntmps133
  go_wp2_with (first
    | (go_at_call 71; refine (of_ok _ _ _ _ HRR.out HV.out).mono ?_; rw [hdd]; rintro e w1 ⟨rfl, hb1⟩; have hb2 := hb1.alloc hb1.size (.cells #[.int .i64 v.length, .int .i64 (inosV v), .int .i64 1, .int .i64 2, .int .i64 3, .int .i64 d] 66); obtain ⟨g0, g1, g2, g3, g4, g5⟩ := cells6 (blk_new w1 (.cells #[.int .i64 v.length, .int .i64 (inosV v), .int .i64 1, .int .i64 2, .int .i64 3, .int .i64 d] 66)); have d2 := cell_keep hc2 hb2; have HB2 := Lib.hid hb2; clear hb1 hb2)
    | (go_at_call 94; refine (has_ok _ _ _ S2.out (by omega)).mono ?_; rw [hi3]; rintro e w3 ⟨rfl, rfl⟩))
  go_ret2
  exact ⟨rfl, HB2.out⟩
set_option maxHeartbeats 2000000 in
theorem xgive_ok (F g c L I d n : Nat) (v : Vol) (x : Ino) (b : Nat) (w : World) (hf : FileAt w F g c L I d n v x) (hv : okV v = true) (h1 : dataV v ≤ b) (h2 : b < v.length) :
    Calls Try.prog 116 #[.pointer (some ⟨F, 0, none⟩), .int .i64 b] w fun e w' => e = .returned (.tuple #[]) ∧ ∃ g' c', FileAt w' F g' c' L I d n (giveV v b) x ∧ ∀ B, B ≤ F → B ≤ g → B ≤ g' ∧ Below B w w' := by
  obtain rfl := hf.len
  have hhi := (okV_iff.1 hv).hi
  have hlo := (okV_iff.1 hv).lo
  have c0 : w.cell? ⟨F, 0, none⟩ = some (.slice (some ⟨g, 0, none⟩) v.length c) := by rw [cell_at hf.blk]; rfl
  have HF := Lib.hid hf
  have sF := hf.lt
  rw [giveV]
  by_cases hb : bit (bk v 2) b = true
  · rw [if_pos hb]
    have hgv := Lib.hid (fun w A c hr => ggive_ok A c v b w hr hv h1 h2 hb)
    have hlt : (v.set 2 (turn (bk v 2) b)).length = v.length := by simp
    have hcl := Lib.hid (fun A c w hr => clone_ok A c v.length (v.set 2 (turn (bk v 2) b)) w hr hlt (by omega))
    have HT := Lib.hid hlt
    clear hf hv hb hlt h1
    generalize v.set 2 (turn (bk v 2) b) = V at *
    go_enter Try.func116, Try.ntmps116
    go_wp2_with (first
      | (go_at_call 133; refine (hgv.out _ _ _ (HF.out.vol.rs (by omega))).mono ?_; rintro e w1 ⟨g1, c1, rfl, hg1, hgs1, hb1⟩; have HB1 := Lib.hid hb1; clear hb1)
      | (go_at_call 66; refine (hcl.out _ _ _ (hg1.rs (by rw [HT.out]; omega))).mono ?_; rintro e w2 ⟨g2, cc, rfl, hg2, hgs2, hb2⟩; have hq := blk_keep (blk_keep HF.out.blk HB1.out) hb2; have hfr := free_of hq 0; have c2 : w2.cell? ⟨F, 0, none⟩ = some (.slice (some ⟨g, 0, none⟩) v.length c) := (by rw [cell_at hq]; rfl); have HQ := Lib.hid hq; have HB2 := Lib.hid hb2; have HG2 := Lib.hid hg2; clear hb2 hq hg2))
    have s1 := HB1.out.size
    have hne : g2 ≠ F := by omega
    have hq3 := blk_set HQ.out 0 (.slice (some ⟨g2, 0, none⟩) v.length cc)
    simp only [List.setIfInBounds_toArray, List.set_cons_zero] at hq3
    refine bodyPost_end (v := .tuple #[]) (by simp [results, Try.results116, go_sem]) rfl ?_
    exact ⟨rfl, g2, cc, ⟨hq3, HG2.out.other hne, HT.out, by omega⟩, fun B hB hB2 => ⟨by omega, below_set ((HB1.out.mono (by omega)).trans (HB2.out.mono (by omega))) hB⟩⟩
  · rw [if_neg hb]
    have hgv := Lib.hid (fun w A c hr => ggive_none A c v b w hr hv h1 h2 (by simpa using hb))
    clear hf hv hb h1
    go_enter Try.func116, Try.ntmps116
    go_wp2_with (go_at_call 133; refine (hgv.out _ _ _ (HF.out.vol.rs (by omega))).mono ?_; rintro e w1 ⟨rfl, hb1⟩; have HB1 := Lib.hid hb1; clear hb1)
    refine bodyPost_end (v := .tuple #[]) (by simp [results, Try.results116, go_sem]) rfl ?_
    exact ⟨rfl, g, c, HF.out.keep HB1.out, fun B hB hB2 => ⟨hB2, HB1.out.mono (by omega)⟩⟩
set_option maxHeartbeats 1000000 in
theorem xname_none (F g c L I d n : Nat) (v : Vol) (x : Ino) (k b : Nat) (w : World) (hf : FileAt w F g c L I d n v x) (hk : 6 ≤ k) (hg : goodN d L x.ind = false) :
    Calls Try.prog 111 #[.pointer (some ⟨F, 0, none⟩), .int .i64 k, .int .i64 b] w fun e w' => e = .returned (.tuple #[]) ∧ w = w' := by
  have c18 : w.cell? ⟨F, 18, none⟩ = some (.int .i64 x.ind) := by rw [cell_at hf.blk]; rfl
  have hgood := Lib.hid (good_ok F g c L I d n v x x.ind w hf)
  rw [hg] at hgood
  have hki : ¬ ((k : Int) < 6) := by omega
  clear hf
  go_enter Try.func111, Try.ntmps111
  go_wp2_with (go_at_call 63; refine hgood.out.mono ?_; rintro e w3 ⟨rfl, rfl⟩)
  refine bodyPost_end (v := .tuple #[]) (by simp [results, Try.results111, go_sem]) rfl ⟨rfl, rfl⟩
theorem xname_all (F g c L I d n : Nat) (v : Vol) (x : Ino) (k b : Nat) (w : World) (hf : FileAt w F g c L I d n v x) (hk : k < 70) (hb : b < 256) (hs : ∀ j, j < L → (bk v j).length = 128) (hL : L ≤ 223) :
    Calls Try.prog 111 #[.pointer (some ⟨F, 0, none⟩), .int .i64 k, .int .i64 b] w fun e w' => e = .returned (.tuple #[]) ∧ FileAt w' F g c L I d n (nameV d v x k b) (nameX x k b) ∧ ∀ B, B ≤ F → B ≤ g → Below B w w' := by
  by_cases hg : k < 6 ∨ goodN d L x.ind = true
  · exact xname_ok F g c L I d n v x k b w hf hk hb hg hs hL
  · rw [not_or, Bool.not_eq_true] at hg
    refine (xname_none F g c L I d n v x k b w hf (by omega) hg.2).mono ?_
    rintro e w' ⟨rfl, rfl⟩
    rw [nameV, if_neg hg.1, hf.len, if_neg (by rw [hg.2]; simp), nameX, if_neg hg.1]
    exact ⟨rfl, hf, fun B _ _ => Below.refl _ _⟩
end Go.Proofs.Ytacdohlhalnioaa
end

/- Contracts: an open file is made shorter; a file is cut. -/
section
set_option linter.unusedVariables false
set_option linter.unusedSimpArgs false
set_option maxRecDepth 20000
namespace Go.Proofs.Ytacdohlhalnioaa
open Go.RowKit
attribute [local go_sem] Oper.semAt_some

set_option maxHeartbeats 16000000 in
theorem shorten_ok (F g c L I d n : Nat) (v : Vol) (x : Ino) (s : Nat) (w : World) (hf : FileAt w F g c L I d n v x) (hv : okV v = true) (hx : fitI x) (hd : dataV v = d) (hs : s < 8960) :
    Calls Try.prog 83 #[.pointer (some ⟨F, 0, none⟩), .int .i64 s] w fun e w' => e = .returned (.tuple #[]) ∧ ∃ g' c', FileAt w' F g' c' L I d n (shortV v x s).1 (shortV v x s).2 ∧ ∀ B, B ≤ F → B ≤ g → B ≤ g' ∧ Below B w w' := by
  obtain rfl := hf.len
  have hhi := (okV_iff.1 hv).hi
  have hd0 : 0 < d := by have := dataV_pos v; omega
  obtain ⟨R, hR⟩ : ∃ R, dropTo (70 - needS s) v x (needS s) = R := ⟨_, rfl⟩
  rw [shortV, hR]
  obtain ⟨k0, hk0⟩ : ∃ k0, needS s = k0 := ⟨_, rfl⟩
  have hk070 : k0 ≤ 70 := by rw [← hk0, needS]; omega
  have hk0' : (s + 127) / 128 = k0 := hk0
  rw [hk0] at hR
  have HR := Lib.hid hR
  have HF := Lib.hid hf
  have HV := Lib.hid hv
  have HX := Lib.hid hx
  have HD := Lib.hid hd
  clear hf hv hx hd hR hk0
  go_enter Try.func83, Try.ntmps83
  go_wp2_with (go_at_call 53; refine (need_ok s _ (by omega)).mono ?_; rw [hk0']; rintro e w1 ⟨rfl, rfl⟩)
  go_loopw [4] (fun iv wr => ∃ (m k : Nat) (v' : Vol) (x' : Ino) (g' c' : Nat), k + m = 70 ∧ iv = .int .i64 k ∧ Hid (dropTo m v' x' k = R ∧ Kept v v' ∧ fitI x') ∧ Hid (FileAt wr F g' c' v.length I d n v' x') ∧ Hid (∀ B, B ≤ F → B ≤ g → B ≤ g' ∧ Below B w wr)) (fun iv _ => 70 - (intOf iv).toNat)
  case atStart => exact ⟨70 - k0, k0, v, x, g, c, by omega, rfl, ⟨HR.out, .rfl HV.out, HX.out⟩, HF, fun B h1 h2 => ⟨h2, Below.refl _ _⟩⟩
  case round =>
    obtain ⟨m, k, v', x', g', c', hkm, rfl, hW, hf, hB⟩ := hrel
    have hk := hW.out.2.1
    have hfit := hW.out.2.2
    have hd' : dataV v' = d := by rw [hk.dat, HD.out]
    have hl' : v'.length = v.length := hk.len
    have hS' := (okV_iff.1 hk.ok).size
    by_cases hlt : k < 70
    · obtain ⟨m1, rfl⟩ : ∃ m1, m = m1 + 1 := ⟨m - 1, by omega⟩
      have hW1 := hW.out.1
      rw [dropTo] at hW1
      have hki : (k : Int) < 70 := by omega
      have hkd := kept_dropV hk.ok x' k
      have hfd := (fit_dropV (v := v') hfit k).1
      have hkg := kept_dropG hk.ok x' k
      rw [hd'] at hkg
      have hat := Lib.hid (at_ok F g' c' v.length I d n v' x' k wr hf.out hlt hd0 (by rw [← hl']; exact hS') (by omega))
      have hnm := fun g c w hf => xname_all F g c v.length I d n (dropG d v' x' k) x' k 0 w hf hlt (by omega) (fun j hj => (okV_iff.1 hkg.ok).size j (by rw [hkg.len, hl']; exact hj)) (by omega)
      have HNM := Lib.hid hnm
      have hdv : dropV v' x' k = (nameV d (dropG d v' x' k) x' k 0, nameX x' k 0) := by rw [dropV, hd']
      have HDV := Lib.hid hdv
      have HKD := Lib.hid hkd
      have HFD := Lib.hid hfd
      have HW1 := Lib.hid hW1
      clear hW1 hkd hfd hkg hnm hdv
      obtain ⟨b, hb⟩ : ∃ b, atN d v.length v' x' k = b := ⟨_, rfl⟩
      rw [hb] at hat
      by_cases h0 : b = 0
      · subst h0
        have hdg : dropG d v' x' k = v' := by rw [dropG, hl', if_pos hb]
        rw [hdg] at HNM HDV
        rw [show holeI 0 = -1 from rfl] at hat
        clear hb hdg
        go_wp2_with (first
          | (go_at_call 96; refine hat.out.mono ?_; rintro e w2 ⟨rfl, hb2⟩; have F2 := Lib.hid (hf.out.keep hb2); have B2 := Lib.hid hb2; clear hb2)
          | (go_at_call 111; refine (HNM.out _ _ _ F2.out).mono ?_; rintro e w3 ⟨rfl, hf3, hb3⟩; have F3 := Lib.hid hf3; have B3 := Lib.hid hb3; clear hf3 hb3))
        refine ⟨⟨m1, k + 1, (dropV v' x' k).1, (dropV v' x' k).2, g', c', by omega, by go_num, ⟨HW1.out, hk.trans HKD.out, HFD.out⟩, by rw [HDV.out]; exact F3, fun B h1 h2 => ?_⟩, by simp only [intOf]; omega⟩
        obtain ⟨z1, z2⟩ := hB.out B h1 h2
        exact ⟨z1, (z2.trans (B2.out.mono (by have := hf.out.lt; omega))).trans (B3.out B h1 z1)⟩
      · have hbl := atN_lt' (d := d) (L := v.length) (v := v') (x := x') (k := k) (by rw [hb]; exact h0)
        rw [hb] at hbl
        have hdg : dropG d v' x' k = giveV v' b := by rw [dropG, hl', hb, if_neg h0]
        rw [hdg] at HNM HDV
        rw [show holeI b = (b : Int) from if_neg h0] at hat
        have hbn : ((b : Int) != -1) = true := by simp
        have hgv := Lib.hid (fun w hf => xgive_ok F g' c' v.length I d n v' x' b w hf hk.ok (by rw [hd']; exact hbl.1) (by rw [hl']; exact hbl.2))
        clear hb hdg h0
        go_wp2_with (first
          | (go_at_call 96; refine hat.out.mono ?_; rintro e w2 ⟨rfl, hb2⟩; have F2 := Lib.hid (hf.out.keep hb2); have B2 := Lib.hid hb2; clear hb2)
          | (go_at_call 116; refine (hgv.out _ F2.out).mono ?_; rintro e w4 ⟨rfl, g4, c4, hf4, hb4⟩; have F4 := Lib.hid hf4; have B4 := Lib.hid hb4; clear hf4 hb4)
          | (go_at_call 111; refine (HNM.out _ _ _ F4.out).mono ?_; rintro e w3 ⟨rfl, hf3, hb3⟩; have F3 := Lib.hid hf3; have B3 := Lib.hid hb3; clear hf3 hb3))
        refine ⟨⟨m1, k + 1, (dropV v' x' k).1, (dropV v' x' k).2, g4, c4, by omega, by go_num, ⟨HW1.out, hk.trans HKD.out, HFD.out⟩, by rw [HDV.out]; exact F3, fun B h1 h2 => ?_⟩, by simp only [intOf]; omega⟩
        obtain ⟨z1, z2⟩ := hB.out B h1 h2
        obtain ⟨z3, z4⟩ := B4.out B h1 z1
        exact ⟨z3, ((z2.trans (B2.out.mono (by have := hf.out.lt; omega))).trans z4).trans (B3.out B h1 z3)⟩
    · obtain rfl : m = 0 := by omega
      obtain rfl : k = 70 := by omega
      have hW1 := hW.out.1
      rw [dropTo] at hW1
      subst hW1
      obtain ⟨q, hq⟩ : ∃ q, s / 128 = q := ⟨_, rfl⟩
      obtain ⟨r, hr⟩ : ∃ r, s % 128 = r := ⟨_, rfl⟩
      have hq70 : q < 70 := by omega
      have hr128 : r < 128 := by omega
      have hqi : (s : Int) / 128 = (q : Int) := by omega
      have hri : (s : Int).tmod 128 = (r : Int) := by rw [Int.tmod_eq_emod_of_nonneg (by omega)]; omega
      have hwq : IntKind.i64.wrap (q : Int) = (q : Int) := by simp [IntKind.wrap, IntKind.bits, IntKind.signed]; omega
      have hwr : IntKind.i64.wrap (r : Int) = (r : Int) := by simp [IntKind.wrap, IntKind.bits, IntKind.signed]; omega
      obtain ⟨z, hz⟩ : ∃ z, 128 - r = z := ⟨_, rfl⟩
      have hz1 : (128 : Int) - (r : Int) = (z : Int) := by omega
      have hwz : IntKind.i64.wrap (z : Int) = (z : Int) := by simp [IntKind.wrap, IntKind.bits, IntKind.signed]; omega
      have hz0 : (0 : Int) ≤ (z : Int) := by omega
      have hmo : min r 128 = r := by omega
      have hcc : ¬ (9223372036854775807 < r + z) := by omega
      have hr0' : (r : Int) ≤ 128 := by omega
      have hfar := kept_farV s hk.ok hfit
      have HFAR := Lib.hid hfar
      clear hfar
      by_cases h768 : s ≤ 768
      · have h7 : (s : Int) ≤ 768 := by omega
        have hgood := Lib.hid (good_ok F g' c' v.length I d n v' x' x'.ind wr hf.out)
        have c18 : wr.cell? ⟨F, 18, none⟩ = some (.int .i64 x'.ind) := by rw [cell_at hf.out.blk]; rfl
        by_cases hg : goodN d v.length x'.ind = true
        · rw [hg] at hgood
          have hg2 := goodN_iff.1 hg
          have hfv : farV v' x' s = (giveV v' x'.ind, x'.setI 0) := by rw [farV, if_pos h768, hd', hl', if_pos hg]
          simp only [hfv] at HFAR
          have HFV := Lib.hid hfv
          have hgv := Lib.hid (fun w hf => xgive_ok F g' c' v.length I d n v' x' x'.ind w hf hk.ok (by rw [hd']; exact hg2.1) (by rw [hl']; exact hg2.2))
          clear hfv hg hg2 h768
          generalize giveV v' x'.ind = V at *
          have hdV : dataV V = d := by rw [HFAR.out.1.dat, hd']
          have hlV : (V).length = v.length := by rw [HFAR.out.1.len, hl']
          have hSV := (okV_iff.1 HFAR.out.1.ok).size
          have hat2 := Lib.hid (fun g c w hf => at_ok F g c v.length I d n V (x'.setI 0) q w hf hq70 hd0 (by rw [← hlV]; exact hSV) (by omega))
          have hrv : restV V (x'.setI 0) s = if r = 0 ∨ atN d v.length V (x'.setI 0) q = 0 then V else (V).set (atN d v.length V (x'.setI 0) q) ((bk V (atN d v.length V (x'.setI 0) q)).take r ++ zs z) := by rw [restV, hdV, hlV, hq, hr, hz]
          have HSV := Lib.hid hSV
          have HLV := Lib.hid hlV
          clear hSV hlV hdV hq hr hz
          obtain ⟨b, hb⟩ : ∃ b, atN d v.length V (x'.setI 0) q = b := ⟨_, rfl⟩
          rw [hb] at hat2 hrv
          by_cases hr0 : r = 0
          · rw [if_pos (.inl hr0)] at hrv
            have HRC := Lib.hid hrv
            have hri0 : ¬ ((0 : Int) < (r : Int)) := by omega
            clear hr0 hb hrv
            go_wp2_with (first
              | (go_at_call 63; refine hgood.out.mono ?_; rintro e w2 ⟨rfl, rfl⟩)
              | (go_at_call 116; refine (hgv.out _ hf.out).mono ?_; rintro e w4 ⟨rfl, g4, c4, hf4, hb4⟩; have c18' : w4.cell? ⟨F, 18, none⟩ = some (.int .i64 x'.ind) := (by rw [cell_at hf4.blk]; rfl); have hfr := free_of hf4.blk 18; have F5 : Hid (FileAt (w4.setCell ⟨F, 18, none⟩ (.int .i64 0)) F g4 c4 v.length I d n V (x'.setI 0)) := Lib.hid (hf4.setI 0); have B5 : Hid (∀ B, B ≤ F → B ≤ g → B ≤ g4 ∧ Below B w (w4.setCell ⟨F, 18, none⟩ (.int .i64 0))) := Lib.hid (fun B h1 h2 => ⟨(hb4 B h1 (hB.out B h1 h2).1).1, below_set ((hB.out B h1 h2).2.trans (hb4 B h1 (hB.out B h1 h2).1).2) h1⟩); clear hf4 hb4)
              | fail)
            refine bodyPost_end (v := .tuple #[]) (by simp [results, Try.results83, go_sem]) rfl ?_
            refine ⟨rfl, ?_⟩
            first | refine ⟨g4, c4, ?_, ?_⟩ | refine ⟨g4, ⟨c4, ?_⟩, ?_⟩
            · rw [HFV.out]; dsimp only; rw [HRC.out]
              exact F5.out
            · exact B5.out
          · have hri0 : (0 : Int) < (r : Int) := by omega
            by_cases hb0 : b = 0
            · rw [if_pos (.inr hb0)] at hrv
              have HRC := Lib.hid hrv
              rw [hb0, show holeI 0 = -1 from rfl] at hat2
              clear hr0 hb0 hb hrv
              go_wp2_with (first
                | (go_at_call 63; refine hgood.out.mono ?_; rintro e w2 ⟨rfl, rfl⟩)
                | (go_at_call 116; refine (hgv.out _ hf.out).mono ?_; rintro e w4 ⟨rfl, g4, c4, hf4, hb4⟩; have c18' : w4.cell? ⟨F, 18, none⟩ = some (.int .i64 x'.ind) := (by rw [cell_at hf4.blk]; rfl); have hfr := free_of hf4.blk 18; have F5 : Hid (FileAt (w4.setCell ⟨F, 18, none⟩ (.int .i64 0)) F g4 c4 v.length I d n V (x'.setI 0)) := Lib.hid (hf4.setI 0); have B5 : Hid (∀ B, B ≤ F → B ≤ g → B ≤ g4 ∧ Below B w (w4.setCell ⟨F, 18, none⟩ (.int .i64 0))) := Lib.hid (fun B h1 h2 => ⟨(hb4 B h1 (hB.out B h1 h2).1).1, below_set ((hB.out B h1 h2).2.trans (hb4 B h1 (hB.out B h1 h2).1).2) h1⟩); clear hf4 hb4)
                | (go_at_call 96; refine (hat2.out _ _ _ F5.out).mono ?_; rintro e w6 ⟨rfl, hb6⟩; have F6 := Lib.hid (F5.out.keep hb6); have B6 : Hid (∀ B, B ≤ F → B ≤ g → B ≤ g4 ∧ Below B w w6) := Lib.hid (fun B h1 h2 => ⟨(B5.out B h1 h2).1, (B5.out B h1 h2).2.trans (hb6.mono (by have := F5.out.lt; omega))⟩); clear hb6)
                | fail)
              refine bodyPost_end (v := .tuple #[]) (by simp [results, Try.results83, go_sem]) rfl ?_
              refine ⟨rfl, ?_⟩
              first | refine ⟨g4, c4, ?_, ?_⟩ | refine ⟨g4, ⟨c4, ?_⟩, ?_⟩
              · rw [HFV.out]; dsimp only; rw [HRC.out]
                exact F6.out
              · exact B6.out
            · rw [if_neg (by rw [not_or]; exact ⟨hr0, hb0⟩)] at hrv
              rw [holeI, if_neg hb0] at hat2
              have hbl := atN_lt' (d := d) (L := v.length) (v := V) (x := (x'.setI 0)) (k := q) (by rw [hb]; exact hb0)
              rw [hb] at hbl
              have hbn : ((b : Int) != -1) = true := by simp
              have hbi : (b : Int) < (v.length : Nat) := by omega
              obtain ⟨S, hS⟩ : ∃ S, bk V b = S := ⟨_, rfl⟩
              have hS1 : S.length = 128 := by rw [← hS]; exact HSV.out b (by rw [HLV.out]; exact hbl.2)
              rw [hS] at hrv
              have HRC := Lib.hid hrv
              have HSB := Lib.hid hS
              clear hr0 hb0 hb hS hrv
              go_wp2_with (first
                | (go_at_call 63; refine hgood.out.mono ?_; rintro e w2 ⟨rfl, rfl⟩)
                | (go_at_call 116; refine (hgv.out _ hf.out).mono ?_; rintro e w4 ⟨rfl, g4, c4, hf4, hb4⟩; have c18' : w4.cell? ⟨F, 18, none⟩ = some (.int .i64 x'.ind) := (by rw [cell_at hf4.blk]; rfl); have hfr := free_of hf4.blk 18; have F5 : Hid (FileAt (w4.setCell ⟨F, 18, none⟩ (.int .i64 0)) F g4 c4 v.length I d n V (x'.setI 0)) := Lib.hid (hf4.setI 0); have B5 : Hid (∀ B, B ≤ F → B ≤ g → B ≤ g4 ∧ Below B w (w4.setCell ⟨F, 18, none⟩ (.int .i64 0))) := Lib.hid (fun B h1 h2 => ⟨(hb4 B h1 (hB.out B h1 h2).1).1, below_set ((hB.out B h1 h2).2.trans (hb4 B h1 (hB.out B h1 h2).1).2) h1⟩); clear hf4 hb4)
                | (go_at_call 96; refine (hat2.out _ _ _ F5.out).mono ?_; rintro e w6 ⟨rfl, hb6⟩; have F6 := Lib.hid (F5.out.keep hb6); have B6 : Hid (∀ B, B ≤ F → B ≤ g → B ≤ g4 ∧ Below B w w6) := Lib.hid (fun B h1 h2 => ⟨(B5.out B h1 h2).1, (B5.out B h1 h2).2.trans (hb6.mono (by have := F5.out.lt; omega))⟩); clear hb6)
                | fail)
              have q0 : w6.cell? ⟨F, 0, none⟩ = some (.slice (some ⟨g4, 0, none⟩) v.length c4) := by rw [cell_at F6.out.blk]; rfl
              have q1 : w6.cell? ⟨g4, b, none⟩ = some (.string (mk S)) := by rw [← HSB.out]; exact F6.out.vol.cell b (by rw [HLV.out]; exact hbl.2)
              refine region_P (fun w' => w'.cell? ⟨F, 0, none⟩ = some (.slice (some ⟨g4, 0, none⟩) v.length c4) ∧ w'.cell? ⟨g4, b, none⟩ = some (.string (mk S))) [19] (by kernel_rfl) ?_ (fun hHeld => ?_)
              · exact ⟨q0, q1⟩
              refine wpP_take (i := 0) (oi := ?oi653001) (v := ?v653001) ?hi653001 (by kernel_rfl) (by kernel_rfl) (by kernel_rfl) (by kernel_rfl) ?hQ653001 ?hy653001 (by assumption) ?rest653001
              case hi653001 => (simp only [List.getElem?_toArray, List.getElem?_cons_succ, List.getElem?_cons_zero]; exact rfl)
              case hQ653001 => exact fun _ _ _ h => h
              case hy653001 => (refine Or.inl ⟨by kernel_rfl, ?_⟩; intro w hSw; (try dsimp only at hSw); go_simp; try (with_reducible rfl))
              try simp only [Act.put, List.setIfInBounds_toArray, List.set_cons_zero, List.set_cons_succ]
              refine wpP_take (i := 1) (oi := ?oi653002) (v := ?v653002) ?hi653002 (by kernel_rfl) (by kernel_rfl) (by kernel_rfl) (by kernel_rfl) ?hQ653002 ?hy653002 (by assumption) ?rest653002
              case hi653002 => (simp only [List.getElem?_toArray, List.getElem?_cons_succ, List.getElem?_cons_zero]; exact rfl)
              case hQ653002 => exact fun _ _ _ h => h
              case hy653002 => (refine Or.inl ⟨by kernel_rfl, ?_⟩; intro w hSw; (try dsimp only at hSw); go_simp; try (with_reducible rfl))
              try simp only [Act.put, List.setIfInBounds_toArray, List.set_cons_zero, List.set_cons_succ]
              refine wpP_take (i := 2) (oi := ?oi653003) (v := ?v653003) ?hi653003 (by kernel_rfl) (by kernel_rfl) (by kernel_rfl) (by kernel_rfl) ?hQ653003 ?hy653003 (by assumption) ?rest653003
              case hi653003 => (simp only [List.getElem?_toArray, List.getElem?_cons_succ, List.getElem?_cons_zero]; exact rfl)
              case hQ653003 => exact fun _ _ _ h => h
              case hy653003 => (refine Or.inl ⟨by kernel_rfl, ?_⟩; intro w hSw; (try dsimp only at hSw); go_simp; try (with_reducible rfl))
              try simp only [Act.put, List.setIfInBounds_toArray, List.set_cons_zero, List.set_cons_succ]
              refine wpP_take (i := 3) (oi := ?oi653004) (v := ?v653004) ?hi653004 (by kernel_rfl) (by kernel_rfl) (by kernel_rfl) (by kernel_rfl) ?hQ653004 ?hy653004 (by assumption) ?rest653004
              case hi653004 => (simp only [List.getElem?_toArray, List.getElem?_cons_succ, List.getElem?_cons_zero]; exact rfl)
              case hQ653004 => exact fun _ _ _ h => h
              case hy653004 => (refine Or.inl ⟨by kernel_rfl, ?_⟩; intro w hSw; (try dsimp only at hSw); go_simp; try (with_reducible rfl))
              try simp only [Act.put, List.setIfInBounds_toArray, List.set_cons_zero, List.set_cons_succ]
              refine wpP_take (i := 4) (oi := ?oi653005) (v := ?v653005) ?hi653005 (by kernel_rfl) (by kernel_rfl) (by kernel_rfl) (by kernel_rfl) ?hQ653005 ?hy653005 (by assumption) ?rest653005
              case hi653005 => (simp only [List.getElem?_toArray, List.getElem?_cons_succ, List.getElem?_cons_zero]; exact rfl)
              case hQ653005 => exact fun _ _ _ h => h
              case hy653005 => (refine Or.inl ⟨by kernel_rfl, ?_⟩; intro w hSw; (try dsimp only at hSw); go_simp; try (with_reducible rfl))
              try simp only [Act.put, List.setIfInBounds_toArray, List.set_cons_zero, List.set_cons_succ]
              refine wpP_take (i := 5) (oi := ?oi653006) (v := ?v653006) ?hi653006 (by kernel_rfl) (by kernel_rfl) (by kernel_rfl) (by kernel_rfl) ?hQ653006 ?hy653006 (by assumption) ?rest653006
              case hi653006 => (simp only [List.getElem?_toArray, List.getElem?_cons_succ, List.getElem?_cons_zero]; exact rfl)
              case hQ653006 => exact fun _ _ _ h => h
              case hy653006 => (refine Or.inl ⟨by kernel_rfl, ?_⟩; intro w hSw; (try dsimp only at hSw); go_simp; try (with_reducible rfl))
              try simp only [Act.put, List.setIfInBounds_toArray, List.set_cons_zero, List.set_cons_succ]
              refine wpP_take (i := 6) (oi := ?oi653007) (v := ?v653007) ?hi653007 (by kernel_rfl) (by kernel_rfl) (by kernel_rfl) (by kernel_rfl) ?hQ653007 ?hy653007 (by assumption) ?rest653007
              case hi653007 => (simp only [List.getElem?_toArray, List.getElem?_cons_succ, List.getElem?_cons_zero]; exact rfl)
              case hQ653007 => exact fun _ _ _ h => h
              case hy653007 => (refine Or.inl ⟨by kernel_rfl, ?_⟩; intro w hSw; (try dsimp only at hSw); go_simp; try (with_reducible rfl))
              try simp only [Act.put, List.setIfInBounds_toArray, List.set_cons_zero, List.set_cons_succ]
              refine wpP_take (i := 7) (oi := ?oi653008) (v := ?v653008) ?hi653008 (by kernel_rfl) (by kernel_rfl) (by kernel_rfl) (by kernel_rfl) ?hQ653008 ?hy653008 (by assumption) ?rest653008
              case hi653008 => (simp only [List.getElem?_toArray, List.getElem?_cons_succ, List.getElem?_cons_zero]; exact rfl)
              case hQ653008 => exact fun _ _ _ h => h
              case hy653008 => (refine Or.inl ⟨by kernel_rfl, ?_⟩; intro w hSw; (try dsimp only at hSw); go_simp; try (with_reducible rfl))
              try simp only [Act.put, List.setIfInBounds_toArray, List.set_cons_zero, List.set_cons_succ]
              refine wpP_take (i := 8) (oi := ?oi653009) (v := ?v653009) ?hi653009 (by kernel_rfl) (by kernel_rfl) (by kernel_rfl) (by kernel_rfl) ?hQ653009 ?hy653009 (by assumption) ?rest653009
              case hi653009 => (simp only [List.getElem?_toArray, List.getElem?_cons_succ, List.getElem?_cons_zero]; exact rfl)
              case hQ653009 => exact fun _ _ _ h => h
              case hy653009 => (refine Or.inl ⟨by kernel_rfl, ?_⟩; intro w hSw; (try dsimp only at hSw); go_simp; try (with_reducible rfl))
              try simp only [Act.put, List.setIfInBounds_toArray, List.set_cons_zero, List.set_cons_succ]
              refine wpP_take (i := 9) (oi := ?oi653010) (v := ?v653010) ?hi653010 (by kernel_rfl) (by kernel_rfl) (by kernel_rfl) (by kernel_rfl) ?hQ653010 ?hy653010 (by assumption) ?rest653010
              case hi653010 => (simp only [List.getElem?_toArray, List.getElem?_cons_succ, List.getElem?_cons_zero]; exact rfl)
              case hQ653010 => exact fun _ _ _ h => h
              case hy653010 => (refine Or.inl ⟨by kernel_rfl, ?_⟩; intro w hSw; (try dsimp only at hSw); go_simp; try (with_reducible rfl))
              try simp only [Act.put, List.setIfInBounds_toArray, List.set_cons_zero, List.set_cons_succ]
              refine wpP_take (i := 10) (oi := ?oi653011) (v := ?v653011) ?hi653011 (by kernel_rfl) (by kernel_rfl) (by kernel_rfl) (by kernel_rfl) ?hQ653011 ?hy653011 (by assumption) ?rest653011
              case hi653011 => (simp only [List.getElem?_toArray, List.getElem?_cons_succ, List.getElem?_cons_zero]; exact rfl)
              case hQ653011 => exact fun _ _ _ h => h
              case hy653011 => (refine Or.inl ⟨by kernel_rfl, ?_⟩; intro w hSw; (try dsimp only at hSw); go_simp; try (with_reducible rfl))
              try simp only [Act.put, List.setIfInBounds_toArray, List.set_cons_zero, List.set_cons_succ]
              refine wpP_take (i := 11) (oi := ?oi653012) (v := ?v653012) ?hi653012 (by kernel_rfl) (by kernel_rfl) (by kernel_rfl) (by kernel_rfl) ?hQ653012 ?hy653012 (by assumption) ?rest653012
              case hi653012 => (simp only [List.getElem?_toArray, List.getElem?_cons_succ, List.getElem?_cons_zero]; exact rfl)
              case hQ653012 => exact fun _ _ _ h => h
              case hy653012 => (refine Or.inl ⟨by kernel_rfl, ?_⟩; intro w hSw; (try dsimp only at hSw); go_simp; try (with_reducible rfl))
              try simp only [Act.put, List.setIfInBounds_toArray, List.set_cons_zero, List.set_cons_succ]
              refine wpP_take (i := 12) (oi := ?oi653013) (v := ?v653013) ?hi653013 (by kernel_rfl) (by kernel_rfl) (by kernel_rfl) (by kernel_rfl) ?hQ653013 ?hy653013 (by assumption) ?rest653013
              case hi653013 => (simp only [List.getElem?_toArray, List.getElem?_cons_succ, List.getElem?_cons_zero]; exact rfl)
              case hQ653013 => exact fun _ _ _ h => h
              case hy653013 => (refine Or.inl ⟨by kernel_rfl, ?_⟩; intro w hSw; (try dsimp only at hSw); go_simp; try (with_reducible rfl))
              try simp only [Act.put, List.setIfInBounds_toArray, List.set_cons_zero, List.set_cons_succ]
              refine wpP_take (i := 13) (oi := ?oi653014) (v := ?v653014) ?hi653014 (by kernel_rfl) (by kernel_rfl) (by kernel_rfl) (by kernel_rfl) ?hQ653014 ?hy653014 (by assumption) ?rest653014
              case hi653014 => (simp only [List.getElem?_toArray, List.getElem?_cons_succ, List.getElem?_cons_zero]; exact rfl)
              case hQ653014 => exact fun _ _ _ h => h
              case hy653014 => (refine Or.inl ⟨by kernel_rfl, ?_⟩; intro w hSw; (try dsimp only at hSw); go_simp; try (with_reducible rfl))
              try simp only [Act.put, List.setIfInBounds_toArray, List.set_cons_zero, List.set_cons_succ]
              refine wpP_take (i := 14) (oi := ?oi653015) (v := ?v653015) ?hi653015 (by kernel_rfl) (by kernel_rfl) (by kernel_rfl) (by kernel_rfl) ?hQ653015 ?hy653015 (by assumption) ?rest653015
              case hi653015 => (simp only [List.getElem?_toArray, List.getElem?_cons_succ, List.getElem?_cons_zero]; exact rfl)
              case hQ653015 => exact fun _ _ _ h => h
              case hy653015 => (refine Or.inl ⟨by kernel_rfl, ?_⟩; intro w hSw; (try dsimp only at hSw); go_simp; try (with_reducible rfl))
              try simp only [Act.put, List.setIfInBounds_toArray, List.set_cons_zero, List.set_cons_succ]
              refine wpP_take (i := 15) (oi := ?oi653016) (v := ?v653016) ?hi653016 (by kernel_rfl) (by kernel_rfl) (by kernel_rfl) (by kernel_rfl) ?hQ653016 ?hy653016 (by assumption) ?rest653016
              case hi653016 => (simp only [List.getElem?_toArray, List.getElem?_cons_succ, List.getElem?_cons_zero]; exact rfl)
              case hQ653016 => exact fun _ _ _ h => h
              case hy653016 => (refine Or.inl ⟨by kernel_rfl, ?_⟩; intro w hSw; (try dsimp only at hSw); go_simp; try (with_reducible rfl))
              try simp only [Act.put, List.setIfInBounds_toArray, List.set_cons_zero, List.set_cons_succ]
              refine wpP_ready (rs := [16]) (by kernel_rfl) (by simp) ?_
              refine AllP.cons (o := ?o653017) ?ho653017 (fun K hK => ?_) AllP.nil
              case ho653017 => (simp only [List.getElem?_toArray, List.getElem?_cons_succ, List.getElem?_cons_zero]; exact rfl)
              go_simp
              go_at_call 61
              refine (repeat0_ok z _ (by omega)).mono ?_
              rintro e w8 ⟨rfl, hb8⟩
              have k8 : Below w6.heap.size w6 w8 := below_und hb8
              have d1 := (F6.out.vol.keep k8).cell b (by rw [HLV.out]; exact hbl.2)
              have d2 := (F6.out.vol.keep k8).free b
              refine hK.out _ _ ?_ (fun hHeld => ?_)
              · exact ⟨cell_keep hHeld.1 hb8, cell_keep hHeld.2 hb8⟩
              clear hK K
              try simp only [Act.put, List.setIfInBounds_toArray, List.set_cons_zero, List.set_cons_succ]
              refine wpP_take (i := 17) (oi := ?oi653018) (v := ?v653018) ?hi653018 (by kernel_rfl) (by kernel_rfl) (by kernel_rfl) (by kernel_rfl) ?hQ653018 ?hy653018 (by assumption) ?rest653018
              case hi653018 => (simp only [List.getElem?_toArray, List.getElem?_cons_succ, List.getElem?_cons_zero]; exact rfl)
              case hQ653018 => exact fun _ _ _ h => h
              case hy653018 => (refine Or.inl ⟨by kernel_rfl, ?_⟩; intro w hSw; (try dsimp only at hSw); go_simp; try (with_reducible rfl))
              try simp only [Act.put, List.setIfInBounds_toArray, List.set_cons_zero, List.set_cons_succ]
              refine wpP_take (i := 18) (oi := ?oi653019) (v := ?v653019) ?hi653019 (by kernel_rfl) (by kernel_rfl) (by kernel_rfl) (by kernel_rfl) ?hQ653019 ?hy653019 (by assumption) ?rest653019
              case hi653019 => (simp only [List.getElem?_toArray, List.getElem?_cons_succ, List.getElem?_cons_zero]; exact rfl)
              case hQ653019 => exact fun _ _ _ h => h
              case hy653019 => (refine Or.inl ⟨by kernel_rfl, ?_⟩; intro w hSw; (try dsimp only at hSw); go_simp; try (with_reducible rfl))
              try simp only [Act.put, List.setIfInBounds_toArray, List.set_cons_zero, List.set_cons_succ]
              refine wpP_ready (rs := [19]) (by kernel_rfl) (by simp) ?_
              refine AllP.last (o := ?o653020) ?ho653020 (by kernel_rfl) (fun K hK => ?_) AllP.nil
              case ho653020 => (simp only [List.getElem?_toArray, List.getElem?_cons_succ, List.getElem?_cons_zero]; exact rfl)
              go_simp
              refine hK.out _ _ ?_
              clear hK K
              try simp only [Act.put, List.setIfInBounds_toArray, List.set_cons_zero, List.set_cons_succ]
              refine wpP_done (by kernel_rfl) ?_ _
              go_wp2
              refine bodyPost_end (v := .tuple #[]) (by simp [results, Try.results83, go_sem]) rfl ?_
              refine ⟨rfl, ?_⟩
              first | refine ⟨g4, c4, ?_, ?_⟩ | refine ⟨g4, ⟨c4, ?_⟩, ?_⟩
              · rw [HFV.out]; dsimp only; rw [HRC.out]
                exact ⟨blk_set_other (blk_keep F6.out.blk k8) F6.out.ne _ _, (F6.out.vol.keep k8).set b _ (by rw [HLV.out]; exact hbl.2), by rw [List.length_set]; exact HLV.out, F6.out.ne⟩
              · exact fun B h1 h2 => ⟨(B6.out B h1 h2).1, (below_set ((B6.out B h1 h2).2.trans (k8.mono (by have := F6.out.lt; omega))) (B6.out B h1 h2).1)⟩
        · rw [Bool.not_eq_true] at hg
          rw [hg] at hgood
          have hfv : farV v' x' s = (v', x'.setI 0) := by rw [farV, if_pos h768, hd', hl', if_neg (by rw [hg]; simp)]
          simp only [hfv] at HFAR
          have HFV := Lib.hid hfv
          have hfr := free_of hf.out.blk 18
          have F5 : Hid (FileAt (wr.setCell ⟨F, 18, none⟩ (.int .i64 0)) F g' c' v.length I d n v' (x'.setI 0)) := Lib.hid (hf.out.setI 0)
          have B5 : Hid (∀ B, B ≤ F → B ≤ g → B ≤ g' ∧ Below B w (wr.setCell ⟨F, 18, none⟩ (.int .i64 0))) := Lib.hid (fun B h1 h2 => ⟨(hB.out B h1 h2).1, below_set (hB.out B h1 h2).2 h1⟩)
          clear hfv hg h768
          have hdV : dataV v' = d := by rw [HFAR.out.1.dat, hd']
          have hlV : (v').length = v.length := by rw [HFAR.out.1.len, hl']
          have hSV := (okV_iff.1 HFAR.out.1.ok).size
          have hat2 := Lib.hid (fun g c w hf => at_ok F g c v.length I d n v' (x'.setI 0) q w hf hq70 hd0 (by rw [← hlV]; exact hSV) (by omega))
          have hrv : restV v' (x'.setI 0) s = if r = 0 ∨ atN d v.length v' (x'.setI 0) q = 0 then v' else (v').set (atN d v.length v' (x'.setI 0) q) ((bk v' (atN d v.length v' (x'.setI 0) q)).take r ++ zs z) := by rw [restV, hdV, hlV, hq, hr, hz]
          have HSV := Lib.hid hSV
          have HLV := Lib.hid hlV
          clear hSV hlV hdV hq hr hz
          obtain ⟨b, hb⟩ : ∃ b, atN d v.length v' (x'.setI 0) q = b := ⟨_, rfl⟩
          rw [hb] at hat2 hrv
          by_cases hr0 : r = 0
          · rw [if_pos (.inl hr0)] at hrv
            have HRC := Lib.hid hrv
            have hri0 : ¬ ((0 : Int) < (r : Int)) := by omega
            clear hr0 hb hrv
            go_wp2_with (first
              | (go_at_call 63; refine hgood.out.mono ?_; rintro e w2 ⟨rfl, rfl⟩)
              | fail)
            refine bodyPost_end (v := .tuple #[]) (by simp [results, Try.results83, go_sem]) rfl ?_
            refine ⟨rfl, ?_⟩
            first | refine ⟨g', c', ?_, ?_⟩ | refine ⟨g', ⟨c', ?_⟩, ?_⟩
            · rw [HFV.out]; dsimp only; rw [HRC.out]
              exact F5.out
            · exact B5.out
          · have hri0 : (0 : Int) < (r : Int) := by omega
            by_cases hb0 : b = 0
            · rw [if_pos (.inr hb0)] at hrv
              have HRC := Lib.hid hrv
              rw [hb0, show holeI 0 = -1 from rfl] at hat2
              clear hr0 hb0 hb hrv
              go_wp2_with (first
                | (go_at_call 63; refine hgood.out.mono ?_; rintro e w2 ⟨rfl, rfl⟩)
                | (go_at_call 96; refine (hat2.out _ _ _ F5.out).mono ?_; rintro e w6 ⟨rfl, hb6⟩; have F6 := Lib.hid (F5.out.keep hb6); have B6 : Hid (∀ B, B ≤ F → B ≤ g → B ≤ g' ∧ Below B w w6) := Lib.hid (fun B h1 h2 => ⟨(B5.out B h1 h2).1, (B5.out B h1 h2).2.trans (hb6.mono (by have := F5.out.lt; omega))⟩); clear hb6)
                | fail)
              refine bodyPost_end (v := .tuple #[]) (by simp [results, Try.results83, go_sem]) rfl ?_
              refine ⟨rfl, ?_⟩
              first | refine ⟨g', c', ?_, ?_⟩ | refine ⟨g', ⟨c', ?_⟩, ?_⟩
              · rw [HFV.out]; dsimp only; rw [HRC.out]
                exact F6.out
              · exact B6.out
            · rw [if_neg (by rw [not_or]; exact ⟨hr0, hb0⟩)] at hrv
              rw [holeI, if_neg hb0] at hat2
              have hbl := atN_lt' (d := d) (L := v.length) (v := v') (x := (x'.setI 0)) (k := q) (by rw [hb]; exact hb0)
              rw [hb] at hbl
              have hbn : ((b : Int) != -1) = true := by simp
              have hbi : (b : Int) < (v.length : Nat) := by omega
              obtain ⟨S, hS⟩ : ∃ S, bk v' b = S := ⟨_, rfl⟩
              have hS1 : S.length = 128 := by rw [← hS]; exact HSV.out b (by rw [HLV.out]; exact hbl.2)
              rw [hS] at hrv
              have HRC := Lib.hid hrv
              have HSB := Lib.hid hS
              clear hr0 hb0 hb hS hrv
              go_wp2_with (first
                | (go_at_call 63; refine hgood.out.mono ?_; rintro e w2 ⟨rfl, rfl⟩)
                | (go_at_call 96; refine (hat2.out _ _ _ F5.out).mono ?_; rintro e w6 ⟨rfl, hb6⟩; have F6 := Lib.hid (F5.out.keep hb6); have B6 : Hid (∀ B, B ≤ F → B ≤ g → B ≤ g' ∧ Below B w w6) := Lib.hid (fun B h1 h2 => ⟨(B5.out B h1 h2).1, (B5.out B h1 h2).2.trans (hb6.mono (by have := F5.out.lt; omega))⟩); clear hb6)
                | fail)
              have q0 : w6.cell? ⟨F, 0, none⟩ = some (.slice (some ⟨g', 0, none⟩) v.length c') := by rw [cell_at F6.out.blk]; rfl
              have q1 : w6.cell? ⟨g', b, none⟩ = some (.string (mk S)) := by rw [← HSB.out]; exact F6.out.vol.cell b (by rw [HLV.out]; exact hbl.2)
              refine region_P (fun w' => w'.cell? ⟨F, 0, none⟩ = some (.slice (some ⟨g', 0, none⟩) v.length c') ∧ w'.cell? ⟨g', b, none⟩ = some (.string (mk S))) [19] (by kernel_rfl) ?_ (fun hHeld => ?_)
              · exact ⟨q0, q1⟩
              refine wpP_take (i := 0) (oi := ?oi653021) (v := ?v653021) ?hi653021 (by kernel_rfl) (by kernel_rfl) (by kernel_rfl) (by kernel_rfl) ?hQ653021 ?hy653021 (by assumption) ?rest653021
              case hi653021 => (simp only [List.getElem?_toArray, List.getElem?_cons_succ, List.getElem?_cons_zero]; exact rfl)
              case hQ653021 => exact fun _ _ _ h => h
              case hy653021 => (refine Or.inl ⟨by kernel_rfl, ?_⟩; intro w hSw; (try dsimp only at hSw); go_simp; try (with_reducible rfl))
              try simp only [Act.put, List.setIfInBounds_toArray, List.set_cons_zero, List.set_cons_succ]
              refine wpP_take (i := 1) (oi := ?oi653022) (v := ?v653022) ?hi653022 (by kernel_rfl) (by kernel_rfl) (by kernel_rfl) (by kernel_rfl) ?hQ653022 ?hy653022 (by assumption) ?rest653022
              case hi653022 => (simp only [List.getElem?_toArray, List.getElem?_cons_succ, List.getElem?_cons_zero]; exact rfl)
              case hQ653022 => exact fun _ _ _ h => h
              case hy653022 => (refine Or.inl ⟨by kernel_rfl, ?_⟩; intro w hSw; (try dsimp only at hSw); go_simp; try (with_reducible rfl))
              try simp only [Act.put, List.setIfInBounds_toArray, List.set_cons_zero, List.set_cons_succ]
              refine wpP_take (i := 2) (oi := ?oi653023) (v := ?v653023) ?hi653023 (by kernel_rfl) (by kernel_rfl) (by kernel_rfl) (by kernel_rfl) ?hQ653023 ?hy653023 (by assumption) ?rest653023
              case hi653023 => (simp only [List.getElem?_toArray, List.getElem?_cons_succ, List.getElem?_cons_zero]; exact rfl)
              case hQ653023 => exact fun _ _ _ h => h
              case hy653023 => (refine Or.inl ⟨by kernel_rfl, ?_⟩; intro w hSw; (try dsimp only at hSw); go_simp; try (with_reducible rfl))
              try simp only [Act.put, List.setIfInBounds_toArray, List.set_cons_zero, List.set_cons_succ]
              refine wpP_take (i := 3) (oi := ?oi653024) (v := ?v653024) ?hi653024 (by kernel_rfl) (by kernel_rfl) (by kernel_rfl) (by kernel_rfl) ?hQ653024 ?hy653024 (by assumption) ?rest653024
              case hi653024 => (simp only [List.getElem?_toArray, List.getElem?_cons_succ, List.getElem?_cons_zero]; exact rfl)
              case hQ653024 => exact fun _ _ _ h => h
              case hy653024 => (refine Or.inl ⟨by kernel_rfl, ?_⟩; intro w hSw; (try dsimp only at hSw); go_simp; try (with_reducible rfl))
              try simp only [Act.put, List.setIfInBounds_toArray, List.set_cons_zero, List.set_cons_succ]
              refine wpP_take (i := 4) (oi := ?oi653025) (v := ?v653025) ?hi653025 (by kernel_rfl) (by kernel_rfl) (by kernel_rfl) (by kernel_rfl) ?hQ653025 ?hy653025 (by assumption) ?rest653025
              case hi653025 => (simp only [List.getElem?_toArray, List.getElem?_cons_succ, List.getElem?_cons_zero]; exact rfl)
              case hQ653025 => exact fun _ _ _ h => h
              case hy653025 => (refine Or.inl ⟨by kernel_rfl, ?_⟩; intro w hSw; (try dsimp only at hSw); go_simp; try (with_reducible rfl))
              try simp only [Act.put, List.setIfInBounds_toArray, List.set_cons_zero, List.set_cons_succ]
              refine wpP_take (i := 5) (oi := ?oi653026) (v := ?v653026) ?hi653026 (by kernel_rfl) (by kernel_rfl) (by kernel_rfl) (by kernel_rfl) ?hQ653026 ?hy653026 (by assumption) ?rest653026
              case hi653026 => (simp only [List.getElem?_toArray, List.getElem?_cons_succ, List.getElem?_cons_zero]; exact rfl)
              case hQ653026 => exact fun _ _ _ h => h
              case hy653026 => (refine Or.inl ⟨by kernel_rfl, ?_⟩; intro w hSw; (try dsimp only at hSw); go_simp; try (with_reducible rfl))
              try simp only [Act.put, List.setIfInBounds_toArray, List.set_cons_zero, List.set_cons_succ]
              refine wpP_take (i := 6) (oi := ?oi653027) (v := ?v653027) ?hi653027 (by kernel_rfl) (by kernel_rfl) (by kernel_rfl) (by kernel_rfl) ?hQ653027 ?hy653027 (by assumption) ?rest653027
              case hi653027 => (simp only [List.getElem?_toArray, List.getElem?_cons_succ, List.getElem?_cons_zero]; exact rfl)
              case hQ653027 => exact fun _ _ _ h => h
              case hy653027 => (refine Or.inl ⟨by kernel_rfl, ?_⟩; intro w hSw; (try dsimp only at hSw); go_simp; try (with_reducible rfl))
              try simp only [Act.put, List.setIfInBounds_toArray, List.set_cons_zero, List.set_cons_succ]
              refine wpP_take (i := 7) (oi := ?oi653028) (v := ?v653028) ?hi653028 (by kernel_rfl) (by kernel_rfl) (by kernel_rfl) (by kernel_rfl) ?hQ653028 ?hy653028 (by assumption) ?rest653028
              case hi653028 => (simp only [List.getElem?_toArray, List.getElem?_cons_succ, List.getElem?_cons_zero]; exact rfl)
              case hQ653028 => exact fun _ _ _ h => h
              case hy653028 => (refine Or.inl ⟨by kernel_rfl, ?_⟩; intro w hSw; (try dsimp only at hSw); go_simp; try (with_reducible rfl))
              try simp only [Act.put, List.setIfInBounds_toArray, List.set_cons_zero, List.set_cons_succ]
              refine wpP_take (i := 8) (oi := ?oi653029) (v := ?v653029) ?hi653029 (by kernel_rfl) (by kernel_rfl) (by kernel_rfl) (by kernel_rfl) ?hQ653029 ?hy653029 (by assumption) ?rest653029
              case hi653029 => (simp only [List.getElem?_toArray, List.getElem?_cons_succ, List.getElem?_cons_zero]; exact rfl)
              case hQ653029 => exact fun _ _ _ h => h
              case hy653029 => (refine Or.inl ⟨by kernel_rfl, ?_⟩; intro w hSw; (try dsimp only at hSw); go_simp; try (with_reducible rfl))
              try simp only [Act.put, List.setIfInBounds_toArray, List.set_cons_zero, List.set_cons_succ]
              refine wpP_take (i := 9) (oi := ?oi653030) (v := ?v653030) ?hi653030 (by kernel_rfl) (by kernel_rfl) (by kernel_rfl) (by kernel_rfl) ?hQ653030 ?hy653030 (by assumption) ?rest653030
              case hi653030 => (simp only [List.getElem?_toArray, List.getElem?_cons_succ, List.getElem?_cons_zero]; exact rfl)
              case hQ653030 => exact fun _ _ _ h => h
              case hy653030 => (refine Or.inl ⟨by kernel_rfl, ?_⟩; intro w hSw; (try dsimp only at hSw); go_simp; try (with_reducible rfl))
              try simp only [Act.put, List.setIfInBounds_toArray, List.set_cons_zero, List.set_cons_succ]
              refine wpP_take (i := 10) (oi := ?oi653031) (v := ?v653031) ?hi653031 (by kernel_rfl) (by kernel_rfl) (by kernel_rfl) (by kernel_rfl) ?hQ653031 ?hy653031 (by assumption) ?rest653031
              case hi653031 => (simp only [List.getElem?_toArray, List.getElem?_cons_succ, List.getElem?_cons_zero]; exact rfl)
              case hQ653031 => exact fun _ _ _ h => h
              case hy653031 => (refine Or.inl ⟨by kernel_rfl, ?_⟩; intro w hSw; (try dsimp only at hSw); go_simp; try (with_reducible rfl))
              try simp only [Act.put, List.setIfInBounds_toArray, List.set_cons_zero, List.set_cons_succ]
              refine wpP_take (i := 11) (oi := ?oi653032) (v := ?v653032) ?hi653032 (by kernel_rfl) (by kernel_rfl) (by kernel_rfl) (by kernel_rfl) ?hQ653032 ?hy653032 (by assumption) ?rest653032
              case hi653032 => (simp only [List.getElem?_toArray, List.getElem?_cons_succ, List.getElem?_cons_zero]; exact rfl)
              case hQ653032 => exact fun _ _ _ h => h
              case hy653032 => (refine Or.inl ⟨by kernel_rfl, ?_⟩; intro w hSw; (try dsimp only at hSw); go_simp; try (with_reducible rfl))
              try simp only [Act.put, List.setIfInBounds_toArray, List.set_cons_zero, List.set_cons_succ]
              refine wpP_take (i := 12) (oi := ?oi653033) (v := ?v653033) ?hi653033 (by kernel_rfl) (by kernel_rfl) (by kernel_rfl) (by kernel_rfl) ?hQ653033 ?hy653033 (by assumption) ?rest653033
              case hi653033 => (simp only [List.getElem?_toArray, List.getElem?_cons_succ, List.getElem?_cons_zero]; exact rfl)
              case hQ653033 => exact fun _ _ _ h => h
              case hy653033 => (refine Or.inl ⟨by kernel_rfl, ?_⟩; intro w hSw; (try dsimp only at hSw); go_simp; try (with_reducible rfl))
              try simp only [Act.put, List.setIfInBounds_toArray, List.set_cons_zero, List.set_cons_succ]
              refine wpP_take (i := 13) (oi := ?oi653034) (v := ?v653034) ?hi653034 (by kernel_rfl) (by kernel_rfl) (by kernel_rfl) (by kernel_rfl) ?hQ653034 ?hy653034 (by assumption) ?rest653034
              case hi653034 => (simp only [List.getElem?_toArray, List.getElem?_cons_succ, List.getElem?_cons_zero]; exact rfl)
              case hQ653034 => exact fun _ _ _ h => h
              case hy653034 => (refine Or.inl ⟨by kernel_rfl, ?_⟩; intro w hSw; (try dsimp only at hSw); go_simp; try (with_reducible rfl))
              try simp only [Act.put, List.setIfInBounds_toArray, List.set_cons_zero, List.set_cons_succ]
              refine wpP_take (i := 14) (oi := ?oi653035) (v := ?v653035) ?hi653035 (by kernel_rfl) (by kernel_rfl) (by kernel_rfl) (by kernel_rfl) ?hQ653035 ?hy653035 (by assumption) ?rest653035
              case hi653035 => (simp only [List.getElem?_toArray, List.getElem?_cons_succ, List.getElem?_cons_zero]; exact rfl)
              case hQ653035 => exact fun _ _ _ h => h
              case hy653035 => (refine Or.inl ⟨by kernel_rfl, ?_⟩; intro w hSw; (try dsimp only at hSw); go_simp; try (with_reducible rfl))
              try simp only [Act.put, List.setIfInBounds_toArray, List.set_cons_zero, List.set_cons_succ]
              refine wpP_take (i := 15) (oi := ?oi653036) (v := ?v653036) ?hi653036 (by kernel_rfl) (by kernel_rfl) (by kernel_rfl) (by kernel_rfl) ?hQ653036 ?hy653036 (by assumption) ?rest653036
              case hi653036 => (simp only [List.getElem?_toArray, List.getElem?_cons_succ, List.getElem?_cons_zero]; exact rfl)
              case hQ653036 => exact fun _ _ _ h => h
              case hy653036 => (refine Or.inl ⟨by kernel_rfl, ?_⟩; intro w hSw; (try dsimp only at hSw); go_simp; try (with_reducible rfl))
              try simp only [Act.put, List.setIfInBounds_toArray, List.set_cons_zero, List.set_cons_succ]
              refine wpP_ready (rs := [16]) (by kernel_rfl) (by simp) ?_
              refine AllP.cons (o := ?o653037) ?ho653037 (fun K hK => ?_) AllP.nil
              case ho653037 => (simp only [List.getElem?_toArray, List.getElem?_cons_succ, List.getElem?_cons_zero]; exact rfl)
              go_simp
              go_at_call 61
              refine (repeat0_ok z _ (by omega)).mono ?_
              rintro e w8 ⟨rfl, hb8⟩
              have k8 : Below w6.heap.size w6 w8 := below_und hb8
              have d1 := (F6.out.vol.keep k8).cell b (by rw [HLV.out]; exact hbl.2)
              have d2 := (F6.out.vol.keep k8).free b
              refine hK.out _ _ ?_ (fun hHeld => ?_)
              · exact ⟨cell_keep hHeld.1 hb8, cell_keep hHeld.2 hb8⟩
              clear hK K
              try simp only [Act.put, List.setIfInBounds_toArray, List.set_cons_zero, List.set_cons_succ]
              refine wpP_take (i := 17) (oi := ?oi653038) (v := ?v653038) ?hi653038 (by kernel_rfl) (by kernel_rfl) (by kernel_rfl) (by kernel_rfl) ?hQ653038 ?hy653038 (by assumption) ?rest653038
              case hi653038 => (simp only [List.getElem?_toArray, List.getElem?_cons_succ, List.getElem?_cons_zero]; exact rfl)
              case hQ653038 => exact fun _ _ _ h => h
              case hy653038 => (refine Or.inl ⟨by kernel_rfl, ?_⟩; intro w hSw; (try dsimp only at hSw); go_simp; try (with_reducible rfl))
              try simp only [Act.put, List.setIfInBounds_toArray, List.set_cons_zero, List.set_cons_succ]
              refine wpP_take (i := 18) (oi := ?oi653039) (v := ?v653039) ?hi653039 (by kernel_rfl) (by kernel_rfl) (by kernel_rfl) (by kernel_rfl) ?hQ653039 ?hy653039 (by assumption) ?rest653039
              case hi653039 => (simp only [List.getElem?_toArray, List.getElem?_cons_succ, List.getElem?_cons_zero]; exact rfl)
              case hQ653039 => exact fun _ _ _ h => h
              case hy653039 => (refine Or.inl ⟨by kernel_rfl, ?_⟩; intro w hSw; (try dsimp only at hSw); go_simp; try (with_reducible rfl))
              try simp only [Act.put, List.setIfInBounds_toArray, List.set_cons_zero, List.set_cons_succ]
              refine wpP_ready (rs := [19]) (by kernel_rfl) (by simp) ?_
              refine AllP.last (o := ?o653040) ?ho653040 (by kernel_rfl) (fun K hK => ?_) AllP.nil
              case ho653040 => (simp only [List.getElem?_toArray, List.getElem?_cons_succ, List.getElem?_cons_zero]; exact rfl)
              go_simp
              refine hK.out _ _ ?_
              clear hK K
              try simp only [Act.put, List.setIfInBounds_toArray, List.set_cons_zero, List.set_cons_succ]
              refine wpP_done (by kernel_rfl) ?_ _
              go_wp2
              refine bodyPost_end (v := .tuple #[]) (by simp [results, Try.results83, go_sem]) rfl ?_
              refine ⟨rfl, ?_⟩
              first | refine ⟨g', c', ?_, ?_⟩ | refine ⟨g', ⟨c', ?_⟩, ?_⟩
              · rw [HFV.out]; dsimp only; rw [HRC.out]
                exact ⟨blk_set_other (blk_keep F6.out.blk k8) F6.out.ne _ _, (F6.out.vol.keep k8).set b _ (by rw [HLV.out]; exact hbl.2), by rw [List.length_set]; exact HLV.out, F6.out.ne⟩
              · exact fun B h1 h2 => ⟨(B6.out B h1 h2).1, (below_set ((B6.out B h1 h2).2.trans (k8.mono (by have := F6.out.lt; omega))) (B6.out B h1 h2).1)⟩
      · have h7 : ¬ (s : Int) ≤ 768 := by omega
        have hfv : farV v' x' s = (v', x') := by rw [farV, if_neg h768]
        simp only [hfv] at HFAR
        have HFV := Lib.hid hfv
        have F5 := hf
        have B5 := hB
        clear hfv h768
        have hdV : dataV v' = d := by rw [HFAR.out.1.dat, hd']
        have hlV : (v').length = v.length := by rw [HFAR.out.1.len, hl']
        have hSV := (okV_iff.1 HFAR.out.1.ok).size
        have hat2 := Lib.hid (fun g c w hf => at_ok F g c v.length I d n v' x' q w hf hq70 hd0 (by rw [← hlV]; exact hSV) (by omega))
        have hrv : restV v' x' s = if r = 0 ∨ atN d v.length v' x' q = 0 then v' else (v').set (atN d v.length v' x' q) ((bk v' (atN d v.length v' x' q)).take r ++ zs z) := by rw [restV, hdV, hlV, hq, hr, hz]
        have HSV := Lib.hid hSV
        have HLV := Lib.hid hlV
        clear hSV hlV hdV hq hr hz
        obtain ⟨b, hb⟩ : ∃ b, atN d v.length v' x' q = b := ⟨_, rfl⟩
        rw [hb] at hat2 hrv
        by_cases hr0 : r = 0
        · rw [if_pos (.inl hr0)] at hrv
          have HRC := Lib.hid hrv
          have hri0 : ¬ ((0 : Int) < (r : Int)) := by omega
          clear hr0 hb hrv
          go_wp2
          refine bodyPost_end (v := .tuple #[]) (by simp [results, Try.results83, go_sem]) rfl ?_
          refine ⟨rfl, ?_⟩
          first | refine ⟨g', c', ?_, ?_⟩ | refine ⟨g', ⟨c', ?_⟩, ?_⟩
          · rw [HFV.out]; dsimp only; rw [HRC.out]
            exact F5.out
          · exact B5.out
        · have hri0 : (0 : Int) < (r : Int) := by omega
          by_cases hb0 : b = 0
          · rw [if_pos (.inr hb0)] at hrv
            have HRC := Lib.hid hrv
            rw [hb0, show holeI 0 = -1 from rfl] at hat2
            clear hr0 hb0 hb hrv
            go_wp2_with (first
              | (go_at_call 96; refine (hat2.out _ _ _ F5.out).mono ?_; rintro e w6 ⟨rfl, hb6⟩; have F6 := Lib.hid (F5.out.keep hb6); have B6 : Hid (∀ B, B ≤ F → B ≤ g → B ≤ g' ∧ Below B w w6) := Lib.hid (fun B h1 h2 => ⟨(B5.out B h1 h2).1, (B5.out B h1 h2).2.trans (hb6.mono (by have := F5.out.lt; omega))⟩); clear hb6)
              | fail)
            refine bodyPost_end (v := .tuple #[]) (by simp [results, Try.results83, go_sem]) rfl ?_
            refine ⟨rfl, ?_⟩
            first | refine ⟨g', c', ?_, ?_⟩ | refine ⟨g', ⟨c', ?_⟩, ?_⟩
            · rw [HFV.out]; dsimp only; rw [HRC.out]
              exact F6.out
            · exact B6.out
          · rw [if_neg (by rw [not_or]; exact ⟨hr0, hb0⟩)] at hrv
            rw [holeI, if_neg hb0] at hat2
            have hbl := atN_lt' (d := d) (L := v.length) (v := v') (x := x') (k := q) (by rw [hb]; exact hb0)
            rw [hb] at hbl
            have hbn : ((b : Int) != -1) = true := by simp
            have hbi : (b : Int) < (v.length : Nat) := by omega
            obtain ⟨S, hS⟩ : ∃ S, bk v' b = S := ⟨_, rfl⟩
            have hS1 : S.length = 128 := by rw [← hS]; exact HSV.out b (by rw [HLV.out]; exact hbl.2)
            rw [hS] at hrv
            have HRC := Lib.hid hrv
            have HSB := Lib.hid hS
            clear hr0 hb0 hb hS hrv
            go_wp2_with (first
              | (go_at_call 96; refine (hat2.out _ _ _ F5.out).mono ?_; rintro e w6 ⟨rfl, hb6⟩; have F6 := Lib.hid (F5.out.keep hb6); have B6 : Hid (∀ B, B ≤ F → B ≤ g → B ≤ g' ∧ Below B w w6) := Lib.hid (fun B h1 h2 => ⟨(B5.out B h1 h2).1, (B5.out B h1 h2).2.trans (hb6.mono (by have := F5.out.lt; omega))⟩); clear hb6)
              | fail)
            have q0 : w6.cell? ⟨F, 0, none⟩ = some (.slice (some ⟨g', 0, none⟩) v.length c') := by rw [cell_at F6.out.blk]; rfl
            have q1 : w6.cell? ⟨g', b, none⟩ = some (.string (mk S)) := by rw [← HSB.out]; exact F6.out.vol.cell b (by rw [HLV.out]; exact hbl.2)
            refine region_P (fun w' => w'.cell? ⟨F, 0, none⟩ = some (.slice (some ⟨g', 0, none⟩) v.length c') ∧ w'.cell? ⟨g', b, none⟩ = some (.string (mk S))) [19] (by kernel_rfl) ?_ (fun hHeld => ?_)
            · exact ⟨q0, q1⟩
            refine wpP_take (i := 0) (oi := ?oi653041) (v := ?v653041) ?hi653041 (by kernel_rfl) (by kernel_rfl) (by kernel_rfl) (by kernel_rfl) ?hQ653041 ?hy653041 (by assumption) ?rest653041
            case hi653041 => (simp only [List.getElem?_toArray, List.getElem?_cons_succ, List.getElem?_cons_zero]; exact rfl)
            case hQ653041 => exact fun _ _ _ h => h
            case hy653041 => (refine Or.inl ⟨by kernel_rfl, ?_⟩; intro w hSw; (try dsimp only at hSw); go_simp; try (with_reducible rfl))
            try simp only [Act.put, List.setIfInBounds_toArray, List.set_cons_zero, List.set_cons_succ]
            refine wpP_take (i := 1) (oi := ?oi653042) (v := ?v653042) ?hi653042 (by kernel_rfl) (by kernel_rfl) (by kernel_rfl) (by kernel_rfl) ?hQ653042 ?hy653042 (by assumption) ?rest653042
            case hi653042 => (simp only [List.getElem?_toArray, List.getElem?_cons_succ, List.getElem?_cons_zero]; exact rfl)
            case hQ653042 => exact fun _ _ _ h => h
            case hy653042 => (refine Or.inl ⟨by kernel_rfl, ?_⟩; intro w hSw; (try dsimp only at hSw); go_simp; try (with_reducible rfl))
            try simp only [Act.put, List.setIfInBounds_toArray, List.set_cons_zero, List.set_cons_succ]
            refine wpP_take (i := 2) (oi := ?oi653043) (v := ?v653043) ?hi653043 (by kernel_rfl) (by kernel_rfl) (by kernel_rfl) (by kernel_rfl) ?hQ653043 ?hy653043 (by assumption) ?rest653043
            case hi653043 => (simp only [List.getElem?_toArray, List.getElem?_cons_succ, List.getElem?_cons_zero]; exact rfl)
            case hQ653043 => exact fun _ _ _ h => h
            case hy653043 => (refine Or.inl ⟨by kernel_rfl, ?_⟩; intro w hSw; (try dsimp only at hSw); go_simp; try (with_reducible rfl))
            try simp only [Act.put, List.setIfInBounds_toArray, List.set_cons_zero, List.set_cons_succ]
            refine wpP_take (i := 3) (oi := ?oi653044) (v := ?v653044) ?hi653044 (by kernel_rfl) (by kernel_rfl) (by kernel_rfl) (by kernel_rfl) ?hQ653044 ?hy653044 (by assumption) ?rest653044
            case hi653044 => (simp only [List.getElem?_toArray, List.getElem?_cons_succ, List.getElem?_cons_zero]; exact rfl)
            case hQ653044 => exact fun _ _ _ h => h
            case hy653044 => (refine Or.inl ⟨by kernel_rfl, ?_⟩; intro w hSw; (try dsimp only at hSw); go_simp; try (with_reducible rfl))
            try simp only [Act.put, List.setIfInBounds_toArray, List.set_cons_zero, List.set_cons_succ]
            refine wpP_take (i := 4) (oi := ?oi653045) (v := ?v653045) ?hi653045 (by kernel_rfl) (by kernel_rfl) (by kernel_rfl) (by kernel_rfl) ?hQ653045 ?hy653045 (by assumption) ?rest653045
            case hi653045 => (simp only [List.getElem?_toArray, List.getElem?_cons_succ, List.getElem?_cons_zero]; exact rfl)
            case hQ653045 => exact fun _ _ _ h => h
            case hy653045 => (refine Or.inl ⟨by kernel_rfl, ?_⟩; intro w hSw; (try dsimp only at hSw); go_simp; try (with_reducible rfl))
            try simp only [Act.put, List.setIfInBounds_toArray, List.set_cons_zero, List.set_cons_succ]
            refine wpP_take (i := 5) (oi := ?oi653046) (v := ?v653046) ?hi653046 (by kernel_rfl) (by kernel_rfl) (by kernel_rfl) (by kernel_rfl) ?hQ653046 ?hy653046 (by assumption) ?rest653046
            case hi653046 => (simp only [List.getElem?_toArray, List.getElem?_cons_succ, List.getElem?_cons_zero]; exact rfl)
            case hQ653046 => exact fun _ _ _ h => h
            case hy653046 => (refine Or.inl ⟨by kernel_rfl, ?_⟩; intro w hSw; (try dsimp only at hSw); go_simp; try (with_reducible rfl))
            try simp only [Act.put, List.setIfInBounds_toArray, List.set_cons_zero, List.set_cons_succ]
            refine wpP_take (i := 6) (oi := ?oi653047) (v := ?v653047) ?hi653047 (by kernel_rfl) (by kernel_rfl) (by kernel_rfl) (by kernel_rfl) ?hQ653047 ?hy653047 (by assumption) ?rest653047
            case hi653047 => (simp only [List.getElem?_toArray, List.getElem?_cons_succ, List.getElem?_cons_zero]; exact rfl)
            case hQ653047 => exact fun _ _ _ h => h
            case hy653047 => (refine Or.inl ⟨by kernel_rfl, ?_⟩; intro w hSw; (try dsimp only at hSw); go_simp; try (with_reducible rfl))
            try simp only [Act.put, List.setIfInBounds_toArray, List.set_cons_zero, List.set_cons_succ]
            refine wpP_take (i := 7) (oi := ?oi653048) (v := ?v653048) ?hi653048 (by kernel_rfl) (by kernel_rfl) (by kernel_rfl) (by kernel_rfl) ?hQ653048 ?hy653048 (by assumption) ?rest653048
            case hi653048 => (simp only [List.getElem?_toArray, List.getElem?_cons_succ, List.getElem?_cons_zero]; exact rfl)
            case hQ653048 => exact fun _ _ _ h => h
            case hy653048 => (refine Or.inl ⟨by kernel_rfl, ?_⟩; intro w hSw; (try dsimp only at hSw); go_simp; try (with_reducible rfl))
            try simp only [Act.put, List.setIfInBounds_toArray, List.set_cons_zero, List.set_cons_succ]
            refine wpP_take (i := 8) (oi := ?oi653049) (v := ?v653049) ?hi653049 (by kernel_rfl) (by kernel_rfl) (by kernel_rfl) (by kernel_rfl) ?hQ653049 ?hy653049 (by assumption) ?rest653049
            case hi653049 => (simp only [List.getElem?_toArray, List.getElem?_cons_succ, List.getElem?_cons_zero]; exact rfl)
            case hQ653049 => exact fun _ _ _ h => h
            case hy653049 => (refine Or.inl ⟨by kernel_rfl, ?_⟩; intro w hSw; (try dsimp only at hSw); go_simp; try (with_reducible rfl))
            try simp only [Act.put, List.setIfInBounds_toArray, List.set_cons_zero, List.set_cons_succ]
            refine wpP_take (i := 9) (oi := ?oi653050) (v := ?v653050) ?hi653050 (by kernel_rfl) (by kernel_rfl) (by kernel_rfl) (by kernel_rfl) ?hQ653050 ?hy653050 (by assumption) ?rest653050
            case hi653050 => (simp only [List.getElem?_toArray, List.getElem?_cons_succ, List.getElem?_cons_zero]; exact rfl)
            case hQ653050 => exact fun _ _ _ h => h
            case hy653050 => (refine Or.inl ⟨by kernel_rfl, ?_⟩; intro w hSw; (try dsimp only at hSw); go_simp; try (with_reducible rfl))
            try simp only [Act.put, List.setIfInBounds_toArray, List.set_cons_zero, List.set_cons_succ]
            refine wpP_take (i := 10) (oi := ?oi653051) (v := ?v653051) ?hi653051 (by kernel_rfl) (by kernel_rfl) (by kernel_rfl) (by kernel_rfl) ?hQ653051 ?hy653051 (by assumption) ?rest653051
            case hi653051 => (simp only [List.getElem?_toArray, List.getElem?_cons_succ, List.getElem?_cons_zero]; exact rfl)
            case hQ653051 => exact fun _ _ _ h => h
            case hy653051 => (refine Or.inl ⟨by kernel_rfl, ?_⟩; intro w hSw; (try dsimp only at hSw); go_simp; try (with_reducible rfl))
            try simp only [Act.put, List.setIfInBounds_toArray, List.set_cons_zero, List.set_cons_succ]
            refine wpP_take (i := 11) (oi := ?oi653052) (v := ?v653052) ?hi653052 (by kernel_rfl) (by kernel_rfl) (by kernel_rfl) (by kernel_rfl) ?hQ653052 ?hy653052 (by assumption) ?rest653052
            case hi653052 => (simp only [List.getElem?_toArray, List.getElem?_cons_succ, List.getElem?_cons_zero]; exact rfl)
            case hQ653052 => exact fun _ _ _ h => h
            case hy653052 => (refine Or.inl ⟨by kernel_rfl, ?_⟩; intro w hSw; (try dsimp only at hSw); go_simp; try (with_reducible rfl))
            try simp only [Act.put, List.setIfInBounds_toArray, List.set_cons_zero, List.set_cons_succ]
            refine wpP_take (i := 12) (oi := ?oi653053) (v := ?v653053) ?hi653053 (by kernel_rfl) (by kernel_rfl) (by kernel_rfl) (by kernel_rfl) ?hQ653053 ?hy653053 (by assumption) ?rest653053
            case hi653053 => (simp only [List.getElem?_toArray, List.getElem?_cons_succ, List.getElem?_cons_zero]; exact rfl)
            case hQ653053 => exact fun _ _ _ h => h
            case hy653053 => (refine Or.inl ⟨by kernel_rfl, ?_⟩; intro w hSw; (try dsimp only at hSw); go_simp; try (with_reducible rfl))
            try simp only [Act.put, List.setIfInBounds_toArray, List.set_cons_zero, List.set_cons_succ]
            refine wpP_take (i := 13) (oi := ?oi653054) (v := ?v653054) ?hi653054 (by kernel_rfl) (by kernel_rfl) (by kernel_rfl) (by kernel_rfl) ?hQ653054 ?hy653054 (by assumption) ?rest653054
            case hi653054 => (simp only [List.getElem?_toArray, List.getElem?_cons_succ, List.getElem?_cons_zero]; exact rfl)
            case hQ653054 => exact fun _ _ _ h => h
            case hy653054 => (refine Or.inl ⟨by kernel_rfl, ?_⟩; intro w hSw; (try dsimp only at hSw); go_simp; try (with_reducible rfl))
            try simp only [Act.put, List.setIfInBounds_toArray, List.set_cons_zero, List.set_cons_succ]
            refine wpP_take (i := 14) (oi := ?oi653055) (v := ?v653055) ?hi653055 (by kernel_rfl) (by kernel_rfl) (by kernel_rfl) (by kernel_rfl) ?hQ653055 ?hy653055 (by assumption) ?rest653055
            case hi653055 => (simp only [List.getElem?_toArray, List.getElem?_cons_succ, List.getElem?_cons_zero]; exact rfl)
            case hQ653055 => exact fun _ _ _ h => h
            case hy653055 => (refine Or.inl ⟨by kernel_rfl, ?_⟩; intro w hSw; (try dsimp only at hSw); go_simp; try (with_reducible rfl))
            try simp only [Act.put, List.setIfInBounds_toArray, List.set_cons_zero, List.set_cons_succ]
            refine wpP_take (i := 15) (oi := ?oi653056) (v := ?v653056) ?hi653056 (by kernel_rfl) (by kernel_rfl) (by kernel_rfl) (by kernel_rfl) ?hQ653056 ?hy653056 (by assumption) ?rest653056
            case hi653056 => (simp only [List.getElem?_toArray, List.getElem?_cons_succ, List.getElem?_cons_zero]; exact rfl)
            case hQ653056 => exact fun _ _ _ h => h
            case hy653056 => (refine Or.inl ⟨by kernel_rfl, ?_⟩; intro w hSw; (try dsimp only at hSw); go_simp; try (with_reducible rfl))
            try simp only [Act.put, List.setIfInBounds_toArray, List.set_cons_zero, List.set_cons_succ]
            refine wpP_ready (rs := [16]) (by kernel_rfl) (by simp) ?_
            refine AllP.cons (o := ?o653057) ?ho653057 (fun K hK => ?_) AllP.nil
            case ho653057 => (simp only [List.getElem?_toArray, List.getElem?_cons_succ, List.getElem?_cons_zero]; exact rfl)
            go_simp
            go_at_call 61
            refine (repeat0_ok z _ (by omega)).mono ?_
            rintro e w8 ⟨rfl, hb8⟩
            have k8 : Below w6.heap.size w6 w8 := below_und hb8
            have d1 := (F6.out.vol.keep k8).cell b (by rw [HLV.out]; exact hbl.2)
            have d2 := (F6.out.vol.keep k8).free b
            refine hK.out _ _ ?_ (fun hHeld => ?_)
            · exact ⟨cell_keep hHeld.1 hb8, cell_keep hHeld.2 hb8⟩
            clear hK K
            try simp only [Act.put, List.setIfInBounds_toArray, List.set_cons_zero, List.set_cons_succ]
            refine wpP_take (i := 17) (oi := ?oi653058) (v := ?v653058) ?hi653058 (by kernel_rfl) (by kernel_rfl) (by kernel_rfl) (by kernel_rfl) ?hQ653058 ?hy653058 (by assumption) ?rest653058
            case hi653058 => (simp only [List.getElem?_toArray, List.getElem?_cons_succ, List.getElem?_cons_zero]; exact rfl)
            case hQ653058 => exact fun _ _ _ h => h
            case hy653058 => (refine Or.inl ⟨by kernel_rfl, ?_⟩; intro w hSw; (try dsimp only at hSw); go_simp; try (with_reducible rfl))
            try simp only [Act.put, List.setIfInBounds_toArray, List.set_cons_zero, List.set_cons_succ]
            refine wpP_take (i := 18) (oi := ?oi653059) (v := ?v653059) ?hi653059 (by kernel_rfl) (by kernel_rfl) (by kernel_rfl) (by kernel_rfl) ?hQ653059 ?hy653059 (by assumption) ?rest653059
            case hi653059 => (simp only [List.getElem?_toArray, List.getElem?_cons_succ, List.getElem?_cons_zero]; exact rfl)
            case hQ653059 => exact fun _ _ _ h => h
            case hy653059 => (refine Or.inl ⟨by kernel_rfl, ?_⟩; intro w hSw; (try dsimp only at hSw); go_simp; try (with_reducible rfl))
            try simp only [Act.put, List.setIfInBounds_toArray, List.set_cons_zero, List.set_cons_succ]
            refine wpP_ready (rs := [19]) (by kernel_rfl) (by simp) ?_
            refine AllP.last (o := ?o653060) ?ho653060 (by kernel_rfl) (fun K hK => ?_) AllP.nil
            case ho653060 => (simp only [List.getElem?_toArray, List.getElem?_cons_succ, List.getElem?_cons_zero]; exact rfl)
            go_simp
            refine hK.out _ _ ?_
            clear hK K
            try simp only [Act.put, List.setIfInBounds_toArray, List.set_cons_zero, List.set_cons_succ]
            refine wpP_done (by kernel_rfl) ?_ _
            go_wp2
            refine bodyPost_end (v := .tuple #[]) (by simp [results, Try.results83, go_sem]) rfl ?_
            refine ⟨rfl, ?_⟩
            first | refine ⟨g', c', ?_, ?_⟩ | refine ⟨g', ⟨c', ?_⟩, ?_⟩
            · rw [HFV.out]; dsimp only; rw [HRC.out]
              exact ⟨blk_set_other (blk_keep F6.out.blk k8) F6.out.ne _ _, (F6.out.vol.keep k8).set b _ (by rw [HLV.out]; exact hbl.2), by rw [List.length_set]; exact HLV.out, F6.out.ne⟩
            · exact fun B h1 h2 => ⟨(B6.out B h1 h2).1, (below_set ((B6.out B h1 h2).2.trans (k8.mono (by have := F6.out.lt; omega))) (B6.out B h1 h2).1)⟩
end Go.Proofs.Ytacdohlhalnioaa
end

/- Contract: a file is cut. -/
section
set_option linter.unusedVariables false
set_option linter.unusedSimpArgs false
set_option maxRecDepth 20000
namespace Go.Proofs.Ytacdohlhalnioaa
open Go.RowKit
attribute [local go_sem] Oper.semAt_some

set_option maxHeartbeats 400000 in
theorem cut_no (A : Option Addr) (c : Nat) (v : Vol) (n s : Int) (w : World) (hr : RS w A v) (h : getE v n ≠ 0) :
    Calls Try.prog 38 #[.slice A v.length c, .int .i64 n, .int .i64 s] w fun e w' => e = .returned (.tuple #[.slice none 0 0, .int .i64 (getE v n)]) ∧ Below w.heap.size w w' := by
  have HP := Lib.hid (fun w hr => open_no A c v n w hr h)
  have HR := Lib.hid hr
  clear hr
  generalize getE v n = er at *
  have hb : (er == 0) = false := by simpa using h
  have hbn : (er != 0) = true := by simpa using h
  go_enter Try.func38, Try.ntmps38
  go_wp2_with (go_at_call 51; refine (HP.out _ HR.out).mono ?_; rintro e w1 ⟨rfl, hb1⟩)
  go_ret2
  exact ⟨rfl, hb1⟩
set_option maxHeartbeats 400000 in
theorem cut_bad (A : Option Addr) (c : Nat) (v : Vol) (n : Nat) (s : Int) (w : World) (hr : RS w A v) (hv : okV v = true) (h1 : 1 ≤ n) (h2 : n ≤ inosV v) (hs : s < 0 ∨ 8960 < s) :
    Calls Try.prog 38 #[.slice A v.length c, .int .i64 n, .int .i64 s] w fun e w' => e = .returned (.tuple #[.slice none 0 0, .int .i64 (if s < 0 then 1 else 6)]) ∧ Below w.heap.size w w' := by
  have HP := Lib.hid (fun w hr => open_ok A c v n w hr hv h1 h2)
  have HR := Lib.hid hr
  clear hr hv
  have hs' : s < 0 ∨ (0 ≤ s ∧ 8960 < s) := by omega
  clear hs
  rcases hs' with hs | ⟨hs0, hs⟩
  · rw [if_pos hs]
    go_enter Try.func38, Try.ntmps38
    go_wp2_with (go_at_call 51; refine (HP.out _ HR.out).mono ?_; rintro e w1 ⟨F, g, cg, rfl, hf1, hF, hg, hb1⟩)
    go_ret2
    exact ⟨rfl, hb1⟩
  · rw [if_neg (by omega)]
    go_enter Try.func38, Try.ntmps38
    go_wp2_with (go_at_call 51; refine (HP.out _ HR.out).mono ?_; rintro e w1 ⟨F, g, cg, rfl, hf1, hF, hg, hb1⟩)
    go_ret2
    exact ⟨rfl, hb1⟩
set_option maxHeartbeats 4000000 in
theorem cut_ok (A : Option Addr) (c : Nat) (v : Vol) (n s : Nat) (w : World) (hr : RS w A v) (hv : okV v = true) (h1 : 1 ≤ n) (h2 : n ≤ inosV v) (hs : s ≤ 8960) :
    Calls Try.prog 38 #[.slice A v.length c, .int .i64 n, .int .i64 s] w fun e w' => ∃ g c', e = .returned (.tuple #[.slice (some ⟨g, 0, none⟩) v.length c', .int .i64 0]) ∧ VS w' g (cutV v n s) ∧ w.heap.size ≤ g ∧ Below w.heap.size w w' := by
  have HP := Lib.hid (fun w hr => open_ok A c v n w hr hv h1 h2)
  have HR := Lib.hid hr
  have hx := inoV_fit v n
  have hsz := inoV_size v n
  have hL := (okV_iff.1 hv).hi
  rw [cutV]
  obtain ⟨x, hX⟩ : ∃ x, inoV v n = x := ⟨_, rfl⟩
  rw [hX] at HP hx hsz ⊢
  obtain ⟨z, hz⟩ : ∃ z, min x.size 8960 = z := ⟨_, rfl⟩
  have hz' : sizeX x = z := hz
  rw [hz']
  have h0 : ¬ ((s : Int) < 0) := by omega
  have h9 : ¬ ((8960 : Int) < (s : Int)) := by omega
  obtain ⟨d, hd⟩ : ∃ d, dataV v = d := ⟨_, rfl⟩
  rw [hd] at HP
  have HX := Lib.hid hX
  by_cases hlt : s < z
  · rw [if_pos hlt]
    have hzi : (s : Int) < (z : Int) := by omega
    obtain ⟨ka, kb, kc⟩ := kept_shortV (x := x) s hv hx
    have hsh := Lib.hid (fun F g c w hf => shorten_ok F g c v.length (inosV v) d n v x s w hf hv hx hd (by rw [← hz] at hlt; omega))
    have hcl := Lib.hid (fun F g c w hf => close_ok F g c v.length (inosV v) d n (shortV v x s).1 ((shortV v x s).2.setS s) w hf ka.ok h1 (by rw [ka.ino]; exact h2) (setS_fit kb (by omega)))
    clear hr hv hlt hX hd hx ka kb kc
    generalize (shortV v x s).1 = V at *
    generalize (shortV v x s).2 = X at *
    go_enter Try.func38, Try.ntmps38
    go_wp2_with (first
      | (go_at_call 51; refine (HP.out _ HR.out).mono ?_; rintro e w1 ⟨F, g, cg, rfl, hf1, hF, hg, hb1⟩; have F1 := Lib.hid hf1; have B1 := Lib.hid hb1; clear hf1 hb1)
      | (go_at_call 54; refine (size_ok _ _ _ _ _ _ _ _ _ _ F1.out hsz).mono ?_; rw [hz]; rintro e w2 ⟨rfl, rfl⟩)
      | (go_at_call 83; refine (hsh.out _ _ _ _ F1.out).mono ?_; rintro e w3 ⟨rfl, g3, c3, hf3, hb3⟩; have q11 : w3.cell? ⟨F, 11, none⟩ = some (.int .i64 X.size) := (by rw [cell_at hf3.blk]; rfl); have hfr := free_of hf3.blk 11; have F4 := Lib.hid (hf3.setS s); have B3 := Lib.hid hb3; clear hf3 hb3)
      | (go_at_call 79; refine (hcl.out _ _ _ _ F4.out).mono ?_; rintro e w5 ⟨g5, c5, rfl, hg5, hgs5, hb5⟩))
    go_ret2
    have s1 := B1.out.size
    obtain ⟨z1, z2⟩ := B3.out w.heap.size hF hg
    have s3 := z2.size
    have s4 : (w3.setCell ⟨F, 11, none⟩ (.int .i64 (s : Nat))).heap.size = w3.heap.size := by simp
    exact ⟨g5, c5, rfl, hg5, by omega, below_more (below_set (B1.out.trans z2) hF) (by omega) hb5⟩
  · rw [if_neg hlt]
    have hzi : ¬ ((s : Int) < (z : Int)) := by omega
    have hcl := Lib.hid (fun F g c w hf => close_ok F g c v.length (inosV v) d n v (x.setS s) w hf hv h1 h2 (setS_fit hx (by omega)))
    clear hr hv hlt hX hd hx
    go_enter Try.func38, Try.ntmps38
    go_wp2_with (first
      | (go_at_call 51; refine (HP.out _ HR.out).mono ?_; rintro e w1 ⟨F, g, cg, rfl, hf1, hF, hg, hb1⟩; have q11 : w1.cell? ⟨F, 11, none⟩ = some (.int .i64 x.size) := (by rw [cell_at hf1.blk]; rfl); have hfr := free_of hf1.blk 11; have F4 := Lib.hid (hf1.setS s); have F1 := Lib.hid hf1; have B1 := Lib.hid hb1; clear hf1 hb1)
      | (go_at_call 54; refine (size_ok _ _ _ _ _ _ _ _ _ _ F1.out hsz).mono ?_; rw [hz]; rintro e w2 ⟨rfl, rfl⟩)
      | (go_at_call 79; refine (hcl.out _ _ _ _ F4.out).mono ?_; rintro e w5 ⟨g5, c5, rfl, hg5, hgs5, hb5⟩))
    go_ret2
    have s1 := B1.out.size
    have s4 : (w1.setCell ⟨F, 11, none⟩ (.int .i64 (s : Nat))).heap.size = w1.heap.size := by simp
    exact ⟨g5, c5, rfl, hg5, by omega, below_more (below_set B1.out hF) (by omega) hb5⟩
end Go.Proofs.Ytacdohlhalnioaa
end
