/- Joined: XQ9 XQ10 XQ11 XQ12 XQ14. -/
import Derived.Test.YtacdohlhalnioaaJ8
/- The pure law of limits: what another limit turns, and what it leaves. -/
section
set_option linter.unusedVariables false
set_option linter.unusedSimpArgs false
set_option maxRecDepth 20000
namespace Go.Proofs.Ytacdohlhalnioaa
open Go.RowKit

theorem setB_length (s : Blk) (p m : Nat) (h : p + 2 ≤ s.length) : (setB s p m).length = s.length := by
  simp [setB, ple_length]
  omega
theorem gb_append_left (a b : Blk) (i : Nat) (h : i < a.length) : gb (a ++ b) i = gb a i := by
  simp [gb, List.getD_eq_getElem?_getD, List.getElem?_append_left h]
theorem gb_append_right (a b : Blk) (i : Nat) (h : a.length ≤ i) : gb (a ++ b) i = gb b (i - a.length) := by
  simp [gb, List.getD_eq_getElem?_getD, List.getElem?_append_right h]
theorem gb_ple (m k j : Nat) (h : j < k) : gb (ple m k) j = m / 256 ^ j % 256 := by
  simp [gb, List.getD_eq_getElem?_getD, ple_get m k j h]
theorem gb_setB (s : Blk) (p m i : Nat) (h : p + 2 ≤ s.length) : gb (setB s p m) i = if i = p then m % 256 else if i = p + 1 then m / 256 % 256 else gb s i := by
  have h1 : (s.take p).length = p := by rw [List.length_take]; omega
  have h2 : (s.take p ++ ple m 2).length = p + 2 := by rw [List.length_append, h1, ple_length]
  rw [setB]
  by_cases h3 : i < p
  · rw [if_neg (by omega), if_neg (by omega), gb_append_left _ _ _ (by omega), gb_append_left _ _ _ (by omega), gb_take _ _ _ h3]
  · by_cases h4 : i < p + 2
    · rw [gb_append_left _ _ _ (by omega), gb_append_right _ _ _ (by omega), h1, gb_ple _ _ _ (by omega)]
      rcases (by omega : i = p ∨ i = p + 1) with rfl | rfl
      · simp
      · simp
    · rw [if_neg (by omega), if_neg (by omega), gb_append_right _ _ _ (by omega), h2, gb_drop]
      congr 1
      omega
theorem blk_ext {a b : Blk} (hl : a.length = b.length) (h : ∀ i, i < a.length → gb a i = gb b i) : a = b := by
  refine List.ext_getElem hl (fun i h1 h2 => ?_)
  have := h i h1
  simp only [gb, List.getD_eq_getElem?_getD, List.getElem?_eq_getElem h1, List.getElem?_eq_getElem h2, Option.getD_some] at this
  exact UInt8.toNat_inj.1 this
theorem setB_comm (s : Blk) (p q m n : Nat) (hp : p + 2 ≤ s.length) (hq : q + 2 ≤ s.length) (h : p + 2 ≤ q ∨ q + 2 ≤ p) : setB (setB s p m) q n = setB (setB s q n) p m := by
  have l1 := setB_length s p m hp
  have l2 := setB_length s q n hq
  refine blk_ext ?_ (fun i _ => ?_)
  · rw [setB_length (setB s p m) q n (by omega), setB_length (setB s q n) p m (by omega), l1, l2]
  · rw [gb_setB _ _ _ _ (by omega), gb_setB _ _ _ _ hp, gb_setB _ _ _ _ (by omega), gb_setB _ _ _ _ hq]
    by_cases a : i = q
    · rw [if_pos a, if_neg (by omega), if_neg (by omega), if_pos a]
    · rw [if_neg a]
      by_cases b : i = q + 1
      · rw [if_pos b, if_neg (by omega), if_neg (by omega), if_neg a, if_pos b]
      · rw [if_neg b]
        by_cases c : i = p
        · rw [if_pos c, if_pos c]
        · rw [if_neg c, if_neg c]
          by_cases d : i = p + 1
          · rw [if_pos d, if_pos d]
          · rw [if_neg d, if_neg d, if_neg a, if_neg b]
/-- A volume of the same form, with the same inodes and blocks of data. -/
structure Like (v v' : Vol) : Prop where
  ok : okV v' = true
  len : v'.length = v.length
  ino : inosV v' = inosV v
  dat : dataV v' = dataV v
  same : ∀ b, b ≠ 1 → bk v' b = bk v b
theorem like_set1 {v : Vol} (hv : okV v = true) {s : Blk} (hs : s.length = 128) : Like v (v.set 1 s) := by
  have H := okV_iff.1 hv
  have e0 : bk (v.set 1 s) 0 = bk v 0 := bk_set_other _ _ _ _ (by omega)
  have e2 : bk (v.set 1 s) 2 = bk v 2 := bk_set_other _ _ _ _ (by omega)
  have ei : inosV (v.set 1 s) = inosV v := by rw [inosV, e0, inosV]
  have ed : dataV (v.set 1 s) = dataV v := by rw [dataV, ei, dataV]
  have el : (v.set 1 s).length = v.length := by simp
  refine ⟨okV_iff.2 ⟨fun j hj => ?_, ?_, ?_, ?_, ?_, ?_, ?_, ?_⟩, el, ei, ed, fun b hb => bk_set_other _ _ _ _ (by omega)⟩
  · by_cases h : 1 = j
    · subst h; rw [bk_set_same _ _ _ (by simpa using hj)]; exact hs
    · rw [bk_set_other _ _ _ _ h]; exact H.size j (by simpa using hj)
  · rw [el]; exact H.lo
  · rw [el]; exact H.hi
  · rw [ei]; exact H.ilo
  · rw [ei]; exact H.ihi
  · rw [el, ei]; exact H.data
  · rw [e0, el, ei]; exact H.head
  · rw [e2, ed, el]; exact H.map
theorem like_setV {v : Vol} {o m : Nat} (hv : okV v = true) (ho : o < 16) : Like v (setV v o m) := by
  have H := okV_iff.1 hv
  have hlo := H.lo
  refine like_set1 hv ?_
  rw [setB_length _ _ _ (by rw [H.size 1 (by omega)]; omega)]
  exact H.size 1 (by omega)
theorem Like.inoV {v v' : Vol} (h : Like v v') (n : Nat) : inoV v' n = inoV v n := by
  simp only [Go.Proofs.Ytacdohlhalnioaa.inoV, slot]
  rw [h.same _ (by omega)]
theorem Like.numV {v v' : Vol} (h : Like v v') (x : Ino) (k : Nat) : numV (dataV v) v.length v' x k = numV (dataV v) v.length v x k := by
  have hd := dataV_pos v
  simp only [Go.Proofs.Ytacdohlhalnioaa.numV]
  by_cases hk : k < 6
  · rw [if_pos hk, if_pos hk]
  · rw [if_neg hk, if_neg hk]
    by_cases hg : goodN (dataV v) v.length x.ind = true
    · have := goodN_iff.1 hg
      rw [if_pos hg, if_pos hg, h.same _ (by omega)]
    · rw [if_neg hg, if_neg hg]
theorem Like.countV {v v' : Vol} (h : Like v v') (n : Nat) : countV v' n = countV v n := by
  have e : ∀ x k, atN (dataV v) v.length v' x k = atN (dataV v) v.length v x k := fun x k => by rw [atN, atN, h.numV]
  simp only [Go.Proofs.Ytacdohlhalnioaa.countV, cntTo, h.inoV, h.dat, h.len, e]
theorem Like.allL {v v' : Vol} (h : Like v v') (hv : okV v = true) : allL v' = allL v := by
  rw [Go.Proofs.Ytacdohlhalnioaa.allL, Go.Proofs.Ytacdohlhalnioaa.allL, if_pos h.ok, if_pos hv, inAll, inAll, h.ino]
  simp only [h.inoV]
theorem Like.usedV {v v' : Vol} (h : Like v v') (hv : okV v = true) (o : Int) : usedV v' o = usedV v o := by
  simp only [Go.Proofs.Ytacdohlhalnioaa.usedV, ownL, sumV, h.allL hv, h.inoV, show Go.Proofs.Ytacdohlhalnioaa.countV v' = Go.Proofs.Ytacdohlhalnioaa.countV v from funext h.countV]
theorem limitV_set {v : Vol} {o m j : Nat} (hv : okV v = true) (ho : o < 16) (hj : j < 16) (hm : m < 65536) : limitV (setV v o m) j = if j = o then m else limitV v j := by
  have H := okV_iff.1 hv
  have hlo := H.lo
  have s1 := H.size 1 (by omega)
  rw [limitV, setV, bk_set_same _ _ _ (by omega), w2, gb_setB _ _ _ _ (by omega), gb_setB _ _ _ _ (by omega), limitV, w2]
  by_cases h : j = o
  · subst h
    simp
    omega
  · rw [if_neg h, if_neg (by omega), if_neg (by omega), if_neg (by omega), if_neg (by omega)]
theorem setV_comm {v : Vol} {o p m n : Nat} (hv : okV v = true) (ho : o < 16) (hp : p < 16) (h : o ≠ p) : setV (setV v o m) p n = setV (setV v p n) o m := by
  have H := okV_iff.1 hv
  have hlo := H.lo
  have s1 := H.size 1 (by omega)
  simp only [setV]
  rw [bk_set_same _ _ _ (by omega), bk_set_same _ _ _ (by omega), List.set_set, List.set_set, setB_comm _ _ _ _ _ (by omega) (by omega) (by omega)]
theorem usedV_le {v : Vol} (hv : okV v = true) (o : Int) : usedV v o ≤ 4608 := by
  have h1 := sumV_le v (ownL v o)
  have h2 : (ownL v o).length ≤ 64 := by
    refine Nat.le_trans (List.length_filter_le _ _) ?_
    rw [allL, if_pos hv]
    exact Nat.le_trans (inAll_le _ _) (okV_iff.1 hv).ihi
  rw [usedV]
  omega
theorem limE_in {v : Vol} (hv : okV v = true) {o : Int} (h1 : 0 ≤ o) (h2 : o < 16) : limE v o = 0 := by rw [limE, if_pos hv, if_pos ⟨h1, h2⟩]
theorem setE_is {v : Vol} (hv : okV v = true) {o m : Int} (h1 : 0 ≤ o) (h2 : o < 16) (h3 : 0 ≤ m) (h4 : m ≤ 65535) : setE v o m = if 0 < m ∧ m < ((usedV v o : Nat) : Int) then 13 else 0 := by
  rw [setE, if_pos (limE_in hv h1 h2), if_pos ⟨h3, h4⟩]
theorem Like.setE {v v' : Vol} (h : Like v v') (hv : okV v = true) (o m : Int) : setE v' o m = setE v o m := by
  simp only [Go.Proofs.Ytacdohlhalnioaa.setE, limE, h.usedV hv, h.ok, hv]
theorem check_set {v : Vol} {o m : Nat} (hv : okV v = true) (ho : o < 16) (hm : m < 65536) (hc : checkE v = 0) (hs : setE v o m = 0) : checkE (setV v o m) = 0 := by
  have hL := like_setV (m := m) hv ho
  have hall : ∀ j, j < 16 → overO v j = false := fun j hj => by
    rcases hh : overO v j with _ | _
    · rfl
    · rw [checkE_one hv hj hh] at hc
      cases hc
  refine checkE_none hL.ok (fun j hj => ?_)
  have h1 := hall j hj
  rw [overO] at h1 ⊢
  rw [hL.usedV hv, limitV_set hv ho hj hm]
  by_cases h : j = o
  · subst h
    rw [if_pos rfl]
    obtain ⟨_, _, _, _, _, h6⟩ := setE_ok hs
    exact decide_eq_false (by omega)
  · rw [if_neg h]
    exact h1
end Go.Proofs.Ytacdohlhalnioaa
end

/- The law QuotaFits, walked. -/
section
set_option linter.unusedVariables false
set_option linter.unusedSimpArgs false
set_option maxRecDepth 20000
namespace Go.Proofs.Ytacdohlhalnioaa
open Go.RowKit
attribute [local go_sem] Oper.semAt_some

theorem qset_e (A : Option Addr) (c : Nat) (v : Vol) (o m : Int) (w : World) (hr : RS w A v) :
    Calls Try.prog 26 #[.slice A v.length c, .int .i64 o, .int .i64 m] w fun e w' => ∃ u, e = .returned (.tuple #[u, .int .i64 (setE v o m)]) ∧ Below w.heap.size w w' := by
  by_cases h : setE v o m = 0
  · obtain ⟨_, h1, _, h2, _, _⟩ := setE_ok h
    obtain ⟨o, rfl⟩ := Int.eq_ofNat_of_zero_le h1
    obtain ⟨m, rfl⟩ := Int.eq_ofNat_of_zero_le h2
    refine (qset_ok A c v o m w hr h).mono ?_
    rintro e w' ⟨g, c', rfl, _, _, hb⟩
    exact ⟨_, by rw [h], hb⟩
  · refine (qset_no A c v o m w hr h).mono ?_
    rintro e w' ⟨rfl, hb⟩
    exact ⟨_, rfl, hb⟩
theorem small_alive (w : World) (B : Nat) (hB : B ≤ w.heap.size) : Calls Try.prog 24 #[] w fun e w' => e = .returned (.bool true) ∧ Below B w w' :=
  (alive_ok w).mono fun e w' h => ⟨h.1, h.2.mono hB⟩
set_option maxHeartbeats 4000000 in
theorem qfits_ok (A : Option Addr) (c : Nat) (v : Vol) (n : Nat) (w : World) (hr : RS w A v) (hn : n < 256) :
    Calls Try.prog 6 #[.slice A v.length c, .int .u8 n] w fun e w' => e = .returned (.bool true) ∧ Below w.heap.size w w' := by
  have HR := Lib.hid hr
  have hgr := Lib.hid (fun w hr => great18_ok A c v w hr)
  obtain ⟨a, ha⟩ : ∃ a, n % 16 = a := ⟨_, rfl⟩
  have ha16 : a < 16 := by omega
  have hw1 : IntKind.i64.wrap (n : Int) = (n : Int) := by simp [IntKind.wrap, IntKind.bits, IntKind.signed]; omega
  have hm : (n : Int).tmod 16 = (a : Int) := by rw [Int.tmod_eq_emod_of_nonneg (by omega)]; omega
  have hl := Lib.hid (fun w hr => limit_all A c v (a : Int) w hr)
  have hu := Lib.hid (fun w hr => used_ok A c v (a : Int) w hr)
  have hs := Lib.hid (fun w m hr => qset_e A c v (a : Int) m w hr)
  clear hr ha
  by_cases hsm : smallQ v = true
  · rw [show greatQ v = 0 from if_pos hsm] at hgr
    by_cases hv : okV v = true
    · have hule := usedV_le hv (a : Int)
      rw [limE_in hv (by omega) (by omega)] at hl
      have h0 : setE v (a : Int) ((usedV v (a : Int) : Nat) : Int) = 0 := by rw [setE_is hv (by omega) (by omega) (by omega) (by omega), if_neg (by omega)]
      have h2 : setE v (a : Int) 0 = 0 := by rw [setE_is hv (by omega) (by omega) (by omega) (by omega), if_neg (by omega)]
      have h3 : setE v (a : Int) (((usedV v (a : Int) : Nat) : Int) + 1) = 0 := by rw [setE_is hv (by omega) (by omega) (by omega) (by omega), if_neg (by omega)]
      have h1 : setE v (a : Int) ((usedV v (a : Int) - 1 : Nat) : Int) = if 1 < usedV v (a : Int) then 13 else 0 := by
        rw [setE_is hv (by omega) (by omega) (by omega) (by omega)]
        by_cases h : 1 < usedV v (a : Int)
        · rw [if_pos h, if_pos (by omega)]
        · rw [if_neg h, if_neg (by omega)]
      have hmx : max (((usedV v (a : Int) : Nat) : Int) - 1) 0 = ((usedV v (a : Int) - 1 : Nat) : Int) := by omega
      have hs0 := Lib.hid (fun w hr => hs.out w ((usedV v (a : Int) : Nat) : Int) hr)
      have hs1 := Lib.hid (fun w hr => hs.out w ((usedV v (a : Int) - 1 : Nat) : Int) hr)
      have hs2 := Lib.hid (fun w hr => hs.out w 0 hr)
      have hs3 := Lib.hid (fun w hr => hs.out w (((usedV v (a : Int) : Nat) : Int) + 1) hr)
      rw [h0] at hs0
      rw [h1] at hs1
      rw [h2] at hs2
      rw [h3] at hs3
      clear hs h0 h1 h2 h3 hv
      generalize limI v (a : Int) = li at *
      generalize usedV v (a : Int) = us at *
      have hws : IntKind.i64.wrap ((us : Int) - 1) = (us : Int) - 1 := by simp [IntKind.wrap, IntKind.bits, IntKind.signed]; omega
      by_cases h1 : 1 < us
      · rw [if_pos h1] at hs1
        have h1i : (1 : Int) < (us : Int) := by omega
        obtain ⟨m1, hm1⟩ : ∃ m1, us - 1 = m1 := ⟨_, rfl⟩
        rw [hm1] at hs1 hmx
        clear hm1
        go_enter Try.func6, Try.ntmps6
        go_wp2_with
        (first
        | (go_at_call 24; refine (alive_ok _).mono ?_; rintro e w0 ⟨rfl, hb0⟩; have B0 := Lib.hid hb0; clear hb0)
        | (go_at_call 25; refine (hgr.out _ (HR.out.below B0.out)).mono ?_; rintro e w1 ⟨rfl, rfl⟩)
        | (go_at_call 29; refine (hl.out _ (HR.out.below B0.out)).mono ?_; rintro e w2 ⟨rfl, hb2⟩; have B2 := Lib.hid (below_keep' B0.out B0.out.size hb2); clear hb2)
        | (go_at_call 30; refine (hu.out _ (HR.out.below B2.out)).mono ?_; rintro e w3 ⟨rfl, hb3⟩; have B3 := Lib.hid (below_keep' B2.out B2.out.size hb3); clear hb3)
        | (go_at_call 26; have := B6; refine (hs3.out _ (HR.out.below B6.out)).mono ?_; rintro e w7 ⟨u7, rfl, hb7⟩; have B7 := Lib.hid (below_keep' B6.out B6.out.size hb7); clear hb7)
        | (go_at_call 26; have := B5; refine (hs2.out _ (HR.out.below B5.out)).mono ?_; rintro e w6 ⟨u6, rfl, hb6⟩; have B6 := Lib.hid (below_keep' B5.out B5.out.size hb6); clear hb6)
        | (go_at_call 26; have := B4; refine (hs1.out _ (HR.out.below B4.out)).mono ?_; rintro e w5 ⟨u5, rfl, hb5⟩; have B5 := Lib.hid (below_keep' B4.out B4.out.size hb5); clear hb5)
        | (go_at_call 26; refine (hs0.out _ (HR.out.below B3.out)).mono ?_; rintro e w4 ⟨u4, rfl, hb4⟩; have B4 := Lib.hid (below_keep' B3.out B3.out.size hb4); clear hb4))
        go_ret
        exact ⟨ret_bool (by simp <;> omega), B7.out⟩
      · rw [if_neg h1] at hs1
        have h1i : ¬ (1 : Int) < (us : Int) := by omega
        obtain ⟨m1, hm1⟩ : ∃ m1, us - 1 = m1 := ⟨_, rfl⟩
        rw [hm1] at hs1 hmx
        clear hm1
        go_enter Try.func6, Try.ntmps6
        go_wp2_with
        (first
        | (go_at_call 24; refine (alive_ok _).mono ?_; rintro e w0 ⟨rfl, hb0⟩; have B0 := Lib.hid hb0; clear hb0)
        | (go_at_call 25; refine (hgr.out _ (HR.out.below B0.out)).mono ?_; rintro e w1 ⟨rfl, rfl⟩)
        | (go_at_call 29; refine (hl.out _ (HR.out.below B0.out)).mono ?_; rintro e w2 ⟨rfl, hb2⟩; have B2 := Lib.hid (below_keep' B0.out B0.out.size hb2); clear hb2)
        | (go_at_call 30; refine (hu.out _ (HR.out.below B2.out)).mono ?_; rintro e w3 ⟨rfl, hb3⟩; have B3 := Lib.hid (below_keep' B2.out B2.out.size hb3); clear hb3)
        | (go_at_call 26; have := B6; refine (hs3.out _ (HR.out.below B6.out)).mono ?_; rintro e w7 ⟨u7, rfl, hb7⟩; have B7 := Lib.hid (below_keep' B6.out B6.out.size hb7); clear hb7)
        | (go_at_call 26; have := B5; refine (hs2.out _ (HR.out.below B5.out)).mono ?_; rintro e w6 ⟨u6, rfl, hb6⟩; have B6 := Lib.hid (below_keep' B5.out B5.out.size hb6); clear hb6)
        | (go_at_call 26; have := B4; refine (hs1.out _ (HR.out.below B4.out)).mono ?_; rintro e w5 ⟨u5, rfl, hb5⟩; have B5 := Lib.hid (below_keep' B4.out B4.out.size hb5); clear hb5)
        | (go_at_call 26; refine (hs0.out _ (HR.out.below B3.out)).mono ?_; rintro e w4 ⟨u4, rfl, hb4⟩; have B4 := Lib.hid (below_keep' B3.out B3.out.size hb4); clear hb4))
        go_ret
        exact ⟨ret_bool (by simp <;> omega), B7.out⟩
    · rw [show limE v (a : Int) = 3 from if_neg hv] at hl
      clear hs hu
      go_enter Try.func6, Try.ntmps6
      go_wp2_with (first
        | (go_at_call 24; refine (alive_ok _).mono ?_; rintro e w0 ⟨rfl, hb0⟩; have B0 := Lib.hid hb0; clear hb0)
        | (go_at_call 25; refine (hgr.out _ (HR.out.below B0.out)).mono ?_; rintro e w1 ⟨rfl, rfl⟩)
        | (go_at_call 29; refine (hl.out _ (HR.out.below B0.out)).mono ?_; rintro e w2 ⟨rfl, hb2⟩; have B2 := Lib.hid (below_keep' B0.out B0.out.size hb2); clear hb2))
      go_ret
      exact ⟨rfl, B2.out⟩
  · rw [show greatQ v = 1 from if_neg hsm] at hgr
    go_enter Try.func6, Try.ntmps6
    go_wp2_with (first
      | (go_at_call 24; refine (alive_ok _).mono ?_; rintro e w0 ⟨rfl, hb0⟩; have B0 := Lib.hid hb0; clear hb0)
      | (go_at_call 25; refine (hgr.out _ (HR.out.below B0.out)).mono ?_; rintro e w1 ⟨rfl, rfl⟩))
    go_ret
    exact ⟨rfl, B0.out⟩
theorem qfits_i (A : Option Addr) (c : Nat) (v : Vol) (n : Int) (w : World) (hr : RS w A v) (h0 : 0 ≤ n) (h1 : n ≤ 255) :
    Calls Try.prog 6 #[.slice A v.length c, .int .u8 n] w fun e w' => e = .returned (.bool true) ∧ Below w.heap.size w w' := by
  obtain ⟨n, rfl⟩ := Int.eq_ofNat_of_zero_le h0
  exact qfits_ok A c v n w hr (by omega)
end Go.Proofs.Ytacdohlhalnioaa
end

/- The law QuotaBack, walked. -/
section
set_option linter.unusedVariables false
set_option linter.unusedSimpArgs false
set_option maxRecDepth 20000
namespace Go.Proofs.Ytacdohlhalnioaa
open Go.RowKit
attribute [local go_sem] Oper.semAt_some

theorem limI_like {v : Vol} {a l : Nat} (hv : okV v = true) (ha : a < 16) (hl : l < 65536) (i : Nat) (hi : i < 16) (hne : i ≠ a) : limI (setV v a l) i = limI v i := by
  have hL := like_setV (m := l) hv ha
  rw [limI, limI, if_pos (limE_in hL.ok (by omega) (by omega)), if_pos (limE_in hv (by omega) (by omega))]
  rw [show ((i : Nat) : Int).toNat = i from rfl, limitV_set hv ha hi hl, if_neg hne]
set_option maxHeartbeats 16000000 in
theorem qback_ok (A : Option Addr) (c : Nat) (v : Vol) (n1 n2 l m : Nat) (w : World) (hr : RS w A v) (hn1 : n1 < 256) (hn2 : n2 < 256) (hl : l < 65536) (hm : m < 65536) :
    Calls Try.prog 5 #[.slice A v.length c, .int .u8 n1, .int .u8 n2, .int .u16 l, .int .u16 m] w fun e w' => e = .returned (.bool true) ∧ Below w.heap.size w w' := by
  have HR := Lib.hid hr
  have hgr := Lib.hid (fun w hr => great18_ok A c v w hr)
  obtain ⟨a, ha⟩ : ∃ a, n1 % 16 = a := ⟨_, rfl⟩
  obtain ⟨b, hb⟩ : ∃ b, n2 % 16 = b := ⟨_, rfl⟩
  have ha16 : a < 16 := by omega
  have hb16 : b < 16 := by omega
  have hw1 : IntKind.i64.wrap (n1 : Int) = (n1 : Int) := by simp [IntKind.wrap, IntKind.bits, IntKind.signed]; omega
  have hw2 : IntKind.i64.wrap (n2 : Int) = (n2 : Int) := by simp [IntKind.wrap, IntKind.bits, IntKind.signed]; omega
  have hw3 : IntKind.i64.wrap (l : Int) = (l : Int) := by simp [IntKind.wrap, IntKind.bits, IntKind.signed]; omega
  have hw4 : IntKind.i64.wrap (m : Int) = (m : Int) := by simp [IntKind.wrap, IntKind.bits, IntKind.signed]; omega
  have hm1 : (n1 : Int).tmod 16 = (a : Int) := by rw [Int.tmod_eq_emod_of_nonneg (by omega)]; omega
  have hm2 : (n2 : Int).tmod 16 = (b : Int) := by rw [Int.tmod_eq_emod_of_nonneg (by omega)]; omega
  clear hr ha hb
  by_cases hsm : smallQ v = true
  · rw [show greatQ v = 0 from if_pos hsm] at hgr
    by_cases hs : setE v (a : Int) (l : Int) = 0
    · obtain ⟨hv, _⟩ := setE_ok hs
      have hset := Lib.hid (fun w hr => qset_ok A c v a l w hr hs)
      have hL := like_setV (m := l) hv ha16
      have hlen := hL.len
      have hlim := fun A' c' w hr => limit_ok A' c' (setV v a l) a w hr hL.ok ha16
      rw [limitV_set hv ha16 ha16 hl, if_pos rfl, hlen] at hlim
      have HLIM := Lib.hid hlim
      have hl1 := Lib.hid (fun (i : Nat) w hr => limit_all A c v (i : Int) w hr)
      have hl2 := fun A' c' (i : Nat) w hr => limit_all A' c' (setV v a l) (i : Int) w hr
      rw [hlen] at hl2
      have HL2 := Lib.hid hl2
      have hu1 := Lib.hid (fun (i : Nat) w hr => used_ok A c v (i : Int) w hr)
      have hu2 := fun A' c' (i : Nat) w hr => used_ok A' c' (setV v a l) (i : Int) w hr
      simp only [hlen, hL.usedV hv] at hu2
      have HU2 := Lib.hid hu2
      have heq := Lib.hid (fun (i : Nat) (hi : i < 16) (hne : i ≠ a) => limI_like (l := l) hv ha16 hl i hi hne)
      have hE := hL.setE hv (b : Int) (m : Int)
      have hs2 := fun A' c' w hr h => qset_ok A' c' (setV v a l) b m w hr h
      rw [hlen, hE] at hs2
      have hs2n := fun A' c' w hr h => qset_no A' c' (setV v a l) (b : Int) (m : Int) w hr h
      rw [hlen, hE] at hs2n
      have HS2 := Lib.hid hs2
      have HS2N := Lib.hid hs2n
      have hL3 := like_setV (m := m) hv hb16
      have hs3 := Lib.hid (fun w hr h => qset_ok A c v b m w hr h)
      have hs3n := Lib.hid (fun w hr h => qset_no A c v (b : Int) (m : Int) w hr h)
      have hs4 := fun A' c' w hr => qset_ok A' c' (setV v b m) a l w hr (by rw [hL3.setE hv]; exact hs)
      rw [hL3.len] at hs4
      have HS4 := Lib.hid hs4
      have hcomm := Lib.hid (fun h => setV_comm (m := l) (n := m) hv ha16 hb16 h)
      have hlen3 := hL3.len
      have hhi := (okV_iff.1 hv).hi
      have HSW := Lib.hid hlen
      have HSU := Lib.hid hlen3
      have hsame := Lib.hid (fun A' c1 B' c2 (V V' : Vol) w (h1 : V.length = v.length) (h2 : V'.length = v.length) (h : V = V') hr hr' => same18_ok A' B' c1 c2 V V' w hr hr')
      have HY : Hid ((setV (setV v a l) b m).length = v.length) := Lib.hid (by rw [show (setV (setV v a l) b m).length = (setV v a l).length from by simp [setV], hlen])
      have HZ : Hid ((setV (setV v b m) a l).length = v.length) := Lib.hid (by rw [show (setV (setV v b m) a l).length = (setV v b m).length from by simp [setV], hlen3])
      clear hs hv hL hlen hlim hl2 hu2 hE hs2 hs2n hL3 hs4 hlen3
      generalize setV (setV v a l) b m = vy at *
      generalize setV (setV v b m) a l = vz at *
      generalize setV v a l = vw at *
      generalize setV v b m = vu at *
      go_enter Try.func5, Try.ntmps5
      go_wp2_with (first
        | (go_at_call 24; refine (alive_ok _).mono ?_; rintro e w0 ⟨rfl, hb0⟩; have B0 := Lib.hid hb0; clear hb0)
        | (go_at_call 25; refine (hgr.out _ (HR.out.below B0.out)).mono ?_; rintro e w1 ⟨rfl, rfl⟩)
        | (go_at_call 26; refine (hset.out _ (HR.out.below B0.out)).mono ?_; rintro e w2 ⟨gw, cw, rfl, hgw, hgs, hb2⟩; have B2 := Lib.hid (below_keep' B0.out B0.out.size hb2); have RW := Lib.hid (hgw.rs (by rw [HSW.out]; omega)); clear hb2 hgw)
        | (go_at_call 29; refine (HLIM.out _ _ _ RW.out).mono ?_; rintro e w3 ⟨rfl, hb3⟩; have B3 := Lib.hid (below_keep' B2.out B2.out.size hb3); have RW3 := Lib.hid (RW.out.below hb3); clear hb3))
      go_loopw [17] (fun iv wr => ∃ i : Nat, i ≤ 16 ∧ iv = .int .i64 i ∧ Hid (RS wr (some ⟨gw, 0, none⟩) vw) ∧ Hid (Below w.heap.size w wr)) (fun iv _ => 16 - (intOf iv).toNat)
      case atStart => exact ⟨0, by omega, rfl, RW3, B3⟩
      case round =>
        obtain ⟨i, hi, rfl, hrw, hB⟩ := hrel
        by_cases hlt : i < 16
        · have hii : (i : Int) < 16 := by omega
          have h1 := Lib.hid (hl1.out i)
          have h2 := Lib.hid (fun w hr => HL2.out (some ⟨gw, 0, none⟩) cw i w hr)
          have h3 := Lib.hid (hu1.out i)
          have h4 := Lib.hid (fun w hr => HU2.out (some ⟨gw, 0, none⟩) cw i w hr)
          have he := Lib.hid (heq.out i hlt)
          generalize usedV v (i : Int) = us at *
          generalize limI v (i : Int) = l1 at *
          generalize limI vw (i : Int) = l2 at *
          generalize limE v (i : Int) = e1 at *
          generalize limE vw (i : Int) = e2 at *
          by_cases hia : i = a
          · have hne : ((i : Int) != (a : Int)) = false := by simp [hia]
            clear hia
            go_wp2_with (first
              | (go_at_call 29; have := B5; refine (h2.out _ (hrw.out.below B5.out)).mono ?_; rintro e w6 ⟨rfl, hb6⟩; have B6 := Lib.hid (below_keep' B5.out B5.out.size hb6); clear hb6)
              | (go_at_call 29; refine (h1.out _ (HR.out.below hB.out)).mono ?_; rintro e w5 ⟨rfl, hb5⟩; have B5 := Lib.hid hb5; clear hb5)
              | (go_at_call 30; have := B7; refine (h4.out _ (hrw.out.below B7.out)).mono ?_; rintro e w8 ⟨rfl, hb8⟩; have B8 := Lib.hid (below_keep' B7.out B7.out.size hb8); clear hb8)
              | (go_at_call 30; refine (h3.out _ ((HR.out.below hB.out).below B6.out)).mono ?_; rintro e w7 ⟨rfl, hb7⟩; have B7 := Lib.hid (below_keep' B6.out B6.out.size hb7); clear hb7))
            exact ⟨⟨i + 1, by omega, by go_num, hrw.out.below B8.out, below_keep' hB.out hB.out.size B8.out⟩, by simp only [intOf]; omega⟩
          · have hne : ((i : Int) != (a : Int)) = true := by simp; omega
            obtain rfl := he.out hia
            clear hia
            go_wp2_with (first
              | (go_at_call 29; have := B5; refine (h2.out _ (hrw.out.below B5.out)).mono ?_; rintro e w6 ⟨rfl, hb6⟩; have B6 := Lib.hid (below_keep' B5.out B5.out.size hb6); clear hb6)
              | (go_at_call 29; refine (h1.out _ (HR.out.below hB.out)).mono ?_; rintro e w5 ⟨rfl, hb5⟩; have B5 := Lib.hid hb5; clear hb5)
              | (go_at_call 30; have := B7; refine (h4.out _ (hrw.out.below B7.out)).mono ?_; rintro e w8 ⟨rfl, hb8⟩; have B8 := Lib.hid (below_keep' B7.out B7.out.size hb8); clear hb8)
              | (go_at_call 30; refine (h3.out _ ((HR.out.below hB.out).below B6.out)).mono ?_; rintro e w7 ⟨rfl, hb7⟩; have B7 := Lib.hid (below_keep' B6.out B6.out.size hb7); clear hb7))
            exact ⟨⟨i + 1, by omega, by go_num, hrw.out.below B8.out, below_keep' hB.out hB.out.size B8.out⟩, by simp only [intOf]; omega⟩
        · have hii : ¬ (i : Int) < 16 := by omega
          by_cases hab : a = b
          · have hbe : ((a : Int) == (b : Int)) = true := by simp [hab]
            clear hab
            go_wp2
            go_ret
            exact ⟨rfl, hB.out⟩
          · have hbe : ((a : Int) == (b : Int)) = false := by simp; omega
            have hyz := hcomm.out hab
            have HAB := Lib.hid hyz
            clear hab hyz
            obtain ⟨er, her⟩ : ∃ er, setE v (b : Int) (m : Int) = er := ⟨_, rfl⟩
            rw [her] at HS2 HS2N hs3 hs3n
            clear her
            by_cases h0 : er = 0
            · subst h0
              go_wp2_with (first
                | (go_at_call 26; have := B6; refine (HS4.out _ _ _ RU.out).mono ?_; rintro e w7 ⟨gz, cz, rfl, hgz, hgs7, hb7⟩; have B7 := Lib.hid (below_keep' B6.out B6.out.size hb7); have RZ := Lib.hid (hgz.rs (by rw [HZ.out]; omega)); have RY7 := Lib.hid (RY6.out.below hb7); clear hb7 hgz)
                | (go_at_call 26; have := B5; refine (hs3.out _ ((HR.out.below hB.out).below B5.out) (by simp)).mono ?_; rintro e w6 ⟨gu, cu, rfl, hgu, hgs6, hb6⟩; have B6 := Lib.hid (below_keep' B5.out B5.out.size hb6); have RU := Lib.hid (hgu.rs (by rw [HSU.out]; omega)); have RY6 := Lib.hid (RY.out.below hb6); clear hb6 hgu)
                | (go_at_call 26; refine (HS2.out _ _ _ hrw.out (by simp)).mono ?_; rintro e w5 ⟨gy, cy, rfl, hgy, hgs5, hb5⟩; have B5 := Lib.hid hb5; have RY := Lib.hid (hgy.rs (by rw [HY.out]; omega)); clear hb5 hgy)
                | (go_at_call 28; have hsm' := same18_ok (some ⟨gy, 0, none⟩) (some ⟨gz, 0, none⟩) cy cz vy vz _ RY7.out RZ.out; rw [HY.out, HZ.out, decide_eq_true HAB.out] at hsm'; refine hsm'.mono ?_; rintro e w8 ⟨rfl, hb8⟩; have B8 := Lib.hid (below_keep' B7.out B7.out.size hb8); clear hb8))
              go_ret
              exact ⟨rfl, below_keep' hB.out hB.out.size B8.out⟩
            · have hbn : (er != 0) = true := by simpa using h0
              have hb0' : (er == 0) = false := by simpa using h0
              have hree : (er != er) = false := by simp
              have H0 := Lib.hid h0
              clear h0
              go_wp2_with (first
                | (go_at_call 26; have := B5; refine (hs3n.out _ ((HR.out.below hB.out).below B5.out) H0.out).mono ?_; rintro e w6 ⟨rfl, hb6⟩; have B6 := Lib.hid (below_keep' B5.out B5.out.size hb6); clear hb6)
                | (go_at_call 26; refine (HS2N.out _ _ _ hrw.out H0.out).mono ?_; rintro e w5 ⟨rfl, hb5⟩; have B5 := Lib.hid hb5; clear hb5))
              go_ret
              exact ⟨rfl, below_keep' hB.out hB.out.size B6.out⟩
    · have hset := Lib.hid (fun w hr => qset_no A c v (a : Int) (l : Int) w hr hs)
      generalize setE v (a : Int) (l : Int) = er at *
      have hbn : (er != 0) = true := by simpa using hs
      have hbe : (er == 0) = false := by simpa using hs
      clear hs
      go_enter Try.func5, Try.ntmps5
      go_wp2_with (first
        | (go_at_call 24; refine (alive_ok _).mono ?_; rintro e w0 ⟨rfl, hb0⟩; have B0 := Lib.hid hb0; clear hb0)
        | (go_at_call 25; refine (hgr.out _ (HR.out.below B0.out)).mono ?_; rintro e w1 ⟨rfl, rfl⟩)
        | (go_at_call 26; refine (hset.out _ (HR.out.below B0.out)).mono ?_; rintro e w2 ⟨rfl, hb2⟩; have B2 := Lib.hid (below_keep' B0.out B0.out.size hb2); clear hb2))
      go_ret
      exact ⟨rfl, B2.out⟩
  · rw [show greatQ v = 1 from if_neg hsm] at hgr
    go_enter Try.func5, Try.ntmps5
    go_wp2_with (first
      | (go_at_call 24; refine (alive_ok _).mono ?_; rintro e w0 ⟨rfl, hb0⟩; have B0 := Lib.hid hb0; clear hb0)
      | (go_at_call 25; refine (hgr.out _ (HR.out.below B0.out)).mono ?_; rintro e w1 ⟨rfl, rfl⟩))
    go_ret
    exact ⟨rfl, B0.out⟩
theorem qback_i (A : Option Addr) (c : Nat) (v : Vol) (n1 n2 l m : Int) (w : World) (hr : RS w A v) (a1 : 0 ≤ n1) (a2 : n1 ≤ 255) (b1 : 0 ≤ n2) (b2 : n2 ≤ 255) (c1 : 0 ≤ l) (c2 : l ≤ 65535) (d1 : 0 ≤ m) (d2 : m ≤ 65535) :
    Calls Try.prog 5 #[.slice A v.length c, .int .u8 n1, .int .u8 n2, .int .u16 l, .int .u16 m] w fun e w' => e = .returned (.bool true) ∧ Below w.heap.size w w' := by
  obtain ⟨n1, rfl⟩ := Int.eq_ofNat_of_zero_le a1
  obtain ⟨n2, rfl⟩ := Int.eq_ofNat_of_zero_le b1
  obtain ⟨l, rfl⟩ := Int.eq_ofNat_of_zero_le c1
  obtain ⟨m, rfl⟩ := Int.eq_ofNat_of_zero_le d1
  exact qback_ok A c v n1 n2 l m w hr (by omega) (by omega) (by omega) (by omega)
end Go.Proofs.Ytacdohlhalnioaa
end

/- The law QuotaChecked, walked. -/
section
set_option linter.unusedVariables false
set_option linter.unusedSimpArgs false
set_option maxRecDepth 20000
namespace Go.Proofs.Ytacdohlhalnioaa
open Go.RowKit
attribute [local go_sem] Oper.semAt_some

/-- A slice of integers that came in. -/
def RI (k : IntKind) (w : World) (A : Option Addr) (l : List Nat) : Prop := 0 < l.length → ∃ b o, A = some ⟨b, o, none⟩ ∧ ∀ j y, l[j]? = some y → w.cell? ⟨b, o + j, none⟩ = some (.int k (y : Nat))
theorem RI.below {k : IntKind} {w w' : World} {A : Option Addr} {l : List Nat} (h : RI k w A l) (hb : Below w.heap.size w w') : RI k w' A l := by
  intro h0
  obtain ⟨b, o, e, hc⟩ := h h0
  exact ⟨b, o, e, fun j y hj => cell_keep (hc j y hj) hb⟩
theorem checkE_okV {v : Vol} (h : checkE v = 0) : okV v = true := by
  unfold checkE at h
  split at h
  · assumption
  · cases h
theorem qset_small {v : Vol} {o m : Nat} (hs : setE v o m = 0) (hc : checkE v = 0) : checkE (setV v o m) = 0 := by
  obtain ⟨hv, _, h2, _, h4, _⟩ := setE_ok hs
  exact check_set hv (by omega) (by omega) hc hs
set_option maxHeartbeats 16000000 in
theorem qchecked_ok (A Ao Al : Option Addr) (c co cl : Nat) (v : Vol) (lo ll : List Nat) (w : World) (hr : RS w A v) (hro : RI .u8 w Ao lo) (hrl : RI .u16 w Al ll) (ho : ∀ y ∈ lo, y < 256) (hl : ∀ y ∈ ll, y < 65536) :
    Calls Try.prog 11 #[.slice A v.length c, .slice Ao lo.length co, .slice Al ll.length cl] w fun e w' => e = .returned (.bool true) ∧ Below w.heap.size w w' := by
  have HR := Lib.hid hr
  have HRO := Lib.hid hro
  have HRL := Lib.hid hrl
  have HO := Lib.hid ho
  have HLL := Lib.hid hl
  have hgr := Lib.hid (fun w hr => great18_ok A c v w hr)
  have hck := Lib.hid (fun w hr => check_ok A c v w hr)
  clear hr hro hrl ho hl
  by_cases hsm : smallQ v = true
  · rw [show greatQ v = 0 from if_pos hsm] at hgr
    by_cases h30 : 30 < lo.length
    · have h30i : (30 : Int) < (lo.length : Nat) := by omega
      go_enter Try.func11, Try.ntmps11
      go_wp2_with (first
        | (go_at_call 24; refine (alive_ok _).mono ?_; rintro e w0 ⟨rfl, hb0⟩; have B0 := Lib.hid hb0; clear hb0)
        | (go_at_call 25; refine (hgr.out _ (HR.out.below B0.out)).mono ?_; rintro e w1 ⟨rfl, rfl⟩))
      go_ret
      exact ⟨rfl, B0.out⟩
    · have h30i : ¬ (30 : Int) < (lo.length : Nat) := by omega
      by_cases hlen : ll.length = lo.length
      · have hle : ((ll.length : Int) != (lo.length : Int)) = false := by simp [hlen]
        by_cases hc0 : checkE v = 0
        · rw [hc0] at hck
          have HC0 := Lib.hid hc0
          have HLN := Lib.hid hlen
          clear hc0 hlen
          go_enter Try.func11, Try.ntmps11
          go_wp2_with (first
            | (go_at_call 24; refine (alive_ok _).mono ?_; rintro e w0 ⟨rfl, hb0⟩; have B0 := Lib.hid hb0; clear hb0)
            | (go_at_call 25; refine (hgr.out _ (HR.out.below B0.out)).mono ?_; rintro e w1 ⟨rfl, rfl⟩)
            | (go_at_call 44; refine (hck.out _ (HR.out.below B0.out)).mono ?_; rintro e w2 ⟨rfl, hb2⟩; have B2 := Lib.hid (below_keep' B0.out B0.out.size hb2); clear hb2))
          have R2 := Lib.hid (HR.out.below B2.out)
          have h30' : lo.length ≤ 30 := by omega
          go_loopw [0, 7] (fun sv iv wr => ∃ (k : Nat) (A' : Option Addr) (c' : Nat) (v' : Vol), k ≤ lo.length ∧ iv = .int .i64 k ∧ sv = .slice A' v'.length c' ∧ Hid (RS wr A' v' ∧ checkE v' = 0) ∧ Hid (Below w.heap.size w wr)) (fun _ iv _ => lo.length - (intOf iv).toNat)
          case atStart => exact ⟨0, A, c, v, by omega, rfl, rfl, ⟨R2.out, HC0.out⟩, B2⟩
          case round =>
            obtain ⟨k, A', c', v', hk, rfl, rfl, hrv, hB⟩ := hrel
            by_cases hlt : k < lo.length
            · have hki : (k : Int) < (lo.length : Nat) := by omega
              have hki2 : (k : Int) < (ll.length : Nat) := by rw [HLN.out]; omega
              obtain ⟨bO, oO, rfl, hco⟩ := HRO.out (by omega)
              obtain ⟨bL, oL, rfl, hcl⟩ := HRL.out (by rw [HLN.out]; omega)
              obtain ⟨y0, hy0⟩ : ∃ y, lo[k]? = some y := ⟨_, List.getElem?_eq_getElem hlt⟩
              obtain ⟨y1, hy1⟩ : ∃ y, ll[k]? = some y := ⟨_, List.getElem?_eq_getElem (by rw [HLN.out]; exact hlt)⟩
              have d0 := cell_keep (hco k y0 hy0) hB.out
              have d1 := cell_keep (hcl k y1 hy1) hB.out
              have hy0b := HO.out y0 (List.mem_of_getElem? hy0)
              have hy1b := HLL.out y1 (List.mem_of_getElem? hy1)
              obtain ⟨a, ha⟩ : ∃ a, y0 % 16 = a := ⟨_, rfl⟩
              have hw1 : IntKind.i64.wrap (y0 : Int) = (y0 : Int) := by simp [IntKind.wrap, IntKind.bits, IntKind.signed]; omega
              have hw2 : IntKind.i64.wrap (y1 : Int) = (y1 : Int) := by simp [IntKind.wrap, IntKind.bits, IntKind.signed]; omega
              have hm1 : (y0 : Int).tmod 16 = (a : Int) := by rw [Int.tmod_eq_emod_of_nonneg (by omega)]; omega
              have ha16 : a < 16 := by omega
              clear hco hcl hy0 hy1 ha
              have hBs := hB.out.size
              by_cases hs : setE v' (a : Int) (y1 : Int) = 0
              · have hset := Lib.hid (fun w hr => qset_ok A' c' v' a y1 w hr hs)
                have hnew := Lib.hid (qset_small hs hrv.out.2)
                have hlen := (like_setV (o := a) (m := y1) (setE_ok hs).1 ha16).len
                have hhi := (okV_iff.1 (setE_ok hs).1).hi
                have hck2 := fun A'' c'' w hr => check_ok A'' c'' (setV v' a y1) w hr
                rw [hlen, hnew.out] at hck2
                have HCK := Lib.hid hck2
                have HLE := Lib.hid hlen
                clear hs hck2 hlen
                generalize setV v' a y1 = vn at *
                go_wp2
                refine region_P (fun w' => w'.cell? ⟨bO, oO + k, none⟩ = some (.int .u8 y0) ∧ w'.cell? ⟨bL, oL + k, none⟩ = some (.int .u16 y1)) [] (by kernel_rfl) ?_ (fun hHeld => ?_)
                · exact ⟨d0, d1⟩
                refine wpP_take (i := 0) (oi := ?oi93001) (v := ?v93001) ?hi93001 (by kernel_rfl) (by kernel_rfl) (by kernel_rfl) (by kernel_rfl) ?hQ93001 ?hy93001 (by assumption) ?rest93001
                case hi93001 => (simp only [List.getElem?_toArray, List.getElem?_cons_succ, List.getElem?_cons_zero]; exact rfl)
                case hQ93001 => exact fun _ _ _ h => h
                case hy93001 => (refine Or.inl ⟨by kernel_rfl, ?_⟩; intro w hSw; (try dsimp only at hSw); go_simp; try (with_reducible rfl))
                try simp only [Act.put, List.setIfInBounds_toArray, List.set_cons_zero, List.set_cons_succ]
                refine wpP_take (i := 1) (oi := ?oi93002) (v := ?v93002) ?hi93002 (by kernel_rfl) (by kernel_rfl) (by kernel_rfl) (by kernel_rfl) ?hQ93002 ?hy93002 (by assumption) ?rest93002
                case hi93002 => (simp only [List.getElem?_toArray, List.getElem?_cons_succ, List.getElem?_cons_zero]; exact rfl)
                case hQ93002 => exact fun _ _ _ h => h
                case hy93002 => (refine Or.inl ⟨by kernel_rfl, ?_⟩; intro w hSw; (try dsimp only at hSw); go_simp; try (with_reducible rfl))
                try simp only [Act.put, List.setIfInBounds_toArray, List.set_cons_zero, List.set_cons_succ]
                refine wpP_take (i := 2) (oi := ?oi93003) (v := ?v93003) ?hi93003 (by kernel_rfl) (by kernel_rfl) (by kernel_rfl) (by kernel_rfl) ?hQ93003 ?hy93003 (by assumption) ?rest93003
                case hi93003 => (simp only [List.getElem?_toArray, List.getElem?_cons_succ, List.getElem?_cons_zero]; exact rfl)
                case hQ93003 => exact fun _ _ _ h => h
                case hy93003 => (refine Or.inl ⟨by kernel_rfl, ?_⟩; intro w hSw; (try dsimp only at hSw); go_simp; try (with_reducible rfl))
                try simp only [Act.put, List.setIfInBounds_toArray, List.set_cons_zero, List.set_cons_succ]
                refine wpP_take (i := 3) (oi := ?oi93004) (v := ?v93004) ?hi93004 (by kernel_rfl) (by kernel_rfl) (by kernel_rfl) (by kernel_rfl) ?hQ93004 ?hy93004 (by assumption) ?rest93004
                case hi93004 => (simp only [List.getElem?_toArray, List.getElem?_cons_succ, List.getElem?_cons_zero]; exact rfl)
                case hQ93004 => exact fun _ _ _ h => h
                case hy93004 => (refine Or.inl ⟨by kernel_rfl, ?_⟩; intro w hSw; (try dsimp only at hSw); go_simp; try (with_reducible rfl))
                try simp only [Act.put, List.setIfInBounds_toArray, List.set_cons_zero, List.set_cons_succ]
                refine wpP_take (i := 4) (oi := ?oi93005) (v := ?v93005) ?hi93005 (by kernel_rfl) (by kernel_rfl) (by kernel_rfl) (by kernel_rfl) ?hQ93005 ?hy93005 (by assumption) ?rest93005
                case hi93005 => (simp only [List.getElem?_toArray, List.getElem?_cons_succ, List.getElem?_cons_zero]; exact rfl)
                case hQ93005 => exact fun _ _ _ h => h
                case hy93005 => (refine Or.inl ⟨by kernel_rfl, ?_⟩; intro w hSw; (try dsimp only at hSw); go_simp; try (with_reducible rfl))
                try simp only [Act.put, List.setIfInBounds_toArray, List.set_cons_zero, List.set_cons_succ]
                refine wpP_take (i := 5) (oi := ?oi93006) (v := ?v93006) ?hi93006 (by kernel_rfl) (by kernel_rfl) (by kernel_rfl) (by kernel_rfl) ?hQ93006 ?hy93006 (by assumption) ?rest93006
                case hi93006 => (simp only [List.getElem?_toArray, List.getElem?_cons_succ, List.getElem?_cons_zero]; exact rfl)
                case hQ93006 => exact fun _ _ _ h => h
                case hy93006 => (refine Or.inl ⟨by kernel_rfl, ?_⟩; intro w hSw; (try dsimp only at hSw); go_simp; try (with_reducible rfl))
                try simp only [Act.put, List.setIfInBounds_toArray, List.set_cons_zero, List.set_cons_succ]
                refine wpP_take (i := 6) (oi := ?oi93007) (v := ?v93007) ?hi93007 (by kernel_rfl) (by kernel_rfl) (by kernel_rfl) (by kernel_rfl) ?hQ93007 ?hy93007 (by assumption) ?rest93007
                case hi93007 => (simp only [List.getElem?_toArray, List.getElem?_cons_succ, List.getElem?_cons_zero]; exact rfl)
                case hQ93007 => exact fun _ _ _ h => h
                case hy93007 => (refine Or.inl ⟨by kernel_rfl, ?_⟩; intro w hSw; (try dsimp only at hSw); go_simp; try (with_reducible rfl))
                try simp only [Act.put, List.setIfInBounds_toArray, List.set_cons_zero, List.set_cons_succ]
                refine wpP_take (i := 7) (oi := ?oi93008) (v := ?v93008) ?hi93008 (by kernel_rfl) (by kernel_rfl) (by kernel_rfl) (by kernel_rfl) ?hQ93008 ?hy93008 (by assumption) ?rest93008
                case hi93008 => (simp only [List.getElem?_toArray, List.getElem?_cons_succ, List.getElem?_cons_zero]; exact rfl)
                case hQ93008 => exact fun _ _ _ h => h
                case hy93008 => (refine Or.inl ⟨by kernel_rfl, ?_⟩; intro w hSw; (try dsimp only at hSw); go_simp; try (with_reducible rfl))
                try simp only [Act.put, List.setIfInBounds_toArray, List.set_cons_zero, List.set_cons_succ]
                refine wpP_take (i := 8) (oi := ?oi93009) (v := ?v93009) ?hi93009 (by kernel_rfl) (by kernel_rfl) (by kernel_rfl) (by kernel_rfl) ?hQ93009 ?hy93009 (by assumption) ?rest93009
                case hi93009 => (simp only [List.getElem?_toArray, List.getElem?_cons_succ, List.getElem?_cons_zero]; exact rfl)
                case hQ93009 => exact fun _ _ _ h => h
                case hy93009 => (refine Or.inl ⟨by kernel_rfl, ?_⟩; intro w hSw; (try dsimp only at hSw); go_simp; try (with_reducible rfl))
                try simp only [Act.put, List.setIfInBounds_toArray, List.set_cons_zero, List.set_cons_succ]
                refine wpP_take (i := 9) (oi := ?oi93010) (v := ?v93010) ?hi93010 (by kernel_rfl) (by kernel_rfl) (by kernel_rfl) (by kernel_rfl) ?hQ93010 ?hy93010 (by assumption) ?rest93010
                case hi93010 => (simp only [List.getElem?_toArray, List.getElem?_cons_succ, List.getElem?_cons_zero]; exact rfl)
                case hQ93010 => exact fun _ _ _ h => h
                case hy93010 => (refine Or.inl ⟨by kernel_rfl, ?_⟩; intro w hSw; (try dsimp only at hSw); go_simp; try (with_reducible rfl))
                try simp only [Act.put, List.setIfInBounds_toArray, List.set_cons_zero, List.set_cons_succ]
                refine wpP_take (i := 10) (oi := ?oi93011) (v := ?v93011) ?hi93011 (by kernel_rfl) (by kernel_rfl) (by kernel_rfl) (by kernel_rfl) ?hQ93011 ?hy93011 (by assumption) ?rest93011
                case hi93011 => (simp only [List.getElem?_toArray, List.getElem?_cons_succ, List.getElem?_cons_zero]; exact rfl)
                case hQ93011 => exact fun _ _ _ h => h
                case hy93011 => (refine Or.inl ⟨by kernel_rfl, ?_⟩; intro w hSw; (try dsimp only at hSw); go_simp; try (with_reducible rfl))
                try simp only [Act.put, List.setIfInBounds_toArray, List.set_cons_zero, List.set_cons_succ]
                refine wpP_take (i := 11) (oi := ?oi93012) (v := ?v93012) ?hi93012 (by kernel_rfl) (by kernel_rfl) (by kernel_rfl) (by kernel_rfl) ?hQ93012 ?hy93012 (by assumption) ?rest93012
                case hi93012 => (simp only [List.getElem?_toArray, List.getElem?_cons_succ, List.getElem?_cons_zero]; exact rfl)
                case hQ93012 => exact fun _ _ _ h => h
                case hy93012 => (refine Or.inl ⟨by kernel_rfl, ?_⟩; intro w hSw; (try dsimp only at hSw); go_simp; try (with_reducible rfl))
                try simp only [Act.put, List.setIfInBounds_toArray, List.set_cons_zero, List.set_cons_succ]
                refine wpP_ready (rs := [12]) (by kernel_rfl) (by simp) ?_
                refine AllP.cons (o := ?o93013) ?ho93013 (fun K hK => ?_) AllP.nil
                case ho93013 => (simp only [List.getElem?_toArray, List.getElem?_cons_succ, List.getElem?_cons_zero]; exact rfl)
                go_simp
                go_at_call 26
                refine (hset.out _ (hrv.out.1.below ((Below.refl _ _).drew))).mono ?_
                rintro e w4 ⟨g4, c4, rfl, hg4, hgs4, hb4⟩
                have k4 := below_undrew hb4
                have R4 := Lib.hid (hg4.rs (by rw [HLE.out]; omega))
                refine hK.out _ _ ?_ (fun hHeld => ?_)
                · exact ⟨cell_keep d0 k4, cell_keep d1 k4⟩
                clear hK K
                try simp only [Act.put, List.setIfInBounds_toArray, List.set_cons_zero, List.set_cons_succ]
                refine wpP_take (i := 13) (oi := ?oi93014) (v := ?v93014) ?hi93014 (by kernel_rfl) (by kernel_rfl) (by kernel_rfl) (by kernel_rfl) ?hQ93014 ?hy93014 (by assumption) ?rest93014
                case hi93014 => (simp only [List.getElem?_toArray, List.getElem?_cons_succ, List.getElem?_cons_zero]; exact rfl)
                case hQ93014 => exact fun _ _ _ h => h
                case hy93014 => (refine Or.inl ⟨by kernel_rfl, ?_⟩; intro w hSw; (try dsimp only at hSw); go_simp; try (with_reducible rfl))
                try simp only [Act.put, List.setIfInBounds_toArray, List.set_cons_zero, List.set_cons_succ]
                refine wpP_take (i := 14) (oi := ?oi93015) (v := ?v93015) ?hi93015 (by kernel_rfl) (by kernel_rfl) (by kernel_rfl) (by kernel_rfl) ?hQ93015 ?hy93015 (by assumption) ?rest93015
                case hi93015 => (simp only [List.getElem?_toArray, List.getElem?_cons_succ, List.getElem?_cons_zero]; exact rfl)
                case hQ93015 => exact fun _ _ _ h => h
                case hy93015 => (refine Or.inl ⟨by kernel_rfl, ?_⟩; intro w hSw; (try dsimp only at hSw); go_simp; try (with_reducible rfl))
                try simp only [Act.put, List.setIfInBounds_toArray, List.set_cons_zero, List.set_cons_succ]
                refine wpP_take (i := 15) (oi := ?oi93016) (v := ?v93016) ?hi93016 (by kernel_rfl) (by kernel_rfl) (by kernel_rfl) (by kernel_rfl) ?hQ93016 ?hy93016 (by assumption) ?rest93016
                case hi93016 => (simp only [List.getElem?_toArray, List.getElem?_cons_succ, List.getElem?_cons_zero]; exact rfl)
                case hQ93016 => exact fun _ _ _ h => h
                case hy93016 => (refine Or.inl ⟨by kernel_rfl, ?_⟩; intro w hSw; (try dsimp only at hSw); go_simp; try (with_reducible rfl))
                try simp only [Act.put, List.setIfInBounds_toArray, List.set_cons_zero, List.set_cons_succ]
                refine wpP_take (i := 16) (oi := ?oi93017) (v := ?v93017) ?hi93017 (by kernel_rfl) (by kernel_rfl) (by kernel_rfl) (by kernel_rfl) ?hQ93017 ?hy93017 (by assumption) ?rest93017
                case hi93017 => (simp only [List.getElem?_toArray, List.getElem?_cons_succ, List.getElem?_cons_zero]; exact rfl)
                case hQ93017 => exact fun _ _ _ h => h
                case hy93017 => (refine Or.inl ⟨by kernel_rfl, ?_⟩; intro w hSw; (try dsimp only at hSw); go_simp; try (with_reducible rfl))
                try simp only [Act.put, List.setIfInBounds_toArray, List.set_cons_zero, List.set_cons_succ]
                refine wpP_take (i := 17) (oi := ?oi93018) (v := ?v93018) ?hi93018 (by kernel_rfl) (by kernel_rfl) (by kernel_rfl) (by kernel_rfl) ?hQ93018 ?hy93018 (by assumption) ?rest93018
                case hi93018 => (simp only [List.getElem?_toArray, List.getElem?_cons_succ, List.getElem?_cons_zero]; exact rfl)
                case hQ93018 => exact fun _ _ _ h => h
                case hy93018 => (refine Or.inl ⟨by kernel_rfl, ?_⟩; intro w hSw; (try dsimp only at hSw); go_simp; try (with_reducible rfl))
                try simp only [Act.put, List.setIfInBounds_toArray, List.set_cons_zero, List.set_cons_succ]
                refine wpP_done (by kernel_rfl) ?_ _
                go_wp2_with (go_at_call 44; refine (HCK.out _ _ _ R4.out).mono ?_; rintro e w5 ⟨rfl, hb5⟩)
                refine ⟨⟨k + 1, some ⟨g4, 0, none⟩, c4, vn, by omega, by go_num, by rw [HLE.out], ⟨R4.out.below hb5, hnew.out⟩, below_keep' hB.out hBs (below_keep k4 (Nat.le_refl _) hb5)⟩, by simp only [intOf]; omega⟩
              · have hset := Lib.hid (fun w hr => qset_no A' c' v' (a : Int) (y1 : Int) w hr hs)
                have hck2 := fun w hr => check_ok A' c' v' w hr
                rw [hrv.out.2] at hck2
                have HCK := Lib.hid hck2
                generalize setE v' (a : Int) (y1 : Int) = er at *
                have hbn : (er != 0) = true := by simpa using hs
                have hbe : (er == 0) = false := by simpa using hs
                clear hs hck2
                go_wp2
                refine region_P (fun w' => w'.cell? ⟨bO, oO + k, none⟩ = some (.int .u8 y0) ∧ w'.cell? ⟨bL, oL + k, none⟩ = some (.int .u16 y1)) [] (by kernel_rfl) ?_ (fun hHeld => ?_)
                · exact ⟨d0, d1⟩
                refine wpP_take (i := 0) (oi := ?oi93019) (v := ?v93019) ?hi93019 (by kernel_rfl) (by kernel_rfl) (by kernel_rfl) (by kernel_rfl) ?hQ93019 ?hy93019 (by assumption) ?rest93019
                case hi93019 => (simp only [List.getElem?_toArray, List.getElem?_cons_succ, List.getElem?_cons_zero]; exact rfl)
                case hQ93019 => exact fun _ _ _ h => h
                case hy93019 => (refine Or.inl ⟨by kernel_rfl, ?_⟩; intro w hSw; (try dsimp only at hSw); go_simp; try (with_reducible rfl))
                try simp only [Act.put, List.setIfInBounds_toArray, List.set_cons_zero, List.set_cons_succ]
                refine wpP_take (i := 1) (oi := ?oi93020) (v := ?v93020) ?hi93020 (by kernel_rfl) (by kernel_rfl) (by kernel_rfl) (by kernel_rfl) ?hQ93020 ?hy93020 (by assumption) ?rest93020
                case hi93020 => (simp only [List.getElem?_toArray, List.getElem?_cons_succ, List.getElem?_cons_zero]; exact rfl)
                case hQ93020 => exact fun _ _ _ h => h
                case hy93020 => (refine Or.inl ⟨by kernel_rfl, ?_⟩; intro w hSw; (try dsimp only at hSw); go_simp; try (with_reducible rfl))
                try simp only [Act.put, List.setIfInBounds_toArray, List.set_cons_zero, List.set_cons_succ]
                refine wpP_take (i := 2) (oi := ?oi93021) (v := ?v93021) ?hi93021 (by kernel_rfl) (by kernel_rfl) (by kernel_rfl) (by kernel_rfl) ?hQ93021 ?hy93021 (by assumption) ?rest93021
                case hi93021 => (simp only [List.getElem?_toArray, List.getElem?_cons_succ, List.getElem?_cons_zero]; exact rfl)
                case hQ93021 => exact fun _ _ _ h => h
                case hy93021 => (refine Or.inl ⟨by kernel_rfl, ?_⟩; intro w hSw; (try dsimp only at hSw); go_simp; try (with_reducible rfl))
                try simp only [Act.put, List.setIfInBounds_toArray, List.set_cons_zero, List.set_cons_succ]
                refine wpP_take (i := 3) (oi := ?oi93022) (v := ?v93022) ?hi93022 (by kernel_rfl) (by kernel_rfl) (by kernel_rfl) (by kernel_rfl) ?hQ93022 ?hy93022 (by assumption) ?rest93022
                case hi93022 => (simp only [List.getElem?_toArray, List.getElem?_cons_succ, List.getElem?_cons_zero]; exact rfl)
                case hQ93022 => exact fun _ _ _ h => h
                case hy93022 => (refine Or.inl ⟨by kernel_rfl, ?_⟩; intro w hSw; (try dsimp only at hSw); go_simp; try (with_reducible rfl))
                try simp only [Act.put, List.setIfInBounds_toArray, List.set_cons_zero, List.set_cons_succ]
                refine wpP_take (i := 4) (oi := ?oi93023) (v := ?v93023) ?hi93023 (by kernel_rfl) (by kernel_rfl) (by kernel_rfl) (by kernel_rfl) ?hQ93023 ?hy93023 (by assumption) ?rest93023
                case hi93023 => (simp only [List.getElem?_toArray, List.getElem?_cons_succ, List.getElem?_cons_zero]; exact rfl)
                case hQ93023 => exact fun _ _ _ h => h
                case hy93023 => (refine Or.inl ⟨by kernel_rfl, ?_⟩; intro w hSw; (try dsimp only at hSw); go_simp; try (with_reducible rfl))
                try simp only [Act.put, List.setIfInBounds_toArray, List.set_cons_zero, List.set_cons_succ]
                refine wpP_take (i := 5) (oi := ?oi93024) (v := ?v93024) ?hi93024 (by kernel_rfl) (by kernel_rfl) (by kernel_rfl) (by kernel_rfl) ?hQ93024 ?hy93024 (by assumption) ?rest93024
                case hi93024 => (simp only [List.getElem?_toArray, List.getElem?_cons_succ, List.getElem?_cons_zero]; exact rfl)
                case hQ93024 => exact fun _ _ _ h => h
                case hy93024 => (refine Or.inl ⟨by kernel_rfl, ?_⟩; intro w hSw; (try dsimp only at hSw); go_simp; try (with_reducible rfl))
                try simp only [Act.put, List.setIfInBounds_toArray, List.set_cons_zero, List.set_cons_succ]
                refine wpP_take (i := 6) (oi := ?oi93025) (v := ?v93025) ?hi93025 (by kernel_rfl) (by kernel_rfl) (by kernel_rfl) (by kernel_rfl) ?hQ93025 ?hy93025 (by assumption) ?rest93025
                case hi93025 => (simp only [List.getElem?_toArray, List.getElem?_cons_succ, List.getElem?_cons_zero]; exact rfl)
                case hQ93025 => exact fun _ _ _ h => h
                case hy93025 => (refine Or.inl ⟨by kernel_rfl, ?_⟩; intro w hSw; (try dsimp only at hSw); go_simp; try (with_reducible rfl))
                try simp only [Act.put, List.setIfInBounds_toArray, List.set_cons_zero, List.set_cons_succ]
                refine wpP_take (i := 7) (oi := ?oi93026) (v := ?v93026) ?hi93026 (by kernel_rfl) (by kernel_rfl) (by kernel_rfl) (by kernel_rfl) ?hQ93026 ?hy93026 (by assumption) ?rest93026
                case hi93026 => (simp only [List.getElem?_toArray, List.getElem?_cons_succ, List.getElem?_cons_zero]; exact rfl)
                case hQ93026 => exact fun _ _ _ h => h
                case hy93026 => (refine Or.inl ⟨by kernel_rfl, ?_⟩; intro w hSw; (try dsimp only at hSw); go_simp; try (with_reducible rfl))
                try simp only [Act.put, List.setIfInBounds_toArray, List.set_cons_zero, List.set_cons_succ]
                refine wpP_take (i := 8) (oi := ?oi93027) (v := ?v93027) ?hi93027 (by kernel_rfl) (by kernel_rfl) (by kernel_rfl) (by kernel_rfl) ?hQ93027 ?hy93027 (by assumption) ?rest93027
                case hi93027 => (simp only [List.getElem?_toArray, List.getElem?_cons_succ, List.getElem?_cons_zero]; exact rfl)
                case hQ93027 => exact fun _ _ _ h => h
                case hy93027 => (refine Or.inl ⟨by kernel_rfl, ?_⟩; intro w hSw; (try dsimp only at hSw); go_simp; try (with_reducible rfl))
                try simp only [Act.put, List.setIfInBounds_toArray, List.set_cons_zero, List.set_cons_succ]
                refine wpP_take (i := 9) (oi := ?oi93028) (v := ?v93028) ?hi93028 (by kernel_rfl) (by kernel_rfl) (by kernel_rfl) (by kernel_rfl) ?hQ93028 ?hy93028 (by assumption) ?rest93028
                case hi93028 => (simp only [List.getElem?_toArray, List.getElem?_cons_succ, List.getElem?_cons_zero]; exact rfl)
                case hQ93028 => exact fun _ _ _ h => h
                case hy93028 => (refine Or.inl ⟨by kernel_rfl, ?_⟩; intro w hSw; (try dsimp only at hSw); go_simp; try (with_reducible rfl))
                try simp only [Act.put, List.setIfInBounds_toArray, List.set_cons_zero, List.set_cons_succ]
                refine wpP_take (i := 10) (oi := ?oi93029) (v := ?v93029) ?hi93029 (by kernel_rfl) (by kernel_rfl) (by kernel_rfl) (by kernel_rfl) ?hQ93029 ?hy93029 (by assumption) ?rest93029
                case hi93029 => (simp only [List.getElem?_toArray, List.getElem?_cons_succ, List.getElem?_cons_zero]; exact rfl)
                case hQ93029 => exact fun _ _ _ h => h
                case hy93029 => (refine Or.inl ⟨by kernel_rfl, ?_⟩; intro w hSw; (try dsimp only at hSw); go_simp; try (with_reducible rfl))
                try simp only [Act.put, List.setIfInBounds_toArray, List.set_cons_zero, List.set_cons_succ]
                refine wpP_take (i := 11) (oi := ?oi93030) (v := ?v93030) ?hi93030 (by kernel_rfl) (by kernel_rfl) (by kernel_rfl) (by kernel_rfl) ?hQ93030 ?hy93030 (by assumption) ?rest93030
                case hi93030 => (simp only [List.getElem?_toArray, List.getElem?_cons_succ, List.getElem?_cons_zero]; exact rfl)
                case hQ93030 => exact fun _ _ _ h => h
                case hy93030 => (refine Or.inl ⟨by kernel_rfl, ?_⟩; intro w hSw; (try dsimp only at hSw); go_simp; try (with_reducible rfl))
                try simp only [Act.put, List.setIfInBounds_toArray, List.set_cons_zero, List.set_cons_succ]
                refine wpP_ready (rs := [12]) (by kernel_rfl) (by simp) ?_
                refine AllP.cons (o := ?o93031) ?ho93031 (fun K hK => ?_) AllP.nil
                case ho93031 => (simp only [List.getElem?_toArray, List.getElem?_cons_succ, List.getElem?_cons_zero]; exact rfl)
                go_simp
                go_at_call 26
                refine (hset.out _ (hrv.out.1.below ((Below.refl _ _).drew))).mono ?_
                rintro e w4 ⟨rfl, hb4⟩
                have k4 := below_undrew hb4
                refine hK.out _ _ ?_ (fun hHeld => ?_)
                · exact ⟨cell_keep d0 k4, cell_keep d1 k4⟩
                clear hK K
                try simp only [Act.put, List.setIfInBounds_toArray, List.set_cons_zero, List.set_cons_succ]
                refine wpP_take (i := 13) (oi := ?oi93032) (v := ?v93032) ?hi93032 (by kernel_rfl) (by kernel_rfl) (by kernel_rfl) (by kernel_rfl) ?hQ93032 ?hy93032 (by assumption) ?rest93032
                case hi93032 => (simp only [List.getElem?_toArray, List.getElem?_cons_succ, List.getElem?_cons_zero]; exact rfl)
                case hQ93032 => exact fun _ _ _ h => h
                case hy93032 => (refine Or.inl ⟨by kernel_rfl, ?_⟩; intro w hSw; (try dsimp only at hSw); go_simp; try (with_reducible rfl))
                try simp only [Act.put, List.setIfInBounds_toArray, List.set_cons_zero, List.set_cons_succ]
                refine wpP_take (i := 14) (oi := ?oi93033) (v := ?v93033) ?hi93033 (by kernel_rfl) (by kernel_rfl) (by kernel_rfl) (by kernel_rfl) ?hQ93033 ?hy93033 (by assumption) ?rest93033
                case hi93033 => (simp only [List.getElem?_toArray, List.getElem?_cons_succ, List.getElem?_cons_zero]; exact rfl)
                case hQ93033 => exact fun _ _ _ h => h
                case hy93033 => (refine Or.inl ⟨by kernel_rfl, ?_⟩; intro w hSw; (try dsimp only at hSw); go_simp; try (with_reducible rfl))
                try simp only [Act.put, List.setIfInBounds_toArray, List.set_cons_zero, List.set_cons_succ]
                refine wpP_take (i := 15) (oi := ?oi93034) (v := ?v93034) ?hi93034 (by kernel_rfl) (by kernel_rfl) (by kernel_rfl) (by kernel_rfl) ?hQ93034 ?hy93034 (by assumption) ?rest93034
                case hi93034 => (simp only [List.getElem?_toArray, List.getElem?_cons_succ, List.getElem?_cons_zero]; exact rfl)
                case hQ93034 => exact fun _ _ _ h => h
                case hy93034 => (refine Or.inl ⟨by kernel_rfl, ?_⟩; intro w hSw; (try dsimp only at hSw); go_simp; try (with_reducible rfl))
                try simp only [Act.put, List.setIfInBounds_toArray, List.set_cons_zero, List.set_cons_succ]
                refine wpP_take (i := 16) (oi := ?oi93035) (v := ?v93035) ?hi93035 (by kernel_rfl) (by kernel_rfl) (by kernel_rfl) (by kernel_rfl) ?hQ93035 ?hy93035 (by assumption) ?rest93035
                case hi93035 => (simp only [List.getElem?_toArray, List.getElem?_cons_succ, List.getElem?_cons_zero]; exact rfl)
                case hQ93035 => exact fun _ _ _ h => h
                case hy93035 => (refine Or.inl ⟨by kernel_rfl, ?_⟩; intro w hSw; (try dsimp only at hSw); go_simp; try (with_reducible rfl))
                try simp only [Act.put, List.setIfInBounds_toArray, List.set_cons_zero, List.set_cons_succ]
                refine wpP_take (i := 17) (oi := ?oi93036) (v := ?v93036) ?hi93036 (by kernel_rfl) (by kernel_rfl) (by kernel_rfl) (by kernel_rfl) ?hQ93036 ?hy93036 (by assumption) ?rest93036
                case hi93036 => (simp only [List.getElem?_toArray, List.getElem?_cons_succ, List.getElem?_cons_zero]; exact rfl)
                case hQ93036 => exact fun _ _ _ h => h
                case hy93036 => (refine Or.inl ⟨by kernel_rfl, ?_⟩; intro w hSw; (try dsimp only at hSw); go_simp; try (with_reducible rfl))
                try simp only [Act.put, List.setIfInBounds_toArray, List.set_cons_zero, List.set_cons_succ]
                refine wpP_done (by kernel_rfl) ?_ _
                go_wp2_with (go_at_call 44; refine (HCK.out _ (hrv.out.1.below k4)).mono ?_; rintro e w5 ⟨rfl, hb5⟩)
                refine ⟨⟨k + 1, A', c', v', by omega, by go_num, rfl, ⟨(hrv.out.1.below k4).below hb5, hrv.out.2⟩, below_keep' hB.out hBs (below_keep k4 (Nat.le_refl _) hb5)⟩, by simp only [intOf]; omega⟩
            · have hki : ¬ (k : Int) < (lo.length : Nat) := by omega
              go_wp2
              go_ret
              exact ⟨rfl, hB.out⟩
        · have hbn : (checkE v != 0) = true := by simpa using hc0
          generalize checkE v = ce at *
          clear hc0 hlen
          go_enter Try.func11, Try.ntmps11
          go_wp2_with (first
            | (go_at_call 24; refine (alive_ok _).mono ?_; rintro e w0 ⟨rfl, hb0⟩; have B0 := Lib.hid hb0; clear hb0)
            | (go_at_call 25; refine (hgr.out _ (HR.out.below B0.out)).mono ?_; rintro e w1 ⟨rfl, rfl⟩)
            | (go_at_call 44; refine (hck.out _ (HR.out.below B0.out)).mono ?_; rintro e w2 ⟨rfl, hb2⟩; have B2 := Lib.hid (below_keep' B0.out B0.out.size hb2); clear hb2))
          go_ret
          exact ⟨rfl, B2.out⟩
      · have hle : ((ll.length : Int) != (lo.length : Int)) = true := by simp; omega
        go_enter Try.func11, Try.ntmps11
        go_wp2_with (first
          | (go_at_call 24; refine (alive_ok _).mono ?_; rintro e w0 ⟨rfl, hb0⟩; have B0 := Lib.hid hb0; clear hb0)
          | (go_at_call 25; refine (hgr.out _ (HR.out.below B0.out)).mono ?_; rintro e w1 ⟨rfl, rfl⟩))
        go_ret
        exact ⟨rfl, B0.out⟩
  · rw [show greatQ v = 1 from if_neg hsm] at hgr
    go_enter Try.func11, Try.ntmps11
    go_wp2_with (first
      | (go_at_call 24; refine (alive_ok _).mono ?_; rintro e w0 ⟨rfl, hb0⟩; have B0 := Lib.hid hb0; clear hb0)
      | (go_at_call 25; refine (hgr.out _ (HR.out.below B0.out)).mono ?_; rintro e w1 ⟨rfl, rfl⟩))
    go_ret
    exact ⟨rfl, B0.out⟩
end Go.Proofs.Ytacdohlhalnioaa
end

/- Contract: a limit is set (the document's); the law QuotaSets, walked. -/
section
set_option linter.unusedVariables false
set_option linter.unusedSimpArgs false
set_option maxRecDepth 20000
namespace Go.Proofs.Ytacdohlhalnioaa
open Go.RowKit
attribute [local go_sem] Oper.semAt_some

set_option maxHeartbeats 2000000 in
theorem rset_no (A : Option Addr) (c : Nat) (v : Vol) (o m : Int) (w : World) (hr : RS w A v) (h : setE v o m ≠ 0) :
    Calls Try.prog 27 #[.slice A v.length c, .int .i64 o, .int .i64 m] w fun e w' => e = .returned (.tuple #[.slice none 0 0, .int .i64 (setE v o m)]) ∧ Below w.heap.size w w' := by
  have HR := Lib.hid hr
  clear hr
  by_cases hv : okV v = true
  · have HV := Lib.hid hv
    by_cases ho : 0 ≤ o ∧ o < 16
    · have hl := limE_in hv ho.1 ho.2
      obtain ⟨h1, h2⟩ := ho
      have hoi : ¬ (15 : Int) < o := by omega
      by_cases hm : 0 ≤ m ∧ m ≤ 65535
      · have hu : 0 < m ∧ m < ((usedV v o : Nat) : Int) := by
          rcases Classical.em (0 < m ∧ m < ((usedV v o : Nat) : Int)) with h' | h'
          · exact h'
          · exact absurd (by rw [setE, if_pos hl, if_pos hm, if_neg h']) h
        rw [show setE v o m = 13 from by rw [setE, if_pos hl, if_pos hm, if_pos hu]]
        have hov := Lib.hid (fun w hr => over_ok A c v o m w hr hm.1)
        rw [show decide (0 < m ∧ m < ((usedV v o : Nat) : Int)) = true from decide_eq_true hu] at hov
        obtain ⟨hm1, hm2⟩ := hm
        have hmi : ¬ (65535 : Int) < m := by omega
        clear h hl hv hu
        go_enter Try.func27, Try.ntmps27
        go_wp2_with (first
          | (go_at_call 46; refine (rof_ok _ _ _ _ HR.out HV.out).mono ?_; rintro e w1 ⟨rfl, hb1⟩; have HB := Lib.hid (hb1.alloc hb1.size (.cells #[.int .i64 v.length, .int .i64 (inosV v), .int .i64 1, .int .i64 2, .int .i64 3, .int .i64 (3 + ((inosV v : Nat) + 1 : Int) / 2)] 66)); clear hb1)
          | (go_at_call 68; refine (hov.out _ (HR.out.below HB.out)).mono ?_; rintro e w2 ⟨rfl, hb2⟩; have HB2 := Lib.hid (below_keep HB.out (Nat.le_refl _) hb2); clear hb2))
        go_ret2
        exact ⟨rfl, HB2.out⟩
      · rw [show setE v o m = 2 from by rw [setE, if_pos hl, if_neg hm]]
        have hm' : m < 0 ∨ (0 ≤ m ∧ 65535 < m) := by omega
        clear h hl hv hm
        rcases hm' with hm1 | ⟨hm1, hm2⟩
        all_goals
          go_enter Try.func27, Try.ntmps27
          go_wp2_with (go_at_call 46; refine (rof_ok _ _ _ _ HR.out HV.out).mono ?_; rintro e w1 ⟨rfl, hb1⟩; have HB := Lib.hid (hb1.alloc hb1.size (.cells #[.int .i64 v.length, .int .i64 (inosV v), .int .i64 1, .int .i64 2, .int .i64 3, .int .i64 (3 + ((inosV v : Nat) + 1 : Int) / 2)] 66)); clear hb1)
          go_ret2
          exact ⟨rfl, HB.out⟩
    · rw [show setE v o m = 1 from by rw [setE, show limE v o = 1 from by rw [limE, if_pos hv, if_neg ho]]; rfl]
      have ho' : o < 0 ∨ (0 ≤ o ∧ 15 < o) := by omega
      clear h hv ho
      rcases ho' with h1 | ⟨h1, h2⟩
      all_goals
        go_enter Try.func27, Try.ntmps27
        go_wp2_with (go_at_call 46; refine (rof_ok _ _ _ _ HR.out HV.out).mono ?_; rintro e w1 ⟨rfl, hb1⟩; have HB := Lib.hid (hb1.alloc hb1.size (.cells #[.int .i64 v.length, .int .i64 (inosV v), .int .i64 1, .int .i64 2, .int .i64 3, .int .i64 (3 + ((inosV v : Nat) + 1 : Int) / 2)] 66)); clear hb1)
        go_ret2
        exact ⟨rfl, HB.out⟩
  · have hv' : okV v = false := by simpa using hv
    rw [show setE v o m = 3 from by rw [setE, show limE v o = 3 from by rw [limE, if_neg hv]]; rfl]
    have HV := Lib.hid hv'
    clear hv hv' h
    go_enter Try.func27, Try.ntmps27
    go_wp2_with (go_at_call 46; refine (rof_no _ _ _ _ HR.out HV.out).mono ?_; rintro e w1 ⟨rfl, hb1⟩; have HB := Lib.hid (hb1.alloc hb1.size (.cells #[.int .i64 0, .int .i64 0, .int .i64 0, .int .i64 0, .int .i64 0, .int .i64 0] 66)); clear hb1)
    go_ret2
    exact ⟨rfl, HB.out⟩
set_option maxHeartbeats 4000000 in
theorem rset_ok (A : Option Addr) (c : Nat) (v : Vol) (o m : Nat) (w : World) (hr : RS w A v) (h : setE v o m = 0) :
    Calls Try.prog 27 #[.slice A v.length c, .int .i64 o, .int .i64 m] w fun e w' => ∃ g c', e = .returned (.tuple #[.slice (some ⟨g, 0, none⟩) v.length c', .int .i64 0]) ∧ VS w' g (setV v o m) ∧ w.heap.size ≤ g ∧ Below w.heap.size w w' := by
  obtain ⟨i0, hi0, hz0, hz1, hz2⟩ := info_parts (show (Try.prog.info? 9).map (fun i => (i.zero, i.size, i.bytes)) = some (some (.string (mk [])), 1, 16) by kernel_rfl)
  obtain ⟨hv, _, ho, _, hm, hu⟩ := setE_ok h
  have H := okV_iff.1 hv
  have hlo := H.lo
  have hhi := H.hi
  have s1 := H.size 1 (by omega)
  have HV := Lib.hid hv
  have hov := Lib.hid (fun w hr => over_ok A c v o m w hr (by omega))
  rw [show decide ((0 : Int) < (m : Int) ∧ (m : Int) < ((usedV v (o : Int) : Nat) : Int)) = false from decide_eq_false hu] at hov
  have HR := Lib.hid hr
  obtain ⟨bA, oA, rfl, hbA, hc⟩ := hr.open_ (by omega)
  have hc1 := hc 1 (by omega)
  have HC := Lib.hid hc
  rw [setV, setB]
  have hpm := ple_length m 2
  have hg0 := gb_ple m 2 0 (by omega)
  have hg1 := gb_ple m 2 1 (by omega)
  obtain ⟨pm, hp2⟩ : ∃ pm, ple m 2 = pm := ⟨_, rfl⟩
  rw [hp2] at hpm hg0 hg1 ⊢
  obtain ⟨s, hs⟩ : ∃ s, bk v 1 = s := ⟨_, rfl⟩
  rw [hs] at s1 hc1 ⊢
  obtain ⟨p, hp⟩ : ∃ p, 2 * o = p := ⟨_, rfl⟩
  rw [hp]
  obtain ⟨r0, hr0⟩ : ∃ r0, m % 256 = r0 := ⟨_, rfl⟩
  obtain ⟨q0, hq0⟩ : ∃ q0, m / 256 = q0 := ⟨_, rfl⟩
  have hgr : gb pm 0 = r0 := by rw [hg0]; simpa using hr0
  have hgq : gb pm 1 = q0 := by rw [hg1]; simp; omega
  have hpo : (2 : Int) * (o : Int) = (p : Int) := by omega
  have hrm : (m : Int).tmod 256 = (r0 : Int) := by rw [Int.tmod_eq_emod_of_nonneg (by omega)]; omega
  have hqm : (m : Int) / 256 = (q0 : Int) := by omega
  have hwq : IntKind.i64.wrap (q0 : Int) = (q0 : Int) := by simp [IntKind.wrap, IntKind.bits, IntKind.signed]; omega
  have hwu0 : IntKind.u8.wrap (r0 : Int) = (r0 : Int) := by rw [wrap_u8]; omega
  have hwu1 : IntKind.u8.wrap (q0 : Int) = (q0 : Int) := by rw [wrap_u8]; omega
  have hwp : IntKind.i64.wrap (p : Int) = (p : Int) := by simp [IntKind.wrap, IntKind.bits, IntKind.signed]; omega
  have hl1 : (1 : Int) < (v.length : Nat) := by omega
  have hoi : ¬ (15 : Int) < (o : Int) := by omega
  have hmi : ¬ ((65535 : Int) < (m : Int)) := by omega
  have hm0 : (0 : Int) ≤ (m : Int) := by omega
  have hio : (p : Int) ≤ 128 := by omega
  have hmo : min p 128 = p := by omega
  have hc1' : ¬ (9223372036854775807 < p + 2) := by omega
  have hc2 : ¬ (9223372036854775807 < p + 2 + (126 - p)) := by omega
  have hc4 : ¬ ((128 : Int) < (p : Int) + 2) := by omega
  have hc5 : (p : Int) + 2 ≤ 128 := by omega
  have hw1 : IntKind.i64.wrap ((p : Int) + 2) = (p : Int) + 2 := by simp [IntKind.wrap, IntKind.bits, IntKind.signed]; omega
  have hw2 : ((p : Int) + 2).toNat = p + 2 := by omega
  have hp1 : (0 : Int) ≤ (p : Int) + 2 := by omega
  have htk : List.take (126 - p) (List.drop (p + 2) s) = List.drop (p + 2) s := List.take_of_length_le (by simp [s1])
  clear hr hc hv H h hu hs hp hp2 hr0 hq0 hg0 hg1
  go_enter Try.func27, Try.ntmps27
  go_wp2_with (first
    | (go_at_call 46; refine (rof_ok _ _ _ _ HR.out HV.out).mono ?_; rintro e w1 ⟨rfl, hb1⟩; have HB := Lib.hid (hb1.alloc hb1.size (.cells #[.int .i64 v.length, .int .i64 (inosV v), .int .i64 1, .int .i64 2, .int .i64 3, .int .i64 (3 + ((inosV v : Nat) + 1 : Int) / 2)] 66)); have HQ := Lib.hid (blk_new w1 (.cells #[.int .i64 v.length, .int .i64 (inosV v), .int .i64 1, .int .i64 2, .int .i64 3, .int .i64 (3 + ((inosV v : Nat) + 1 : Int) / 2)] 66)); clear hb1)
    | (go_at_call 68; refine (hov.out _ (HR.out.below HB.out)).mono ?_; rintro e w2 ⟨rfl, hb2⟩; have HB2 := Lib.hid (below_keep HB.out (Nat.le_refl _) hb2); have HQ2 := Lib.hid (blk_keep HQ.out hb2); have HO := Lib.hid (own_new 9 w2); clear hb2)
    | (at_builtin; refine wpList_append_own _ rfl _ _ 22 rfl w2.heap.size 9 i0 _ 1 16 Try.underlying22 hi0 hz0 hz1 hz2 rfl (by decide) _ 0 [] rfl HO.out ⟨bA, oA, none⟩ v.length c (strs v) rfl (by rw [strs_length, Nat.mul_one]) ?hn (strs_one v) (by simp only [maxLen]; omega) (by omega) (by simp) ?hk))
  case hn =>
    intro j u hu
    have hj : j < v.length := by
      rw [← strs_length v]
      exact (List.getElem?_eq_some_iff.1 hu).1
    rw [strs_get v j hj] at hu
    injection hu with hu
    subst hu
    exact cell_keep (src_cell (HC.out j hj)) (HB2.out.alloc HB2.out.size _)
  case hk =>
    intro u w5 hown1 hgrow _
    have hb5 : Below w2.heap.size w2 w5 := ((Below.refl _ _).alloc (Nat.le_refl _) _).grown hgrow (by simp) (fun k e => by cases e; exact Nat.le_refl _)
    obtain ⟨g, cap, rfl, hg, hv1⟩ := VB.of_own hown1 rfl (by omega)
    clear hown1 hgrow
    have hB5 := Lib.hid (below_keep HB2.out (Nat.le_refl _) hb5)
    obtain ⟨g0, g1, g2, g3, g4, g5⟩ := cells6 (blk_keep HQ2.out hb5)
    have hcs := cell_keep hc1 hB5.out
    have HG := Lib.hid hv1
    have s2 := HB2.out.size
    clear hv1 hb5
    go_wp2
    have hst : (convert 62 9 (.slice (some ⟨w5.heap.size, 0, none⟩) 2 2)).run Try.prog (w5.alloc (.cells #[.int .u8 r0, .int .u8 q0] 5)).drew = .ok (.string (mk pm)) (w5.alloc (.cells #[.int .u8 r0, .int .u8 q0] 5)).drew := str_of_u8 _ w5.heap.size 0 2 2 pm hpm (fun j hj => by
      rw [Nat.zero_add]
      show (w5.alloc (.cells #[.int .u8 r0, .int .u8 q0] 5)).cell? _ = _
      rw [cell_at (blk_new w5 _)]
      rcases (by omega : j = 0 ∨ j = 1) with rfl | rfl
      · rw [hgr]; rfl
      · rw [hgq]; rfl)
    have d1 : (w5.alloc (.cells #[.int .u8 r0, .int .u8 q0] 5)).drew.cell? ⟨g, 1, none⟩ = some (.string (mk (bk v 1))) := (HG.out.keep (((Below.refl _ _).alloc (Nat.le_refl _) _).drew)).cell 1 (by omega)
    have d2 : (w5.alloc (.cells #[.int .u8 r0, .int .u8 q0] 5)).drew.frozen? ⟨g, 1, none⟩ = false := (HG.out.keep (((Below.refl _ _).alloc (Nat.le_refl _) _).drew)).free 1
    refine region_P (fun w' => w'.cell? ⟨w1.heap.size, 2, none⟩ = some (.int .i64 1)) [23] (by kernel_rfl) ?_ (fun hHeld => ?_)
    · exact g2
    refine wpP_take (i := 0) (oi := ?oi684001) (v := ?v684001) ?hi684001 (by kernel_rfl) (by kernel_rfl) (by kernel_rfl) (by kernel_rfl) ?hQ684001 ?hy684001 (by assumption) ?rest684001
    case hi684001 => (simp only [List.getElem?_toArray, List.getElem?_cons_succ, List.getElem?_cons_zero]; exact rfl)
    case hQ684001 => exact fun _ _ _ h => h
    case hy684001 => (refine Or.inl ⟨by kernel_rfl, ?_⟩; intro w hSw; (try dsimp only at hSw); go_simp; try (with_reducible rfl))
    try simp only [Act.put, List.setIfInBounds_toArray, List.set_cons_zero, List.set_cons_succ]
    refine wpP_take (i := 1) (oi := ?oi684002) (v := ?v684002) ?hi684002 (by kernel_rfl) (by kernel_rfl) (by kernel_rfl) (by kernel_rfl) ?hQ684002 ?hy684002 (by assumption) ?rest684002
    case hi684002 => (simp only [List.getElem?_toArray, List.getElem?_cons_succ, List.getElem?_cons_zero]; exact rfl)
    case hQ684002 => exact fun _ _ _ h => h
    case hy684002 => (refine Or.inl ⟨by kernel_rfl, ?_⟩; intro w hSw; (try dsimp only at hSw); go_simp; try (with_reducible rfl))
    try simp only [Act.put, List.setIfInBounds_toArray, List.set_cons_zero, List.set_cons_succ]
    refine wpP_take (i := 2) (oi := ?oi684003) (v := ?v684003) ?hi684003 (by kernel_rfl) (by kernel_rfl) (by kernel_rfl) (by kernel_rfl) ?hQ684003 ?hy684003 (by assumption) ?rest684003
    case hi684003 => (simp only [List.getElem?_toArray, List.getElem?_cons_succ, List.getElem?_cons_zero]; exact rfl)
    case hQ684003 => exact fun _ _ _ h => h
    case hy684003 => (refine Or.inl ⟨by kernel_rfl, ?_⟩; intro w hSw; (try dsimp only at hSw); go_simp; try (with_reducible rfl))
    try simp only [Act.put, List.setIfInBounds_toArray, List.set_cons_zero, List.set_cons_succ]
    refine wpP_take (i := 3) (oi := ?oi684004) (v := ?v684004) ?hi684004 (by kernel_rfl) (by kernel_rfl) (by kernel_rfl) (by kernel_rfl) ?hQ684004 ?hy684004 (by assumption) ?rest684004
    case hi684004 => (simp only [List.getElem?_toArray, List.getElem?_cons_succ, List.getElem?_cons_zero]; exact rfl)
    case hQ684004 => exact fun _ _ _ h => h
    case hy684004 => (refine Or.inl ⟨by kernel_rfl, ?_⟩; intro w hSw; (try dsimp only at hSw); go_simp; try (with_reducible rfl))
    try simp only [Act.put, List.setIfInBounds_toArray, List.set_cons_zero, List.set_cons_succ]
    refine wpP_take (i := 4) (oi := ?oi684005) (v := ?v684005) ?hi684005 (by kernel_rfl) (by kernel_rfl) (by kernel_rfl) (by kernel_rfl) ?hQ684005 ?hy684005 (by assumption) ?rest684005
    case hi684005 => (simp only [List.getElem?_toArray, List.getElem?_cons_succ, List.getElem?_cons_zero]; exact rfl)
    case hQ684005 => exact fun _ _ _ h => h
    case hy684005 => (refine Or.inl ⟨by kernel_rfl, ?_⟩; intro w hSw; (try dsimp only at hSw); go_simp; try (with_reducible rfl))
    try simp only [Act.put, List.setIfInBounds_toArray, List.set_cons_zero, List.set_cons_succ]
    refine wpP_take (i := 5) (oi := ?oi684006) (v := ?v684006) ?hi684006 (by kernel_rfl) (by kernel_rfl) (by kernel_rfl) (by kernel_rfl) ?hQ684006 ?hy684006 (by assumption) ?rest684006
    case hi684006 => (simp only [List.getElem?_toArray, List.getElem?_cons_succ, List.getElem?_cons_zero]; exact rfl)
    case hQ684006 => exact fun _ _ _ h => h
    case hy684006 => (refine Or.inl ⟨by kernel_rfl, ?_⟩; intro w hSw; (try dsimp only at hSw); go_simp; try (with_reducible rfl))
    try simp only [Act.put, List.setIfInBounds_toArray, List.set_cons_zero, List.set_cons_succ]
    refine wpP_take (i := 6) (oi := ?oi684007) (v := ?v684007) ?hi684007 (by kernel_rfl) (by kernel_rfl) (by kernel_rfl) (by kernel_rfl) ?hQ684007 ?hy684007 (by assumption) ?rest684007
    case hi684007 => (simp only [List.getElem?_toArray, List.getElem?_cons_succ, List.getElem?_cons_zero]; exact rfl)
    case hQ684007 => exact fun _ _ _ h => h
    case hy684007 => (refine Or.inl ⟨by kernel_rfl, ?_⟩; intro w hSw; (try dsimp only at hSw); go_simp; try (with_reducible rfl))
    try simp only [Act.put, List.setIfInBounds_toArray, List.set_cons_zero, List.set_cons_succ]
    refine wpP_take (i := 7) (oi := ?oi684008) (v := ?v684008) ?hi684008 (by kernel_rfl) (by kernel_rfl) (by kernel_rfl) (by kernel_rfl) ?hQ684008 ?hy684008 (by assumption) ?rest684008
    case hi684008 => (simp only [List.getElem?_toArray, List.getElem?_cons_succ, List.getElem?_cons_zero]; exact rfl)
    case hQ684008 => exact fun _ _ _ h => h
    case hy684008 => (refine Or.inl ⟨by kernel_rfl, ?_⟩; intro w hSw; (try dsimp only at hSw); go_simp; try (with_reducible rfl))
    try simp only [Act.put, List.setIfInBounds_toArray, List.set_cons_zero, List.set_cons_succ]
    refine wpP_take (i := 8) (oi := ?oi684009) (v := ?v684009) ?hi684009 (by kernel_rfl) (by kernel_rfl) (by kernel_rfl) (by kernel_rfl) ?hQ684009 ?hy684009 (by assumption) ?rest684009
    case hi684009 => (simp only [List.getElem?_toArray, List.getElem?_cons_succ, List.getElem?_cons_zero]; exact rfl)
    case hQ684009 => exact fun _ _ _ h => h
    case hy684009 => (refine Or.inl ⟨by kernel_rfl, ?_⟩; intro w hSw; (try dsimp only at hSw); go_simp; try (with_reducible rfl))
    try simp only [Act.put, List.setIfInBounds_toArray, List.set_cons_zero, List.set_cons_succ]
    refine wpP_take (i := 9) (oi := ?oi684010) (v := ?v684010) ?hi684010 (by kernel_rfl) (by kernel_rfl) (by kernel_rfl) (by kernel_rfl) ?hQ684010 ?hy684010 (by assumption) ?rest684010
    case hi684010 => (simp only [List.getElem?_toArray, List.getElem?_cons_succ, List.getElem?_cons_zero]; exact rfl)
    case hQ684010 => exact fun _ _ _ h => h
    case hy684010 => (refine Or.inl ⟨by kernel_rfl, ?_⟩; intro w hSw; (try dsimp only at hSw); go_simp; try (with_reducible rfl))
    try simp only [Act.put, List.setIfInBounds_toArray, List.set_cons_zero, List.set_cons_succ]
    refine wpP_take (i := 10) (oi := ?oi684011) (v := ?v684011) ?hi684011 (by kernel_rfl) (by kernel_rfl) (by kernel_rfl) (by kernel_rfl) ?hQ684011 ?hy684011 (by assumption) ?rest684011
    case hi684011 => (simp only [List.getElem?_toArray, List.getElem?_cons_succ, List.getElem?_cons_zero]; exact rfl)
    case hQ684011 => exact fun _ _ _ h => h
    case hy684011 => (refine Or.inl ⟨by kernel_rfl, ?_⟩; intro w hSw; (try dsimp only at hSw); go_simp; try (with_reducible rfl))
    try simp only [Act.put, List.setIfInBounds_toArray, List.set_cons_zero, List.set_cons_succ]
    refine wpP_take (i := 11) (oi := ?oi684012) (v := ?v684012) ?hi684012 (by kernel_rfl) (by kernel_rfl) (by kernel_rfl) (by kernel_rfl) ?hQ684012 ?hy684012 (by assumption) ?rest684012
    case hi684012 => (simp only [List.getElem?_toArray, List.getElem?_cons_succ, List.getElem?_cons_zero]; exact rfl)
    case hQ684012 => exact fun _ _ _ h => h
    case hy684012 => (refine Or.inl ⟨by kernel_rfl, ?_⟩; intro w hSw; (try dsimp only at hSw); go_simp; try (with_reducible rfl))
    try simp only [Act.put, List.setIfInBounds_toArray, List.set_cons_zero, List.set_cons_succ]
    refine wpP_take (i := 12) (oi := ?oi684013) (v := ?v684013) ?hi684013 (by kernel_rfl) (by kernel_rfl) (by kernel_rfl) (by kernel_rfl) ?hQ684013 ?hy684013 (by assumption) ?rest684013
    case hi684013 => (simp only [List.getElem?_toArray, List.getElem?_cons_succ, List.getElem?_cons_zero]; exact rfl)
    case hQ684013 => exact fun _ _ _ h => h
    case hy684013 => (refine Or.inl ⟨by kernel_rfl, ?_⟩; intro w hSw; (try dsimp only at hSw); go_simp; try (with_reducible rfl))
    try simp only [Act.put, List.setIfInBounds_toArray, List.set_cons_zero, List.set_cons_succ]
    refine wpP_take (i := 16) (oi := ?oi684014) (v := ?v684014) ?hi684014 (by kernel_rfl) (by kernel_rfl) (by kernel_rfl) (by kernel_rfl) ?hQ684014 ?hy684014 (by assumption) ?rest684014
    case hi684014 => (simp only [List.getElem?_toArray, List.getElem?_cons_succ, List.getElem?_cons_zero]; exact rfl)
    case hQ684014 => exact fun _ _ _ h => h
    case hy684014 => (refine Or.inl ⟨by kernel_rfl, ?_⟩; intro w hSw; (try dsimp only at hSw); go_simp; try (with_reducible rfl))
    try simp only [Act.put, List.setIfInBounds_toArray, List.set_cons_zero, List.set_cons_succ]
    refine wpP_take (i := 17) (oi := ?oi684015) (v := ?v684015) ?hi684015 (by kernel_rfl) (by kernel_rfl) (by kernel_rfl) (by kernel_rfl) ?hQ684015 ?hy684015 (by assumption) ?rest684015
    case hi684015 => (simp only [List.getElem?_toArray, List.getElem?_cons_succ, List.getElem?_cons_zero]; exact rfl)
    case hQ684015 => exact fun _ _ _ h => h
    case hy684015 => (refine Or.inl ⟨by kernel_rfl, ?_⟩; intro w hSw; (try dsimp only at hSw); go_simp; try (with_reducible rfl))
    try simp only [Act.put, List.setIfInBounds_toArray, List.set_cons_zero, List.set_cons_succ]
    refine wpP_take (i := 18) (oi := ?oi684016) (v := ?v684016) ?hi684016 (by kernel_rfl) (by kernel_rfl) (by kernel_rfl) (by kernel_rfl) ?hQ684016 ?hy684016 (by assumption) ?rest684016
    case hi684016 => (simp only [List.getElem?_toArray, List.getElem?_cons_succ, List.getElem?_cons_zero]; exact rfl)
    case hQ684016 => exact fun _ _ _ h => h
    case hy684016 => (refine Or.inl ⟨by kernel_rfl, ?_⟩; intro w hSw; (try dsimp only at hSw); go_simp; try (with_reducible rfl))
    try simp only [Act.put, List.setIfInBounds_toArray, List.set_cons_zero, List.set_cons_succ]
    refine wpP_take (i := 19) (oi := ?oi684017) (v := ?v684017) ?hi684017 (by kernel_rfl) (by kernel_rfl) (by kernel_rfl) (by kernel_rfl) ?hQ684017 ?hy684017 (by assumption) ?rest684017
    case hi684017 => (simp only [List.getElem?_toArray, List.getElem?_cons_succ, List.getElem?_cons_zero]; exact rfl)
    case hQ684017 => exact fun _ _ _ h => h
    case hy684017 => (refine Or.inl ⟨by kernel_rfl, ?_⟩; intro w hSw; (try dsimp only at hSw); go_simp; try (with_reducible rfl))
    try simp only [Act.put, List.setIfInBounds_toArray, List.set_cons_zero, List.set_cons_succ]
    refine wpP_take (i := 20) (oi := ?oi684018) (v := ?v684018) ?hi684018 (by kernel_rfl) (by kernel_rfl) (by kernel_rfl) (by kernel_rfl) ?hQ684018 ?hy684018 (by assumption) ?rest684018
    case hi684018 => (simp only [List.getElem?_toArray, List.getElem?_cons_succ, List.getElem?_cons_zero]; exact rfl)
    case hQ684018 => exact fun _ _ _ h => h
    case hy684018 => (refine Or.inl ⟨by kernel_rfl, ?_⟩; intro w hSw; (try dsimp only at hSw); go_simp; try (with_reducible rfl))
    try simp only [Act.put, List.setIfInBounds_toArray, List.set_cons_zero, List.set_cons_succ]
    refine wpP_ready (rs := [13]) (by kernel_rfl) (by simp) ?_
    refine AllP.cons (o := ?o684019) ?ho684019 (fun K hK => ?_) AllP.nil
    case ho684019 => (simp only [List.getElem?_toArray, List.getElem?_cons_succ, List.getElem?_cons_zero]; exact rfl)
    go_simp
    refine hK.out _ _ ?_ (fun hHeld => ?_)
    · exact (cell_keep hHeld ((Below.refl _ _).alloc (Nat.le_refl _) _))
    clear hK K
    try simp only [Act.put, List.setIfInBounds_toArray, List.set_cons_zero, List.set_cons_succ]
    refine wpP_ready (rs := [14]) (by kernel_rfl) (by simp) ?_
    refine AllP.cons (o := ?o684020) ?ho684020 (fun K hK => ?_) AllP.nil
    case ho684020 => (simp only [List.getElem?_toArray, List.getElem?_cons_succ, List.getElem?_cons_zero]; exact rfl)
    go_simp
    refine hK.out _ _ ?_ (fun hHeld => ?_)
    · exact hHeld
    clear hK K
    try simp only [Act.put, List.setIfInBounds_toArray, List.set_cons_zero, List.set_cons_succ]
    refine wpP_take (i := 15) (oi := ?oi684021) (v := ?v684021) ?hi684021 (by kernel_rfl) (by kernel_rfl) (by kernel_rfl) (by kernel_rfl) ?hQ684021 ?hy684021 (by assumption) ?rest684021
    case hi684021 => (simp only [List.getElem?_toArray, List.getElem?_cons_succ, List.getElem?_cons_zero]; exact rfl)
    case hQ684021 => exact fun _ _ _ h => h
    case hy684021 => (refine Or.inl ⟨by kernel_rfl, ?_⟩; intro w hSw; (try dsimp only at hSw); go_simp; try (with_reducible rfl))
    try simp only [Act.put, List.setIfInBounds_toArray, List.set_cons_zero, List.set_cons_succ]
    refine wpP_take (i := 21) (oi := ?oi684022) (v := ?v684022) ?hi684022 (by kernel_rfl) (by kernel_rfl) (by kernel_rfl) (by kernel_rfl) ?hQ684022 ?hy684022 (by assumption) ?rest684022
    case hi684022 => (simp only [List.getElem?_toArray, List.getElem?_cons_succ, List.getElem?_cons_zero]; exact rfl)
    case hQ684022 => exact fun _ _ _ h => h
    case hy684022 => (refine Or.inl ⟨by kernel_rfl, ?_⟩; intro w hSw; (try dsimp only at hSw); go_simp; try (with_reducible rfl))
    try simp only [Act.put, List.setIfInBounds_toArray, List.set_cons_zero, List.set_cons_succ]
    refine wpP_take (i := 22) (oi := ?oi684023) (v := ?v684023) ?hi684023 (by kernel_rfl) (by kernel_rfl) (by kernel_rfl) (by kernel_rfl) ?hQ684023 ?hy684023 (by assumption) ?rest684023
    case hi684023 => (simp only [List.getElem?_toArray, List.getElem?_cons_succ, List.getElem?_cons_zero]; exact rfl)
    case hQ684023 => exact fun _ _ _ h => h
    case hy684023 => (refine Or.inl ⟨by kernel_rfl, ?_⟩; intro w hSw; (try dsimp only at hSw); go_simp; try (with_reducible rfl))
    try simp only [Act.put, List.setIfInBounds_toArray, List.set_cons_zero, List.set_cons_succ]
    refine wpP_ready (rs := [23]) (by kernel_rfl) (by simp) ?_
    refine AllP.last (o := ?o684024) ?ho684024 (by kernel_rfl) (fun K hK => ?_) AllP.nil
    case ho684024 => (simp only [List.getElem?_toArray, List.getElem?_cons_succ, List.getElem?_cons_zero]; exact rfl)
    go_simp
    refine hK.out _ _ ?_
    clear hK K
    try simp only [Act.put, List.setIfInBounds_toArray, List.set_cons_zero, List.set_cons_succ]
    refine wpP_done (by kernel_rfl) ?_ _
    go_wp2
    go_ret2
    have hk := (HG.out.keep (((Below.refl w5.heap.size w5).alloc (Nat.le_refl _) (.cells #[.int .u8 r0, .int .u8 q0] 5)).drew)).set 1 (s.take p ++ (pm ++ s.drop (p + 2))) (by omega)
    refine ⟨g, cap, rfl, ?_, by omega, below_set (below_keep hB5.out (Nat.le_refl _) (((Below.refl w5.heap.size w5).alloc (Nat.le_refl _) _).drew)) (by omega)⟩
    rw [List.append_assoc]
    exact hk
theorem rs_nil (w : World) : RS w none [] := ⟨by simp, fun h => absurd h (by simp)⟩
set_option maxHeartbeats 4000000 in
theorem qsets_ok (A : Option Addr) (c : Nat) (v : Vol) (o m : Int) (w : World) (hr : RS w A v) :
    Calls Try.prog 4 #[.slice A v.length c, .int .i64 o, .int .i64 m] w fun e w' => e = .returned (.bool true) ∧ Below w.heap.size w w' := by
  have HR := Lib.hid hr
  have hgr := Lib.hid (fun w hr => great18_ok A c v w hr)
  by_cases hsm : smallQ v = true
  · rw [show greatQ v = 0 from if_pos hsm] at hgr
    by_cases hs : setE v o m = 0
    · obtain ⟨hv, h1, h2, h3, _⟩ := setE_ok hs
      obtain ⟨o, rfl⟩ := Int.eq_ofNat_of_zero_le h1
      obtain ⟨m, rfl⟩ := Int.eq_ofNat_of_zero_le h3
      have hst1 := Lib.hid (fun w hr => qset_ok A c v o m w hr hs)
      have hst2 := Lib.hid (fun w hr => rset_ok A c v o m w hr hs)
      have hlen := (like_setV (o := o) (m := m) hv (by omega)).len
      have hhi := (okV_iff.1 hv).hi
      have hsame := fun A' B' c1 c2 w hr hr' => same18_ok A' B' c1 c2 (setV v o m) (setV v o m) w hr hr'
      rw [hlen, decide_eq_true rfl] at hsame
      have HS := Lib.hid hsame
      have HL := Lib.hid hlen
      clear hr hs hv hsame hlen
      generalize setV v o m = vn at *
      go_enter Try.func4, Try.ntmps4
      go_wp2_with (first
        | (go_at_call 24; refine (alive_ok _).mono ?_; rintro e w0 ⟨rfl, hb0⟩; have B0 := Lib.hid hb0; clear hb0)
        | (go_at_call 25; refine (hgr.out _ (HR.out.below B0.out)).mono ?_; rintro e w1 ⟨rfl, rfl⟩)
        | (go_at_call 26; refine (hst1.out _ (HR.out.below B0.out)).mono ?_; rintro e w2 ⟨g2, c2, rfl, hg2, hgs2, hb2⟩; have B2 := Lib.hid (below_keep' B0.out B0.out.size hb2); have R2 := Lib.hid (hg2.rs (by rw [HL.out]; omega)); clear hb2 hg2)
        | (go_at_call 27; refine (hst2.out _ (HR.out.below B2.out)).mono ?_; rintro e w3 ⟨g3, c3, rfl, hg3, hgs3, hb3⟩; have B3 := Lib.hid (below_keep' B2.out B2.out.size hb3); have R3 := Lib.hid (hg3.rs (by rw [HL.out]; omega)); have R23 := Lib.hid (R2.out.below hb3); clear hb3 hg3)
        | (go_at_call 28; refine (HS.out _ _ _ _ _ R23.out R3.out).mono ?_; rintro e w4 ⟨rfl, hb4⟩; have B4 := Lib.hid (below_keep' B3.out B3.out.size hb4); clear hb4))
      go_ret
      exact ⟨rfl, B4.out⟩
    · have hst1 := Lib.hid (fun w hr => qset_no A c v o m w hr hs)
      have hst2 := Lib.hid (fun w hr => rset_no A c v o m w hr hs)
      have hsame := Lib.hid (fun w => same18_ok none none 0 0 [] [] w (rs_nil w) (rs_nil w))
      rw [decide_eq_true rfl] at hsame
      generalize setE v o m = er at *
      clear hr hs
      go_enter Try.func4, Try.ntmps4
      go_wp2_with (first
        | (go_at_call 24; refine (alive_ok _).mono ?_; rintro e w0 ⟨rfl, hb0⟩; have B0 := Lib.hid hb0; clear hb0)
        | (go_at_call 25; refine (hgr.out _ (HR.out.below B0.out)).mono ?_; rintro e w1 ⟨rfl, rfl⟩)
        | (go_at_call 26; refine (hst1.out _ (HR.out.below B0.out)).mono ?_; rintro e w2 ⟨rfl, hb2⟩; have B2 := Lib.hid (below_keep' B0.out B0.out.size hb2); clear hb2)
        | (go_at_call 27; refine (hst2.out _ (HR.out.below B2.out)).mono ?_; rintro e w3 ⟨rfl, hb3⟩; have B3 := Lib.hid (below_keep' B2.out B2.out.size hb3); clear hb3)
        | (go_at_call 28; refine (hsame.out _).mono ?_; rintro e w4 ⟨rfl, hb4⟩; have B4 := Lib.hid (below_keep' B3.out B3.out.size hb4); clear hb4))
      go_ret
      exact ⟨rfl, B4.out⟩
  · rw [show greatQ v = 1 from if_neg hsm] at hgr
    go_enter Try.func4, Try.ntmps4
    go_wp2_with (first
      | (go_at_call 24; refine (alive_ok _).mono ?_; rintro e w0 ⟨rfl, hb0⟩; have B0 := Lib.hid hb0; clear hb0)
      | (go_at_call 25; refine (hgr.out _ (HR.out.below B0.out)).mono ?_; rintro e w1 ⟨rfl, rfl⟩))
    go_ret
    exact ⟨rfl, B0.out⟩
end Go.Proofs.Ytacdohlhalnioaa
end
