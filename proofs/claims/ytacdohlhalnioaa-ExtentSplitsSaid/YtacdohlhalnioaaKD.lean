/- Joined: XYB XYC. -/
import Derived.Test.YtacdohlhalnioaaKC
/- The pure law of files: what is written in one piece is what is written in two. -/
section
set_option linter.unusedVariables false
set_option linter.unusedSimpArgs false
set_option maxRecDepth 20000
namespace Go.Proofs.Ytacdohlhalnioaa
open Go.RowKit

theorem wrV_fuel (m : Nat) : ∀ {m' : Nat} {v : Vol} {x : Ino} {a : Nat} {t : Blk}, t.length ≤ m → t.length ≤ m' → wrV m v x a t = wrV m' v x a t := by
  induction m with
  | zero =>
    intro m' v x a t h h'
    obtain rfl : t = [] := List.length_eq_zero_iff.1 (by omega)
    rw [wrV_nil, wrV_nil]
  | succ m ih =>
    intro m' v x a t h h'
    by_cases ht : t = []
    · subst ht; rw [wrV_nil, wrV_nil]
    · have htl := List.length_pos_iff.2 ht
      obtain ⟨m1, rfl⟩ : ∃ m1, m' = m1 + 1 := ⟨m' - 1, by omega⟩
      rw [wrV, wrV, if_neg ht, if_neg ht]
      have hp : (t.take (128 - a % 128)).length = min (128 - a % 128) t.length := List.length_take
      rcases placeV v x (a / 128) with _ | ⟨b, v1, x1⟩
      · rfl
      · exact ih (by rw [List.length_drop]; omega) (by rw [List.length_drop]; omega)

/-! An inode that is put ahead of it or behind it. -/
theorem put_set {v : Vol} {n j : Nat} {y : Ino} {s : Blk} (hj : j ≠ 3 + (n - 1) / 2) : putV (v.set j s) n y = (putV v n y).set j s := by
  rw [putV, putV, bk_set_other _ _ _ _ hj, List.set_comm _ _ hj]
theorem took_put {v : Vol} {n i : Nat} {y : Ino} (h1 : 1 ≤ n) (h2 : n ≤ inosV v) (hi : dataV v ≤ i) : tookV (putV v n y) i = putV (tookV v i) n y := by
  have hd : 3 + (n - 1) / 2 < dataV v := by rw [dataV]; omega
  rw [tookV, tookV, put_set (by omega), put_set (by omega), bk_put_low (by omega)]
theorem name_put {v : Vol} {x y : Ino} {n k b : Nat} (hv : okV v = true) (h1 : 1 ≤ n) (h2 : n ≤ inosV v) : nameV (dataV v) (putV v n y) x k b = putV (nameV (dataV v) v x k b) n y := by
  have hd : 3 + (n - 1) / 2 < dataV v := by rw [dataV]; omega
  have hk := kept_put (x := y) hv h1 h2
  unfold nameV
  rw [hk.len]
  split
  · rfl
  · split
    · rename_i hg
      have := (goodN_iff.1 hg).1
      rw [put_set (by omega), bk_put_data h1 h2 this]
    · rfl
theorem at_put {v : Vol} {x y : Ino} {n k : Nat} (hv : okV v = true) (h1 : 1 ≤ n) (h2 : n ≤ inosV v) (hk : k < 70) : atN (dataV (putV v n y)) (putV v n y).length (putV v n y) x k = atN (dataV v) v.length v x k := by
  rw [← refV_at _ _ hk, ← refV_at _ _ hk, ref_put hv h1 h2]
theorem free_put {v : Vol} {y : Ino} {n : Nat} (hv : okV v = true) (h1 : 1 ≤ n) (h2 : n ≤ inosV v) : freeB (putV v n y) = freeB v := by
  have hk := kept_put (x := y) hv h1 h2
  rw [freeB, freeB, hk.len, hk.dat, bk_put_low (by omega)]
theorem place_put {v : Vol} {x y : Ino} {n k : Nat} (hv : okV v = true) (h1 : 1 ≤ n) (h2 : n ≤ inosV v) (hk : k < 70) : placeV (putV v n y) x k = (placeV v x k).map fun p => (p.1, putV p.2.1 n y, p.2.2) := by
  have hkp := kept_put (x := y) hv h1 h2
  unfold placeV
  rw [at_put hv h1 h2 hk, hkp.dat, hkp.len, free_put hv h1 h2]
  split
  · split
    · cases hb : freeB v with
      | none => rfl
      | some b =>
        obtain ⟨f1, f2, _⟩ := freeB_some hb
        have kt := kept_tookV hv f1 f2
        have e := name_put (x := x) (y := y) (k := k) (b := b) kt.ok h1 (by rw [kt.ino]; exact h2)
        rw [kt.dat] at e
        simp only [Option.map_some]
        rw [took_put h1 h2 f1, e]
    · cases hi : freeB v with
      | none => rfl
      | some i =>
        obtain ⟨f1, f2, _⟩ := freeB_some hi
        have kt := kept_tookV hv f1 f2
        have h2' : n ≤ inosV (tookV v i) := by rw [kt.ino]; exact h2
        simp only
        rw [took_put h1 h2 f1, free_put kt.ok h1 h2']
        cases hb : freeB (tookV v i) with
        | none => rfl
        | some b =>
          obtain ⟨g1, g2, _⟩ := freeB_some hb
          have kt2 := kept_tookV kt.ok g1 g2
          have e := name_put (x := x.setI i) (y := y) (k := k) (b := b) kt2.ok h1 (by rw [kt2.ino]; exact h2')
          rw [kt2.dat, kt.dat] at e
          simp only [Option.map_some]
          rw [took_put h1 h2' g1, e]
  · rfl
theorem wr_put (m : Nat) : ∀ {v : Vol} {x y : Ino} {n a : Nat} {t : Blk}, okV v = true → fitI x → 1 ≤ n → n ≤ inosV v → a + t.length ≤ 8960 → wrV m (putV v n y) x a t = (wrV m v x a t).map fun p => (putV p.1 n y, p.2) := by
  induction m with
  | zero => intro v x y n a t hv hx h1 h2 ha; rfl
  | succ m ih =>
    intro v x y n a t hv hx h1 h2 ha
    rw [wrV, wrV]
    by_cases ht : t = []
    · rw [if_pos ht, if_pos ht]; rfl
    · have htl := List.length_pos_iff.2 ht
      rw [if_neg ht, if_neg ht, place_put hv h1 h2 (by omega)]
      obtain ⟨p, hp⟩ : ∃ p, placeV v x (a / 128) = p := ⟨_, rfl⟩
      rw [hp]
      rcases p with _ | ⟨b, v1, x1⟩
      · rfl
      · obtain ⟨p1, p2, p3, p4, _⟩ := place_facts hv hx hp
        have hlt : (t.take (128 - a % 128)).length = min (128 - a % 128) t.length := List.length_take
        have h2' : n ≤ inosV v1 := by rw [p3.ino]; exact h2
        have hd : 3 + (n - 1) / 2 < dataV v := by rw [dataV]; omega
        have hs := (okV_iff.1 p3.ok).size b (by rw [p3.len]; exact p2)
        have hks := kept_set p3.ok (b := b) (s := over (bk v1 b) (a % 128) (t.take (128 - a % 128))) (by have := dataV_pos v; omega) (by rw [over_length _ _ _ (by rw [hlt, hs]; omega), hs])
        simp only [Option.map_some]
        rw [bk_put_data h1 h2' (by rw [p3.dat]; exact p1), ← put_set (by omega)]
        exact ih hks.ok p4 h1 (by rw [hks.ino]; exact h2') (by rw [List.length_drop]; omega)
theorem place_size {v : Vol} {x : Ino} {k s : Nat} (hk : k < 70) : placeV v (x.setS s) k = (placeV v x k).map fun p => (p.1, p.2.1, p.2.2.setS s) := by
  have e1 : atN (dataV v) v.length v (x.setS s) k = atN (dataV v) v.length v x k := by rw [← refV_at _ _ hk, ← refV_at _ _ hk, ref_size]
  have e2 : ∀ (z : Ino) b, nameX (z.setS s) k b = (nameX z k b).setS s := fun z b => by unfold nameX; split <;> rfl
  have e3 : ∀ (z : Ino) w b, nameV (dataV v) w (z.setS s) k b = nameV (dataV v) w z k b := fun z w b => rfl
  unfold placeV
  rw [e1]
  split
  · split
    · rename_i hc
      rw [if_pos (show k < 6 ∨ goodN (dataV v) v.length x.ind = true from hc)]
      cases freeB v with
      | none => rfl
      | some b => simp only [Option.map_some, e2, e3]
    · rename_i hc
      rw [if_neg (show ¬ (k < 6 ∨ goodN (dataV v) v.length x.ind = true) from hc)]
      cases freeB v with
      | none => rfl
      | some i =>
        simp only
        cases freeB (tookV v i) with
        | none => rfl
        | some b =>
          simp only [Option.map_some]
          rw [show (x.setS s).setI i = (x.setI i).setS s from rfl, e2, e3]
  · rfl
theorem wr_size (m : Nat) : ∀ {v : Vol} {x : Ino} {s a : Nat} {t : Blk}, a + t.length ≤ 8960 → wrV m v (x.setS s) a t = (wrV m v x a t).map fun p => (p.1, p.2.setS s) := by
  induction m with
  | zero => intro v x s a t ha; rfl
  | succ m ih =>
    intro v x s a t ha
    rw [wrV, wrV]
    by_cases ht : t = []
    · rw [if_pos ht, if_pos ht]; rfl
    · have htl := List.length_pos_iff.2 ht
      rw [if_neg ht, if_neg ht, place_size (by omega)]
      have hlt : (t.take (128 - a % 128)).length = min (128 - a % 128) t.length := List.length_take
      rcases placeV v x (a / 128) with _ | ⟨b, v1, x1⟩
      · rfl
      · simp only [Option.map_some]
        exact ih (by rw [List.length_drop]; omega)

theorem over_over (B : Blk) (r : Nat) (p q : Blk) (h : r + p.length + q.length ≤ B.length) : over (over B r p) (r + p.length) q = over B r (p ++ q) := by
  have l1 := over_length B r p (by omega)
  have hpq : (p ++ q).length = p.length + q.length := List.length_append
  refine blk_ext ?_ (fun i hi => ?_)
  · rw [over_length _ _ _ (by omega), l1, over_length _ _ _ (by omega)]
  · rw [gb_over _ _ _ (by omega), gb_over _ _ _ (by omega), gb_over _ _ _ (by omega), hpq]
    by_cases c1 : r + p.length ≤ i ∧ i < r + p.length + q.length
    · rw [if_pos c1, if_pos (by omega), gb_append_right _ _ _ (by omega)]
      congr 1
      omega
    · rw [if_neg c1]
      by_cases c2 : r ≤ i ∧ i < r + p.length
      · rw [if_pos c2, if_pos (by omega), gb_append_left _ _ _ (by omega)]
      · rw [if_neg c2, if_neg (by omega)]
theorem wr_append (S : Nat → Prop) (n : Nat) (hn : S n) (m : Nat) : ∀ {v : Vol} {f : Nat → Ino} {a : Nat} {t u : Blk}, okV v = true → Sd S v f → fitI (f n) → t.length ≤ m → a + t.length + u.length ≤ 8960 →
    wrV (t ++ u).length v (f n) a (t ++ u) = (wrV t.length v (f n) a t).bind fun p => wrV u.length p.1 p.2 (a + t.length) u := by
  induction m with
  | zero =>
    intro v f a t u hv hs hx hm ha
    obtain rfl : t = [] := List.length_eq_zero_iff.1 (by omega)
    rw [List.nil_append, wrV_nil]
    rfl
  | succ m ih =>
    intro v f a t u hv hs hx hm ha
    by_cases ht : t = []
    · subst ht
      rw [List.nil_append, wrV_nil]
      rfl
    · have htl := List.length_pos_iff.2 ht
      have hne : t ++ u ≠ [] := by simp [ht]
      have hl : (t ++ u).length = t.length + u.length := List.length_append
      obtain ⟨j, hj⟩ : ∃ j, t.length = j + 1 := ⟨t.length - 1, by omega⟩
      obtain ⟨k, hk⟩ : ∃ k, a / 128 = k := ⟨_, rfl⟩
      obtain ⟨r, hr⟩ : ∃ r, a % 128 = r := ⟨_, rfl⟩
      have hk70 : k < 70 := by omega
      rw [hl, show t.length + u.length = (j + u.length) + 1 from by omega, wrV, if_neg hne, hk, hr]
      rw [show wrV t.length v (f n) a t = wrV (j + 1) v (f n) a t from by rw [hj], wrV, if_neg ht, hk, hr]
      obtain ⟨pl, hpv⟩ : ∃ pl, placeV v (f n) k = pl := ⟨_, rfl⟩
      rw [hpv]
      rcases pl with _ | ⟨b, v1, x1⟩
      · rfl
      · have hP := place_eff hv hs hn hx hk70 hpv
        simp only
        have h1 : refV v1 (upd f n x1 n) k = b := by rw [upd_same]; exact hP.at_
        have hbL : b < v1.length := by
          have := (refV_lt (v := v1) (x := x1) (κ := k) (by rw [hP.at_]; exact hP.pos)).2
          rwa [hP.at_] at this
        have hBl : (bk v1 b).length = 128 := (okV_iff.1 hP.kept.ok).size b hbL
        by_cases hroom : 128 - r ≤ t.length
        · have e1 : (t ++ u).take (128 - r) = t.take (128 - r) := List.take_append_of_le_length hroom
          have e2 : (t.take (128 - r)).length = 128 - r := by rw [List.length_take]; omega
          rw [e1, e2, List.drop_append_of_le_length hroom]
          have hol : (over (bk v1 b) r (t.take (128 - r))).length = 128 := by rw [over_length _ _ _ (by omega), hBl]
          have hF := fill_eff (f := upd f n x1) (k := k) (s := over (bk v1 b) r (t.take (128 - r))) hP.kept.ok hP.sd hn hk70 (by rw [h1]; exact hP.pos) hol
          rw [h1] at hF
          have hI := @ih (v1.set b (over (bk v1 b) r (t.take (128 - r)))) (upd f n x1) (a + (128 - r)) (t.drop (128 - r)) u hF.kept.ok hF.sd (by rw [upd_same]; exact hP.fit) (by rw [List.length_drop]; omega) (by rw [List.length_drop]; omega)
          rw [upd_same] at hI
          have hld : (t.drop (128 - r)).length = t.length - (128 - r) := List.length_drop
          rw [wrV_fuel (j + u.length) (m' := (t.drop (128 - r) ++ u).length) (t := t.drop (128 - r) ++ u) (by rw [List.length_append, hld]; omega) (Nat.le_refl _), hI, wrV_fuel j (m' := (t.drop (128 - r)).length) (t := t.drop (128 - r)) (by rw [hld]; omega) (Nat.le_refl _), hld]
          rw [show a + (128 - r) + (t.length - (128 - r)) = a + t.length from by omega]
        · have e1 : (t ++ u).take (128 - r) = t ++ u.take (128 - r - t.length) := by rw [List.take_append, List.take_of_length_le (by omega)]
          have e2 : t.take (128 - r) = t := List.take_of_length_le (by omega)
          rw [e1, e2, List.drop_length, wrV_nil]
          simp only [Option.bind_some]
          by_cases hu : u = []
          · subst hu
            simp only [List.take_nil, List.append_nil, List.drop_length, wrV_nil]
          · have hul := List.length_pos_iff.2 hu
            have hol : (over (bk v1 b) r t).length = 128 := by rw [over_length _ _ _ (by omega), hBl]
            have hF := fill_eff (f := upd f n x1) (k := k) (s := over (bk v1 b) r t) hP.kept.ok hP.sd hn hk70 (by rw [h1]; exact hP.pos) hol
            rw [h1] at hF
            have h2 : atN (dataV (v1.set b (over (bk v1 b) r t))) (v1.set b (over (bk v1 b) r t)).length (v1.set b (over (bk v1 b) r t)) x1 k = b := by
              have := hF.ref n hn k
              rw [upd_same, hP.at_, refV_at _ _ hk70] at this
              exact this
            have hpl : placeV (v1.set b (over (bk v1 b) r t)) x1 k = some (b, v1.set b (over (bk v1 b) r t), x1) := by
              unfold placeV
              rw [h2, if_neg hP.pos]
            obtain ⟨i, hi⟩ : ∃ i, u.length = i + 1 := ⟨u.length - 1, by omega⟩
            rw [hi, wrV, if_neg hu, show (a + t.length) / 128 = k from by omega, show (a + t.length) % 128 = r + t.length from by omega, hpl]
            simp only
            have e3 : (u.take (128 - r - t.length)).length = min (128 - r - t.length) u.length := List.length_take
            rw [bk_set_same _ _ _ hbL, show 128 - (r + t.length) = 128 - r - t.length from by omega]
            obtain ⟨p2, hp2⟩ : ∃ p2, u.take (128 - r - t.length) = p2 := ⟨_, rfl⟩
            rw [hp2] at e3 ⊢
            have e4 : (t ++ u).drop (t ++ p2).length = u.drop p2.length := by
              rw [List.length_append, List.drop_append, show t.length + p2.length - t.length = p2.length from by omega, List.drop_of_length_le (by omega), List.nil_append]
            rw [over_over (bk v1 b) r t p2 (by omega), List.set_set, e4, List.length_append, show a + (t.length + p2.length) = a + t.length + p2.length from by omega]
            exact wrV_fuel (j + (i + 1)) (m' := i) (t := u.drop p2.length) (by rw [List.length_drop]; omega) (by rw [List.length_drop]; omega)

theorem writeR_mk {v : Vol} {n a : Nat} {t : Blk} (hv : okV v = true) (h1 : 1 ≤ n) (h2 : n ≤ inosV v) (ha : a + t.length ≤ 8960) : writeR v n a t = if t = [] then (0, v) else wEnd n (a + t.length) (wrV t.length v (inoV v n) a t) := by
  have hg : getE v (n : Int) = 0 := getE_is hv (by omega) (by omega)
  rw [writeR, if_neg (by simp [hg]), if_neg (by omega), if_neg (by omega)]
  rfl
/-- What is written in one piece is what is written in two. -/
theorem splits_pure {v : Vol} {n : Nat} {off : Int} {a b : Blk} {w : Vol} (h : LV v) (hn : S3 n) (hw : writeR v n off (a ++ b) = (0, w)) : ∃ x, writeR v n off a = (0, x) ∧ writeR x n (off + a.length) b = (0, w) := by
  obtain ⟨o, rfl, ho, hc⟩ := writeR_ok hw
  rw [List.length_append] at ho
  obtain ⟨r1, r2⟩ := h.sv.rng n hn
  have hx := inoV_fit v n
  by_cases ha : a = []
  · subst ha
    refine ⟨v, ?_, by simpa using hw⟩
    rw [writeR_mk h.sv.ok r1 r2 (by simp at ho ⊢; omega), if_pos rfl]
  · by_cases hb : b = []
    · subst hb
      rw [List.append_nil] at hw
      have hL := h.writeR hn hw
      refine ⟨w, hw, ?_⟩
      rw [show (o : Int) + (a.length : Int) = ((o + a.length : Nat) : Int) from rfl, writeR_mk hL.sv.ok r1 (by rw [hL.ino]; have := hn.2; omega) (by simp at ho ⊢; omega), if_pos rfl]
    · have hne : a ++ b ≠ [] := by simp [ha]
      obtain ⟨_, v2, x2, hW, rfl⟩ := hc.resolve_left (fun e => hne e.1)
      rw [wr_append S3 n hn a.length h.sv.ok h.sv.sd hx (Nat.le_refl _) (by omega)] at hW
      obtain ⟨⟨v1, x1⟩, hA, hB⟩ := Option.bind_eq_some_iff.1 hW
      dsimp only at hB
      have eA := write_eff S3 n hn a.length h.sv.ok h.sv.sd hx (Nat.le_refl _) (by omega) hA
      have hT := tab_wr _ h.sv.ok hx hA
      have r2' : n ≤ inosV v1 := by rw [hT.kept.ino]; exact r2
      have eB := write_eff S3 n hn b.length (f := upd (inoV v) n x1) (v := v1) (a := o + a.length) (t := b) (v' := v2) (x' := x2) eA.kept.ok eA.sd (by rw [upd_same]; exact eA.fit) (Nat.le_refl _) (by omega) (by rw [upd_same]; exact hB)
      have hkB := eB.kept
      have hsz1 : x1.size = (inoV v n).size := eA.size
      have hsz2 : x2.size = x1.size := by have := eB.size; rwa [upd_same] at this
      obtain ⟨s, hs, hy⟩ : ∃ s, s = (if min x1.size 8960 < o + a.length then o + a.length else x1.size) ∧ (if min x1.size 8960 < o + a.length then x1.setS (o + a.length) else x1) = x1.setS s := by
        by_cases c : min x1.size 8960 < o + a.length
        · exact ⟨_, rfl, by rw [if_pos c, if_pos c]⟩
        · exact ⟨_, rfl, by rw [if_neg c, if_neg c]; cases x1; rfl⟩
      have hfs : fitI (x1.setS s) := setS_fit eA.fit (by have := (fitI_iff.1 eA.fit).2.2.2.1; split at hs <;> omega)
      have ex : writeR v n (o : Int) a = (0, putV v1 n (x1.setS s)) := by
        rw [writeR_mk h.sv.ok r1 r2 (by omega), if_neg ha, hA, wEnd, hy]
      refine ⟨_, ex, ?_⟩
      have hL := h.writeR hn ex
      have i1 : inoV (putV v1 n (x1.setS s)) n = x1.setS s := inoV_put_same eA.kept.ok r1 r2' hfs
      rw [show (o : Int) + (a.length : Int) = ((o + a.length : Nat) : Int) from rfl, writeR_mk hL.sv.ok r1 (by rw [hL.ino]; have := hn.2; omega) (by omega), if_neg hb, i1, wr_put _ eA.kept.ok hfs r1 r2' (by omega), wr_size _ (by omega), hB]
      simp only [Option.map_some, wEnd]
      rw [putV_putV hkB.ok r1 (by rw [hkB.ino]; exact r2'), List.length_append, ← Nat.add_assoc]
      have hbl := List.length_pos_iff.2 hb
      congr 2
      show (if min s 8960 < o + a.length + b.length then (x2.setS s).setS (o + a.length + b.length) else x2.setS s) = _
      by_cases c : min x2.size 8960 < o + a.length + b.length
      · rw [if_pos c, if_pos (by split at hs <;> omega)]
        rfl
      · have e : s = x2.size := by rw [hs, if_neg (by omega), hsz2]
        rw [if_neg c, if_neg (by rw [e]; exact c), e]
        cases x2
        rfl
end Go.Proofs.Ytacdohlhalnioaa
end

/- The law ExtentSplits, walked. -/
section
set_option linter.unusedVariables false
set_option linter.unusedSimpArgs false
set_option maxRecDepth 20000
namespace Go.Proofs.Ytacdohlhalnioaa
open Go.RowKit
attribute [local go_sem] Oper.semAt_some

set_option maxHeartbeats 8000000 in
theorem splits_ok (Al : Option Addr) (cl : Nat) (l : List Deed) (a b : Blk) (w : World) (hl : RA w Al l) (hd : ∀ a ∈ l, okD a) (hal : (a.length : Int) ≤ 140737488351232) (hbl : (b.length : Int) ≤ 140737488351232) :
    Calls Try.prog 9 #[.slice Al l.length cl, .string (mk a), .string (mk b)] w fun e w' => e = .returned (.bool true) ∧ Below w.heap.size w w' := by
  have HL := Lib.hid hl
  have HD := Lib.hid hd
  have hll := hl.1
  have hdg := Lib.hid (fun w hr => dgreat_ok Al cl l w hr)
  have hla := Lib.hid (fun w hr => laid_ok Al cl l w hr hd)
  have hLV := Lib.hid (lv_laid l)
  clear hl hd
  by_cases hsm : a.length ≤ 1000 ∧ b.length ≤ 1000 ∧ l ≠ []
  · obtain ⟨ha, hb, h0⟩ := hsm
    have hai : ¬ (1000 : Int) < (a.length : Int) := by omega
    have hbi : ¬ (1000 : Int) < (b.length : Int) := by omega
    have hl0 : ((l.length : Int) == 0) = false := by
      have := List.length_pos_iff.2 h0
      rw [beq_eq_false_iff_ne]; omega
    have hl1 : (0 : Int) < (l.length : Nat) := by have := List.length_pos_iff.2 h0; omega
    obtain ⟨b0, o0, hAe, hbl0, hc⟩ := HL.out.2 h0
    obtain ⟨d, hdk⟩ : ∃ d, l[0]? = some d := by
      cases l with
      | nil => exact absurd rfl h0
      | cons d _ => exact ⟨d, rfl⟩
    obtain ⟨_, _, c2, _⟩ := hc 0 d hdk
    simp only [Nat.zero_mul, Nat.add_zero] at c2
    have hok := HD.out d (List.mem_of_getElem? hdk)
    obtain ⟨_, _, ho, _⟩ := hok
    subst hAe
    obtain ⟨of, hof⟩ : ∃ of, d.off = of := ⟨_, rfl⟩
    rw [hof] at c2 ho
    have hmx : max of 0 = (if of < 0 then 0 else of) := by split <;> omega
    obtain ⟨o, ho2⟩ : ∃ o : Nat, (max of 0).tmod 9000 = (o : Int) ∧ o < 9000 := by
      rw [Int.tmod_eq_emod_of_nonneg (by omega)]
      exact ⟨((max of 0) % 9000).toNat, by omega, by omega⟩
    obtain ⟨ho3, ho4⟩ := ho2
    have hwo : IntKind.i64.wrap (o : Int) = (o : Int) := by simp [IntKind.wrap, IntKind.bits, IntKind.signed]; omega
    have C2 := Lib.hid c2
    have HOD := Lib.hid hdk
    clear hc c2 hdk hmx hof ho h0
    go_enter Try.func9, Try.ntmps9
    go_upto_region 6 with (first
      | (go_at_call 36; refine (hdg.out _ HL.out).mono ?_; rintro e w2 ⟨⟨bq, rfl⟩, hb2⟩; have HB2 := Lib.hid hb2; clear hb2; cases bq)
      | (go_at_call 17; refine (fixed_ok _).mono ?_; rintro e w8 ⟨rfl, hb8⟩; have HB8 := Lib.hid hb8; clear hb8)
      | (go_at_call 41; refine (hla.out _ (HL.out.keep HB2.out)).mono ?_; rintro e w3 ⟨A3, c3, u3, rfl, hr3, ho5, hb3⟩; obtain ⟨gn, cn, rfl, hgn, hcn⟩ := own_open ho5 (by omega); have HR3 := Lib.hid hr3; have HB3 := Lib.hid (below_keep HB2.out (Nat.le_refl _) hb3); have HN1 := Lib.hid (show w3.cell? ⟨gn, 1, none⟩ = some (.int .i64 2) from hcn 1 _ rfl); have cc2 := cell_keep C2.out HB3.out; clear hr3 ho5 hb3 hcn))
    · obtain ⟨V, hV⟩ : ∃ V, laidV l = V := ⟨_, rfl⟩
      rw [hV] at HR3 hLV ⊢
      clear hV hla
      have hcn1 := HN1.out
      have hw := Lib.hid (fun w hr => write_is A3 c3 V 2 o (a ++ b) w hr (by omega) (by rw [List.length_append]; omega))
      have hsame := Lib.hid (fun (V : Vol) (A B : Option Addr) (c c' : Nat) w hr hr' => same19_ok A B c c' V V w hr hr')
      simp only [decide_true] at hsame
      have hwe : IntKind.i64.wrap ((o : Int) + (a.length : Int)) = (o : Int) + (a.length : Int) := by simp [IntKind.wrap, IntKind.bits, IntKind.signed]; omega
      obtain ⟨⟨er, X⟩, hR⟩ : ∃ R, writeR V 2 o (a ++ b) = R := ⟨_, rfl⟩
      rw [hR] at hw
      by_cases he : er = 0
      · subst he
        obtain ⟨x, h1, h2⟩ := splits_pure hLV.out (n := 2) ⟨by omega, by omega⟩ hR
        have hw2 := Lib.hid (fun w hr => write_is A3 c3 V 2 o a w hr (by omega) (by omega))
        have hw3 := Lib.hid (fun A c w hr => write_is A c x 2 ((o : Int) + (a.length : Int)) b w hr (by omega) (by omega))
        rw [show writeR V 2 o a = (0, x) from h1] at hw2
        rw [show writeR x 2 ((o : Int) + (a.length : Int)) b = (0, X) from h2] at hw3
        clear hR h1 h2
        go_wp2_with (first
          | (go_at_call 35; refine (hw.out _ HR3.out).mono ?_; rintro e w4 ⟨A4, c4, rfl, hr4, hb4⟩; have HR4 := Lib.hid hr4; have HB4 := Lib.hid hb4; have hcn2 := cell_keep HN1.out hb4; have HN2 := Lib.hid hcn2; clear hr4 hb4 hcn1 hw)
          | (go_at_call 35; refine (hw2.out _ (HR3.out.below HB4.out)).mono ?_; rintro e w5 ⟨A5, c5, rfl, hr5, hb5⟩; have HR5 := Lib.hid hr5; have HB5 := Lib.hid hb5; have hcn3 := cell_keep HN2.out hb5; clear hr5 hb5 hcn2 hw2)
          | (go_at_call 35; refine (hw3.out _ _ _ HR5.out).mono ?_; rintro e w6 ⟨A6, c6, rfl, hr6, hb6⟩; have HR6 := Lib.hid hr6; have HB6 := Lib.hid hb6; clear hr6 hb6)
          | (go_at_call 17; refine (fixed_ok _).mono ?_; rintro e w7 ⟨rfl, hb7⟩; have HB7 := Lib.hid hb7; clear hb7)
          | (go_at_call 40; refine (hsame.out X _ _ _ _ _ (((HR4.out.below HB5.out).below HB6.out).below HB7.out) (HR6.out.below HB7.out)).mono ?_; rintro e w8 ⟨rfl, hb8⟩; have HB8 := Lib.hid hb8; clear hb8))
        go_ret
        exact ⟨rfl, below_keep (below_keep (below_keep (below_keep (below_keep HB3.out (Nat.le_refl _) HB4.out) (Nat.le_refl _) HB5.out) (Nat.le_refl _) HB6.out) (Nat.le_refl _) HB7.out) (Nat.le_refl _) HB8.out⟩
      · have heb : (er == 0) = false := by simpa using he
        have hebn : (er != 0) = true := by simpa using he
        clear he hR
        go_wp2_with (first
          | (go_at_call 35; refine (hw.out _ HR3.out).mono ?_; rintro e w4 ⟨A4, c4, rfl, hr4, hb4⟩; have HB4 := Lib.hid hb4; clear hr4 hb4)
          | (go_at_call 17; refine (fixed_ok _).mono ?_; rintro e w7 ⟨rfl, hb7⟩; have HB7 := Lib.hid hb7; clear hb7))
        go_ret
        exact ⟨rfl, below_keep (below_keep HB3.out (Nat.le_refl _) HB4.out) (Nat.le_refl _) HB7.out⟩
    · go_ret
      exact ⟨rfl, below_keep HB2.out (Nat.le_refl _) HB8.out⟩
  · clear hla
    have hs : 1000 < a.length ∨ (a.length ≤ 1000 ∧ 1000 < b.length) ∨ (a.length ≤ 1000 ∧ b.length ≤ 1000 ∧ l = []) := by
      by_cases h1 : a.length ≤ 1000
      · by_cases h2 : b.length ≤ 1000
        · exact .inr (.inr ⟨h1, h2, Classical.not_not.1 (fun h => hsm ⟨h1, h2, h⟩)⟩)
        · exact .inr (.inl ⟨h1, by omega⟩)
      · exact .inl (by omega)
    clear hsm
    rcases hs with h1 | ⟨h1, h2⟩ | ⟨h1, h2, h3⟩
    · have hai : (1000 : Int) < (a.length : Int) := by omega
      go_enter Try.func9, Try.ntmps9
      go_wp2_with (first
        | (go_at_call 36; refine (hdg.out _ HL.out).mono ?_; rintro e w2 ⟨⟨bq, rfl⟩, hb2⟩; have HB2 := Lib.hid hb2; clear hb2; cases bq)
        | (go_at_call 17; refine (fixed_ok _).mono ?_; rintro e w8 ⟨rfl, hb8⟩; have HB8 := Lib.hid hb8; clear hb8))
      all_goals
        go_ret
        exact ⟨rfl, below_keep HB2.out (Nat.le_refl _) HB8.out⟩
    · have hai : ¬ (1000 : Int) < (a.length : Int) := by omega
      have hbi : (1000 : Int) < (b.length : Int) := by omega
      go_enter Try.func9, Try.ntmps9
      go_wp2_with (first
        | (go_at_call 36; refine (hdg.out _ HL.out).mono ?_; rintro e w2 ⟨⟨bq, rfl⟩, hb2⟩; have HB2 := Lib.hid hb2; clear hb2; cases bq)
        | (go_at_call 17; refine (fixed_ok _).mono ?_; rintro e w8 ⟨rfl, hb8⟩; have HB8 := Lib.hid hb8; clear hb8))
      all_goals
        go_ret
        exact ⟨rfl, below_keep HB2.out (Nat.le_refl _) HB8.out⟩
    · have hai : ¬ (1000 : Int) < (a.length : Int) := by omega
      have hbi : ¬ (1000 : Int) < (b.length : Int) := by omega
      subst h3
      go_enter Try.func9, Try.ntmps9
      go_wp2_with (first
        | (go_at_call 36; refine (hdg.out _ HL.out).mono ?_; rintro e w2 ⟨⟨bq, rfl⟩, hb2⟩; have HB2 := Lib.hid hb2; clear hb2; cases bq)
        | (go_at_call 17; refine (fixed_ok _).mono ?_; rintro e w8 ⟨rfl, hb8⟩; have HB8 := Lib.hid hb8; clear hb8))
      all_goals
        go_ret
        exact ⟨rfl, below_keep HB2.out (Nat.le_refl _) HB8.out⟩
end Go.Proofs.Ytacdohlhalnioaa
end
