/- Joined: XWA XY7. -/
import Derived.Test.YtacdohlhalnioaaJ7
import Derived.Test.YtacdohlhalnioaaJG
import Derived.Test.YtacdohlhalnioaaKA
/- Contracts: the program's Write and Cut, every case. -/
section
set_option linter.unusedVariables false
set_option linter.unusedSimpArgs false
set_option maxRecDepth 20000
namespace Go.Proofs.Ytacdohlhalnioaa
open Go.RowKit

/-- A volume and a number are answered, in whatever memory. -/
def Ans (w : World) (R : Int × Vol) (r : Ending) (w' : World) : Prop :=
  ∃ A c, r = .returned (.tuple #[.slice A R.2.length c, .int .i64 R.1]) ∧ RS w' A R.2 ∧ Below w.heap.size w w'
theorem rs_any (w : World) (A : Option Addr) : RS w A [] := ⟨by simp, fun h => absurd h (by simp)⟩
/-- What a write ends with. -/
def wEnd (n e : Nat) : Option (Vol × Ino) → Int × Vol
  | none => (10, [])
  | some (v', x') => (0, putV v' n (if min x'.size 8960 < e then x'.setS e else x'))
theorem getE_nt {v : Vol} {n : Int} (h : getE v n = 0) : okV v = true ∧ 1 ≤ n.toNat ∧ n.toNat ≤ inosV v ∧ n = (n.toNat : Int) := by
  obtain ⟨h1, h2, h3⟩ := getE_ok h
  exact ⟨h1, by omega, by omega, by omega⟩
/-- What Write answers. -/
def writeR (v : Vol) (n off : Int) (t : Blk) : Int × Vol :=
  if getE v n ≠ 0 then (getE v n, []) else if off < 0 then (1, []) else if 8960 < off ∨ 8960 < off + t.length then (6, []) else if t = [] then (0, v) else wEnd n.toNat (off.toNat + t.length) (wrV t.length v (inoV v n.toNat) off.toNat t)
/-- What stays through a write. -/
theorem wrV_facts {m : Nat} {v : Vol} {x : Ino} {a : Nat} {t : Blk} (hv : okV v = true) (hx : fitI x) {v' : Vol} {x' : Ino} (h : wrV m v x a t = some (v', x')) : Kept v v' ∧ fitI x' := by
  induction m generalizing v x a t with
  | zero => cases h; exact ⟨.rfl hv, hx⟩
  | succ m ih =>
    rw [wrV] at h
    by_cases ht : t = []
    · rw [if_pos ht] at h
      cases h
      exact ⟨.rfl hv, hx⟩
    · rw [if_neg ht] at h
      obtain ⟨p, hp⟩ : ∃ p, placeV v x (a / 128) = p := ⟨_, rfl⟩
      rw [hp] at h
      rcases p with _ | ⟨b, v1, x1⟩
      · cases h
      · obtain ⟨p1, p2, p3, p4, p5⟩ := place_facts hv hx hp
        have hs := (okV_iff.1 p3.ok).size b (by rw [p3.len]; exact p2)
        have hk := p3.trans (kept_set p3.ok (b := b) (s := over (bk v1 b) (a % 128) (t.take (128 - a % 128))) (by have := dataV_pos v; omega) (by rw [over_length _ _ _ (by rw [List.length_take, hs]; omega), hs]))
        obtain ⟨q1, q2⟩ := ih hk.ok p4 h
        exact ⟨hk.trans q1, q2⟩
/-- The program's Write. -/
theorem write_is (A : Option Addr) (c : Nat) (v : Vol) (n off : Int) (t : Blk) (w : World) (hr : RS w A v) (hoff : off ≤ 9223372036854775807) (htl : (t.length : Int) ≤ 140737488351232) :
    Calls Try.prog 35 #[.slice A v.length c, .int .i64 n, .int .i64 off, .string (mk t)] w (Ans w (writeR v n off t)) := by
  unfold writeR
  by_cases hg : getE v n = 0
  · obtain ⟨hv, h1, h2, h3⟩ := getE_nt hg
    generalize n.toNat = N at *
    subst h3
    have hlo := (okV_iff.1 hv).lo
    have hhi := (okV_iff.1 hv).hi
    rw [if_neg (by simp [hg])]
    by_cases ho : off < 0
    · rw [if_pos ho]
      refine (write_neg A c v N off t w hr hv h1 h2 ho).mono ?_
      rintro e w' ⟨rfl, hb⟩
      exact ⟨_, _, rfl, rs_any _ _, hb⟩
    · rw [if_neg ho]
      obtain ⟨o, rfl⟩ : ∃ o : Nat, off = (o : Int) := ⟨off.toNat, by omega⟩
      by_cases hl : 8960 < (o : Int) ∨ 8960 < (o : Int) + (t.length : Int)
      · rw [if_pos hl]
        refine (write_limit A c v N o t w hr hv h1 h2 (by omega) hoff (by omega)).mono ?_
        rintro e w' ⟨rfl, hb⟩
        exact ⟨_, _, rfl, rs_any _ _, hb⟩
      · rw [if_neg hl]
        by_cases ht : t = []
        · rw [if_pos ht, ht]
          refine (write_nil A c v N o w hr hv h1 h2 (by omega)).mono ?_
          rintro e w' ⟨g, c', rfl, h, hg, hb⟩
          exact ⟨_, _, rfl, h.rs (by omega), hb⟩
        · rw [if_neg ht]
          refine (write_ok A c v N o t w hr hv h1 h2 (by omega) ht).mono ?_
          intro e w' h
          rw [show (o : Int).toNat = o from rfl]
          have hkp := fun (v' : Vol) (x' : Ino) (h : wrV t.length v (inoV v N) o t = some (v', x')) => (wrV_facts hv (inoV_fit v N) h)
          generalize wrV t.length v (inoV v N) o t = R at *
          rcases R with _ | ⟨v', x'⟩
          · obtain ⟨rfl, hb⟩ := h
            exact ⟨_, _, rfl, rs_any _ _, hb⟩
          · obtain ⟨g, c', rfl, h, hg, hb⟩ := h
            have hln : (wEnd N (o + t.length) (some (v', x'))).2.length = v.length := by
              simp only [wEnd, putV, List.length_set]
              exact (hkp _ _ rfl).1.len
            refine ⟨some ⟨g, 0, none⟩, c', ?_, h.rs ?_, hb⟩
            · rw [hln]
              rfl
            · have h9 : (putV v' N (if min x'.size 8960 < o + t.length then x'.setS (o + t.length) else x')).length = v.length := hln
              rw [h9]
              omega
  · rw [if_pos hg]
    refine (write_no A c v n off t w hr hg).mono ?_
    rintro e w' ⟨rfl, hb⟩
    exact ⟨_, _, rfl, rs_any _ _, hb⟩
/-- What Cut answers. -/
def cutR (v : Vol) (n s : Int) : Int × Vol := if getE v n ≠ 0 then (getE v n, []) else if s < 0 ∨ 8960 < s then ((if s < 0 then 1 else 6), []) else (0, cutV v n.toNat s.toNat)
/-- The program's Cut. -/
theorem cut_is (A : Option Addr) (c : Nat) (v : Vol) (n s : Int) (w : World) (hr : RS w A v) :
    Calls Try.prog 38 #[.slice A v.length c, .int .i64 n, .int .i64 s] w (Ans w (cutR v n s)) := by
  unfold cutR
  by_cases hg : getE v n = 0
  · obtain ⟨hv, h1, h2, h3⟩ := getE_nt hg
    generalize n.toNat = N at *
    subst h3
    rw [if_neg (by simp [hg])]
    by_cases ho : s < 0 ∨ 8960 < s
    · rw [if_pos ho]
      refine (cut_bad A c v N s w hr hv h1 h2 ho).mono ?_
      rintro e w' ⟨rfl, hb⟩
      exact ⟨_, _, rfl, rs_any _ _, hb⟩
    · rw [if_neg ho]
      obtain ⟨o, rfl⟩ : ∃ o : Nat, s = (o : Int) := ⟨s.toNat, by omega⟩
      refine (cut_ok A c v N o w hr hv h1 h2 (by omega)).mono ?_
      rintro e w' ⟨g, c', rfl, hg2, hgs, hb⟩
      rw [show (o : Int).toNat = o from rfl]
      have hhi := (okV_iff.1 hv).hi
      have hpl : (cutV v N o).length = v.length := by
        have hk := (kept_shortV (x := inoV v N) o hv (inoV_fit v N)).1.len
        unfold cutV
        split <;> simp only [putV, List.length_set]
        exact hk
      refine ⟨some ⟨g, 0, none⟩, c', ?_, hg2.rs (by rw [hpl]; omega), hb⟩
      rw [hpl]
  · rw [if_pos hg]
    refine (cut_no A c v n s w hr hg).mono ?_
    rintro e w' ⟨rfl, hb⟩
    exact ⟨_, _, rfl, rs_any _ _, hb⟩
end Go.Proofs.Ytacdohlhalnioaa
end

/- The pure law of files: a write and a cut, of a whole volume. -/
section
set_option linter.unusedVariables false
set_option linter.unusedSimpArgs false
set_option maxRecDepth 20000
namespace Go.Proofs.Ytacdohlhalnioaa
open Go.RowKit

/-- The blocks ahead of the data stay, the map aside. -/
structure Tab (v v' : Vol) : Prop where
  kept : Kept v v'
  low : ∀ j, j ≠ 2 → j < dataV v → bk v' j = bk v j
theorem Tab.rfl {v : Vol} (h : okV v = true) : Tab v v := ⟨.rfl h, fun _ _ _ => Eq.refl _⟩
theorem Tab.trans {a b c : Vol} (h : Tab a b) (g : Tab b c) : Tab a c := ⟨h.kept.trans g.kept, fun j h2 hj => by rw [g.low j h2 (by rw [h.kept.dat]; exact hj), h.low j h2 hj]⟩
theorem tab_set {v : Vol} {b : Nat} {s : Blk} (hv : okV v = true) (hb : dataV v ≤ b) (hs : s.length = 128) : Tab v (v.set b s) := by
  have := dataV_pos v
  exact ⟨kept_set hv (by omega) hs, fun j _ hj => bk_set_other _ _ _ _ (by omega)⟩
theorem tab_took {v : Vol} (hv : okV v = true) {i : Nat} (h1 : dataV v ≤ i) (h2 : i < v.length) : Tab v (tookV v i) :=
  ⟨kept_tookV hv h1 h2, fun j h2 hj => bk_took h2 (by omega)⟩
theorem tab_give {v : Vol} (hv : okV v = true) {i : Nat} (h1 : dataV v ≤ i) (h2 : i < v.length) : Tab v (giveV v i) :=
  ⟨kept_giveV hv h1 h2, fun j h2 hj => bk_give h2⟩
theorem tab_name {v : Vol} {x : Ino} {k b d : Nat} (hv : okV v = true) (hd : d = dataV v) : Tab v (nameV d v x k b) := by
  subst hd
  exact ⟨kept_nameV hv rfl, fun j h2 hj => bk_name (fun g => by have := (goodN_iff.1 g).1; omega)⟩
theorem tab_place {v : Vol} {x : Ino} {k b : Nat} {v' : Vol} {x' : Ino} (hv : okV v = true) (h : placeV v x k = some (b, v', x')) : Tab v v' := by
  unfold placeV at h
  split at h
  · split at h
    · split at h
      · cases h
      · rename_i i hi
        cases h
        obtain ⟨f1, f2, _⟩ := freeB_some hi
        have ht := tab_took hv f1 f2
        exact ht.trans (tab_name ht.kept.ok ht.kept.dat.symm)
    · split at h
      · cases h
      · rename_i i hi
        split at h
        · cases h
        · rename_i j hj
          cases h
          obtain ⟨f1, f2, _⟩ := freeB_some hi
          have ht := tab_took hv f1 f2
          obtain ⟨g1, g2, _⟩ := freeB_some hj
          have ht2 := ht.trans (tab_took ht.kept.ok g1 g2)
          exact ht2.trans (tab_name ht2.kept.ok ht2.kept.dat.symm)
  · cases h
    exact .rfl hv
theorem tab_wr (m : Nat) : ∀ {v : Vol} {x : Ino} {a : Nat} {t : Blk} {v' : Vol} {x' : Ino}, okV v = true → fitI x → wrV m v x a t = some (v', x') → Tab v v' := by
  induction m with
  | zero =>
    intro v x a t v' x' hv hx h
    cases h
    exact .rfl hv
  | succ m ih =>
    intro v x a t v' x' hv hx h
    rw [wrV] at h
    by_cases ht : t = []
    · rw [if_pos ht] at h
      cases h
      exact .rfl hv
    · rw [if_neg ht] at h
      obtain ⟨p, hp⟩ : ∃ p, placeV v x (a / 128) = p := ⟨_, rfl⟩
      rw [hp] at h
      rcases p with _ | ⟨b, v1, x1⟩
      · cases h
      · obtain ⟨p1, p2, p3, p4, _⟩ := place_facts hv hx hp
        have hs := (okV_iff.1 p3.ok).size b (by rw [p3.len]; exact p2)
        have h1 := (tab_place hv hp).trans (tab_set (b := b) (s := over (bk v1 b) (a % 128) (t.take (128 - a % 128))) p3.ok (by rw [p3.dat]; exact p1) (by rw [over_length _ _ _ (by rw [List.length_take, hs]; omega), hs]))
        exact h1.trans (ih h1.kept.ok p4 h)
theorem tab_dropV {v : Vol} (hv : okV v = true) (x : Ino) (k : Nat) : Tab v (dropV v x k).1 := by
  have h1 : Tab v (dropG (dataV v) v x k) := by
    unfold dropG
    split
    · exact .rfl hv
    · rename_i h
      obtain ⟨h1, h2⟩ := atN_lt' h
      exact tab_give hv h1 h2
  exact h1.trans (tab_name h1.kept.ok h1.kept.dat.symm)
theorem tab_dropTo (m : Nat) : ∀ {v : Vol} {x : Ino} (k : Nat), okV v = true → Tab v (dropTo m v x k).1 := by
  induction m with
  | zero => intro v x k hv; exact .rfl hv
  | succ m ih =>
    intro v x k hv
    have h1 := tab_dropV hv x k
    exact h1.trans (ih (k + 1) h1.kept.ok)
theorem tab_short {v : Vol} {x : Ino} (s : Nat) (hv : okV v = true) : Tab v (shortV v x s).1 := by
  have h1 := tab_dropTo (70 - needS s) (x := x) (needS s) hv
  unfold shortV
  generalize dropTo (70 - needS s) v x (needS s) = D at *
  have h2 : Tab v (farV D.1 D.2 s).1 := by
    refine h1.trans ?_
    unfold farV
    split
    · show Tab D.1 (if goodN (dataV D.1) D.1.length D.2.ind = true then giveV D.1 D.2.ind else D.1)
      split
      · rename_i hg
        obtain ⟨g1, g2⟩ := goodN_iff.1 hg
        exact tab_give h1.kept.ok g1 g2
      · exact .rfl h1.kept.ok
    · exact .rfl h1.kept.ok
  generalize farV D.1 D.2 s = F at *
  refine h2.trans ?_
  show Tab F.1 (restV F.1 F.2 s)
  unfold restV
  split
  · exact .rfl h2.kept.ok
  · rename_i h
    rw [not_or] at h
    obtain ⟨a1, a2⟩ := atN_lt' h.2
    exact tab_set h2.kept.ok a1 (by rw [List.length_append, List.length_take, (okV_iff.1 h2.kept.ok).size _ a2, zs_length]; omega)
theorem Tab.ino {v v' : Vol} (h : Tab v v') {n : Nat} (h1 : 1 ≤ n) (h2 : n ≤ inosV v) : inoV v' n = inoV v n := by
  rw [inoV, inoV, slot, slot, h.low _ (by omega) (by rw [dataV]; omega)]

/-- A volume, of some of whose inodes all blocks are taken, and no two are one. -/
structure SV (S : Nat → Prop) (v : Vol) : Prop where
  ok : okV v = true
  rng : ∀ n, S n → 1 ≤ n ∧ n ≤ inosV v
  sd : Sd S v (inoV v)
theorem Sd.congr {S : Nat → Prop} {v : Vol} {f g : Nat → Ino} (h : Sd S v f) (hfg : ∀ m, S m → f m = g m) : Sd S v g :=
  ⟨fun n κ hn => by rw [← hfg n hn]; exact h.bits n κ hn, fun n κ m l hn hm => by rw [← hfg n hn, ← hfg m hm]; exact h.inj n κ m l hn hm⟩
theorem ref_put {v : Vol} {n : Nat} {x y : Ino} (hv : okV v = true) (h1 : 1 ≤ n) (h2 : n ≤ inosV v) (κ : Nat) : refV (putV v n x) y κ = refV v y κ :=
  refV_congr (kept_put hv h1 h2) (fun g => bk_put_data h1 h2 (goodN_iff.1 g).1) κ
theorem blk_put {v : Vol} {n : Nat} {x y : Ino} (hv : okV v = true) (h1 : 1 ≤ n) (h2 : n ≤ inosV v) (k : Nat) : blkV (putV v n x) y k = blkV v y k :=
  blkV_congr (ref_put hv h1 h2 k) (fun h0 => bk_put_data h1 h2 (refV_lt h0).1)
/-- What stays where one file is turned. -/
structure Chg (S : Nat → Prop) (v : Vol) (n : Nat) (w : Vol) (y : Ino) : Prop where
  kept : Kept v w
  sv : SV S w
  here : inoV w n = y
  ino : ∀ m, 1 ≤ m → m ≤ inosV v → m ≠ n → inoV w m = inoV v m
  ref : ∀ m, S m → m ≠ n → ∀ κ, refV w (inoV w m) κ = refV v (inoV v m) κ
  blk : ∀ m, S m → m ≠ n → ∀ j, j < 70 → blkV w (inoV w m) j = blkV v (inoV v m) j
  map : freeN v + cntR v (inoV v n) = freeN w + cntR w y
/-- An inode that is put behind steps that turn its blocks alone. -/
theorem chg_put {S : Nat → Prop} {v v' : Vol} {n : Nat} {x' y : Ino} (hs : SV S v) (hn : S n) (ht : Tab v v') (hy : fitI y) (hxy : ∀ κ, refV v' y κ = refV v' x' κ) (sd : Sd S v' (upd (inoV v) n x'))
    (refO : ∀ m, S m → m ≠ n → ∀ κ, refV v' (inoV v m) κ = refV v (inoV v m) κ) (blkO : ∀ m, S m → m ≠ n → ∀ j, j < 70 → blkV v' (inoV v m) j = blkV v (inoV v m) j) (room : freeN v + cntR v (inoV v n) = freeN v' + cntR v' x') :
    Chg S v n (putV v' n y) y := by
  obtain ⟨h1, h2⟩ := hs.rng n hn
  have h2' : n ≤ inosV v' := by rw [ht.kept.ino]; exact h2
  have hk := kept_put (x := y) ht.kept.ok h1 h2'
  have e1 : inoV (putV v' n y) n = y := inoV_put_same ht.kept.ok h1 h2' hy
  have e2 : ∀ m, 1 ≤ m → m ≤ inosV v → m ≠ n → inoV (putV v' n y) m = inoV v m := fun m hm1 hm2 hmn => by
    rw [inoV_put_other ht.kept.ok h1 h2' hm1 hmn, ht.ino hm1 hm2]
  have rp : ∀ z κ, refV (putV v' n y) z κ = refV v' z κ := fun z κ => ref_put ht.kept.ok h1 h2' κ
  have bp : ∀ z k, blkV (putV v' n y) z k = blkV v' z k := fun z k => blk_put ht.kept.ok h1 h2' k
  have mp : bk (putV v' n y) 2 = bk v' 2 := bk_put_low (by omega)
  refine ⟨ht.kept.trans hk, ⟨hk.ok, fun m hm => ?_, ?_⟩, e1, e2, fun m hm hmn κ => ?_, fun m hm hmn j hj => ?_, ?_⟩
  · rw [hk.ino, ht.kept.ino]; exact hs.rng m hm
  · have hf : ∀ m, S m → ∀ κ, refV (putV v' n y) (inoV (putV v' n y) m) κ = refV v' (upd (inoV v) n x' m) κ := fun m hm κ => by
      rw [rp]
      by_cases h : m = n
      · subst h; rw [e1, upd_same, hxy]
      · obtain ⟨m1, m2⟩ := hs.rng m hm
        rw [e2 m m1 m2 h, upd_other _ _ h]
    refine ⟨fun m κ hm hκ h0 => ?_, fun m κ p l hm hp hκ hl h0 e => ?_⟩
    · rw [hf m hm] at h0 ⊢
      rw [mp]
      exact sd.bits m κ hm hκ h0
    · rw [hf m hm] at h0 e
      rw [hf p hp] at e
      exact sd.inj m κ p l hm hp hκ hl h0 e
  · obtain ⟨m1, m2⟩ := hs.rng m hm
    rw [e2 m m1 m2 hmn, rp, refO m hm hmn]
  · obtain ⟨m1, m2⟩ := hs.rng m hm
    rw [e2 m m1 m2 hmn, bp, blkO m hm hmn j hj]
  · rw [room, free_map hk mp]
    congr 1
    exact (cntR_congr (fun κ => by rw [rp, hxy])).symm
theorem ref_size (v : Vol) (x : Ino) (s κ : Nat) : refV v (x.setS s) κ = refV v x κ := by
  by_cases h : κ < 70
  · rw [refV_at _ _ h, refV_at _ _ h, atN, atN]
    have e : numV (dataV v) v.length v (x.setS s) κ = numV (dataV v) v.length v x κ := by
      by_cases h6 : κ < 6
      · rw [numV_near h6, numV_near h6]
        rcases (by omega : κ = 0 ∨ κ = 1 ∨ κ = 2 ∨ κ = 3 ∨ κ = 4 ∨ κ = 5) with rfl | rfl | rfl | rfl | rfl | rfl <;> rfl
      · rw [numV_far (by omega), numV_far (by omega)]
        rfl
    rw [e]
  · rw [refV, refV, if_neg h, if_neg h]
    rfl
theorem blk_size (v : Vol) (x : Ino) (s k : Nat) : blkV v (x.setS s) k = blkV v x k := by rw [blkV, blkV, ref_size]
/-- A write of some bytes. -/
structure WrV (S : Nat → Prop) (v : Vol) (n a : Nat) (t : Blk) (w : Vol) : Prop where
  chg : ∃ y, Chg S v n w y
  size : (inoV w n).size = if min (inoV v n).size 8960 < a + t.length then a + t.length else (inoV v n).size
  kind : (inoV w n).kind = (inoV v n).kind
  owner : (inoV w n).owner = (inoV v n).owner
  ext : (inoV w n).ext = (inoV v n).ext
  byte : ∀ i, i < 8960 → gb (blkV w (inoV w n) (i / 128)) (i % 128) = if a ≤ i ∧ i < a + t.length then gb t (i - a) else gb (blkV v (inoV v n) (i / 128)) (i % 128)
  refs : ∀ k, k < 70 → (refV w (inoV w n) k ≠ 0 ↔ refV v (inoV v n) k ≠ 0 ∨ (t ≠ [] ∧ a / 128 ≤ k ∧ k ≤ (a + t.length - 1) / 128))
  ind : refV w (inoV w n) 70 ≠ 0 ↔ refV v (inoV v n) 70 ≠ 0 ∨ (t ≠ [] ∧ 6 ≤ (a + t.length - 1) / 128)
theorem write_vol {S : Nat → Prop} {v : Vol} {n a : Nat} {t : Blk} {v' : Vol} {x' : Ino} (hs : SV S v) (hn : S n) (ha : a + t.length ≤ 8960) (h : wrV t.length v (inoV v n) a t = some (v', x')) :
    WrV S v n a t (putV v' n (if min x'.size 8960 < a + t.length then x'.setS (a + t.length) else x')) := by
  obtain ⟨h1, h2⟩ := hs.rng n hn
  have hx := inoV_fit v n
  have hW := write_eff S n hn t.length hs.ok hs.sd hx (Nat.le_refl _) ha h
  have hT := tab_wr _ hs.ok hx h
  obtain ⟨y, hy⟩ : ∃ y, (if min x'.size 8960 < a + t.length then x'.setS (a + t.length) else x') = y := ⟨_, rfl⟩
  have hyf : fitI y := by rw [← hy]; split; exact setS_fit hW.fit (by omega); exact hW.fit
  have hyr : ∀ κ, refV v' y κ = refV v' x' κ := fun κ => by
    rw [← hy]
    split
    · exact ref_size _ _ _ _
    · rfl
  have hyb : ∀ k, blkV v' y k = blkV v' x' k := fun k => by rw [blkV, blkV, hyr]
  rw [hy]
  have hC := chg_put hs hn hT hyf hyr hW.sd hW.refO hW.blkO hW.room
  have h2' : n ≤ inosV v' := by rw [hT.kept.ino]; exact h2
  have rp : ∀ z κ, refV (putV v' n y) z κ = refV v' z κ := fun z κ => ref_put hT.kept.ok h1 h2' κ
  have bp : ∀ z k, blkV (putV v' n y) z k = blkV v' z k := fun z k => blk_put hT.kept.ok h1 h2' k
  refine ⟨⟨y, hC⟩, ?_, ?_, ?_, ?_, fun i hi => ?_, fun k hk => ?_, ?_⟩
  · rw [hC.here, ← hy, hW.size]
    split
    · rfl
    · exact hW.size
  · rw [hC.here, ← hy]
    split
    · exact hW.kind
    · exact hW.kind
  · rw [hC.here, ← hy]
    split
    · exact hW.owner
    · exact hW.owner
  · rw [hC.here, ← hy]
    split
    · exact hW.ext
    · exact hW.ext
  · rw [hC.here, bp, hyb, hW.byte i hi]
  · rw [hC.here, rp, hyr, hW.refs k hk]
  · rw [hC.here, rp, hyr, hW.ind]
/-- A cut. -/
structure CutV (S : Nat → Prop) (v : Vol) (n s : Nat) (w : Vol) : Prop where
  chg : ∃ y, Chg S v n w y
  size : (inoV w n).size = s
  kind : (inoV w n).kind = (inoV v n).kind
  owner : (inoV w n).owner = (inoV v n).owner
  ext : (inoV w n).ext = (inoV v n).ext
  byte : ∀ i, i < 8960 → gb (blkV w (inoV w n) (i / 128)) (i % 128) = if s < sizeX (inoV v n) ∧ s ≤ i then 0 else gb (blkV v (inoV v n) (i / 128)) (i % 128)
  refs : ∀ k, k < 70 → refV w (inoV w n) k = if s < sizeX (inoV v n) ∧ needS s ≤ k then 0 else refV v (inoV v n) k
  ind : refV w (inoV w n) 70 = if s < sizeX (inoV v n) ∧ s ≤ 768 then 0 else refV v (inoV v n) 70
theorem cut_vol {S : Nat → Prop} {v : Vol} {n s : Nat} (hs : SV S v) (hn : S n) (hs9 : s ≤ 8960) : CutV S v n s (cutV v n s) := by
  obtain ⟨h1, h2⟩ := hs.rng n hn
  have hx := inoV_fit v n
  by_cases hlt : s < sizeX (inoV v n)
  · have hs8 : s < 8960 := by simp only [sizeX] at hlt; omega
    have hW := short_eff hs.ok hs.sd hn hx hs8
    have hT := tab_short (x := inoV v n) s hs.ok
    obtain ⟨⟨v', x'⟩, hD⟩ : ∃ D, shortV v (inoV v n) s = D := ⟨_, rfl⟩
    rw [hD] at hW hT
    dsimp only at hW hT
    have e : cutV v n s = putV v' n (x'.setS s) := by rw [cutV, if_pos hlt, hD]
    rw [e]
    have hC := chg_put (y := x'.setS s) hs hn hT (setS_fit hW.fit (by omega)) (ref_size _ _ _) hW.sd hW.refO hW.blkO hW.room
    have h2' : n ≤ inosV v' := by rw [hT.kept.ino]; exact h2
    have rp : ∀ z κ, refV (putV v' n (x'.setS s)) z κ = refV v' z κ := fun z κ => ref_put hT.kept.ok h1 h2' κ
    have bp : ∀ z k, blkV (putV v' n (x'.setS s)) z k = blkV v' z k := fun z k => blk_put hT.kept.ok h1 h2' k
    refine ⟨⟨_, hC⟩, by rw [hC.here]; rfl, by rw [hC.here]; exact hW.like.kind, by rw [hC.here]; exact hW.like.owner, by rw [hC.here]; exact hW.like.ext, fun i hi => ?_, fun k hk => ?_, ?_⟩
    · rw [hC.here, bp, blk_size, hW.byte i hi]
      by_cases c : i < s
      · rw [if_pos c, if_neg (by omega)]
      · rw [if_neg c, if_pos (by omega)]
    · rw [hC.here, rp, ref_size, hW.refs k hk]
      by_cases c : k < needS s
      · rw [if_pos c, if_neg (by omega)]
      · rw [if_neg c, if_pos (by omega)]
    · rw [hC.here, rp, ref_size, hW.ind]
      by_cases c : s ≤ 768
      · rw [if_pos c, if_pos ⟨hlt, c⟩]
      · rw [if_neg c, if_neg (fun h => c h.2)]
  · have e : cutV v n s = putV v n ((inoV v n).setS s) := by rw [cutV, if_neg hlt]
    rw [e]
    have hC := chg_put (x' := inoV v n) (y := (inoV v n).setS s) hs hn (.rfl hs.ok) (setS_fit hx (by omega)) (ref_size _ _ _) (by rw [upd_self]; exact hs.sd) (fun _ _ _ _ => rfl) (fun _ _ _ _ _ => rfl) rfl
    have rp : ∀ z κ, refV (putV v n ((inoV v n).setS s)) z κ = refV v z κ := fun z κ => ref_put hs.ok h1 h2 κ
    have bp : ∀ z k, blkV (putV v n ((inoV v n).setS s)) z k = blkV v z k := fun z k => blk_put hs.ok h1 h2 k
    refine ⟨⟨_, hC⟩, by rw [hC.here]; rfl, by rw [hC.here]; rfl, by rw [hC.here]; rfl, by rw [hC.here]; rfl, fun i hi => ?_, fun k hk => ?_, ?_⟩
    · rw [hC.here, bp, blk_size, if_neg (fun h => hlt h.1)]
    · rw [hC.here, rp, ref_size, if_neg (fun h => hlt h.1)]
    · rw [hC.here, rp, ref_size, if_neg (fun h => hlt h.1)]
end Go.Proofs.Ytacdohlhalnioaa
end
