/- Joined: XYF XYG XYI. -/
import Derived.Test.YtacdohlhalnioaaKE
import Derived.ArgAppend
import Derived.Lib.LazyBuf
/- A row of bytes that may be appended to, and written over. -/
section
set_option linter.unusedVariables false
set_option linter.unusedSimpArgs false
set_option maxRecDepth 20000
namespace Go.Proofs.Ytacdohlhalnioaa
open Go.RowKit

/-- A row of bytes, with room up to c. -/
structure BX (w : World) (g c : Nat) (s : Blk) : Prop where mkBX ::
  le : s.length ≤ c
  max : c ≤ maxLen
  lt : g < w.heap.size
  cell : ∀ j, j < s.length → w.cell? ⟨g, j, none⟩ = some (.int .u8 ((gb s j : Nat) : Int))
  spare : ∀ j, j < c → (w.cell? ⟨g, j, none⟩).isSome = true
  free : ∀ j, j < c → w.frozen? ⟨g, j, none⟩ = false
theorem BX.keep {w w' : World} {g c : Nat} {s : Blk} (h : BX w g c s) (hb : Below w.heap.size w w') : BX w' g c s := by
  have hk := hb.block g h.lt
  have e1 : ∀ j, w'.cell? ⟨g, j, none⟩ = w.cell? ⟨g, j, none⟩ := fun j => by simp only [World.cell?, hk]
  have e2 : ∀ j, w'.frozen? ⟨g, j, none⟩ = w.frozen? ⟨g, j, none⟩ := fun j => by simp only [World.frozen?, hk]
  exact ⟨h.le, h.max, Nat.lt_of_lt_of_le h.lt hb.size, fun j hj => by rw [e1]; exact h.cell j hj, fun j hj => by rw [e1]; exact h.spare j hj, fun j hj => by rw [e2]; exact h.free j hj⟩
theorem BX.str {w : World} {g c n : Nat} {s : Blk} (h : BX w g c s) (hn : s.length = n) : (convert 62 9 (.slice (some ⟨g, 0, none⟩) n c)).run Try.prog w = .ok (.string (mk s)) w :=
  str_of_u8 w g 0 n c s hn (fun j hj => by rw [Nat.zero_add]; exact h.cell j (by omega))
theorem BX.new (s : Blk) (W : World) (hs : s.length ≤ 8960) : BX (Lib.bytesWorld W 5 (mk s)) W.heap.size (grownCap W s.length 0 5) s := by
  have hge := grownCap_ge W s.length 0 5
  have hle := grownCap_le_maxLen W s.length 0 5 (by simp only [maxLen]; omega)
  have hn := Lib.bytesWorld_at_new W 5 (mk s)
  have hsz : (Lib.bytesCells W 5 (mk s)).size = grownCap W s.length 0 5 := by
    have e : (mk s).size = s.length := mk_size s
    have e2 : (mk s).data.size = s.length := e
    simp only [Lib.bytesCells, Array.size_append, Array.size_map, Array.size_replicate, e, e2]
    omega
  refine ⟨hge, hle, by rw [Lib.bytesWorld_size]; omega, fun j hj => bytes_cell s W j hj, fun j hj => ?_, fun j hj => ?_⟩
  · rw [cell_at hn, Array.getElem?_eq_getElem (by omega)]
    rfl
  · simp only [World.frozen?, hn, hsz]
    simp
    omega
theorem BX.set {w : World} {g c : Nat} {s : Blk} (h : BX w g c s) (i n : Nat) (hi : i < s.length) (hn : n < 256) : BX (w.setCell ⟨g, i, none⟩ (.int .u8 (n : Int))) g c (s.set i (UInt8.ofNat n)) := by
  obtain ⟨u, hu⟩ := Option.isSome_iff_exists.1 (h.spare i (by have := h.le; omega))
  have e1 : ∀ j, (w.setCell ⟨g, i, none⟩ (.int .u8 (n : Int))).cell? ⟨g, j, none⟩ = if j = i then some (.int .u8 (n : Int)) else w.cell? ⟨g, j, none⟩ := fun j => by
    by_cases e : j = i
    · subst e
      rw [if_pos rfl]
      exact World.cell?_setCell_same _ _ _ hu
    · rw [if_neg e]
      exact World.cell?_setCell_other _ _ _ _ (by intro e2; injection e2; omega)
  refine ⟨by rw [List.length_set]; exact h.le, h.max, by simpa using h.lt, fun j hj => ?_, fun j hj => ?_, fun j hj => by rw [World.frozen?_setCell]; exact h.free j hj⟩
  · rw [List.length_set] at hj
    rw [e1, gb_set _ _ _ _ hn hi]
    by_cases e : j = i
    · rw [if_pos e, if_pos e]
    · rw [if_neg e, if_neg e]
      exact h.cell j hj
  · rw [e1]
    split
    · rfl
    · exact h.spare j hj
/-- A text over a row. -/
theorem BX.over {g c : Nat} (t : Blk) : ∀ {w : World} {s : Blk} (q : Nat), BX w g c s → q + t.length ≤ s.length → BX (w.setCells g q (t.map fun x => Value.int .u8 (x.toNat : Int))) g c (over s q t) ∧ ∀ (B : Nat) (w0 : World), B ≤ g → Below B w0 w → Below B w0 (w.setCells g q (t.map fun x => Value.int .u8 (x.toNat : Int))) := by
  induction t with
  | nil =>
    intro w s q h hq
    refine ⟨?_, fun B w0 _ hb => hb⟩
    have e : Go.Proofs.Ytacdohlhalnioaa.over s q [] = s := by
      rw [Go.Proofs.Ytacdohlhalnioaa.over]
      simp
    rw [e]
    exact h
  | cons x t ih =>
    intro w s q h hq
    rw [List.length_cons] at hq
    have h1 := h.set q x.toNat (by omega) x.toNat_lt
    obtain ⟨i1, i2⟩ := ih (q + 1) h1 (by rw [List.length_set]; omega)
    have e : Go.Proofs.Ytacdohlhalnioaa.over (s.set q (UInt8.ofNat x.toNat)) (q + 1) t = Go.Proofs.Ytacdohlhalnioaa.over s q (x :: t) := by
      refine blk_ext ?_ (fun j hj => ?_)
      · rw [over_length _ _ _ (by rw [List.length_set]; omega), over_length _ _ _ (by rw [List.length_cons]; omega), List.length_set]
      · rw [gb_over _ _ _ (by rw [List.length_set]; omega), gb_over _ _ _ (by rw [List.length_cons]; omega), gb_set _ _ _ _ x.toNat_lt (by omega), List.length_cons]
        by_cases c1 : q + 1 ≤ j ∧ j < q + 1 + t.length
        · rw [if_pos c1, if_pos (by omega), show j - q = (j - (q + 1)) + 1 from by omega]
          simp [gb]
        · rw [if_neg c1]
          by_cases c2 : j = q
          · subst c2
            rw [if_pos rfl, if_pos (by omega), Nat.sub_self]
            simp [gb]
          · rw [if_neg c2, if_neg (by omega)]
    rw [e] at i1
    exact ⟨i1, fun B w0 hB hb => i2 B w0 hB (below_set hb hB)⟩
/-- One byte more, where there is room. -/
theorem BX.room {w : World} {g c : Nat} {s : Blk} (h : BX w g c s) (hc : s.length < c) (n : Nat) (hn : n < 256) : BX (w.setCell ⟨g, s.length, none⟩ (.int .u8 (n : Int))) g c (s ++ [UInt8.ofNat n]) := by
  obtain ⟨u, hu⟩ := Option.isSome_iff_exists.1 (h.spare s.length hc)
  have e1 : ∀ j, (w.setCell ⟨g, s.length, none⟩ (.int .u8 (n : Int))).cell? ⟨g, j, none⟩ = if j = s.length then some (.int .u8 (n : Int)) else w.cell? ⟨g, j, none⟩ := fun j => by
    by_cases e : j = s.length
    · subst e
      rw [if_pos rfl]
      exact World.cell?_setCell_same _ _ _ hu
    · rw [if_neg e]
      exact World.cell?_setCell_other _ _ _ _ (by intro e2; injection e2; omega)
  refine ⟨by simp; omega, h.max, by simpa using h.lt, fun j hj => ?_, fun j hj => ?_, fun j hj => by rw [World.frozen?_setCell]; exact h.free j hj⟩
  · rw [e1]
    by_cases e : j = s.length
    · subst e
      rw [if_pos rfl, gb_append_right _ _ _ (Nat.le_refl _), Nat.sub_self]
      have : gb [UInt8.ofNat n] 0 = n := by simp [gb]; omega
      rw [this]
    · rw [List.length_append, List.length_singleton] at hj
      rw [if_neg e, gb_append_left _ _ _ (by omega)]
      exact h.cell j (by omega)
  · rw [e1]
    split
    · rfl
    · exact h.spare j hj
/-- A row that was laid anew. -/
theorem BX.grown {w : World} {base n : Nat} {v : Value} {s : Blk} (h : w.ownsRow base 5 1 v n (bvs s).toList) (hn : s.length = n) (h0 : 0 < n) : ∃ g c, v = .slice (some ⟨g, 0, none⟩) n c ∧ base ≤ g ∧ BX w g c s := by
  rcases h.2 with ⟨_, h1⟩ | ⟨g, cap, cur, rfl, hb, hg, hnc, hcm, hcs, htk⟩
  · omega
  · refine ⟨g, cap, rfl, hb, by omega, hcm, blk_lt hg, fun j hj => ?_, fun j hj => ?_, fun j hj => ?_⟩
    · have := h.cells (g := g) rfl j (.int .u8 ((gb s j : Nat) : Int)) (by rw [Array.getElem?_toList]; exact bvs_get s j hj)
      rwa [add_at, Nat.zero_add] at this
    · rw [cell_at hg, Array.getElem?_eq_getElem (by omega)]
      rfl
    · exact free_of hg j
theorem wpList_copy_str {ops : Array Oper} {rest : List Oper} {o : Oper} {a : Act} {w : World} {Q : Exit → Act → World → Prop} (hgd : o.guard = none) (d x : Operand) (dT sT : TypeId)
    (hop : o.op = Op.call { callee := Callee.builtin Builtin.copy, args := #[d, x], argTypes := #[dT, sT] }) (elem : TypeId) (hu : Try.prog.underlying dT = some (.slice elem)) (hz : ∀ w, (Go.sizeOf elem).run Try.prog w = .ok 1 w)
    (b off dLen dCap : Nat) (hd : a.eval d = .slice (some ⟨b, off, none⟩) dLen dCap) (t : Blk) (hx : a.eval x = .string (mk t)) (hle : t.length ≤ dLen)
    (hc : ∀ j, j < t.length → (w.cell? ⟨b, off + j, none⟩).isSome = true) (hf : ∀ j, j < t.length → w.frozen? ⟨b, off + j, none⟩ = false)
    (h : wpList Try.prog ops Q rest (a.put o.dst (goInt t.length)) (w.setCells b off (t.map fun x => Value.int .u8 (x.toNat : Int)))) : wpList Try.prog ops Q (o :: rest) a w := by
  refine wpList_plain hgd fun K hK => ?_
  have hs : (mk t).size = t.length := mk_size t
  have hrun := run_copy_string (P := Try.prog) w dT sT o.type elem b off dLen dCap (mk t) hu hz (by rw [hs]; exact hle) (by rw [hs]; exact hc) (by rw [hs]; exact hf)
  rw [hs] at hrun
  unfold Oper.wp
  simp only [execOp, hop, resolve, invoke, builtin, Sem.run_bind, Sem.run_pure, Result.andThen_ok, List.map_toArray, List.map_cons, List.map_nil, hd, hx, hrun]
  exact hK _ _ h
end Go.Proofs.Ytacdohlhalnioaa
end

/- The law ExtentReads, walked. -/
section
set_option linter.unusedVariables false
set_option linter.unusedSimpArgs false
set_option maxRecDepth 20000
namespace Go.Proofs.Ytacdohlhalnioaa
open Go.RowKit
attribute [local go_sem] Oper.semAt_some

theorem gb_zs1 (b : Blk) (j : Nat) : b ++ zs (j + 1) = (b ++ zs j) ++ [UInt8.ofNat 0] := by
  rw [List.append_assoc]
  congr 1
  simp [zs, List.replicate_succ']
theorem bvs_snoc (b : Blk) (n : Nat) (hn : n < 256) : (bvs (b ++ [UInt8.ofNat n])).toList = (bvs b).toList ++ [.int .u8 (n : Int)] := by
  have : (UInt8.ofNat n).toNat = n := by simp; omega
  simp [bvs]
  omega
set_option maxHeartbeats 16000000 in
theorem reads_ok (Al : Option Addr) (cl : Nat) (l : List Deed) (p : Nat) (t : Blk) (w : World) (hl : RA w Al l) (hd : ∀ a ∈ l, okD a) (hp : p < 65536) (htl : (t.length : Int) ≤ 140737488351232) :
    Calls Try.prog 14 #[.slice Al l.length cl, .int .u16 p, .string (mk t)] w fun e w' => e = .returned (.bool true) ∧ Below w.heap.size w w' := by
  obtain ⟨i0, hi0, hz0, hz1, hz2⟩ := info_parts (show (Try.prog.info? 5).map (fun i => (i.zero, i.size, i.bytes)) = some (some (.int .u8 0), 1, 1) by kernel_rfl)
  have HL := Lib.hid hl
  have hdg := Lib.hid (fun w hr => dgreat_ok Al cl l w hr)
  have hla := Lib.hid (fun w hr => laid_ok Al cl l w hr hd)
  have hLV := Lib.hid (lv_laid l)
  clear hl hd
  obtain ⟨o, ho, ho9⟩ : ∃ o : Nat, (p : Int).tmod 9000 = (o : Int) ∧ o < 9000 := by
    rw [Int.tmod_eq_emod_of_nonneg (by omega)]
    exact ⟨p % 9000, by omega, by omega⟩
  have hw0 : IntKind.i64.wrap (p : Int) = (p : Int) := by simp [IntKind.wrap, IntKind.bits, IntKind.signed]; omega
  have hwo : IntKind.i64.wrap (o : Int) = (o : Int) := by simp [IntKind.wrap, IntKind.bits, IntKind.signed]; omega
  by_cases ht1 : t.length ≤ 1000
  case neg =>
    have hti : (1000 : Int) < (t.length : Int) := by omega
    go_enter Try.func14, Try.ntmps14
    go_wp2_with (first
      | (go_at_call 36; refine (hdg.out _ HL.out).mono ?_; rintro e w2 ⟨⟨bq, rfl⟩, hb2⟩; have HB2 := Lib.hid hb2; clear hb2; cases bq)
      | (go_at_call 17; refine (fixed_ok _).mono ?_; rintro e w8 ⟨rfl, hb8⟩; have HB8 := Lib.hid hb8; clear hb8))
    all_goals
      go_ret
      exact ⟨rfl, below_keep HB2.out (Nat.le_refl _) HB8.out⟩
  have hti : ¬ (1000 : Int) < (t.length : Int) := by omega
  have hwe : IntKind.i64.wrap ((o : Int) + (t.length : Int)) = (o : Int) + (t.length : Int) := by simp [IntKind.wrap, IntKind.bits, IntKind.signed]; omega
  go_enter Try.func14, Try.ntmps14
  go_upto_region 7 with (first
    | (go_at_call 36; refine (hdg.out _ HL.out).mono ?_; rintro e w2 ⟨⟨bq, rfl⟩, hb2⟩; have HB2 := Lib.hid hb2; clear hb2; cases bq)
    | (go_at_call 17; refine (fixed_ok _).mono ?_; rintro e w8 ⟨rfl, hb8⟩; have HB8 := Lib.hid hb8; clear hb8)
    | (go_at_call 41; refine (hla.out _ (HL.out.keep HB2.out)).mono ?_; rintro e w3 ⟨A3, c3, u3, rfl, hr3, ho5, hb3⟩; obtain ⟨gn, cn, rfl, hgn, hcn⟩ := own_open ho5 (by omega); have HR3 := Lib.hid hr3; have HB3 := Lib.hid (below_keep HB2.out (Nat.le_refl _) hb3); have HN := Lib.hid (show w3.cell? ⟨gn, 0, none⟩ = some (.int .i64 1) ∧ w3.cell? ⟨gn, 1, none⟩ = some (.int .i64 2) ∧ w3.cell? ⟨gn, 2, none⟩ = some (.int .i64 3) from ⟨hcn 0 _ rfl, hcn 1 _ rfl, hcn 2 _ rfl⟩); clear hr3 ho5 hb3 hcn))
  · obtain ⟨V, hV⟩ : ∃ V, laidV l = V := ⟨_, rfl⟩
    rw [hV] at HR3 hLV ⊢
    clear hV hla
    have s1 : S3 1 := ⟨by omega, by omega⟩
    have s2 : S3 2 := ⟨by omega, by omega⟩
    have s3 : S3 3 := ⟨by omega, by omega⟩
    have hk := Lib.hid (fun w hr => write_is A3 c3 V 2 o t w hr (by omega) htl)
    obtain ⟨⟨er, W1⟩, hR⟩ : ∃ R, writeR V 2 o t = R := ⟨_, rfl⟩
    rw [hR] at hk
    have k1 := HN.out.2.1
    by_cases he : er = 0
    · subst he
      obtain ⟨L1, q2, qo⟩ := reads_pure hLV.out (n := 2) s2 hR
      rw [show ((o : Int)).toNat = o from rfl] at q2
      obtain ⟨B, hB⟩ : ∃ B, wholeV V 2 = B := ⟨_, rfl⟩
      have hBl : B.length ≤ 8960 := by rw [← hB, whole_len hLV.out.sv.ok]; exact Nat.min_le_right _ _
      rw [hB] at q2
      obtain ⟨X, hX⟩ : ∃ X, wroteB B o t = X := ⟨_, rfl⟩
      rw [hX] at q2
      obtain ⟨B1, hB1⟩ : ∃ B1, wholeV V 1 = B1 := ⟨_, rfl⟩
      obtain ⟨B3, hB3⟩ : ∃ B3, wholeV V 3 = B3 := ⟨_, rfl⟩
      have q1 : wholeV W1 1 = B1 := by rw [qo 1 s1 (by omega), hB1]
      have q3 : wholeV W1 3 = B3 := by rw [qo 3 s3 (by omega), hB3]
      have hv0 : Hid (∀ w, RS w A3 V → Calls Try.prog 50 #[.slice A3 V.length c3, .int .i64 2] w fun e w' => e = .returned (.string (mk B)) ∧ Below w.heap.size w w') := Lib.hid (fun w hr => whole_at hLV.out s2 rfl hB A3 c3 w hr)
      have hv1 : Hid (∀ w, RS w A3 V → Calls Try.prog 50 #[.slice A3 V.length c3, .int .i64 1] w fun e w' => e = .returned (.string (mk B1)) ∧ Below w.heap.size w w') := Lib.hid (fun w hr => whole_at hLV.out s1 rfl hB1 A3 c3 w hr)
      have hv3 : Hid (∀ w, RS w A3 V → Calls Try.prog 50 #[.slice A3 V.length c3, .int .i64 3] w fun e w' => e = .returned (.string (mk B3)) ∧ Below w.heap.size w w') := Lib.hid (fun w hr => whole_at hLV.out s3 rfl hB3 A3 c3 w hr)
      have hw2' : Hid (∀ (A : Option Addr) (c : Nat) w, RS w A W1 → Calls Try.prog 50 #[.slice A W1.length c, .int .i64 2] w fun e w' => e = .returned (.string (mk X)) ∧ Below w.heap.size w w') := Lib.hid (fun A c w hr => whole_at L1 s2 rfl q2 A c w hr)
      have hw1' : Hid (∀ (A : Option Addr) (c : Nat) w, RS w A W1 → Calls Try.prog 50 #[.slice A W1.length c, .int .i64 1] w fun e w' => e = .returned (.string (mk B1)) ∧ Below w.heap.size w w') := Lib.hid (fun A c w hr => whole_at L1 s1 rfl q1 A c w hr)
      have hw3' : Hid (∀ (A : Option Addr) (c : Nat) w, RS w A W1 → Calls Try.prog 50 #[.slice A W1.length c, .int .i64 3] w fun e w' => e = .returned (.string (mk B3)) ∧ Below w.heap.size w w') := Lib.hid (fun A c w hr => whole_at L1 s3 rfl q3 A c w hr)
      have HX := Lib.hid hX
      have HBL := Lib.hid hBl
      clear L1 q2 qo q1 q3 hB hX hB1 hB3 hR hLV s1 s2 s3
      have hcv := bytes_conv B
      have HCV := Lib.hid hcv
      clear hcv
      go_upto_region 10 with (go_at_call 35; refine (hk.out _ HR3.out).mono ?_; rintro e w4 ⟨A4, c4, rfl, hr4, hb4⟩; have HR4 := Lib.hid hr4; have HB4 := Lib.hid hb4; have k2 := cell_keep HN.out.2.1 hb4; clear hr4 hb4 k1)
      have hcv := HCV.out
      go_wp2_with (go_at_call 50; refine (hv0.out _ (HR3.out.below HB4.out)).mono ?_; rintro e w5 ⟨rfl, hb5⟩; have HB5 := Lib.hid hb5; clear hb5 k2)
      have hbx := BX.new B w5 HBL.out
      have hb6 := bytes_below B w5
      obtain ⟨W6, hW6⟩ : ∃ W6, Lib.bytesWorld w5 5 (mk B) = W6 := ⟨_, rfl⟩
      obtain ⟨cp, hcp⟩ : ∃ cp, grownCap w5 B.length 0 5 = cp := ⟨_, rfl⟩
      rw [hW6, hcp] at hbx
      rw [hW6] at hb6
      try rw [hW6, hcp]
      have HBX := Lib.hid hbx
      have HB6 := Lib.hid hb6
      clear hW6 hcp hbx hb6 hcv HCV
      obtain ⟨z, hz⟩ : ∃ z, (if t = [] then 0 else o + t.length - B.length) = z := ⟨_, rfl⟩
      have HZ := Lib.hid hz
      clear hz
      obtain ⟨q5, hq5⟩ : ∃ q5, w5.heap.size = q5 := ⟨_, rfl⟩
      rw [hq5] at HBX ⊢
      have HQ5 := Lib.hid hq5
      clear hq5
      go_loopw [12] (fun bv wr => ∃ (j g c N : Nat), j ≤ z ∧ bv = .slice (some ⟨g, 0, none⟩) N c ∧ Hid (N = B.length + j) ∧ Hid (BX wr g c (B ++ zs j)) ∧ q5 ≤ g ∧ Hid (Below q5 w5 wr)) (fun bv _ => match bv with | .slice _ n _ => B.length + z - n | _ => 0)
      case atStart => exact ⟨0, q5, cp, B.length, by omega, rfl, rfl, (by show BX W6 q5 cp (B ++ zs 0); rw [show B ++ zs 0 = B from by simp [zs]]; exact HBX.out), Nat.le_refl _, (by show Below q5 w5 W6; rw [← HQ5.out]; exact HB6.out)⟩
      case round =>
        obtain ⟨j, g9, c9, N, hj, rfl, hN, hx, hg, hB⟩ := hrel
        have hzz : (t = [] ∧ z = 0) ∨ (t ≠ [] ∧ z = o + t.length - B.length) := by
          have := HZ.out
          by_cases c : t = []
          · rw [if_pos c] at this; exact .inl ⟨c, this.symm⟩
          · rw [if_neg c] at this; exact .inr ⟨c, this.symm⟩
        have hls : (B ++ zs j).length = N := by rw [List.length_append, zs_length, hN.out]
        have hBs := hB.out.size
        have hNc := hx.out.le
        have hcm := hx.out.max
        rw [hls] at hNc
        by_cases hjz : j < z
        · have hN1 := hN.out
          have hT : (0 : Int) < (t.length : Int) := by
            rcases hzz with ⟨_, h⟩ | ⟨h, _⟩
            · omega
            · have := List.length_pos_iff.2 h; omega
          have hlt : (N : Int) < (o : Int) + (t.length : Int) := by
            rcases hzz with ⟨_, h⟩ | ⟨_, h⟩ <;> omega
          have hls2 : (B ++ zs (j + 1)).length = N + 1 := by rw [List.length_append, zs_length]; omega
          have hba := (Below.refl wr.heap.size wr).alloc (Nat.le_refl _) (.cells #[.int .u8 0] 5)
          have hx1 := hx.out.keep hba
          have hbb := hB.out.alloc (Nat.le_trans (by rw [← HQ5.out]; exact Nat.le_refl _) hBs) (.cells #[.int .u8 0] 5)
          have HX1 := Lib.hid hx1
          have HBB := Lib.hid hbb
          have HLS := Lib.hid hls
          have HLS2 := Lib.hid hls2
          have hs9 : wr.heap.size < (wr.alloc (.cells #[.int .u8 0] 5)).heap.size := by simp
          clear hzz hba hx1 hbb hls hls2 hN1
          go_wp2_with (at_builtin; refine wpList_append_arg _ rfl _ _ 62 rfl 5 i0 (.int .u8 0) 1 1 Try.underlying62 hi0 hz0 hz1 hz2 rfl (by decide) g9 0 N c9 (bvs (B ++ zs j)).toList rfl (by rw [Array.length_toList, bvs_size, HLS.out, Nat.mul_one]) (fun k u hu => by rw [Array.getElem?_toList] at hu; have hk := (Array.getElem?_eq_some_iff.1 hu).1; rw [bvs_size] at hk; rw [bvs_get _ _ hk] at hu; cases hu; rw [Nat.zero_add]; exact HX1.out.cell k hk) ⟨wr.heap.size, 0, none⟩ 1 1 [.int .u8 0] rfl rfl (cell_one_at _ _ _ rfl) (by simp [Value.oneCell']) (fun hroom k hk => by have hk0 : k = 0 := (by simp at hk; omega); subst hk0; rw [Nat.mul_one, Nat.zero_add, Nat.add_zero]; exact ⟨HX1.out.spare N (by omega), HX1.out.free N (by omega)⟩) (by simp only [maxLen]; omega) (by omega) (fun hroom => ?_) (fun hgrow v' w' hown hgr => ?_); rotate_left; obtain ⟨g2, c2, rfl, hg2, hx2⟩ := BX.grown (s := B ++ zs (j + 1)) (show w'.ownsRow _ _ 1 v' (N + 1) (bvs (B ++ zs (j + 1))).toList from (by rw [gb_zs1, bvs_snoc _ _ (by omega)]; exact hown)) HLS2.out (by omega); have HX2 := Lib.hid hx2; have HGR := Lib.hid hgr; clear hown hgr hgrow hx2; rotate_right)
          · refine ⟨⟨j + 1, g9, c9, N + 1, by omega, rfl, Lib.hid (by have := hN.out; omega), Lib.hid ?_, hg, Lib.hid (below_set HBB.out hg)⟩, by show B.length + z - (N + 1) < B.length + z - N; have := hN.out; omega⟩
            have h := HX1.out.room (by rw [HLS.out]; omega) 0 (by omega)
            rw [HLS.out] at h
            rw [gb_zs1]
            exact h
          · exact ⟨⟨j + 1, g2, c2, N + 1, by omega, rfl, Lib.hid (by have := hN.out; omega), HX2, by have := HQ5.out; omega, Lib.hid (HBB.out.grown HGR.out (by have := HQ5.out; omega) (fun r e => by cases e))⟩, by show B.length + z - (N + 1) < B.length + z - N; have := hN.out; omega⟩
        · obtain rfl : j = z := by omega
          obtain ⟨q, hq⟩ : ∃ q, min o N = q := ⟨_, rfl⟩
          have hN1 := hN.out
          have hB8 := HBL.out
          have hov : over (B ++ zs j) q t = X := by
            rw [← HX.out, wroteB]
            rcases hzz with ⟨h1, h2⟩ | ⟨h1, h2⟩
            · subst h1 h2
              rw [if_pos rfl, over]
              simp [zs]
            · have := List.length_pos_iff.2 h1
              rw [if_neg h1, h2, show q = o from by omega]
          have hqt : q + t.length ≤ N := by
            rcases hzz with ⟨h1, h2⟩ | ⟨h1, h2⟩
            · subst h1; simp; omega
            · have := List.length_pos_iff.2 h1
              omega
          obtain ⟨hx9, hb9⟩ := hx.out.over t q (by rw [hls]; exact hqt)
          rw [hov] at hx9
          have HX9 := Lib.hid hx9
          have HB9 := Lib.hid (hb9 q5 w5 hg hB.out)
          have HXN : Hid (X.length = N) := Lib.hid (by rw [← hov, over_length _ _ _ (by rw [hls]; exact hqt), hls])
          have hmn : min (o : Int) (N : Int) = (q : Int) := by omega
          have hq0 : (0 : Int) ≤ (q : Int) := by omega
          have hqN : (q : Int) ≤ (N : Int) := by omega
          have hsz : ∀ w, (Go.sizeOf 5).run Try.prog w = .ok 1 w := fun w => by simp [Go.sizeOf, typeInfo, hi0, hz1]
          have HFR := Lib.hid (fun k (hk : k < t.length) => hx.out.free (q + k) (by omega))
          have HSP := Lib.hid (fun k (hk : k < t.length) => hx.out.spare (q + k) (by omega))
          have hqt2 : t.length ≤ N - q := by omega
          have hgl := hx.out.lt
          have hcond : (¬ (0 : Int) < (t.length : Int)) ∨ ((0 : Int) < (t.length : Int) ∧ ¬ (N : Int) < (o : Int) + (t.length : Int)) := by
            rcases hzz with ⟨h1, h2⟩ | ⟨h1, h2⟩
            · subst h1; left; simp
            · have := List.length_pos_iff.2 h1
              right; omega
          clear hzz hx9 hb9 hov hN1 hB8 hq hls
          by_cases hcq : c9 = q
          · have ht0 : t = [] := List.length_eq_zero_iff.1 (by omega)
            subst ht0
            have hT : ¬ (0 : Int) < (([] : Blk).length : Int) := by simp
            subst hcq
            clear hcond
            go_upto_region 14 with (refine wpList_copy_str rfl _ _ 62 9 rfl 5 Try.underlying62 hsz g9 0 0 0 rfl [] rfl (by simp) (fun k hk => absurd hk (by simp)) (fun k hk => absurd hk (by simp)) ?_)
            obtain ⟨w10, hw10⟩ : ∃ w10, w10 = wr := ⟨_, rfl⟩
            have HX10 : Hid (BX w10 g9 c9 X) := by rw [hw10]; exact HX9
            have HB10 : Hid (Below q5 w5 w10) := by rw [hw10]; exact HB9
            try rw [show wr.setCells g9 0 (List.map (fun x => Value.int IntKind.u8 ((x.toNat : Nat) : Int)) ([] : Blk)) = w10 from hw10.symm]
            try rw [show wr.setCells g9 0 [] = w10 from hw10.symm]
            try rw [← hw10]
            clear hw10 HX9 HB9
            have H59 : Hid (Below w5.heap.size w5 w10) := Lib.hid (by rw [HQ5.out]; exact HB10.out)
            have hd0 : Below w10.heap.size w10 w10.drew := (Below.refl _ _).drew
            have r3 := (((HR3.out.below HB4.out).below HB5.out).below H59.out).below hd0
            have r4 := ((HR4.out.below HB5.out).below H59.out).below hd0
            have rx := HX10.out.keep hd0
            have rc0 := cell_keep (cell_keep (cell_keep (cell_keep HN.out.1 HB4.out) HB5.out) H59.out) hd0
            have rc1 := cell_keep (cell_keep (cell_keep (cell_keep HN.out.2.1 HB4.out) HB5.out) H59.out) hd0
            have rc2 := cell_keep (cell_keep (cell_keep (cell_keep HN.out.2.2 HB4.out) HB5.out) H59.out) hd0
            have rb := below_keep (below_keep (below_keep (below_keep HB3.out (Nat.le_refl _) HB4.out) (Nat.le_refl _) HB5.out) (Nat.le_refl _) H59.out) (Nat.le_refl _) hd0
            have rs := rx.str HXN.out
            have R3 := Lib.hid r3
            have R4 := Lib.hid r4
            have RX := Lib.hid rx
            have RB := Lib.hid rb
            clear r3 r4 rx rb hd0
            refine region_P (fun w' => Hid (RS w' A3 V) ∧ Hid (RS w' A4 W1) ∧ Hid (BX w' g9 c9 X) ∧ w'.cell? ⟨gn, 0, none⟩ = some (.int .i64 1) ∧ w'.cell? ⟨gn, 1, none⟩ = some (.int .i64 2) ∧ w'.cell? ⟨gn, 2, none⟩ = some (.int .i64 3) ∧ Hid (Below w.heap.size w w') ∧ (convert 62 9 (.slice (some ⟨g9, 0, none⟩) N c9)).run Try.prog w' = .ok (.string (mk X)) w') [] (by kernel_rfl) ?_ (fun hHeld => ?_)
            · exact ⟨R3, R4, RX, rc0, rc1, rc2, RB, rs⟩
            refine wpP_ready (rs := [0]) (by kernel_rfl) (by simp) ?_
            refine AllP.cons (o := ?o180001) ?ho180001 (fun K hK => ?_) AllP.nil
            case ho180001 => (simp only [List.getElem?_toArray, List.getElem?_cons_succ, List.getElem?_cons_zero]; exact rfl)
            go_simp
            go_at_call 17
            refine (fixed_ok _).mono ?_
            rintro e w9 ⟨rfl, hb9⟩
            refine hK.out _ _ ?_ (fun hHeld => ?_)
            · exact ⟨Lib.hid (hHeld.1.out.below hb9), Lib.hid (hHeld.2.1.out.below hb9), Lib.hid (hHeld.2.2.1.out.keep hb9), cell_keep hHeld.2.2.2.1 hb9, cell_keep hHeld.2.2.2.2.1 hb9, cell_keep hHeld.2.2.2.2.2.1 hb9, Lib.hid (below_keep hHeld.2.2.2.2.2.2.1.out (Nat.le_refl _) hb9), (hHeld.2.2.1.out.keep hb9).str HXN.out⟩
            clear hK K
            try simp only [Act.put, List.setIfInBounds_toArray, List.set_cons_zero, List.set_cons_succ]
            refine wpP_take (i := 1) (oi := ?oi180002) (v := ?v180002) ?hi180002 (by kernel_rfl) (by kernel_rfl) (by kernel_rfl) (by kernel_rfl) ?hQ180002 ?hy180002 (by assumption) ?rest180002
            case hi180002 => (simp only [List.getElem?_toArray, List.getElem?_cons_succ, List.getElem?_cons_zero]; exact rfl)
            case hQ180002 => exact fun _ _ _ h => h
            case hy180002 => (refine Or.inl ⟨by kernel_rfl, ?_⟩; intro w hSw; (try dsimp only at hSw); go_simp; try (with_reducible rfl))
            try simp only [Act.put, List.setIfInBounds_toArray, List.set_cons_zero, List.set_cons_succ]
            refine wpP_take (i := 2) (oi := ?oi180003) (v := ?v180003) ?hi180003 (by kernel_rfl) (by kernel_rfl) (by kernel_rfl) (by kernel_rfl) ?hQ180003 ?hy180003 (by assumption) ?rest180003
            case hi180003 => (simp only [List.getElem?_toArray, List.getElem?_cons_succ, List.getElem?_cons_zero]; exact rfl)
            case hQ180003 => exact fun _ _ _ h => h
            case hy180003 => (refine Or.inl ⟨by kernel_rfl, ?_⟩; intro w hSw; (try dsimp only at hSw); go_simp; try (with_reducible rfl))
            try simp only [Act.put, List.setIfInBounds_toArray, List.set_cons_zero, List.set_cons_succ]
            refine wpP_take (i := 3) (oi := ?oi180004) (v := ?v180004) ?hi180004 (by kernel_rfl) (by kernel_rfl) (by kernel_rfl) (by kernel_rfl) ?hQ180004 ?hy180004 (by assumption) ?rest180004
            case hi180004 => (simp only [List.getElem?_toArray, List.getElem?_cons_succ, List.getElem?_cons_zero]; exact rfl)
            case hQ180004 => exact fun _ _ _ h => h
            case hy180004 => (refine Or.inl ⟨by kernel_rfl, ?_⟩; intro w hSw; (try dsimp only at hSw); go_simp; try (with_reducible rfl))
            try simp only [Act.put, List.setIfInBounds_toArray, List.set_cons_zero, List.set_cons_succ]
            refine wpP_take (i := 4) (oi := ?oi180005) (v := ?v180005) ?hi180005 (by kernel_rfl) (by kernel_rfl) (by kernel_rfl) (by kernel_rfl) ?hQ180005 ?hy180005 (by assumption) ?rest180005
            case hi180005 => (simp only [List.getElem?_toArray, List.getElem?_cons_succ, List.getElem?_cons_zero]; exact rfl)
            case hQ180005 => exact fun _ _ _ h => h
            case hy180005 => (refine Or.inl ⟨by kernel_rfl, ?_⟩; intro w hSw; (try dsimp only at hSw); go_simp; try (with_reducible rfl))
            try simp only [Act.put, List.setIfInBounds_toArray, List.set_cons_zero, List.set_cons_succ]
            refine wpP_take (i := 5) (oi := ?oi180006) (v := ?v180006) ?hi180006 (by kernel_rfl) (by kernel_rfl) (by kernel_rfl) (by kernel_rfl) ?hQ180006 ?hy180006 (by assumption) ?rest180006
            case hi180006 => (simp only [List.getElem?_toArray, List.getElem?_cons_succ, List.getElem?_cons_zero]; exact rfl)
            case hQ180006 => exact fun _ _ _ h => h
            case hy180006 => (refine Or.inl ⟨by kernel_rfl, ?_⟩; intro w hSw; (try dsimp only at hSw); go_simp; try (with_reducible rfl))
            try simp only [Act.put, List.setIfInBounds_toArray, List.set_cons_zero, List.set_cons_succ]
            refine wpP_take (i := 7) (oi := ?oi180007) (v := ?v180007) ?hi180007 (by kernel_rfl) (by kernel_rfl) (by kernel_rfl) (by kernel_rfl) ?hQ180007 ?hy180007 (by assumption) ?rest180007
            case hi180007 => (simp only [List.getElem?_toArray, List.getElem?_cons_succ, List.getElem?_cons_zero]; exact rfl)
            case hQ180007 => exact fun _ _ _ h => h
            case hy180007 => (refine Or.inl ⟨by kernel_rfl, ?_⟩; intro w hSw; (try dsimp only at hSw); go_simp; try (with_reducible rfl))
            try simp only [Act.put, List.setIfInBounds_toArray, List.set_cons_zero, List.set_cons_succ]
            refine wpP_take (i := 8) (oi := ?oi180008) (v := ?v180008) ?hi180008 (by kernel_rfl) (by kernel_rfl) (by kernel_rfl) (by kernel_rfl) ?hQ180008 ?hy180008 (by assumption) ?rest180008
            case hi180008 => (simp only [List.getElem?_toArray, List.getElem?_cons_succ, List.getElem?_cons_zero]; exact rfl)
            case hQ180008 => exact fun _ _ _ h => h
            case hy180008 => (refine Or.inl ⟨by kernel_rfl, ?_⟩; intro w hSw; (try dsimp only at hSw); go_simp; try (with_reducible rfl))
            try simp only [Act.put, List.setIfInBounds_toArray, List.set_cons_zero, List.set_cons_succ]
            refine wpP_ready (rs := [6]) (by kernel_rfl) (by simp) ?_
            refine AllP.cons (o := ?o180009) ?ho180009 (fun K hK => ?_) AllP.nil
            case ho180009 => (simp only [List.getElem?_toArray, List.getElem?_cons_succ, List.getElem?_cons_zero]; exact rfl)
            go_simp
            go_at_call 50
            refine (hw2'.out _ _ _ (hHeld.2.1.out)).mono ?_
            rintro e w9 ⟨rfl, hb9⟩
            refine hK.out _ _ ?_ (fun hHeld => ?_)
            · exact ⟨Lib.hid (hHeld.1.out.below hb9), Lib.hid (hHeld.2.1.out.below hb9), Lib.hid (hHeld.2.2.1.out.keep hb9), cell_keep hHeld.2.2.2.1 hb9, cell_keep hHeld.2.2.2.2.1 hb9, cell_keep hHeld.2.2.2.2.2.1 hb9, Lib.hid (below_keep hHeld.2.2.2.2.2.2.1.out (Nat.le_refl _) hb9), (hHeld.2.2.1.out.keep hb9).str HXN.out⟩
            clear hK K
            try simp only [Act.put, List.setIfInBounds_toArray, List.set_cons_zero, List.set_cons_succ]
            refine wpP_take (i := 9) (oi := ?oi180010) (v := ?v180010) ?hi180010 (by kernel_rfl) (by kernel_rfl) (by kernel_rfl) (by kernel_rfl) ?hQ180010 ?hy180010 (by assumption) ?rest180010
            case hi180010 => (simp only [List.getElem?_toArray, List.getElem?_cons_succ, List.getElem?_cons_zero]; exact rfl)
            case hQ180010 => exact fun _ _ _ h => h
            case hy180010 => (refine Or.inl ⟨by kernel_rfl, ?_⟩; intro w hSw; (try dsimp only at hSw); go_simp; try (with_reducible rfl))
            try simp only [Act.put, List.setIfInBounds_toArray, List.set_cons_zero, List.set_cons_succ]
            refine wpP_take (i := 10) (oi := ?oi180011) (v := ?v180011) ?hi180011 (by kernel_rfl) (by kernel_rfl) (by kernel_rfl) (by kernel_rfl) ?hQ180011 ?hy180011 (by assumption) ?rest180011
            case hi180011 => (simp only [List.getElem?_toArray, List.getElem?_cons_succ, List.getElem?_cons_zero]; exact rfl)
            case hQ180011 => exact fun _ _ _ h => h
            case hy180011 => (refine Or.inl ⟨by kernel_rfl, ?_⟩; intro w hSw; (try dsimp only at hSw); go_simp; try (with_reducible rfl))
            try simp only [Act.put, List.setIfInBounds_toArray, List.set_cons_zero, List.set_cons_succ]
            refine wpP_take (i := 11) (oi := ?oi180012) (v := ?v180012) ?hi180012 (by kernel_rfl) (by kernel_rfl) (by kernel_rfl) (by kernel_rfl) ?hQ180012 ?hy180012 (by assumption) ?rest180012
            case hi180012 => (simp only [List.getElem?_toArray, List.getElem?_cons_succ, List.getElem?_cons_zero]; exact rfl)
            case hQ180012 => exact fun _ _ _ h => h
            case hy180012 => (refine Or.inl ⟨by kernel_rfl, ?_⟩; intro w hSw; (try dsimp only at hSw); go_simp; try (with_reducible rfl))
            try simp only [Act.put, List.setIfInBounds_toArray, List.set_cons_zero, List.set_cons_succ]
            refine wpP_take (i := 12) (oi := ?oi180013) (v := ?v180013) ?hi180013 (by kernel_rfl) (by kernel_rfl) (by kernel_rfl) (by kernel_rfl) ?hQ180013 ?hy180013 (by assumption) ?rest180013
            case hi180013 => (simp only [List.getElem?_toArray, List.getElem?_cons_succ, List.getElem?_cons_zero]; exact rfl)
            case hQ180013 => exact fun _ _ _ h => h
            case hy180013 => (refine Or.inl ⟨by kernel_rfl, ?_⟩; intro w hSw; (try dsimp only at hSw); go_simp; try (with_reducible rfl))
            try simp only [Act.put, List.setIfInBounds_toArray, List.set_cons_zero, List.set_cons_succ]
            refine wpP_take (i := 13) (oi := ?oi180014) (v := ?v180014) ?hi180014 (by kernel_rfl) (by kernel_rfl) (by kernel_rfl) (by kernel_rfl) ?hQ180014 ?hy180014 (by assumption) ?rest180014
            case hi180014 => (simp only [List.getElem?_toArray, List.getElem?_cons_succ, List.getElem?_cons_zero]; exact rfl)
            case hQ180014 => exact fun _ _ _ h => h
            case hy180014 => (refine Or.inl ⟨by kernel_rfl, ?_⟩; intro w hSw; (try dsimp only at hSw); go_simp; try (with_reducible rfl))
            try simp only [Act.put, List.setIfInBounds_toArray, List.set_cons_zero, List.set_cons_succ]
            refine wpP_take (i := 14) (oi := ?oi180015) (v := ?v180015) ?hi180015 (by kernel_rfl) (by kernel_rfl) (by kernel_rfl) (by kernel_rfl) ?hQ180015 ?hy180015 (by assumption) ?rest180015
            case hi180015 => (simp only [List.getElem?_toArray, List.getElem?_cons_succ, List.getElem?_cons_zero]; exact rfl)
            case hQ180015 => exact fun _ _ _ h => h
            case hy180015 => (refine Or.inl ⟨by kernel_rfl, ?_⟩; intro w hSw; (try dsimp only at hSw); go_simp; try (with_reducible rfl))
            try simp only [Act.put, List.setIfInBounds_toArray, List.set_cons_zero, List.set_cons_succ]
            refine wpP_take (i := 15) (oi := ?oi180016) (v := ?v180016) ?hi180016 (by kernel_rfl) (by kernel_rfl) (by kernel_rfl) (by kernel_rfl) ?hQ180016 ?hy180016 (by assumption) ?rest180016
            case hi180016 => (simp only [List.getElem?_toArray, List.getElem?_cons_succ, List.getElem?_cons_zero]; exact rfl)
            case hQ180016 => exact fun _ _ _ h => h
            case hy180016 => (refine Or.inl ⟨by kernel_rfl, ?_⟩; intro w hSw; (try dsimp only at hSw); go_simp; try (with_reducible rfl))
            try simp only [Act.put, List.setIfInBounds_toArray, List.set_cons_zero, List.set_cons_succ]
            refine wpP_take (i := 17) (oi := ?oi180017) (v := ?v180017) ?hi180017 (by kernel_rfl) (by kernel_rfl) (by kernel_rfl) (by kernel_rfl) ?hQ180017 ?hy180017 (by assumption) ?rest180017
            case hi180017 => (simp only [List.getElem?_toArray, List.getElem?_cons_succ, List.getElem?_cons_zero]; exact rfl)
            case hQ180017 => exact fun _ _ _ h => h
            case hy180017 => (refine Or.inl ⟨by kernel_rfl, ?_⟩; intro w hSw; (try dsimp only at hSw); go_simp; try (with_reducible rfl))
            try simp only [Act.put, List.setIfInBounds_toArray, List.set_cons_zero, List.set_cons_succ]
            refine wpP_take (i := 18) (oi := ?oi180018) (v := ?v180018) ?hi180018 (by kernel_rfl) (by kernel_rfl) (by kernel_rfl) (by kernel_rfl) ?hQ180018 ?hy180018 (by assumption) ?rest180018
            case hi180018 => (simp only [List.getElem?_toArray, List.getElem?_cons_succ, List.getElem?_cons_zero]; exact rfl)
            case hQ180018 => exact fun _ _ _ h => h
            case hy180018 => (refine Or.inl ⟨by kernel_rfl, ?_⟩; intro w hSw; (try dsimp only at hSw); go_simp; try (with_reducible rfl))
            try simp only [Act.put, List.setIfInBounds_toArray, List.set_cons_zero, List.set_cons_succ]
            refine wpP_take (i := 19) (oi := ?oi180019) (v := ?v180019) ?hi180019 (by kernel_rfl) (by kernel_rfl) (by kernel_rfl) (by kernel_rfl) ?hQ180019 ?hy180019 (by assumption) ?rest180019
            case hi180019 => (simp only [List.getElem?_toArray, List.getElem?_cons_succ, List.getElem?_cons_zero]; exact rfl)
            case hQ180019 => exact fun _ _ _ h => h
            case hy180019 => (refine Or.inl ⟨by kernel_rfl, ?_⟩; intro w hSw; (try dsimp only at hSw); go_simp; try (with_reducible rfl))
            try simp only [Act.put, List.setIfInBounds_toArray, List.set_cons_zero, List.set_cons_succ]
            refine wpP_take (i := 20) (oi := ?oi180020) (v := ?v180020) ?hi180020 (by kernel_rfl) (by kernel_rfl) (by kernel_rfl) (by kernel_rfl) ?hQ180020 ?hy180020 (by assumption) ?rest180020
            case hi180020 => (simp only [List.getElem?_toArray, List.getElem?_cons_succ, List.getElem?_cons_zero]; exact rfl)
            case hQ180020 => exact fun _ _ _ h => h
            case hy180020 => (refine Or.inl ⟨by kernel_rfl, ?_⟩; intro w hSw; (try dsimp only at hSw); go_simp; try (with_reducible rfl))
            try simp only [Act.put, List.setIfInBounds_toArray, List.set_cons_zero, List.set_cons_succ]
            refine wpP_ready (rs := [16]) (by kernel_rfl) (by simp) ?_
            refine AllP.cons (o := ?o180021) ?ho180021 (fun K hK => ?_) AllP.nil
            case ho180021 => (simp only [List.getElem?_toArray, List.getElem?_cons_succ, List.getElem?_cons_zero]; exact rfl)
            go_simp
            go_at_call 50
            refine (hw1'.out _ _ _ (hHeld.2.1.out)).mono ?_
            rintro e w9 ⟨rfl, hb9⟩
            refine hK.out _ _ ?_ (fun hHeld => ?_)
            · exact ⟨Lib.hid (hHeld.1.out.below hb9), Lib.hid (hHeld.2.1.out.below hb9), Lib.hid (hHeld.2.2.1.out.keep hb9), cell_keep hHeld.2.2.2.1 hb9, cell_keep hHeld.2.2.2.2.1 hb9, cell_keep hHeld.2.2.2.2.2.1 hb9, Lib.hid (below_keep hHeld.2.2.2.2.2.2.1.out (Nat.le_refl _) hb9), (hHeld.2.2.1.out.keep hb9).str HXN.out⟩
            clear hK K
            try simp only [Act.put, List.setIfInBounds_toArray, List.set_cons_zero, List.set_cons_succ]
            refine wpP_ready (rs := [21]) (by kernel_rfl) (by simp) ?_
            refine AllP.cons (o := ?o180022) ?ho180022 (fun K hK => ?_) AllP.nil
            case ho180022 => (simp only [List.getElem?_toArray, List.getElem?_cons_succ, List.getElem?_cons_zero]; exact rfl)
            go_simp
            go_at_call 50
            refine (hv1.out _ (hHeld.1.out)).mono ?_
            rintro e w9 ⟨rfl, hb9⟩
            refine hK.out _ _ ?_ (fun hHeld => ?_)
            · exact ⟨Lib.hid (hHeld.1.out.below hb9), Lib.hid (hHeld.2.1.out.below hb9), Lib.hid (hHeld.2.2.1.out.keep hb9), cell_keep hHeld.2.2.2.1 hb9, cell_keep hHeld.2.2.2.2.1 hb9, cell_keep hHeld.2.2.2.2.2.1 hb9, Lib.hid (below_keep hHeld.2.2.2.2.2.2.1.out (Nat.le_refl _) hb9), (hHeld.2.2.1.out.keep hb9).str HXN.out⟩
            clear hK K
            try simp only [Act.put, List.setIfInBounds_toArray, List.set_cons_zero, List.set_cons_succ]
            refine wpP_take (i := 22) (oi := ?oi180023) (v := ?v180023) ?hi180023 (by kernel_rfl) (by kernel_rfl) (by kernel_rfl) (by kernel_rfl) ?hQ180023 ?hy180023 (by assumption) ?rest180023
            case hi180023 => (simp only [List.getElem?_toArray, List.getElem?_cons_succ, List.getElem?_cons_zero]; exact rfl)
            case hQ180023 => exact fun _ _ _ h => h
            case hy180023 => (refine Or.inl ⟨by kernel_rfl, ?_⟩; intro w hSw; (try dsimp only at hSw); go_simp; try (with_reducible rfl))
            try simp only [Act.put, List.setIfInBounds_toArray, List.set_cons_zero, List.set_cons_succ]
            refine wpP_take (i := 23) (oi := ?oi180024) (v := ?v180024) ?hi180024 (by kernel_rfl) (by kernel_rfl) (by kernel_rfl) (by kernel_rfl) ?hQ180024 ?hy180024 (by assumption) ?rest180024
            case hi180024 => (simp only [List.getElem?_toArray, List.getElem?_cons_succ, List.getElem?_cons_zero]; exact rfl)
            case hQ180024 => exact fun _ _ _ h => h
            case hy180024 => (refine Or.inl ⟨by kernel_rfl, ?_⟩; intro w hSw; (try dsimp only at hSw); go_simp; try (with_reducible rfl))
            try simp only [Act.put, List.setIfInBounds_toArray, List.set_cons_zero, List.set_cons_succ]
            refine wpP_take (i := 24) (oi := ?oi180025) (v := ?v180025) ?hi180025 (by kernel_rfl) (by kernel_rfl) (by kernel_rfl) (by kernel_rfl) ?hQ180025 ?hy180025 (by assumption) ?rest180025
            case hi180025 => (simp only [List.getElem?_toArray, List.getElem?_cons_succ, List.getElem?_cons_zero]; exact rfl)
            case hQ180025 => exact fun _ _ _ h => h
            case hy180025 => (refine Or.inl ⟨by kernel_rfl, ?_⟩; intro w hSw; (try dsimp only at hSw); go_simp; try (with_reducible rfl))
            try simp only [Act.put, List.setIfInBounds_toArray, List.set_cons_zero, List.set_cons_succ]
            refine wpP_take (i := 25) (oi := ?oi180026) (v := ?v180026) ?hi180026 (by kernel_rfl) (by kernel_rfl) (by kernel_rfl) (by kernel_rfl) ?hQ180026 ?hy180026 (by assumption) ?rest180026
            case hi180026 => (simp only [List.getElem?_toArray, List.getElem?_cons_succ, List.getElem?_cons_zero]; exact rfl)
            case hQ180026 => exact fun _ _ _ h => h
            case hy180026 => (refine Or.inl ⟨by kernel_rfl, ?_⟩; intro w hSw; (try dsimp only at hSw); go_simp; try (with_reducible rfl))
            try simp only [Act.put, List.setIfInBounds_toArray, List.set_cons_zero, List.set_cons_succ]
            refine wpP_take (i := 26) (oi := ?oi180027) (v := ?v180027) ?hi180027 (by kernel_rfl) (by kernel_rfl) (by kernel_rfl) (by kernel_rfl) ?hQ180027 ?hy180027 (by assumption) ?rest180027
            case hi180027 => (simp only [List.getElem?_toArray, List.getElem?_cons_succ, List.getElem?_cons_zero]; exact rfl)
            case hQ180027 => exact fun _ _ _ h => h
            case hy180027 => (refine Or.inl ⟨by kernel_rfl, ?_⟩; intro w hSw; (try dsimp only at hSw); go_simp; try (with_reducible rfl))
            try simp only [Act.put, List.setIfInBounds_toArray, List.set_cons_zero, List.set_cons_succ]
            refine wpP_take (i := 27) (oi := ?oi180028) (v := ?v180028) ?hi180028 (by kernel_rfl) (by kernel_rfl) (by kernel_rfl) (by kernel_rfl) ?hQ180028 ?hy180028 (by assumption) ?rest180028
            case hi180028 => (simp only [List.getElem?_toArray, List.getElem?_cons_succ, List.getElem?_cons_zero]; exact rfl)
            case hQ180028 => exact fun _ _ _ h => h
            case hy180028 => (refine Or.inl ⟨by kernel_rfl, ?_⟩; intro w hSw; (try dsimp only at hSw); go_simp; try (with_reducible rfl))
            try simp only [Act.put, List.setIfInBounds_toArray, List.set_cons_zero, List.set_cons_succ]
            refine wpP_take (i := 28) (oi := ?oi180029) (v := ?v180029) ?hi180029 (by kernel_rfl) (by kernel_rfl) (by kernel_rfl) (by kernel_rfl) ?hQ180029 ?hy180029 (by assumption) ?rest180029
            case hi180029 => (simp only [List.getElem?_toArray, List.getElem?_cons_succ, List.getElem?_cons_zero]; exact rfl)
            case hQ180029 => exact fun _ _ _ h => h
            case hy180029 => (refine Or.inl ⟨by kernel_rfl, ?_⟩; intro w hSw; (try dsimp only at hSw); go_simp; try (with_reducible rfl))
            try simp only [Act.put, List.setIfInBounds_toArray, List.set_cons_zero, List.set_cons_succ]
            refine wpP_take (i := 30) (oi := ?oi180030) (v := ?v180030) ?hi180030 (by kernel_rfl) (by kernel_rfl) (by kernel_rfl) (by kernel_rfl) ?hQ180030 ?hy180030 (by assumption) ?rest180030
            case hi180030 => (simp only [List.getElem?_toArray, List.getElem?_cons_succ, List.getElem?_cons_zero]; exact rfl)
            case hQ180030 => exact fun _ _ _ h => h
            case hy180030 => (refine Or.inl ⟨by kernel_rfl, ?_⟩; intro w hSw; (try dsimp only at hSw); go_simp; try (with_reducible rfl))
            try simp only [Act.put, List.setIfInBounds_toArray, List.set_cons_zero, List.set_cons_succ]
            refine wpP_take (i := 31) (oi := ?oi180031) (v := ?v180031) ?hi180031 (by kernel_rfl) (by kernel_rfl) (by kernel_rfl) (by kernel_rfl) ?hQ180031 ?hy180031 (by assumption) ?rest180031
            case hi180031 => (simp only [List.getElem?_toArray, List.getElem?_cons_succ, List.getElem?_cons_zero]; exact rfl)
            case hQ180031 => exact fun _ _ _ h => h
            case hy180031 => (refine Or.inl ⟨by kernel_rfl, ?_⟩; intro w hSw; (try dsimp only at hSw); go_simp; try (with_reducible rfl))
            try simp only [Act.put, List.setIfInBounds_toArray, List.set_cons_zero, List.set_cons_succ]
            refine wpP_take (i := 32) (oi := ?oi180032) (v := ?v180032) ?hi180032 (by kernel_rfl) (by kernel_rfl) (by kernel_rfl) (by kernel_rfl) ?hQ180032 ?hy180032 (by assumption) ?rest180032
            case hi180032 => (simp only [List.getElem?_toArray, List.getElem?_cons_succ, List.getElem?_cons_zero]; exact rfl)
            case hQ180032 => exact fun _ _ _ h => h
            case hy180032 => (refine Or.inl ⟨by kernel_rfl, ?_⟩; intro w hSw; (try dsimp only at hSw); go_simp; try (with_reducible rfl))
            try simp only [Act.put, List.setIfInBounds_toArray, List.set_cons_zero, List.set_cons_succ]
            refine wpP_take (i := 33) (oi := ?oi180033) (v := ?v180033) ?hi180033 (by kernel_rfl) (by kernel_rfl) (by kernel_rfl) (by kernel_rfl) ?hQ180033 ?hy180033 (by assumption) ?rest180033
            case hi180033 => (simp only [List.getElem?_toArray, List.getElem?_cons_succ, List.getElem?_cons_zero]; exact rfl)
            case hQ180033 => exact fun _ _ _ h => h
            case hy180033 => (refine Or.inl ⟨by kernel_rfl, ?_⟩; intro w hSw; (try dsimp only at hSw); go_simp; try (with_reducible rfl))
            try simp only [Act.put, List.setIfInBounds_toArray, List.set_cons_zero, List.set_cons_succ]
            refine wpP_ready (rs := [29]) (by kernel_rfl) (by simp) ?_
            refine AllP.cons (o := ?o180034) ?ho180034 (fun K hK => ?_) AllP.nil
            case ho180034 => (simp only [List.getElem?_toArray, List.getElem?_cons_succ, List.getElem?_cons_zero]; exact rfl)
            go_simp
            go_at_call 50
            refine (hw3'.out _ _ _ (hHeld.2.1.out)).mono ?_
            rintro e w9 ⟨rfl, hb9⟩
            refine hK.out _ _ ?_ (fun hHeld => ?_)
            · exact ⟨Lib.hid (hHeld.1.out.below hb9), Lib.hid (hHeld.2.1.out.below hb9), Lib.hid (hHeld.2.2.1.out.keep hb9), cell_keep hHeld.2.2.2.1 hb9, cell_keep hHeld.2.2.2.2.1 hb9, cell_keep hHeld.2.2.2.2.2.1 hb9, Lib.hid (below_keep hHeld.2.2.2.2.2.2.1.out (Nat.le_refl _) hb9), (hHeld.2.2.1.out.keep hb9).str HXN.out⟩
            clear hK K
            try simp only [Act.put, List.setIfInBounds_toArray, List.set_cons_zero, List.set_cons_succ]
            refine wpP_ready (rs := [34]) (by kernel_rfl) (by simp) ?_
            refine AllP.cons (o := ?o180035) ?ho180035 (fun K hK => ?_) AllP.nil
            case ho180035 => (simp only [List.getElem?_toArray, List.getElem?_cons_succ, List.getElem?_cons_zero]; exact rfl)
            go_simp
            go_at_call 50
            refine (hv3.out _ (hHeld.1.out)).mono ?_
            rintro e w9 ⟨rfl, hb9⟩
            refine hK.out _ _ ?_ (fun hHeld => ?_)
            · exact ⟨Lib.hid (hHeld.1.out.below hb9), Lib.hid (hHeld.2.1.out.below hb9), Lib.hid (hHeld.2.2.1.out.keep hb9), cell_keep hHeld.2.2.2.1 hb9, cell_keep hHeld.2.2.2.2.1 hb9, cell_keep hHeld.2.2.2.2.2.1 hb9, Lib.hid (below_keep hHeld.2.2.2.2.2.2.1.out (Nat.le_refl _) hb9), (hHeld.2.2.1.out.keep hb9).str HXN.out⟩
            clear hK K
            try simp only [Act.put, List.setIfInBounds_toArray, List.set_cons_zero, List.set_cons_succ]
            refine wpP_take (i := 35) (oi := ?oi180036) (v := ?v180036) ?hi180036 (by kernel_rfl) (by kernel_rfl) (by kernel_rfl) (by kernel_rfl) ?hQ180036 ?hy180036 (by assumption) ?rest180036
            case hi180036 => (simp only [List.getElem?_toArray, List.getElem?_cons_succ, List.getElem?_cons_zero]; exact rfl)
            case hQ180036 => exact fun _ _ _ h => h
            case hy180036 => (refine Or.inl ⟨by kernel_rfl, ?_⟩; intro w hSw; (try dsimp only at hSw); go_simp; try (with_reducible rfl))
            try simp only [Act.put, List.setIfInBounds_toArray, List.set_cons_zero, List.set_cons_succ]
            refine wpP_take (i := 36) (oi := ?oi180037) (v := ?v180037) ?hi180037 (by kernel_rfl) (by kernel_rfl) (by kernel_rfl) (by kernel_rfl) ?hQ180037 ?hy180037 (by assumption) ?rest180037
            case hi180037 => (simp only [List.getElem?_toArray, List.getElem?_cons_succ, List.getElem?_cons_zero]; exact rfl)
            case hQ180037 => exact fun _ _ _ h => h
            case hy180037 => (refine Or.inl ⟨by kernel_rfl, ?_⟩; intro w hSw; (try dsimp only at hSw); go_simp; try (with_reducible rfl))
            try simp only [Act.put, List.setIfInBounds_toArray, List.set_cons_zero, List.set_cons_succ]
            refine wpP_take (i := 37) (oi := ?oi180038) (v := ?v180038) ?hi180038 (by kernel_rfl) (by kernel_rfl) (by kernel_rfl) (by kernel_rfl) ?hQ180038 ?hy180038 (by assumption) ?rest180038
            case hi180038 => (simp only [List.getElem?_toArray, List.getElem?_cons_succ, List.getElem?_cons_zero]; exact rfl)
            case hQ180038 => exact fun _ _ _ h => h
            case hy180038 => (refine Or.inl ⟨by kernel_rfl, ?_⟩; intro w hSw; (try dsimp only at hSw); go_simp; try (with_reducible rfl))
            try simp only [Act.put, List.setIfInBounds_toArray, List.set_cons_zero, List.set_cons_succ]
            refine wpP_done (by kernel_rfl) ?_ _
            all_goals
              go_wp2
              go_ret
              exact ⟨rfl, hHeld.2.2.2.2.2.2.1.out⟩
          · have hcq' : ¬ c9 = q := hcq
            rcases hcond with hT | ⟨hT, hlt⟩
            · go_upto_region 14 with (refine wpList_copy_str rfl _ _ 62 9 rfl 5 Try.underlying62 hsz g9 q (N - q) (c9 - q) rfl t rfl hqt2 HSP.out HFR.out ?_)
              obtain ⟨w10, hw10⟩ : ∃ w10, wr.setCells g9 q (List.map (fun x => Value.int IntKind.u8 ((x.toNat : Nat) : Int)) t) = w10 := ⟨_, rfl⟩
              rw [hw10] at HX9 HB9 ⊢
              have HX10 := HX9
              have HB10 := HB9
              clear hw10 HX9 HB9
              have H59 : Hid (Below w5.heap.size w5 w10) := Lib.hid (by rw [HQ5.out]; exact HB10.out)
              have hd0 : Below w10.heap.size w10 w10.drew := (Below.refl _ _).drew
              have r3 := (((HR3.out.below HB4.out).below HB5.out).below H59.out).below hd0
              have r4 := ((HR4.out.below HB5.out).below H59.out).below hd0
              have rx := HX10.out.keep hd0
              have rc0 := cell_keep (cell_keep (cell_keep (cell_keep HN.out.1 HB4.out) HB5.out) H59.out) hd0
              have rc1 := cell_keep (cell_keep (cell_keep (cell_keep HN.out.2.1 HB4.out) HB5.out) H59.out) hd0
              have rc2 := cell_keep (cell_keep (cell_keep (cell_keep HN.out.2.2 HB4.out) HB5.out) H59.out) hd0
              have rb := below_keep (below_keep (below_keep (below_keep HB3.out (Nat.le_refl _) HB4.out) (Nat.le_refl _) HB5.out) (Nat.le_refl _) H59.out) (Nat.le_refl _) hd0
              have rs := rx.str HXN.out
              have R3 := Lib.hid r3
              have R4 := Lib.hid r4
              have RX := Lib.hid rx
              have RB := Lib.hid rb
              clear r3 r4 rx rb hd0
              refine region_P (fun w' => Hid (RS w' A3 V) ∧ Hid (RS w' A4 W1) ∧ Hid (BX w' g9 c9 X) ∧ w'.cell? ⟨gn, 0, none⟩ = some (.int .i64 1) ∧ w'.cell? ⟨gn, 1, none⟩ = some (.int .i64 2) ∧ w'.cell? ⟨gn, 2, none⟩ = some (.int .i64 3) ∧ Hid (Below w.heap.size w w') ∧ (convert 62 9 (.slice (some ⟨g9, 0, none⟩) N c9)).run Try.prog w' = .ok (.string (mk X)) w') [] (by kernel_rfl) ?_ (fun hHeld => ?_)
              · exact ⟨R3, R4, RX, rc0, rc1, rc2, RB, rs⟩
              refine wpP_ready (rs := [0]) (by kernel_rfl) (by simp) ?_
              refine AllP.cons (o := ?o180039) ?ho180039 (fun K hK => ?_) AllP.nil
              case ho180039 => (simp only [List.getElem?_toArray, List.getElem?_cons_succ, List.getElem?_cons_zero]; exact rfl)
              go_simp
              go_at_call 17
              refine (fixed_ok _).mono ?_
              rintro e w9 ⟨rfl, hb9⟩
              refine hK.out _ _ ?_ (fun hHeld => ?_)
              · exact ⟨Lib.hid (hHeld.1.out.below hb9), Lib.hid (hHeld.2.1.out.below hb9), Lib.hid (hHeld.2.2.1.out.keep hb9), cell_keep hHeld.2.2.2.1 hb9, cell_keep hHeld.2.2.2.2.1 hb9, cell_keep hHeld.2.2.2.2.2.1 hb9, Lib.hid (below_keep hHeld.2.2.2.2.2.2.1.out (Nat.le_refl _) hb9), (hHeld.2.2.1.out.keep hb9).str HXN.out⟩
              clear hK K
              try simp only [Act.put, List.setIfInBounds_toArray, List.set_cons_zero, List.set_cons_succ]
              refine wpP_take (i := 1) (oi := ?oi180040) (v := ?v180040) ?hi180040 (by kernel_rfl) (by kernel_rfl) (by kernel_rfl) (by kernel_rfl) ?hQ180040 ?hy180040 (by assumption) ?rest180040
              case hi180040 => (simp only [List.getElem?_toArray, List.getElem?_cons_succ, List.getElem?_cons_zero]; exact rfl)
              case hQ180040 => exact fun _ _ _ h => h
              case hy180040 => (refine Or.inl ⟨by kernel_rfl, ?_⟩; intro w hSw; (try dsimp only at hSw); go_simp; try (with_reducible rfl))
              try simp only [Act.put, List.setIfInBounds_toArray, List.set_cons_zero, List.set_cons_succ]
              refine wpP_take (i := 2) (oi := ?oi180041) (v := ?v180041) ?hi180041 (by kernel_rfl) (by kernel_rfl) (by kernel_rfl) (by kernel_rfl) ?hQ180041 ?hy180041 (by assumption) ?rest180041
              case hi180041 => (simp only [List.getElem?_toArray, List.getElem?_cons_succ, List.getElem?_cons_zero]; exact rfl)
              case hQ180041 => exact fun _ _ _ h => h
              case hy180041 => (refine Or.inl ⟨by kernel_rfl, ?_⟩; intro w hSw; (try dsimp only at hSw); go_simp; try (with_reducible rfl))
              try simp only [Act.put, List.setIfInBounds_toArray, List.set_cons_zero, List.set_cons_succ]
              refine wpP_take (i := 3) (oi := ?oi180042) (v := ?v180042) ?hi180042 (by kernel_rfl) (by kernel_rfl) (by kernel_rfl) (by kernel_rfl) ?hQ180042 ?hy180042 (by assumption) ?rest180042
              case hi180042 => (simp only [List.getElem?_toArray, List.getElem?_cons_succ, List.getElem?_cons_zero]; exact rfl)
              case hQ180042 => exact fun _ _ _ h => h
              case hy180042 => (refine Or.inl ⟨by kernel_rfl, ?_⟩; intro w hSw; (try dsimp only at hSw); go_simp; try (with_reducible rfl))
              try simp only [Act.put, List.setIfInBounds_toArray, List.set_cons_zero, List.set_cons_succ]
              refine wpP_take (i := 4) (oi := ?oi180043) (v := ?v180043) ?hi180043 (by kernel_rfl) (by kernel_rfl) (by kernel_rfl) (by kernel_rfl) ?hQ180043 ?hy180043 (by assumption) ?rest180043
              case hi180043 => (simp only [List.getElem?_toArray, List.getElem?_cons_succ, List.getElem?_cons_zero]; exact rfl)
              case hQ180043 => exact fun _ _ _ h => h
              case hy180043 => (refine Or.inl ⟨by kernel_rfl, ?_⟩; intro w hSw; (try dsimp only at hSw); go_simp; try (with_reducible rfl))
              try simp only [Act.put, List.setIfInBounds_toArray, List.set_cons_zero, List.set_cons_succ]
              refine wpP_take (i := 5) (oi := ?oi180044) (v := ?v180044) ?hi180044 (by kernel_rfl) (by kernel_rfl) (by kernel_rfl) (by kernel_rfl) ?hQ180044 ?hy180044 (by assumption) ?rest180044
              case hi180044 => (simp only [List.getElem?_toArray, List.getElem?_cons_succ, List.getElem?_cons_zero]; exact rfl)
              case hQ180044 => exact fun _ _ _ h => h
              case hy180044 => (refine Or.inl ⟨by kernel_rfl, ?_⟩; intro w hSw; (try dsimp only at hSw); go_simp; try (with_reducible rfl))
              try simp only [Act.put, List.setIfInBounds_toArray, List.set_cons_zero, List.set_cons_succ]
              refine wpP_take (i := 7) (oi := ?oi180045) (v := ?v180045) ?hi180045 (by kernel_rfl) (by kernel_rfl) (by kernel_rfl) (by kernel_rfl) ?hQ180045 ?hy180045 (by assumption) ?rest180045
              case hi180045 => (simp only [List.getElem?_toArray, List.getElem?_cons_succ, List.getElem?_cons_zero]; exact rfl)
              case hQ180045 => exact fun _ _ _ h => h
              case hy180045 => (refine Or.inl ⟨by kernel_rfl, ?_⟩; intro w hSw; (try dsimp only at hSw); go_simp; try (with_reducible rfl))
              try simp only [Act.put, List.setIfInBounds_toArray, List.set_cons_zero, List.set_cons_succ]
              refine wpP_take (i := 8) (oi := ?oi180046) (v := ?v180046) ?hi180046 (by kernel_rfl) (by kernel_rfl) (by kernel_rfl) (by kernel_rfl) ?hQ180046 ?hy180046 (by assumption) ?rest180046
              case hi180046 => (simp only [List.getElem?_toArray, List.getElem?_cons_succ, List.getElem?_cons_zero]; exact rfl)
              case hQ180046 => exact fun _ _ _ h => h
              case hy180046 => (refine Or.inl ⟨by kernel_rfl, ?_⟩; intro w hSw; (try dsimp only at hSw); go_simp; try (with_reducible rfl))
              try simp only [Act.put, List.setIfInBounds_toArray, List.set_cons_zero, List.set_cons_succ]
              refine wpP_ready (rs := [6]) (by kernel_rfl) (by simp) ?_
              refine AllP.cons (o := ?o180047) ?ho180047 (fun K hK => ?_) AllP.nil
              case ho180047 => (simp only [List.getElem?_toArray, List.getElem?_cons_succ, List.getElem?_cons_zero]; exact rfl)
              go_simp
              go_at_call 50
              refine (hw2'.out _ _ _ (hHeld.2.1.out)).mono ?_
              rintro e w9 ⟨rfl, hb9⟩
              refine hK.out _ _ ?_ (fun hHeld => ?_)
              · exact ⟨Lib.hid (hHeld.1.out.below hb9), Lib.hid (hHeld.2.1.out.below hb9), Lib.hid (hHeld.2.2.1.out.keep hb9), cell_keep hHeld.2.2.2.1 hb9, cell_keep hHeld.2.2.2.2.1 hb9, cell_keep hHeld.2.2.2.2.2.1 hb9, Lib.hid (below_keep hHeld.2.2.2.2.2.2.1.out (Nat.le_refl _) hb9), (hHeld.2.2.1.out.keep hb9).str HXN.out⟩
              clear hK K
              try simp only [Act.put, List.setIfInBounds_toArray, List.set_cons_zero, List.set_cons_succ]
              refine wpP_take (i := 9) (oi := ?oi180048) (v := ?v180048) ?hi180048 (by kernel_rfl) (by kernel_rfl) (by kernel_rfl) (by kernel_rfl) ?hQ180048 ?hy180048 (by assumption) ?rest180048
              case hi180048 => (simp only [List.getElem?_toArray, List.getElem?_cons_succ, List.getElem?_cons_zero]; exact rfl)
              case hQ180048 => exact fun _ _ _ h => h
              case hy180048 => (refine Or.inl ⟨by kernel_rfl, ?_⟩; intro w hSw; (try dsimp only at hSw); go_simp; try (with_reducible rfl))
              try simp only [Act.put, List.setIfInBounds_toArray, List.set_cons_zero, List.set_cons_succ]
              refine wpP_take (i := 10) (oi := ?oi180049) (v := ?v180049) ?hi180049 (by kernel_rfl) (by kernel_rfl) (by kernel_rfl) (by kernel_rfl) ?hQ180049 ?hy180049 (by assumption) ?rest180049
              case hi180049 => (simp only [List.getElem?_toArray, List.getElem?_cons_succ, List.getElem?_cons_zero]; exact rfl)
              case hQ180049 => exact fun _ _ _ h => h
              case hy180049 => (refine Or.inl ⟨by kernel_rfl, ?_⟩; intro w hSw; (try dsimp only at hSw); go_simp; try (with_reducible rfl))
              try simp only [Act.put, List.setIfInBounds_toArray, List.set_cons_zero, List.set_cons_succ]
              refine wpP_take (i := 11) (oi := ?oi180050) (v := ?v180050) ?hi180050 (by kernel_rfl) (by kernel_rfl) (by kernel_rfl) (by kernel_rfl) ?hQ180050 ?hy180050 (by assumption) ?rest180050
              case hi180050 => (simp only [List.getElem?_toArray, List.getElem?_cons_succ, List.getElem?_cons_zero]; exact rfl)
              case hQ180050 => exact fun _ _ _ h => h
              case hy180050 => (refine Or.inl ⟨by kernel_rfl, ?_⟩; intro w hSw; (try dsimp only at hSw); go_simp; try (with_reducible rfl))
              try simp only [Act.put, List.setIfInBounds_toArray, List.set_cons_zero, List.set_cons_succ]
              refine wpP_take (i := 12) (oi := ?oi180051) (v := ?v180051) ?hi180051 (by kernel_rfl) (by kernel_rfl) (by kernel_rfl) (by kernel_rfl) ?hQ180051 ?hy180051 (by assumption) ?rest180051
              case hi180051 => (simp only [List.getElem?_toArray, List.getElem?_cons_succ, List.getElem?_cons_zero]; exact rfl)
              case hQ180051 => exact fun _ _ _ h => h
              case hy180051 => (refine Or.inl ⟨by kernel_rfl, ?_⟩; intro w hSw; (try dsimp only at hSw); go_simp; try (with_reducible rfl))
              try simp only [Act.put, List.setIfInBounds_toArray, List.set_cons_zero, List.set_cons_succ]
              refine wpP_take (i := 13) (oi := ?oi180052) (v := ?v180052) ?hi180052 (by kernel_rfl) (by kernel_rfl) (by kernel_rfl) (by kernel_rfl) ?hQ180052 ?hy180052 (by assumption) ?rest180052
              case hi180052 => (simp only [List.getElem?_toArray, List.getElem?_cons_succ, List.getElem?_cons_zero]; exact rfl)
              case hQ180052 => exact fun _ _ _ h => h
              case hy180052 => (refine Or.inl ⟨by kernel_rfl, ?_⟩; intro w hSw; (try dsimp only at hSw); go_simp; try (with_reducible rfl))
              try simp only [Act.put, List.setIfInBounds_toArray, List.set_cons_zero, List.set_cons_succ]
              refine wpP_take (i := 14) (oi := ?oi180053) (v := ?v180053) ?hi180053 (by kernel_rfl) (by kernel_rfl) (by kernel_rfl) (by kernel_rfl) ?hQ180053 ?hy180053 (by assumption) ?rest180053
              case hi180053 => (simp only [List.getElem?_toArray, List.getElem?_cons_succ, List.getElem?_cons_zero]; exact rfl)
              case hQ180053 => exact fun _ _ _ h => h
              case hy180053 => (refine Or.inl ⟨by kernel_rfl, ?_⟩; intro w hSw; (try dsimp only at hSw); go_simp; try (with_reducible rfl))
              try simp only [Act.put, List.setIfInBounds_toArray, List.set_cons_zero, List.set_cons_succ]
              refine wpP_take (i := 15) (oi := ?oi180054) (v := ?v180054) ?hi180054 (by kernel_rfl) (by kernel_rfl) (by kernel_rfl) (by kernel_rfl) ?hQ180054 ?hy180054 (by assumption) ?rest180054
              case hi180054 => (simp only [List.getElem?_toArray, List.getElem?_cons_succ, List.getElem?_cons_zero]; exact rfl)
              case hQ180054 => exact fun _ _ _ h => h
              case hy180054 => (refine Or.inl ⟨by kernel_rfl, ?_⟩; intro w hSw; (try dsimp only at hSw); go_simp; try (with_reducible rfl))
              try simp only [Act.put, List.setIfInBounds_toArray, List.set_cons_zero, List.set_cons_succ]
              refine wpP_take (i := 17) (oi := ?oi180055) (v := ?v180055) ?hi180055 (by kernel_rfl) (by kernel_rfl) (by kernel_rfl) (by kernel_rfl) ?hQ180055 ?hy180055 (by assumption) ?rest180055
              case hi180055 => (simp only [List.getElem?_toArray, List.getElem?_cons_succ, List.getElem?_cons_zero]; exact rfl)
              case hQ180055 => exact fun _ _ _ h => h
              case hy180055 => (refine Or.inl ⟨by kernel_rfl, ?_⟩; intro w hSw; (try dsimp only at hSw); go_simp; try (with_reducible rfl))
              try simp only [Act.put, List.setIfInBounds_toArray, List.set_cons_zero, List.set_cons_succ]
              refine wpP_take (i := 18) (oi := ?oi180056) (v := ?v180056) ?hi180056 (by kernel_rfl) (by kernel_rfl) (by kernel_rfl) (by kernel_rfl) ?hQ180056 ?hy180056 (by assumption) ?rest180056
              case hi180056 => (simp only [List.getElem?_toArray, List.getElem?_cons_succ, List.getElem?_cons_zero]; exact rfl)
              case hQ180056 => exact fun _ _ _ h => h
              case hy180056 => (refine Or.inl ⟨by kernel_rfl, ?_⟩; intro w hSw; (try dsimp only at hSw); go_simp; try (with_reducible rfl))
              try simp only [Act.put, List.setIfInBounds_toArray, List.set_cons_zero, List.set_cons_succ]
              refine wpP_take (i := 19) (oi := ?oi180057) (v := ?v180057) ?hi180057 (by kernel_rfl) (by kernel_rfl) (by kernel_rfl) (by kernel_rfl) ?hQ180057 ?hy180057 (by assumption) ?rest180057
              case hi180057 => (simp only [List.getElem?_toArray, List.getElem?_cons_succ, List.getElem?_cons_zero]; exact rfl)
              case hQ180057 => exact fun _ _ _ h => h
              case hy180057 => (refine Or.inl ⟨by kernel_rfl, ?_⟩; intro w hSw; (try dsimp only at hSw); go_simp; try (with_reducible rfl))
              try simp only [Act.put, List.setIfInBounds_toArray, List.set_cons_zero, List.set_cons_succ]
              refine wpP_take (i := 20) (oi := ?oi180058) (v := ?v180058) ?hi180058 (by kernel_rfl) (by kernel_rfl) (by kernel_rfl) (by kernel_rfl) ?hQ180058 ?hy180058 (by assumption) ?rest180058
              case hi180058 => (simp only [List.getElem?_toArray, List.getElem?_cons_succ, List.getElem?_cons_zero]; exact rfl)
              case hQ180058 => exact fun _ _ _ h => h
              case hy180058 => (refine Or.inl ⟨by kernel_rfl, ?_⟩; intro w hSw; (try dsimp only at hSw); go_simp; try (with_reducible rfl))
              try simp only [Act.put, List.setIfInBounds_toArray, List.set_cons_zero, List.set_cons_succ]
              refine wpP_ready (rs := [16]) (by kernel_rfl) (by simp) ?_
              refine AllP.cons (o := ?o180059) ?ho180059 (fun K hK => ?_) AllP.nil
              case ho180059 => (simp only [List.getElem?_toArray, List.getElem?_cons_succ, List.getElem?_cons_zero]; exact rfl)
              go_simp
              go_at_call 50
              refine (hw1'.out _ _ _ (hHeld.2.1.out)).mono ?_
              rintro e w9 ⟨rfl, hb9⟩
              refine hK.out _ _ ?_ (fun hHeld => ?_)
              · exact ⟨Lib.hid (hHeld.1.out.below hb9), Lib.hid (hHeld.2.1.out.below hb9), Lib.hid (hHeld.2.2.1.out.keep hb9), cell_keep hHeld.2.2.2.1 hb9, cell_keep hHeld.2.2.2.2.1 hb9, cell_keep hHeld.2.2.2.2.2.1 hb9, Lib.hid (below_keep hHeld.2.2.2.2.2.2.1.out (Nat.le_refl _) hb9), (hHeld.2.2.1.out.keep hb9).str HXN.out⟩
              clear hK K
              try simp only [Act.put, List.setIfInBounds_toArray, List.set_cons_zero, List.set_cons_succ]
              refine wpP_ready (rs := [21]) (by kernel_rfl) (by simp) ?_
              refine AllP.cons (o := ?o180060) ?ho180060 (fun K hK => ?_) AllP.nil
              case ho180060 => (simp only [List.getElem?_toArray, List.getElem?_cons_succ, List.getElem?_cons_zero]; exact rfl)
              go_simp
              go_at_call 50
              refine (hv1.out _ (hHeld.1.out)).mono ?_
              rintro e w9 ⟨rfl, hb9⟩
              refine hK.out _ _ ?_ (fun hHeld => ?_)
              · exact ⟨Lib.hid (hHeld.1.out.below hb9), Lib.hid (hHeld.2.1.out.below hb9), Lib.hid (hHeld.2.2.1.out.keep hb9), cell_keep hHeld.2.2.2.1 hb9, cell_keep hHeld.2.2.2.2.1 hb9, cell_keep hHeld.2.2.2.2.2.1 hb9, Lib.hid (below_keep hHeld.2.2.2.2.2.2.1.out (Nat.le_refl _) hb9), (hHeld.2.2.1.out.keep hb9).str HXN.out⟩
              clear hK K
              try simp only [Act.put, List.setIfInBounds_toArray, List.set_cons_zero, List.set_cons_succ]
              refine wpP_take (i := 22) (oi := ?oi180061) (v := ?v180061) ?hi180061 (by kernel_rfl) (by kernel_rfl) (by kernel_rfl) (by kernel_rfl) ?hQ180061 ?hy180061 (by assumption) ?rest180061
              case hi180061 => (simp only [List.getElem?_toArray, List.getElem?_cons_succ, List.getElem?_cons_zero]; exact rfl)
              case hQ180061 => exact fun _ _ _ h => h
              case hy180061 => (refine Or.inl ⟨by kernel_rfl, ?_⟩; intro w hSw; (try dsimp only at hSw); go_simp; try (with_reducible rfl))
              try simp only [Act.put, List.setIfInBounds_toArray, List.set_cons_zero, List.set_cons_succ]
              refine wpP_take (i := 23) (oi := ?oi180062) (v := ?v180062) ?hi180062 (by kernel_rfl) (by kernel_rfl) (by kernel_rfl) (by kernel_rfl) ?hQ180062 ?hy180062 (by assumption) ?rest180062
              case hi180062 => (simp only [List.getElem?_toArray, List.getElem?_cons_succ, List.getElem?_cons_zero]; exact rfl)
              case hQ180062 => exact fun _ _ _ h => h
              case hy180062 => (refine Or.inl ⟨by kernel_rfl, ?_⟩; intro w hSw; (try dsimp only at hSw); go_simp; try (with_reducible rfl))
              try simp only [Act.put, List.setIfInBounds_toArray, List.set_cons_zero, List.set_cons_succ]
              refine wpP_take (i := 24) (oi := ?oi180063) (v := ?v180063) ?hi180063 (by kernel_rfl) (by kernel_rfl) (by kernel_rfl) (by kernel_rfl) ?hQ180063 ?hy180063 (by assumption) ?rest180063
              case hi180063 => (simp only [List.getElem?_toArray, List.getElem?_cons_succ, List.getElem?_cons_zero]; exact rfl)
              case hQ180063 => exact fun _ _ _ h => h
              case hy180063 => (refine Or.inl ⟨by kernel_rfl, ?_⟩; intro w hSw; (try dsimp only at hSw); go_simp; try (with_reducible rfl))
              try simp only [Act.put, List.setIfInBounds_toArray, List.set_cons_zero, List.set_cons_succ]
              refine wpP_take (i := 25) (oi := ?oi180064) (v := ?v180064) ?hi180064 (by kernel_rfl) (by kernel_rfl) (by kernel_rfl) (by kernel_rfl) ?hQ180064 ?hy180064 (by assumption) ?rest180064
              case hi180064 => (simp only [List.getElem?_toArray, List.getElem?_cons_succ, List.getElem?_cons_zero]; exact rfl)
              case hQ180064 => exact fun _ _ _ h => h
              case hy180064 => (refine Or.inl ⟨by kernel_rfl, ?_⟩; intro w hSw; (try dsimp only at hSw); go_simp; try (with_reducible rfl))
              try simp only [Act.put, List.setIfInBounds_toArray, List.set_cons_zero, List.set_cons_succ]
              refine wpP_take (i := 26) (oi := ?oi180065) (v := ?v180065) ?hi180065 (by kernel_rfl) (by kernel_rfl) (by kernel_rfl) (by kernel_rfl) ?hQ180065 ?hy180065 (by assumption) ?rest180065
              case hi180065 => (simp only [List.getElem?_toArray, List.getElem?_cons_succ, List.getElem?_cons_zero]; exact rfl)
              case hQ180065 => exact fun _ _ _ h => h
              case hy180065 => (refine Or.inl ⟨by kernel_rfl, ?_⟩; intro w hSw; (try dsimp only at hSw); go_simp; try (with_reducible rfl))
              try simp only [Act.put, List.setIfInBounds_toArray, List.set_cons_zero, List.set_cons_succ]
              refine wpP_take (i := 27) (oi := ?oi180066) (v := ?v180066) ?hi180066 (by kernel_rfl) (by kernel_rfl) (by kernel_rfl) (by kernel_rfl) ?hQ180066 ?hy180066 (by assumption) ?rest180066
              case hi180066 => (simp only [List.getElem?_toArray, List.getElem?_cons_succ, List.getElem?_cons_zero]; exact rfl)
              case hQ180066 => exact fun _ _ _ h => h
              case hy180066 => (refine Or.inl ⟨by kernel_rfl, ?_⟩; intro w hSw; (try dsimp only at hSw); go_simp; try (with_reducible rfl))
              try simp only [Act.put, List.setIfInBounds_toArray, List.set_cons_zero, List.set_cons_succ]
              refine wpP_take (i := 28) (oi := ?oi180067) (v := ?v180067) ?hi180067 (by kernel_rfl) (by kernel_rfl) (by kernel_rfl) (by kernel_rfl) ?hQ180067 ?hy180067 (by assumption) ?rest180067
              case hi180067 => (simp only [List.getElem?_toArray, List.getElem?_cons_succ, List.getElem?_cons_zero]; exact rfl)
              case hQ180067 => exact fun _ _ _ h => h
              case hy180067 => (refine Or.inl ⟨by kernel_rfl, ?_⟩; intro w hSw; (try dsimp only at hSw); go_simp; try (with_reducible rfl))
              try simp only [Act.put, List.setIfInBounds_toArray, List.set_cons_zero, List.set_cons_succ]
              refine wpP_take (i := 30) (oi := ?oi180068) (v := ?v180068) ?hi180068 (by kernel_rfl) (by kernel_rfl) (by kernel_rfl) (by kernel_rfl) ?hQ180068 ?hy180068 (by assumption) ?rest180068
              case hi180068 => (simp only [List.getElem?_toArray, List.getElem?_cons_succ, List.getElem?_cons_zero]; exact rfl)
              case hQ180068 => exact fun _ _ _ h => h
              case hy180068 => (refine Or.inl ⟨by kernel_rfl, ?_⟩; intro w hSw; (try dsimp only at hSw); go_simp; try (with_reducible rfl))
              try simp only [Act.put, List.setIfInBounds_toArray, List.set_cons_zero, List.set_cons_succ]
              refine wpP_take (i := 31) (oi := ?oi180069) (v := ?v180069) ?hi180069 (by kernel_rfl) (by kernel_rfl) (by kernel_rfl) (by kernel_rfl) ?hQ180069 ?hy180069 (by assumption) ?rest180069
              case hi180069 => (simp only [List.getElem?_toArray, List.getElem?_cons_succ, List.getElem?_cons_zero]; exact rfl)
              case hQ180069 => exact fun _ _ _ h => h
              case hy180069 => (refine Or.inl ⟨by kernel_rfl, ?_⟩; intro w hSw; (try dsimp only at hSw); go_simp; try (with_reducible rfl))
              try simp only [Act.put, List.setIfInBounds_toArray, List.set_cons_zero, List.set_cons_succ]
              refine wpP_take (i := 32) (oi := ?oi180070) (v := ?v180070) ?hi180070 (by kernel_rfl) (by kernel_rfl) (by kernel_rfl) (by kernel_rfl) ?hQ180070 ?hy180070 (by assumption) ?rest180070
              case hi180070 => (simp only [List.getElem?_toArray, List.getElem?_cons_succ, List.getElem?_cons_zero]; exact rfl)
              case hQ180070 => exact fun _ _ _ h => h
              case hy180070 => (refine Or.inl ⟨by kernel_rfl, ?_⟩; intro w hSw; (try dsimp only at hSw); go_simp; try (with_reducible rfl))
              try simp only [Act.put, List.setIfInBounds_toArray, List.set_cons_zero, List.set_cons_succ]
              refine wpP_take (i := 33) (oi := ?oi180071) (v := ?v180071) ?hi180071 (by kernel_rfl) (by kernel_rfl) (by kernel_rfl) (by kernel_rfl) ?hQ180071 ?hy180071 (by assumption) ?rest180071
              case hi180071 => (simp only [List.getElem?_toArray, List.getElem?_cons_succ, List.getElem?_cons_zero]; exact rfl)
              case hQ180071 => exact fun _ _ _ h => h
              case hy180071 => (refine Or.inl ⟨by kernel_rfl, ?_⟩; intro w hSw; (try dsimp only at hSw); go_simp; try (with_reducible rfl))
              try simp only [Act.put, List.setIfInBounds_toArray, List.set_cons_zero, List.set_cons_succ]
              refine wpP_ready (rs := [29]) (by kernel_rfl) (by simp) ?_
              refine AllP.cons (o := ?o180072) ?ho180072 (fun K hK => ?_) AllP.nil
              case ho180072 => (simp only [List.getElem?_toArray, List.getElem?_cons_succ, List.getElem?_cons_zero]; exact rfl)
              go_simp
              go_at_call 50
              refine (hw3'.out _ _ _ (hHeld.2.1.out)).mono ?_
              rintro e w9 ⟨rfl, hb9⟩
              refine hK.out _ _ ?_ (fun hHeld => ?_)
              · exact ⟨Lib.hid (hHeld.1.out.below hb9), Lib.hid (hHeld.2.1.out.below hb9), Lib.hid (hHeld.2.2.1.out.keep hb9), cell_keep hHeld.2.2.2.1 hb9, cell_keep hHeld.2.2.2.2.1 hb9, cell_keep hHeld.2.2.2.2.2.1 hb9, Lib.hid (below_keep hHeld.2.2.2.2.2.2.1.out (Nat.le_refl _) hb9), (hHeld.2.2.1.out.keep hb9).str HXN.out⟩
              clear hK K
              try simp only [Act.put, List.setIfInBounds_toArray, List.set_cons_zero, List.set_cons_succ]
              refine wpP_ready (rs := [34]) (by kernel_rfl) (by simp) ?_
              refine AllP.cons (o := ?o180073) ?ho180073 (fun K hK => ?_) AllP.nil
              case ho180073 => (simp only [List.getElem?_toArray, List.getElem?_cons_succ, List.getElem?_cons_zero]; exact rfl)
              go_simp
              go_at_call 50
              refine (hv3.out _ (hHeld.1.out)).mono ?_
              rintro e w9 ⟨rfl, hb9⟩
              refine hK.out _ _ ?_ (fun hHeld => ?_)
              · exact ⟨Lib.hid (hHeld.1.out.below hb9), Lib.hid (hHeld.2.1.out.below hb9), Lib.hid (hHeld.2.2.1.out.keep hb9), cell_keep hHeld.2.2.2.1 hb9, cell_keep hHeld.2.2.2.2.1 hb9, cell_keep hHeld.2.2.2.2.2.1 hb9, Lib.hid (below_keep hHeld.2.2.2.2.2.2.1.out (Nat.le_refl _) hb9), (hHeld.2.2.1.out.keep hb9).str HXN.out⟩
              clear hK K
              try simp only [Act.put, List.setIfInBounds_toArray, List.set_cons_zero, List.set_cons_succ]
              refine wpP_take (i := 35) (oi := ?oi180074) (v := ?v180074) ?hi180074 (by kernel_rfl) (by kernel_rfl) (by kernel_rfl) (by kernel_rfl) ?hQ180074 ?hy180074 (by assumption) ?rest180074
              case hi180074 => (simp only [List.getElem?_toArray, List.getElem?_cons_succ, List.getElem?_cons_zero]; exact rfl)
              case hQ180074 => exact fun _ _ _ h => h
              case hy180074 => (refine Or.inl ⟨by kernel_rfl, ?_⟩; intro w hSw; (try dsimp only at hSw); go_simp; try (with_reducible rfl))
              try simp only [Act.put, List.setIfInBounds_toArray, List.set_cons_zero, List.set_cons_succ]
              refine wpP_take (i := 36) (oi := ?oi180075) (v := ?v180075) ?hi180075 (by kernel_rfl) (by kernel_rfl) (by kernel_rfl) (by kernel_rfl) ?hQ180075 ?hy180075 (by assumption) ?rest180075
              case hi180075 => (simp only [List.getElem?_toArray, List.getElem?_cons_succ, List.getElem?_cons_zero]; exact rfl)
              case hQ180075 => exact fun _ _ _ h => h
              case hy180075 => (refine Or.inl ⟨by kernel_rfl, ?_⟩; intro w hSw; (try dsimp only at hSw); go_simp; try (with_reducible rfl))
              try simp only [Act.put, List.setIfInBounds_toArray, List.set_cons_zero, List.set_cons_succ]
              refine wpP_take (i := 37) (oi := ?oi180076) (v := ?v180076) ?hi180076 (by kernel_rfl) (by kernel_rfl) (by kernel_rfl) (by kernel_rfl) ?hQ180076 ?hy180076 (by assumption) ?rest180076
              case hi180076 => (simp only [List.getElem?_toArray, List.getElem?_cons_succ, List.getElem?_cons_zero]; exact rfl)
              case hQ180076 => exact fun _ _ _ h => h
              case hy180076 => (refine Or.inl ⟨by kernel_rfl, ?_⟩; intro w hSw; (try dsimp only at hSw); go_simp; try (with_reducible rfl))
              try simp only [Act.put, List.setIfInBounds_toArray, List.set_cons_zero, List.set_cons_succ]
              refine wpP_done (by kernel_rfl) ?_ _
              all_goals
                go_wp2
                go_ret
                exact ⟨rfl, hHeld.2.2.2.2.2.2.1.out⟩
            · go_upto_region 14 with (refine wpList_copy_str rfl _ _ 62 9 rfl 5 Try.underlying62 hsz g9 q (N - q) (c9 - q) rfl t rfl hqt2 HSP.out HFR.out ?_)
              obtain ⟨w10, hw10⟩ : ∃ w10, wr.setCells g9 q (List.map (fun x => Value.int IntKind.u8 ((x.toNat : Nat) : Int)) t) = w10 := ⟨_, rfl⟩
              rw [hw10] at HX9 HB9 ⊢
              have HX10 := HX9
              have HB10 := HB9
              clear hw10 HX9 HB9
              have H59 : Hid (Below w5.heap.size w5 w10) := Lib.hid (by rw [HQ5.out]; exact HB10.out)
              have hd0 : Below w10.heap.size w10 w10.drew := (Below.refl _ _).drew
              have r3 := (((HR3.out.below HB4.out).below HB5.out).below H59.out).below hd0
              have r4 := ((HR4.out.below HB5.out).below H59.out).below hd0
              have rx := HX10.out.keep hd0
              have rc0 := cell_keep (cell_keep (cell_keep (cell_keep HN.out.1 HB4.out) HB5.out) H59.out) hd0
              have rc1 := cell_keep (cell_keep (cell_keep (cell_keep HN.out.2.1 HB4.out) HB5.out) H59.out) hd0
              have rc2 := cell_keep (cell_keep (cell_keep (cell_keep HN.out.2.2 HB4.out) HB5.out) H59.out) hd0
              have rb := below_keep (below_keep (below_keep (below_keep HB3.out (Nat.le_refl _) HB4.out) (Nat.le_refl _) HB5.out) (Nat.le_refl _) H59.out) (Nat.le_refl _) hd0
              have rs := rx.str HXN.out
              have R3 := Lib.hid r3
              have R4 := Lib.hid r4
              have RX := Lib.hid rx
              have RB := Lib.hid rb
              clear r3 r4 rx rb hd0
              refine region_P (fun w' => Hid (RS w' A3 V) ∧ Hid (RS w' A4 W1) ∧ Hid (BX w' g9 c9 X) ∧ w'.cell? ⟨gn, 0, none⟩ = some (.int .i64 1) ∧ w'.cell? ⟨gn, 1, none⟩ = some (.int .i64 2) ∧ w'.cell? ⟨gn, 2, none⟩ = some (.int .i64 3) ∧ Hid (Below w.heap.size w w') ∧ (convert 62 9 (.slice (some ⟨g9, 0, none⟩) N c9)).run Try.prog w' = .ok (.string (mk X)) w') [] (by kernel_rfl) ?_ (fun hHeld => ?_)
              · exact ⟨R3, R4, RX, rc0, rc1, rc2, RB, rs⟩
              refine wpP_ready (rs := [0]) (by kernel_rfl) (by simp) ?_
              refine AllP.cons (o := ?o180077) ?ho180077 (fun K hK => ?_) AllP.nil
              case ho180077 => (simp only [List.getElem?_toArray, List.getElem?_cons_succ, List.getElem?_cons_zero]; exact rfl)
              go_simp
              go_at_call 17
              refine (fixed_ok _).mono ?_
              rintro e w9 ⟨rfl, hb9⟩
              refine hK.out _ _ ?_ (fun hHeld => ?_)
              · exact ⟨Lib.hid (hHeld.1.out.below hb9), Lib.hid (hHeld.2.1.out.below hb9), Lib.hid (hHeld.2.2.1.out.keep hb9), cell_keep hHeld.2.2.2.1 hb9, cell_keep hHeld.2.2.2.2.1 hb9, cell_keep hHeld.2.2.2.2.2.1 hb9, Lib.hid (below_keep hHeld.2.2.2.2.2.2.1.out (Nat.le_refl _) hb9), (hHeld.2.2.1.out.keep hb9).str HXN.out⟩
              clear hK K
              try simp only [Act.put, List.setIfInBounds_toArray, List.set_cons_zero, List.set_cons_succ]
              refine wpP_take (i := 1) (oi := ?oi180078) (v := ?v180078) ?hi180078 (by kernel_rfl) (by kernel_rfl) (by kernel_rfl) (by kernel_rfl) ?hQ180078 ?hy180078 (by assumption) ?rest180078
              case hi180078 => (simp only [List.getElem?_toArray, List.getElem?_cons_succ, List.getElem?_cons_zero]; exact rfl)
              case hQ180078 => exact fun _ _ _ h => h
              case hy180078 => (refine Or.inl ⟨by kernel_rfl, ?_⟩; intro w hSw; (try dsimp only at hSw); go_simp; try (with_reducible rfl))
              try simp only [Act.put, List.setIfInBounds_toArray, List.set_cons_zero, List.set_cons_succ]
              refine wpP_take (i := 2) (oi := ?oi180079) (v := ?v180079) ?hi180079 (by kernel_rfl) (by kernel_rfl) (by kernel_rfl) (by kernel_rfl) ?hQ180079 ?hy180079 (by assumption) ?rest180079
              case hi180079 => (simp only [List.getElem?_toArray, List.getElem?_cons_succ, List.getElem?_cons_zero]; exact rfl)
              case hQ180079 => exact fun _ _ _ h => h
              case hy180079 => (refine Or.inl ⟨by kernel_rfl, ?_⟩; intro w hSw; (try dsimp only at hSw); go_simp; try (with_reducible rfl))
              try simp only [Act.put, List.setIfInBounds_toArray, List.set_cons_zero, List.set_cons_succ]
              refine wpP_take (i := 3) (oi := ?oi180080) (v := ?v180080) ?hi180080 (by kernel_rfl) (by kernel_rfl) (by kernel_rfl) (by kernel_rfl) ?hQ180080 ?hy180080 (by assumption) ?rest180080
              case hi180080 => (simp only [List.getElem?_toArray, List.getElem?_cons_succ, List.getElem?_cons_zero]; exact rfl)
              case hQ180080 => exact fun _ _ _ h => h
              case hy180080 => (refine Or.inl ⟨by kernel_rfl, ?_⟩; intro w hSw; (try dsimp only at hSw); go_simp; try (with_reducible rfl))
              try simp only [Act.put, List.setIfInBounds_toArray, List.set_cons_zero, List.set_cons_succ]
              refine wpP_take (i := 4) (oi := ?oi180081) (v := ?v180081) ?hi180081 (by kernel_rfl) (by kernel_rfl) (by kernel_rfl) (by kernel_rfl) ?hQ180081 ?hy180081 (by assumption) ?rest180081
              case hi180081 => (simp only [List.getElem?_toArray, List.getElem?_cons_succ, List.getElem?_cons_zero]; exact rfl)
              case hQ180081 => exact fun _ _ _ h => h
              case hy180081 => (refine Or.inl ⟨by kernel_rfl, ?_⟩; intro w hSw; (try dsimp only at hSw); go_simp; try (with_reducible rfl))
              try simp only [Act.put, List.setIfInBounds_toArray, List.set_cons_zero, List.set_cons_succ]
              refine wpP_take (i := 5) (oi := ?oi180082) (v := ?v180082) ?hi180082 (by kernel_rfl) (by kernel_rfl) (by kernel_rfl) (by kernel_rfl) ?hQ180082 ?hy180082 (by assumption) ?rest180082
              case hi180082 => (simp only [List.getElem?_toArray, List.getElem?_cons_succ, List.getElem?_cons_zero]; exact rfl)
              case hQ180082 => exact fun _ _ _ h => h
              case hy180082 => (refine Or.inl ⟨by kernel_rfl, ?_⟩; intro w hSw; (try dsimp only at hSw); go_simp; try (with_reducible rfl))
              try simp only [Act.put, List.setIfInBounds_toArray, List.set_cons_zero, List.set_cons_succ]
              refine wpP_take (i := 7) (oi := ?oi180083) (v := ?v180083) ?hi180083 (by kernel_rfl) (by kernel_rfl) (by kernel_rfl) (by kernel_rfl) ?hQ180083 ?hy180083 (by assumption) ?rest180083
              case hi180083 => (simp only [List.getElem?_toArray, List.getElem?_cons_succ, List.getElem?_cons_zero]; exact rfl)
              case hQ180083 => exact fun _ _ _ h => h
              case hy180083 => (refine Or.inl ⟨by kernel_rfl, ?_⟩; intro w hSw; (try dsimp only at hSw); go_simp; try (with_reducible rfl))
              try simp only [Act.put, List.setIfInBounds_toArray, List.set_cons_zero, List.set_cons_succ]
              refine wpP_take (i := 8) (oi := ?oi180084) (v := ?v180084) ?hi180084 (by kernel_rfl) (by kernel_rfl) (by kernel_rfl) (by kernel_rfl) ?hQ180084 ?hy180084 (by assumption) ?rest180084
              case hi180084 => (simp only [List.getElem?_toArray, List.getElem?_cons_succ, List.getElem?_cons_zero]; exact rfl)
              case hQ180084 => exact fun _ _ _ h => h
              case hy180084 => (refine Or.inl ⟨by kernel_rfl, ?_⟩; intro w hSw; (try dsimp only at hSw); go_simp; try (with_reducible rfl))
              try simp only [Act.put, List.setIfInBounds_toArray, List.set_cons_zero, List.set_cons_succ]
              refine wpP_ready (rs := [6]) (by kernel_rfl) (by simp) ?_
              refine AllP.cons (o := ?o180085) ?ho180085 (fun K hK => ?_) AllP.nil
              case ho180085 => (simp only [List.getElem?_toArray, List.getElem?_cons_succ, List.getElem?_cons_zero]; exact rfl)
              go_simp
              go_at_call 50
              refine (hw2'.out _ _ _ (hHeld.2.1.out)).mono ?_
              rintro e w9 ⟨rfl, hb9⟩
              refine hK.out _ _ ?_ (fun hHeld => ?_)
              · exact ⟨Lib.hid (hHeld.1.out.below hb9), Lib.hid (hHeld.2.1.out.below hb9), Lib.hid (hHeld.2.2.1.out.keep hb9), cell_keep hHeld.2.2.2.1 hb9, cell_keep hHeld.2.2.2.2.1 hb9, cell_keep hHeld.2.2.2.2.2.1 hb9, Lib.hid (below_keep hHeld.2.2.2.2.2.2.1.out (Nat.le_refl _) hb9), (hHeld.2.2.1.out.keep hb9).str HXN.out⟩
              clear hK K
              try simp only [Act.put, List.setIfInBounds_toArray, List.set_cons_zero, List.set_cons_succ]
              refine wpP_take (i := 9) (oi := ?oi180086) (v := ?v180086) ?hi180086 (by kernel_rfl) (by kernel_rfl) (by kernel_rfl) (by kernel_rfl) ?hQ180086 ?hy180086 (by assumption) ?rest180086
              case hi180086 => (simp only [List.getElem?_toArray, List.getElem?_cons_succ, List.getElem?_cons_zero]; exact rfl)
              case hQ180086 => exact fun _ _ _ h => h
              case hy180086 => (refine Or.inl ⟨by kernel_rfl, ?_⟩; intro w hSw; (try dsimp only at hSw); go_simp; try (with_reducible rfl))
              try simp only [Act.put, List.setIfInBounds_toArray, List.set_cons_zero, List.set_cons_succ]
              refine wpP_take (i := 10) (oi := ?oi180087) (v := ?v180087) ?hi180087 (by kernel_rfl) (by kernel_rfl) (by kernel_rfl) (by kernel_rfl) ?hQ180087 ?hy180087 (by assumption) ?rest180087
              case hi180087 => (simp only [List.getElem?_toArray, List.getElem?_cons_succ, List.getElem?_cons_zero]; exact rfl)
              case hQ180087 => exact fun _ _ _ h => h
              case hy180087 => (refine Or.inl ⟨by kernel_rfl, ?_⟩; intro w hSw; (try dsimp only at hSw); go_simp; try (with_reducible rfl))
              try simp only [Act.put, List.setIfInBounds_toArray, List.set_cons_zero, List.set_cons_succ]
              refine wpP_take (i := 11) (oi := ?oi180088) (v := ?v180088) ?hi180088 (by kernel_rfl) (by kernel_rfl) (by kernel_rfl) (by kernel_rfl) ?hQ180088 ?hy180088 (by assumption) ?rest180088
              case hi180088 => (simp only [List.getElem?_toArray, List.getElem?_cons_succ, List.getElem?_cons_zero]; exact rfl)
              case hQ180088 => exact fun _ _ _ h => h
              case hy180088 => (refine Or.inl ⟨by kernel_rfl, ?_⟩; intro w hSw; (try dsimp only at hSw); go_simp; try (with_reducible rfl))
              try simp only [Act.put, List.setIfInBounds_toArray, List.set_cons_zero, List.set_cons_succ]
              refine wpP_take (i := 12) (oi := ?oi180089) (v := ?v180089) ?hi180089 (by kernel_rfl) (by kernel_rfl) (by kernel_rfl) (by kernel_rfl) ?hQ180089 ?hy180089 (by assumption) ?rest180089
              case hi180089 => (simp only [List.getElem?_toArray, List.getElem?_cons_succ, List.getElem?_cons_zero]; exact rfl)
              case hQ180089 => exact fun _ _ _ h => h
              case hy180089 => (refine Or.inl ⟨by kernel_rfl, ?_⟩; intro w hSw; (try dsimp only at hSw); go_simp; try (with_reducible rfl))
              try simp only [Act.put, List.setIfInBounds_toArray, List.set_cons_zero, List.set_cons_succ]
              refine wpP_take (i := 13) (oi := ?oi180090) (v := ?v180090) ?hi180090 (by kernel_rfl) (by kernel_rfl) (by kernel_rfl) (by kernel_rfl) ?hQ180090 ?hy180090 (by assumption) ?rest180090
              case hi180090 => (simp only [List.getElem?_toArray, List.getElem?_cons_succ, List.getElem?_cons_zero]; exact rfl)
              case hQ180090 => exact fun _ _ _ h => h
              case hy180090 => (refine Or.inl ⟨by kernel_rfl, ?_⟩; intro w hSw; (try dsimp only at hSw); go_simp; try (with_reducible rfl))
              try simp only [Act.put, List.setIfInBounds_toArray, List.set_cons_zero, List.set_cons_succ]
              refine wpP_take (i := 14) (oi := ?oi180091) (v := ?v180091) ?hi180091 (by kernel_rfl) (by kernel_rfl) (by kernel_rfl) (by kernel_rfl) ?hQ180091 ?hy180091 (by assumption) ?rest180091
              case hi180091 => (simp only [List.getElem?_toArray, List.getElem?_cons_succ, List.getElem?_cons_zero]; exact rfl)
              case hQ180091 => exact fun _ _ _ h => h
              case hy180091 => (refine Or.inl ⟨by kernel_rfl, ?_⟩; intro w hSw; (try dsimp only at hSw); go_simp; try (with_reducible rfl))
              try simp only [Act.put, List.setIfInBounds_toArray, List.set_cons_zero, List.set_cons_succ]
              refine wpP_take (i := 15) (oi := ?oi180092) (v := ?v180092) ?hi180092 (by kernel_rfl) (by kernel_rfl) (by kernel_rfl) (by kernel_rfl) ?hQ180092 ?hy180092 (by assumption) ?rest180092
              case hi180092 => (simp only [List.getElem?_toArray, List.getElem?_cons_succ, List.getElem?_cons_zero]; exact rfl)
              case hQ180092 => exact fun _ _ _ h => h
              case hy180092 => (refine Or.inl ⟨by kernel_rfl, ?_⟩; intro w hSw; (try dsimp only at hSw); go_simp; try (with_reducible rfl))
              try simp only [Act.put, List.setIfInBounds_toArray, List.set_cons_zero, List.set_cons_succ]
              refine wpP_take (i := 17) (oi := ?oi180093) (v := ?v180093) ?hi180093 (by kernel_rfl) (by kernel_rfl) (by kernel_rfl) (by kernel_rfl) ?hQ180093 ?hy180093 (by assumption) ?rest180093
              case hi180093 => (simp only [List.getElem?_toArray, List.getElem?_cons_succ, List.getElem?_cons_zero]; exact rfl)
              case hQ180093 => exact fun _ _ _ h => h
              case hy180093 => (refine Or.inl ⟨by kernel_rfl, ?_⟩; intro w hSw; (try dsimp only at hSw); go_simp; try (with_reducible rfl))
              try simp only [Act.put, List.setIfInBounds_toArray, List.set_cons_zero, List.set_cons_succ]
              refine wpP_take (i := 18) (oi := ?oi180094) (v := ?v180094) ?hi180094 (by kernel_rfl) (by kernel_rfl) (by kernel_rfl) (by kernel_rfl) ?hQ180094 ?hy180094 (by assumption) ?rest180094
              case hi180094 => (simp only [List.getElem?_toArray, List.getElem?_cons_succ, List.getElem?_cons_zero]; exact rfl)
              case hQ180094 => exact fun _ _ _ h => h
              case hy180094 => (refine Or.inl ⟨by kernel_rfl, ?_⟩; intro w hSw; (try dsimp only at hSw); go_simp; try (with_reducible rfl))
              try simp only [Act.put, List.setIfInBounds_toArray, List.set_cons_zero, List.set_cons_succ]
              refine wpP_take (i := 19) (oi := ?oi180095) (v := ?v180095) ?hi180095 (by kernel_rfl) (by kernel_rfl) (by kernel_rfl) (by kernel_rfl) ?hQ180095 ?hy180095 (by assumption) ?rest180095
              case hi180095 => (simp only [List.getElem?_toArray, List.getElem?_cons_succ, List.getElem?_cons_zero]; exact rfl)
              case hQ180095 => exact fun _ _ _ h => h
              case hy180095 => (refine Or.inl ⟨by kernel_rfl, ?_⟩; intro w hSw; (try dsimp only at hSw); go_simp; try (with_reducible rfl))
              try simp only [Act.put, List.setIfInBounds_toArray, List.set_cons_zero, List.set_cons_succ]
              refine wpP_take (i := 20) (oi := ?oi180096) (v := ?v180096) ?hi180096 (by kernel_rfl) (by kernel_rfl) (by kernel_rfl) (by kernel_rfl) ?hQ180096 ?hy180096 (by assumption) ?rest180096
              case hi180096 => (simp only [List.getElem?_toArray, List.getElem?_cons_succ, List.getElem?_cons_zero]; exact rfl)
              case hQ180096 => exact fun _ _ _ h => h
              case hy180096 => (refine Or.inl ⟨by kernel_rfl, ?_⟩; intro w hSw; (try dsimp only at hSw); go_simp; try (with_reducible rfl))
              try simp only [Act.put, List.setIfInBounds_toArray, List.set_cons_zero, List.set_cons_succ]
              refine wpP_ready (rs := [16]) (by kernel_rfl) (by simp) ?_
              refine AllP.cons (o := ?o180097) ?ho180097 (fun K hK => ?_) AllP.nil
              case ho180097 => (simp only [List.getElem?_toArray, List.getElem?_cons_succ, List.getElem?_cons_zero]; exact rfl)
              go_simp
              go_at_call 50
              refine (hw1'.out _ _ _ (hHeld.2.1.out)).mono ?_
              rintro e w9 ⟨rfl, hb9⟩
              refine hK.out _ _ ?_ (fun hHeld => ?_)
              · exact ⟨Lib.hid (hHeld.1.out.below hb9), Lib.hid (hHeld.2.1.out.below hb9), Lib.hid (hHeld.2.2.1.out.keep hb9), cell_keep hHeld.2.2.2.1 hb9, cell_keep hHeld.2.2.2.2.1 hb9, cell_keep hHeld.2.2.2.2.2.1 hb9, Lib.hid (below_keep hHeld.2.2.2.2.2.2.1.out (Nat.le_refl _) hb9), (hHeld.2.2.1.out.keep hb9).str HXN.out⟩
              clear hK K
              try simp only [Act.put, List.setIfInBounds_toArray, List.set_cons_zero, List.set_cons_succ]
              refine wpP_ready (rs := [21]) (by kernel_rfl) (by simp) ?_
              refine AllP.cons (o := ?o180098) ?ho180098 (fun K hK => ?_) AllP.nil
              case ho180098 => (simp only [List.getElem?_toArray, List.getElem?_cons_succ, List.getElem?_cons_zero]; exact rfl)
              go_simp
              go_at_call 50
              refine (hv1.out _ (hHeld.1.out)).mono ?_
              rintro e w9 ⟨rfl, hb9⟩
              refine hK.out _ _ ?_ (fun hHeld => ?_)
              · exact ⟨Lib.hid (hHeld.1.out.below hb9), Lib.hid (hHeld.2.1.out.below hb9), Lib.hid (hHeld.2.2.1.out.keep hb9), cell_keep hHeld.2.2.2.1 hb9, cell_keep hHeld.2.2.2.2.1 hb9, cell_keep hHeld.2.2.2.2.2.1 hb9, Lib.hid (below_keep hHeld.2.2.2.2.2.2.1.out (Nat.le_refl _) hb9), (hHeld.2.2.1.out.keep hb9).str HXN.out⟩
              clear hK K
              try simp only [Act.put, List.setIfInBounds_toArray, List.set_cons_zero, List.set_cons_succ]
              refine wpP_take (i := 22) (oi := ?oi180099) (v := ?v180099) ?hi180099 (by kernel_rfl) (by kernel_rfl) (by kernel_rfl) (by kernel_rfl) ?hQ180099 ?hy180099 (by assumption) ?rest180099
              case hi180099 => (simp only [List.getElem?_toArray, List.getElem?_cons_succ, List.getElem?_cons_zero]; exact rfl)
              case hQ180099 => exact fun _ _ _ h => h
              case hy180099 => (refine Or.inl ⟨by kernel_rfl, ?_⟩; intro w hSw; (try dsimp only at hSw); go_simp; try (with_reducible rfl))
              try simp only [Act.put, List.setIfInBounds_toArray, List.set_cons_zero, List.set_cons_succ]
              refine wpP_take (i := 23) (oi := ?oi180100) (v := ?v180100) ?hi180100 (by kernel_rfl) (by kernel_rfl) (by kernel_rfl) (by kernel_rfl) ?hQ180100 ?hy180100 (by assumption) ?rest180100
              case hi180100 => (simp only [List.getElem?_toArray, List.getElem?_cons_succ, List.getElem?_cons_zero]; exact rfl)
              case hQ180100 => exact fun _ _ _ h => h
              case hy180100 => (refine Or.inl ⟨by kernel_rfl, ?_⟩; intro w hSw; (try dsimp only at hSw); go_simp; try (with_reducible rfl))
              try simp only [Act.put, List.setIfInBounds_toArray, List.set_cons_zero, List.set_cons_succ]
              refine wpP_take (i := 24) (oi := ?oi180101) (v := ?v180101) ?hi180101 (by kernel_rfl) (by kernel_rfl) (by kernel_rfl) (by kernel_rfl) ?hQ180101 ?hy180101 (by assumption) ?rest180101
              case hi180101 => (simp only [List.getElem?_toArray, List.getElem?_cons_succ, List.getElem?_cons_zero]; exact rfl)
              case hQ180101 => exact fun _ _ _ h => h
              case hy180101 => (refine Or.inl ⟨by kernel_rfl, ?_⟩; intro w hSw; (try dsimp only at hSw); go_simp; try (with_reducible rfl))
              try simp only [Act.put, List.setIfInBounds_toArray, List.set_cons_zero, List.set_cons_succ]
              refine wpP_take (i := 25) (oi := ?oi180102) (v := ?v180102) ?hi180102 (by kernel_rfl) (by kernel_rfl) (by kernel_rfl) (by kernel_rfl) ?hQ180102 ?hy180102 (by assumption) ?rest180102
              case hi180102 => (simp only [List.getElem?_toArray, List.getElem?_cons_succ, List.getElem?_cons_zero]; exact rfl)
              case hQ180102 => exact fun _ _ _ h => h
              case hy180102 => (refine Or.inl ⟨by kernel_rfl, ?_⟩; intro w hSw; (try dsimp only at hSw); go_simp; try (with_reducible rfl))
              try simp only [Act.put, List.setIfInBounds_toArray, List.set_cons_zero, List.set_cons_succ]
              refine wpP_take (i := 26) (oi := ?oi180103) (v := ?v180103) ?hi180103 (by kernel_rfl) (by kernel_rfl) (by kernel_rfl) (by kernel_rfl) ?hQ180103 ?hy180103 (by assumption) ?rest180103
              case hi180103 => (simp only [List.getElem?_toArray, List.getElem?_cons_succ, List.getElem?_cons_zero]; exact rfl)
              case hQ180103 => exact fun _ _ _ h => h
              case hy180103 => (refine Or.inl ⟨by kernel_rfl, ?_⟩; intro w hSw; (try dsimp only at hSw); go_simp; try (with_reducible rfl))
              try simp only [Act.put, List.setIfInBounds_toArray, List.set_cons_zero, List.set_cons_succ]
              refine wpP_take (i := 27) (oi := ?oi180104) (v := ?v180104) ?hi180104 (by kernel_rfl) (by kernel_rfl) (by kernel_rfl) (by kernel_rfl) ?hQ180104 ?hy180104 (by assumption) ?rest180104
              case hi180104 => (simp only [List.getElem?_toArray, List.getElem?_cons_succ, List.getElem?_cons_zero]; exact rfl)
              case hQ180104 => exact fun _ _ _ h => h
              case hy180104 => (refine Or.inl ⟨by kernel_rfl, ?_⟩; intro w hSw; (try dsimp only at hSw); go_simp; try (with_reducible rfl))
              try simp only [Act.put, List.setIfInBounds_toArray, List.set_cons_zero, List.set_cons_succ]
              refine wpP_take (i := 28) (oi := ?oi180105) (v := ?v180105) ?hi180105 (by kernel_rfl) (by kernel_rfl) (by kernel_rfl) (by kernel_rfl) ?hQ180105 ?hy180105 (by assumption) ?rest180105
              case hi180105 => (simp only [List.getElem?_toArray, List.getElem?_cons_succ, List.getElem?_cons_zero]; exact rfl)
              case hQ180105 => exact fun _ _ _ h => h
              case hy180105 => (refine Or.inl ⟨by kernel_rfl, ?_⟩; intro w hSw; (try dsimp only at hSw); go_simp; try (with_reducible rfl))
              try simp only [Act.put, List.setIfInBounds_toArray, List.set_cons_zero, List.set_cons_succ]
              refine wpP_take (i := 30) (oi := ?oi180106) (v := ?v180106) ?hi180106 (by kernel_rfl) (by kernel_rfl) (by kernel_rfl) (by kernel_rfl) ?hQ180106 ?hy180106 (by assumption) ?rest180106
              case hi180106 => (simp only [List.getElem?_toArray, List.getElem?_cons_succ, List.getElem?_cons_zero]; exact rfl)
              case hQ180106 => exact fun _ _ _ h => h
              case hy180106 => (refine Or.inl ⟨by kernel_rfl, ?_⟩; intro w hSw; (try dsimp only at hSw); go_simp; try (with_reducible rfl))
              try simp only [Act.put, List.setIfInBounds_toArray, List.set_cons_zero, List.set_cons_succ]
              refine wpP_take (i := 31) (oi := ?oi180107) (v := ?v180107) ?hi180107 (by kernel_rfl) (by kernel_rfl) (by kernel_rfl) (by kernel_rfl) ?hQ180107 ?hy180107 (by assumption) ?rest180107
              case hi180107 => (simp only [List.getElem?_toArray, List.getElem?_cons_succ, List.getElem?_cons_zero]; exact rfl)
              case hQ180107 => exact fun _ _ _ h => h
              case hy180107 => (refine Or.inl ⟨by kernel_rfl, ?_⟩; intro w hSw; (try dsimp only at hSw); go_simp; try (with_reducible rfl))
              try simp only [Act.put, List.setIfInBounds_toArray, List.set_cons_zero, List.set_cons_succ]
              refine wpP_take (i := 32) (oi := ?oi180108) (v := ?v180108) ?hi180108 (by kernel_rfl) (by kernel_rfl) (by kernel_rfl) (by kernel_rfl) ?hQ180108 ?hy180108 (by assumption) ?rest180108
              case hi180108 => (simp only [List.getElem?_toArray, List.getElem?_cons_succ, List.getElem?_cons_zero]; exact rfl)
              case hQ180108 => exact fun _ _ _ h => h
              case hy180108 => (refine Or.inl ⟨by kernel_rfl, ?_⟩; intro w hSw; (try dsimp only at hSw); go_simp; try (with_reducible rfl))
              try simp only [Act.put, List.setIfInBounds_toArray, List.set_cons_zero, List.set_cons_succ]
              refine wpP_take (i := 33) (oi := ?oi180109) (v := ?v180109) ?hi180109 (by kernel_rfl) (by kernel_rfl) (by kernel_rfl) (by kernel_rfl) ?hQ180109 ?hy180109 (by assumption) ?rest180109
              case hi180109 => (simp only [List.getElem?_toArray, List.getElem?_cons_succ, List.getElem?_cons_zero]; exact rfl)
              case hQ180109 => exact fun _ _ _ h => h
              case hy180109 => (refine Or.inl ⟨by kernel_rfl, ?_⟩; intro w hSw; (try dsimp only at hSw); go_simp; try (with_reducible rfl))
              try simp only [Act.put, List.setIfInBounds_toArray, List.set_cons_zero, List.set_cons_succ]
              refine wpP_ready (rs := [29]) (by kernel_rfl) (by simp) ?_
              refine AllP.cons (o := ?o180110) ?ho180110 (fun K hK => ?_) AllP.nil
              case ho180110 => (simp only [List.getElem?_toArray, List.getElem?_cons_succ, List.getElem?_cons_zero]; exact rfl)
              go_simp
              go_at_call 50
              refine (hw3'.out _ _ _ (hHeld.2.1.out)).mono ?_
              rintro e w9 ⟨rfl, hb9⟩
              refine hK.out _ _ ?_ (fun hHeld => ?_)
              · exact ⟨Lib.hid (hHeld.1.out.below hb9), Lib.hid (hHeld.2.1.out.below hb9), Lib.hid (hHeld.2.2.1.out.keep hb9), cell_keep hHeld.2.2.2.1 hb9, cell_keep hHeld.2.2.2.2.1 hb9, cell_keep hHeld.2.2.2.2.2.1 hb9, Lib.hid (below_keep hHeld.2.2.2.2.2.2.1.out (Nat.le_refl _) hb9), (hHeld.2.2.1.out.keep hb9).str HXN.out⟩
              clear hK K
              try simp only [Act.put, List.setIfInBounds_toArray, List.set_cons_zero, List.set_cons_succ]
              refine wpP_ready (rs := [34]) (by kernel_rfl) (by simp) ?_
              refine AllP.cons (o := ?o180111) ?ho180111 (fun K hK => ?_) AllP.nil
              case ho180111 => (simp only [List.getElem?_toArray, List.getElem?_cons_succ, List.getElem?_cons_zero]; exact rfl)
              go_simp
              go_at_call 50
              refine (hv3.out _ (hHeld.1.out)).mono ?_
              rintro e w9 ⟨rfl, hb9⟩
              refine hK.out _ _ ?_ (fun hHeld => ?_)
              · exact ⟨Lib.hid (hHeld.1.out.below hb9), Lib.hid (hHeld.2.1.out.below hb9), Lib.hid (hHeld.2.2.1.out.keep hb9), cell_keep hHeld.2.2.2.1 hb9, cell_keep hHeld.2.2.2.2.1 hb9, cell_keep hHeld.2.2.2.2.2.1 hb9, Lib.hid (below_keep hHeld.2.2.2.2.2.2.1.out (Nat.le_refl _) hb9), (hHeld.2.2.1.out.keep hb9).str HXN.out⟩
              clear hK K
              try simp only [Act.put, List.setIfInBounds_toArray, List.set_cons_zero, List.set_cons_succ]
              refine wpP_take (i := 35) (oi := ?oi180112) (v := ?v180112) ?hi180112 (by kernel_rfl) (by kernel_rfl) (by kernel_rfl) (by kernel_rfl) ?hQ180112 ?hy180112 (by assumption) ?rest180112
              case hi180112 => (simp only [List.getElem?_toArray, List.getElem?_cons_succ, List.getElem?_cons_zero]; exact rfl)
              case hQ180112 => exact fun _ _ _ h => h
              case hy180112 => (refine Or.inl ⟨by kernel_rfl, ?_⟩; intro w hSw; (try dsimp only at hSw); go_simp; try (with_reducible rfl))
              try simp only [Act.put, List.setIfInBounds_toArray, List.set_cons_zero, List.set_cons_succ]
              refine wpP_take (i := 36) (oi := ?oi180113) (v := ?v180113) ?hi180113 (by kernel_rfl) (by kernel_rfl) (by kernel_rfl) (by kernel_rfl) ?hQ180113 ?hy180113 (by assumption) ?rest180113
              case hi180113 => (simp only [List.getElem?_toArray, List.getElem?_cons_succ, List.getElem?_cons_zero]; exact rfl)
              case hQ180113 => exact fun _ _ _ h => h
              case hy180113 => (refine Or.inl ⟨by kernel_rfl, ?_⟩; intro w hSw; (try dsimp only at hSw); go_simp; try (with_reducible rfl))
              try simp only [Act.put, List.setIfInBounds_toArray, List.set_cons_zero, List.set_cons_succ]
              refine wpP_take (i := 37) (oi := ?oi180114) (v := ?v180114) ?hi180114 (by kernel_rfl) (by kernel_rfl) (by kernel_rfl) (by kernel_rfl) ?hQ180114 ?hy180114 (by assumption) ?rest180114
              case hi180114 => (simp only [List.getElem?_toArray, List.getElem?_cons_succ, List.getElem?_cons_zero]; exact rfl)
              case hQ180114 => exact fun _ _ _ h => h
              case hy180114 => (refine Or.inl ⟨by kernel_rfl, ?_⟩; intro w hSw; (try dsimp only at hSw); go_simp; try (with_reducible rfl))
              try simp only [Act.put, List.setIfInBounds_toArray, List.set_cons_zero, List.set_cons_succ]
              refine wpP_done (by kernel_rfl) ?_ _
              all_goals
                go_wp2
                go_ret
                exact ⟨rfl, hHeld.2.2.2.2.2.2.1.out⟩
    · obtain ⟨hX, hcase⟩ := writes_no hLV.out (n := 2) (a := o) s2 hR he
      subst hX
      clear hR hLV s1 s2 s3
      rcases hcase with rfl | ⟨rfl, h89⟩
      · go_wp2_with (first
          | (go_at_call 35; refine (hk.out _ HR3.out).mono ?_; rintro e w4 ⟨A4, c4, rfl, hr4, hb4⟩; have HB4 := Lib.hid hb4; clear hr4 hb4 hk)
          | (go_at_call 17; refine (fixed_ok _).mono ?_; rintro e w8 ⟨rfl, hb8⟩; have HB8 := Lib.hid hb8; clear hb8))
        go_ret
        exact ⟨rfl, below_keep (below_keep HB3.out (Nat.le_refl _) HB4.out) (Nat.le_refl _) HB8.out⟩
      · have h89i : (8960 : Int) < (o : Int) + (t.length : Int) := by omega
        go_wp2_with (first
          | (go_at_call 35; refine (hk.out _ HR3.out).mono ?_; rintro e w4 ⟨A4, c4, rfl, hr4, hb4⟩; have HB4 := Lib.hid hb4; clear hr4 hb4 hk)
          | (go_at_call 17; refine (fixed_ok _).mono ?_; rintro e w8 ⟨rfl, hb8⟩; have HB8 := Lib.hid hb8; clear hb8))
        go_ret
        exact ⟨rfl, below_keep (below_keep HB3.out (Nat.le_refl _) HB4.out) (Nat.le_refl _) HB8.out⟩
  · go_ret
    exact ⟨rfl, below_keep HB2.out (Nat.le_refl _) HB8.out⟩
end Go.Proofs.Ytacdohlhalnioaa
end

/- The law ExtentReads, of any place. -/
section
set_option linter.unusedSimpArgs false
set_option linter.unusedVariables false
set_option maxRecDepth 20000
namespace Go.Proofs.Ytacdohlhalnioaa
open Go.RowKit

theorem reads_i (Al : Option Addr) (cl : Nat) (l : List Deed) (p : Int) (t : Blk) (w : World) (hl : RA w Al l) (hd : ∀ a ∈ l, okD a) (h0 : 0 ≤ p ∧ p ≤ 65535) (htl : (t.length : Int) ≤ 140737488351232) :
    Calls Try.prog 14 #[.slice Al l.length cl, .int .u16 p, .string (mk t)] w fun e w' => e = .returned (.bool true) ∧ Below w.heap.size w w' := by
  obtain ⟨q, rfl⟩ : ∃ q : Nat, p = (q : Int) := ⟨p.toNat, by omega⟩
  exact reads_ok Al cl l q t w hl hd (by omega) htl
end Go.Proofs.Ytacdohlhalnioaa
end
