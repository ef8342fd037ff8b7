/- Joined: XHI XHM XHL. -/
import Derived.Test.YtacdohlhalnioaaJE
import Derived.Deep.Cut
import Derived.Deep.DeepCutAuto
import Derived.Test.YtacdohlhalnioaaJG
import Derived.Test.YtacdohlhalnioaaJD
import Derived.Test.YtacdohlhalnioaaJ6
/- Contract: a file is cut (the document's). -/
section
set_option linter.unusedVariables false
set_option linter.unusedSimpArgs false
set_option maxRecDepth 20000
namespace Go.Proofs.Ytacdohlhalnioaa
open Go.RowKit
attribute [local go_sem] Oper.semAt_some

theorem xcells_setI (b : Nat) (x : Ino) : (#[.int .i64 ((x.kind : Nat) : Int), .int .i64 ((x.links : Nat) : Int), .int .i64 ((x.owner : Nat) : Int), .int .i64 ((x.size : Nat) : Int), .int .i64 ((x.d0 : Nat) : Int), .int .i64 ((x.d1 : Nat) : Int), .int .i64 ((x.d2 : Nat) : Int), .int .i64 ((x.d3 : Nat) : Int), .int .i64 ((x.d4 : Nat) : Int), .int .i64 ((x.d5 : Nat) : Int), .int .i64 ((x.ind : Nat) : Int), .int .i64 ((x.ext : Nat) : Int)] : Array Value).setIfInBounds 10 (.int .i64 b) = #[.int .i64 (((x.setI b).kind : Nat) : Int), .int .i64 (((x.setI b).links : Nat) : Int), .int .i64 (((x.setI b).owner : Nat) : Int), .int .i64 (((x.setI b).size : Nat) : Int), .int .i64 (((x.setI b).d0 : Nat) : Int), .int .i64 (((x.setI b).d1 : Nat) : Int), .int .i64 (((x.setI b).d2 : Nat) : Int), .int .i64 (((x.setI b).d3 : Nat) : Int), .int .i64 (((x.setI b).d4 : Nat) : Int), .int .i64 (((x.setI b).d5 : Nat) : Int), .int .i64 (((x.setI b).ind : Nat) : Int), .int .i64 (((x.setI b).ext : Nat) : Int)] := rfl
theorem box_ind {w : World} {q : Nat} {x : Ino} (h : w.heap[q]? = some (.cells #[.int .i64 ((x.kind : Nat) : Int), .int .i64 ((x.links : Nat) : Int), .int .i64 ((x.owner : Nat) : Int), .int .i64 ((x.size : Nat) : Int), .int .i64 ((x.d0 : Nat) : Int), .int .i64 ((x.d1 : Nat) : Int), .int .i64 ((x.d2 : Nat) : Int), .int .i64 ((x.d3 : Nat) : Int), .int .i64 ((x.d4 : Nat) : Int), .int .i64 ((x.d5 : Nat) : Int), .int .i64 ((x.ind : Nat) : Int), .int .i64 ((x.ext : Nat) : Int)] 45 (0, 0))) : (w.setCell ⟨q, 10, none⟩ (.int .i64 0)).heap[q]? = some (.cells #[.int .i64 (((x.setI 0).kind : Nat) : Int), .int .i64 (((x.setI 0).links : Nat) : Int), .int .i64 (((x.setI 0).owner : Nat) : Int), .int .i64 (((x.setI 0).size : Nat) : Int), .int .i64 (((x.setI 0).d0 : Nat) : Int), .int .i64 (((x.setI 0).d1 : Nat) : Int), .int .i64 (((x.setI 0).d2 : Nat) : Int), .int .i64 (((x.setI 0).d3 : Nat) : Int), .int .i64 (((x.setI 0).d4 : Nat) : Int), .int .i64 (((x.setI 0).d5 : Nat) : Int), .int .i64 (((x.setI 0).ind : Nat) : Int), .int .i64 (((x.setI 0).ext : Nat) : Int)] 45 (0, 0)) := blk_set h 10 (.int .i64 0)
theorem xcells_setS (b : Nat) (x : Ino) : (#[.int .i64 ((x.kind : Nat) : Int), .int .i64 ((x.links : Nat) : Int), .int .i64 ((x.owner : Nat) : Int), .int .i64 ((x.size : Nat) : Int), .int .i64 ((x.d0 : Nat) : Int), .int .i64 ((x.d1 : Nat) : Int), .int .i64 ((x.d2 : Nat) : Int), .int .i64 ((x.d3 : Nat) : Int), .int .i64 ((x.d4 : Nat) : Int), .int .i64 ((x.d5 : Nat) : Int), .int .i64 ((x.ind : Nat) : Int), .int .i64 ((x.ext : Nat) : Int)] : Array Value).setIfInBounds 3 (.int .i64 b) = #[.int .i64 (((x.setS b).kind : Nat) : Int), .int .i64 (((x.setS b).links : Nat) : Int), .int .i64 (((x.setS b).owner : Nat) : Int), .int .i64 (((x.setS b).size : Nat) : Int), .int .i64 (((x.setS b).d0 : Nat) : Int), .int .i64 (((x.setS b).d1 : Nat) : Int), .int .i64 (((x.setS b).d2 : Nat) : Int), .int .i64 (((x.setS b).d3 : Nat) : Int), .int .i64 (((x.setS b).d4 : Nat) : Int), .int .i64 (((x.setS b).d5 : Nat) : Int), .int .i64 (((x.setS b).ind : Nat) : Int), .int .i64 (((x.setS b).ext : Nat) : Int)] := rfl
set_option maxHeartbeats 1000000 in
theorem rcut_no (A : Option Addr) (c : Nat) (v : Vol) (n s : Int) (w : World) (hr : RS w A v) (h : getE v n ≠ 0) :
    Calls Try.prog 39 #[.slice A v.length c, .int .i64 n, .int .i64 s] w (Ans w (getE v n, [])) := by
  have HP := fun w hr => rget18_no A c v n w hr h
  generalize getE v n = er at *
  have hbn : (er != 0) = true := by simpa using h
  have hb : (er == 0) = false := by simpa using h
  have HPl := Lib.hid HP
  have HRR := Lib.hid hr
  clear HP hr
  go_enter Try.func39, Try.ntmps39
  go_wp2_with (go_at_call 55; refine (HPl.out _ HRR.out).mono ?_; rintro e w1 ⟨rfl, hb1⟩; have B1 := Lib.hid hb1; clear hb1)
  go_ret2
  refine ⟨_, _, rfl, rs_any _ _, ?_⟩
  exact (B1.out.alloc B1.out.size _).alloc (by have := B1.out.size; simp; omega) _
set_option maxHeartbeats 1000000 in
theorem rcut_bad (A : Option Addr) (c : Nat) (v : Vol) (n : Nat) (s : Int) (w : World) (hr : RS w A v) (hv : okV v = true) (h1 : 1 ≤ n) (h2 : n ≤ inosV v) (hs : s < 0 ∨ 8960 < s) :
    Calls Try.prog 39 #[.slice A v.length c, .int .i64 n, .int .i64 s] w (Ans w ((if s < 0 then 1 else 6), [])) := by
  have HPl := Lib.hid (fun w hr => rget18_ok A c v n w hr hv h1 h2)
  have HRR := Lib.hid hr
  generalize inoV v n = x at *
  clear hr hv
  by_cases h0 : s < 0
  · rw [if_pos h0]
    go_enter Try.func39, Try.ntmps39
    go_wp2_with (go_at_call 55; refine (HPl.out _ HRR.out).mono ?_; rintro e w1 ⟨rfl, hb1⟩; have B1 := Lib.hid hb1; clear hb1)
    go_ret2
    refine ⟨_, _, rfl, rs_any _ _, ?_⟩
    exact (B1.out.alloc B1.out.size _).alloc (by have := B1.out.size; simp; omega) _
  · rw [if_neg h0]
    have h8 : 8960 < s := by omega
    go_enter Try.func39, Try.ntmps39
    go_wp2_with (go_at_call 55; refine (HPl.out _ HRR.out).mono ?_; rintro e w1 ⟨rfl, hb1⟩; have B1 := Lib.hid hb1; clear hb1)
    go_ret2
    refine ⟨_, _, rfl, rs_any _ _, ?_⟩
    exact (B1.out.alloc B1.out.size _).alloc (by have := B1.out.size; simp; omega) _
set_option maxHeartbeats 32000000 in
theorem rcut_ok (A : Option Addr) (c : Nat) (v : Vol) (n s : Nat) (w : World) (hr : RS w A v) (hv : okV v = true) (h1 : 1 ≤ n) (h2 : n ≤ inosV v) (hs : s ≤ 8960) :
    Calls Try.prog 39 #[.slice A v.length c, .int .i64 n, .int .i64 s] w (Ans w (0, cutV v n s)) := by
  have HP := Lib.hid (fun w hr => rget18_ok A c v n w hr hv h1 h2)
  have HR := Lib.hid hr
  have hxf := inoV_fit v n
  have hL := (okV_iff.1 hv).hi
  have hlo := (okV_iff.1 hv).lo
  obtain ⟨x, hX⟩ : ∃ x, inoV v n = x := ⟨_, rfl⟩
  rw [hX] at HP hxf
  obtain ⟨⟨V3, X3⟩, hS3⟩ : ∃ S3, (if s < sizeX x then shortV v x s else (v, x)) = S3 := ⟨_, rfl⟩
  have hk3 : Kept v V3 ∧ fitI X3 := by
    split at hS3
    · have := kept_shortV s hv hxf
      rw [hS3] at this
      exact ⟨this.1, this.2.1⟩
    · cases hS3
      exact ⟨.rfl hv, hxf⟩
  have hcv : cutV v n s = putV V3 n (X3.setS s) := by
    rw [cutV, hX]
    split at hS3
    · rename_i h; rw [if_pos h, hS3]
    · rename_i h; rw [if_neg h]; cases hS3; rfl
  rw [hcv]
  have HK3 := Lib.hid hk3
  have HS3 := Lib.hid hS3
  have HV := Lib.hid hv
  have HXF := Lib.hid hxf
  obtain ⟨z, hz⟩ : ∃ z, sizeX x = z := ⟨_, rfl⟩
  have HZ := Lib.hid hz
  clear hr hv hxf hX hk3 hcv hS3 hz
  have h0 : ¬ (s : Int) < 0 := by omega
  have h89 : ¬ (8960 : Int) < (s : Int) := by omega
  go_enter Try.func39, Try.ntmps39
  go_upto_if 36 with (first
    | (go_at_call 55; refine (HP.out _ HR.out).mono ?_; rintro e w1 ⟨rfl, hb1⟩; have HB1 := Lib.hid (hb1.alloc hb1.size (.cells #[.int .i64 ((x.kind : Nat) : Int), .int .i64 ((x.links : Nat) : Int), .int .i64 ((x.owner : Nat) : Int), .int .i64 ((x.size : Nat) : Int), .int .i64 ((x.d0 : Nat) : Int), .int .i64 ((x.d1 : Nat) : Int), .int .i64 ((x.d2 : Nat) : Int), .int .i64 ((x.d3 : Nat) : Int), .int .i64 ((x.d4 : Nat) : Int), .int .i64 ((x.d5 : Nat) : Int), .int .i64 ((x.ind : Nat) : Int), .int .i64 ((x.ext : Nat) : Int)] 45)); have HX1 := Lib.hid (blk_new w1 (.cells #[.int .i64 ((x.kind : Nat) : Int), .int .i64 ((x.links : Nat) : Int), .int .i64 ((x.owner : Nat) : Int), .int .i64 ((x.size : Nat) : Int), .int .i64 ((x.d0 : Nat) : Int), .int .i64 ((x.d1 : Nat) : Int), .int .i64 ((x.d2 : Nat) : Int), .int .i64 ((x.d3 : Nat) : Int), .int .i64 ((x.d4 : Nat) : Int), .int .i64 ((x.d5 : Nat) : Int), .int .i64 ((x.ind : Nat) : Int), .int .i64 ((x.ext : Nat) : Int)] 45)); have s1 := hb1.size; clear hb1)
    | (go_at_call 58; refine (rsize_ok x _).mono ?_; rw [show sizeX x = z from HZ.out]; rintro e w2 ⟨rfl, hb2⟩; have HB2 := Lib.hid (below_keep HB1.out (Nat.le_refl _) hb2); have HX2 := Lib.hid (blk_keep HX1.out hb2); clear hb2))
  obtain ⟨q, hq⟩ : ∃ q, w1.heap.size = q := ⟨_, rfl⟩
  rw [hq] at HX2 s1 ⊢
  clear hq HX1 HB1
  have HR2 : Hid (RS w2 A v ∧ ∀ b o, A = some ⟨b, o, none⟩ → b ≠ q) := Lib.hid ⟨HR.out.below HB2.out, fun b o e => by
    obtain ⟨b', o', e', hb', _⟩ := HR.out.open_ (by omega)
    rw [e] at e'
    cases e'
    omega⟩
  go_cut [0] (fun s0 wx => ∃ A3 c3, s0 = .slice A3 v.length c3 ∧ Hid (RS wx A3 V3 ∧ ∀ b o, A3 = some ⟨b, o, none⟩ → b ≠ q) ∧ Hid (wx.heap[q]? = some (.cells #[.int .i64 ((X3.kind : Nat) : Int), .int .i64 ((X3.links : Nat) : Int), .int .i64 ((X3.owner : Nat) : Int), .int .i64 ((X3.size : Nat) : Int), .int .i64 ((X3.d0 : Nat) : Int), .int .i64 ((X3.d1 : Nat) : Int), .int .i64 ((X3.d2 : Nat) : Int), .int .i64 ((X3.d3 : Nat) : Int), .int .i64 ((X3.d4 : Nat) : Int), .int .i64 ((X3.d5 : Nat) : Int), .int .i64 ((X3.ind : Nat) : Int), .int .i64 ((X3.ext : Nat) : Int)] 45 (0, 0))) ∧ Hid (Below w.heap.size w wx))
  case rest =>
    obtain ⟨A3, c3, rfl, hf, hx, hB⟩ := hcut
    have hlv := HK3.out.1.len
    have hpt := Lib.hid (fun w hr => rput18_ok A3 c3 V3 n (X3.setS s) w hr HK3.out.1.ok h1 (by rw [HK3.out.1.ino]; exact h2) (setS_fit HK3.out.2 (by omega)))
    rw [hlv] at hpt
    obtain ⟨x0, x1, x2, x3, x4, x5, x6, x7, x8, x9, x10, x11⟩ := cells12 hx.out
    have hfr := free_of hx.out 3
    have hs3 := blk_set hx.out 3 (.int .i64 s)
    rw [xcells_setS] at hs3
    obtain ⟨y0, y1, y2, y3, y4, y5, y6, y7, y8, y9, y10, y11⟩ := cells12 hs3
    have sq := hB.out.size
    have HRF := Lib.hid (rs_other hf.out.1 (fun D o hne hD => blk_set_other (i := 3) (u := .int .i64 s) hD hne) hf.out.2)
    clear hs3
    go_wp2_with (go_at_call 82; refine (hpt.out _ HRF.out).mono ?_; rintro e w4 ⟨g4, c4, rfl, hg4, hgs4, hb4⟩; have HG4 := Lib.hid hg4; have HB4 := Lib.hid hb4; clear hg4 hb4)
    go_ret2
    have hpl : (putV V3 n (X3.setS s)).length = v.length := by rw [putV, List.length_set, hlv]
    refine ⟨some ⟨g4, 0, none⟩, c4, ?_, HG4.out.rs (by rw [hpl]; omega), below_keep (below_set hB.out s1) (by omega) HB4.out⟩
    show _ = Ending.returned (.tuple #[.slice (some ⟨g4, 0, none⟩) (putV V3 n (X3.setS s)).length c4, .int .i64 0])
    rw [hpl]
    rfl
  case first =>
    by_cases hlt : s < z
    case neg =>
      have hlti : ¬ (s : Int) < (z : Int) := by omega
      have hS := HS3.out
      rw [HZ.out, if_neg hlt] at hS
      cases hS
      go_wp2
      go_meet
      case rel => exact ⟨A, c, rfl, HR2, HX2, HB2⟩
    have hlti : (s : Int) < (z : Int) := by omega
    have hs70 : s < 8960 := by
      have := HZ.out
      simp only [sizeX] at this
      omega
    have hSV : shortV v x s = (V3, X3) := by
      have := HS3.out
      rw [HZ.out, if_pos hlt] at this
      exact this
    obtain ⟨K0, hK0⟩ : ∃ K0, needS s = K0 := ⟨_, rfl⟩
    have hK70 : K0 ≤ 70 := by simp only [needS] at hK0; omega
    rw [shortV, hK0] at hSV
    obtain ⟨D, hD⟩ : ∃ D, dropTo (70 - K0) v x K0 = D := ⟨_, rfl⟩
    rw [hD] at hSV
    have hkD := kept_dropTo (70 - K0) K0 HV.out HXF.out
    rw [hD] at hkD
    obtain ⟨⟨vF, xF⟩, hF⟩ : ∃ FF, farV D.1 D.2 s = FF := ⟨_, rfl⟩
    rw [hF] at hSV
    have hkF := kept_farV s hkD.1.ok hkD.2.1
    rw [hF] at hkF
    obtain ⟨hV3, rfl⟩ : restV vF xF s = V3 ∧ xF = X3 := by
      simp only [Prod.mk.injEq] at hSV
      exact hSV
    have HDD := Lib.hid hD
    have HKD := Lib.hid hkD
    have HFF := Lib.hid hF
    have HKF := Lib.hid hkF
    have HV3 := Lib.hid hV3
    have HK0 := Lib.hid hK0
    clear hK0 hD hkD hF hkF hV3 hSV
    go_wp2_with (go_at_call 57; refine (rblocks1_ok s _ hs).mono ?_; rw [HK0.out]; rintro e w3 ⟨rfl, rfl⟩)
    go_loopw [0, 10] (fun sv kv wr => ∃ (k : Nat) (v' : Vol) (x' : Ino) (A' : Option Addr) (c' : Nat), K0 ≤ k ∧ k ≤ 70 ∧ sv = .slice A' v.length c' ∧ kv = .int .i64 k ∧ Hid (dropTo (70 - k) v' x' k = D ∧ Kept v v' ∧ fitI x') ∧ Hid (RS wr A' v' ∧ ∀ b o, A' = some ⟨b, o, none⟩ → b ≠ q) ∧ Hid (wr.heap[q]? = some (.cells #[.int .i64 ((x'.kind : Nat) : Int), .int .i64 ((x'.links : Nat) : Int), .int .i64 ((x'.owner : Nat) : Int), .int .i64 ((x'.size : Nat) : Int), .int .i64 ((x'.d0 : Nat) : Int), .int .i64 ((x'.d1 : Nat) : Int), .int .i64 ((x'.d2 : Nat) : Int), .int .i64 ((x'.d3 : Nat) : Int), .int .i64 ((x'.d4 : Nat) : Int), .int .i64 ((x'.d5 : Nat) : Int), .int .i64 ((x'.ind : Nat) : Int), .int .i64 ((x'.ext : Nat) : Int)] 45 (0, 0))) ∧ Hid (Below w.heap.size w wr)) (fun _ kv _ => 70 - (intOf kv).toNat)
    case atStart => exact ⟨K0, v, x, A, c, Nat.le_refl _, hK70, rfl, rfl, ⟨HDD.out, .rfl HV.out, HXF.out⟩, HR2, HX2, HB2⟩
    case round =>
      obtain ⟨k, v', x', A', c', hk1, hk2, rfl, rfl, hD, hf, hx, hB⟩ := hrel
      have hlv := hD.out.2.1.len
      by_cases hk70 : k < 70
      · have hki : (k : Int) < 70 := by omega
        obtain ⟨⟨v2, xd⟩, hdv⟩ : ∃ dv, dropV v' x' k = dv := ⟨_, rfl⟩
        have hdr := Lib.hid (fun w hr => rdrop_ok A' c' v' x' k w hr hD.out.2.1.ok hk70)
        rw [hdv, hlv] at hdr
        have hkd := kept_dropV hD.out.2.1.ok x' k
        rw [hdv] at hkd
        have hkx := (fit_dropV (v := v') hD.out.2.2 k).1
        rw [hdv] at hkx
        have hnx : dropTo (70 - (k + 1)) v2 xd (k + 1) = D := by
          have := hD.out.1
          rw [show 70 - k = (70 - (k + 1)) + 1 from by omega, dropTo, hdv] at this
          exact this
        have HKD2 := Lib.hid hkd
        have HKX2 := Lib.hid hkx
        have HNX := Lib.hid hnx
        clear hdv hkd hkx hnx
        obtain ⟨x0, x1, x2, x3, x4, x5, x6, x7, x8, x9, x10, x11⟩ := cells12 hx.out
        have sB := hB.out.size
        have sx := blk_lt hx.out
        go_upto_region 13 with (go_at_call 84; refine (hdr.out _ hf.out.1).mono ?_; rintro e w3 ⟨A2, c2, rfl, hr2, hf2, hb3⟩; have HR3 := Lib.hid hr2; have HF3 := Lib.hid hf2; have HB3 := Lib.hid hb3; clear hr2 hf2 hb3)
        have hb4' : Below w3.heap.size w3 (w3.alloc (.cells #[.slice A2 v.length c2, .int .i64 ((xd.kind : Nat) : Int), .int .i64 ((xd.links : Nat) : Int), .int .i64 ((xd.owner : Nat) : Int), .int .i64 ((xd.size : Nat) : Int), .int .i64 ((xd.d0 : Nat) : Int), .int .i64 ((xd.d1 : Nat) : Int), .int .i64 ((xd.d2 : Nat) : Int), .int .i64 ((xd.d3 : Nat) : Int), .int .i64 ((xd.d4 : Nat) : Int), .int .i64 ((xd.d5 : Nat) : Int), .int .i64 ((xd.ind : Nat) : Int), .int .i64 ((xd.ext : Nat) : Int), .int .i64 0, .int .i64 0] 114)) := (Below.refl _ _).alloc (Nat.le_refl _) _
        have hp4 := blk_new w3 (.cells #[.slice A2 v.length c2, .int .i64 ((xd.kind : Nat) : Int), .int .i64 ((xd.links : Nat) : Int), .int .i64 ((xd.owner : Nat) : Int), .int .i64 ((xd.size : Nat) : Int), .int .i64 ((xd.d0 : Nat) : Int), .int .i64 ((xd.d1 : Nat) : Int), .int .i64 ((xd.d2 : Nat) : Int), .int .i64 ((xd.d3 : Nat) : Int), .int .i64 ((xd.d4 : Nat) : Int), .int .i64 ((xd.d5 : Nat) : Int), .int .i64 ((xd.ind : Nat) : Int), .int .i64 ((xd.ext : Nat) : Int), .int .i64 0, .int .i64 0] 114)
        obtain ⟨W4, hW4⟩ : ∃ W4, w3.alloc (.cells #[.slice A2 v.length c2, .int .i64 ((xd.kind : Nat) : Int), .int .i64 ((xd.links : Nat) : Int), .int .i64 ((xd.owner : Nat) : Int), .int .i64 ((xd.size : Nat) : Int), .int .i64 ((xd.d0 : Nat) : Int), .int .i64 ((xd.d1 : Nat) : Int), .int .i64 ((xd.d2 : Nat) : Int), .int .i64 ((xd.d3 : Nat) : Int), .int .i64 ((xd.d4 : Nat) : Int), .int .i64 ((xd.d5 : Nat) : Int), .int .i64 ((xd.ind : Nat) : Int), .int .i64 ((xd.ext : Nat) : Int), .int .i64 0, .int .i64 0] 114) = W4 := ⟨_, rfl⟩
        obtain ⟨qp, hqp⟩ : ∃ qp, w3.heap.size = qp := ⟨_, rfl⟩
        have sw3 := HB3.out.size
        rw [hW4] at hb4' hp4 ⊢
        have hqq : q < qp := by omega
        have hr4 := HR3.out.below hb4'
        have hx4 := blk_keep (blk_keep hx.out HB3.out) hb4'
        have HB4 := Lib.hid (below_keep (below_keep hB.out (Nat.le_refl _) HB3.out) (Nat.le_refl _) hb4')
        rw [hqp] at hp4 ⊢
        have HX4 := Lib.hid hx4
        have HR4 := Lib.hid hr4
        have HA4 : Hid (∀ b o, A2 = some ⟨b, o, none⟩ → b ≠ q) := Lib.hid (fun b o e => by
          rcases HF3.out b o e with h | h
          · exact hf.out.2 b o (h.trans e)
          · omega)
        clear x0 x1 x2 x3 x4 x5 x6 x7 x8 x9 x10 x11 hW4 hqp hb4' hr4
        obtain ⟨z0, z1, z2, z3, z4, z5, z6, z7, z8, z9, z10, z11, z12, z13, z14⟩ := cells15 hp4
        obtain ⟨xx0, xx1, xx2, xx3, xx4, xx5, xx6, xx7, xx8, xx9, xx10, xx11⟩ := cells12 hx4
        obtain ⟨fx0, fx1, fx2, fx3, fx4, fx5, fx6, fx7, fx8, fx9, fx10, fx11⟩ := frees12 hx4
        clear hp4 hx4
        refine region_P (fun w' => w'.cell? ⟨qp, 0, none⟩ = some (.slice A2 v.length c2) ∧ w'.cell? ⟨qp, 1, none⟩ = some (.int .i64 ((xd.kind : Nat) : Int)) ∧ w'.cell? ⟨qp, 2, none⟩ = some (.int .i64 ((xd.links : Nat) : Int)) ∧ w'.cell? ⟨qp, 3, none⟩ = some (.int .i64 ((xd.owner : Nat) : Int)) ∧ w'.cell? ⟨qp, 4, none⟩ = some (.int .i64 ((xd.size : Nat) : Int)) ∧ w'.cell? ⟨qp, 5, none⟩ = some (.int .i64 ((xd.d0 : Nat) : Int)) ∧ w'.cell? ⟨qp, 6, none⟩ = some (.int .i64 ((xd.d1 : Nat) : Int)) ∧ w'.cell? ⟨qp, 7, none⟩ = some (.int .i64 ((xd.d2 : Nat) : Int)) ∧ w'.cell? ⟨qp, 8, none⟩ = some (.int .i64 ((xd.d3 : Nat) : Int)) ∧ w'.cell? ⟨qp, 9, none⟩ = some (.int .i64 ((xd.d4 : Nat) : Int)) ∧ w'.cell? ⟨qp, 10, none⟩ = some (.int .i64 ((xd.d5 : Nat) : Int)) ∧ w'.cell? ⟨qp, 11, none⟩ = some (.int .i64 ((xd.ind : Nat) : Int)) ∧ w'.cell? ⟨qp, 12, none⟩ = some (.int .i64 ((xd.ext : Nat) : Int))) [5] (by kernel_rfl) ?_ (fun hHeld => ?_)
        · exact ⟨z0, z1, z2, z3, z4, z5, z6, z7, z8, z9, z10, z11, z12⟩
        refine wpP_take (i := 0) (oi := ?oi268001) (v := ?v268001) ?hi268001 (by kernel_rfl) (by kernel_rfl) (by kernel_rfl) (by kernel_rfl) ?hQ268001 ?hy268001 (by assumption) ?rest268001
        case hi268001 => (simp only [List.getElem?_toArray, List.getElem?_cons_succ, List.getElem?_cons_zero]; exact rfl)
        case hQ268001 => exact fun _ _ _ h => h
        case hy268001 => (refine Or.inl ⟨by kernel_rfl, ?_⟩; intro w hSw; (try dsimp only at hSw); go_simp; try (with_reducible rfl))
        try simp only [Act.put, List.setIfInBounds_toArray, List.set_cons_zero, List.set_cons_succ]
        refine wpP_take (i := 1) (oi := ?oi268002) (v := ?v268002) ?hi268002 (by kernel_rfl) (by kernel_rfl) (by kernel_rfl) (by kernel_rfl) ?hQ268002 ?hy268002 (by assumption) ?rest268002
        case hi268002 => (simp only [List.getElem?_toArray, List.getElem?_cons_succ, List.getElem?_cons_zero]; exact rfl)
        case hQ268002 => exact fun _ _ _ h => h
        case hy268002 => (refine Or.inl ⟨by kernel_rfl, ?_⟩; intro w hSw; (try dsimp only at hSw); go_simp; try (with_reducible rfl))
        try simp only [Act.put, List.setIfInBounds_toArray, List.set_cons_zero, List.set_cons_succ]
        refine wpP_take (i := 2) (oi := ?oi268003) (v := ?v268003) ?hi268003 (by kernel_rfl) (by kernel_rfl) (by kernel_rfl) (by kernel_rfl) ?hQ268003 ?hy268003 (by assumption) ?rest268003
        case hi268003 => (simp only [List.getElem?_toArray, List.getElem?_cons_succ, List.getElem?_cons_zero]; exact rfl)
        case hQ268003 => exact fun _ _ _ h => h
        case hy268003 => (refine Or.inl ⟨by kernel_rfl, ?_⟩; intro w hSw; (try dsimp only at hSw); go_simp; try (with_reducible rfl))
        try simp only [Act.put, List.setIfInBounds_toArray, List.set_cons_zero, List.set_cons_succ]
        refine wpP_take (i := 3) (oi := ?oi268004) (v := ?v268004) ?hi268004 (by kernel_rfl) (by kernel_rfl) (by kernel_rfl) (by kernel_rfl) ?hQ268004 ?hy268004 (by assumption) ?rest268004
        case hi268004 => (simp only [List.getElem?_toArray, List.getElem?_cons_succ, List.getElem?_cons_zero]; exact rfl)
        case hQ268004 => exact fun _ _ _ h => h
        case hy268004 => (refine Or.inl ⟨by kernel_rfl, ?_⟩; intro w hSw; (try dsimp only at hSw); go_simp; try (with_reducible rfl))
        try simp only [Act.put, List.setIfInBounds_toArray, List.set_cons_zero, List.set_cons_succ]
        refine wpP_take (i := 4) (oi := ?oi268005) (v := ?v268005) ?hi268005 (by kernel_rfl) (by kernel_rfl) (by kernel_rfl) (by kernel_rfl) ?hQ268005 ?hy268005 (by assumption) ?rest268005
        case hi268005 => (simp only [List.getElem?_toArray, List.getElem?_cons_succ, List.getElem?_cons_zero]; exact rfl)
        case hQ268005 => exact fun _ _ _ h => h
        case hy268005 => (refine Or.inl ⟨by kernel_rfl, ?_⟩; intro w hSw; (try dsimp only at hSw); go_simp; try (with_reducible rfl))
        try simp only [Act.put, List.setIfInBounds_toArray, List.set_cons_zero, List.set_cons_succ]
        refine wpP_ready (rs := [5]) (by kernel_rfl) (by simp) ?_
        refine AllP.last (o := ?o268006) ?ho268006 (by kernel_rfl) (fun K hK => ?_) AllP.nil
        case ho268006 => (simp only [List.getElem?_toArray, List.getElem?_cons_succ, List.getElem?_cons_zero]; exact rfl)
        go_simp
        refine hK.out _ _ ?_
        clear hK K
        try simp only [Act.put, List.setIfInBounds_toArray, List.set_cons_zero, List.set_cons_succ]
        refine wpP_done (by kernel_rfl) ?_ _
        obtain ⟨W6, hW6, f1, f2, f3, f4⟩ := st12_facts xd HX4.out
        try simp only [World.setCell_drew] at hW6
        rw [hW6]
        clear hW6 xx0 xx1 xx2 xx3 xx4 xx5 xx6 xx7 xx8 xx9 xx10 xx11 fx0 fx1 fx2 fx3 fx4 fx5 fx6 fx7 fx8 fx9 fx10 fx11 z0 z1 z2 z3 z4 z5 z6 z7 z8 z9 z10 z11 z12 z13 z14 hHeld
        have F1 := Lib.hid f1
        have F2 := Lib.hid f2
        have F3 := Lib.hid f3
        clear f1 f2 f3 f4
        go_wp2
        refine ⟨⟨k + 1, v2, xd, A2, c2, by omega, by omega, rfl, by go_num, ⟨HNX.out, hD.out.2.1.trans HKD2.out, HKX2.out⟩, ⟨rs_other HR4.out F2.out HA4.out, HA4.out⟩, F1, (F3.out _ _ HB4.out s1).drew⟩, by simp only [intOf]; omega⟩
      · obtain rfl : k = 70 := by omega
        obtain rfl : (v', x') = D := hD.out.1
        have hok := hD.out.2.1.ok
        have hd' := Lib.hid (fun A c w hr => rdata_at A c v' (dataV v') v.length w hr hok rfl hlv)
        obtain ⟨d, hd⟩ : ∃ d, dataV v' = d := ⟨_, rfl⟩
        have hdF : dataV vF = d := by rw [HKF.out.1.dat, hd]
        have hlF : vF.length = v.length := by rw [HKF.out.1.len, hlv]
        have hzF : ∀ j, j < v.length → (bk vF j).length = 128 := fun j hj => (okV_iff.1 HKF.out.1.ok).size j (by rw [hlF]; exact hj)
        have hd0 : 0 < d := by have := dataV_pos v'; omega
        rw [hd] at hd'
        have HDV := Lib.hid hd
        have HDF := Lib.hid hdF
        have HLF := Lib.hid hlF
        have HZF := Lib.hid hzF
        clear hd hdF hlF hzF
        go_upto_if 54 with (go_at_call 56; refine (hd'.out _ _ _ hf.out.1).mono ?_; rintro e w4 ⟨rfl, hb4⟩; have HB4 := Lib.hid hb4; clear hb4)
        have HR4 : Hid (RS w4 A' v' ∧ ∀ b o, A' = some ⟨b, o, none⟩ → b ≠ q) := Lib.hid ⟨hf.out.1.below HB4.out, hf.out.2⟩
        have HX4 := Lib.hid (blk_keep hx.out HB4.out)
        have HBB := Lib.hid (below_keep hB.out (Nat.le_refl _) HB4.out)
        have sw4 := HBB.out.size
        have sxq := blk_lt HX4.out
        go_cut [0] (fun s0 wx => ∃ A3 c3, s0 = .slice A3 v.length c3 ∧ Hid (RS wx A3 vF ∧ ∀ b o, A3 = some ⟨b, o, none⟩ → b ≠ q) ∧ Hid (wx.heap[q]? = some (.cells #[.int .i64 ((xF.kind : Nat) : Int), .int .i64 ((xF.links : Nat) : Int), .int .i64 ((xF.owner : Nat) : Int), .int .i64 ((xF.size : Nat) : Int), .int .i64 ((xF.d0 : Nat) : Int), .int .i64 ((xF.d1 : Nat) : Int), .int .i64 ((xF.d2 : Nat) : Int), .int .i64 ((xF.d3 : Nat) : Int), .int .i64 ((xF.d4 : Nat) : Int), .int .i64 ((xF.d5 : Nat) : Int), .int .i64 ((xF.ind : Nat) : Int), .int .i64 ((xF.ext : Nat) : Int)] 45 (0, 0))) ∧ Hid (Below w.heap.size w wx))
        case first =>
          by_cases h768 : s ≤ 768
          case neg =>
            have h768i : ¬ (s : Int) ≤ 768 := by omega
            have hF := HFF.out
            rw [farV, if_neg h768] at hF
            cases hF
            go_wp2
            go_meet
            case rel => exact ⟨A', c', rfl, HR4, HX4, HBB⟩
          have h768i : (s : Int) ≤ 768 := by omega
          have hF := HFF.out
          rw [farV, if_pos h768] at hF
          obtain ⟨hvF, rfl⟩ : (if goodN (dataV v') v'.length x'.ind = true then giveV v' x'.ind else v') = vF ∧ x'.setI 0 = xF := by simpa using hF
          clear hF
          rw [HDV.out, hlv] at hvF
          obtain ⟨x0, x1, x2, x3, x4, x5, x6, x7, x8, x9, x10, x11⟩ := cells12 HX4.out
          have hfr := free_of HX4.out 10
          have HS9 := Lib.hid (box_ind HX4.out)
          by_cases hg : goodN d v.length x'.ind = true
          · rw [if_pos hg] at hvF
            have hgz := goodZ_yes hg
            have HGZ := Lib.hid hgz
            have hgl := (goodN_iff.1 hg).2
            have hgd := (goodN_iff.1 hg).1
            have hin : (0 : Int) < (x'.ind : Int) := by omega
            by_cases hbt : bit (bk v' 2) x'.ind = true
            · have hgv := Lib.hid (fun w hr => rgive_rs A' c' v' x'.ind w hr hok (by rw [HDV.out]; exact hgd) (by rw [hlv]; exact hgl) hbt)
              rw [hlv, hvF] at hgv
              clear hgz hg hvF
              go_wp2_with (first
                | (go_at_call 64; refine (rgood_ok A' c' v.length d x'.ind _ (by omega)).mono ?_; rw [HGZ.out]; rintro e w8 ⟨rfl, rfl⟩)
                | (go_at_call 85; refine (hgv.out _ HR4.out.1).mono ?_; rintro e w5 ⟨A5, c5, rfl, hr5, hf5, hb5⟩; have HR5 := Lib.hid hr5; have HF5 := Lib.hid hf5; have HB5 := Lib.hid hb5; have hx5 := blk_keep HX4.out hb5; clear x0 x1 x2 x3 x4 x5 x6 x7 x8 x9 x10 x11 hfr HS9; obtain ⟨x0, x1, x2, x3, x4, x5, x6, x7, x8, x9, x10, x11⟩ := cells12 hx5; have hfr := free_of hx5 10; have HS9 := Lib.hid (box_ind hx5); clear hr5 hf5 hb5 hx5))
              go_meet
              case rel => exact ⟨A5, c5, rfl, ⟨rs_other HR5.out (fun D o hne hD => blk_set_other hD hne _ _) (fun b o e => by have := HF5.out b o e; omega), fun b o e => by have := HF5.out b o e; omega⟩, HS9, below_set (below_keep HBB.out (Nat.le_refl _) HB5.out) s1⟩
            · have hbt' : bit (bk v' 2) x'.ind = false := by simpa using hbt
              have hgv := Lib.hid (fun w hr => rgive_none A' c' v' x'.ind w hr hok (by rw [HDV.out]; exact hgd) (by rw [hlv]; exact hgl) hbt')
              rw [hlv] at hgv
              have HVF : Hid (v' = vF) := Lib.hid (by rw [← hvF, giveV, if_neg hbt])
              clear hgz hg hvF hbt hbt'
              go_wp2_with (first
                | (go_at_call 64; refine (rgood_ok A' c' v.length d x'.ind _ (by omega)).mono ?_; rw [HGZ.out]; rintro e w8 ⟨rfl, rfl⟩)
                | (go_at_call 85; refine (hgv.out _ HR4.out.1).mono ?_; rintro e w5 ⟨rfl, hb5⟩; have HB5 := Lib.hid hb5; have hx5 := blk_keep HX4.out hb5; clear x0 x1 x2 x3 x4 x5 x6 x7 x8 x9 x10 x11 hfr HS9; obtain ⟨x0, x1, x2, x3, x4, x5, x6, x7, x8, x9, x10, x11⟩ := cells12 hx5; have hfr := free_of hx5 10; have HS9 := Lib.hid (box_ind hx5); clear hb5 hx5))
              go_meet
              case rel => exact ⟨A', c', rfl, ⟨by rw [← HVF.out]; exact rs_other (HR4.out.1.below HB5.out) (fun D o hne hD => blk_set_other hD hne _ _) HR4.out.2, HR4.out.2⟩, HS9, below_set (below_keep HBB.out (Nat.le_refl _) HB5.out) s1⟩
          · rw [if_neg hg] at hvF
            have hgz := goodZ_no (by simpa using hg : goodN d v.length x'.ind = false)
            have HGZ := Lib.hid hgz
            have HVF := Lib.hid hvF
            clear hgz hg hvF
            go_wp2_with (go_at_call 64; refine (rgood_ok A' c' v.length d x'.ind _ (by omega)).mono ?_; rw [HGZ.out]; rintro e w8 ⟨rfl, rfl⟩)
            go_meet
            case rel => exact ⟨A', c', rfl, ⟨by rw [← HVF.out]; exact rs_other HR4.out.1 (fun D o hne hD => blk_set_other hD hne _ _) HR4.out.2, HR4.out.2⟩, HS9, below_set HBB.out s1⟩
        case rest =>
          obtain ⟨A5, c5, rfl, hf5, hx5, hB5⟩ := hcut
          obtain ⟨x0, x1, x2, x3, x4, x5, x6, x7, x8, x9, x10, x11⟩ := cells12 hx5.out
          obtain ⟨k, hk⟩ : ∃ k, s / 128 = k := ⟨_, rfl⟩
          have hk69 : k < 70 := by omega
          have hkq : (s : Int) / 128 = (k : Int) := by omega
          have hwk : IntKind.i64.wrap (k : Int) = (k : Int) := by simp [IntKind.wrap, IntKind.bits, IntKind.signed]; omega
          obtain ⟨r, hr⟩ : ∃ r, s % 128 = r := ⟨_, rfl⟩
          have hkr : (s : Int).tmod 128 = (r : Int) := by rw [Int.tmod_eq_emod_of_nonneg (by omega)]; omega
          have hwr : IntKind.i64.wrap (r : Int) = (r : Int) := by simp [IntKind.wrap, IntKind.bits, IntKind.signed]; omega
          have hr128 : r < 128 := by omega
          have hat := Lib.hid (fun w hr => rat_ok A5 c5 d v.length vF xF k w hr HLF.out hk69 hd0 HZF.out)
          have hV3 := HV3.out
          rw [restV, HDF.out, HLF.out, hk, hr] at hV3
          by_cases hb0 : r = 0 ∨ atN d v.length vF xF k = 0
          · rw [if_pos hb0] at hV3
            have HVV := Lib.hid hV3
            clear hV3 hk hr
            rcases hb0 with hr0 | hb0
            · have hri : ¬ (0 : Int) < (r : Int) := by omega
              clear hr0
              generalize atN d v.length vF xF k = b at *
              go_wp2_with (go_at_call 59; refine (hat.out _ hf5.out.1).mono ?_; rintro e w6 ⟨rfl, hb6⟩; have HB6 := Lib.hid hb6; clear hb6)
              go_meet
              case rel => exact ⟨A5, c5, rfl, ⟨by rw [← HVV.out]; exact hf5.out.1.below HB6.out, hf5.out.2⟩, Lib.hid (blk_keep hx5.out HB6.out), below_keep hB5.out (Nat.le_refl _) HB6.out⟩
            · rw [hb0] at hat
              by_cases hr0 : r = 0
              · have hri : ¬ (0 : Int) < (r : Int) := by omega
                clear hr0 hb0
                go_wp2_with (go_at_call 59; refine (hat.out _ hf5.out.1).mono ?_; rintro e w6 ⟨rfl, hb6⟩; have HB6 := Lib.hid hb6; clear hb6)
                go_meet
                case rel => exact ⟨A5, c5, rfl, ⟨by rw [← HVV.out]; exact hf5.out.1.below HB6.out, hf5.out.2⟩, Lib.hid (blk_keep hx5.out HB6.out), below_keep hB5.out (Nat.le_refl _) HB6.out⟩
              · have hri : (0 : Int) < (r : Int) := by omega
                clear hr0 hb0
                go_wp2_with (go_at_call 59; refine (hat.out _ hf5.out.1).mono ?_; rintro e w6 ⟨rfl, hb6⟩; have HB6 := Lib.hid hb6; clear hb6)
                go_meet
                case rel => exact ⟨A5, c5, rfl, ⟨by rw [← HVV.out]; exact hf5.out.1.below HB6.out, hf5.out.2⟩, Lib.hid (blk_keep hx5.out HB6.out), below_keep hB5.out (Nat.le_refl _) HB6.out⟩
          · rw [if_neg hb0] at hV3
            rw [not_or] at hb0
            obtain ⟨hr0, hb0⟩ := hb0
            obtain ⟨hbd, hbL⟩ := atN_lt' hb0
            have hri : (0 : Int) < (r : Int) := by omega
            obtain ⟨b, hb⟩ : ∃ b, atN d v.length vF xF k = b := ⟨_, rfl⟩
            rw [hb] at hat hV3 hbd hbL
            have hbi : (0 : Int) < (b : Int) := by omega
            have hbi1 : (b : Int) < (v.length : Nat) := by omega
            obtain ⟨B, hBk⟩ : ∃ B, bk vF b = B := ⟨_, rfl⟩
            have hB128 := HZF.out b hbL
            rw [hBk] at hB128 hV3
            have HBK := Lib.hid hBk
            obtain ⟨m, hm⟩ : ∃ m, 128 - r = m := ⟨_, rfl⟩
            rw [hm] at hV3
            have hmi : 128 - (r : Int) = (m : Int) := by omega
            have hwm : IntKind.i64.wrap (m : Int) = (m : Int) := by simp [IntKind.wrap, IntKind.bits, IntKind.signed]; omega
            have HVV := Lib.hid hV3
            have HWI := Lib.hid (fun A' c' w hr => rwith19_ok A' c' vF b (B.take r ++ zs m) w v.length HLF.out hr (by rw [HLF.out]; exact hbL))
            clear hV3 hk hr hb0 hb hBk hm hr0
            go_upto_region 24 with (go_at_call 59; refine (hat.out _ hf5.out.1).mono ?_; rintro e w6 ⟨rfl, hb6⟩; have HB6 := Lib.hid hb6; clear hb6)
            have HR6 := Lib.hid (hf5.out.1.below HB6.out)
            obtain ⟨bA, oA, hAe, hbA, hc3⟩ := HR6.out.open_ (by rw [HLF.out]; omega)
            subst hAe
            have hcs := hc3 b (by rw [HLF.out]; exact hbL)
            rw [HBK.out] at hcs
            clear hc3 x0 x1 x2 x3 x4 x5 x6 x7 x8 x9 x10 x11
            have hmk' : ∀ W, (Instr.makeSlice 62 (.int .i64 m) (.int .i64 m)).run Try.prog W = .ok (.slice (some ⟨W.heap.size, 0, none⟩) m m) (W.alloc (.cells (bvs (zs m)) 5)) := mk_u8 m (by omega)
            have kA : Below w6.heap.size w6 (w6.alloc (.cells (bvs (zs m)) 5)).drew := ((Below.refl _ _).alloc (Nat.le_refl _) _).drew
            have hst : (convert 62 9 (.slice (some ⟨w6.heap.size, 0, none⟩) m m)).run Try.prog (w6.alloc (.cells (bvs (zs m)) 5)).drew = .ok (.string (mk (zs m))) (w6.alloc (.cells (bvs (zs m)) 5)).drew := str_of_u8 _ w6.heap.size 0 m m (zs m) (by simp) (fun j hj => by
              rw [Nat.zero_add]
              show (w6.alloc (.cells (bvs (zs m)) 5)).cell? _ = _
              rw [cell_at (blk_new w6 _), bvs_get _ _ (by simpa using hj)])
            have hc1 : ¬ (128 : Int) < (r : Int) := by omega
            have hc2 : (r : Int) ≤ 128 := by omega
            have hmo : min r 128 = r := by omega
            have hmm : r + m = 128 := by omega
            have hc3 : ¬ (9223372036854775807 < r + m) := by omega
            refine region_P (fun w' => w'.cell? ⟨bA, oA + b, none⟩ = some (.string (mk B))) [] (by kernel_rfl) ?_ (fun hHeld => ?_)
            · exact hcs
            refine wpP_take (i := 0) (oi := ?oi268007) (v := ?v268007) ?hi268007 (by kernel_rfl) (by kernel_rfl) (by kernel_rfl) (by kernel_rfl) ?hQ268007 ?hy268007 (by assumption) ?rest268007
            case hi268007 => (simp only [List.getElem?_toArray, List.getElem?_cons_succ, List.getElem?_cons_zero]; exact rfl)
            case hQ268007 => exact fun _ _ _ h => h
            case hy268007 => (refine Or.inl ⟨by kernel_rfl, ?_⟩; intro w hSw; (try dsimp only at hSw); go_simp; try (with_reducible rfl))
            try simp only [Act.put, List.setIfInBounds_toArray, List.set_cons_zero, List.set_cons_succ]
            refine wpP_take (i := 1) (oi := ?oi268008) (v := ?v268008) ?hi268008 (by kernel_rfl) (by kernel_rfl) (by kernel_rfl) (by kernel_rfl) ?hQ268008 ?hy268008 (by assumption) ?rest268008
            case hi268008 => (simp only [List.getElem?_toArray, List.getElem?_cons_succ, List.getElem?_cons_zero]; exact rfl)
            case hQ268008 => exact fun _ _ _ h => h
            case hy268008 => (refine Or.inl ⟨by kernel_rfl, ?_⟩; intro w hSw; (try dsimp only at hSw); go_simp; try (with_reducible rfl))
            try simp only [Act.put, List.setIfInBounds_toArray, List.set_cons_zero, List.set_cons_succ]
            refine wpP_take (i := 2) (oi := ?oi268009) (v := ?v268009) ?hi268009 (by kernel_rfl) (by kernel_rfl) (by kernel_rfl) (by kernel_rfl) ?hQ268009 ?hy268009 (by assumption) ?rest268009
            case hi268009 => (simp only [List.getElem?_toArray, List.getElem?_cons_succ, List.getElem?_cons_zero]; exact rfl)
            case hQ268009 => exact fun _ _ _ h => h
            case hy268009 => (refine Or.inl ⟨by kernel_rfl, ?_⟩; intro w hSw; (try dsimp only at hSw); go_simp; try (with_reducible rfl))
            try simp only [Act.put, List.setIfInBounds_toArray, List.set_cons_zero, List.set_cons_succ]
            refine wpP_take (i := 3) (oi := ?oi268010) (v := ?v268010) ?hi268010 (by kernel_rfl) (by kernel_rfl) (by kernel_rfl) (by kernel_rfl) ?hQ268010 ?hy268010 (by assumption) ?rest268010
            case hi268010 => (simp only [List.getElem?_toArray, List.getElem?_cons_succ, List.getElem?_cons_zero]; exact rfl)
            case hQ268010 => exact fun _ _ _ h => h
            case hy268010 => (refine Or.inl ⟨by kernel_rfl, ?_⟩; intro w hSw; (try dsimp only at hSw); go_simp; try (with_reducible rfl))
            try simp only [Act.put, List.setIfInBounds_toArray, List.set_cons_zero, List.set_cons_succ]
            refine wpP_take (i := 4) (oi := ?oi268011) (v := ?v268011) ?hi268011 (by kernel_rfl) (by kernel_rfl) (by kernel_rfl) (by kernel_rfl) ?hQ268011 ?hy268011 (by assumption) ?rest268011
            case hi268011 => (simp only [List.getElem?_toArray, List.getElem?_cons_succ, List.getElem?_cons_zero]; exact rfl)
            case hQ268011 => exact fun _ _ _ h => h
            case hy268011 => (refine Or.inl ⟨by kernel_rfl, ?_⟩; intro w hSw; (try dsimp only at hSw); go_simp; try (with_reducible rfl))
            try simp only [Act.put, List.setIfInBounds_toArray, List.set_cons_zero, List.set_cons_succ]
            refine wpP_take (i := 5) (oi := ?oi268012) (v := ?v268012) ?hi268012 (by kernel_rfl) (by kernel_rfl) (by kernel_rfl) (by kernel_rfl) ?hQ268012 ?hy268012 (by assumption) ?rest268012
            case hi268012 => (simp only [List.getElem?_toArray, List.getElem?_cons_succ, List.getElem?_cons_zero]; exact rfl)
            case hQ268012 => exact fun _ _ _ h => h
            case hy268012 => (refine Or.inl ⟨by kernel_rfl, ?_⟩; intro w hSw; (try dsimp only at hSw); go_simp; try (with_reducible rfl))
            try simp only [Act.put, List.setIfInBounds_toArray, List.set_cons_zero, List.set_cons_succ]
            refine wpP_take (i := 6) (oi := ?oi268013) (v := ?v268013) ?hi268013 (by kernel_rfl) (by kernel_rfl) (by kernel_rfl) (by kernel_rfl) ?hQ268013 ?hy268013 (by assumption) ?rest268013
            case hi268013 => (simp only [List.getElem?_toArray, List.getElem?_cons_succ, List.getElem?_cons_zero]; exact rfl)
            case hQ268013 => exact fun _ _ _ h => h
            case hy268013 => (refine Or.inl ⟨by kernel_rfl, ?_⟩; intro w hSw; (try dsimp only at hSw); go_simp; try (with_reducible rfl))
            try simp only [Act.put, List.setIfInBounds_toArray, List.set_cons_zero, List.set_cons_succ]
            refine wpP_take (i := 7) (oi := ?oi268014) (v := ?v268014) ?hi268014 (by kernel_rfl) (by kernel_rfl) (by kernel_rfl) (by kernel_rfl) ?hQ268014 ?hy268014 (by assumption) ?rest268014
            case hi268014 => (simp only [List.getElem?_toArray, List.getElem?_cons_succ, List.getElem?_cons_zero]; exact rfl)
            case hQ268014 => exact fun _ _ _ h => h
            case hy268014 => (refine Or.inl ⟨by kernel_rfl, ?_⟩; intro w hSw; (try dsimp only at hSw); go_simp; try (with_reducible rfl))
            try simp only [Act.put, List.setIfInBounds_toArray, List.set_cons_zero, List.set_cons_succ]
            refine wpP_take (i := 8) (oi := ?oi268015) (v := ?v268015) ?hi268015 (by kernel_rfl) (by kernel_rfl) (by kernel_rfl) (by kernel_rfl) ?hQ268015 ?hy268015 (by assumption) ?rest268015
            case hi268015 => (simp only [List.getElem?_toArray, List.getElem?_cons_succ, List.getElem?_cons_zero]; exact rfl)
            case hQ268015 => exact fun _ _ _ h => h
            case hy268015 => (refine Or.inl ⟨by kernel_rfl, ?_⟩; intro w hSw; (try dsimp only at hSw); go_simp; try (with_reducible rfl))
            try simp only [Act.put, List.setIfInBounds_toArray, List.set_cons_zero, List.set_cons_succ]
            refine wpP_take (i := 9) (oi := ?oi268016) (v := ?v268016) ?hi268016 (by kernel_rfl) (by kernel_rfl) (by kernel_rfl) (by kernel_rfl) ?hQ268016 ?hy268016 (by assumption) ?rest268016
            case hi268016 => (simp only [List.getElem?_toArray, List.getElem?_cons_succ, List.getElem?_cons_zero]; exact rfl)
            case hQ268016 => exact fun _ _ _ h => h
            case hy268016 => (refine Or.inl ⟨by kernel_rfl, ?_⟩; intro w hSw; (try dsimp only at hSw); go_simp; try (with_reducible rfl))
            try simp only [Act.put, List.setIfInBounds_toArray, List.set_cons_zero, List.set_cons_succ]
            refine wpP_take (i := 10) (oi := ?oi268017) (v := ?v268017) ?hi268017 (by kernel_rfl) (by kernel_rfl) (by kernel_rfl) (by kernel_rfl) ?hQ268017 ?hy268017 (by assumption) ?rest268017
            case hi268017 => (simp only [List.getElem?_toArray, List.getElem?_cons_succ, List.getElem?_cons_zero]; exact rfl)
            case hQ268017 => exact fun _ _ _ h => h
            case hy268017 => (refine Or.inl ⟨by kernel_rfl, ?_⟩; intro w hSw; (try dsimp only at hSw); go_simp; try (with_reducible rfl))
            try simp only [Act.put, List.setIfInBounds_toArray, List.set_cons_zero, List.set_cons_succ]
            refine wpP_take (i := 11) (oi := ?oi268018) (v := ?v268018) ?hi268018 (by kernel_rfl) (by kernel_rfl) (by kernel_rfl) (by kernel_rfl) ?hQ268018 ?hy268018 (by assumption) ?rest268018
            case hi268018 => (simp only [List.getElem?_toArray, List.getElem?_cons_succ, List.getElem?_cons_zero]; exact rfl)
            case hQ268018 => exact fun _ _ _ h => h
            case hy268018 => (refine Or.inl ⟨by kernel_rfl, ?_⟩; intro w hSw; (try dsimp only at hSw); go_simp; try (with_reducible rfl))
            try simp only [Act.put, List.setIfInBounds_toArray, List.set_cons_zero, List.set_cons_succ]
            refine wpP_ready (rs := [12]) (by kernel_rfl) (by simp) ?_
            refine AllP.cons (o := ?o268019) ?ho268019 (fun K hK => ?_) AllP.nil
            case ho268019 => (simp only [List.getElem?_toArray, List.getElem?_cons_succ, List.getElem?_cons_zero]; exact rfl)
            go_simp
            refine hK.out _ _ ?_ (fun hHeld => ?_)
            · exact cell_keep hHeld ((Below.refl _ _).alloc (Nat.le_refl _) _)
            clear hK K
            try simp only [Act.put, List.setIfInBounds_toArray, List.set_cons_zero, List.set_cons_succ]
            refine wpP_ready (rs := [13]) (by kernel_rfl) (by simp) ?_
            refine AllP.cons (o := ?o268020) ?ho268020 (fun K hK => ?_) AllP.nil
            case ho268020 => (simp only [List.getElem?_toArray, List.getElem?_cons_succ, List.getElem?_cons_zero]; exact rfl)
            go_simp
            refine hK.out _ _ ?_ (fun hHeld => ?_)
            · exact hHeld
            clear hK K
            try simp only [Act.put, List.setIfInBounds_toArray, List.set_cons_zero, List.set_cons_succ]
            refine wpP_take (i := 14) (oi := ?oi268021) (v := ?v268021) ?hi268021 (by kernel_rfl) (by kernel_rfl) (by kernel_rfl) (by kernel_rfl) ?hQ268021 ?hy268021 (by assumption) ?rest268021
            case hi268021 => (simp only [List.getElem?_toArray, List.getElem?_cons_succ, List.getElem?_cons_zero]; exact rfl)
            case hQ268021 => exact fun _ _ _ h => h
            case hy268021 => (refine Or.inl ⟨by kernel_rfl, ?_⟩; intro w hSw; (try dsimp only at hSw); go_simp; try (with_reducible rfl))
            try simp only [Act.put, List.setIfInBounds_toArray, List.set_cons_zero, List.set_cons_succ]
            refine wpP_ready (rs := [15]) (by kernel_rfl) (by simp) ?_
            refine AllP.cons (o := ?o268022) ?ho268022 (fun K hK => ?_) AllP.nil
            case ho268022 => (simp only [List.getElem?_toArray, List.getElem?_cons_succ, List.getElem?_cons_zero]; exact rfl)
            go_simp
            go_at_call 81
            refine (HWI.out _ _ _ (HR6.out.below kA)).mono ?_
            rintro e w7 ⟨g7, c7, rfl, hg7, hgs7, hb7⟩
            have k67 := below_keep HB6.out (Nat.le_refl _) (below_more kA (by show w6.heap.size ≤ (w6.alloc _).heap.size; simp) hb7)
            refine hK.out _ _ ?_ (fun hHeld => ?_)
            · exact cell_keep hHeld hb7
            clear hK K
            try simp only [Act.put, List.setIfInBounds_toArray, List.set_cons_zero, List.set_cons_succ]
            refine wpP_take (i := 16) (oi := ?oi268023) (v := ?v268023) ?hi268023 (by kernel_rfl) (by kernel_rfl) (by kernel_rfl) (by kernel_rfl) ?hQ268023 ?hy268023 (by assumption) ?rest268023
            case hi268023 => (simp only [List.getElem?_toArray, List.getElem?_cons_succ, List.getElem?_cons_zero]; exact rfl)
            case hQ268023 => exact fun _ _ _ h => h
            case hy268023 => (refine Or.inl ⟨by kernel_rfl, ?_⟩; intro w hSw; (try dsimp only at hSw); go_simp; try (with_reducible rfl))
            try simp only [Act.put, List.setIfInBounds_toArray, List.set_cons_zero, List.set_cons_succ]
            refine wpP_done (by kernel_rfl) ?_ _
            go_wp2
            go_meet
            case rel =>
              refine ⟨some ⟨g7, 0, none⟩, c7, rfl, ⟨?_, fun b' o' e => ?_⟩, Lib.hid (blk_keep hx5.out k67), below_keep hB5.out (Nat.le_refl _) k67⟩
              · rw [← HVV.out]
                exact hg7.rs (by rw [List.length_set, HLF.out]; omega)
              · cases e
                have := kA.size
                have := HB6.out.size
                have := blk_lt hx5.out
                omega
end Go.Proofs.Ytacdohlhalnioaa
end

/- Contract: a file is cut: every case, of the document's Cut and of the program's. -/
section
set_option linter.unusedVariables false
set_option linter.unusedSimpArgs false
set_option maxRecDepth 20000
namespace Go.Proofs.Ytacdohlhalnioaa
open Go.RowKit

/-- What Cut answers. -/
def cutR (v : Vol) (n s : Int) : Int × Vol := if getE v n ≠ 0 then (getE v n, []) else if s < 0 ∨ 8960 < s then ((if s < 0 then 1 else 6), []) else (0, cutV v n.toNat s.toNat)
/-- The document's Cut. -/
theorem rcut_is (A : Option Addr) (c : Nat) (v : Vol) (n s : Int) (w : World) (hr : RS w A v) :
    Calls Try.prog 39 #[.slice A v.length c, .int .i64 n, .int .i64 s] w (Ans w (cutR v n s)) := by
  unfold cutR
  by_cases hg : getE v n = 0
  · obtain ⟨hv, h1, h2, h3⟩ := getE_nt hg
    generalize n.toNat = N at *
    subst h3
    rw [if_neg (by simp [hg])]
    by_cases ho : s < 0 ∨ 8960 < s
    · rw [if_pos ho]
      exact rcut_bad A c v N s w hr hv h1 h2 ho
    · rw [if_neg ho]
      obtain ⟨o, rfl⟩ : ∃ o : Nat, s = (o : Int) := ⟨s.toNat, by omega⟩
      exact rcut_ok A c v N o w hr hv h1 h2 (by omega)
  · rw [if_pos hg]
    exact rcut_no A c v n s w hr hg
/-- The program's Cut. -/
theorem cut_is (A : Option Addr) (c : Nat) (v : Vol) (n s : Int) (w : World) (hr : RS w A v) :
    Calls Try.prog 38 #[.slice A v.length c, .int .i64 n, .int .i64 s] w (Ans w (cutR v n s)) := by
  unfold cutR
  by_cases hg : getE v n = 0
  · obtain ⟨hv, h1, h2, h3⟩ := getE_nt hg
    generalize n.toNat = N at *
    subst h3
    rw [if_neg (by simp [hg])]
    by_cases ho : s < 0 ∨ 8960 < s
    · rw [if_pos ho]
      refine (cut_bad A c v N s w hr hv h1 h2 ho).mono ?_
      rintro e w' ⟨rfl, hb⟩
      exact ⟨_, _, rfl, rs_any _ _, hb⟩
    · rw [if_neg ho]
      obtain ⟨o, rfl⟩ : ∃ o : Nat, s = (o : Int) := ⟨s.toNat, by omega⟩
      refine (cut_ok A c v N o w hr hv h1 h2 (by omega)).mono ?_
      rintro e w' ⟨g, c', rfl, hg2, hgs, hb⟩
      rw [show (o : Int).toNat = o from rfl]
      have hhi := (okV_iff.1 hv).hi
      have hpl : (cutV v N o).length = v.length := by
        have hk := (kept_shortV (x := inoV v N) o hv (inoV_fit v N)).1.len
        unfold cutV
        split <;> simp only [putV, List.length_set]
        exact hk
      refine ⟨some ⟨g, 0, none⟩, c', ?_, hg2.rs (by rw [hpl]; omega), hb⟩
      rw [hpl]
  · rw [if_pos hg]
    refine (cut_no A c v n s w hr hg).mono ?_
    rintro e w' ⟨rfl, hb⟩
    exact ⟨_, _, rfl, rs_any _ _, hb⟩
end Go.Proofs.Ytacdohlhalnioaa
end

/- Contract: whether two volumes are the same (the document's, of the extents' layer). -/
section
set_option linter.unusedVariables false
set_option linter.unusedSimpArgs false
set_option maxRecDepth 20000
namespace Go.Proofs.Ytacdohlhalnioaa
open Go.RowKit
attribute [local go_sem] Oper.semAt_some

set_option maxHeartbeats 1000000 in
theorem same19_ok (A B : Option Addr) (c c' : Nat) (v v' : Vol) (w : World) (hr : RS w A v) (hr' : RS w B v') :
    Calls Try.prog 40 #[.slice A v.length c, .slice B v'.length c'] w fun e w' => e = .returned (.bool (decide (v = v'))) ∧ Below w.heap.size w w' := by
  have hl := hr.1
  by_cases hne : v.length = v'.length
  · by_cases h0 : v.length = 0
    · have hz : v = [] := List.length_eq_zero_iff.1 h0
      have hz' : v' = [] := List.length_eq_zero_iff.1 (by omega)
      subst hz hz'
      clear hr hr' hne h0
      go_enter Try.func40, Try.ntmps40
      go_wp2
      go_loop [5] (fun iv => iv = .int .i64 0) (fun iv => 0)
      case atStart => rfl
      case round =>
        subst hrel
        go_wp2
        go_ret
        exact ⟨rfl, Below.refl _ _⟩
    · obtain ⟨bA, oA, rfl, hbA, hc⟩ := hr.open_ (by omega)
      obtain ⟨bB, oB, rfl, hbB, hc'⟩ := hr'.open_ (by omega)
      have HC := Lib.hid hc
      have HC' := Lib.hid hc'
      have hv : v = v' ↔ ∀ j, j < v.length → bk v j = bk v' j := by
        constructor
        · rintro rfl j _; rfl
        · intro h
          refine List.ext_getElem hne (fun j h1 h2 => ?_)
          rw [bk_get, bk_get]
          exact h j h1
      have HV := Lib.hid hv
      have HN := Lib.hid hne
      rw [← hne]
      clear hr hr' hc hc' hv hne
      go_enter Try.func40, Try.ntmps40
      go_wp2
      go_loopw [5] (fun iv wr => ∃ k : Nat, k ≤ v.length ∧ iv = .int .i64 k ∧ (∀ j, j < k → bk v j = bk v' j) ∧ Hid (Below w.heap.size w wr)) (fun iv _ => v.length - (intOf iv).toNat)
      case atStart => exact ⟨0, by omega, rfl, fun j hj => by omega, Below.refl _ _⟩
      case round =>
        obtain ⟨k, hk, rfl, hall, hB⟩ := hrel
        have HA := Lib.hid hall
        clear hall
        by_cases hlt : k < v.length
        · have hki : (k : Int) < (v.length : Nat) := by omega
          have ca := cell_keep (HC.out k hlt) hB.out
          have cb := cell_keep (HC'.out k (by rw [← HN.out]; exact hlt)) hB.out
          by_cases he : bk v k = bk v' k
          · have hall : ∀ j, j < k + 1 → bk v j = bk v' j := fun j hj => by
              rcases Nat.lt_or_ge j k with h | h
              · exact HA.out j h
              · have : j = k := by omega
                rw [this]; exact he
            have HA2 := Lib.hid hall
            rw [← he] at cb
            clear hall he
            generalize bk v k = s at *
            go_wp2
            go_quiet (fail)
            rename_i nq
            go_wp2
            exact ⟨⟨k + 1, by omega, by go_num, HA2.out, below_keep hB.out (Nat.le_refl _) (below_drewN' _ _)⟩, by simp only [intOf]; omega⟩
          · have hd : decide (v = v') = false := decide_eq_false (fun e => he (HV.out.1 e k hlt))
            have HD := Lib.hid hd
            clear hd
            generalize bk v k = s at *
            generalize bk v' k = s' at *
            have he1 : (s == s') = false := by simpa using he
            have he2 : (s != s') = true := by simp [bne, he1]
            have he3 : ¬ mk s = mk s' := fun e => he (mk_inj e)
            go_wp2
            go_quiet (fail)
            rename_i nq
            go_wp2
            go_ret
            exact ⟨ret_bool HD.out.symm, below_keep hB.out (Nat.le_refl _) (below_drewN' _ _)⟩
        · have hd : decide (v = v') = true := decide_eq_true (HV.out.2 (fun j hj => HA.out j (by omega)))
          have HD := Lib.hid hd
          have hki : ¬ (k : Int) < (v.length : Nat) := by omega
          clear hd
          go_wp2
          go_ret
          exact ⟨ret_bool HD.out.symm, hB.out⟩
  · have hd : decide (v = v') = false := decide_eq_false (fun e => hne (by rw [e]))
    rw [hd]
    have hbn : ((v.length : Int) != (v'.length : Int)) = true := by simp; omega
    clear hr hr' hd
    go_enter Try.func40, Try.ntmps40
    go_wp2
    go_ret
    exact ⟨rfl, Below.refl _ _⟩
end Go.Proofs.Ytacdohlhalnioaa
end
