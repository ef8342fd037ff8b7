/- Contract: how many blocks (the document's). -/
import Derived.Test.YtacdohlhalnioaaF6
import Derived.Test.YtacdohlhalnioaaE6
set_option linter.unusedVariables false
set_option maxRecDepth 20000
namespace Go.Proofs.Ytacdohlhalnioaa
open Go.RowKit
attribute [local go_sem] Oper.semAt_some

theorem goodZ_pos {d L b : Nat} (hd : 0 < d) : 0 < goodZ d L b ↔ goodN d L b = true := by
  unfold goodZ
  split
  · rename_i h
    have : d ≤ b ∧ b < L := by simpa [goodN] using h
    constructor
    · intro _; exact h
    · intro _; omega
  · rename_i h
    constructor
    · intro h2; omega
    · intro h2; exact absurd h2 h
set_option maxHeartbeats 4000000 in
theorem rcount_ok (A : Option Addr) (c : Nat) (v : Vol) (n : Nat) (w : World) (hr : RS w A v) (hv : okV v = true) (h1 : 1 ≤ n) (h2 : n ≤ inosV v) :
    Calls Try.prog 23 #[.slice A v.length c, .int .i64 n] w fun e w' => e = .returned (.int .i64 ((countV v n : Nat) : Int)) ∧ Below w.heap.size w w' := by
  have HOK := okV_iff.1 hv
  have h2' := HOK.hi
  have hd0 : 0 < dataV v := by rw [dataV]; omega
  have HS := Lib.hid HOK.size
  have HV := Lib.hid hv
  have HR := Lib.hid hr
  have hl8 : v.length ≤ 8796093022208 := by omega
  clear hv hr HOK
  have hget := Lib.hid (fun w hr => rget18_ok A c v n w hr HV.out h1 h2)
  have hdat := Lib.hid (fun w hr => rdata_ok A c v w hr HV.out)
  rw [countV]
  obtain ⟨d, hd⟩ : ∃ d, dataV v = d := ⟨_, rfl⟩
  obtain ⟨x, hX⟩ : ∃ x, inoV v n = x := ⟨_, rfl⟩
  rw [hd] at hd0 hdat ⊢
  rw [hX] at hget ⊢
  clear hd hX
  go_enter Try.func23, Try.ntmps23
  go_wp2_with (first
    | (go_at_call 55; refine (hget.out _ HR.out).mono ?_; rintro e w1 ⟨rfl, hb1⟩; have B1 := Lib.hid hb1; clear hb1)
    | (go_at_call 56; refine (hdat.out _ (HR.out.below (B1.out.alloc B1.out.size _))).mono ?_; rintro e w2 ⟨rfl, hb2⟩; have B2 := Lib.hid (below_keep (B1.out.alloc B1.out.size _) (Nat.le_refl _) hb2); have K2 := Lib.hid (blk_keep (blk_new w1 (.cells #[.int .i64 ((x.kind : Nat) : Int), .int .i64 ((x.links : Nat) : Int), .int .i64 ((x.owner : Nat) : Int), .int .i64 ((x.size : Nat) : Int), .int .i64 ((x.d0 : Nat) : Int), .int .i64 ((x.d1 : Nat) : Int), .int .i64 ((x.d2 : Nat) : Int), .int .i64 ((x.d3 : Nat) : Int), .int .i64 ((x.d4 : Nat) : Int), .int .i64 ((x.d5 : Nat) : Int), .int .i64 ((x.ind : Nat) : Int), .int .i64 ((x.ext : Nat) : Int)] 45)) hb2); clear hb2))
  have hs1 := B1.out.size
  generalize w1.heap.size = q at *
  go_loopw [7, 9] (fun cv iv wr => ∃ k : Nat, k ≤ 70 ∧ iv = .int .i64 k ∧ cv = .int .i64 ((cntTo d v.length v x (List.range k) : Nat) : Int) ∧ Hid (wr.heap[q]? = some (.cells #[.int .i64 ((x.kind : Nat) : Int), .int .i64 ((x.links : Nat) : Int), .int .i64 ((x.owner : Nat) : Int), .int .i64 ((x.size : Nat) : Int), .int .i64 ((x.d0 : Nat) : Int), .int .i64 ((x.d1 : Nat) : Int), .int .i64 ((x.d2 : Nat) : Int), .int .i64 ((x.d3 : Nat) : Int), .int .i64 ((x.d4 : Nat) : Int), .int .i64 ((x.d5 : Nat) : Int), .int .i64 ((x.ind : Nat) : Int), .int .i64 ((x.ext : Nat) : Int)] 45 (0, 0))) ∧ Hid (Below w.heap.size w wr)) (fun _ iv _ => 70 - (intOf iv).toNat)
  case atStart => exact ⟨0, by omega, rfl, rfl, K2, B2⟩
  case round =>
    obtain ⟨k, hk, rfl, rfl, hq, hB⟩ := hrel
    have hle := cntTo_le d v.length v x (List.range k)
    rw [List.length_range] at hle
    obtain ⟨q0, q1, q2, q3, q4, q5, q6, q7, q8, q9, q10, q11⟩ := cells12 hq.out
    by_cases hlt : k < 70
    · have hsn := cntTo_snoc d v.length v x (List.range k) k
      rw [← List.range_succ] at hsn
      obtain ⟨z, hz⟩ : ∃ z, cntTo d v.length v x (List.range k) = z := ⟨_, rfl⟩
      obtain ⟨b, hb⟩ : ∃ b, atN d v.length v x k = b := ⟨_, rfl⟩
      rw [hb] at hsn
      rw [hz] at hsn hle ⊢
      have HSN := Lib.hid hsn
      have HBB := Lib.hid hb
      clear hsn hz hb
      by_cases h0 : b = 0
      · subst h0
        go_wp2_with (go_at_call 59; refine (rat_ok A c d v.length v x k _ (HR.out.below hB.out) rfl hlt hd0 HS.out).mono ?_; rw [HBB.out]; rintro e w3 ⟨rfl, hb3⟩)
        refine ⟨⟨k + 1, by omega, by go_num, ?_, blk_keep hq.out hb3, below_keep hB.out (Nat.le_refl _) hb3⟩, by simp only [intOf]; omega⟩
        rw [HSN.out]; rfl
      · have hb0 : (0 : Int) < (b : Int) := by omega
        go_wp2_with (go_at_call 59; refine (rat_ok A c d v.length v x k _ (HR.out.below hB.out) rfl hlt hd0 HS.out).mono ?_; rw [HBB.out]; rintro e w3 ⟨rfl, hb3⟩)
        refine ⟨⟨k + 1, by omega, by go_num, ?_, blk_keep hq.out hb3, below_keep hB.out (Nat.le_refl _) hb3⟩, by simp only [intOf]; omega⟩
        rw [HSN.out, if_neg h0]; rfl
    · obtain rfl : k = 70 := by omega
      obtain ⟨z, hz⟩ : ∃ z, cntTo d v.length v x (List.range 70) = z := ⟨_, rfl⟩
      rw [hz] at hle ⊢
      have hgi := goodZ_pos (L := v.length) (b := x.ind) hd0
      have hge := goodZ_pos (L := v.length) (b := x.ext) hd0
      have HZ := Lib.hid hz
      clear hz
      obtain ⟨gi, hgi'⟩ : ∃ gi, goodZ d v.length x.ind = gi := ⟨_, rfl⟩
      obtain ⟨ge, hge'⟩ : ∃ ge, goodZ d v.length x.ext = ge := ⟨_, rfl⟩
      rw [hgi'] at hgi
      rw [hge'] at hge
      have HGI := Lib.hid hgi'
      have HGE := Lib.hid hge'
      have HI := Lib.hid hgi
      have HE := Lib.hid hge
      clear hgi hge hgi' hge'
      have ha1 : (gi = 0 ∧ one (goodN d v.length x.ind) = 0) ∨ (0 < gi ∧ one (goodN d v.length x.ind) = 1) := by
        rcases Nat.eq_zero_or_pos gi with h | h
        · exact .inl ⟨h, by rw [one, if_neg (fun e => by have := HI.out.2 e; omega)]⟩
        · exact .inr ⟨h, by rw [one, if_pos (HI.out.1 h)]⟩
      have ha2 : (ge = 0 ∧ one (goodN d v.length x.ext) = 0) ∨ (0 < ge ∧ one (goodN d v.length x.ext) = 1) := by
        rcases Nat.eq_zero_or_pos ge with h | h
        · exact .inl ⟨h, by rw [one, if_neg (fun e => by have := HE.out.2 e; omega)]⟩
        · exact .inr ⟨h, by rw [one, if_pos (HE.out.1 h)]⟩
      obtain ⟨oi, hoi⟩ : ∃ oi, one (goodN d v.length x.ind) = oi := ⟨_, rfl⟩
      obtain ⟨oe, hoe⟩ : ∃ oe, one (goodN d v.length x.ext) = oe := ⟨_, rfl⟩
      rw [hoi] at ha1
      rw [hoe] at ha2
      have HOI := Lib.hid hoi
      have HOE := Lib.hid hoe
      clear hoi hoe
      rcases ha1 with ⟨rfl, rfl⟩ | ⟨hp1, rfl⟩ <;> rcases ha2 with ⟨rfl, rfl⟩ | ⟨hp2, rfl⟩
      all_goals
        go_wp2_with (first
          | (go_at_call 64; have := HI; refine (rgood_ok A c v.length d x.ind _ hl8).mono ?_; rw [HGI.out]; rintro e w3 ⟨rfl, rfl⟩; clear HI)
          | (go_at_call 64; refine (rgood_ok A c v.length d x.ext _ hl8).mono ?_; rw [HGE.out]; rintro e w3 ⟨rfl, rfl⟩))
        go_ret
        refine ⟨ret_int ?_, hB.out⟩
        rw [HZ.out, HOI.out, HOE.out]
        omega
end Go.Proofs.Ytacdohlhalnioaa
