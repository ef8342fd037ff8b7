/- Contract: the blocks of a file, one by one (the iterator). -/
import Derived.Test.YtacdohlhalnioaaE3
set_option linter.unusedVariables false
set_option maxRecDepth 20000
namespace Go.Proofs.Ytacdohlhalnioaa
open Go.RowKit
attribute [local go_sem] Oper.semAt_some

set_option maxHeartbeats 400000 in
theorem all_ok (F m : Nat) (w : World) :
    Calls Try.prog 52 #[.pointer (some ⟨F, 0, none⟩), .int .i64 m] w fun e w' => e = .returned (.func (.func 95) #[] #[.pointer (some ⟨w.heap.size + 1, 0, none⟩), .pointer (some ⟨w.heap.size, 0, none⟩)]) ∧ (w.alloc (.cells #[.pointer (some ⟨F, 0, none⟩)] 75)).alloc (.cells #[.int .i64 m] 3) = w' := by
  go_enter Try.func52, Try.ntmps52
  go_wp2
  go_ret
  exact ⟨rfl, rfl⟩

set_option maxHeartbeats 4000000 in
theorem all1_in (N l F g c L I d n Bn Bf m : Nat) (v : Vol) (x : Ino) (Fr : Nat → Prop) (W : World) (hn : W.heap[Bn]? = some (.cells #[.int .i64 m] 3 (0, 0))) (hf : W.heap[Bf]? = some (.cells #[.pointer (some ⟨F, 0, none⟩)] 75 (0, 0))) (hA : FileAt W F g c L I d n v x)
    (hF1 : ¬ Fr Bn) (hF2 : ¬ Fr Bf) (hF3 : ¬ Fr F) (hF4 : ¬ Fr g) (hm : m ≤ 70) (hd : 0 < d) (hs : ∀ j, j < L → (bk v j).length = 128) (hL : L ≤ 223)
    (J Jx : List Nat → World → Prop) (hJ : AbidesFrom W.heap.size J)
    (hY : ∀ pre k W1, J pre W1 → pre.length < m → k < m → YieldAt Fence.wide (N - 1) Try.prog l #[.int .i64 k, .int .i64 (holeI (atN d L v x k))] W1 fun e W' =>
      (e = .returned (.bool true) ∧ J (pre ++ [k]) W' ∧ KpC Fr W1 W') ∨ (e = .returned (.bool false) ∧ Jx (pre ++ [k]) W')) (h0 : J [] W) :
    CallsIn Fence.wide N Try.prog 95 #[.func (.yield l) #[] #[], .pointer (some ⟨Bn, 0, none⟩), .pointer (some ⟨Bf, 0, none⟩)] W fun e W' => (∃ v, e = .returned v) ∧
      ((∃ ys, ys = List.range m ∧ J ys W') ∨ (∃ pre, True ∧ Jx pre W')) := by
  have HY := Lib.hid hY
  have HJ := Lib.hid hJ
  have HJ0 := Lib.hid h0
  have HS := Lib.hid hs
  have hcn : W.cell? ⟨Bn, 0, none⟩ = some (.int .i64 m) := by rw [cell_at hn]; rfl
  have hp : Hid (W.heap[Bn]? = some (.cells #[.int .i64 m] 3 (0, 0)) ∧ W.heap[Bf]? = some (.cells #[.pointer (some ⟨F, 0, none⟩)] 75 (0, 0)) ∧ FileAt W F g c L I d n v x) := ⟨hn, hf, hA⟩
  have hnx : ∀ W1 W2 : World, KpC Fr W1 W2 → (W1.heap[Bn]? = some (.cells #[.int .i64 m] 3 (0, 0)) ∧ W1.heap[Bf]? = some (.cells #[.pointer (some ⟨F, 0, none⟩)] 75 (0, 0)) ∧ FileAt W1 F g c L I d n v x) →
      Hid (W2.heap[Bn]? = some (.cells #[.int .i64 m] 3 (0, 0)) ∧ W2.heap[Bf]? = some (.cells #[.pointer (some ⟨F, 0, none⟩)] 75 (0, 0)) ∧ FileAt W2 F g c L I d n v x) := by
    rintro W1 W2 hk ⟨e1, e2, e3⟩
    refine ⟨hk _ _ _ _ e1 hF1, hk _ _ _ _ e2 hF2, hk _ _ _ _ e3.blk hF3, ?_, e3.len, e3.ne⟩
    obtain ⟨cur, hg, hc⟩ := e3.vol
    exact ⟨cur, hk _ _ _ _ hg hF4, hc⟩
  have HN := Lib.hid hnx
  clear hY hJ h0 hn hf hA hs hnx
  refine callsIn_of_wp Try.func95 rfl trivial ?_ rfl
  simp only [Try.ntmps95, List.size_toArray, List.length_cons, List.length_nil, Nat.reduceAdd, Nat.reduceSub, Array.replicate_succ, Array.replicate_zero, List.push_toArray, List.append_toArray, List.nil_append, List.cons_append]
  gi_wp2
  gi_loopw [6] (fun i wr => ∃ k : Nat, k ≤ m ∧ i = .int .i64 k ∧ Hid (J (List.range k) wr) ∧ Hid (wr.heap[Bn]? = some (.cells #[.int .i64 m] 3 (0, 0)) ∧ wr.heap[Bf]? = some (.cells #[.pointer (some ⟨F, 0, none⟩)] 75 (0, 0)) ∧ FileAt wr F g c L I d n v x)) (fun i _ => m - (intOf i).toNat)
  case atStart => exact ⟨0, by omega, rfl, HJ0, hp⟩
  case round =>
    obtain ⟨k, hk, rfl, hJk, hq⟩ := hrel
    by_cases hlt : k < m
    · have hcf : wr.cell? ⟨Bf, 0, none⟩ = some (.pointer (some ⟨F, 0, none⟩)) := by rw [cell_at hq.out.2.1]; rfl
      gi_wp2_with (refine ⟨trivial, fun h => by simp [Fence.wide] at h, callsIn_wide.2 ?_⟩; go_at_call 96; refine (at_ok _ _ _ _ _ _ _ _ _ k _ hq.out.2.2 (by omega) hd HS.out hL).mono ?_; rintro e w3 ⟨rfl, hb3⟩; have hJ3 : Hid (J (List.range k) w3) := HJ.out _ wr w3 none hJk.out ⟨hb3.os, hb3.tape, hb3.output, hb3.size, fun q hq _ => hb3.block q hq⟩ (fun r e => by cases e); obtain ⟨fn, tmps, assign, body, hy, hR⟩ := HY.out (List.range k) k w3 hJ3.out (by simpa using hlt) hlt)
      refine ⟨fun h => by simp [Fence.wide] at h, hR.mono ?_⟩
      have hk3 : KpC Fr wr w3 := KpC.of_below hb3
      rintro e W3 (⟨rfl, hJ4, hk4⟩ | ⟨rfl, hJx3⟩)
      · have hq4 := HN.out _ _ hk4 (HN.out _ _ hk3 hq.out).out
        clear hk3 hk4
        have HJ4 := Lib.hid hJ4
        clear hJ4
        gi_wp2
        refine ⟨⟨k + 1, by omega, by go_num, ?_, hq4⟩, by simp only [intOf]; omega⟩
        rw [List.range_succ]
        exact HJ4
      · gi_wp2
        refine bodyPost_ret (results_none rfl _ _ _) rfl ?_
        exact ⟨⟨_, rfl⟩, .inr ⟨_, trivial, hJx3⟩⟩
    · obtain rfl : k = m := by omega
      gi_wp2
      go_end0
      exact ⟨⟨_, rfl⟩, .inl ⟨_, rfl, hJk.out⟩⟩

theorem all_stops (N F g c L I d n Bn Bf m : Nat) (v : Vol) (x : Ino) (Fr : Nat → Prop) (w : World) (hn : w.heap[Bn]? = some (.cells #[.int .i64 m] 3 (0, 0))) (hf : w.heap[Bf]? = some (.cells #[.pointer (some ⟨F, 0, none⟩)] 75 (0, 0))) (hA : FileAt w F g c L I d n v x)
    (hF1 : ¬ Fr Bn) (hF2 : ¬ Fr Bf) (hF3 : ¬ Fr F) (hF4 : ¬ Fr g) (hm : m ≤ 70) (hd : 0 < d) (hs : ∀ j, j < L → (bk v j).length = 128) (hL : L ≤ 223) :
    SeqStopsK Fence.wide N Try.prog 95 #[.pointer (some ⟨Bn, 0, none⟩), .pointer (some ⟨Bf, 0, none⟩)] (fun k : Fin m => #[.int .i64 (k : Nat), .int .i64 (holeI (atN d L v x k))]) (KpC Fr) (fun xs => xs = List.finRange m) (fun _ => True) m w := by
  intro l J Jx W hW hJ hJx hY h0
  refine (all1_in N l F g c L I d n Bn Bf m v x Fr W (blk_keep hn hW) (blk_keep hf hW) (hA.keep hW) hF1 hF2 hF3 hF4 hm hd hs hL (fun xs W => ∃ ys : List (Fin m), ys.map (fun k => k.val) = xs ∧ J ys W) (fun xs W => ∃ ys : List (Fin m), ys.map (fun k => k.val) = xs ∧ Jx ys W)
    (fun s A B row hs hg hr => by
      obtain ⟨ys, e, hj⟩ := hs
      exact ⟨ys, e, hJ ys A B row hj hg hr⟩) ?_ ⟨[], rfl, h0⟩).mono ?_
  · rintro pre k W1 ⟨ys, rfl, hj⟩ hlen hx
    obtain ⟨fn, tmps, assign, body, hy, hR⟩ := hY ys ⟨k, hx⟩ W1 hj (by simpa using hlen)
    refine ⟨fn, tmps, assign, body, hy, hR.mono ?_⟩
    rintro e W' (⟨he, h1, h2⟩ | ⟨he, h1⟩)
    · exact .inl ⟨he, ⟨ys ++ [⟨k, hx⟩], by simp, h1⟩, h2⟩
    · exact .inr ⟨he, ys ++ [⟨k, hx⟩], by simp, h1⟩
  · rintro e W' ⟨he, ⟨ys, rfl, zs, hz, hj⟩ | ⟨pre, _, zs, hz, hj⟩⟩
    · refine ⟨he, .inl ⟨zs, ?_, hj⟩⟩
      apply List.map_inj_right (f := fun k : Fin m => k.val) (fun a b h => Fin.ext h) |>.1
      rw [hz]
      exact (List.ext_getElem (by simp) (by simp)).symm
    · exact ⟨he, .inr ⟨zs, trivial, hj⟩⟩
end Go.Proofs.Ytacdohlhalnioaa
