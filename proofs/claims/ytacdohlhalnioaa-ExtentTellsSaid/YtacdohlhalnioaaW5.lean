/- Contract: bytes are written into a file. -/
import Derived.Test.YtacdohlhalnioaaW4
set_option linter.unusedVariables false
set_option maxRecDepth 20000
namespace Go.Proofs.Ytacdohlhalnioaa
open Go.RowKit
attribute [local go_sem] Oper.semAt_some

set_option maxHeartbeats 400000 in
theorem write_no (A : Option Addr) (c : Nat) (v : Vol) (n off : Int) (t : Blk) (w : World) (hr : RS w A v) (h : getE v n ≠ 0) :
    Calls Try.prog 35 #[.slice A v.length c, .int .i64 n, .int .i64 off, .string (mk t)] w fun e w' => e = .returned (.tuple #[.slice none 0 0, .int .i64 (getE v n)]) ∧ Below w.heap.size w w' := by
  have HP := Lib.hid (fun w hr => open_no A c v n w hr h)
  have HR := Lib.hid hr
  clear hr
  generalize getE v n = er at *
  have hb : (er == 0) = false := by simpa using h
  have hbn : (er != 0) = true := by simpa using h
  go_enter Try.func35, Try.ntmps35
  go_wp2_with (go_at_call 51; refine (HP.out _ HR.out).mono ?_; rintro e w1 ⟨rfl, hb1⟩)
  go_ret2
  exact ⟨rfl, hb1⟩
set_option maxHeartbeats 400000 in
theorem write_neg (A : Option Addr) (c : Nat) (v : Vol) (n : Nat) (off : Int) (t : Blk) (w : World) (hr : RS w A v) (hv : okV v = true) (h1 : 1 ≤ n) (h2 : n ≤ inosV v) (ho : off < 0) :
    Calls Try.prog 35 #[.slice A v.length c, .int .i64 n, .int .i64 off, .string (mk t)] w fun e w' => e = .returned (.tuple #[.slice none 0 0, .int .i64 1]) ∧ Below w.heap.size w w' := by
  have HP := Lib.hid (fun w hr => open_ok A c v n w hr hv h1 h2)
  have HR := Lib.hid hr
  clear hr hv
  go_enter Try.func35, Try.ntmps35
  go_wp2_with (go_at_call 51; refine (HP.out _ HR.out).mono ?_; rintro e w1 ⟨F, g, cg, rfl, hf1, hF, hg, hb1⟩)
  go_ret2
  exact ⟨rfl, hb1⟩
set_option maxHeartbeats 1000000 in
theorem write_limit (A : Option Addr) (c : Nat) (v : Vol) (n off : Nat) (t : Blk) (w : World) (hr : RS w A v) (hv : okV v = true) (h1 : 1 ≤ n) (h2 : n ≤ inosV v) (ho : 8960 < off ∨ 8960 < off + t.length) (hoff : (off : Int) ≤ 9223372036854775807) (htl : (t.length : Int) ≤ 9223372036854775807) :
    Calls Try.prog 35 #[.slice A v.length c, .int .i64 n, .int .i64 off, .string (mk t)] w fun e w' => e = .returned (.tuple #[.slice none 0 0, .int .i64 6]) ∧ Below w.heap.size w w' := by
  have HP := Lib.hid (fun w hr => open_ok A c v n w hr hv h1 h2)
  have HR := Lib.hid hr
  clear hr hv
  have h0 : (0 : Int) ≤ (off : Int) := by omega
  by_cases hb : 8960 < off
  · have hbi : (8960 : Int) < (off : Int) := by omega
    go_enter Try.func35, Try.ntmps35
    go_wp2_with (go_at_call 51; refine (HP.out _ HR.out).mono ?_; rintro e w1 ⟨F, g, cg, rfl, hf1, hF, hg, hb1⟩)
    go_ret2
    exact ⟨rfl, hb1⟩
  · have hbi : ¬ (8960 : Int) < (off : Int) := by omega
    have hw : IntKind.i64.wrap (8960 - (off : Int)) = 8960 - (off : Int) := by simp [IntKind.wrap, IntKind.bits, IntKind.signed]; omega
    have hlt : 8960 - (off : Int) < (t.length : Int) := by omega
    go_enter Try.func35, Try.ntmps35
    go_wp2_with (go_at_call 51; refine (HP.out _ HR.out).mono ?_; rintro e w1 ⟨F, g, cg, rfl, hf1, hF, hg, hb1⟩)
    go_ret2
    exact ⟨rfl, hb1⟩
set_option maxHeartbeats 1000000 in
theorem write_nil (A : Option Addr) (c : Nat) (v : Vol) (n off : Nat) (w : World) (hr : RS w A v) (hv : okV v = true) (h1 : 1 ≤ n) (h2 : n ≤ inosV v) (ho : off ≤ 8960) :
    Calls Try.prog 35 #[.slice A v.length c, .int .i64 n, .int .i64 off, .string (mk [])] w fun e w' => ∃ g c', e = .returned (.tuple #[.slice (some ⟨g, 0, none⟩) v.length c', .int .i64 0]) ∧ VS w' g v ∧ w.heap.size ≤ g ∧ Below w.heap.size w w' := by
  have HP := Lib.hid (fun w hr => open_ok A c v n w hr hv h1 h2)
  have HR := Lib.hid hr
  clear hr hv
  have h0 : (0 : Int) ≤ (off : Int) := by omega
  have hbi : ¬ (8960 : Int) < (off : Int) := by omega
  have hw : IntKind.i64.wrap (8960 - (off : Int)) = 8960 - (off : Int) := by simp [IntKind.wrap, IntKind.bits, IntKind.signed]; omega
  have hlt : ¬ 8960 - (off : Int) < 0 := by omega
  go_enter Try.func35, Try.ntmps35
  go_wp2_with (go_at_call 51; refine (HP.out _ HR.out).mono ?_; rintro e w1 ⟨F, g, cg, rfl, hf1, hF, hg, hb1⟩; have c0 : w1.cell? ⟨F, 0, none⟩ = some (.slice (some ⟨g, 0, none⟩) v.length cg) := (by rw [cell_at hf1.blk]; rfl); have HF1 := Lib.hid hf1; clear hf1)
  go_ret2
  exact ⟨g, cg, rfl, HF1.out.vol, hg, hb1⟩
end Go.Proofs.Ytacdohlhalnioaa
