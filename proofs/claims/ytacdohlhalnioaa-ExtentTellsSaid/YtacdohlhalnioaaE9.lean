/- Contracts: Count and Read where there is no such inode. -/
import Derived.Test.YtacdohlhalnioaaE8
set_option linter.unusedVariables false
set_option maxRecDepth 20000
namespace Go.Proofs.Ytacdohlhalnioaa
open Go.RowKit
attribute [local go_sem] Oper.semAt_some

set_option maxHeartbeats 400000 in
theorem count_no (A : Option Addr) (c : Nat) (v : Vol) (n : Int) (w : World) (hr : RS w A v) (h : getE v n ≠ 0) :
    Calls Try.prog 22 #[.slice A v.length c, .int .i64 n] w fun e w' => e = .returned (.int .i64 0) ∧ Below w.heap.size w w' := by
  have HP := Lib.hid (fun w hr => open_no A c v n w hr h)
  have HR := Lib.hid hr
  clear hr
  generalize getE v n = er at *
  have hb : (er == 0) = false := by simpa using h
  have hbn : (er != 0) = true := by simpa using h
  refine callsIn_wide.1 (callsIn_of_wp_marks (n := 3) Try.func22 rfl trivial (wpIn_wide.2 ?_) rfl)
  simp only [Try.ntmps22, List.size_toArray, List.length_cons, List.length_nil, Nat.reduceAdd, Nat.reduceSub, Array.replicate_succ, Array.replicate_zero, List.push_toArray, List.append_toArray, List.nil_append, List.cons_append]
  go_wp2_with (go_at_call 51; refine (HP.out _ HR.out).mono ?_; rintro e w1 ⟨rfl, hb1⟩)
  exact ⟨_, results_tmp rfl _ _ _, rfl, hb1⟩
set_option maxHeartbeats 400000 in
theorem read_no (A : Option Addr) (c : Nat) (v : Vol) (n off sz : Int) (w : World) (hr : RS w A v) (h : getE v n ≠ 0) :
    Calls Try.prog 20 #[.slice A v.length c, .int .i64 n, .int .i64 off, .int .i64 sz] w fun e w' => e = .returned (.tuple #[.string (mk []), .int .i64 (getE v n)]) ∧ Below w.heap.size w w' := by
  have HP := Lib.hid (fun w hr => open_no A c v n w hr h)
  have HR := Lib.hid hr
  clear hr
  generalize getE v n = er at *
  have hb : (er == 0) = false := by simpa using h
  have hbn : (er != 0) = true := by simpa using h
  refine callsIn_wide.1 (callsIn_of_wp_marks (n := 3) Try.func20 rfl trivial (wpIn_wide.2 ?_) rfl)
  simp only [Try.ntmps20, List.size_toArray, List.length_cons, List.length_nil, Nat.reduceAdd, Nat.reduceSub, Array.replicate_succ, Array.replicate_zero, List.push_toArray, List.append_toArray, List.nil_append, List.cons_append]
  go_wp2_with (go_at_call 51; refine (HP.out _ HR.out).mono ?_; rintro e w1 ⟨rfl, hb1⟩)
  exact ⟨_, results_tmp2 rfl _ _ _, rfl, hb1.alloc hb1.size _⟩
set_option maxHeartbeats 1000000 in
theorem read_neg (A : Option Addr) (c : Nat) (v : Vol) (n : Nat) (off sz : Int) (w : World) (hr : RS w A v) (hv : okV v = true) (h1 : 1 ≤ n) (h2 : n ≤ inosV v) (ho : off < 0 ∨ sz < 0) :
    Calls Try.prog 20 #[.slice A v.length c, .int .i64 n, .int .i64 off, .int .i64 sz] w fun e w' => e = .returned (.tuple #[.string (mk []), .int .i64 1]) ∧ Below w.heap.size w w' := by
  have HP := Lib.hid (fun w hr => open_ok A c v n w hr hv h1 h2)
  have HR := Lib.hid hr
  clear hr hv
  have ho' : off < 0 ∨ (0 ≤ off ∧ sz < 0) := by omega
  clear ho
  rcases ho' with ho | ⟨ho, hz⟩
  all_goals
    refine callsIn_wide.1 (callsIn_of_wp_marks (n := 3) Try.func20 rfl trivial (wpIn_wide.2 ?_) rfl)
    simp only [Try.ntmps20, List.size_toArray, List.length_cons, List.length_nil, Nat.reduceAdd, Nat.reduceSub, Array.replicate_succ, Array.replicate_zero, List.push_toArray, List.append_toArray, List.nil_append, List.cons_append]
    go_wp2_with (go_at_call 51; refine (HP.out _ HR.out).mono ?_; rintro e w1 ⟨F, g, cg, rfl, hf1, hF, hg, hb1⟩)
    exact ⟨_, results_tmp2 rfl _ _ _, rfl, hb1.alloc hb1.size _⟩
end Go.Proofs.Ytacdohlhalnioaa
