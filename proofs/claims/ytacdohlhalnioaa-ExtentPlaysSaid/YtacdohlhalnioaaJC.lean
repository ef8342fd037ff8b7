/- Joined: XHA XHB XHC XHD. -/
import Derived.Test.YtacdohlhalnioaaJB
/- Contract: the document's bytes of an inode. -/
section
set_option linter.unusedVariables false
set_option linter.unusedSimpArgs false
set_option maxRecDepth 20000
namespace Go.Proofs.Ytacdohlhalnioaa
open Go.RowKit
attribute [local go_sem] Oper.semAt_some

/-- The bytes of an inode ahead of the block k. -/
def bst (x : Ino) (k : Nat) : Blk := [UInt8.ofNat x.kind, UInt8.ofNat x.owner] ++ ple x.links 2 ++ ple (x.size % 65536) 2 ++ ple (x.size / 65536) 2 ++ (List.range k).flatMap fun j => ple (x.list.getD (4 + j) 0) 2
theorem bst_succ (x : Ino) (k : Nat) : bst x (k + 1) = bst x k ++ ple (x.list.getD (4 + k) 0) 2 := by simp [bst, List.range_succ]
theorem bst_len (x : Ino) (k : Nat) : (bst x k).length = 8 + 2 * k := by
  induction k with
  | zero => simp [bst, ple_length]
  | succ k ih => rw [bst_succ, List.length_append, ih, ple_length]; omega
theorem ple_four (n : Nat) : ple n 4 = ple (n % 65536) 2 ++ ple (n / 65536) 2 := by
  have e : ∀ a, UInt8.ofNat a = UInt8.ofNat (a % 256) := fun a => by
    apply UInt8.toNat_inj.1; simp
  simp only [ple, List.cons_append, List.nil_append]
  rw [e n, e (n % 65536), e (n / 256), e (n % 65536 / 256), show n % 65536 % 256 = n % 256 from by omega, show n % 65536 / 256 % 256 = n / 256 % 256 from by omega, Nat.div_div_eq_div_mul, Nat.div_div_eq_div_mul]
theorem bst_all (x : Ino) : bst x 6 ++ ple x.ind 2 ++ ple x.ext 2 = inoBytes x := by
  have e : List.finRange 12 = [0, 1, 2, 3, 4, 5, 6, 7, 8, 9, 10, 11] := by decide
  have e6 : List.range 6 = [0, 1, 2, 3, 4, 5] := by decide
  rw [inoBytes, bytesTo, e, bst, e6]
  simp only [List.flatMap_cons, List.flatMap_nil, List.append_nil]
  rw [show ple (x.list.getD (foff (3 : Fin 12)) 0) (fsz (3 : Fin 12)) = ple x.size 4 from rfl, ple_four]
  simp only [← List.append_assoc]
  rfl
/-- How many bytes a string has. -/
def sizeS (v : Value) : Nat := match v with
  | .string b => b.size
  | _ => 0
theorem two18_at (m : Nat) (j : Int) (w : World) (hj : j = (m : Int)) (hm : m < 4294967296) :
    Calls Try.prog 132 #[.int .i64 j] w fun e w' => e = .returned (.string (mk (ple m 2))) ∧ Below w.heap.size w w' := by
  subst hj
  exact two18_ok m w hm
theorem zs_succ (j : Nat) : zs j ++ [0] = zs (j + 1) := by simp [zs, List.replicate_succ']
theorem share {G : Option Addr → World → Prop} {R : World → Prop} {C : Prop} (h : (∀ A W, R W → G A W) → C) (t : ∀ A W, R W → G A W) : C := h t
set_option maxHeartbeats 4000000 in
theorem rbytes_ok (x : Ino) (w : World) (hx : fitI x) :
    Calls Try.prog 115 #[.agg #[.int .i64 ((x.kind : Nat) : Int), .int .i64 ((x.links : Nat) : Int), .int .i64 ((x.owner : Nat) : Int), .int .i64 ((x.size : Nat) : Int), .int .i64 ((x.d0 : Nat) : Int), .int .i64 ((x.d1 : Nat) : Int), .int .i64 ((x.d2 : Nat) : Int), .int .i64 ((x.d3 : Nat) : Int), .int .i64 ((x.d4 : Nat) : Int), .int .i64 ((x.d5 : Nat) : Int), .int .i64 ((x.ind : Nat) : Int), .int .i64 ((x.ext : Nat) : Int)]] w fun e w' => e = .returned (.string (mk (inoBytes x ++ zs 40))) ∧ Below w.heap.size w w' := by
  rw [← bst_all]
  have k0 := blk_new w (.cells (xcells x.list) 45)
  have hB1 : Below w.heap.size w (w.alloc (.cells (xcells x.list) 45)) := (Below.refl _ _).alloc (Nat.le_refl _) _
  obtain ⟨c0, c1, c2, c3, c4, c5, c6, c7, c8, c9, c10, c11⟩ := cells12 (a0 := .int .i64 ((x.kind : Nat) : Int)) k0
  have hd := dir_lt hx
  obtain ⟨h0, h1, h2, h3, h4, h5, h6, h7, h8, h9, h10, h11⟩ := fitI_iff.1 hx
  have HD := Lib.hid hd
  have H := Lib.hid (And.intro h0 (And.intro h1 (And.intro h2 (And.intro h3 (And.intro h10 h11)))))
  obtain ⟨r0, hr0⟩ : ∃ r0, x.kind = r0 := ⟨_, rfl⟩
  obtain ⟨q0, hq0⟩ : ∃ q0, x.owner = q0 := ⟨_, rfl⟩
  obtain ⟨rs, hrs⟩ : ∃ rs, x.size % 65536 = rs := ⟨_, rfl⟩
  obtain ⟨qs, hqs⟩ : ∃ qs, x.size / 65536 = qs := ⟨_, rfl⟩
  have hs0 : bst x 0 = [UInt8.ofNat r0, UInt8.ofNat q0] ++ ple x.links 2 ++ ple rs 2 ++ ple qs 2 := by rw [bst, hr0, hq0, hrs, hqs]; simp
  have hwu0 : IntKind.u8.wrap ((x.kind : Nat) : Int) = (r0 : Int) := by rw [wrap_u8]; omega
  have hwu1 : IntKind.u8.wrap ((x.owner : Nat) : Int) = (q0 : Int) := by rw [wrap_u8]; omega
  have hrm : ((x.size : Nat) : Int).tmod 65536 = (rs : Int) := by rw [Int.tmod_eq_emod_of_nonneg (by omega)]; omega
  have hqm : ((x.size : Nat) : Int) / 65536 = (qs : Int) := by omega
  have hwq : IntKind.i64.wrap (qs : Int) = (qs : Int) := by simp [IntKind.wrap, IntKind.bits, IntKind.signed]; omega
  have hz1 : rs < 65536 := by omega
  have hz2 : qs < 65536 := by omega
  have HST : Hid (∀ (W : World) (g : Nat), W.heap[g]? = some (.cells #[.int .u8 r0, .int .u8 q0] 5 (0, 0)) → (convert 62 9 (.slice (some ⟨g, 0, none⟩) 2 2)).run Try.prog W = .ok (.string (mk [UInt8.ofNat r0, UInt8.ofNat q0])) W) := Lib.hid (fun W g hg => str_of_u8 W g 0 2 2 _ rfl (fun j hj => by
    rw [Nat.zero_add, cell_at hg]
    have e0 : (UInt8.ofNat r0).toNat = r0 := by simp; omega
    have e1 : (UInt8.ofNat q0).toNat = q0 := by simp; omega
    rcases (by omega : j = 0 ∨ j = 1) with rfl | rfl
    · simp [gb, e0]
    · simp [gb, e1]))
  rw [show (#[.int .i64 ((x.kind : Nat) : Int), .int .i64 ((x.links : Nat) : Int), .int .i64 ((x.owner : Nat) : Int), .int .i64 ((x.size : Nat) : Int), .int .i64 ((x.d0 : Nat) : Int), .int .i64 ((x.d1 : Nat) : Int), .int .i64 ((x.d2 : Nat) : Int), .int .i64 ((x.d3 : Nat) : Int), .int .i64 ((x.d4 : Nat) : Int), .int .i64 ((x.d5 : Nat) : Int), .int .i64 ((x.ind : Nat) : Int), .int .i64 ((x.ext : Nat) : Int)] : Array Value) = xcells x.list from rfl]
  have HS0 := Lib.hid hs0
  clear hd hx h0 h1 h2 h3 h4 h5 h6 h7 h8 h9 h10 h11 hr0 hq0 hrs hqs hs0 c4 c5 c6 c7 c8 c9 c10 c11
  go_enter Try.func115, Try.ntmps115
  go_wp2
  have C := Lib.hid (And.intro c0 (And.intro c1 (And.intro c2 c3)))
  have K0 := Lib.hid k0
  have HB1 := Lib.hid hB1
  clear c0 c1 c2 c3 k0 hB1
  apply share (R := fun W => W.heap[w.heap.size]? = some (.cells (xcells x.list) 45 (0, 0)) ∧ Below w.heap.size w W)
  case h =>
    intro TAIL
    refine region_P (fun w' => w'.cell? ⟨w.heap.size, 0, none⟩ = some (.int .i64 ((x.kind : Nat) : Int)) ∧ w'.cell? ⟨w.heap.size, 1, none⟩ = some (.int .i64 ((x.links : Nat) : Int)) ∧ w'.cell? ⟨w.heap.size, 2, none⟩ = some (.int .i64 ((x.owner : Nat) : Int)) ∧ w'.cell? ⟨w.heap.size, 3, none⟩ = some (.int .i64 ((x.size : Nat) : Int))) [] (by kernel_rfl) ?_ (fun hHeld => ?_)
    · exact C.out
    obtain ⟨W0, hW0⟩ : ∃ W0, (w.alloc (.cells (xcells x.list) 45)).drew = W0 := ⟨_, rfl⟩
    have HX : Hid (W0.heap[w.heap.size]? = some (.cells (xcells x.list) 45 (0, 0))) := Lib.hid (by rw [← hW0]; exact K0.out)
    have HB : Hid (Below w.heap.size w W0) := Lib.hid (by rw [← hW0]; exact HB1.out.drew)
    rw [hW0] at hHeld ⊢
    clear hW0
    refine wpP_take (i := 0) (oi := ?oi880001) (v := ?v880001) ?hi880001 (by kernel_rfl) (by kernel_rfl) (by kernel_rfl) (by kernel_rfl) ?hQ880001 ?hy880001 (by assumption) ?rest880001
    case hi880001 => (simp only [List.getElem?_toArray, List.getElem?_cons_succ, List.getElem?_cons_zero]; exact rfl)
    case hQ880001 => exact fun _ _ _ h => h
    case hy880001 => (refine Or.inl ⟨by kernel_rfl, ?_⟩; intro w hSw; (try dsimp only at hSw); go_simp; try (with_reducible rfl))
    try simp only [Act.put, List.setIfInBounds_toArray, List.set_cons_zero, List.set_cons_succ]
    refine wpP_take (i := 1) (oi := ?oi880002) (v := ?v880002) ?hi880002 (by kernel_rfl) (by kernel_rfl) (by kernel_rfl) (by kernel_rfl) ?hQ880002 ?hy880002 (by assumption) ?rest880002
    case hi880002 => (simp only [List.getElem?_toArray, List.getElem?_cons_succ, List.getElem?_cons_zero]; exact rfl)
    case hQ880002 => exact fun _ _ _ h => h
    case hy880002 => (refine Or.inl ⟨by kernel_rfl, ?_⟩; intro w hSw; (try dsimp only at hSw); go_simp; try (with_reducible rfl))
    try simp only [Act.put, List.setIfInBounds_toArray, List.set_cons_zero, List.set_cons_succ]
    refine wpP_take (i := 2) (oi := ?oi880003) (v := ?v880003) ?hi880003 (by kernel_rfl) (by kernel_rfl) (by kernel_rfl) (by kernel_rfl) ?hQ880003 ?hy880003 (by assumption) ?rest880003
    case hi880003 => (simp only [List.getElem?_toArray, List.getElem?_cons_succ, List.getElem?_cons_zero]; exact rfl)
    case hQ880003 => exact fun _ _ _ h => h
    case hy880003 => (refine Or.inl ⟨by kernel_rfl, ?_⟩; intro w hSw; (try dsimp only at hSw); go_simp; try (with_reducible rfl))
    try simp only [Act.put, List.setIfInBounds_toArray, List.set_cons_zero, List.set_cons_succ]
    refine wpP_take (i := 3) (oi := ?oi880004) (v := ?v880004) ?hi880004 (by kernel_rfl) (by kernel_rfl) (by kernel_rfl) (by kernel_rfl) ?hQ880004 ?hy880004 (by assumption) ?rest880004
    case hi880004 => (simp only [List.getElem?_toArray, List.getElem?_cons_succ, List.getElem?_cons_zero]; exact rfl)
    case hQ880004 => exact fun _ _ _ h => h
    case hy880004 => (refine Or.inl ⟨by kernel_rfl, ?_⟩; intro w hSw; (try dsimp only at hSw); go_simp; try (with_reducible rfl))
    try simp only [Act.put, List.setIfInBounds_toArray, List.set_cons_zero, List.set_cons_succ]
    refine wpP_take (i := 4) (oi := ?oi880005) (v := ?v880005) ?hi880005 (by kernel_rfl) (by kernel_rfl) (by kernel_rfl) (by kernel_rfl) ?hQ880005 ?hy880005 (by assumption) ?rest880005
    case hi880005 => (simp only [List.getElem?_toArray, List.getElem?_cons_succ, List.getElem?_cons_zero]; exact rfl)
    case hQ880005 => exact fun _ _ _ h => h
    case hy880005 => (refine Or.inl ⟨by kernel_rfl, ?_⟩; intro w hSw; (try dsimp only at hSw); go_simp; try (with_reducible rfl))
    try simp only [Act.put, List.setIfInBounds_toArray, List.set_cons_zero, List.set_cons_succ]
    refine wpP_take (i := 5) (oi := ?oi880006) (v := ?v880006) ?hi880006 (by kernel_rfl) (by kernel_rfl) (by kernel_rfl) (by kernel_rfl) ?hQ880006 ?hy880006 (by assumption) ?rest880006
    case hi880006 => (simp only [List.getElem?_toArray, List.getElem?_cons_succ, List.getElem?_cons_zero]; exact rfl)
    case hQ880006 => exact fun _ _ _ h => h
    case hy880006 => (refine Or.inl ⟨by kernel_rfl, ?_⟩; intro w hSw; (try dsimp only at hSw); go_simp; try (with_reducible rfl))
    try simp only [Act.put, List.setIfInBounds_toArray, List.set_cons_zero, List.set_cons_succ]
    refine wpP_take (i := 8) (oi := ?oi880007) (v := ?v880007) ?hi880007 (by kernel_rfl) (by kernel_rfl) (by kernel_rfl) (by kernel_rfl) ?hQ880007 ?hy880007 (by assumption) ?rest880007
    case hi880007 => (simp only [List.getElem?_toArray, List.getElem?_cons_succ, List.getElem?_cons_zero]; exact rfl)
    case hQ880007 => exact fun _ _ _ h => h
    case hy880007 => (refine Or.inl ⟨by kernel_rfl, ?_⟩; intro w hSw; (try dsimp only at hSw); go_simp; try (with_reducible rfl))
    try simp only [Act.put, List.setIfInBounds_toArray, List.set_cons_zero, List.set_cons_succ]
    refine wpP_take (i := 9) (oi := ?oi880008) (v := ?v880008) ?hi880008 (by kernel_rfl) (by kernel_rfl) (by kernel_rfl) (by kernel_rfl) ?hQ880008 ?hy880008 (by assumption) ?rest880008
    case hi880008 => (simp only [List.getElem?_toArray, List.getElem?_cons_succ, List.getElem?_cons_zero]; exact rfl)
    case hQ880008 => exact fun _ _ _ h => h
    case hy880008 => (refine Or.inl ⟨by kernel_rfl, ?_⟩; intro w hSw; (try dsimp only at hSw); go_simp; try (with_reducible rfl))
    try simp only [Act.put, List.setIfInBounds_toArray, List.set_cons_zero, List.set_cons_succ]
    refine wpP_take (i := 12) (oi := ?oi880009) (v := ?v880009) ?hi880009 (by kernel_rfl) (by kernel_rfl) (by kernel_rfl) (by kernel_rfl) ?hQ880009 ?hy880009 (by assumption) ?rest880009
    case hi880009 => (simp only [List.getElem?_toArray, List.getElem?_cons_succ, List.getElem?_cons_zero]; exact rfl)
    case hQ880009 => exact fun _ _ _ h => h
    case hy880009 => (refine Or.inl ⟨by kernel_rfl, ?_⟩; intro w hSw; (try dsimp only at hSw); go_simp; try (with_reducible rfl))
    try simp only [Act.put, List.setIfInBounds_toArray, List.set_cons_zero, List.set_cons_succ]
    refine wpP_take (i := 13) (oi := ?oi880010) (v := ?v880010) ?hi880010 (by kernel_rfl) (by kernel_rfl) (by kernel_rfl) (by kernel_rfl) ?hQ880010 ?hy880010 (by assumption) ?rest880010
    case hi880010 => (simp only [List.getElem?_toArray, List.getElem?_cons_succ, List.getElem?_cons_zero]; exact rfl)
    case hQ880010 => exact fun _ _ _ h => h
    case hy880010 => (refine Or.inl ⟨by kernel_rfl, ?_⟩; intro w hSw; (try dsimp only at hSw); go_simp; try (with_reducible rfl))
    try simp only [Act.put, List.setIfInBounds_toArray, List.set_cons_zero, List.set_cons_succ]
    refine wpP_take (i := 14) (oi := ?oi880011) (v := ?v880011) ?hi880011 (by kernel_rfl) (by kernel_rfl) (by kernel_rfl) (by kernel_rfl) ?hQ880011 ?hy880011 (by assumption) ?rest880011
    case hi880011 => (simp only [List.getElem?_toArray, List.getElem?_cons_succ, List.getElem?_cons_zero]; exact rfl)
    case hQ880011 => exact fun _ _ _ h => h
    case hy880011 => (refine Or.inl ⟨by kernel_rfl, ?_⟩; intro w hSw; (try dsimp only at hSw); go_simp; try (with_reducible rfl))
    try simp only [Act.put, List.setIfInBounds_toArray, List.set_cons_zero, List.set_cons_succ]
    refine wpP_take (i := 17) (oi := ?oi880012) (v := ?v880012) ?hi880012 (by kernel_rfl) (by kernel_rfl) (by kernel_rfl) (by kernel_rfl) ?hQ880012 ?hy880012 (by assumption) ?rest880012
    case hi880012 => (simp only [List.getElem?_toArray, List.getElem?_cons_succ, List.getElem?_cons_zero]; exact rfl)
    case hQ880012 => exact fun _ _ _ h => h
    case hy880012 => (refine Or.inl ⟨by kernel_rfl, ?_⟩; intro w hSw; (try dsimp only at hSw); go_simp; try (with_reducible rfl))
    try simp only [Act.put, List.setIfInBounds_toArray, List.set_cons_zero, List.set_cons_succ]
    refine wpP_take (i := 18) (oi := ?oi880013) (v := ?v880013) ?hi880013 (by kernel_rfl) (by kernel_rfl) (by kernel_rfl) (by kernel_rfl) ?hQ880013 ?hy880013 (by assumption) ?rest880013
    case hi880013 => (simp only [List.getElem?_toArray, List.getElem?_cons_succ, List.getElem?_cons_zero]; exact rfl)
    case hQ880013 => exact fun _ _ _ h => h
    case hy880013 => (refine Or.inl ⟨by kernel_rfl, ?_⟩; intro w hSw; (try dsimp only at hSw); go_simp; try (with_reducible rfl))
    try simp only [Act.put, List.setIfInBounds_toArray, List.set_cons_zero, List.set_cons_succ]
    refine wpP_take (i := 19) (oi := ?oi880014) (v := ?v880014) ?hi880014 (by kernel_rfl) (by kernel_rfl) (by kernel_rfl) (by kernel_rfl) ?hQ880014 ?hy880014 (by assumption) ?rest880014
    case hi880014 => (simp only [List.getElem?_toArray, List.getElem?_cons_succ, List.getElem?_cons_zero]; exact rfl)
    case hQ880014 => exact fun _ _ _ h => h
    case hy880014 => (refine Or.inl ⟨by kernel_rfl, ?_⟩; intro w hSw; (try dsimp only at hSw); go_simp; try (with_reducible rfl))
    try simp only [Act.put, List.setIfInBounds_toArray, List.set_cons_zero, List.set_cons_succ]
    refine wpP_ready (rs := [6, 10]) (by kernel_rfl) (by simp) ?_
    refine AllP.cons (o := ?o880015) ?ho880015 (fun K hK => ?al880015) (AllP.cons (o := ?oo880015) ?hoo880015 (fun K hK => ?ca880015) AllP.nil)
    case ho880015 => (simp only [List.getElem?_toArray, List.getElem?_cons_succ, List.getElem?_cons_zero]; exact rfl)
    case hoo880015 => (simp only [List.getElem?_toArray, List.getElem?_cons_succ, List.getElem?_cons_zero]; exact rfl)
    case' al880015 =>
      go_simp
      have HCELL := Lib.hid (blk_new W0 (.cells #[.int .u8 r0, .int .u8 q0] 5))
      have hb : Below W0.heap.size W0 (W0.alloc (.cells #[.int .u8 r0, .int .u8 q0] 5)) := ((Below.refl _ _).alloc (Nat.le_refl _) _)
      have HX := Lib.hid (blk_keep HX.out hb)
      have HB := Lib.hid (below_keep HB.out (Nat.le_refl _) hb)
      refine hK.out _ _ ?_ (fun hHeld => ?_)
      · exact ⟨cell_keep hHeld.1 hb, cell_keep hHeld.2.1 hb, cell_keep hHeld.2.2.1 hb, cell_keep hHeld.2.2.2 hb⟩
      clear hK K hb
      try simp only [Act.put, List.setIfInBounds_toArray, List.set_cons_zero, List.set_cons_succ]
      refine wpP_ready (rs := [7, 10]) (by kernel_rfl) (by simp) ?_
      refine AllP.cons (o := ?o880016) ?ho880016 (fun K hK => ?al880016) (AllP.cons (o := ?oo880016) ?hoo880016 (fun K hK => ?ca880016) AllP.nil)
      case ho880016 => (simp only [List.getElem?_toArray, List.getElem?_cons_succ, List.getElem?_cons_zero]; exact rfl)
      case hoo880016 => (simp only [List.getElem?_toArray, List.getElem?_cons_succ, List.getElem?_cons_zero]; exact rfl)
      case' al880016 =>
        have hst := HST.out _ _ HCELL.out
        go_simp
        clear hst
        refine hK.out _ _ ?_ (fun hHeld => ?_)
        · exact hHeld
        clear hK K
        try simp only [Act.put, List.setIfInBounds_toArray, List.set_cons_zero, List.set_cons_succ]
        refine wpP_ready (rs := [10]) (by kernel_rfl) (by simp) ?_
        refine AllP.cons (o := ?o880017) ?ho880017 (fun K hK => ?ca880017) AllP.nil
        case ho880017 => (simp only [List.getElem?_toArray, List.getElem?_cons_succ, List.getElem?_cons_zero]; exact rfl)
        case' ca880017 =>
          go_simp
          go_at_call 132
          refine (two18_ok _ _ (by have := H.out; omega)).mono ?_
          rintro e w880018 ⟨rfl, hb⟩
          have HX := Lib.hid (blk_keep HX.out hb)
          have HB := Lib.hid (below_keep HB.out (Nat.le_refl _) hb)
          refine hK.out _ _ ?_ (fun hHeld => ?_)
          · exact ⟨cell_keep hHeld.1 hb, cell_keep hHeld.2.1 hb, cell_keep hHeld.2.2.1 hb, cell_keep hHeld.2.2.2 hb⟩
          clear hK K hb
          try simp only [Act.put, List.setIfInBounds_toArray, List.set_cons_zero, List.set_cons_succ]
          refine wpP_take (i := 11) (oi := ?oi880019) (v := ?v880019) ?hi880019 (by kernel_rfl) (by kernel_rfl) (by kernel_rfl) (by kernel_rfl) ?hQ880019 ?hy880019 (by assumption) ?rest880019
          case hi880019 => (simp only [List.getElem?_toArray, List.getElem?_cons_succ, List.getElem?_cons_zero]; exact rfl)
          case hQ880019 => exact fun _ _ _ h => h
          case hy880019 => (refine Or.inl ⟨by kernel_rfl, ?_⟩; intro w hSw; (try dsimp only at hSw); go_simp; try (with_reducible rfl))
          try simp only [Act.put, List.setIfInBounds_toArray, List.set_cons_zero, List.set_cons_succ]
          refine wpP_ready (rs := [15]) (by kernel_rfl) (by simp) ?_
          refine AllP.cons (o := ?o880020) ?ho880020 (fun K hK => ?ca880020) AllP.nil
          case ho880020 => (simp only [List.getElem?_toArray, List.getElem?_cons_succ, List.getElem?_cons_zero]; exact rfl)
          case' ca880020 =>
            go_simp
            go_at_call 132
            refine (two18_ok _ _ (by have := H.out; omega)).mono ?_
            rintro e w880021 ⟨rfl, hb⟩
            have HX := Lib.hid (blk_keep HX.out hb)
            have HB := Lib.hid (below_keep HB.out (Nat.le_refl _) hb)
            refine hK.out _ _ ?_ (fun hHeld => ?_)
            · exact ⟨cell_keep hHeld.1 hb, cell_keep hHeld.2.1 hb, cell_keep hHeld.2.2.1 hb, cell_keep hHeld.2.2.2 hb⟩
            clear hK K hb
            try simp only [Act.put, List.setIfInBounds_toArray, List.set_cons_zero, List.set_cons_succ]
            refine wpP_take (i := 16) (oi := ?oi880022) (v := ?v880022) ?hi880022 (by kernel_rfl) (by kernel_rfl) (by kernel_rfl) (by kernel_rfl) ?hQ880022 ?hy880022 (by assumption) ?rest880022
            case hi880022 => (simp only [List.getElem?_toArray, List.getElem?_cons_succ, List.getElem?_cons_zero]; exact rfl)
            case hQ880022 => exact fun _ _ _ h => h
            case hy880022 => (refine Or.inl ⟨by kernel_rfl, ?_⟩; intro w hSw; (try dsimp only at hSw); go_simp; try (with_reducible rfl))
            try simp only [Act.put, List.setIfInBounds_toArray, List.set_cons_zero, List.set_cons_succ]
            refine wpP_ready (rs := [20]) (by kernel_rfl) (by simp) ?_
            refine AllP.cons (o := ?o880023) ?ho880023 (fun K hK => ?ca880023) AllP.nil
            case ho880023 => (simp only [List.getElem?_toArray, List.getElem?_cons_succ, List.getElem?_cons_zero]; exact rfl)
            case' ca880023 =>
              go_simp
              go_at_call 132
              refine (two18_ok _ _ (by have := H.out; omega)).mono ?_
              rintro e w880024 ⟨rfl, hb⟩
              have HX := Lib.hid (blk_keep HX.out hb)
              have HB := Lib.hid (below_keep HB.out (Nat.le_refl _) hb)
              refine hK.out _ _ ?_ (fun hHeld => ?_)
              · exact ⟨cell_keep hHeld.1 hb, cell_keep hHeld.2.1 hb, cell_keep hHeld.2.2.1 hb, cell_keep hHeld.2.2.2 hb⟩
              clear hK K hb
              try simp only [Act.put, List.setIfInBounds_toArray, List.set_cons_zero, List.set_cons_succ]
              refine wpP_take (i := 21) (oi := ?oi880025) (v := ?v880025) ?hi880025 (by kernel_rfl) (by kernel_rfl) (by kernel_rfl) (by kernel_rfl) ?hQ880025 ?hy880025 (by assumption) ?rest880025
              case hi880025 => (simp only [List.getElem?_toArray, List.getElem?_cons_succ, List.getElem?_cons_zero]; exact rfl)
              case hQ880025 => exact fun _ _ _ h => h
              case hy880025 => (refine Or.inl ⟨by kernel_rfl, ?_⟩; intro w hSw; (try dsimp only at hSw); go_simp; try (with_reducible rfl))
              try simp only [Act.put, List.setIfInBounds_toArray, List.set_cons_zero, List.set_cons_succ]
              refine wpP_take (i := 22) (oi := ?oi880026) (v := ?v880026) ?hi880026 (by kernel_rfl) (by kernel_rfl) (by kernel_rfl) (by kernel_rfl) ?hQ880026 ?hy880026 (by assumption) ?rest880026
              case hi880026 => (simp only [List.getElem?_toArray, List.getElem?_cons_succ, List.getElem?_cons_zero]; exact rfl)
              case hQ880026 => exact fun _ _ _ h => h
              case hy880026 => (refine Or.inl ⟨by kernel_rfl, ?_⟩; intro w hSw; (try dsimp only at hSw); go_simp; try (with_reducible rfl))
              try simp only [Act.put, List.setIfInBounds_toArray, List.set_cons_zero, List.set_cons_succ]
              refine wpP_done (by kernel_rfl) ?_ _
              generalize (some ⟨W0.heap.size, 0, none⟩ : Option Addr) = AA
              have hR := And.intro HX.out HB.out
              clear hHeld HX HB HCELL
              exact TAIL AA w880024 hR
      case' ca880016 =>
        go_simp
        go_at_call 132
        refine (two18_ok _ _ (by have := H.out; omega)).mono ?_
        rintro e w880027 ⟨rfl, hb⟩
        have HX := Lib.hid (blk_keep HX.out hb)
        have HB := Lib.hid (below_keep HB.out (Nat.le_refl _) hb)
        have HCELL := Lib.hid (blk_keep HCELL.out hb)
        refine hK.out _ _ ?_ (fun hHeld => ?_)
        · exact ⟨cell_keep hHeld.1 hb, cell_keep hHeld.2.1 hb, cell_keep hHeld.2.2.1 hb, cell_keep hHeld.2.2.2 hb⟩
        clear hK K hb
        try simp only [Act.put, List.setIfInBounds_toArray, List.set_cons_zero, List.set_cons_succ]
        refine wpP_ready (rs := [7, 15]) (by kernel_rfl) (by simp) ?_
        refine AllP.cons (o := ?o880028) ?ho880028 (fun K hK => ?al880028) (AllP.cons (o := ?oo880028) ?hoo880028 (fun K hK => ?ca880028) AllP.nil)
        case ho880028 => (simp only [List.getElem?_toArray, List.getElem?_cons_succ, List.getElem?_cons_zero]; exact rfl)
        case hoo880028 => (simp only [List.getElem?_toArray, List.getElem?_cons_succ, List.getElem?_cons_zero]; exact rfl)
        case' al880028 =>
          have hst := HST.out _ _ HCELL.out
          go_simp
          clear hst
          refine hK.out _ _ ?_ (fun hHeld => ?_)
          · exact hHeld
          clear hK K
          try simp only [Act.put, List.setIfInBounds_toArray, List.set_cons_zero, List.set_cons_succ]
          refine wpP_take (i := 11) (oi := ?oi880029) (v := ?v880029) ?hi880029 (by kernel_rfl) (by kernel_rfl) (by kernel_rfl) (by kernel_rfl) ?hQ880029 ?hy880029 (by assumption) ?rest880029
          case hi880029 => (simp only [List.getElem?_toArray, List.getElem?_cons_succ, List.getElem?_cons_zero]; exact rfl)
          case hQ880029 => exact fun _ _ _ h => h
          case hy880029 => (refine Or.inl ⟨by kernel_rfl, ?_⟩; intro w hSw; (try dsimp only at hSw); go_simp; try (with_reducible rfl))
          try simp only [Act.put, List.setIfInBounds_toArray, List.set_cons_zero, List.set_cons_succ]
          refine wpP_ready (rs := [15]) (by kernel_rfl) (by simp) ?_
          refine AllP.cons (o := ?o880030) ?ho880030 (fun K hK => ?ca880030) AllP.nil
          case ho880030 => (simp only [List.getElem?_toArray, List.getElem?_cons_succ, List.getElem?_cons_zero]; exact rfl)
          case' ca880030 =>
            go_simp
            go_at_call 132
            refine (two18_ok _ _ (by have := H.out; omega)).mono ?_
            rintro e w880031 ⟨rfl, hb⟩
            have HX := Lib.hid (blk_keep HX.out hb)
            have HB := Lib.hid (below_keep HB.out (Nat.le_refl _) hb)
            refine hK.out _ _ ?_ (fun hHeld => ?_)
            · exact ⟨cell_keep hHeld.1 hb, cell_keep hHeld.2.1 hb, cell_keep hHeld.2.2.1 hb, cell_keep hHeld.2.2.2 hb⟩
            clear hK K hb
            try simp only [Act.put, List.setIfInBounds_toArray, List.set_cons_zero, List.set_cons_succ]
            refine wpP_take (i := 16) (oi := ?oi880032) (v := ?v880032) ?hi880032 (by kernel_rfl) (by kernel_rfl) (by kernel_rfl) (by kernel_rfl) ?hQ880032 ?hy880032 (by assumption) ?rest880032
            case hi880032 => (simp only [List.getElem?_toArray, List.getElem?_cons_succ, List.getElem?_cons_zero]; exact rfl)
            case hQ880032 => exact fun _ _ _ h => h
            case hy880032 => (refine Or.inl ⟨by kernel_rfl, ?_⟩; intro w hSw; (try dsimp only at hSw); go_simp; try (with_reducible rfl))
            try simp only [Act.put, List.setIfInBounds_toArray, List.set_cons_zero, List.set_cons_succ]
            refine wpP_ready (rs := [20]) (by kernel_rfl) (by simp) ?_
            refine AllP.cons (o := ?o880033) ?ho880033 (fun K hK => ?ca880033) AllP.nil
            case ho880033 => (simp only [List.getElem?_toArray, List.getElem?_cons_succ, List.getElem?_cons_zero]; exact rfl)
            case' ca880033 =>
              go_simp
              go_at_call 132
              refine (two18_ok _ _ (by have := H.out; omega)).mono ?_
              rintro e w880034 ⟨rfl, hb⟩
              have HX := Lib.hid (blk_keep HX.out hb)
              have HB := Lib.hid (below_keep HB.out (Nat.le_refl _) hb)
              refine hK.out _ _ ?_ (fun hHeld => ?_)
              · exact ⟨cell_keep hHeld.1 hb, cell_keep hHeld.2.1 hb, cell_keep hHeld.2.2.1 hb, cell_keep hHeld.2.2.2 hb⟩
              clear hK K hb
              try simp only [Act.put, List.setIfInBounds_toArray, List.set_cons_zero, List.set_cons_succ]
              refine wpP_take (i := 21) (oi := ?oi880035) (v := ?v880035) ?hi880035 (by kernel_rfl) (by kernel_rfl) (by kernel_rfl) (by kernel_rfl) ?hQ880035 ?hy880035 (by assumption) ?rest880035
              case hi880035 => (simp only [List.getElem?_toArray, List.getElem?_cons_succ, List.getElem?_cons_zero]; exact rfl)
              case hQ880035 => exact fun _ _ _ h => h
              case hy880035 => (refine Or.inl ⟨by kernel_rfl, ?_⟩; intro w hSw; (try dsimp only at hSw); go_simp; try (with_reducible rfl))
              try simp only [Act.put, List.setIfInBounds_toArray, List.set_cons_zero, List.set_cons_succ]
              refine wpP_take (i := 22) (oi := ?oi880036) (v := ?v880036) ?hi880036 (by kernel_rfl) (by kernel_rfl) (by kernel_rfl) (by kernel_rfl) ?hQ880036 ?hy880036 (by assumption) ?rest880036
              case hi880036 => (simp only [List.getElem?_toArray, List.getElem?_cons_succ, List.getElem?_cons_zero]; exact rfl)
              case hQ880036 => exact fun _ _ _ h => h
              case hy880036 => (refine Or.inl ⟨by kernel_rfl, ?_⟩; intro w hSw; (try dsimp only at hSw); go_simp; try (with_reducible rfl))
              try simp only [Act.put, List.setIfInBounds_toArray, List.set_cons_zero, List.set_cons_succ]
              refine wpP_done (by kernel_rfl) ?_ _
              generalize (some ⟨W0.heap.size, 0, none⟩ : Option Addr) = AA
              have hR := And.intro HX.out HB.out
              clear hHeld HX HB HCELL
              exact TAIL AA w880034 hR
        case' ca880028 =>
          go_simp
          go_at_call 132
          refine (two18_ok _ _ (by have := H.out; omega)).mono ?_
          rintro e w880037 ⟨rfl, hb⟩
          have HX := Lib.hid (blk_keep HX.out hb)
          have HB := Lib.hid (below_keep HB.out (Nat.le_refl _) hb)
          have HCELL := Lib.hid (blk_keep HCELL.out hb)
          refine hK.out _ _ ?_ (fun hHeld => ?_)
          · exact ⟨cell_keep hHeld.1 hb, cell_keep hHeld.2.1 hb, cell_keep hHeld.2.2.1 hb, cell_keep hHeld.2.2.2 hb⟩
          clear hK K hb
          try simp only [Act.put, List.setIfInBounds_toArray, List.set_cons_zero, List.set_cons_succ]
          refine wpP_ready (rs := [7, 20]) (by kernel_rfl) (by simp) ?_
          refine AllP.cons (o := ?o880038) ?ho880038 (fun K hK => ?al880038) (AllP.cons (o := ?oo880038) ?hoo880038 (fun K hK => ?ca880038) AllP.nil)
          case ho880038 => (simp only [List.getElem?_toArray, List.getElem?_cons_succ, List.getElem?_cons_zero]; exact rfl)
          case hoo880038 => (simp only [List.getElem?_toArray, List.getElem?_cons_succ, List.getElem?_cons_zero]; exact rfl)
          case' al880038 =>
            have hst := HST.out _ _ HCELL.out
            go_simp
            clear hst
            refine hK.out _ _ ?_ (fun hHeld => ?_)
            · exact hHeld
            clear hK K
            try simp only [Act.put, List.setIfInBounds_toArray, List.set_cons_zero, List.set_cons_succ]
            refine wpP_take (i := 11) (oi := ?oi880039) (v := ?v880039) ?hi880039 (by kernel_rfl) (by kernel_rfl) (by kernel_rfl) (by kernel_rfl) ?hQ880039 ?hy880039 (by assumption) ?rest880039
            case hi880039 => (simp only [List.getElem?_toArray, List.getElem?_cons_succ, List.getElem?_cons_zero]; exact rfl)
            case hQ880039 => exact fun _ _ _ h => h
            case hy880039 => (refine Or.inl ⟨by kernel_rfl, ?_⟩; intro w hSw; (try dsimp only at hSw); go_simp; try (with_reducible rfl))
            try simp only [Act.put, List.setIfInBounds_toArray, List.set_cons_zero, List.set_cons_succ]
            refine wpP_take (i := 16) (oi := ?oi880040) (v := ?v880040) ?hi880040 (by kernel_rfl) (by kernel_rfl) (by kernel_rfl) (by kernel_rfl) ?hQ880040 ?hy880040 (by assumption) ?rest880040
            case hi880040 => (simp only [List.getElem?_toArray, List.getElem?_cons_succ, List.getElem?_cons_zero]; exact rfl)
            case hQ880040 => exact fun _ _ _ h => h
            case hy880040 => (refine Or.inl ⟨by kernel_rfl, ?_⟩; intro w hSw; (try dsimp only at hSw); go_simp; try (with_reducible rfl))
            try simp only [Act.put, List.setIfInBounds_toArray, List.set_cons_zero, List.set_cons_succ]
            refine wpP_ready (rs := [20]) (by kernel_rfl) (by simp) ?_
            refine AllP.cons (o := ?o880041) ?ho880041 (fun K hK => ?ca880041) AllP.nil
            case ho880041 => (simp only [List.getElem?_toArray, List.getElem?_cons_succ, List.getElem?_cons_zero]; exact rfl)
            case' ca880041 =>
              go_simp
              go_at_call 132
              refine (two18_ok _ _ (by have := H.out; omega)).mono ?_
              rintro e w880042 ⟨rfl, hb⟩
              have HX := Lib.hid (blk_keep HX.out hb)
              have HB := Lib.hid (below_keep HB.out (Nat.le_refl _) hb)
              refine hK.out _ _ ?_ (fun hHeld => ?_)
              · exact ⟨cell_keep hHeld.1 hb, cell_keep hHeld.2.1 hb, cell_keep hHeld.2.2.1 hb, cell_keep hHeld.2.2.2 hb⟩
              clear hK K hb
              try simp only [Act.put, List.setIfInBounds_toArray, List.set_cons_zero, List.set_cons_succ]
              refine wpP_take (i := 21) (oi := ?oi880043) (v := ?v880043) ?hi880043 (by kernel_rfl) (by kernel_rfl) (by kernel_rfl) (by kernel_rfl) ?hQ880043 ?hy880043 (by assumption) ?rest880043
              case hi880043 => (simp only [List.getElem?_toArray, List.getElem?_cons_succ, List.getElem?_cons_zero]; exact rfl)
              case hQ880043 => exact fun _ _ _ h => h
              case hy880043 => (refine Or.inl ⟨by kernel_rfl, ?_⟩; intro w hSw; (try dsimp only at hSw); go_simp; try (with_reducible rfl))
              try simp only [Act.put, List.setIfInBounds_toArray, List.set_cons_zero, List.set_cons_succ]
              refine wpP_take (i := 22) (oi := ?oi880044) (v := ?v880044) ?hi880044 (by kernel_rfl) (by kernel_rfl) (by kernel_rfl) (by kernel_rfl) ?hQ880044 ?hy880044 (by assumption) ?rest880044
              case hi880044 => (simp only [List.getElem?_toArray, List.getElem?_cons_succ, List.getElem?_cons_zero]; exact rfl)
              case hQ880044 => exact fun _ _ _ h => h
              case hy880044 => (refine Or.inl ⟨by kernel_rfl, ?_⟩; intro w hSw; (try dsimp only at hSw); go_simp; try (with_reducible rfl))
              try simp only [Act.put, List.setIfInBounds_toArray, List.set_cons_zero, List.set_cons_succ]
              refine wpP_done (by kernel_rfl) ?_ _
              generalize (some ⟨W0.heap.size, 0, none⟩ : Option Addr) = AA
              have hR := And.intro HX.out HB.out
              clear hHeld HX HB HCELL
              exact TAIL AA w880042 hR
          case' ca880038 =>
            go_simp
            go_at_call 132
            refine (two18_ok _ _ (by have := H.out; omega)).mono ?_
            rintro e w880045 ⟨rfl, hb⟩
            have HX := Lib.hid (blk_keep HX.out hb)
            have HB := Lib.hid (below_keep HB.out (Nat.le_refl _) hb)
            have HCELL := Lib.hid (blk_keep HCELL.out hb)
            refine hK.out _ _ ?_ (fun hHeld => ?_)
            · exact ⟨cell_keep hHeld.1 hb, cell_keep hHeld.2.1 hb, cell_keep hHeld.2.2.1 hb, cell_keep hHeld.2.2.2 hb⟩
            clear hK K hb
            try simp only [Act.put, List.setIfInBounds_toArray, List.set_cons_zero, List.set_cons_succ]
            refine wpP_ready (rs := [7]) (by kernel_rfl) (by simp) ?_
            refine AllP.cons (o := ?o880046) ?ho880046 (fun K hK => ?al880046) AllP.nil
            case ho880046 => (simp only [List.getElem?_toArray, List.getElem?_cons_succ, List.getElem?_cons_zero]; exact rfl)
            case' al880046 =>
              have hst := HST.out _ _ HCELL.out
              go_simp
              clear hst
              refine hK.out _ _ ?_ (fun hHeld => ?_)
              · exact hHeld
              clear hK K
              try simp only [Act.put, List.setIfInBounds_toArray, List.set_cons_zero, List.set_cons_succ]
              refine wpP_take (i := 11) (oi := ?oi880047) (v := ?v880047) ?hi880047 (by kernel_rfl) (by kernel_rfl) (by kernel_rfl) (by kernel_rfl) ?hQ880047 ?hy880047 (by assumption) ?rest880047
              case hi880047 => (simp only [List.getElem?_toArray, List.getElem?_cons_succ, List.getElem?_cons_zero]; exact rfl)
              case hQ880047 => exact fun _ _ _ h => h
              case hy880047 => (refine Or.inl ⟨by kernel_rfl, ?_⟩; intro w hSw; (try dsimp only at hSw); go_simp; try (with_reducible rfl))
              try simp only [Act.put, List.setIfInBounds_toArray, List.set_cons_zero, List.set_cons_succ]
              refine wpP_take (i := 16) (oi := ?oi880048) (v := ?v880048) ?hi880048 (by kernel_rfl) (by kernel_rfl) (by kernel_rfl) (by kernel_rfl) ?hQ880048 ?hy880048 (by assumption) ?rest880048
              case hi880048 => (simp only [List.getElem?_toArray, List.getElem?_cons_succ, List.getElem?_cons_zero]; exact rfl)
              case hQ880048 => exact fun _ _ _ h => h
              case hy880048 => (refine Or.inl ⟨by kernel_rfl, ?_⟩; intro w hSw; (try dsimp only at hSw); go_simp; try (with_reducible rfl))
              try simp only [Act.put, List.setIfInBounds_toArray, List.set_cons_zero, List.set_cons_succ]
              refine wpP_take (i := 21) (oi := ?oi880049) (v := ?v880049) ?hi880049 (by kernel_rfl) (by kernel_rfl) (by kernel_rfl) (by kernel_rfl) ?hQ880049 ?hy880049 (by assumption) ?rest880049
              case hi880049 => (simp only [List.getElem?_toArray, List.getElem?_cons_succ, List.getElem?_cons_zero]; exact rfl)
              case hQ880049 => exact fun _ _ _ h => h
              case hy880049 => (refine Or.inl ⟨by kernel_rfl, ?_⟩; intro w hSw; (try dsimp only at hSw); go_simp; try (with_reducible rfl))
              try simp only [Act.put, List.setIfInBounds_toArray, List.set_cons_zero, List.set_cons_succ]
              refine wpP_take (i := 22) (oi := ?oi880050) (v := ?v880050) ?hi880050 (by kernel_rfl) (by kernel_rfl) (by kernel_rfl) (by kernel_rfl) ?hQ880050 ?hy880050 (by assumption) ?rest880050
              case hi880050 => (simp only [List.getElem?_toArray, List.getElem?_cons_succ, List.getElem?_cons_zero]; exact rfl)
              case hQ880050 => exact fun _ _ _ h => h
              case hy880050 => (refine Or.inl ⟨by kernel_rfl, ?_⟩; intro w hSw; (try dsimp only at hSw); go_simp; try (with_reducible rfl))
              try simp only [Act.put, List.setIfInBounds_toArray, List.set_cons_zero, List.set_cons_succ]
              refine wpP_done (by kernel_rfl) ?_ _
              generalize (some ⟨W0.heap.size, 0, none⟩ : Option Addr) = AA
              have hR := And.intro HX.out HB.out
              clear hHeld HX HB HCELL
              exact TAIL AA w880045 hR
    case' ca880015 =>
      go_simp
      go_at_call 132
      refine (two18_ok _ _ (by have := H.out; omega)).mono ?_
      rintro e w880051 ⟨rfl, hb⟩
      have HX := Lib.hid (blk_keep HX.out hb)
      have HB := Lib.hid (below_keep HB.out (Nat.le_refl _) hb)
      refine hK.out _ _ ?_ (fun hHeld => ?_)
      · exact ⟨cell_keep hHeld.1 hb, cell_keep hHeld.2.1 hb, cell_keep hHeld.2.2.1 hb, cell_keep hHeld.2.2.2 hb⟩
      clear hK K hb
      try simp only [Act.put, List.setIfInBounds_toArray, List.set_cons_zero, List.set_cons_succ]
      refine wpP_ready (rs := [6, 15]) (by kernel_rfl) (by simp) ?_
      refine AllP.cons (o := ?o880052) ?ho880052 (fun K hK => ?al880052) (AllP.cons (o := ?oo880052) ?hoo880052 (fun K hK => ?ca880052) AllP.nil)
      case ho880052 => (simp only [List.getElem?_toArray, List.getElem?_cons_succ, List.getElem?_cons_zero]; exact rfl)
      case hoo880052 => (simp only [List.getElem?_toArray, List.getElem?_cons_succ, List.getElem?_cons_zero]; exact rfl)
      case' al880052 =>
        go_simp
        have HCELL := Lib.hid (blk_new w880051 (.cells #[.int .u8 r0, .int .u8 q0] 5))
        have hb : Below w880051.heap.size w880051 (w880051.alloc (.cells #[.int .u8 r0, .int .u8 q0] 5)) := ((Below.refl _ _).alloc (Nat.le_refl _) _)
        have HX := Lib.hid (blk_keep HX.out hb)
        have HB := Lib.hid (below_keep HB.out (Nat.le_refl _) hb)
        refine hK.out _ _ ?_ (fun hHeld => ?_)
        · exact ⟨cell_keep hHeld.1 hb, cell_keep hHeld.2.1 hb, cell_keep hHeld.2.2.1 hb, cell_keep hHeld.2.2.2 hb⟩
        clear hK K hb
        try simp only [Act.put, List.setIfInBounds_toArray, List.set_cons_zero, List.set_cons_succ]
        refine wpP_ready (rs := [7, 15]) (by kernel_rfl) (by simp) ?_
        refine AllP.cons (o := ?o880053) ?ho880053 (fun K hK => ?al880053) (AllP.cons (o := ?oo880053) ?hoo880053 (fun K hK => ?ca880053) AllP.nil)
        case ho880053 => (simp only [List.getElem?_toArray, List.getElem?_cons_succ, List.getElem?_cons_zero]; exact rfl)
        case hoo880053 => (simp only [List.getElem?_toArray, List.getElem?_cons_succ, List.getElem?_cons_zero]; exact rfl)
        case' al880053 =>
          have hst := HST.out _ _ HCELL.out
          go_simp
          clear hst
          refine hK.out _ _ ?_ (fun hHeld => ?_)
          · exact hHeld
          clear hK K
          try simp only [Act.put, List.setIfInBounds_toArray, List.set_cons_zero, List.set_cons_succ]
          refine wpP_take (i := 11) (oi := ?oi880054) (v := ?v880054) ?hi880054 (by kernel_rfl) (by kernel_rfl) (by kernel_rfl) (by kernel_rfl) ?hQ880054 ?hy880054 (by assumption) ?rest880054
          case hi880054 => (simp only [List.getElem?_toArray, List.getElem?_cons_succ, List.getElem?_cons_zero]; exact rfl)
          case hQ880054 => exact fun _ _ _ h => h
          case hy880054 => (refine Or.inl ⟨by kernel_rfl, ?_⟩; intro w hSw; (try dsimp only at hSw); go_simp; try (with_reducible rfl))
          try simp only [Act.put, List.setIfInBounds_toArray, List.set_cons_zero, List.set_cons_succ]
          refine wpP_ready (rs := [15]) (by kernel_rfl) (by simp) ?_
          refine AllP.cons (o := ?o880055) ?ho880055 (fun K hK => ?ca880055) AllP.nil
          case ho880055 => (simp only [List.getElem?_toArray, List.getElem?_cons_succ, List.getElem?_cons_zero]; exact rfl)
          case' ca880055 =>
            go_simp
            go_at_call 132
            refine (two18_ok _ _ (by have := H.out; omega)).mono ?_
            rintro e w880056 ⟨rfl, hb⟩
            have HX := Lib.hid (blk_keep HX.out hb)
            have HB := Lib.hid (below_keep HB.out (Nat.le_refl _) hb)
            refine hK.out _ _ ?_ (fun hHeld => ?_)
            · exact ⟨cell_keep hHeld.1 hb, cell_keep hHeld.2.1 hb, cell_keep hHeld.2.2.1 hb, cell_keep hHeld.2.2.2 hb⟩
            clear hK K hb
            try simp only [Act.put, List.setIfInBounds_toArray, List.set_cons_zero, List.set_cons_succ]
            refine wpP_take (i := 16) (oi := ?oi880057) (v := ?v880057) ?hi880057 (by kernel_rfl) (by kernel_rfl) (by kernel_rfl) (by kernel_rfl) ?hQ880057 ?hy880057 (by assumption) ?rest880057
            case hi880057 => (simp only [List.getElem?_toArray, List.getElem?_cons_succ, List.getElem?_cons_zero]; exact rfl)
            case hQ880057 => exact fun _ _ _ h => h
            case hy880057 => (refine Or.inl ⟨by kernel_rfl, ?_⟩; intro w hSw; (try dsimp only at hSw); go_simp; try (with_reducible rfl))
            try simp only [Act.put, List.setIfInBounds_toArray, List.set_cons_zero, List.set_cons_succ]
            refine wpP_ready (rs := [20]) (by kernel_rfl) (by simp) ?_
            refine AllP.cons (o := ?o880058) ?ho880058 (fun K hK => ?ca880058) AllP.nil
            case ho880058 => (simp only [List.getElem?_toArray, List.getElem?_cons_succ, List.getElem?_cons_zero]; exact rfl)
            case' ca880058 =>
              go_simp
              go_at_call 132
              refine (two18_ok _ _ (by have := H.out; omega)).mono ?_
              rintro e w880059 ⟨rfl, hb⟩
              have HX := Lib.hid (blk_keep HX.out hb)
              have HB := Lib.hid (below_keep HB.out (Nat.le_refl _) hb)
              refine hK.out _ _ ?_ (fun hHeld => ?_)
              · exact ⟨cell_keep hHeld.1 hb, cell_keep hHeld.2.1 hb, cell_keep hHeld.2.2.1 hb, cell_keep hHeld.2.2.2 hb⟩
              clear hK K hb
              try simp only [Act.put, List.setIfInBounds_toArray, List.set_cons_zero, List.set_cons_succ]
              refine wpP_take (i := 21) (oi := ?oi880060) (v := ?v880060) ?hi880060 (by kernel_rfl) (by kernel_rfl) (by kernel_rfl) (by kernel_rfl) ?hQ880060 ?hy880060 (by assumption) ?rest880060
              case hi880060 => (simp only [List.getElem?_toArray, List.getElem?_cons_succ, List.getElem?_cons_zero]; exact rfl)
              case hQ880060 => exact fun _ _ _ h => h
              case hy880060 => (refine Or.inl ⟨by kernel_rfl, ?_⟩; intro w hSw; (try dsimp only at hSw); go_simp; try (with_reducible rfl))
              try simp only [Act.put, List.setIfInBounds_toArray, List.set_cons_zero, List.set_cons_succ]
              refine wpP_take (i := 22) (oi := ?oi880061) (v := ?v880061) ?hi880061 (by kernel_rfl) (by kernel_rfl) (by kernel_rfl) (by kernel_rfl) ?hQ880061 ?hy880061 (by assumption) ?rest880061
              case hi880061 => (simp only [List.getElem?_toArray, List.getElem?_cons_succ, List.getElem?_cons_zero]; exact rfl)
              case hQ880061 => exact fun _ _ _ h => h
              case hy880061 => (refine Or.inl ⟨by kernel_rfl, ?_⟩; intro w hSw; (try dsimp only at hSw); go_simp; try (with_reducible rfl))
              try simp only [Act.put, List.setIfInBounds_toArray, List.set_cons_zero, List.set_cons_succ]
              refine wpP_done (by kernel_rfl) ?_ _
              generalize (some ⟨w880051.heap.size, 0, none⟩ : Option Addr) = AA
              have hR := And.intro HX.out HB.out
              clear hHeld HX HB HCELL
              exact TAIL AA w880059 hR
        case' ca880053 =>
          go_simp
          go_at_call 132
          refine (two18_ok _ _ (by have := H.out; omega)).mono ?_
          rintro e w880062 ⟨rfl, hb⟩
          have HX := Lib.hid (blk_keep HX.out hb)
          have HB := Lib.hid (below_keep HB.out (Nat.le_refl _) hb)
          have HCELL := Lib.hid (blk_keep HCELL.out hb)
          refine hK.out _ _ ?_ (fun hHeld => ?_)
          · exact ⟨cell_keep hHeld.1 hb, cell_keep hHeld.2.1 hb, cell_keep hHeld.2.2.1 hb, cell_keep hHeld.2.2.2 hb⟩
          clear hK K hb
          try simp only [Act.put, List.setIfInBounds_toArray, List.set_cons_zero, List.set_cons_succ]
          refine wpP_ready (rs := [7, 20]) (by kernel_rfl) (by simp) ?_
          refine AllP.cons (o := ?o880063) ?ho880063 (fun K hK => ?al880063) (AllP.cons (o := ?oo880063) ?hoo880063 (fun K hK => ?ca880063) AllP.nil)
          case ho880063 => (simp only [List.getElem?_toArray, List.getElem?_cons_succ, List.getElem?_cons_zero]; exact rfl)
          case hoo880063 => (simp only [List.getElem?_toArray, List.getElem?_cons_succ, List.getElem?_cons_zero]; exact rfl)
          case' al880063 =>
            have hst := HST.out _ _ HCELL.out
            go_simp
            clear hst
            refine hK.out _ _ ?_ (fun hHeld => ?_)
            · exact hHeld
            clear hK K
            try simp only [Act.put, List.setIfInBounds_toArray, List.set_cons_zero, List.set_cons_succ]
            refine wpP_take (i := 11) (oi := ?oi880064) (v := ?v880064) ?hi880064 (by kernel_rfl) (by kernel_rfl) (by kernel_rfl) (by kernel_rfl) ?hQ880064 ?hy880064 (by assumption) ?rest880064
            case hi880064 => (simp only [List.getElem?_toArray, List.getElem?_cons_succ, List.getElem?_cons_zero]; exact rfl)
            case hQ880064 => exact fun _ _ _ h => h
            case hy880064 => (refine Or.inl ⟨by kernel_rfl, ?_⟩; intro w hSw; (try dsimp only at hSw); go_simp; try (with_reducible rfl))
            try simp only [Act.put, List.setIfInBounds_toArray, List.set_cons_zero, List.set_cons_succ]
            refine wpP_take (i := 16) (oi := ?oi880065) (v := ?v880065) ?hi880065 (by kernel_rfl) (by kernel_rfl) (by kernel_rfl) (by kernel_rfl) ?hQ880065 ?hy880065 (by assumption) ?rest880065
            case hi880065 => (simp only [List.getElem?_toArray, List.getElem?_cons_succ, List.getElem?_cons_zero]; exact rfl)
            case hQ880065 => exact fun _ _ _ h => h
            case hy880065 => (refine Or.inl ⟨by kernel_rfl, ?_⟩; intro w hSw; (try dsimp only at hSw); go_simp; try (with_reducible rfl))
            try simp only [Act.put, List.setIfInBounds_toArray, List.set_cons_zero, List.set_cons_succ]
            refine wpP_ready (rs := [20]) (by kernel_rfl) (by simp) ?_
            refine AllP.cons (o := ?o880066) ?ho880066 (fun K hK => ?ca880066) AllP.nil
            case ho880066 => (simp only [List.getElem?_toArray, List.getElem?_cons_succ, List.getElem?_cons_zero]; exact rfl)
            case' ca880066 =>
              go_simp
              go_at_call 132
              refine (two18_ok _ _ (by have := H.out; omega)).mono ?_
              rintro e w880067 ⟨rfl, hb⟩
              have HX := Lib.hid (blk_keep HX.out hb)
              have HB := Lib.hid (below_keep HB.out (Nat.le_refl _) hb)
              refine hK.out _ _ ?_ (fun hHeld => ?_)
              · exact ⟨cell_keep hHeld.1 hb, cell_keep hHeld.2.1 hb, cell_keep hHeld.2.2.1 hb, cell_keep hHeld.2.2.2 hb⟩
              clear hK K hb
              try simp only [Act.put, List.setIfInBounds_toArray, List.set_cons_zero, List.set_cons_succ]
              refine wpP_take (i := 21) (oi := ?oi880068) (v := ?v880068) ?hi880068 (by kernel_rfl) (by kernel_rfl) (by kernel_rfl) (by kernel_rfl) ?hQ880068 ?hy880068 (by assumption) ?rest880068
              case hi880068 => (simp only [List.getElem?_toArray, List.getElem?_cons_succ, List.getElem?_cons_zero]; exact rfl)
              case hQ880068 => exact fun _ _ _ h => h
              case hy880068 => (refine Or.inl ⟨by kernel_rfl, ?_⟩; intro w hSw; (try dsimp only at hSw); go_simp; try (with_reducible rfl))
              try simp only [Act.put, List.setIfInBounds_toArray, List.set_cons_zero, List.set_cons_succ]
              refine wpP_take (i := 22) (oi := ?oi880069) (v := ?v880069) ?hi880069 (by kernel_rfl) (by kernel_rfl) (by kernel_rfl) (by kernel_rfl) ?hQ880069 ?hy880069 (by assumption) ?rest880069
              case hi880069 => (simp only [List.getElem?_toArray, List.getElem?_cons_succ, List.getElem?_cons_zero]; exact rfl)
              case hQ880069 => exact fun _ _ _ h => h
              case hy880069 => (refine Or.inl ⟨by kernel_rfl, ?_⟩; intro w hSw; (try dsimp only at hSw); go_simp; try (with_reducible rfl))
              try simp only [Act.put, List.setIfInBounds_toArray, List.set_cons_zero, List.set_cons_succ]
              refine wpP_done (by kernel_rfl) ?_ _
              generalize (some ⟨w880051.heap.size, 0, none⟩ : Option Addr) = AA
              have hR := And.intro HX.out HB.out
              clear hHeld HX HB HCELL
              exact TAIL AA w880067 hR
          case' ca880063 =>
            go_simp
            go_at_call 132
            refine (two18_ok _ _ (by have := H.out; omega)).mono ?_
            rintro e w880070 ⟨rfl, hb⟩
            have HX := Lib.hid (blk_keep HX.out hb)
            have HB := Lib.hid (below_keep HB.out (Nat.le_refl _) hb)
            have HCELL := Lib.hid (blk_keep HCELL.out hb)
            refine hK.out _ _ ?_ (fun hHeld => ?_)
            · exact ⟨cell_keep hHeld.1 hb, cell_keep hHeld.2.1 hb, cell_keep hHeld.2.2.1 hb, cell_keep hHeld.2.2.2 hb⟩
            clear hK K hb
            try simp only [Act.put, List.setIfInBounds_toArray, List.set_cons_zero, List.set_cons_succ]
            refine wpP_ready (rs := [7]) (by kernel_rfl) (by simp) ?_
            refine AllP.cons (o := ?o880071) ?ho880071 (fun K hK => ?al880071) AllP.nil
            case ho880071 => (simp only [List.getElem?_toArray, List.getElem?_cons_succ, List.getElem?_cons_zero]; exact rfl)
            case' al880071 =>
              have hst := HST.out _ _ HCELL.out
              go_simp
              clear hst
              refine hK.out _ _ ?_ (fun hHeld => ?_)
              · exact hHeld
              clear hK K
              try simp only [Act.put, List.setIfInBounds_toArray, List.set_cons_zero, List.set_cons_succ]
              refine wpP_take (i := 11) (oi := ?oi880072) (v := ?v880072) ?hi880072 (by kernel_rfl) (by kernel_rfl) (by kernel_rfl) (by kernel_rfl) ?hQ880072 ?hy880072 (by assumption) ?rest880072
              case hi880072 => (simp only [List.getElem?_toArray, List.getElem?_cons_succ, List.getElem?_cons_zero]; exact rfl)
              case hQ880072 => exact fun _ _ _ h => h
              case hy880072 => (refine Or.inl ⟨by kernel_rfl, ?_⟩; intro w hSw; (try dsimp only at hSw); go_simp; try (with_reducible rfl))
              try simp only [Act.put, List.setIfInBounds_toArray, List.set_cons_zero, List.set_cons_succ]
              refine wpP_take (i := 16) (oi := ?oi880073) (v := ?v880073) ?hi880073 (by kernel_rfl) (by kernel_rfl) (by kernel_rfl) (by kernel_rfl) ?hQ880073 ?hy880073 (by assumption) ?rest880073
              case hi880073 => (simp only [List.getElem?_toArray, List.getElem?_cons_succ, List.getElem?_cons_zero]; exact rfl)
              case hQ880073 => exact fun _ _ _ h => h
              case hy880073 => (refine Or.inl ⟨by kernel_rfl, ?_⟩; intro w hSw; (try dsimp only at hSw); go_simp; try (with_reducible rfl))
              try simp only [Act.put, List.setIfInBounds_toArray, List.set_cons_zero, List.set_cons_succ]
              refine wpP_take (i := 21) (oi := ?oi880074) (v := ?v880074) ?hi880074 (by kernel_rfl) (by kernel_rfl) (by kernel_rfl) (by kernel_rfl) ?hQ880074 ?hy880074 (by assumption) ?rest880074
              case hi880074 => (simp only [List.getElem?_toArray, List.getElem?_cons_succ, List.getElem?_cons_zero]; exact rfl)
              case hQ880074 => exact fun _ _ _ h => h
              case hy880074 => (refine Or.inl ⟨by kernel_rfl, ?_⟩; intro w hSw; (try dsimp only at hSw); go_simp; try (with_reducible rfl))
              try simp only [Act.put, List.setIfInBounds_toArray, List.set_cons_zero, List.set_cons_succ]
              refine wpP_take (i := 22) (oi := ?oi880075) (v := ?v880075) ?hi880075 (by kernel_rfl) (by kernel_rfl) (by kernel_rfl) (by kernel_rfl) ?hQ880075 ?hy880075 (by assumption) ?rest880075
              case hi880075 => (simp only [List.getElem?_toArray, List.getElem?_cons_succ, List.getElem?_cons_zero]; exact rfl)
              case hQ880075 => exact fun _ _ _ h => h
              case hy880075 => (refine Or.inl ⟨by kernel_rfl, ?_⟩; intro w hSw; (try dsimp only at hSw); go_simp; try (with_reducible rfl))
              try simp only [Act.put, List.setIfInBounds_toArray, List.set_cons_zero, List.set_cons_succ]
              refine wpP_done (by kernel_rfl) ?_ _
              generalize (some ⟨w880051.heap.size, 0, none⟩ : Option Addr) = AA
              have hR := And.intro HX.out HB.out
              clear hHeld HX HB HCELL
              exact TAIL AA w880070 hR
      case' ca880052 =>
        go_simp
        go_at_call 132
        refine (two18_ok _ _ (by have := H.out; omega)).mono ?_
        rintro e w880076 ⟨rfl, hb⟩
        have HX := Lib.hid (blk_keep HX.out hb)
        have HB := Lib.hid (below_keep HB.out (Nat.le_refl _) hb)
        refine hK.out _ _ ?_ (fun hHeld => ?_)
        · exact ⟨cell_keep hHeld.1 hb, cell_keep hHeld.2.1 hb, cell_keep hHeld.2.2.1 hb, cell_keep hHeld.2.2.2 hb⟩
        clear hK K hb
        try simp only [Act.put, List.setIfInBounds_toArray, List.set_cons_zero, List.set_cons_succ]
        refine wpP_ready (rs := [6, 20]) (by kernel_rfl) (by simp) ?_
        refine AllP.cons (o := ?o880077) ?ho880077 (fun K hK => ?al880077) (AllP.cons (o := ?oo880077) ?hoo880077 (fun K hK => ?ca880077) AllP.nil)
        case ho880077 => (simp only [List.getElem?_toArray, List.getElem?_cons_succ, List.getElem?_cons_zero]; exact rfl)
        case hoo880077 => (simp only [List.getElem?_toArray, List.getElem?_cons_succ, List.getElem?_cons_zero]; exact rfl)
        case' al880077 =>
          go_simp
          have HCELL := Lib.hid (blk_new w880076 (.cells #[.int .u8 r0, .int .u8 q0] 5))
          have hb : Below w880076.heap.size w880076 (w880076.alloc (.cells #[.int .u8 r0, .int .u8 q0] 5)) := ((Below.refl _ _).alloc (Nat.le_refl _) _)
          have HX := Lib.hid (blk_keep HX.out hb)
          have HB := Lib.hid (below_keep HB.out (Nat.le_refl _) hb)
          refine hK.out _ _ ?_ (fun hHeld => ?_)
          · exact ⟨cell_keep hHeld.1 hb, cell_keep hHeld.2.1 hb, cell_keep hHeld.2.2.1 hb, cell_keep hHeld.2.2.2 hb⟩
          clear hK K hb
          try simp only [Act.put, List.setIfInBounds_toArray, List.set_cons_zero, List.set_cons_succ]
          refine wpP_ready (rs := [7, 20]) (by kernel_rfl) (by simp) ?_
          refine AllP.cons (o := ?o880078) ?ho880078 (fun K hK => ?al880078) (AllP.cons (o := ?oo880078) ?hoo880078 (fun K hK => ?ca880078) AllP.nil)
          case ho880078 => (simp only [List.getElem?_toArray, List.getElem?_cons_succ, List.getElem?_cons_zero]; exact rfl)
          case hoo880078 => (simp only [List.getElem?_toArray, List.getElem?_cons_succ, List.getElem?_cons_zero]; exact rfl)
          case' al880078 =>
            have hst := HST.out _ _ HCELL.out
            go_simp
            clear hst
            refine hK.out _ _ ?_ (fun hHeld => ?_)
            · exact hHeld
            clear hK K
            try simp only [Act.put, List.setIfInBounds_toArray, List.set_cons_zero, List.set_cons_succ]
            refine wpP_take (i := 11) (oi := ?oi880079) (v := ?v880079) ?hi880079 (by kernel_rfl) (by kernel_rfl) (by kernel_rfl) (by kernel_rfl) ?hQ880079 ?hy880079 (by assumption) ?rest880079
            case hi880079 => (simp only [List.getElem?_toArray, List.getElem?_cons_succ, List.getElem?_cons_zero]; exact rfl)
            case hQ880079 => exact fun _ _ _ h => h
            case hy880079 => (refine Or.inl ⟨by kernel_rfl, ?_⟩; intro w hSw; (try dsimp only at hSw); go_simp; try (with_reducible rfl))
            try simp only [Act.put, List.setIfInBounds_toArray, List.set_cons_zero, List.set_cons_succ]
            refine wpP_take (i := 16) (oi := ?oi880080) (v := ?v880080) ?hi880080 (by kernel_rfl) (by kernel_rfl) (by kernel_rfl) (by kernel_rfl) ?hQ880080 ?hy880080 (by assumption) ?rest880080
            case hi880080 => (simp only [List.getElem?_toArray, List.getElem?_cons_succ, List.getElem?_cons_zero]; exact rfl)
            case hQ880080 => exact fun _ _ _ h => h
            case hy880080 => (refine Or.inl ⟨by kernel_rfl, ?_⟩; intro w hSw; (try dsimp only at hSw); go_simp; try (with_reducible rfl))
            try simp only [Act.put, List.setIfInBounds_toArray, List.set_cons_zero, List.set_cons_succ]
            refine wpP_ready (rs := [20]) (by kernel_rfl) (by simp) ?_
            refine AllP.cons (o := ?o880081) ?ho880081 (fun K hK => ?ca880081) AllP.nil
            case ho880081 => (simp only [List.getElem?_toArray, List.getElem?_cons_succ, List.getElem?_cons_zero]; exact rfl)
            case' ca880081 =>
              go_simp
              go_at_call 132
              refine (two18_ok _ _ (by have := H.out; omega)).mono ?_
              rintro e w880082 ⟨rfl, hb⟩
              have HX := Lib.hid (blk_keep HX.out hb)
              have HB := Lib.hid (below_keep HB.out (Nat.le_refl _) hb)
              refine hK.out _ _ ?_ (fun hHeld => ?_)
              · exact ⟨cell_keep hHeld.1 hb, cell_keep hHeld.2.1 hb, cell_keep hHeld.2.2.1 hb, cell_keep hHeld.2.2.2 hb⟩
              clear hK K hb
              try simp only [Act.put, List.setIfInBounds_toArray, List.set_cons_zero, List.set_cons_succ]
              refine wpP_take (i := 21) (oi := ?oi880083) (v := ?v880083) ?hi880083 (by kernel_rfl) (by kernel_rfl) (by kernel_rfl) (by kernel_rfl) ?hQ880083 ?hy880083 (by assumption) ?rest880083
              case hi880083 => (simp only [List.getElem?_toArray, List.getElem?_cons_succ, List.getElem?_cons_zero]; exact rfl)
              case hQ880083 => exact fun _ _ _ h => h
              case hy880083 => (refine Or.inl ⟨by kernel_rfl, ?_⟩; intro w hSw; (try dsimp only at hSw); go_simp; try (with_reducible rfl))
              try simp only [Act.put, List.setIfInBounds_toArray, List.set_cons_zero, List.set_cons_succ]
              refine wpP_take (i := 22) (oi := ?oi880084) (v := ?v880084) ?hi880084 (by kernel_rfl) (by kernel_rfl) (by kernel_rfl) (by kernel_rfl) ?hQ880084 ?hy880084 (by assumption) ?rest880084
              case hi880084 => (simp only [List.getElem?_toArray, List.getElem?_cons_succ, List.getElem?_cons_zero]; exact rfl)
              case hQ880084 => exact fun _ _ _ h => h
              case hy880084 => (refine Or.inl ⟨by kernel_rfl, ?_⟩; intro w hSw; (try dsimp only at hSw); go_simp; try (with_reducible rfl))
              try simp only [Act.put, List.setIfInBounds_toArray, List.set_cons_zero, List.set_cons_succ]
              refine wpP_done (by kernel_rfl) ?_ _
              generalize (some ⟨w880076.heap.size, 0, none⟩ : Option Addr) = AA
              have hR := And.intro HX.out HB.out
              clear hHeld HX HB HCELL
              exact TAIL AA w880082 hR
          case' ca880078 =>
            go_simp
            go_at_call 132
            refine (two18_ok _ _ (by have := H.out; omega)).mono ?_
            rintro e w880085 ⟨rfl, hb⟩
            have HX := Lib.hid (blk_keep HX.out hb)
            have HB := Lib.hid (below_keep HB.out (Nat.le_refl _) hb)
            have HCELL := Lib.hid (blk_keep HCELL.out hb)
            refine hK.out _ _ ?_ (fun hHeld => ?_)
            · exact ⟨cell_keep hHeld.1 hb, cell_keep hHeld.2.1 hb, cell_keep hHeld.2.2.1 hb, cell_keep hHeld.2.2.2 hb⟩
            clear hK K hb
            try simp only [Act.put, List.setIfInBounds_toArray, List.set_cons_zero, List.set_cons_succ]
            refine wpP_ready (rs := [7]) (by kernel_rfl) (by simp) ?_
            refine AllP.cons (o := ?o880086) ?ho880086 (fun K hK => ?al880086) AllP.nil
            case ho880086 => (simp only [List.getElem?_toArray, List.getElem?_cons_succ, List.getElem?_cons_zero]; exact rfl)
            case' al880086 =>
              have hst := HST.out _ _ HCELL.out
              go_simp
              clear hst
              refine hK.out _ _ ?_ (fun hHeld => ?_)
              · exact hHeld
              clear hK K
              try simp only [Act.put, List.setIfInBounds_toArray, List.set_cons_zero, List.set_cons_succ]
              refine wpP_take (i := 11) (oi := ?oi880087) (v := ?v880087) ?hi880087 (by kernel_rfl) (by kernel_rfl) (by kernel_rfl) (by kernel_rfl) ?hQ880087 ?hy880087 (by assumption) ?rest880087
              case hi880087 => (simp only [List.getElem?_toArray, List.getElem?_cons_succ, List.getElem?_cons_zero]; exact rfl)
              case hQ880087 => exact fun _ _ _ h => h
              case hy880087 => (refine Or.inl ⟨by kernel_rfl, ?_⟩; intro w hSw; (try dsimp only at hSw); go_simp; try (with_reducible rfl))
              try simp only [Act.put, List.setIfInBounds_toArray, List.set_cons_zero, List.set_cons_succ]
              refine wpP_take (i := 16) (oi := ?oi880088) (v := ?v880088) ?hi880088 (by kernel_rfl) (by kernel_rfl) (by kernel_rfl) (by kernel_rfl) ?hQ880088 ?hy880088 (by assumption) ?rest880088
              case hi880088 => (simp only [List.getElem?_toArray, List.getElem?_cons_succ, List.getElem?_cons_zero]; exact rfl)
              case hQ880088 => exact fun _ _ _ h => h
              case hy880088 => (refine Or.inl ⟨by kernel_rfl, ?_⟩; intro w hSw; (try dsimp only at hSw); go_simp; try (with_reducible rfl))
              try simp only [Act.put, List.setIfInBounds_toArray, List.set_cons_zero, List.set_cons_succ]
              refine wpP_take (i := 21) (oi := ?oi880089) (v := ?v880089) ?hi880089 (by kernel_rfl) (by kernel_rfl) (by kernel_rfl) (by kernel_rfl) ?hQ880089 ?hy880089 (by assumption) ?rest880089
              case hi880089 => (simp only [List.getElem?_toArray, List.getElem?_cons_succ, List.getElem?_cons_zero]; exact rfl)
              case hQ880089 => exact fun _ _ _ h => h
              case hy880089 => (refine Or.inl ⟨by kernel_rfl, ?_⟩; intro w hSw; (try dsimp only at hSw); go_simp; try (with_reducible rfl))
              try simp only [Act.put, List.setIfInBounds_toArray, List.set_cons_zero, List.set_cons_succ]
              refine wpP_take (i := 22) (oi := ?oi880090) (v := ?v880090) ?hi880090 (by kernel_rfl) (by kernel_rfl) (by kernel_rfl) (by kernel_rfl) ?hQ880090 ?hy880090 (by assumption) ?rest880090
              case hi880090 => (simp only [List.getElem?_toArray, List.getElem?_cons_succ, List.getElem?_cons_zero]; exact rfl)
              case hQ880090 => exact fun _ _ _ h => h
              case hy880090 => (refine Or.inl ⟨by kernel_rfl, ?_⟩; intro w hSw; (try dsimp only at hSw); go_simp; try (with_reducible rfl))
              try simp only [Act.put, List.setIfInBounds_toArray, List.set_cons_zero, List.set_cons_succ]
              refine wpP_done (by kernel_rfl) ?_ _
              generalize (some ⟨w880076.heap.size, 0, none⟩ : Option Addr) = AA
              have hR := And.intro HX.out HB.out
              clear hHeld HX HB HCELL
              exact TAIL AA w880085 hR
        case' ca880077 =>
          go_simp
          go_at_call 132
          refine (two18_ok _ _ (by have := H.out; omega)).mono ?_
          rintro e w880091 ⟨rfl, hb⟩
          have HX := Lib.hid (blk_keep HX.out hb)
          have HB := Lib.hid (below_keep HB.out (Nat.le_refl _) hb)
          refine hK.out _ _ ?_ (fun hHeld => ?_)
          · exact ⟨cell_keep hHeld.1 hb, cell_keep hHeld.2.1 hb, cell_keep hHeld.2.2.1 hb, cell_keep hHeld.2.2.2 hb⟩
          clear hK K hb
          try simp only [Act.put, List.setIfInBounds_toArray, List.set_cons_zero, List.set_cons_succ]
          refine wpP_ready (rs := [6]) (by kernel_rfl) (by simp) ?_
          refine AllP.cons (o := ?o880092) ?ho880092 (fun K hK => ?al880092) AllP.nil
          case ho880092 => (simp only [List.getElem?_toArray, List.getElem?_cons_succ, List.getElem?_cons_zero]; exact rfl)
          case' al880092 =>
            go_simp
            have HCELL := Lib.hid (blk_new w880091 (.cells #[.int .u8 r0, .int .u8 q0] 5))
            have hb : Below w880091.heap.size w880091 (w880091.alloc (.cells #[.int .u8 r0, .int .u8 q0] 5)) := ((Below.refl _ _).alloc (Nat.le_refl _) _)
            have HX := Lib.hid (blk_keep HX.out hb)
            have HB := Lib.hid (below_keep HB.out (Nat.le_refl _) hb)
            refine hK.out _ _ ?_ (fun hHeld => ?_)
            · exact ⟨cell_keep hHeld.1 hb, cell_keep hHeld.2.1 hb, cell_keep hHeld.2.2.1 hb, cell_keep hHeld.2.2.2 hb⟩
            clear hK K hb
            try simp only [Act.put, List.setIfInBounds_toArray, List.set_cons_zero, List.set_cons_succ]
            refine wpP_ready (rs := [7]) (by kernel_rfl) (by simp) ?_
            refine AllP.cons (o := ?o880093) ?ho880093 (fun K hK => ?al880093) AllP.nil
            case ho880093 => (simp only [List.getElem?_toArray, List.getElem?_cons_succ, List.getElem?_cons_zero]; exact rfl)
            case' al880093 =>
              have hst := HST.out _ _ HCELL.out
              go_simp
              clear hst
              refine hK.out _ _ ?_ (fun hHeld => ?_)
              · exact hHeld
              clear hK K
              try simp only [Act.put, List.setIfInBounds_toArray, List.set_cons_zero, List.set_cons_succ]
              refine wpP_take (i := 11) (oi := ?oi880094) (v := ?v880094) ?hi880094 (by kernel_rfl) (by kernel_rfl) (by kernel_rfl) (by kernel_rfl) ?hQ880094 ?hy880094 (by assumption) ?rest880094
              case hi880094 => (simp only [List.getElem?_toArray, List.getElem?_cons_succ, List.getElem?_cons_zero]; exact rfl)
              case hQ880094 => exact fun _ _ _ h => h
              case hy880094 => (refine Or.inl ⟨by kernel_rfl, ?_⟩; intro w hSw; (try dsimp only at hSw); go_simp; try (with_reducible rfl))
              try simp only [Act.put, List.setIfInBounds_toArray, List.set_cons_zero, List.set_cons_succ]
              refine wpP_take (i := 16) (oi := ?oi880095) (v := ?v880095) ?hi880095 (by kernel_rfl) (by kernel_rfl) (by kernel_rfl) (by kernel_rfl) ?hQ880095 ?hy880095 (by assumption) ?rest880095
              case hi880095 => (simp only [List.getElem?_toArray, List.getElem?_cons_succ, List.getElem?_cons_zero]; exact rfl)
              case hQ880095 => exact fun _ _ _ h => h
              case hy880095 => (refine Or.inl ⟨by kernel_rfl, ?_⟩; intro w hSw; (try dsimp only at hSw); go_simp; try (with_reducible rfl))
              try simp only [Act.put, List.setIfInBounds_toArray, List.set_cons_zero, List.set_cons_succ]
              refine wpP_take (i := 21) (oi := ?oi880096) (v := ?v880096) ?hi880096 (by kernel_rfl) (by kernel_rfl) (by kernel_rfl) (by kernel_rfl) ?hQ880096 ?hy880096 (by assumption) ?rest880096
              case hi880096 => (simp only [List.getElem?_toArray, List.getElem?_cons_succ, List.getElem?_cons_zero]; exact rfl)
              case hQ880096 => exact fun _ _ _ h => h
              case hy880096 => (refine Or.inl ⟨by kernel_rfl, ?_⟩; intro w hSw; (try dsimp only at hSw); go_simp; try (with_reducible rfl))
              try simp only [Act.put, List.setIfInBounds_toArray, List.set_cons_zero, List.set_cons_succ]
              refine wpP_take (i := 22) (oi := ?oi880097) (v := ?v880097) ?hi880097 (by kernel_rfl) (by kernel_rfl) (by kernel_rfl) (by kernel_rfl) ?hQ880097 ?hy880097 (by assumption) ?rest880097
              case hi880097 => (simp only [List.getElem?_toArray, List.getElem?_cons_succ, List.getElem?_cons_zero]; exact rfl)
              case hQ880097 => exact fun _ _ _ h => h
              case hy880097 => (refine Or.inl ⟨by kernel_rfl, ?_⟩; intro w hSw; (try dsimp only at hSw); go_simp; try (with_reducible rfl))
              try simp only [Act.put, List.setIfInBounds_toArray, List.set_cons_zero, List.set_cons_succ]
              refine wpP_done (by kernel_rfl) ?_ _
              generalize (some ⟨w880091.heap.size, 0, none⟩ : Option Addr) = AA
              have hR := And.intro HX.out HB.out
              clear hHeld HX HB HCELL
              generalize (w880091.alloc (.cells #[.int .u8 r0, .int .u8 q0] 5)) = WW at *
              exact TAIL AA WW hR
  case t =>
    rintro AA W ⟨e1, e2⟩
    have E1 := Lib.hid e1
    have E2 := Lib.hid e2
    clear e1 e2
    rw [show (UInt8.ofNat r0 :: UInt8.ofNat q0 :: (ple x.links 2 ++ (ple rs 2 ++ ple qs 2)) : Blk) = bst x 0 from by rw [HS0.out]; simp]
    go_wp2
    go_loopw [3, 4] (fun s i wr => ∃ k : Nat, k ≤ 6 ∧ i = .int .i64 k ∧ s = .string (mk (bst x k)) ∧ Hid (wr.heap[w.heap.size]? = some (.cells (xcells x.list) 45 (0, 0))) ∧ Hid (Below w.heap.size w wr)) (fun _ i _ => 6 - (intOf i).toNat)
    case atStart => exact ⟨0, by omega, rfl, rfl, E1, E2⟩
    case round =>
      obtain ⟨k, hk, rfl, rfl, e1, e2⟩ := hrel
      by_cases hlt : k < 6
      · have hfd := HD.out k hlt
        have hcd : wr.cell? ⟨w.heap.size, 4 + k, none⟩ = some (.int .i64 ((x.list.getD (4 + k) 0 : Nat) : Int)) := by
          rw [cell_at e1.out, xcells_get _ _ (by rw [Ino.list_len]; omega)]
        have hki : (k : Int) < 6 := by omega
        have hbl := bst_len x k
        have hbs := bst_succ x k
        rw [show bst x (k + 1) = bst x k ++ ple (x.list.getD (4 + k) 0) 2 from bst_succ x k] at hbs
        clear hbs
        have HBS := Lib.hid (bst_succ x k)
        generalize x.list.getD (4 + k) 0 = b at *
        go_wp2_with (go_at_call 132; refine (two18_ok _ _ (by omega)).mono ?_; rintro e w' ⟨rfl, hb⟩; have e3 := Lib.hid (blk_keep e1.out hb); have e4 := Lib.hid (below_keep e2.out (Nat.le_refl _) hb); clear hb)
        exact ⟨⟨k + 1, by omega, by go_num, by rw [HBS.out], e3, e4⟩, by simp only [intOf]; omega⟩
      · obtain rfl : k = 6 := by omega
        obtain ⟨c0, c1, c2, c3, c4, c5, c6, c7, c8, c9, c10, c11⟩ := cells12 (a0 := .int .i64 ((x.kind : Nat) : Int)) e1.out
        have hbl := bst_len x 6
        have HBB : Hid ((bst x 6 ++ ple x.ind 2 ++ ple x.ext 2).length = 24) := Lib.hid (by rw [List.length_append, List.length_append, hbl, ple_length, ple_length])
        generalize hB6 : bst x 6 = B at *
        have HB6 := Lib.hid hB6
        clear hB6
        clear c0 c1 c2 c3 c4 c5 c6 c7 c8 c9
        go_wp2
        refine region_P (fun w' => w'.cell? ⟨w.heap.size, 10, none⟩ = some (.int .i64 ((x.ind : Nat) : Int)) ∧ w'.cell? ⟨w.heap.size, 11, none⟩ = some (.int .i64 ((x.ext : Nat) : Int))) [] (by kernel_rfl) ?_ (fun hHeld => ?_)
        · exact ⟨c10, c11⟩
        refine wpP_take (i := 0) (oi := ?oi885001) (v := ?v885001) ?hi885001 (by kernel_rfl) (by kernel_rfl) (by kernel_rfl) (by kernel_rfl) ?hQ885001 ?hy885001 (by assumption) ?rest885001
        case hi885001 => (simp only [List.getElem?_toArray, List.getElem?_cons_succ, List.getElem?_cons_zero]; exact rfl)
        case hQ885001 => exact fun _ _ _ h => h
        case hy885001 => (refine Or.inl ⟨by kernel_rfl, ?_⟩; intro w hSw; (try dsimp only at hSw); go_simp; try (with_reducible rfl))
        try simp only [Act.put, List.setIfInBounds_toArray, List.set_cons_zero, List.set_cons_succ]
        refine wpP_take (i := 1) (oi := ?oi885002) (v := ?v885002) ?hi885002 (by kernel_rfl) (by kernel_rfl) (by kernel_rfl) (by kernel_rfl) ?hQ885002 ?hy885002 (by assumption) ?rest885002
        case hi885002 => (simp only [List.getElem?_toArray, List.getElem?_cons_succ, List.getElem?_cons_zero]; exact rfl)
        case hQ885002 => exact fun _ _ _ h => h
        case hy885002 => (refine Or.inl ⟨by kernel_rfl, ?_⟩; intro w hSw; (try dsimp only at hSw); go_simp; try (with_reducible rfl))
        try simp only [Act.put, List.setIfInBounds_toArray, List.set_cons_zero, List.set_cons_succ]
        refine wpP_take (i := 2) (oi := ?oi885003) (v := ?v885003) ?hi885003 (by kernel_rfl) (by kernel_rfl) (by kernel_rfl) (by kernel_rfl) ?hQ885003 ?hy885003 (by assumption) ?rest885003
        case hi885003 => (simp only [List.getElem?_toArray, List.getElem?_cons_succ, List.getElem?_cons_zero]; exact rfl)
        case hQ885003 => exact fun _ _ _ h => h
        case hy885003 => (refine Or.inl ⟨by kernel_rfl, ?_⟩; intro w hSw; (try dsimp only at hSw); go_simp; try (with_reducible rfl))
        try simp only [Act.put, List.setIfInBounds_toArray, List.set_cons_zero, List.set_cons_succ]
        refine wpP_take (i := 5) (oi := ?oi885004) (v := ?v885004) ?hi885004 (by kernel_rfl) (by kernel_rfl) (by kernel_rfl) (by kernel_rfl) ?hQ885004 ?hy885004 (by assumption) ?rest885004
        case hi885004 => (simp only [List.getElem?_toArray, List.getElem?_cons_succ, List.getElem?_cons_zero]; exact rfl)
        case hQ885004 => exact fun _ _ _ h => h
        case hy885004 => (refine Or.inl ⟨by kernel_rfl, ?_⟩; intro w hSw; (try dsimp only at hSw); go_simp; try (with_reducible rfl))
        try simp only [Act.put, List.setIfInBounds_toArray, List.set_cons_zero, List.set_cons_succ]
        refine wpP_take (i := 6) (oi := ?oi885005) (v := ?v885005) ?hi885005 (by kernel_rfl) (by kernel_rfl) (by kernel_rfl) (by kernel_rfl) ?hQ885005 ?hy885005 (by assumption) ?rest885005
        case hi885005 => (simp only [List.getElem?_toArray, List.getElem?_cons_succ, List.getElem?_cons_zero]; exact rfl)
        case hQ885005 => exact fun _ _ _ h => h
        case hy885005 => (refine Or.inl ⟨by kernel_rfl, ?_⟩; intro w hSw; (try dsimp only at hSw); go_simp; try (with_reducible rfl))
        try simp only [Act.put, List.setIfInBounds_toArray, List.set_cons_zero, List.set_cons_succ]
        refine wpP_ready (rs := [3]) (by kernel_rfl) (by simp) ?_
        refine AllP.cons (o := ?o885006) ?ho885006 (fun K hK => ?_) AllP.nil
        case ho885006 => (simp only [List.getElem?_toArray, List.getElem?_cons_succ, List.getElem?_cons_zero]; exact rfl)
        go_simp
        go_at_call 132
        refine (two18_ok _ _ (by have := H.out; omega)).mono ?_
        rintro e w4 ⟨rfl, hb⟩
        have hb2 := below_und hb
        have e1 := Lib.hid (blk_keep e1.out hb2)
        have e2 := Lib.hid (below_keep e2.out (Nat.le_refl _) hb2)
        clear hb2
        refine hK.out _ _ ?_ (fun hHeld => ?_)
        · exact ⟨cell_keep hHeld.1 hb, cell_keep hHeld.2 hb⟩
        clear hK K
        try simp only [Act.put, List.setIfInBounds_toArray, List.set_cons_zero, List.set_cons_succ]
        refine wpP_take (i := 4) (oi := ?oi885007) (v := ?v885007) ?hi885007 (by kernel_rfl) (by kernel_rfl) (by kernel_rfl) (by kernel_rfl) ?hQ885007 ?hy885007 (by assumption) ?rest885007
        case hi885007 => (simp only [List.getElem?_toArray, List.getElem?_cons_succ, List.getElem?_cons_zero]; exact rfl)
        case hQ885007 => exact fun _ _ _ h => h
        case hy885007 => (refine Or.inl ⟨by kernel_rfl, ?_⟩; intro w hSw; (try dsimp only at hSw); go_simp; try (with_reducible rfl))
        try simp only [Act.put, List.setIfInBounds_toArray, List.set_cons_zero, List.set_cons_succ]
        refine wpP_ready (rs := [7]) (by kernel_rfl) (by simp) ?_
        refine AllP.cons (o := ?o885008) ?ho885008 (fun K hK => ?_) AllP.nil
        case ho885008 => (simp only [List.getElem?_toArray, List.getElem?_cons_succ, List.getElem?_cons_zero]; exact rfl)
        go_simp
        go_at_call 132
        refine (two18_ok _ _ (by have := H.out; omega)).mono ?_
        rintro e w4 ⟨rfl, hb⟩
        have hb2 := hb
        have e1 := Lib.hid (blk_keep e1.out hb2)
        have e2 := Lib.hid (below_keep e2.out (Nat.le_refl _) hb2)
        clear hb2
        refine hK.out _ _ ?_ (fun hHeld => ?_)
        · exact ⟨cell_keep hHeld.1 hb, cell_keep hHeld.2 hb⟩
        clear hK K
        try simp only [Act.put, List.setIfInBounds_toArray, List.set_cons_zero, List.set_cons_succ]
        refine wpP_take (i := 8) (oi := ?oi885009) (v := ?v885009) ?hi885009 (by kernel_rfl) (by kernel_rfl) (by kernel_rfl) (by kernel_rfl) ?hQ885009 ?hy885009 (by assumption) ?rest885009
        case hi885009 => (simp only [List.getElem?_toArray, List.getElem?_cons_succ, List.getElem?_cons_zero]; exact rfl)
        case hQ885009 => exact fun _ _ _ h => h
        case hy885009 => (refine Or.inl ⟨by kernel_rfl, ?_⟩; intro w hSw; (try dsimp only at hSw); go_simp; try (with_reducible rfl))
        try simp only [Act.put, List.setIfInBounds_toArray, List.set_cons_zero, List.set_cons_succ]
        refine wpP_take (i := 9) (oi := ?oi885010) (v := ?v885010) ?hi885010 (by kernel_rfl) (by kernel_rfl) (by kernel_rfl) (by kernel_rfl) ?hQ885010 ?hy885010 (by assumption) ?rest885010
        case hi885010 => (simp only [List.getElem?_toArray, List.getElem?_cons_succ, List.getElem?_cons_zero]; exact rfl)
        case hQ885010 => exact fun _ _ _ h => h
        case hy885010 => (refine Or.inl ⟨by kernel_rfl, ?_⟩; intro w hSw; (try dsimp only at hSw); go_simp; try (with_reducible rfl))
        try simp only [Act.put, List.setIfInBounds_toArray, List.set_cons_zero, List.set_cons_succ]
        refine wpP_done (by kernel_rfl) ?_ _
        clear hHeld c10 c11 hbl
        have e2 := e2.out
        clear e1
        go_wp2
        rw [show (B ++ (ple x.ind 2 ++ ple x.ext 2) : Blk) = B ++ ple x.ind 2 ++ ple x.ext 2 ++ zs 0 from by simp [zs]]
        have HCB := Lib.hid (show ∀ D : Blk, B ++ (ple x.ind 2 ++ (ple x.ext 2 ++ D)) = B ++ ple x.ind 2 ++ ple x.ext 2 ++ D from fun D => by simp)
        generalize B ++ ple x.ind 2 ++ ple x.ext 2 = C at *
        go_loop [3] (fun s => ∃ j : Nat, j ≤ 40 ∧ s = .string (mk (C ++ zs j))) (fun s => 64 - sizeS s)
        case atStart => exact ⟨0, by omega, rfl⟩
        case round =>
          obtain ⟨j, hj, rfl⟩ := hrel
          have hcl : (C ++ zs j).length = 24 + j := by rw [List.length_append, HBB.out, zs_length]
          have hcl2 : (C ++ zs (j + 1)).length = 24 + (j + 1) := by rw [List.length_append, HBB.out, zs_length]
          have hap : C ++ zs (j + 1) = (C ++ zs j) ++ [0] := by rw [List.append_assoc, zs_succ]
          have HAP := Lib.hid hap
          have HL2 := Lib.hid hcl2
          clear hap hcl2
          obtain ⟨D, hD⟩ : ∃ D, C ++ zs j = D := ⟨_, rfl⟩
          have HD2 := Lib.hid hD
          rw [hD] at hcl ⊢
          clear hD
          by_cases hj4 : j < 40
          · go_wp2
            refine ⟨⟨j + 1, by omega, ?_⟩, ?_⟩
            · rw [HAP.out, HD2.out]
            · show 64 - (mk (D ++ [0])).size < 64 - (mk D).size
              rw [mk_size, mk_size, List.length_append, hcl]
              simp only [List.length_singleton]
              omega
          · obtain rfl : j = 40 := by omega
            go_wp2
            go_ret
            exact ⟨by rw [HB6.out, HCB.out, HD2.out]; rfl, e2⟩
end Go.Proofs.Ytacdohlhalnioaa
end

/- Contract: an inode is written (the document's). -/
section
set_option linter.unusedVariables false
set_option linter.unusedSimpArgs false
set_option maxRecDepth 20000
namespace Go.Proofs.Ytacdohlhalnioaa
open Go.RowKit
attribute [local go_sem] Oper.semAt_some

set_option maxHeartbeats 4000000 in
theorem rput18_odd (A : Option Addr) (c : Nat) (v : Vol) (n B : Nat) (x : Ino) (w : World) (hr : RS w A v) (hv : okV v = true) (h1 : 1 ≤ n) (h2 : n ≤ inosV v) (hx : fitI x) (hB : 3 + (n - 1) / 2 = B) (hod : n % 2 = 1) :
    Calls Try.prog 82 #[.slice A v.length c, .int .i64 n, .agg #[.int .i64 ((x.kind : Nat) : Int), .int .i64 ((x.links : Nat) : Int), .int .i64 ((x.owner : Nat) : Int), .int .i64 ((x.size : Nat) : Int), .int .i64 ((x.d0 : Nat) : Int), .int .i64 ((x.d1 : Nat) : Int), .int .i64 ((x.d2 : Nat) : Int), .int .i64 ((x.d3 : Nat) : Int), .int .i64 ((x.d4 : Nat) : Int), .int .i64 ((x.d5 : Nat) : Int), .int .i64 ((x.ind : Nat) : Int), .int .i64 ((x.ext : Nat) : Int)]] w fun e w' => ∃ g c', e = .returned (.tuple #[.slice (some ⟨g, 0, none⟩) v.length c', .int .i64 0]) ∧ VS w' g (v.set B (inoBytes x ++ (bk v B).drop 24)) ∧ w.heap.size ≤ g ∧ Below w.heap.size w w' := by
  obtain ⟨i0, hi0, hz0, hz1, hz2⟩ := info_parts (show (Try.prog.info? 9).map (fun i => (i.zero, i.size, i.bytes)) = some (some (.string (mk [])), 1, 16) by kernel_rfl)
  obtain ⟨hl, h128, hs⟩ := slot_facts hv h1 h2
  have hi := (okV_iff.1 hv).ihi
  have hhi := (okV_iff.1 hv).hi
  have hn1 : (1 : Int) ≤ (n : Int) := by omega
  have hn2 : ¬ ((inosV v : Int) < (n : Int)) := by omega
  have hn0 : (0 : Int) ≤ (n : Int) - 1 := by omega
  have hq1 : (3 : Int) + ((n : Int) - 1) / 2 = (B : Int) := by omega
  have hpar : (n : Int).tmod 2 = 1 := by rw [Int.tmod_eq_emod_of_nonneg (by omega)]; omega
  have hB' : (B : Int) < (v.length : Nat) := by omega
  rw [hB] at hl h128
  have HR := Lib.hid hr
  obtain ⟨bA, oA, rfl, hbA, hc⟩ := hr.open_ (by omega)
  have hcB := hc B hl
  have HC := Lib.hid hc
  obtain ⟨b, hb⟩ : ∃ b, bk v B = b := ⟨_, rfl⟩
  rw [hb] at h128 hcB ⊢
  have HX := Lib.hid hx
  have hxl := inoBytes_len x
  have htk : List.take 24 (inoBytes x ++ zs 40) = inoBytes x := by rw [List.take_append_of_le_length (by omega), List.take_of_length_le (by omega)]
  have hbn := Lib.hid (show bk v B = b from hb)
  have HV := Lib.hid hv
  have htk2 : List.take 104 (List.drop 24 b) = List.drop 24 b := List.take_of_length_le (by simp [h128])
  clear hr hc hv hs hx hb hB hod
  go_enter Try.func82, Try.ntmps82
  go_wp2_with (first
    | (go_at_call 46; refine (rof_ok _ _ _ _ (HR.out.below ((Below.refl _ _).alloc (Nat.le_refl _) _)) HV.out).mono ?_; rintro e w1 ⟨rfl, hb1⟩; have hb1' := hb1.alloc hb1.size (.cells #[.int .i64 v.length, .int .i64 (inosV v), .int .i64 1, .int .i64 2, .int .i64 3, .int .i64 (3 + ((inosV v : Nat) + 1 : Int) / 2)] 66); have HB := Lib.hid (below_keep ((Below.refl _ w).alloc (Nat.le_refl _) _) (Nat.le_refl _) hb1'); have HQ := Lib.hid (blk_new w1 (.cells #[.int .i64 v.length, .int .i64 (inosV v), .int .i64 1, .int .i64 2, .int .i64 3, .int .i64 (3 + ((inosV v : Nat) + 1 : Int) / 2)] 66)); have HXB := Lib.hid (blk_keep (blk_new w _) hb1'); obtain ⟨c0, c1, c2, c3, c4, c5, c6, c7, c8, c9, c10, c11⟩ := cells12 HXB.out; clear hb1 hb1')
    | (go_at_call 114; refine (rfits_ok x _ HX.out).mono ?_; rintro e w2 ⟨rfl, hb2⟩; have HB2 := Lib.hid (below_keep HB.out (Nat.le_refl _) hb2); have HQ2 := Lib.hid (blk_keep HQ.out hb2); have HXB2 := Lib.hid (blk_keep HXB.out hb2); have HO := Lib.hid (own_new 9 w2); clear hb2)
    | (at_builtin; refine wpList_append_own _ rfl _ _ 22 rfl w2.heap.size 9 i0 _ 1 16 Try.underlying22 hi0 hz0 hz1 hz2 rfl (by decide) _ 0 [] rfl HO.out ⟨bA, oA, none⟩ v.length c (strs v) rfl (by rw [strs_length, Nat.mul_one]) ?hn (strs_one v) (by simp only [maxLen]; omega) (by omega) (by simp) ?hk))
  case hn =>
    intro j u hu
    have hj : j < v.length := by
      rw [← strs_length v]
      exact (List.getElem?_eq_some_iff.1 hu).1
    rw [strs_get v j hj] at hu
    injection hu with hu
    subst hu
    exact cell_keep (src_cell (HC.out j hj)) (HB2.out.alloc HB2.out.size _)
  case hk =>
    intro u w5 hown1 hgrow _
    have hb5 : Below w2.heap.size w2 w5 := ((Below.refl _ _).alloc (Nat.le_refl _) _).grown hgrow (by simp) (fun k e => by cases e; exact Nat.le_refl _)
    obtain ⟨g, cap, rfl, hg, hv1⟩ := VB.of_own hown1 rfl (by omega)
    clear hown1 hgrow
    have hB5 := Lib.hid (below_keep HB2.out (Nat.le_refl _) hb5)
    obtain ⟨g0, g1, g2, g3, g4, g5⟩ := cells6 (blk_keep HQ2.out hb5)
    clear c0 c1 c2 c3 c4 c5 c6 c7 c8 c9 c10 c11
    obtain ⟨x0, x1, x2, x3, x4, x5, x6, x7, x8, x9, x10, x11⟩ := cells12 (blk_keep HXB2.out hb5)
    have hsB := cell_keep hcB hB5.out
    have HG := Lib.hid hv1
    have s2 := HB2.out.size
    clear hv1 hb5
    go_wp2
    refine region_P (fun w' => w'.cell? ⟨w.heap.size, 0, none⟩ = some (.int .i64 ((x.kind : Nat) : Int)) ∧ w'.cell? ⟨w.heap.size, 1, none⟩ = some (.int .i64 ((x.links : Nat) : Int)) ∧ w'.cell? ⟨w.heap.size, 2, none⟩ = some (.int .i64 ((x.owner : Nat) : Int)) ∧ w'.cell? ⟨w.heap.size, 3, none⟩ = some (.int .i64 ((x.size : Nat) : Int)) ∧ w'.cell? ⟨w.heap.size, 4, none⟩ = some (.int .i64 ((x.d0 : Nat) : Int)) ∧ w'.cell? ⟨w.heap.size, 5, none⟩ = some (.int .i64 ((x.d1 : Nat) : Int)) ∧ w'.cell? ⟨w.heap.size, 6, none⟩ = some (.int .i64 ((x.d2 : Nat) : Int)) ∧ w'.cell? ⟨w.heap.size, 7, none⟩ = some (.int .i64 ((x.d3 : Nat) : Int)) ∧ w'.cell? ⟨w.heap.size, 8, none⟩ = some (.int .i64 ((x.d4 : Nat) : Int)) ∧ w'.cell? ⟨w.heap.size, 9, none⟩ = some (.int .i64 ((x.d5 : Nat) : Int)) ∧ w'.cell? ⟨w.heap.size, 10, none⟩ = some (.int .i64 ((x.ind : Nat) : Int)) ∧ w'.cell? ⟨w.heap.size, 11, none⟩ = some (.int .i64 ((x.ext : Nat) : Int)) ∧ w'.cell? ⟨bA, oA + B, none⟩ = some (.string (mk b))) [12] (by kernel_rfl) ?_ (fun hHeld => ?_)
    · exact ⟨x0, x1, x2, x3, x4, x5, x6, x7, x8, x9, x10, x11, hsB⟩
    refine wpP_take (i := 0) (oi := ?oi452001) (v := ?v452001) ?hi452001 (by kernel_rfl) (by kernel_rfl) (by kernel_rfl) (by kernel_rfl) ?hQ452001 ?hy452001 (by assumption) ?rest452001
    case hi452001 => (simp only [List.getElem?_toArray, List.getElem?_cons_succ, List.getElem?_cons_zero]; exact rfl)
    case hQ452001 => exact fun _ _ _ h => h
    case hy452001 => (refine Or.inl ⟨by kernel_rfl, ?_⟩; intro w hSw; (try dsimp only at hSw); go_simp; try (with_reducible rfl))
    try simp only [Act.put, List.setIfInBounds_toArray, List.set_cons_zero, List.set_cons_succ]
    refine wpP_take (i := 1) (oi := ?oi452002) (v := ?v452002) ?hi452002 (by kernel_rfl) (by kernel_rfl) (by kernel_rfl) (by kernel_rfl) ?hQ452002 ?hy452002 (by assumption) ?rest452002
    case hi452002 => (simp only [List.getElem?_toArray, List.getElem?_cons_succ, List.getElem?_cons_zero]; exact rfl)
    case hQ452002 => exact fun _ _ _ h => h
    case hy452002 => (refine Or.inl ⟨by kernel_rfl, ?_⟩; intro w hSw; (try dsimp only at hSw); go_simp; try (with_reducible rfl))
    try simp only [Act.put, List.setIfInBounds_toArray, List.set_cons_zero, List.set_cons_succ]
    refine wpP_take (i := 2) (oi := ?oi452003) (v := ?v452003) ?hi452003 (by kernel_rfl) (by kernel_rfl) (by kernel_rfl) (by kernel_rfl) ?hQ452003 ?hy452003 (by assumption) ?rest452003
    case hi452003 => (simp only [List.getElem?_toArray, List.getElem?_cons_succ, List.getElem?_cons_zero]; exact rfl)
    case hQ452003 => exact fun _ _ _ h => h
    case hy452003 => (refine Or.inl ⟨by kernel_rfl, ?_⟩; intro w hSw; (try dsimp only at hSw); go_simp; try (with_reducible rfl))
    try simp only [Act.put, List.setIfInBounds_toArray, List.set_cons_zero, List.set_cons_succ]
    refine wpP_take (i := 5) (oi := ?oi452004) (v := ?v452004) ?hi452004 (by kernel_rfl) (by kernel_rfl) (by kernel_rfl) (by kernel_rfl) ?hQ452004 ?hy452004 (by assumption) ?rest452004
    case hi452004 => (simp only [List.getElem?_toArray, List.getElem?_cons_succ, List.getElem?_cons_zero]; exact rfl)
    case hQ452004 => exact fun _ _ _ h => h
    case hy452004 => (refine Or.inl ⟨by kernel_rfl, ?_⟩; intro w hSw; (try dsimp only at hSw); go_simp; try (with_reducible rfl))
    try simp only [Act.put, List.setIfInBounds_toArray, List.set_cons_zero, List.set_cons_succ]
    refine wpP_take (i := 6) (oi := ?oi452005) (v := ?v452005) ?hi452005 (by kernel_rfl) (by kernel_rfl) (by kernel_rfl) (by kernel_rfl) ?hQ452005 ?hy452005 (by assumption) ?rest452005
    case hi452005 => (simp only [List.getElem?_toArray, List.getElem?_cons_succ, List.getElem?_cons_zero]; exact rfl)
    case hQ452005 => exact fun _ _ _ h => h
    case hy452005 => (refine Or.inl ⟨by kernel_rfl, ?_⟩; intro w hSw; (try dsimp only at hSw); go_simp; try (with_reducible rfl))
    try simp only [Act.put, List.setIfInBounds_toArray, List.set_cons_zero, List.set_cons_succ]
    refine wpP_take (i := 7) (oi := ?oi452006) (v := ?v452006) ?hi452006 (by kernel_rfl) (by kernel_rfl) (by kernel_rfl) (by kernel_rfl) ?hQ452006 ?hy452006 (by assumption) ?rest452006
    case hi452006 => (simp only [List.getElem?_toArray, List.getElem?_cons_succ, List.getElem?_cons_zero]; exact rfl)
    case hQ452006 => exact fun _ _ _ h => h
    case hy452006 => (refine Or.inl ⟨by kernel_rfl, ?_⟩; intro w hSw; (try dsimp only at hSw); go_simp; try (with_reducible rfl))
    try simp only [Act.put, List.setIfInBounds_toArray, List.set_cons_zero, List.set_cons_succ]
    refine wpP_take (i := 8) (oi := ?oi452007) (v := ?v452007) ?hi452007 (by kernel_rfl) (by kernel_rfl) (by kernel_rfl) (by kernel_rfl) ?hQ452007 ?hy452007 (by assumption) ?rest452007
    case hi452007 => (simp only [List.getElem?_toArray, List.getElem?_cons_succ, List.getElem?_cons_zero]; exact rfl)
    case hQ452007 => exact fun _ _ _ h => h
    case hy452007 => (refine Or.inl ⟨by kernel_rfl, ?_⟩; intro w hSw; (try dsimp only at hSw); go_simp; try (with_reducible rfl))
    try simp only [Act.put, List.setIfInBounds_toArray, List.set_cons_zero, List.set_cons_succ]
    refine wpP_take (i := 9) (oi := ?oi452008) (v := ?v452008) ?hi452008 (by kernel_rfl) (by kernel_rfl) (by kernel_rfl) (by kernel_rfl) ?hQ452008 ?hy452008 (by assumption) ?rest452008
    case hi452008 => (simp only [List.getElem?_toArray, List.getElem?_cons_succ, List.getElem?_cons_zero]; exact rfl)
    case hQ452008 => exact fun _ _ _ h => h
    case hy452008 => (refine Or.inl ⟨by kernel_rfl, ?_⟩; intro w hSw; (try dsimp only at hSw); go_simp; try (with_reducible rfl))
    try simp only [Act.put, List.setIfInBounds_toArray, List.set_cons_zero, List.set_cons_succ]
    refine wpP_ready (rs := [3]) (by kernel_rfl) (by simp) ?_
    refine AllP.cons (o := ?o452009) ?ho452009 (fun K hK => ?_) AllP.nil
    case ho452009 => (simp only [List.getElem?_toArray, List.getElem?_cons_succ, List.getElem?_cons_zero]; exact rfl)
    go_simp
    go_at_call 115
    refine (rbytes_ok x _ HX.out).mono ?_
    rintro e w6 ⟨rfl, hb6⟩
    have k6 : Below w5.heap.size w5 w6 := below_und hb6
    have hgB := (HG.out.keep k6).cell B hl
    have hgf := (HG.out.keep k6).free B
    refine hK.out _ _ ?_ (fun hHeld => ?_)
    · exact ⟨cell_keep hHeld.1 hb6, cell_keep hHeld.2.1 hb6, cell_keep hHeld.2.2.1 hb6, cell_keep hHeld.2.2.2.1 hb6, cell_keep hHeld.2.2.2.2.1 hb6, cell_keep hHeld.2.2.2.2.2.1 hb6, cell_keep hHeld.2.2.2.2.2.2.1 hb6, cell_keep hHeld.2.2.2.2.2.2.2.1 hb6, cell_keep hHeld.2.2.2.2.2.2.2.2.1 hb6, cell_keep hHeld.2.2.2.2.2.2.2.2.2.1 hb6, cell_keep hHeld.2.2.2.2.2.2.2.2.2.2.1 hb6, cell_keep hHeld.2.2.2.2.2.2.2.2.2.2.2.1 hb6, cell_keep hHeld.2.2.2.2.2.2.2.2.2.2.2.2 hb6⟩
    clear hK K
    try simp only [Act.put, List.setIfInBounds_toArray, List.set_cons_zero, List.set_cons_succ]
    refine wpP_take (i := 4) (oi := ?oi452010) (v := ?v452010) ?hi452010 (by kernel_rfl) (by kernel_rfl) (by kernel_rfl) (by kernel_rfl) ?hQ452010 ?hy452010 (by assumption) ?rest452010
    case hi452010 => (simp only [List.getElem?_toArray, List.getElem?_cons_succ, List.getElem?_cons_zero]; exact rfl)
    case hQ452010 => exact fun _ _ _ h => h
    case hy452010 => (refine Or.inl ⟨by kernel_rfl, ?_⟩; intro w hSw; (try dsimp only at hSw); go_simp; try (with_reducible rfl))
    try simp only [Act.put, List.setIfInBounds_toArray, List.set_cons_zero, List.set_cons_succ]
    refine wpP_take (i := 10) (oi := ?oi452011) (v := ?v452011) ?hi452011 (by kernel_rfl) (by kernel_rfl) (by kernel_rfl) (by kernel_rfl) ?hQ452011 ?hy452011 (by assumption) ?rest452011
    case hi452011 => (simp only [List.getElem?_toArray, List.getElem?_cons_succ, List.getElem?_cons_zero]; exact rfl)
    case hQ452011 => exact fun _ _ _ h => h
    case hy452011 => (refine Or.inl ⟨by kernel_rfl, ?_⟩; intro w hSw; (try dsimp only at hSw); go_simp; try (with_reducible rfl))
    try simp only [Act.put, List.setIfInBounds_toArray, List.set_cons_zero, List.set_cons_succ]
    refine wpP_take (i := 11) (oi := ?oi452012) (v := ?v452012) ?hi452012 (by kernel_rfl) (by kernel_rfl) (by kernel_rfl) (by kernel_rfl) ?hQ452012 ?hy452012 (by assumption) ?rest452012
    case hi452012 => (simp only [List.getElem?_toArray, List.getElem?_cons_succ, List.getElem?_cons_zero]; exact rfl)
    case hQ452012 => exact fun _ _ _ h => h
    case hy452012 => (refine Or.inl ⟨by kernel_rfl, ?_⟩; intro w hSw; (try dsimp only at hSw); go_simp; try (with_reducible rfl))
    try simp only [Act.put, List.setIfInBounds_toArray, List.set_cons_zero, List.set_cons_succ]
    refine wpP_ready (rs := [12]) (by kernel_rfl) (by simp) ?_
    refine AllP.last (o := ?o452013) ?ho452013 (by kernel_rfl) (fun K hK => ?_) AllP.nil
    case ho452013 => (simp only [List.getElem?_toArray, List.getElem?_cons_succ, List.getElem?_cons_zero]; exact rfl)
    go_simp
    refine hK.out _ _ ?_
    clear hK K
    try simp only [Act.put, List.setIfInBounds_toArray, List.set_cons_zero, List.set_cons_succ]
    refine wpP_done (by kernel_rfl) ?_ _
    go_wp2
    go_ret2
    have hk := (HG.out.keep k6).set B (inoBytes x ++ b.drop 24) hl
    refine ⟨g, cap, rfl, ?_, by omega, below_set (below_keep hB5.out (Nat.le_refl _) k6) (by omega)⟩
    exact hk
set_option maxHeartbeats 4000000 in
theorem rput18_even (A : Option Addr) (c : Nat) (v : Vol) (n B : Nat) (x : Ino) (w : World) (hr : RS w A v) (hv : okV v = true) (h1 : 1 ≤ n) (h2 : n ≤ inosV v) (hx : fitI x) (hB : 3 + (n - 1) / 2 = B) (hod : n % 2 = 0) :
    Calls Try.prog 82 #[.slice A v.length c, .int .i64 n, .agg #[.int .i64 ((x.kind : Nat) : Int), .int .i64 ((x.links : Nat) : Int), .int .i64 ((x.owner : Nat) : Int), .int .i64 ((x.size : Nat) : Int), .int .i64 ((x.d0 : Nat) : Int), .int .i64 ((x.d1 : Nat) : Int), .int .i64 ((x.d2 : Nat) : Int), .int .i64 ((x.d3 : Nat) : Int), .int .i64 ((x.d4 : Nat) : Int), .int .i64 ((x.d5 : Nat) : Int), .int .i64 ((x.ind : Nat) : Int), .int .i64 ((x.ext : Nat) : Int)]] w fun e w' => ∃ g c', e = .returned (.tuple #[.slice (some ⟨g, 0, none⟩) v.length c', .int .i64 0]) ∧ VS w' g (v.set B ((bk v B).take 64 ++ (inoBytes x ++ (bk v B).drop 88))) ∧ w.heap.size ≤ g ∧ Below w.heap.size w w' := by
  obtain ⟨i0, hi0, hz0, hz1, hz2⟩ := info_parts (show (Try.prog.info? 9).map (fun i => (i.zero, i.size, i.bytes)) = some (some (.string (mk [])), 1, 16) by kernel_rfl)
  obtain ⟨hl, h128, hs⟩ := slot_facts hv h1 h2
  have hi := (okV_iff.1 hv).ihi
  have hhi := (okV_iff.1 hv).hi
  have hn1 : (1 : Int) ≤ (n : Int) := by omega
  have hn2 : ¬ ((inosV v : Int) < (n : Int)) := by omega
  have hn0 : (0 : Int) ≤ (n : Int) - 1 := by omega
  have hq1 : (3 : Int) + ((n : Int) - 1) / 2 = (B : Int) := by omega
  have hpar : (n : Int).tmod 2 = 0 := by rw [Int.tmod_eq_emod_of_nonneg (by omega)]; omega
  have hB' : (B : Int) < (v.length : Nat) := by omega
  rw [hB] at hl h128
  have HR := Lib.hid hr
  obtain ⟨bA, oA, rfl, hbA, hc⟩ := hr.open_ (by omega)
  have hcB := hc B hl
  have HC := Lib.hid hc
  obtain ⟨b, hb⟩ : ∃ b, bk v B = b := ⟨_, rfl⟩
  rw [hb] at h128 hcB ⊢
  have HX := Lib.hid hx
  have hxl := inoBytes_len x
  have htk : List.take 24 (inoBytes x ++ zs 40) = inoBytes x := by rw [List.take_append_of_le_length (by omega), List.take_of_length_le (by omega)]
  have hbn := Lib.hid (show bk v B = b from hb)
  have HV := Lib.hid hv
  have htk2 : List.take 40 (List.drop 88 b) = List.drop 88 b := List.take_of_length_le (by simp [h128])
  clear hr hc hv hs hx hb hB hod
  go_enter Try.func82, Try.ntmps82
  go_wp2_with (first
    | (go_at_call 46; refine (rof_ok _ _ _ _ (HR.out.below ((Below.refl _ _).alloc (Nat.le_refl _) _)) HV.out).mono ?_; rintro e w1 ⟨rfl, hb1⟩; have hb1' := hb1.alloc hb1.size (.cells #[.int .i64 v.length, .int .i64 (inosV v), .int .i64 1, .int .i64 2, .int .i64 3, .int .i64 (3 + ((inosV v : Nat) + 1 : Int) / 2)] 66); have HB := Lib.hid (below_keep ((Below.refl _ w).alloc (Nat.le_refl _) _) (Nat.le_refl _) hb1'); have HQ := Lib.hid (blk_new w1 (.cells #[.int .i64 v.length, .int .i64 (inosV v), .int .i64 1, .int .i64 2, .int .i64 3, .int .i64 (3 + ((inosV v : Nat) + 1 : Int) / 2)] 66)); have HXB := Lib.hid (blk_keep (blk_new w _) hb1'); obtain ⟨c0, c1, c2, c3, c4, c5, c6, c7, c8, c9, c10, c11⟩ := cells12 HXB.out; clear hb1 hb1')
    | (go_at_call 114; refine (rfits_ok x _ HX.out).mono ?_; rintro e w2 ⟨rfl, hb2⟩; have HB2 := Lib.hid (below_keep HB.out (Nat.le_refl _) hb2); have HQ2 := Lib.hid (blk_keep HQ.out hb2); have HXB2 := Lib.hid (blk_keep HXB.out hb2); have HO := Lib.hid (own_new 9 w2); clear hb2)
    | (at_builtin; refine wpList_append_own _ rfl _ _ 22 rfl w2.heap.size 9 i0 _ 1 16 Try.underlying22 hi0 hz0 hz1 hz2 rfl (by decide) _ 0 [] rfl HO.out ⟨bA, oA, none⟩ v.length c (strs v) rfl (by rw [strs_length, Nat.mul_one]) ?hn (strs_one v) (by simp only [maxLen]; omega) (by omega) (by simp) ?hk))
  case hn =>
    intro j u hu
    have hj : j < v.length := by
      rw [← strs_length v]
      exact (List.getElem?_eq_some_iff.1 hu).1
    rw [strs_get v j hj] at hu
    injection hu with hu
    subst hu
    exact cell_keep (src_cell (HC.out j hj)) (HB2.out.alloc HB2.out.size _)
  case hk =>
    intro u w5 hown1 hgrow _
    have hb5 : Below w2.heap.size w2 w5 := ((Below.refl _ _).alloc (Nat.le_refl _) _).grown hgrow (by simp) (fun k e => by cases e; exact Nat.le_refl _)
    obtain ⟨g, cap, rfl, hg, hv1⟩ := VB.of_own hown1 rfl (by omega)
    clear hown1 hgrow
    have hB5 := Lib.hid (below_keep HB2.out (Nat.le_refl _) hb5)
    obtain ⟨g0, g1, g2, g3, g4, g5⟩ := cells6 (blk_keep HQ2.out hb5)
    clear c0 c1 c2 c3 c4 c5 c6 c7 c8 c9 c10 c11
    obtain ⟨x0, x1, x2, x3, x4, x5, x6, x7, x8, x9, x10, x11⟩ := cells12 (blk_keep HXB2.out hb5)
    have hsB := cell_keep hcB hB5.out
    have HG := Lib.hid hv1
    have s2 := HB2.out.size
    clear hv1 hb5
    go_wp2
    refine region_P (fun w' => w'.cell? ⟨w.heap.size, 0, none⟩ = some (.int .i64 ((x.kind : Nat) : Int)) ∧ w'.cell? ⟨w.heap.size, 1, none⟩ = some (.int .i64 ((x.links : Nat) : Int)) ∧ w'.cell? ⟨w.heap.size, 2, none⟩ = some (.int .i64 ((x.owner : Nat) : Int)) ∧ w'.cell? ⟨w.heap.size, 3, none⟩ = some (.int .i64 ((x.size : Nat) : Int)) ∧ w'.cell? ⟨w.heap.size, 4, none⟩ = some (.int .i64 ((x.d0 : Nat) : Int)) ∧ w'.cell? ⟨w.heap.size, 5, none⟩ = some (.int .i64 ((x.d1 : Nat) : Int)) ∧ w'.cell? ⟨w.heap.size, 6, none⟩ = some (.int .i64 ((x.d2 : Nat) : Int)) ∧ w'.cell? ⟨w.heap.size, 7, none⟩ = some (.int .i64 ((x.d3 : Nat) : Int)) ∧ w'.cell? ⟨w.heap.size, 8, none⟩ = some (.int .i64 ((x.d4 : Nat) : Int)) ∧ w'.cell? ⟨w.heap.size, 9, none⟩ = some (.int .i64 ((x.d5 : Nat) : Int)) ∧ w'.cell? ⟨w.heap.size, 10, none⟩ = some (.int .i64 ((x.ind : Nat) : Int)) ∧ w'.cell? ⟨w.heap.size, 11, none⟩ = some (.int .i64 ((x.ext : Nat) : Int)) ∧ w'.cell? ⟨bA, oA + B, none⟩ = some (.string (mk b))) [18] (by kernel_rfl) ?_ (fun hHeld => ?_)
    · exact ⟨x0, x1, x2, x3, x4, x5, x6, x7, x8, x9, x10, x11, hsB⟩
    refine wpP_take (i := 0) (oi := ?oi452014) (v := ?v452014) ?hi452014 (by kernel_rfl) (by kernel_rfl) (by kernel_rfl) (by kernel_rfl) ?hQ452014 ?hy452014 (by assumption) ?rest452014
    case hi452014 => (simp only [List.getElem?_toArray, List.getElem?_cons_succ, List.getElem?_cons_zero]; exact rfl)
    case hQ452014 => exact fun _ _ _ h => h
    case hy452014 => (refine Or.inl ⟨by kernel_rfl, ?_⟩; intro w hSw; (try dsimp only at hSw); go_simp; try (with_reducible rfl))
    try simp only [Act.put, List.setIfInBounds_toArray, List.set_cons_zero, List.set_cons_succ]
    refine wpP_take (i := 1) (oi := ?oi452015) (v := ?v452015) ?hi452015 (by kernel_rfl) (by kernel_rfl) (by kernel_rfl) (by kernel_rfl) ?hQ452015 ?hy452015 (by assumption) ?rest452015
    case hi452015 => (simp only [List.getElem?_toArray, List.getElem?_cons_succ, List.getElem?_cons_zero]; exact rfl)
    case hQ452015 => exact fun _ _ _ h => h
    case hy452015 => (refine Or.inl ⟨by kernel_rfl, ?_⟩; intro w hSw; (try dsimp only at hSw); go_simp; try (with_reducible rfl))
    try simp only [Act.put, List.setIfInBounds_toArray, List.set_cons_zero, List.set_cons_succ]
    refine wpP_take (i := 2) (oi := ?oi452016) (v := ?v452016) ?hi452016 (by kernel_rfl) (by kernel_rfl) (by kernel_rfl) (by kernel_rfl) ?hQ452016 ?hy452016 (by assumption) ?rest452016
    case hi452016 => (simp only [List.getElem?_toArray, List.getElem?_cons_succ, List.getElem?_cons_zero]; exact rfl)
    case hQ452016 => exact fun _ _ _ h => h
    case hy452016 => (refine Or.inl ⟨by kernel_rfl, ?_⟩; intro w hSw; (try dsimp only at hSw); go_simp; try (with_reducible rfl))
    try simp only [Act.put, List.setIfInBounds_toArray, List.set_cons_zero, List.set_cons_succ]
    refine wpP_take (i := 3) (oi := ?oi452017) (v := ?v452017) ?hi452017 (by kernel_rfl) (by kernel_rfl) (by kernel_rfl) (by kernel_rfl) ?hQ452017 ?hy452017 (by assumption) ?rest452017
    case hi452017 => (simp only [List.getElem?_toArray, List.getElem?_cons_succ, List.getElem?_cons_zero]; exact rfl)
    case hQ452017 => exact fun _ _ _ h => h
    case hy452017 => (refine Or.inl ⟨by kernel_rfl, ?_⟩; intro w hSw; (try dsimp only at hSw); go_simp; try (with_reducible rfl))
    try simp only [Act.put, List.setIfInBounds_toArray, List.set_cons_zero, List.set_cons_succ]
    refine wpP_take (i := 4) (oi := ?oi452018) (v := ?v452018) ?hi452018 (by kernel_rfl) (by kernel_rfl) (by kernel_rfl) (by kernel_rfl) ?hQ452018 ?hy452018 (by assumption) ?rest452018
    case hi452018 => (simp only [List.getElem?_toArray, List.getElem?_cons_succ, List.getElem?_cons_zero]; exact rfl)
    case hQ452018 => exact fun _ _ _ h => h
    case hy452018 => (refine Or.inl ⟨by kernel_rfl, ?_⟩; intro w hSw; (try dsimp only at hSw); go_simp; try (with_reducible rfl))
    try simp only [Act.put, List.setIfInBounds_toArray, List.set_cons_zero, List.set_cons_succ]
    refine wpP_take (i := 5) (oi := ?oi452019) (v := ?v452019) ?hi452019 (by kernel_rfl) (by kernel_rfl) (by kernel_rfl) (by kernel_rfl) ?hQ452019 ?hy452019 (by assumption) ?rest452019
    case hi452019 => (simp only [List.getElem?_toArray, List.getElem?_cons_succ, List.getElem?_cons_zero]; exact rfl)
    case hQ452019 => exact fun _ _ _ h => h
    case hy452019 => (refine Or.inl ⟨by kernel_rfl, ?_⟩; intro w hSw; (try dsimp only at hSw); go_simp; try (with_reducible rfl))
    try simp only [Act.put, List.setIfInBounds_toArray, List.set_cons_zero, List.set_cons_succ]
    refine wpP_take (i := 6) (oi := ?oi452020) (v := ?v452020) ?hi452020 (by kernel_rfl) (by kernel_rfl) (by kernel_rfl) (by kernel_rfl) ?hQ452020 ?hy452020 (by assumption) ?rest452020
    case hi452020 => (simp only [List.getElem?_toArray, List.getElem?_cons_succ, List.getElem?_cons_zero]; exact rfl)
    case hQ452020 => exact fun _ _ _ h => h
    case hy452020 => (refine Or.inl ⟨by kernel_rfl, ?_⟩; intro w hSw; (try dsimp only at hSw); go_simp; try (with_reducible rfl))
    try simp only [Act.put, List.setIfInBounds_toArray, List.set_cons_zero, List.set_cons_succ]
    refine wpP_take (i := 7) (oi := ?oi452021) (v := ?v452021) ?hi452021 (by kernel_rfl) (by kernel_rfl) (by kernel_rfl) (by kernel_rfl) ?hQ452021 ?hy452021 (by assumption) ?rest452021
    case hi452021 => (simp only [List.getElem?_toArray, List.getElem?_cons_succ, List.getElem?_cons_zero]; exact rfl)
    case hQ452021 => exact fun _ _ _ h => h
    case hy452021 => (refine Or.inl ⟨by kernel_rfl, ?_⟩; intro w hSw; (try dsimp only at hSw); go_simp; try (with_reducible rfl))
    try simp only [Act.put, List.setIfInBounds_toArray, List.set_cons_zero, List.set_cons_succ]
    refine wpP_take (i := 11) (oi := ?oi452022) (v := ?v452022) ?hi452022 (by kernel_rfl) (by kernel_rfl) (by kernel_rfl) (by kernel_rfl) ?hQ452022 ?hy452022 (by assumption) ?rest452022
    case hi452022 => (simp only [List.getElem?_toArray, List.getElem?_cons_succ, List.getElem?_cons_zero]; exact rfl)
    case hQ452022 => exact fun _ _ _ h => h
    case hy452022 => (refine Or.inl ⟨by kernel_rfl, ?_⟩; intro w hSw; (try dsimp only at hSw); go_simp; try (with_reducible rfl))
    try simp only [Act.put, List.setIfInBounds_toArray, List.set_cons_zero, List.set_cons_succ]
    refine wpP_take (i := 12) (oi := ?oi452023) (v := ?v452023) ?hi452023 (by kernel_rfl) (by kernel_rfl) (by kernel_rfl) (by kernel_rfl) ?hQ452023 ?hy452023 (by assumption) ?rest452023
    case hi452023 => (simp only [List.getElem?_toArray, List.getElem?_cons_succ, List.getElem?_cons_zero]; exact rfl)
    case hQ452023 => exact fun _ _ _ h => h
    case hy452023 => (refine Or.inl ⟨by kernel_rfl, ?_⟩; intro w hSw; (try dsimp only at hSw); go_simp; try (with_reducible rfl))
    try simp only [Act.put, List.setIfInBounds_toArray, List.set_cons_zero, List.set_cons_succ]
    refine wpP_take (i := 13) (oi := ?oi452024) (v := ?v452024) ?hi452024 (by kernel_rfl) (by kernel_rfl) (by kernel_rfl) (by kernel_rfl) ?hQ452024 ?hy452024 (by assumption) ?rest452024
    case hi452024 => (simp only [List.getElem?_toArray, List.getElem?_cons_succ, List.getElem?_cons_zero]; exact rfl)
    case hQ452024 => exact fun _ _ _ h => h
    case hy452024 => (refine Or.inl ⟨by kernel_rfl, ?_⟩; intro w hSw; (try dsimp only at hSw); go_simp; try (with_reducible rfl))
    try simp only [Act.put, List.setIfInBounds_toArray, List.set_cons_zero, List.set_cons_succ]
    refine wpP_take (i := 14) (oi := ?oi452025) (v := ?v452025) ?hi452025 (by kernel_rfl) (by kernel_rfl) (by kernel_rfl) (by kernel_rfl) ?hQ452025 ?hy452025 (by assumption) ?rest452025
    case hi452025 => (simp only [List.getElem?_toArray, List.getElem?_cons_succ, List.getElem?_cons_zero]; exact rfl)
    case hQ452025 => exact fun _ _ _ h => h
    case hy452025 => (refine Or.inl ⟨by kernel_rfl, ?_⟩; intro w hSw; (try dsimp only at hSw); go_simp; try (with_reducible rfl))
    try simp only [Act.put, List.setIfInBounds_toArray, List.set_cons_zero, List.set_cons_succ]
    refine wpP_take (i := 15) (oi := ?oi452026) (v := ?v452026) ?hi452026 (by kernel_rfl) (by kernel_rfl) (by kernel_rfl) (by kernel_rfl) ?hQ452026 ?hy452026 (by assumption) ?rest452026
    case hi452026 => (simp only [List.getElem?_toArray, List.getElem?_cons_succ, List.getElem?_cons_zero]; exact rfl)
    case hQ452026 => exact fun _ _ _ h => h
    case hy452026 => (refine Or.inl ⟨by kernel_rfl, ?_⟩; intro w hSw; (try dsimp only at hSw); go_simp; try (with_reducible rfl))
    try simp only [Act.put, List.setIfInBounds_toArray, List.set_cons_zero, List.set_cons_succ]
    refine wpP_ready (rs := [8]) (by kernel_rfl) (by simp) ?_
    refine AllP.cons (o := ?o452027) ?ho452027 (fun K hK => ?_) AllP.nil
    case ho452027 => (simp only [List.getElem?_toArray, List.getElem?_cons_succ, List.getElem?_cons_zero]; exact rfl)
    go_simp
    go_at_call 115
    refine (rbytes_ok x _ HX.out).mono ?_
    rintro e w6 ⟨rfl, hb6⟩
    have k6 : Below w5.heap.size w5 w6 := below_und hb6
    have hgB := (HG.out.keep k6).cell B hl
    have hgf := (HG.out.keep k6).free B
    refine hK.out _ _ ?_ (fun hHeld => ?_)
    · exact ⟨cell_keep hHeld.1 hb6, cell_keep hHeld.2.1 hb6, cell_keep hHeld.2.2.1 hb6, cell_keep hHeld.2.2.2.1 hb6, cell_keep hHeld.2.2.2.2.1 hb6, cell_keep hHeld.2.2.2.2.2.1 hb6, cell_keep hHeld.2.2.2.2.2.2.1 hb6, cell_keep hHeld.2.2.2.2.2.2.2.1 hb6, cell_keep hHeld.2.2.2.2.2.2.2.2.1 hb6, cell_keep hHeld.2.2.2.2.2.2.2.2.2.1 hb6, cell_keep hHeld.2.2.2.2.2.2.2.2.2.2.1 hb6, cell_keep hHeld.2.2.2.2.2.2.2.2.2.2.2.1 hb6, cell_keep hHeld.2.2.2.2.2.2.2.2.2.2.2.2 hb6⟩
    clear hK K
    try simp only [Act.put, List.setIfInBounds_toArray, List.set_cons_zero, List.set_cons_succ]
    refine wpP_take (i := 9) (oi := ?oi452028) (v := ?v452028) ?hi452028 (by kernel_rfl) (by kernel_rfl) (by kernel_rfl) (by kernel_rfl) ?hQ452028 ?hy452028 (by assumption) ?rest452028
    case hi452028 => (simp only [List.getElem?_toArray, List.getElem?_cons_succ, List.getElem?_cons_zero]; exact rfl)
    case hQ452028 => exact fun _ _ _ h => h
    case hy452028 => (refine Or.inl ⟨by kernel_rfl, ?_⟩; intro w hSw; (try dsimp only at hSw); go_simp; try (with_reducible rfl))
    try simp only [Act.put, List.setIfInBounds_toArray, List.set_cons_zero, List.set_cons_succ]
    refine wpP_take (i := 10) (oi := ?oi452029) (v := ?v452029) ?hi452029 (by kernel_rfl) (by kernel_rfl) (by kernel_rfl) (by kernel_rfl) ?hQ452029 ?hy452029 (by assumption) ?rest452029
    case hi452029 => (simp only [List.getElem?_toArray, List.getElem?_cons_succ, List.getElem?_cons_zero]; exact rfl)
    case hQ452029 => exact fun _ _ _ h => h
    case hy452029 => (refine Or.inl ⟨by kernel_rfl, ?_⟩; intro w hSw; (try dsimp only at hSw); go_simp; try (with_reducible rfl))
    try simp only [Act.put, List.setIfInBounds_toArray, List.set_cons_zero, List.set_cons_succ]
    refine wpP_take (i := 16) (oi := ?oi452030) (v := ?v452030) ?hi452030 (by kernel_rfl) (by kernel_rfl) (by kernel_rfl) (by kernel_rfl) ?hQ452030 ?hy452030 (by assumption) ?rest452030
    case hi452030 => (simp only [List.getElem?_toArray, List.getElem?_cons_succ, List.getElem?_cons_zero]; exact rfl)
    case hQ452030 => exact fun _ _ _ h => h
    case hy452030 => (refine Or.inl ⟨by kernel_rfl, ?_⟩; intro w hSw; (try dsimp only at hSw); go_simp; try (with_reducible rfl))
    try simp only [Act.put, List.setIfInBounds_toArray, List.set_cons_zero, List.set_cons_succ]
    refine wpP_take (i := 17) (oi := ?oi452031) (v := ?v452031) ?hi452031 (by kernel_rfl) (by kernel_rfl) (by kernel_rfl) (by kernel_rfl) ?hQ452031 ?hy452031 (by assumption) ?rest452031
    case hi452031 => (simp only [List.getElem?_toArray, List.getElem?_cons_succ, List.getElem?_cons_zero]; exact rfl)
    case hQ452031 => exact fun _ _ _ h => h
    case hy452031 => (refine Or.inl ⟨by kernel_rfl, ?_⟩; intro w hSw; (try dsimp only at hSw); go_simp; try (with_reducible rfl))
    try simp only [Act.put, List.setIfInBounds_toArray, List.set_cons_zero, List.set_cons_succ]
    refine wpP_ready (rs := [18]) (by kernel_rfl) (by simp) ?_
    refine AllP.last (o := ?o452032) ?ho452032 (by kernel_rfl) (fun K hK => ?_) AllP.nil
    case ho452032 => (simp only [List.getElem?_toArray, List.getElem?_cons_succ, List.getElem?_cons_zero]; exact rfl)
    go_simp
    refine hK.out _ _ ?_
    clear hK K
    try simp only [Act.put, List.setIfInBounds_toArray, List.set_cons_zero, List.set_cons_succ]
    refine wpP_done (by kernel_rfl) ?_ _
    go_wp2
    go_ret2
    have hk := (HG.out.keep k6).set B (b.take 64 ++ (inoBytes x ++ b.drop 88)) hl
    refine ⟨g, cap, rfl, ?_, by omega, below_set (below_keep hB5.out (Nat.le_refl _) k6) (by omega)⟩
    exact hk
/-- An inode is written. -/
theorem rput18_ok (A : Option Addr) (c : Nat) (v : Vol) (n : Nat) (x : Ino) (w : World) (hr : RS w A v) (hv : okV v = true) (h1 : 1 ≤ n) (h2 : n ≤ inosV v) (hx : fitI x) :
    Calls Try.prog 82 #[.slice A v.length c, .int .i64 n, .agg #[.int .i64 ((x.kind : Nat) : Int), .int .i64 ((x.links : Nat) : Int), .int .i64 ((x.owner : Nat) : Int), .int .i64 ((x.size : Nat) : Int), .int .i64 ((x.d0 : Nat) : Int), .int .i64 ((x.d1 : Nat) : Int), .int .i64 ((x.d2 : Nat) : Int), .int .i64 ((x.d3 : Nat) : Int), .int .i64 ((x.d4 : Nat) : Int), .int .i64 ((x.d5 : Nat) : Int), .int .i64 ((x.ind : Nat) : Int), .int .i64 ((x.ext : Nat) : Int)]] w fun e w' => ∃ g c', e = .returned (.tuple #[.slice (some ⟨g, 0, none⟩) v.length c', .int .i64 0]) ∧ VS w' g (putV v n x) ∧ w.heap.size ≤ g ∧ Below w.heap.size w w' := by
  rcases (by omega : n % 2 = 1 ∨ n % 2 = 0) with h | h
  · rw [putV, show (n - 1) % 2 * 64 = 0 from by omega]
    simp only [List.take_zero, List.nil_append, Nat.zero_add]
    exact rput18_odd A c v n _ x w hr hv h1 h2 hx rfl h
  · rw [putV, show (n - 1) % 2 * 64 = 64 from by omega, List.append_assoc]
    exact rput18_even A c v n _ x w hr hv h1 h2 hx rfl h
set_option maxHeartbeats 1000000 in
theorem rput18_no (A : Option Addr) (c : Nat) (v : Vol) (n : Int) (x : Ino) (w : World) (hr : RS w A v) (h : getE v n ≠ 0) :
    Calls Try.prog 82 #[.slice A v.length c, .int .i64 n, .agg #[.int .i64 ((x.kind : Nat) : Int), .int .i64 ((x.links : Nat) : Int), .int .i64 ((x.owner : Nat) : Int), .int .i64 ((x.size : Nat) : Int), .int .i64 ((x.d0 : Nat) : Int), .int .i64 ((x.d1 : Nat) : Int), .int .i64 ((x.d2 : Nat) : Int), .int .i64 ((x.d3 : Nat) : Int), .int .i64 ((x.d4 : Nat) : Int), .int .i64 ((x.d5 : Nat) : Int), .int .i64 ((x.ind : Nat) : Int), .int .i64 ((x.ext : Nat) : Int)]] w fun e w' => e = .returned (.tuple #[.slice none 0 0, .int .i64 (getE v n)]) ∧ Below w.heap.size w w' := by
  have HR := Lib.hid hr
  cases hv : okV v with
  | true =>
    have hn : ¬ (1 ≤ n ∧ n ≤ inosV v) := fun h2 => h (getE_is hv h2.1 h2.2)
    rw [getE_lt hv hn]
    have HV := Lib.hid hv
    clear hr h hv
    by_cases h1 : n < 1
    · clear hn
      go_enter Try.func82, Try.ntmps82
      go_wp2_with (go_at_call 46; refine (rof_ok _ _ _ _ (HR.out.below ((Below.refl _ _).alloc (Nat.le_refl _) _)) HV.out).mono ?_; rintro e w1 ⟨rfl, hb1⟩; have hb1' := hb1.alloc hb1.size (.cells #[.int .i64 v.length, .int .i64 (inosV v), .int .i64 1, .int .i64 2, .int .i64 3, .int .i64 (3 + ((inosV v : Nat) + 1 : Int) / 2)] 66); have HB := Lib.hid (below_keep ((Below.refl _ w).alloc (Nat.le_refl _) _) (Nat.le_refl _) hb1'); clear hb1 hb1')
      go_ret2
      exact ⟨rfl, HB.out⟩
    · have h2 : (inosV v : Int) < n := by omega
      clear hn
      go_enter Try.func82, Try.ntmps82
      go_wp2_with (go_at_call 46; refine (rof_ok _ _ _ _ (HR.out.below ((Below.refl _ _).alloc (Nat.le_refl _) _)) HV.out).mono ?_; rintro e w1 ⟨rfl, hb1⟩; have hb1' := hb1.alloc hb1.size (.cells #[.int .i64 v.length, .int .i64 (inosV v), .int .i64 1, .int .i64 2, .int .i64 3, .int .i64 (3 + ((inosV v : Nat) + 1 : Int) / 2)] 66); have HB := Lib.hid (below_keep ((Below.refl _ w).alloc (Nat.le_refl _) _) (Nat.le_refl _) hb1'); obtain ⟨g0, g1, g2, g3, g4, g5⟩ := cells6 (blk_new w1 (.cells #[.int .i64 v.length, .int .i64 (inosV v), .int .i64 1, .int .i64 2, .int .i64 3, .int .i64 (3 + ((inosV v : Nat) + 1 : Int) / 2)] 66)); clear hb1 hb1')
      go_ret2
      exact ⟨rfl, HB.out⟩
  | false =>
    rw [getE_bad hv]
    have HV := Lib.hid hv
    clear hr h hv
    go_enter Try.func82, Try.ntmps82
    go_wp2_with (go_at_call 46; refine (rof_no _ _ _ _ (HR.out.below ((Below.refl _ _).alloc (Nat.le_refl _) _)) HV.out).mono ?_; rintro e w1 ⟨rfl, hb1⟩; have hb1' := hb1.alloc hb1.size (.cells #[.int .i64 0, .int .i64 0, .int .i64 0, .int .i64 0, .int .i64 0, .int .i64 0] 66); have HB := Lib.hid (below_keep ((Below.refl _ w).alloc (Nat.le_refl _) _) (Nat.le_refl _) hb1'); clear hb1 hb1')
    go_ret2
    exact ⟨rfl, HB.out⟩
end Go.Proofs.Ytacdohlhalnioaa
end

/- Contracts: a block is given back (the document's). -/
section
set_option linter.unusedVariables false
set_option linter.unusedSimpArgs false
set_option maxRecDepth 20000
namespace Go.Proofs.Ytacdohlhalnioaa
open Go.RowKit
attribute [local go_sem] Oper.semAt_some

set_option maxHeartbeats 2000000 in
theorem rgive_ok (A : Option Addr) (c : Nat) (v : Vol) (i : Nat) (w : World) (hr : RS w A v) (hv : okV v = true) (hi1 : dataV v ≤ i) (hi2 : i < v.length) (hi3 : bit (bk v 2) i = true) :
    Calls Try.prog 85 #[.slice A v.length c, .int .i64 i] w fun e w' => ∃ g c', e = .returned (.tuple #[.slice (some ⟨g, 0, none⟩) v.length c', .int .i64 0]) ∧ VS w' g (v.set 2 (turn (bk v 2) i)) ∧ w.heap.size ≤ g ∧ Below w.heap.size w w' := by
  have H := okV_iff.1 hv
  obtain ⟨h1, h2, h3, h4, h5, h6, h7, h8⟩ := H
  have hl := hr.1
  have HRR := Lib.hid hr
  obtain ⟨bA, oA, rfl, hbA, hc⟩ := hr.open_ (by omega)
  have hc2 := hc 2 (by omega)
  have S2 := Lib.hid (h1 2 (by omega))
  have HV := Lib.hid hv
  have i2 : (2 : Int) < (v.length : Nat) := by omega
  clear hr hc hv h1 h7 h8
  obtain ⟨d, hd⟩ : ∃ d, dataV v = d := ⟨_, rfl⟩
  have hdd : (3 + ((inosV v : Nat) + 1 : Int) / 2) = (d : Int) := by rw [← hd, dataV]; omega
  rw [hd] at hi1
  have hid : ¬ ((i : Int) < (d : Int)) := by omega
  have hil : ¬ ((v.length : Int) ≤ (i : Int)) := by omega
  go_enter Try.func85, Try.ntmps85
  go_wp2_with (first
    | (go_at_call 46; refine (rof_ok _ _ _ _ HRR.out HV.out).mono ?_; rw [hdd]; rintro e w1 ⟨rfl, hb1⟩; have hb2 := hb1.alloc hb1.size (.cells #[.int .i64 v.length, .int .i64 (inosV v), .int .i64 1, .int .i64 2, .int .i64 3, .int .i64 d] 66); obtain ⟨g0, g1, g2, g3, g4, g5⟩ := cells6 (blk_new w1 (.cells #[.int .i64 v.length, .int .i64 (inosV v), .int .i64 1, .int .i64 2, .int .i64 3, .int .i64 d] 66)); have d2 := cell_keep hc2 hb2; have HRW := Lib.hid (HRR.out.below hb2); have HB2 := Lib.hid hb2; clear hb1 hb2)
    | (go_at_call 88; refine (rbit_ok _ _ _ S2.out (by omega)).mono ?_; rw [hi3]; rintro e w3 ⟨rfl, rfl⟩)
    | (go_at_call 118; refine (rturn_ok _ _ _ S2.out (by omega)).mono ?_; rintro e w3 ⟨rfl, k1⟩; have HK1 := Lib.hid k1; clear k1)
    | (go_at_call 117; refine (rwith_ok _ _ v 2 _ _ (HRW.out.below HK1.out) (by omega)).mono ?_; rintro e w4 ⟨g, cg, rfl, hg1, hg, k2⟩; have HK2 := Lib.hid k2; clear k2))
  have s1 := HB2.out.size
  have s3 := HK1.out.size
  go_ret2
  exact ⟨g, _, rfl, hg1, by omega, below_keep (below_keep HB2.out (Nat.le_refl _) HK1.out) (Nat.le_refl _) HK2.out⟩
set_option maxHeartbeats 1000000 in
theorem rgive_none (A : Option Addr) (c : Nat) (v : Vol) (i : Nat) (w : World) (hr : RS w A v) (hv : okV v = true) (hi1 : dataV v ≤ i) (hi2 : i < v.length) (hi3 : bit (bk v 2) i = false) :
    Calls Try.prog 85 #[.slice A v.length c, .int .i64 i] w fun e w' => e = .returned (.tuple #[.slice none 0 0, .int .i64 9]) ∧ Below w.heap.size w w' := by
  have H := okV_iff.1 hv
  obtain ⟨h1, h2, h3, h4, h5, h6, h7, h8⟩ := H
  have HRR := Lib.hid hr
  obtain ⟨bA, oA, rfl, hbA, hc⟩ := hr.open_ (by omega)
  have hc2 := hc 2 (by omega)
  have S2 := Lib.hid (h1 2 (by omega))
  have HV := Lib.hid hv
  have i2 : (2 : Int) < (v.length : Nat) := by omega
  clear hr hc hv h1 h7 h8
  obtain ⟨d, hd⟩ : ∃ d, dataV v = d := ⟨_, rfl⟩
  have hdd : (3 + ((inosV v : Nat) + 1 : Int) / 2) = (d : Int) := by rw [← hd, dataV]; omega
  rw [hd] at hi1
  have hid : ¬ ((i : Int) < (d : Int)) := by omega
  have hil : ¬ ((v.length : Int) ≤ (i : Int)) := by omega
  go_enter Try.func85, Try.ntmps85
  go_wp2_with (first
    | (go_at_call 46; refine (rof_ok _ _ _ _ HRR.out HV.out).mono ?_; rw [hdd]; rintro e w1 ⟨rfl, hb1⟩; have hb2 := hb1.alloc hb1.size (.cells #[.int .i64 v.length, .int .i64 (inosV v), .int .i64 1, .int .i64 2, .int .i64 3, .int .i64 d] 66); obtain ⟨g0, g1, g2, g3, g4, g5⟩ := cells6 (blk_new w1 (.cells #[.int .i64 v.length, .int .i64 (inosV v), .int .i64 1, .int .i64 2, .int .i64 3, .int .i64 d] 66)); have d2 := cell_keep hc2 hb2; have HB2 := Lib.hid hb2; clear hb1 hb2)
    | (go_at_call 88; refine (rbit_ok _ _ _ S2.out (by omega)).mono ?_; rw [hi3]; rintro e w3 ⟨rfl, rfl⟩))
  go_ret2
  exact ⟨rfl, HB2.out⟩
end Go.Proofs.Ytacdohlhalnioaa
end

/- A row of bytes that may be written; a piece that is put into a block byte by byte; what a function answers with a volume. -/
section
set_option linter.unusedVariables false
set_option linter.unusedSimpArgs false
set_option maxRecDepth 20000
namespace Go.Proofs.Ytacdohlhalnioaa
open Go.RowKit

/-- A row of bytes. -/
def BR (w : World) (g : Nat) (s : Blk) : Prop := ∃ (cur : Array Value) (fz : Nat × Nat), w.heap[g]? = some (.cells cur 5 fz) ∧ s.length ≤ fz.1 ∧ ∀ j, j < s.length → cur[j]? = some (.int .u8 ((gb s j : Nat) : Int))
theorem BR.cell {w : World} {g : Nat} {s : Blk} (h : BR w g s) (j : Nat) (hj : j < s.length) : w.cell? ⟨g, j, none⟩ = some (.int .u8 ((gb s j : Nat) : Int)) := by
  obtain ⟨cur, fz, h1, h2, h3⟩ := h
  rw [cell_at h1]
  exact h3 j hj
theorem BR.free {w : World} {g : Nat} {s : Blk} (h : BR w g s) (j : Nat) (hj : j < s.length) : w.frozen? ⟨g, j, none⟩ = false := by
  obtain ⟨cur, fz, h1, h2, h3⟩ := h
  simp only [World.frozen?, h1]
  simp
  omega
theorem BR.keep {w w' : World} {g : Nat} {s : Blk} (h : BR w g s) (hb : Below w.heap.size w w') : BR w' g s := by
  obtain ⟨cur, fz, h1, h2, h3⟩ := h
  exact ⟨cur, fz, blk_keep h1 hb, h2, h3⟩
theorem BR.lt {w : World} {g : Nat} {s : Blk} (h : BR w g s) : g < w.heap.size := by
  obtain ⟨cur, fz, h1, _⟩ := h
  exact blk_lt h1
theorem BR.set {w : World} {g : Nat} {s : Blk} (h : BR w g s) (i n : Nat) (hi : i < s.length) (hn : n < 256) : BR (w.setCell ⟨g, i, none⟩ (.int .u8 (n : Int))) g (s.set i (UInt8.ofNat n)) := by
  obtain ⟨cur, fz, h1, h2, h3⟩ := h
  refine ⟨_, fz, blk_set h1 i _, by rw [List.length_set]; exact h2, fun j hj => ?_⟩
  rw [List.length_set] at hj
  have hi2 := (Array.getElem?_eq_some_iff.1 (h3 i hi)).1
  rw [gb_set _ _ _ _ hn hi]
  by_cases hji : j = i
  · subst hji
    rw [if_pos rfl, Array.getElem?_setIfInBounds_self_of_lt hi2]
  · rw [if_neg hji, Array.getElem?_setIfInBounds_ne (by omega)]
    exact h3 j hj
theorem BR.new (s : Blk) (W : World) : BR (Lib.bytesWorld W 5 (mk s)) W.heap.size s := by
  refine ⟨_, _, Lib.bytesWorld_at_new W 5 (mk s), by simp [Lib.bytesCells], fun j hj => ?_⟩
  have := bytes_cell s W j hj
  rw [cell_at (Lib.bytesWorld_at_new W 5 (mk s))] at this
  exact this
theorem BR.str {w : World} {g c n : Nat} {s : Blk} (h : BR w g s) (hn : s.length = n) : (convert 62 9 (.slice (some ⟨g, 0, none⟩) n c)).run Try.prog w = .ok (.string (mk s)) w :=
  str_of_u8 w g 0 n c s hn (fun j hj => by rw [Nat.zero_add]; exact h.cell j (by omega))

/-- The first j bytes of a block, of a file's byte b on, are those of a text that is to stand at off, as far as it reaches. -/
def insB (s t : Blk) (off b j : Nat) : Blk := (List.range j).foldl (fun l i => if off ≤ b + i ∧ b + i - off < t.length then l.set i (UInt8.ofNat (gb t (b + i - off))) else l) s
theorem insB_succ (s t : Blk) (off b j : Nat) : insB s t off b (j + 1) = if off ≤ b + j ∧ b + j - off < t.length then (insB s t off b j).set j (UInt8.ofNat (gb t (b + j - off))) else insB s t off b j := by simp [insB, List.range_succ]
@[simp] theorem insB_length (s t : Blk) (off b j : Nat) : (insB s t off b j).length = s.length := by
  induction j with
  | zero => rfl
  | succ j ih =>
    rw [insB_succ]
    split
    · rw [List.length_set, ih]
    · exact ih
theorem gb_insB (s t : Blk) (off b j i : Nat) (hi : i < s.length) (hj : j ≤ s.length) : gb (insB s t off b j) i = if i < j ∧ off ≤ b + i ∧ b + i - off < t.length then gb t (b + i - off) else gb s i := by
  induction j with
  | zero => rw [if_neg (by omega)]; rfl
  | succ j ih =>
    rw [insB_succ]
    by_cases h : off ≤ b + j ∧ b + j - off < t.length
    · rw [if_pos h, gb_set _ _ _ _ (gb_lt _ _) (by rw [insB_length]; omega), ih (by omega)]
      by_cases e : i = j
      · subst e
        rw [if_pos rfl, if_pos ⟨by omega, h⟩]
      · rw [if_neg e]
        by_cases h2 : i < j ∧ off ≤ b + i ∧ b + i - off < t.length
        · rw [if_pos h2, if_pos ⟨by omega, h2.2⟩]
        · rw [if_neg h2, if_neg (by omega)]
    · rw [if_neg h, ih (by omega)]
      by_cases h2 : i < j ∧ off ≤ b + i ∧ b + i - off < t.length
      · rw [if_pos h2, if_pos ⟨by omega, h2.2⟩]
      · rw [if_neg h2]
        by_cases h3 : i < j + 1 ∧ off ≤ b + i ∧ b + i - off < t.length
        · have : i = j := by omega
          subst this
          exact absurd h3.2 h
        · rw [if_neg h3]
/-- All the block's bytes: the piece that falls into it. -/
theorem insB_over (s t : Blk) (off k a : Nat) (hs : s.length = 128) (ha : a = max off (128 * k)) (hk : a / 128 = k) :
    insB s t off (128 * k) 128 = over s (a % 128) ((t.drop (a - off)).take (128 - a % 128)) := by
  have hl : ((t.drop (a - off)).take (128 - a % 128)).length = min (128 - a % 128) (t.length - (a - off)) := by simp
  refine blk_ext (by rw [insB_length, over_length _ _ _ (by rw [hl, hs]; omega)]) (fun i hi => ?_)
  rw [insB_length] at hi
  rw [gb_insB _ _ _ _ _ _ hi (by omega), over]
  have hll : (s.take (a % 128)).length = a % 128 := by rw [List.length_take]; omega
  by_cases h1 : i < a % 128
  · rw [List.append_assoc, gb_append_left _ _ _ (by omega), gb_take _ _ _ h1, if_neg (by omega)]
  · by_cases h2 : i < a % 128 + ((t.drop (a - off)).take (128 - a % 128)).length
    · rw [gb_append_left _ _ _ (by rw [List.length_append, hll]; omega), gb_append_right _ _ _ (by omega), hll, gb_take _ _ _ (by omega), gb_drop, if_pos (by omega)]
      congr 1
      omega
    · rw [gb_append_right _ _ _ (by rw [List.length_append, hll]; omega), gb_drop, if_neg (by omega)]
      congr 1
      rw [List.length_append, hll]
      omega
/-- A volume and a number are answered, in whatever memory. -/
def Ans (w : World) (R : Int × Vol) (r : Ending) (w' : World) : Prop :=
  ∃ A c, r = .returned (.tuple #[.slice A R.2.length c, .int .i64 R.1]) ∧ RS w' A R.2 ∧ Below w.heap.size w w'
theorem rs_any (w : World) (A : Option Addr) : RS w A [] := ⟨by simp, fun h => absurd h (by simp)⟩
end Go.Proofs.Ytacdohlhalnioaa
end
