/-
  slices.Backward over at most one word; integer.Low of one word.
  count.Hurwitz of small numbers: twelve times the class number.
-/
import Derived.Test.YtekipapkcgoieaaGreatDoorJ34
import Derived.Test.YtekipapkcgoieaaGreatDoorJ17
set_option linter.unusedVariables false
set_option linter.unusedSimpArgs false

/- slices.Backward over at most one word; integer.Low of one word. -/
namespace Go.Proofs.YtekipapkcgoieaaGreatDoor
open Go.RowKit Go.Maps
attribute [local go_sem ↓] Go.wp_at_zero Go.wp_at_succ
attribute [local go_sem] Oper.semAt_some

theorem Back_any (A : Option Addr) (n c : Nat) (w : World) :
    Calls Tryz.prog 102 #[.slice A n c] w fun e w' => e = .returned (.func (.func 132) #[] #[.pointer (some ⟨w.heap.size, 0, none⟩)]) ∧ w' = w.alloc (.cells #[.slice A n c] 35) := by
  go_enter Tryz.func102, Tryz.ntmps102
  go_wp2
  go_ret
  exact ⟨rfl, rfl⟩

set_option maxRecDepth 100000 in
set_option maxHeartbeats 4000000 in
theorem Back1_zero (A : Option Addr) (c m l b1 : Nat) (w0 : World) (J : World → Prop)
    (hc : w0.cell? ⟨b1, 0, none⟩ = some (.slice A 0 c)) (hJ0 : J w0) :
    CallsIn Fence.wide m Tryz.prog 132 #[.func (.yield l) #[] #[], .pointer (some ⟨b1, 0, none⟩)] w0 fun e W' => (∃ v, e = .returned v) ∧ J W' := by
  have HJ0 := Lib.hid hJ0
  clear hJ0
  refine callsIn_of_wp Tryz.func132 rfl trivial ?_ rfl
  simp only [Tryz.ntmps132, List.size_toArray, List.length_cons, List.length_nil, Nat.reduceAdd, Nat.reduceSub, Array.replicate_succ, Array.replicate_zero, List.push_toArray, List.append_toArray, List.nil_append, List.cons_append]
  gi_wp2
  gi_loopw [3] (fun a wr => a = .int .i64 (-1) ∧ Hid (J wr)) (fun a _ => 0)
  case atStart => exact ⟨rfl, HJ0⟩
  case round =>
    obtain ⟨rfl, hJ⟩ := hrel
    gi_wp2
    go_end0
    exact ⟨⟨_, rfl⟩, hJ.out⟩

set_option maxRecDepth 100000 in
set_option maxHeartbeats 4000000 in
theorem Back1_one (x : Int) (b o c m l b1 : Nat) (w0 : World) (J : World → Prop)
    (hc : w0.cell? ⟨b1, 0, none⟩ = some (.slice (some ⟨b, o, none⟩) 1 c)) (hx : w0.cell? ⟨b, o, none⟩ = some (.int .u32 x))
    (hY : YieldAt Fence.wide (m - 1) Tryz.prog l #[.int .i64 0, .int .u32 x] w0 fun e W' => e = .returned (.bool true) ∧ J W') :
    CallsIn Fence.wide m Tryz.prog 132 #[.func (.yield l) #[] #[], .pointer (some ⟨b1, 0, none⟩)] w0 fun e W' => (∃ v, e = .returned v) ∧ J W' := by
  have HY := Lib.hid hY
  clear hY
  refine callsIn_of_wp Tryz.func132 rfl trivial ?_ rfl
  simp only [Tryz.ntmps132, List.size_toArray, List.length_cons, List.length_nil, Nat.reduceAdd, Nat.reduceSub, Array.replicate_succ, Array.replicate_zero, List.push_toArray, List.append_toArray, List.nil_append, List.cons_append]
  gi_wp2
  gi_loopw [3] (fun a wr => (a = .int .i64 0 ∧ wr = w0) ∨ (a = .int .i64 (-1) ∧ Hid (J wr))) (fun a _ => (intOf a + 1).toNat)
  case atStart => exact .inl ⟨rfl, rfl⟩
  case round =>
    rcases hrel with ⟨rfl, rfl⟩ | ⟨rfl, hJ⟩
    · obtain ⟨fn, tmps, assign, body, hy9, hR⟩ := HY.out
      gi_wp2_with fail
      refine ⟨(fun h => by cases h), hR.mono ?_⟩
      rintro e w4 ⟨rfl, hJ4⟩
      have HJ4 := Lib.hid hJ4
      clear hy9 hR hJ4
      gi_wp2
      go_roundw
      case rel => exact .inr ⟨by go_num, HJ4⟩
      case measure => (simp [intOf])
    · gi_wp2
      go_end0
      exact ⟨⟨_, rfl⟩, hJ.out⟩

theorem or_zero_left {z : Int} (h0 : 0 ≤ z) (hz : z ≤ 4294967295) : bits BinOp.or IntKind.u64 0 z = z := by
  obtain ⟨n, rfl⟩ := Int.eq_ofNat_of_zero_le h0
  have := u64_or_nat 0 n (by omega) (by omega)
  simpa using this

/-- What holds while a number's words are run through. -/
structure LowJ (sb gb l D : Nat) (r : Loop) (v1 : Value) (x : Int) (w W : World) : Prop where
  loop : W.heap[l]? = some (.loop r)
  deferred : W.heap[D]? = some (.deferred (some []))
  sum : Blk W sb 121 #[.int .u64 x]
  arg : Blk W gb 37 #[.bool false, v1]
  ext : Ext w W

theorem one_word {w : World} {A : Option Addr} {n c : Nat} {z : Int} (h0 : 0 ≤ z) (hz : z ≤ 4294967295) (h : IsNat w (.slice A n c) z.natAbs) :
    (n = 0 ∧ z = 0) ∨ (n = 1 ∧ 0 < z ∧ ∃ b o, A = some ⟨b, o, none⟩ ∧ b < w.heap.size ∧ ∀ w', Ext w w' → w'.cell? ⟨b, o, none⟩ = some (.int .u32 z)) := by
  rcases Int.lt_or_le 0 z with hp | hp
  · refine .inr ?_
    have hw := wordsOf_one (m := z.natAbs) (by omega) (by omega)
    unfold IsNat at h
    rw [hw] at h
    rcases h with ⟨-, h⟩ | ⟨b, o, c', h1, -, h3, -, h4⟩
    · cases h
    · injection h1 with e1 e2 e3
      have h5 := h4 0 z.natAbs rfl
      have hzz : ((z.natAbs : Nat) : Int) = z := by omega
      rw [hzz] at h5
      exact ⟨e2, hp, b, o, e1, h3, fun w' k => (k.cell (p := ⟨b, o, none⟩) h3).trans h5⟩
  · refine .inl ?_
    have hz0 : z.natAbs = 0 := by omega
    unfold IsNat at h
    rw [hz0] at h
    rcases h with ⟨h, -⟩ | ⟨b, o, c', h1, -⟩
    · injection h with _ h; exact ⟨h, by omega⟩
    · injection h1 with _ e2 _; exact ⟨e2, by omega⟩

set_option maxRecDepth 100000 in
set_option maxHeartbeats 4000000 in
theorem LowI_any (b1 v1 : Value) (z : Int) (w : World) (hz0 : 0 ≤ z) (hz : z ≤ 4294967295) (h1 : IsInt w b1 v1 z) :
    Calls Tryz.prog 62 #[.agg #[b1, v1]] w fun e w' => e = .returned (.tuple #[.int .i64 z, .bool true]) ∧ Ext w w' := by
  obtain ⟨s, A, n, c, rfl, rfl, es, en, hN⟩ := h1.form
  have hs0 : s = false := by rw [es]; simp; omega
  subst hs0
  have hword := one_word hz0 hz hN
  clear h1 hN en es
  refine (callsIn_wide (n := 9)).1 ?_
  refine callsIn_of_wp_marks Tryz.func62 rfl trivial ?_ rfl
  simp only [Tryz.ntmps62, List.size_toArray, List.length_cons, List.length_nil, Nat.reduceAdd, Nat.reduceSub, Array.replicate_succ, Array.replicate_zero, List.push_toArray, List.append_toArray, List.nil_append, List.cons_append]
  have hn1 : n ≤ 1 := by rcases hword with h | h <;> omega
  have hn2 : ¬ (2 : Int) < (n : Int) := by omega
  gi_upto_region 4 with fail
  obtain ⟨W, hW⟩ : ∃ W : World, W = (w.alloc (.cells #[.bool false, .slice A n c] 37)).alloc (.cells #[.int .u64 0] 121) := ⟨_, rfl⟩
  rw [← hW]
  have hE : Ext w W := by rw [hW]; exact ((Ext.refl w).alloc _).alloc _
  have hBa : Blk W w.heap.size 37 #[.bool false, .slice A n c] := by rw [hW]; exact (Blk.newAt _ _ _ (by simp)).alloc _
  have hBs : Blk W (w.heap.size + 1) 121 #[.int .u64 0] := by rw [hW]; exact Blk.newAt _ _ _ (by simp)
  clear hW
  have f0 := hBa.two
  gi_wp2_with fail
  refine ⟨trivial, (callsIn_wide.2 (Back_any _ _ _ W)).mono ?_⟩
  rintro e w3 ⟨rfl, hw3⟩
  have hE3 : Ext W w3 := by rw [hw3]; exact (Ext.refl _).alloc _
  have hBb : Blk w3 W.heap.size 35 #[.slice A n c] := by rw [hw3]; exact Blk.newAt _ _ _ rfl
  have hs3 : w3.heap.size = W.heap.size + 1 := by rw [hw3]; simp
  have hsW : w.heap.size + 1 < W.heap.size := hBs.lt
  clear hw3 f0
  gi_wp2_with fail
  refine range_step rfl (enters_of Tryz.func132 (by kernel_rfl) rfl) ?_
  intro r hr1 hr2 hr3 hr4 hr5 hr6 re W1 hW1
  have hE4 : Ext w3 W1 := by rw [hW1]; exact ((Ext.refl _).alloc _).alloc _
  have hL : W1.heap[w3.heap.size + 1]? = some (.loop r) := by
    rw [hW1]; have := World.alloc_heap_new (w3.alloc (.deferred (some []))) (.loop r); rwa [World.size_alloc] at this
  have hD : W1.heap[w3.heap.size]? = some (.deferred (some [])) := by
    rw [hW1]; exact (Below.heap_alloc _ _ _ (by simp)).trans (World.alloc_heap_new w3 _)
  clear hW1
  generalize w3.heap.size = D at *
  have hDlt : W.heap.size < D := by omega
  clear hs3
  have hJ0 : LowJ (w.heap.size + 1) w.heap.size (D + 1) D r (.slice A n c) 0 w W1 := ⟨hL, hD, (hBs.ext hE3).ext hE4, (hBa.ext hE3).ext hE4, (hE.trans hE3).trans hE4⟩
  have c1 := (hBb.ext hE4).cell 0
  have HJ0 := Lib.hid hJ0
  clear hL hD
  have hR : CallsIn Fence.wide 8 Tryz.prog 132 #[.func (.yield (D + 1)) #[] #[], .pointer (some ⟨W.heap.size, 0, none⟩)] W1 fun e W' => (∃ v, e = .returned v) ∧ LowJ (w.heap.size + 1) w.heap.size (D + 1) D r (.slice A n c) z w W' := by
    rcases hword with ⟨rfl, rfl⟩ | ⟨rfl, hzp, b, o, rfl, hb, hcell⟩
    · exact Back1_zero A c 8 (D + 1) W.heap.size W1 _ c1 HJ0.out
    · refine Back1_one z b o c 8 (D + 1) W.heap.size W1 _ c1 (hcell W1 HJ0.out.ext) ?_
      refine yield_step HJ0.out.loop hr1 hr2 hr3 hr4 hr5 hr6 rfl ?_
      clear hr1 hr2 hr3 hr4 hr5 hr6
      intro rb
      gi_wp2
      refine ⟨HJ0.out.loop, ?_⟩
      obtain ⟨W2, hW2⟩ : ∃ W2 : World, W2 = W1.putObj (D + 1) (.loop rb) := ⟨_, rfl⟩
      rw [← hW2]
      have hbe : Beside [D + 1] W1 W2 := by rw [hW2]; exact Beside.putObj _ _ _
      have hlb : W2.heap[D + 1]? = some (.loop rb) := by rw [hW2]; exact World.putObj_heap_same (block_lt HJ0.out.loop)
      have hS2 := HJ0.out.sum.beside hbe (by simp; omega)
      have hA2 := HJ0.out.arg.beside hbe (by simp; omega)
      have hD2 := heap_beside HJ0.out.deferred hbe (by simp)
      have hE2 := HJ0.out.ext.beside hbe (by simp; omega)
      clear hW2
      have f1 := hS2.cell 0
      have f2 := hS2.frozen 0
      have e1 : bits BinOp.or IntKind.u64 0 z = z := or_zero_left hz0 hz
      have hl3 : ∀ (W3 : World), W3 = W2.setCell ⟨w.heap.size + 1, 0, none⟩ (.int .u64 z) → W3.heap[D + 1]? = some (.loop rb) ∧ LowJ (w.heap.size + 1) w.heap.size (D + 1) D r (.slice (some ⟨b, o, none⟩) 1 c) z w (W3.putObj (D + 1) (.loop r)) := fun W3 h3 => by
        have hb3 : Beside [w.heap.size + 1] W2 W3 := by rw [h3]; exact Beside.of_grown (row := some (w.heap.size + 1)) (grow_set (World.grownBy.refl _ _) 0 _) (fun k hk => by injection hk with hk; simp [hk])
        have hS3 : Blk W3 (w.heap.size + 1) 121 #[.int .u64 z] := by rw [h3]; exact hS2.set_ 0 _
        have hA3 := hA2.beside hb3 (by simp)
        have hD3 := heap_beside hD2 hb3 (by simp; omega)
        have hl3 := heap_beside hlb hb3 (by simp; omega)
        have hE3 := hE2.beside hb3 (by simp)
        have hb4 : Beside [D + 1] W3 (W3.putObj (D + 1) (.loop r)) := Beside.putObj _ _ _
        exact ⟨hl3, World.putObj_heap_same (block_lt hl3), heap_beside hD3 hb4 (by simp), hS3.beside hb4 (by simp; omega), hA3.beside hb4 (by simp; omega), hE3.beside hb4 (by simp; omega)⟩
      have HL3 := Lib.hid hl3
      clear hl3
      gi_wp2_with fail
      exact HL3.out _ rfl
  refine hR.mono ?_
  rintro e W5 ⟨⟨v, rfl⟩, hJ5⟩
  refine ⟨⟨_, rfl⟩, hJ5.loop, ?_⟩
  clear hr1 hr2 hr3 hr4 hr5 hr6 hR
  obtain ⟨W6, hW6⟩ : ∃ W6 : World, W6 = W5.putObj (D + 1) (.loop re) := ⟨_, rfl⟩
  rw [← hW6]
  have hbe : Beside [D + 1] W5 W6 := by rw [hW6]; exact Beside.putObj _ _ _
  have hS6 := hJ5.sum.beside hbe (by simp; omega)
  have hA6 := hJ5.arg.beside hbe (by simp; omega)
  have hD6 := heap_beside hJ5.deferred hbe (by simp)
  have hE6 : Ext w W6 := hJ5.ext.beside hbe (by simp; omega)
  clear hW6 hbe
  have f1 := hS6.cell 0
  have f2 := hA6.two
  have hzw : IntKind.i64.wrap z = z := IntWalk.i64_in _ (by omega)
  have hz3 : ¬ z < 0 := by omega
  have hb7 : Beside [D] W6 (W6.putObj D (.deferred none)) := Beside.putObj _ _ _
  have hE7 : Ext w (W6.putObj D (.deferred none)) := hE6.beside hb7 (by simp; omega)
  gi_wp2
  all_goals
    refine ⟨by simp, .inl ⟨_, _, rfl, run_takeDeferred hD6, ?_⟩⟩
    refine ⟨.tuple #[.int .i64 z, .bool true], by simp [results, Tryz.results62, go_sem] <;> omega, (by first | rfl | rw [show z = (0 : Int) by omega]), hE7⟩

end Go.Proofs.YtekipapkcgoieaaGreatDoor

/- count.Hurwitz of small numbers: twelve times the class number. -/
namespace Go.Proofs.YtekipapkcgoieaaGreatDoor
open Go.RowKit Go.Maps
attribute [local go_sem ↓] Go.wp_at_zero Go.wp_at_succ
attribute [local go_sem] Oper.semAt_some

theorem number_any (z : Int) (w : World) (h1 : -9223372036854775807 ≤ z) (h2 : z ≤ 9223372036854775807) : Calls Tryz.prog 64 #[.int .i64 z] w (RInt w z) := by
  have HO := Lib.hid (fun w' => Of_any z w' h1 h2)
  clear h1 h2
  go_enter Tryz.func64, Tryz.ntmps64
  go_wp2_with fail
  obtain ⟨W, hW⟩ : ∃ W : World, W = w.alloc (.cells #[.bool false, .slice none 0 0] 37) := ⟨_, rfl⟩
  rw [← hW]
  have hE : Ext w W := by rw [hW]; exact (Ext.refl w).alloc _
  have hB1 : Blk W (w.heap.size) 37 #[.bool false, .slice none 0 0] := by rw [hW]; exact Blk.newAt _ _ _ (by simp)
  clear hW
  refine (HO.out _).mono ?_
  rintro e w1 ⟨s, A, n, c, rfl, hq, hE1⟩
  have hq6 := (hB1.ext hE1).two
  go_wp2
  refine bodyPost_ret (v := .agg #[.bool s, .slice A n c]) (by simp [results, Tryz.results64, go_sem, hq6]) rfl ?_
  exact RInt.close hE hE1 hB1 (by omega) hq

theorem wrap_add (x k : Int) : IntKind.i64.wrap (IntKind.i64.wrap x + k) = IntKind.i64.wrap (x + k) := by
  rw [IntWalk.i64_left, IntWalk.i64_left, IntWalk.i64_left]; unfold wrap64; omega
theorem wrap_add' (x k : Int) : wrap64 (IntKind.i64.wrap x + k) = IntKind.i64.wrap (x + k) := by rw [← IntWalk.i64_left, wrap_add]

/-- What holds while the forms are run through. -/
structure HurJ (sb rb nb l D : Nat) (r : Loop) (m : Int) (w : World) (fs : List (Int × Int × Int)) (W : World) : Prop where
  loop : W.heap[l]? = some (.loop r)
  deferred : W.heap[D]? = some (.deferred (some []))
  sum : Blk W sb 2 #[.int .i64 (IntKind.i64.wrap (twelveOf fs))]
  res : Blk W rb 37 #[.bool false, .slice none 0 0]
  num : Blk W nb 2 #[.int .i64 m]
  ext : Ext w W

set_option maxRecDepth 100000 in
set_option maxHeartbeats 8000000 in
theorem Hurwitz_any (b1 v1 : Value) (m : Int) (w : World) (hm0 : 0 ≤ m) (hm : m ≤ 10000) (h1 : IsInt w b1 v1 m) :
    Calls Tryz.prog 27 #[.agg #[b1, v1]] w fun e w' => ∃ (s : Bool) (A : Option Addr) (n c : Nat), e = .returned (.tuple #[.agg #[.bool s, .slice A n c], .int .i64 0]) ∧ IsInt w' (.bool s) (.slice A n c) (twelve m) ∧ Ext w w' := by
  obtain ⟨s0, A0, n0, c0, rfl, rfl, es, en, hN⟩ := h1.form
  have hs0 : s0 = false := by rw [es]; simp; omega
  subst hs0
  have H1 := Lib.hid h1
  clear h1 hN en es
  refine (callsIn_wide (n := 9)).1 ?_
  refine callsIn_of_wp_marks Tryz.func27 rfl trivial ?_ rfl
  simp only [Tryz.ntmps27, List.size_toArray, List.length_cons, List.length_nil, Nat.reduceAdd, Nat.reduceSub, Array.replicate_succ, Array.replicate_zero, List.push_toArray, List.append_toArray, List.nil_append, List.cons_append]
  gi_upto_region 1 with fail
  obtain ⟨W, hW⟩ : ∃ W : World, W = (w.alloc (.cells #[.bool false, .slice A0 n0 c0] 37)).alloc (.cells #[.bool false, .slice none 0 0] 37) := ⟨_, rfl⟩
  rw [← hW]
  have hE : Ext w W := by rw [hW]; exact ((Ext.refl w).alloc _).alloc _
  have hBa : Blk W w.heap.size 37 #[.bool false, .slice A0 n0 c0] := by rw [hW]; exact (Blk.newAt _ _ _ (by simp)).alloc _
  have hBr : Blk W (w.heap.size + 1) 37 #[.bool false, .slice none 0 0] := by rw [hW]; exact Blk.newAt _ _ _ (by simp)
  clear hW
  have f0 := hBa.two
  gi_wp2_with fail
  refine ⟨trivial, (callsIn_wide.2 (LowI_any _ _ m W hm0 (by omega) (H1.out.ext hE))).mono ?_⟩
  rintro e w3 ⟨rfl, hE3⟩
  have f3 := (hBa.ext hE3).two
  clear f0
  gi_upto_region 2 with fail
  gi_wp2_with fail
  refine ⟨trivial, (callsIn_wide.2 (iSign_any _ _ m w3 (H1.out.ext (hE.trans hE3)))).mono ?_⟩
  rintro e w4 ⟨rfl, hE4⟩
  clear f3
  obtain ⟨sg, hsg⟩ : ∃ sg : Int, m.sign = sg := ⟨_, rfl⟩
  have hsg0 : 0 ≤ sg := by
    rcases Int.lt_or_le 0 m with h | h
    · rw [Int.sign_eq_one_of_pos h] at hsg; omega
    · have hm00 : m = 0 := by omega
      rw [hm00] at hsg
      have h3 : (0 : Int) = sg := hsg
      omega
  rw [hsg]
  clear hsg
  have hmb : ¬ (4194304 : Int) < m := by omega
  have hE04 := hE3.trans hE4
  have hBr4 := hBr.ext hE04
  have q4 := hBr4.two
  have hEw4 := hE.trans hE04
  have HBR := Lib.hid hBr4
  clear hBr hBr4 hBa
  by_cases hz : m = 0
  · subst hz
    gi_wp2_with fail
    refine ⟨trivial, (callsIn_wide.2 (number_any (-1) w4 (by omega) (by omega))).mono ?_⟩
    rintro e w5 ⟨s5, A5, n5, c5, rfl, hq5, hE5⟩
    have hBr5 := HBR.out.ext hE5
    have q5 := hBr5.two
    have hR5 := hBr5.set2 (.bool s5) (.slice A5 n5 c5)
    have p5 := hR5.two
    have hq6 := hq5.set2 hBr5.type (by decide) (.bool s5) (.slice A5 n5 c5)
    have hE6 := (hEw4.trans hE5).set2 (k := w.heap.size + 1) (by omega) (.bool s5) (.slice A5 n5 c5)
    clear q4
    gi_wp2
    refine ⟨.tuple #[.agg #[.bool s5, .slice A5 n5 c5], .int .i64 0], by simp [results, Tryz.results27, go_sem, p5], ?_⟩
    exact ⟨s5, A5, n5, c5, rfl, hq6, hE6⟩
  have hz0 : (m == 0) = false := beq_eq_false_iff_ne.2 hz
  obtain ⟨rm, hrm⟩ : ∃ rm : Int, m % 4 = rm := ⟨_, rfl⟩
  have htm : m.tmod 4 = rm := by rw [Int.tmod_eq_emod_of_nonneg hm0]; exact hrm
  have hr0 : 0 ≤ rm := by omega
  have hr4 : rm < 4 := by omega
  by_cases hd : m % 4 = 0 ∨ m % 4 = 3
  · have hT := Lib.hid (fun (k : Nat) (h1 : 3 * ((k : Int) * k) ≤ m) (h2 : m < 3 * (((k : Int) + 1) * (k + 1))) => (show twelve m = twelveOf (accA m k) by unfold twelve; rw [if_neg hz, if_pos ⟨by omega, hd⟩, kTop_eq h1 h2 60 (k_bound h1 hm)]))
    have hr1 : (rm == 1) = false := beq_eq_false_iff_ne.2 (by omega)
    have hr2 : (rm == 2) = false := beq_eq_false_iff_ne.2 (by omega)
    clear hd hrm
    gi_upto_region 11 with fail
    obtain ⟨w5, hw5⟩ : ∃ w5 : World, w5 = w4.alloc (.cells #[.int .i64 0] 2) := ⟨_, rfl⟩
    rw [← hw5]
    have hE45 : Ext w4 w5 := by rw [hw5]; exact (Ext.refl _).alloc _
    have hBs : Blk w5 w4.heap.size 2 #[.int .i64 0] := by rw [hw5]; exact Blk.newAt _ _ _ rfl
    have hBr5 := HBR.out.ext hE45
    have hrb : w.heap.size + 1 < w4.heap.size := HBR.out.lt
    have hEw5 := hEw4.trans hE45
    clear hw5 q4 HBR
    generalize hsb : w4.heap.size = sb at *
    clear hsb
    gi_wp2_with fail
    refine ⟨trivial, (callsIn_wide.2 (forms_any m w5)).mono ?_⟩
    rintro e w6 ⟨rfl, hw6⟩
    have hE6 : Ext w5 w6 := by rw [hw6]; exact (Ext.refl _).alloc _
    have hBn : Blk w6 w5.heap.size 2 #[.int .i64 m] := by rw [hw6]; exact Blk.newAt _ _ _ rfl
    have hs6 : w6.heap.size = w5.heap.size + 1 := by rw [hw6]; simp
    have hsb5 : sb < w5.heap.size := hBs.lt
    clear hw6
    gi_wp2_with fail
    refine range_step rfl (enters_of Tryz.func103 (by kernel_rfl) rfl) ?_
    intro r hr1 hr2 hr3 hr4 hr5 hr6 re W1 hW1
    have hE7 : Ext w6 W1 := by rw [hW1]; exact ((Ext.refl _).alloc _).alloc _
    have hL : W1.heap[w6.heap.size + 1]? = some (.loop r) := by
      rw [hW1]; have := World.alloc_heap_new (w6.alloc (.deferred (some []))) (.loop r); rwa [World.size_alloc] at this
    have hD : W1.heap[w6.heap.size]? = some (.deferred (some [])) := by
      rw [hW1]; exact (Below.heap_alloc _ _ _ (by simp)).trans (World.alloc_heap_new w6 _)
    clear hW1
    generalize w6.heap.size = D at *
    obtain ⟨nb, hnb⟩ : ∃ nb : Nat, w5.heap.size = nb := ⟨_, rfl⟩
    have hDlt : nb < D := by omega
    have hE57 := hE6.trans hE7
    rw [hnb] at hsb5 hBn ⊢
    clear hs6
    have HSB5 := Lib.hid hsb5
    have HJ0 : HurJ sb (w.heap.size + 1) nb (D + 1) D r m w [] W1 := ⟨hL, hD, (show Blk W1 sb 2 #[.int .i64 (IntKind.i64.wrap 0)] by rw [show IntKind.i64.wrap 0 = 0 by rfl]; exact hBs.ext hE57), hBr5.ext hE57, hBn.ext hE7, hEw5.trans hE57⟩
    have HJ0 := Lib.hid HJ0
    have hEW5 := Lib.hid hEw5
    clear hL hD hBs hBr5 hBn hE6 hE7 hE57 hE45 hEw4 hnb hEw5
    have hR : CallsIn Fence.wide 8 Tryz.prog 103 #[.func (.yield (D + 1)) #[] #[], .pointer (some ⟨nb, 0, none⟩)] W1 fun e W' => (∃ v, e = .returned v) ∧ ∃ k : Nat, 3 * ((k : Int) * k) ≤ m ∧ m < 3 * (((k : Int) + 1) * (k + 1)) ∧ HurJ sb (w.heap.size + 1) nb (D + 1) D r m w (accA m k) W' := by
      refine forms1_in m 8 (D + 1) nb W1 (HurJ sb (w.heap.size + 1) nb (D + 1) D r m w) hm0 hm (fun fs W h => h.num.cell 0) ?_ HJ0.out
      intro fs a b c W hJ
      refine yield_step hJ.loop hr1 hr2 hr3 hr4 hr5 hr6 rfl ?_
      clear hr1 hr2 hr3 hr4 hr5 hr6
      intro rb
      have HJ := Lib.hid hJ
      clear hJ
      gi_wp2
      obtain ⟨Wa, hWa⟩ : ∃ Wa : World, Wa = W.alloc (.cells #[.int .i64 a, .int .i64 b, .int .i64 c] 148) := ⟨_, rfl⟩
      rw [← hWa]
      have hEa : Ext W Wa := by rw [hWa]; exact (Ext.refl _).alloc _
      have hBv : Blk Wa W.heap.size 148 #[.int .i64 a, .int .i64 b, .int .i64 c] := by rw [hWa]; exact Blk.newAt _ _ _ rfl
      have hDW : D + 1 < W.heap.size := block_lt HJ.out.loop
      have hla := heap_beside HJ.out.loop (Beside.of_ext (bs := []) hEa) (by simp)
      have hDa := heap_beside HJ.out.deferred (Beside.of_ext (bs := []) hEa) (by simp)
      have hSa := HJ.out.sum.ext hEa
      have hRa := HJ.out.res.ext hEa
      have hNa := HJ.out.num.ext hEa
      have hEwa := HJ.out.ext.trans hEa
      clear hWa
      refine ⟨hla, ?_⟩
      obtain ⟨W2, hW2⟩ : ∃ W2 : World, W2 = Wa.putObj (D + 1) (.loop rb) := ⟨_, rfl⟩
      rw [← hW2]
      have hbe : Beside [D + 1] Wa W2 := by rw [hW2]; exact Beside.putObj _ _ _
      have hlb : W2.heap[D + 1]? = some (.loop rb) := by rw [hW2]; exact World.putObj_heap_same (block_lt hla)
      have hsb5' := HSB5.out
      have hww : w.heap.size ≤ W.heap.size := HJ.out.ext.size'
      have hS2 := hSa.beside hbe (by simp; omega)
      have hR2 := hRa.beside hbe (by simp; omega)
      have hN2 := hNa.beside hbe (by simp; omega)
      have hV2 := hBv.beside hbe (by simp; omega)
      have hD2 := heap_beside hDa hbe (by simp)
      have hE2 := hEwa.beside hbe (by simp; omega)
      clear hW2 hla hDa hSa hRa hNa hBv hEwa hbe
      have f1 := hS2.cell 0
      have f2 := hS2.frozen 0
      have f3 := hV2.cell 0
      have f4 := hV2.cell 1
      have f5 := hV2.cell 2
      have HFIN := Lib.hid (fun (W3 : World) (x : Int) (h3 : W3 = W2.setCell ⟨sb, 0, none⟩ (.int .i64 x)) (hx : x = IntKind.i64.wrap (twelveOf (fs ++ [(a, b, c)]))) => (show W3.heap[D + 1]? = some (.loop rb) ∧ HurJ sb (w.heap.size + 1) nb (D + 1) D r m w (fs ++ [(a, b, c)]) (W3.putObj (D + 1) (.loop r)) by
        have hb3 : Beside [sb] W2 W3 := by rw [h3]; exact Beside.of_grown (row := some sb) (grow_set (World.grownBy.refl _ _) 0 _) (fun k hk => by injection hk with hk; simp [hk])
        have hS3 : Blk W3 sb 2 #[.int .i64 (IntKind.i64.wrap (twelveOf (fs ++ [(a, b, c)])))] := by rw [h3, ← hx]; exact hS2.set_ 0 _
        have hR3 := hR2.beside hb3 (by simp; omega)
        have hN3 := hN2.beside hb3 (by simp; omega)
        have hD3 := heap_beside hD2 hb3 (by simp; omega)
        have hl3 := heap_beside hlb hb3 (by simp; omega)
        have hE3 := hE2.beside hb3 (by simp; omega)
        have hb4 : Beside [D + 1] W3 (W3.putObj (D + 1) (.loop r)) := Beside.putObj _ _ _
        exact ⟨hl3, World.putObj_heap_same (block_lt hl3), heap_beside hD3 hb4 (by simp), hS3.beside hb4 (by simp; omega), hR3.beside hb4 (by simp; omega), hN3.beside hb4 (by simp; omega), hE3.beside hb4 (by simp; omega)⟩))
      have HW := Lib.hid (twelveOf_snoc fs (a, b, c))
      generalize twelveOf fs = S at *
      obtain ⟨x0, hx0⟩ : ∃ x0 : Int, IntKind.i64.wrap S = x0 := ⟨_, rfl⟩
      have HX := Lib.hid hx0
      rw [hx0] at f1
      clear hx0 hS2 hR2 hN2 hV2 hD2 hE2 hlb
      obtain ⟨p1, hp1⟩ : ∃ p : Bool, (a == b) = p := ⟨_, rfl⟩
      obtain ⟨p2, hp2⟩ : ∃ p : Bool, (b == c) = p := ⟨_, rfl⟩
      obtain ⟨p3, hp3⟩ : ∃ p : Bool, (b == 0) = p := ⟨_, rfl⟩
      obtain ⟨p4, hp4⟩ : ∃ p : Bool, (a == c) = p := ⟨_, rfl⟩
      have HWT := Lib.hid (show weight (a, b, c) = if (p1 && p2) = true then 4 else if (p3 && p4) = true then 6 else 12 by
        unfold weight
        rw [← hp1, ← hp2, ← hp3, ← hp4]
        simp only [Bool.and_eq_true, beq_iff_eq])
      cases p1 <;> cases p2 <;> cases p3 <;> cases p4
      all_goals
        gi_wp2_with fail
        refine HFIN.out _ _ rfl ?_
        rw [HW.out, HWT.out, ← HX.out]
        first
          | exact wrap_add' _ _
          | (simp only [Bool.and_self, Bool.and_true, Bool.and_false, Bool.true_and, Bool.false_and, if_true, if_false, Bool.false_eq_true]; exact wrap_add' _ _)
    refine hR.mono ?_
    rintro e W5 ⟨⟨v, rfl⟩, k, hk1, hk2, hJ5⟩
    refine ⟨⟨_, rfl⟩, hJ5.loop, ?_⟩
    clear hr1 hr2 hr3 hr4 hr5 hr6 hR
    have hk60 := k_bound hk1 hm
    have hTW := hT.out k hk1 hk2
    have hbd := twelve_bd hm0 hm
    have hwr : IntKind.i64.wrap (twelveOf (accA m k)) = twelve m := by rw [← hTW]; exact IntWalk.i64_in _ (by omega)
    obtain ⟨W6, hW6⟩ : ∃ W6 : World, W6 = W5.putObj (D + 1) (.loop re) := ⟨_, rfl⟩
    rw [← hW6]
    have hbe : Beside [D + 1] W5 W6 := by rw [hW6]; exact Beside.putObj _ _ _
    have hsb5' := HSB5.out
    have hww : w.heap.size ≤ W5.heap.size := hJ5.ext.size'
    have hS6 := hJ5.sum.beside hbe (by simp; omega)
    rw [hwr] at hS6
    have hR6 := hJ5.res.beside hbe (by simp; omega)
    have hD6 := heap_beside hJ5.deferred hbe (by simp)
    have hE6 : Ext w W6 := hJ5.ext.beside hbe (by simp; omega)
    clear hW6 hbe hwr hTW hJ5 hk1 hk2 hk60
    obtain ⟨tv, htv⟩ : ∃ tv : Int, twelve m = tv := ⟨_, rfl⟩
    rw [htv] at hS6 hbd
    have HTV := Lib.hid htv
    clear htv
    have f1 := hS6.cell 0
    gi_wp2_with fail
    refine ⟨trivial, (callsIn_wide.2 (number_any tv W6 (by omega) (by omega))).mono ?_⟩
    rintro e w8 ⟨s8, A8, n8, c8, rfl, hq8, hE8⟩
    have hR8 := hR6.ext hE8
    have q8 := hR8.two
    have hD8 := heap_beside hD6 (Beside.of_ext (bs := []) hE8) (by simp)
    have hR9 := hR8.set2 (.bool s8) (.slice A8 n8 c8)
    have hq9 := hq8.set2 hR8.type (by decide) (.bool s8) (.slice A8 n8 c8)
    have hE9 := (hE6.trans hE8).set2 (k := w.heap.size + 1) (by omega) (.bool s8) (.slice A8 n8 c8)
    obtain ⟨W9, hW9⟩ : ∃ W9 : World, W9 = (w8.setCell ⟨w.heap.size + 1, 0, none⟩ (.bool s8)).setCell ⟨w.heap.size + 1, 1, none⟩ (.slice A8 n8 c8) := ⟨_, rfl⟩
    rw [← hW9] at hR9 hq9 hE9
    have hb9 : Beside [w.heap.size + 1] w8 W9 := by
      rw [hW9]
      exact Beside.of_grown (row := some (w.heap.size + 1)) (grow_set (grow_set (World.grownBy.refl _ _) 0 _) 1 _) (fun k hk => by injection hk with hk; simp [hk])
    have hD9 := heap_beside hD8 hb9 (by simp; omega)
    have hb10 : Beside [D] W9 (W9.putObj D (.deferred none)) := Beside.putObj _ _ _
    have hR10 := hR9.beside hb10 (by simp; omega)
    have hE10 : Ext w (W9.putObj D (.deferred none)) := hE9.beside hb10 (by simp; omega)
    have hq10 := hq9.keep (KeepT.one hb10 hD9 (fun _ _ _ e => by cases e))
    have p10 := hR10.two
    have HD9 := Lib.hid hD9
    have HQ10 := Lib.hid hq10
    have HE10 := Lib.hid hE10
    have HP10 := Lib.hid p10
    have HW9 := Lib.hid hW9
    clear hW9 f1 hR9 hq9 hE9 hb9 hb10 hR10 hE10 hq10 p10 hD9 hD8 hq8 hS6 hR6 hD6 hE6 hE8
    gi_wp2
    rw [← HW9.out]
    have p10 := HP10.out
    refine ⟨by simp, .inl ⟨_, _, rfl, run_takeDeferred HD9.out, ?_⟩⟩
    refine ⟨.tuple #[.agg #[.bool s8, .slice A8 n8 c8], .int .i64 0], by simp [results, Tryz.results27, go_sem, p10], ?_⟩
    exact ⟨s8, A8, n8, c8, rfl, by rw [HTV.out]; exact HQ10.out, HE10.out⟩
  · have hT := Lib.hid (show twelve m = 0 by unfold twelve; rw [if_neg hz, if_neg (fun h => hd h.2)])
    rcases (show rm = 1 ∨ rm = 2 by omega) with h1 | h1
    all_goals
      subst h1
      clear hrm hd
      gi_wp2_with fail
      refine ⟨trivial, (callsIn_wide.2 (number_any 0 w4 (by omega) (by omega))).mono ?_⟩
      rintro e w5 ⟨s5, A5, n5, c5, rfl, hq5, hE5⟩
      have hBr5 := HBR.out.ext hE5
      have q5 := hBr5.two
      have hR5 := hBr5.set2 (.bool s5) (.slice A5 n5 c5)
      have p5 := hR5.two
      have hq6 := Lib.hid (hq5.set2 hBr5.type (by decide) (.bool s5) (.slice A5 n5 c5))
      have hE6 := Lib.hid ((hEw4.trans hE5).set2 (k := w.heap.size + 1) (by omega) (.bool s5) (.slice A5 n5 c5))
      clear q4
      gi_wp2
      refine ⟨.tuple #[.agg #[.bool s5, .slice A5 n5 c5], .int .i64 0], by simp [results, Tryz.results27, go_sem, p5], ?_⟩
      exact ⟨s5, A5, n5, c5, rfl, by rw [hT.out]; exact hq6.out, hE6.out⟩

end Go.Proofs.YtekipapkcgoieaaGreatDoor
