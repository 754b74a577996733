/-
  The reference's integers as texts: numbers of one word.
  R38.Name.
  R8.Of, R11.Is, Forms, Twelve.
  R11.Twelve.
  R1.Parse of the digits of a number of one word.
  The program's integers as texts: numbers below 10^9 (one chunk).
  Parts and audits in memory; R38.Total.
-/
import Derived.Test.YtekipapkcgoieaaGreatDoorJ09
import Derived.Test.YtekipapkcgoieaaGreatDoorJ08
import Derived.Test.YtekipapkcgoieaaGreatDoorJ01
import Derived.Lib.ItoaNum
import Derived.Lib.ItoaLen
import Derived.Laws.IdiomStrings
import Derived.Maps.AppendAt
import Derived.Handy
import Derived.Test.YtekipapkcgoieaaGreatDoorJ02
import Derived.Test.YtekipapkcgoieaaGreatDoorShelf
import Derived.Test.YtekipapkcgoieaaGreatDoorJ10
import Derived.Lib.AppendIntMem
set_option linter.unusedVariables false
set_option linter.unusedSimpArgs false

/- The reference's integers as texts: numbers of one word. -/
namespace Go.Proofs.YtekipapkcgoieaaGreatDoor
open Go.RowKit
attribute [local go_sem ↓] Go.wp_at_zero Go.wp_at_succ

theorem u8_info : (Tryz.prog.info? 5).map (fun i => (i.zero, i.size, i.bytes)) = some (some (.int .u8 0), 1, 1) := by kernel_rfl

/-- Bytes as values. -/
def bytesL (l : List UInt8) : List Value := l.map fun b => Value.int .u8 (b.toNat : Int)
theorem bytesL_snoc (l : List UInt8) (b : UInt8) : bytesL (l ++ [b]) = bytesL l ++ [.int .u8 (b.toNat : Int)] := by simp [bytesL]
theorem bytesL_len (l : List UInt8) : (bytesL l).length = l.length := by simp [bytesL]
theorem digit_byte (x : Nat) (h : x < 10) : (UInt8.ofNat (48 + x)).toNat = 48 + x := by
  rw [UInt8.toNat_ofNat']; exact Nat.mod_eq_of_lt (by omega)
theorem decDigits_step (x : Nat) : Lib.decDigits x = (if x < 10 then [] else Lib.decDigits (x / 10)) ++ [UInt8.ofNat (48 + x % 10)] := by
  rw [Lib.decDigits]; split
  · rename_i h; rw [Nat.mod_eq_of_lt h]; rfl
  · rfl
/-- The digits that are not written yet. -/
def decOf (x : Nat) : List UInt8 := if x = 0 then [] else Lib.decDigits x
theorem decOf_step {x : Nat} (h : 0 < x) : decOf x = decOf (x / 10) ++ [UInt8.ofNat (48 + x % 10)] := by
  unfold decOf
  rw [if_neg (by omega), decDigits_step]
  congr 1
  split
  · rw [if_pos (by omega)]
  · rw [if_neg (by omega)]
theorem own_far {w : World} {base : Nat} {e : TypeId} {size : Nat} {v : Value} {n : Nat} {xs : List Value} (h : w.ownsRow base e size v n xs) {p : Addr} (hp : ∀ g, v.ownBlock = some g → g ≠ p.block) (u : Value) : (w.setCell p u).ownsRow base e size v n xs := by
  refine ⟨h.1, ?_⟩
  rcases h.2 with h2 | ⟨g, cap, cur, rfl, e2, e3, e4⟩
  · exact .inl h2
  · exact .inr ⟨g, cap, cur, rfl, e2, (Below.heap_setCell w p u g (hp g rfl)).trans e3, e4⟩

set_option maxHeartbeats 400000 in
theorem trim1_nz (g c x : Nat) (w : World) (h0 : 0 < x) (hc : w.cell? ⟨g, 0, none⟩ = some (.int .u32 (x : Int))) :
    Calls Tryz.prog 88 #[.slice (some ⟨g, 0, none⟩) 1 c] w fun e w' => e = .returned (.slice (some ⟨g, 0, none⟩) 1 c) ∧ w = w' := by
  have hx : ((x : Int) == 0) = false := by rw [beq_eq_false_iff_ne]; omega
  go_enter Tryz.func88, Tryz.ntmps88
  go_wp2
  go_rounds 1
  go_ret
  exact ⟨rfl, rfl⟩
set_option maxHeartbeats 400000 in
theorem trim1_z (g c : Nat) (w : World) (hcap : 1 ≤ c) (hc : w.cell? ⟨g, 0, none⟩ = some (.int .u32 0)) :
    Calls Tryz.prog 88 #[.slice (some ⟨g, 0, none⟩) 1 c] w fun e w' => e = .returned (.slice (some ⟨g, 0, none⟩) 0 c) ∧ w = w' := by
  go_enter Tryz.func88, Tryz.ntmps88
  go_wp2
  go_rounds 2
  go_ret
  exact ⟨rfl, rfl⟩

set_option maxRecDepth 100000 in
set_option maxHeartbeats 2000000 in
theorem Text1_pos (b1 v1 : Value) (m : Nat) (w : World) (h0 : 0 < m) (hm : m < 4294967296) (h1 : IsInt w b1 v1 (m : Int)) :
    Calls Tryz.prog 72 #[.agg #[b1, v1]] w fun e w' => e = .returned (.tuple #[.string ⟨(Lib.decDigits m).toArray⟩, .int .i64 0]) ∧ Ext w w' := by
  obtain ⟨i0, hi, hz0, hz1, hz2⟩ := info_parts u32_info
  obtain ⟨i8, hi8, hy0, hy1, hy2⟩ := info_parts u8_info
  obtain ⟨s, A, n, c, rfl, rfl, es, en, hN⟩ := h1.form
  have hw := wordsOf_one (m := (m : Int).natAbs) (by omega) (by omega)
  rw [Int.natAbs_natCast] at hw
  unfold IsNat at hN
  rw [Int.natAbs_natCast, hw] at hN
  rw [Int.natAbs_natCast, hw] at en
  obtain rfl : n = 1 := en
  obtain rfl : s = false := by rw [es]; simp
  obtain ⟨bb, bo, hB, hc⟩ := hN.word (Ext.refl w) 0 (by simp)
  obtain rfl : A = some ⟨bb, bo, none⟩ := hB
  have hcl : ∀ w', Ext w w' → w'.cell? ⟨bb, bo, none⟩ = some (.int .u32 (m : Int)) := fun w' h => by
    obtain ⟨bb', bo', e1, h2⟩ := hN.word h 0 (by simp)
    cases e1
    simpa using h2
  have HC := Lib.hid hcl
  have HN := Lib.hid hN
  clear h1 hN hc hw es hcl
  go_enter Tryz.func72, Tryz.ntmps72
  go_wp2_with (with_reducible refine stop_at 18 ?_)
  obtain ⟨W, hW⟩ : ∃ W : World, W = w.alloc (.cells #[.bool false, .slice (some ⟨bb, bo, none⟩) 1 c] 37) := ⟨_, rfl⟩
  rw [← hW]
  have hE : Ext w W := by rw [hW]; exact (Ext.refl w).alloc _
  have hB1 : Blk W (w.heap.size) 37 #[.bool false, .slice (some ⟨bb, bo, none⟩) 1 c] := by rw [hW]; exact Blk.newAt _ _ _ (by simp)
  have HWs := Lib.hid (show W.heap.size = w.heap.size + 1 by rw [hW]; simp)
  clear hW
  have HK : Hid (∀ w', Ext W w' → Ext w w' ∧ w'.cell? ⟨w.heap.size, 0, none⟩ = some (.bool false) ∧ w'.cell? ⟨w.heap.size, 1, none⟩ = some (.slice (some ⟨bb, bo, none⟩) 1 c)) := fun w' h => ⟨hE.trans h, (hB1.ext h).cell 0, (hB1.ext h).cell 1⟩
  have hWs := HWs.out
  clear HWs
  refine wpList_append_own _ rfl (.tmp 15) (.tmp 17) _ rfl (w.heap.size + 1 + 1) 123 i0 (.int .u32 0) 1 4 Tryz.underlying35 hi hz0 hz1 hz2 rfl (by decide) (.slice (some ⟨w.heap.size + 1 + 1, 0, none⟩) 0 0) 0 [] rfl ?_ ⟨bb, bo, none⟩ 1 c [.int .u32 (m : Int)] rfl rfl ?_ (by simp [Value.oneCell']) (by unfold maxLen; omega) (by omega) (by simp [hWs]) ?_
  · exact own_blk0 (Blk.newAt _ _ _ (by simp [hWs])) (Nat.le_refl _)
  · intro j u hj
    match j, hj with
    | 0, hj =>
      simp at hj; subst hj
      rw [addr_add]
      exact HC.out _ (by (repeat (first | with_reducible assumption | with_reducible exact Ext.refl _ | with_reducible refine Ext.drew ?_ | with_reducible refine Ext.drewN ?_ _ | with_reducible refine Ext.alloc ?_ _ | with_reducible refine Ext.set2 ?_ (by omega) _ _ | with_reducible refine Ext.setCell ?_ (by first | omega | (simp; done) | (simp; omega)) _ | with_reducible refine Ext.trans ?_ (by with_reducible assumption))))
    | j + 1, hj => simp at hj
  intro v' w1 hown' hgrow _
  obtain ⟨g', cap', rfl⟩ := own_succ hown'
  have hE1 : Ext W w1 := (((Ext.refl W).alloc _).alloc _).grown hgrow (own_slice_base (by omega))
  have ht1 : w1.ownsRow (w.heap.size + 1) 5 1 (.slice (some ⟨w.heap.size + 1, 0, none⟩) 0 0) 0 (bytesL []) := by
    refine own_ext (own_blk0 (w := W.alloc (.cells #[] 5)) (Blk.newAt _ _ _ hWs) (Nat.le_refl _)) ?_
    exact ((Ext.refl _).alloc _).grown hgrow (own_slice_base (by simp [hWs]))
  obtain ⟨cur1, hb1, hc1⟩ : ∃ cur : Array Value, Blk w1 g' 123 cur ∧ cur[0]? = some (.int .u32 (m : Int)) := by
    rcases hown'.2 with ⟨h, _⟩ | ⟨k, cap, cur, h, hk, hh, hn, hcm, hsz, htk⟩
    · cases h
    · injection h with h _ _; injection h with h; injection h with h; subst h
      refine ⟨cur, hh, ?_⟩
      have e : (cur.toList.take (1 * 1))[0]? = some (Value.int .u32 (m : Int)) := by rw [htk]; rfl
      rw [List.getElem?_take_of_lt (by omega)] at e
      simpa using e
  have hg1 : w.heap.size + 1 < g' := own_block hown' _ rfl
  have hcap1 : 1 ≤ cap' := by
    rcases hown'.2 with ⟨h, _⟩ | ⟨k, cap, cur, h, hk, hh, hn, hcm, hsz, htk⟩
    · cases h
    · injection h with _ _ h; omega
  have HB1 := Lib.hid (And.intro hb1 hc1)
  clear hown' hgrow hb1 hc1
  go_wp2
  go_loopw [4, 5] (fun t wd wr => ∃ (x n : Nat) (ds : List UInt8) (A' : Option Addr) (cp : Nat), t = .slice A' ds.length cp ∧ wd = .slice (some ⟨g', 0, none⟩) n cap' ∧ Hid (n = 1 ∧ 0 < x ∨ n = 0 ∧ x = 0) ∧ x < 4294967296 ∧
      Hid (wr.ownsRow (w.heap.size + 1) 5 1 (.slice A' ds.length cp) ds.length (bytesL ds)) ∧ Hid (∃ cur : Array Value, Blk wr g' 123 cur ∧ cur[0]? = some (.int .u32 (x : Int))) ∧ Hid (decOf m = decOf x ++ ds.reverse) ∧ Ext W wr)
      (fun _ _ wr => match wr.cell? ⟨g', 0, none⟩ with | some v => (intOf v).toNat | _ => 0)
  case atStart =>
    exact ⟨m, 1, [], _, _, rfl, rfl, .inl ⟨rfl, h0⟩, hm, ht1, ⟨_, HB1.out⟩, by show _ = _; simp, hE1⟩
  case round =>
    obtain ⟨x, n, ds, A', cp, rfl, rfl, hnx, hx, hown, hbl, hdig, hEr⟩ := hrel
    obtain ⟨cur, hb, hc0⟩ := hbl.out
    have hcell : wr.cell? ⟨g', 0, none⟩ = some (.int .u32 (x : Int)) := (hb.cell 0).trans hc0
    have hfr := hb.frozen 0
    have HB := Lib.hid hb
    clear hbl hb hc0
    have hdl : ds.length ≤ 21 := by
      have h1 := congrArg List.length hdig.out
      have h2 := Lib.itoa_length_le (m : Int) (by omega) (by omega)
      rw [Lib.itoa_nonneg] at h2
      unfold decOf at h1
      rw [if_neg (by omega)] at h1
      simp only [List.length_append, List.length_reverse] at h1
      omega
    rcases hnx.out with ⟨rfl, hx0⟩ | ⟨rfl, rfl⟩
    · obtain ⟨wo, rfl⟩ : ∃ wo : World, wo = wr := ⟨_, rfl⟩
      have hor : bits .or .u64 0 (x : Int) = (x : Int) := by
        have := halves_or 0 (x : Int) (by omega) (by omega) (by omega) (by omega)
        rwa [Int.zero_mul, Int.zero_add] at this
      go_wp2
      refine wp_loop_rounds 2 ?_
      rw [rounds_succ]
      go_wp2
      rw [rounds_succ]
      go_wp2_with (with_reducible refine stop_at 50 ?_)
      have hb1 := HB.out.set_ 0 (.int .u32 ((x : Int) / 10))
      have hgne : ∀ g, (Value.slice A' ds.length cp).ownBlock = some g → g ≠ g' := by
        intro g hg
        rcases hown.out.2 with ⟨h, _⟩ | ⟨k, cap, cur2, h, hk, hh, hn, hcm, hsz, htk⟩
        · rw [h] at hg; cases hg
        · rw [h] at hg; injection hg with hg; subst hg
          exact TypeAt.ne ⟨cur2, (0, 0), hh⟩ HB.out.type (by decide)
      have hown2 := own_far hown.out (p := ⟨g', 0, none⟩) hgne (.int .u32 ((x : Int) / 10))
      have hEs := hEr.setCell (p := ⟨g', 0, none⟩) (by show _ ≤ g'; omega) (.int .u32 ((x : Int) / 10))
      have hcl2 := (hb1.cell 0).trans (show _ = some (Value.int .u32 ((x : Int) / 10)) by
        have : 0 < cur.size := by
          rcases Nat.lt_or_ge 0 cur.size with h | h
          · exact h
          · have := HB.out.cell 0; rw [hcell, Array.getElem?_eq_none h] at this; cases this
        simp [this])
      obtain ⟨w2, hw2⟩ : ∃ w2 : World, w2 = wo.setCell ⟨g', 0, none⟩ (.int .u32 ((x : Int) / 10)) := ⟨_, rfl⟩
      rw [← hw2] at hb1 hown2 hEs hcl2 ⊢
      have hw2s : w2.heap.size = wo.heap.size := by rw [hw2]; simp [World.setCell]
      clear hw2
      refine wpList_append_own _ rfl (.tmp 45) (.tmp 49) _ rfl (w.heap.size + 1) 5 i8 (.int .u8 0) 1 1 Tryz.underlying22 hi8 hy0 hy1 hy2 rfl (by decide) (.slice A' ds.length cp) ds.length (bytesL ds) rfl (hown2.alloc _) ⟨wo.heap.size, 0, none⟩ 1 1 [.int .u8 (48 + (x : Int) % 10)] rfl rfl (by rw [← hw2s]; exact cell_one_new _ _ _) (by simp [Value.oneCell']) (by unfold maxLen; omega) (by omega) (by have := hEs.size'; simp; omega) ?_
      intro v' w3 hown3 hgrow _
      have hrow : some g' ≠ (Value.slice A' ds.length cp).ownBlock := fun h => hgne g' h.symm rfl
      have hb3 := (hb1.alloc _).grown hgrow hrow
      have hE3 : Ext W w3 := (hEs.alloc _).grown hgrow (fun k hk => by have := own_block hown.out k hk; omega)
      have hcl3 := (hgrow.cell_far ⟨g', 0, none⟩ (hb1.alloc _).lt hrow).trans ((((Ext.refl w2).alloc _).cell (p := ⟨g', 0, none⟩) hb1.lt).trans hcl2)
      obtain ⟨g2, cap2, rfl⟩ := own_succ hown3
      clear hgrow hown2 hb1 hEs hcl2
      have hby : (48 + (x : Int) % 10) = ((UInt8.ofNat (48 + x % 10)).toNat : Int) := by rw [digit_byte _ (by omega)]; omega
      have hd3 : Hid (decOf m = decOf (x / 10) ++ (ds ++ [UInt8.ofNat (48 + x % 10)]).reverse) := by
        show _ = _
        rw [hdig.out, decOf_step hx0]; simp
      rw [hby, ← bytesL_snoc] at hown3
      have HO3 := Lib.hid hown3
      have HB3 := Lib.hid hb3
      clear hown3 hb3 hdig hown hgne hrow hby
      have hcur : (cur.setIfInBounds 0 (Value.int .u32 ((x : Int) / 10)))[0]? = some (.int .u32 ((x / 10 : Nat) : Int)) := by
        rw [← HB3.out.cell 0, hcl3]; congr 2
      have HCU := Lib.hid hcur
      clear hcur
      by_cases hx10 : x / 10 = 0
      · have hz : w3.cell? ⟨g', 0, none⟩ = some (.int .u32 0) := by rw [hcl3]; congr 2; omega
        go_wp2_with fail
        refine (trim1_z g' cap' w3 hcap1 hz).mono ?_
        rintro e w' ⟨rfl, rfl⟩
        go_wp2
        go_roundw
        case rel => exact ⟨x / 10, 0, ds ++ [UInt8.ofNat (48 + x % 10)], some ⟨g2, 0, none⟩, cap2, by rw [List.length_append]; rfl, rfl, .inr ⟨rfl, hx10⟩, by omega, (by show World.ownsRow _ _ _ _ _ _ _; rw [List.length_append]; exact HO3.out), ⟨_, HB3.out, HCU.out⟩, hd3, hE3⟩
        case measure => (simp [hcl3, hcell, intOf] <;> omega)
      · have hz : w3.cell? ⟨g', 0, none⟩ = some (.int .u32 ((x / 10 : Nat) : Int)) := by rw [hcl3]; congr 2
        go_wp2_with fail
        refine (trim1_nz g' cap' (x / 10) w3 (by omega) hz).mono ?_
        rintro e w' ⟨rfl, rfl⟩
        go_wp2
        go_roundw
        case rel => exact ⟨x / 10, 1, ds ++ [UInt8.ofNat (48 + x % 10)], some ⟨g2, 0, none⟩, cap2, by rw [List.length_append]; rfl, rfl, .inl ⟨rfl, by omega⟩, by omega, (by show World.ownsRow _ _ _ _ _ _ _; rw [List.length_append]; exact HO3.out), ⟨_, HB3.out, HCU.out⟩, hd3, hE3⟩
        case measure => (simp [hcl3, hcell, intOf] <;> omega)
    · obtain ⟨wo, rfl⟩ : ∃ wo : World, wo = wr := ⟨_, rfl⟩
      have q1 := HK.out (wo.alloc (.cells #[] 5)) (hEr.alloc _)
      have hdd : Lib.decDigits m = ds.reverse := by
        have h1 := hdig.out
        unfold decOf at h1
        rw [if_neg (by omega), if_pos rfl] at h1
        exact h1
      have hd0 : 0 < ds.length := by
        rcases Nat.eq_zero_or_pos ds.length with h | h
        · rw [List.eq_nil_of_length_eq_zero h, decDigits_step] at hdd
          simp at hdd
        · exact h
      have hd1 : ((ds.length : Int) == 0) = false := by rw [beq_eq_false_iff_ne]; omega
      have HD := Lib.hid hdd
      clear hdd hdig
      have hA : ∃ gA, A' = some ⟨gA, 0, none⟩ := by
        rcases hown.out.2 with ⟨_, h⟩ | ⟨k, cap, cur2, h, _⟩
        · omega
        · injection h with h; exact ⟨_, h⟩
      obtain ⟨gA, rfl⟩ := hA
      have hcells : ∀ (j : Nat) (hj : j < ds.length), wo.cell? ⟨gA, j, none⟩ = some (.int .u8 (ds[j].toNat : Int)) := by
        intro j hj
        have := hown.out.cells rfl j (.int .u8 (ds[j].toNat : Int)) (by simp [bytesL, List.getElem?_map, List.getElem?_eq_getElem hj])
        rwa [addr_add, Nat.zero_add] at this
      have hgA : gA < wo.heap.size := (hown.out.lt gA rfl).2
      have HCS := Lib.hid hcells
      clear hcells hown hcell hfr
      go_wp2
      go_loopw [8, 9] (fun o i wr => ∃ (j : Nat) (B' : Option Addr) (cq : Nat), j ≤ ds.length ∧ o = .slice B' j cq ∧ i = .int .i64 ((ds.length : Int) - 1 - j) ∧ Hid (wr.ownsRow wo.heap.size 5 1 (.slice B' j cq) j (bytesL (ds.reverse.take j))) ∧ Ext wo wr)
        (fun _ i _ => (intOf i + 1).toNat)
      case atStart =>
        exact ⟨0, _, _, Nat.zero_le _, rfl, by simp, own_blk0 (Blk.newAt _ _ _ rfl) (Nat.le_refl _), (Ext.refl _).alloc _⟩
      case round =>
        obtain ⟨j, B', cq, hj, rfl, rfl, hown, hEo⟩ := hrel
        by_cases hjl : j < ds.length
        · have hcx : wr.cell? ⟨gA, ds.length - 1 - j, none⟩ = some (.int .u8 ((ds[ds.length - 1 - j]'(by omega)).toNat : Int)) := (hEo.cell (p := ⟨gA, ds.length - 1 - j, none⟩) hgA).trans (HCS.out _ (by omega))
          have htk : ds.reverse.take (j + 1) = ds.reverse.take j ++ [ds[ds.length - 1 - j]'(by omega)] := by
            rw [List.take_succ_eq_append_getElem (by simpa using hjl)]; simp
          generalize ds[ds.length - 1 - j]'(by omega) = bj at *
          have HTK := Lib.hid htk
          clear htk
          go_wp2_with (with_reducible refine stop_at 76 ?_)
          refine wpList_append_own _ rfl (.tmp 70) (.tmp 75) _ rfl wo.heap.size 5 i8 (.int .u8 0) 1 1 Tryz.underlying22 hi8 hy0 hy1 hy2 rfl (by decide) (.slice B' j cq) j (bytesL (ds.reverse.take j)) rfl (hown.out.alloc _) ⟨wr.heap.size, 0, none⟩ 1 1 [.int .u8 (bj.toNat : Int)] rfl rfl (cell_one_new _ _ _) (by simp [Value.oneCell']) (by unfold maxLen; omega) (by omega) (by have := hEo.size'; simp; omega) ?_
          intro v' w3 hown3 hgrow _
          have hE3 : Ext wo w3 := (hEo.alloc _).grown hgrow (own_block hown.out)
          obtain ⟨g2, cap2, rfl⟩ := own_succ hown3
          rw [← bytesL_snoc, ← HTK.out] at hown3
          have HO3 := Lib.hid hown3
          clear hown3 hgrow hown
          go_wp2
          go_roundw
          case rel => exact ⟨j + 1, some ⟨g2, 0, none⟩, cap2, by omega, rfl, by go_num, HO3.out, hE3⟩
          case measure => (simp [intOf] <;> omega)
        · obtain rfl : j = ds.length := by omega
          have hB : ∃ gB, B' = some ⟨gB, 0, none⟩ := by
            rcases hown.out.2 with ⟨_, h⟩ | ⟨k, cap, cur2, h, _⟩
            · omega
            · injection h with h; exact ⟨_, h⟩
          obtain ⟨gB, rfl⟩ := hB
          have hrun : (convert 22 9 (.slice (some ⟨gB, 0, none⟩) ds.length cq)).run Tryz.prog wr = .ok (.string ⟨(Lib.decDigits m).toArray⟩) wr := by
            rw [HD.out]
            have := run_convert_bytes_back (P := Tryz.prog) wr 22 9 5 ⟨gB, 0, none⟩ cq ds.reverse Tryz.underlying22 Tryz.underlying5 Tryz.underlying9 (fun k hk => by
              have hc := hown.out.cells rfl k (.int .u8 (ds.reverse[k].toNat : Int)) (by
                rw [List.take_of_length_le (by simp)]
                unfold bytesL
                rw [List.getElem?_map, List.getElem?_eq_getElem hk]; rfl)
              exact hc)
            simpa using this
          clear hown
          go_wp2
          go_ret2
          exact ⟨rfl, hE.trans (hEr.trans hEo)⟩

theorem Words.rows0 {w : World} {v : Value} (h : Words w v []) : RowsOf 123 1 w v [] := by
  rcases h with ⟨rfl, _⟩ | ⟨b, o, c, rfl, hc, hb, ht, _⟩
  · exact RowsOf.nil _ _ _
  · exact ⟨(fun l hl => by cases hl), .inr ⟨b, o, c, rfl, hc, ht, fun j l hl => by simp at hl⟩⟩
theorem own_shape {w : World} {base : Nat} {e : TypeId} {size : Nat} {v : Value} {n : Nat} {xs : List Value} (h : w.ownsRow base e size v n xs) : ∃ A c, v = .slice A n c := by
  rcases h.2 with ⟨rfl, rfl⟩ | ⟨g, cap, cur, rfl, _⟩
  · exact ⟨none, 0, rfl⟩
  · exact ⟨_, _, rfl⟩
theorem u32_info1 : (Tryz.prog.info? 123).map (fun i => (i.zero.map (·.cells.size), i.size, i.bytes)) = some (some 1, 1, 4) := by kernel_rfl

set_option maxRecDepth 100000 in
set_option maxHeartbeats 2000000 in
theorem Text1_zero (b1 v1 : Value) (w : World) (h1 : IsInt w b1 v1 0) :
    Calls Tryz.prog 72 #[.agg #[b1, v1]] w fun e w' => e = .returned (.tuple #[.string ⟨(Lib.decDigits 0).toArray⟩, .int .i64 0]) ∧ Ext w w' := by
  obtain ⟨i8, hi8, hy0, hy1, hy2⟩ := info_parts u8_info
  obtain ⟨s, A, n, c, rfl, rfl, es, en, hN⟩ := h1.form
  have hw : wordsOf (0 : Int).natAbs = [] := rfl
  unfold IsNat at hN
  rw [hw] at hN en
  obtain rfl : n = 0 := en
  obtain rfl : s = false := by rw [es]; simp
  have HN := Lib.hid hN
  clear h1 hN hw es
  go_enter Tryz.func72, Tryz.ntmps72
  go_wp2_with (with_reducible refine stop_at 18 ?_)
  obtain ⟨W, hW⟩ : ∃ W : World, W = w.alloc (.cells #[.bool false, .slice A 0 c] 37) := ⟨_, rfl⟩
  rw [← hW]
  have hE : Ext w W := by rw [hW]; exact (Ext.refl w).alloc _
  have hB1 : Blk W (w.heap.size) 37 #[.bool false, .slice A 0 c] := by rw [hW]; exact Blk.newAt _ _ _ (by simp)
  have HWs := Lib.hid (show W.heap.size = w.heap.size + 1 by rw [hW]; simp)
  clear hW
  have HK : Hid (∀ w', Ext W w' → Ext w w' ∧ w'.cell? ⟨w.heap.size, 0, none⟩ = some (.bool false) ∧ w'.cell? ⟨w.heap.size, 1, none⟩ = some (.slice A 0 c)) := fun w' h => ⟨hE.trans h, (hB1.ext h).cell 0, (hB1.ext h).cell 1⟩
  have hWs := HWs.out
  clear HWs
  refine wpList_append_rows rfl (.tmp 15) (.tmp 17) _ rfl (w.heap.size + 1 + 1) 123 1 4 Tryz.underlying35 u32_info1 (by decide) (.slice (some ⟨w.heap.size + 1 + 1, 0, none⟩) 0 0) 0 [] rfl ?_ _ [] rfl (HN.out.ext (by (repeat (first | with_reducible assumption | with_reducible exact Ext.refl _ | with_reducible refine Ext.drew ?_ | with_reducible refine Ext.drewN ?_ _ | with_reducible refine Ext.alloc ?_ _ | with_reducible refine Ext.set2 ?_ (by omega) _ _ | with_reducible refine Ext.setCell ?_ (by first | omega | (simp; done) | (simp; omega)) _ | with_reducible refine Ext.trans ?_ (by with_reducible assumption))))).rows0 (by decide) (by decide) (by simp [hWs]) ?_
  · exact own_blk0 (Blk.newAt _ _ _ (by simp [hWs])) (Nat.le_refl _)
  intro v' w1 hown' hgrow
  obtain ⟨A1, c1, rfl⟩ := own_shape hown'
  have hE1 : Ext W w1 := (((Ext.refl W).alloc _).alloc _).grown hgrow (own_slice_base (by omega))
  clear hown' hgrow
  have q1 := HK.out w1 hE1
  have q2 : Ext W w1 ∧ Ext w W := ⟨hE1, hE⟩
  go_wp2
  have q3 := HK.out ((w1.alloc (.cells #[.int .u8 48] 5)).alloc (.cells #[] 5)) ((hE1.alloc _).alloc _)
  go_rounds 1
  refine wp_loop_rounds 2 ?_
  rw [rounds_succ]
  go_wp2_with (with_reducible refine stop_at 76 ?_)
  refine wpList_append_own _ rfl (.tmp 70) (.tmp 75) _ rfl (w1.heap.size + 1) 5 i8 (.int .u8 0) 1 1 Tryz.underlying22 hi8 hy0 hy1 hy2 rfl (by decide) (.slice (some ⟨w1.heap.size + 1, 0, none⟩) 0 0) 0 [] rfl ?_ ⟨w1.heap.size + 1 + 1, 0, none⟩ 1 1 [.int .u8 48] rfl rfl ?_ (by simp [Value.oneCell']) (by unfold maxLen; omega) (by omega) (by simp) ?_
  · exact own_blk0 ((Blk.newAt _ _ _ (by simp)).alloc _) (Nat.le_refl _)
  · have := cell_one_new ((w1.alloc (.cells #[.int .u8 48] 5)).alloc (.cells #[] 5)) (.int .u8 48) 5
    simpa using this
  intro v' w3 hown3 hgrow _
  have hE3 : Ext W w3 := (((hE1.alloc _).alloc _).alloc _).grown hgrow (own_slice_base (by have := hE1.size'; omega))
  obtain ⟨g2, cap2, rfl⟩ := own_succ hown3
  have hrun : (convert 22 9 (.slice (some ⟨g2, 0, none⟩) 1 cap2)).run Tryz.prog w3 = .ok (.string ⟨#[48]⟩) w3 :=
    run_convert_bytes_back (P := Tryz.prog) w3 22 9 5 ⟨g2, 0, none⟩ cap2 [48] Tryz.underlying22 Tryz.underlying5 Tryz.underlying9 (fun k hk => by
      have hc := hown3.cells rfl k (.int .u8 48) (by
        match k, hk with
        | 0, _ => rfl)
      match k, hk with
      | 0, _ => exact hc)
  clear hown3 hgrow
  go_wp2
  rw [rounds_succ]
  go_wp2
  go_ret2
  exact ⟨by rw [Lib.decDigits_one (by omega)]; rfl, hE.trans hE3⟩

theorem Text1_any (b1 v1 : Value) (m : Nat) (w : World) (hm : m < 4294967296) (h1 : IsInt w b1 v1 (m : Int)) :
    Calls Tryz.prog 72 #[.agg #[b1, v1]] w fun e w' => e = .returned (.tuple #[.string ⟨(Lib.decDigits m).toArray⟩, .int .i64 0]) ∧ Ext w w' := by
  rcases Nat.eq_zero_or_pos m with rfl | h
  · exact Text1_zero _ _ w h1
  · exact Text1_pos _ _ m w h hm h1

end Go.Proofs.YtekipapkcgoieaaGreatDoor

/- R38.Name. -/
namespace Go.Proofs.YtekipapkcgoieaaGreatDoor
open Go.RowKit
attribute [local go_sem ↓] Go.wp_at_zero Go.wp_at_succ

/-- The name of a number. -/
def nameOf (m : Nat) : List UInt8 := 104 :: 58 :: Lib.decDigits m
theorem name_str (l : List UInt8) : (⟨#[104, 58]⟩ : ByteArray) ++ ⟨#[]⟩ ++ ⟨l.toArray⟩ = ⟨(104 :: 58 :: l).toArray⟩ := by
  apply ByteArray.ext
  simp [ByteArray.data_append]

theorem decDigits_len (m : Nat) (hm : m < 4294967296) : (Lib.decDigits m).length ≤ 21 := by
  have h2 := Lib.itoa_length_le (m : Int) (by omega) (by omega)
  rwa [Lib.itoa_nonneg] at h2

set_option maxHeartbeats 400000 in
theorem Name38_any (m : Nat) (w : World) (hm : m < 4294967296) :
    Calls Tryz.prog 33 #[.int .i64 (m : Int)] w fun e w' => e = .returned (.string ⟨(nameOf m).toArray⟩) ∧ Ext w w' := by
  have hl := decDigits_len m hm
  have hl2 : ¬ 9223372036854775807 < 2 + (Lib.decDigits m).length := by omega
  go_enter Tryz.func33, Tryz.ntmps33
  go_wp2_with fail
  refine (Of1_any (m : Int) w (by omega) (by omega)).mono ?_
  rintro e w1 ⟨s, A, n, c, rfl, h1, hE1⟩
  go_wp2_with fail
  refine (Text1_any _ _ m w1 hm h1).mono ?_
  rintro e w2 ⟨rfl, hE2⟩
  go_wp2
  go_ret
  exact ⟨by unfold nameOf; rw [← name_str]; rfl, hE1.trans hE2⟩

end Go.Proofs.YtekipapkcgoieaaGreatDoor

/- R8.Of, R11.Is, Forms, Twelve. -/
namespace Go.Proofs.YtekipapkcgoieaaGreatDoor
open Go.RowKit
attribute [local go_sem ↓] Go.wp_at_zero Go.wp_at_succ

/-- The six cells of a form. -/
def IsForm (w : World) (l : List Value) (f : Int × Int × Int) : Prop := ∃ s1 v1 s2 v2 s3 v3 : Value, l = [s1, v1, s2, v2, s3, v3] ∧ IsInt w s1 v1 f.1 ∧ IsInt w s2 v2 f.2.1 ∧ IsInt w s3 v3 f.2.2
theorem IsForm.keep {w w' : World} {l : List Value} {f : Int × Int × Int} (h : IsForm w l f) (k : KeepT [123] w w') : IsForm w' l f := by
  obtain ⟨s1, v1, s2, v2, s3, v3, e, h1, h2, h3⟩ := h
  exact ⟨s1, v1, s2, v2, s3, v3, e, h1.keep k, h2.keep k, h3.keep k⟩
theorem IsForm.ext {w w' : World} {l : List Value} {f : Int × Int × Int} (h : IsForm w l f) (k : Ext w w') : IsForm w' l f := h.keep (KeepT.ext k)
theorem IsForm.len {w : World} {l : List Value} {f : Int × Int × Int} (h : IsForm w l f) : l.length = 6 := by
  obtain ⟨s1, v1, s2, v2, s3, v3, rfl, _⟩ := h; rfl
theorem IsForm.one {w : World} {l : List Value} {f : Int × Int × Int} (h : IsForm w l f) : ∀ u ∈ l, u.oneCell' = true := by
  obtain ⟨s1, v1, s2, v2, s3, v3, rfl, h1, h2, h3⟩ := h
  obtain ⟨_, _, _, _, rfl, rfl, -, -, -⟩ := h1.form
  obtain ⟨_, _, _, _, rfl, rfl, -, -, -⟩ := h2.form
  obtain ⟨_, _, _, _, rfl, rfl, -, -, -⟩ := h3.form
  intro u hu
  simp at hu
  rcases hu with rfl | rfl | rfl | rfl | rfl | rfl <;> rfl
theorem Blk.six {w : World} {g : Nat} {t : TypeId} {x y z u v s : Value} (h : Blk w g t #[x, y, z, u, v, s]) :
    w.cell? ⟨g, 0, none⟩ = some x ∧ w.cell? ⟨g, 1, none⟩ = some y ∧ w.cell? ⟨g, 2, none⟩ = some z ∧ w.cell? ⟨g, 3, none⟩ = some u ∧ w.cell? ⟨g, 4, none⟩ = some v ∧ w.cell? ⟨g, 5, none⟩ = some s ∧
      w.frozen? ⟨g, 0, none⟩ = false ∧ w.frozen? ⟨g, 1, none⟩ = false ∧ w.frozen? ⟨g, 2, none⟩ = false ∧ w.frozen? ⟨g, 3, none⟩ = false ∧ w.frozen? ⟨g, 4, none⟩ = false ∧ w.frozen? ⟨g, 5, none⟩ = false :=
  ⟨h.cell 0, h.cell 1, h.cell 2, h.cell 3, h.cell 4, h.cell 5, h.frozen 0, h.frozen 1, h.frozen 2, h.frozen 3, h.frozen 4, h.frozen 5⟩
theorem Ext.set6 {a b : World} (h : Ext a b) {k : Nat} (hk : a.heap.size ≤ k) (u v x y z s : Value) : Ext a ((((((b.setCell ⟨k, 0, none⟩ u).setCell ⟨k, 1, none⟩ v).setCell ⟨k, 2, none⟩ x).setCell ⟨k, 3, none⟩ y).setCell ⟨k, 4, none⟩ z).setCell ⟨k, 5, none⟩ s) :=
  (((((h.setCell (p := ⟨k, 0, none⟩) hk u).setCell (p := ⟨k, 1, none⟩) hk v).setCell (p := ⟨k, 2, none⟩) hk x).setCell (p := ⟨k, 3, none⟩) hk y).setCell (p := ⟨k, 4, none⟩) hk z).setCell (p := ⟨k, 5, none⟩) hk s
theorem KeepT.set6 {ts : List TypeId} {a b : World} (h : KeepT ts a b) {k : Nat} {t : TypeId} (hk : TypeAt b k t) (ht : t ∉ ts) (u v x y z s : Value) : KeepT ts a ((((((b.setCell ⟨k, 0, none⟩ u).setCell ⟨k, 1, none⟩ v).setCell ⟨k, 2, none⟩ x).setCell ⟨k, 3, none⟩ y).setCell ⟨k, 4, none⟩ z).setCell ⟨k, 5, none⟩ s) := by
  have t1 := hk.setCell ⟨k, 0, none⟩ u
  have t2 := t1.setCell ⟨k, 1, none⟩ v
  have t3 := t2.setCell ⟨k, 2, none⟩ x
  have t4 := t3.setCell ⟨k, 3, none⟩ y
  have t5 := t4.setCell ⟨k, 4, none⟩ z
  exact (((((h.set (p := ⟨k, 0, none⟩) hk ht u).set (p := ⟨k, 1, none⟩) t1 ht v).set (p := ⟨k, 2, none⟩) t2 ht x).set (p := ⟨k, 3, none⟩) t3 ht y).set (p := ⟨k, 4, none⟩) t4 ht z).set (p := ⟨k, 5, none⟩) t5 ht s

def RForm (w : World) (f : Int × Int × Int) (e : Ending) (w' : World) : Prop := ∃ (s1 : Bool) (A1 : Option Addr) (n1 c1 : Nat) (s2 : Bool) (A2 : Option Addr) (n2 c2 : Nat) (s3 : Bool) (A3 : Option Addr) (n3 c3 : Nat),
  e = .returned (.agg #[.bool s1, .slice A1 n1 c1, .bool s2, .slice A2 n2 c2, .bool s3, .slice A3 n3 c3]) ∧ IsForm w' [.bool s1, .slice A1 n1 c1, .bool s2, .slice A2 n2 c2, .bool s3, .slice A3 n3 c3] f ∧ Ext w w'

set_option maxRecDepth 100000 in
set_option maxHeartbeats 2000000 in
theorem Of8_any (a b c : Int) (w : World) (a1 : -9223372036854775807 ≤ a) (a2 : a ≤ 9223372036854775807) (b1 : -9223372036854775807 ≤ b) (b2 : b ≤ 9223372036854775807) (c1 : -9223372036854775807 ≤ c) (c2 : c ≤ 9223372036854775807) :
    Calls Tryz.prog 104 #[.int .i64 a, .int .i64 b, .int .i64 c] w (RForm w (a, b, c)) := by
  go_enter Tryz.func104, Tryz.ntmps104
  go_wp2_with fail
  obtain ⟨W, hW⟩ : ∃ W : World, W = w.alloc (.cells #[.bool false, .slice none 0 0, .bool false, .slice none 0 0, .bool false, .slice none 0 0] 153) := ⟨_, rfl⟩
  rw [← hW]
  have hE : Ext w W := by rw [hW]; exact (Ext.refl w).alloc _
  have hB1 : Blk W w.heap.size 153 #[.bool false, .slice none 0 0, .bool false, .slice none 0 0, .bool false, .slice none 0 0] := by rw [hW]; exact Blk.newAt _ _ _ rfl
  clear hW
  refine (Of1_any a _ a1 a2).mono ?_
  rintro e w1 ⟨s1, A1, n1, k1, rfl, hm1, he1⟩
  go_wp2_with fail
  refine (Of1_any b _ b1 b2).mono ?_
  rintro e w2 ⟨s2, A2, n2, k2, rfl, hm2, he2⟩
  go_wp2_with fail
  refine (Of1_any c _ c1 c2).mono ?_
  rintro e w3 ⟨s3, A3, n3, k3, rfl, hm3, he3⟩
  have hEE : Ext W w3 := (he1.trans he2).trans he3
  have hq6 := (hB1.ext hEE).six
  go_wp2
  refine bodyPost_ret (v := .agg #[.bool s1, .slice A1 n1 k1, .bool s2, .slice A2 n2 k2, .bool s3, .slice A3 n3 k3]) (by simp [results, Tryz.results104, go_sem, hq6]) rfl ?_
  have hk := (KeepT.refl [123] w3).set6 (hB1.ext hEE).type (by decide) (.bool s1) (.slice A1 n1 k1) (.bool s2) (.slice A2 n2 k2) (.bool s3) (.slice A3 n3 k3)
  exact ⟨_, _, _, _, _, _, _, _, _, _, _, _, rfl, ⟨_, _, _, _, _, _, rfl, ((hm1.ext he2).ext he3).keep hk, (hm2.ext he3).keep hk, hm3.keep hk⟩, (hE.trans hEE).set6 (Nat.le_refl _) _ _ _ _ _ _⟩

set_option maxHeartbeats 400000 in
theorem Is11_any (n : Int) (w : World) (h0 : 0 ≤ n) (h1 : n ≤ 1000000) :
    Calls Tryz.prog 68 #[.int .i64 n] w fun e w' => e = .returned (.bool (decide (0 < n) && (decide (n % 4 = 0) || decide (n % 4 = 3)))) ∧ w = w' := by
  go_enter Tryz.func68, Tryz.ntmps68
  go_wp2
  all_goals
    go_ret
    refine ⟨?_, rfl⟩
    show Ending.returned (Value.bool _) = _
    congr 2
    rw [Bool.eq_iff_iff]
    simp
    try omega

/-! The lists of forms. -/
def formAt (n a b : Int) : Option (Int × Int × Int) :=
  if (b * b + n) % (4 * a) = 0 ∧ a ≤ (b * b + n) / (4 * a) ∧ (0 ≤ b ∨ a < (b * b + n) / (4 * a)) then some (a, b, (b * b + n) / (4 * a)) else none
def rowA (n a : Int) (j : Nat) : List (Int × Int × Int) := (List.range j).filterMap fun i : Nat => formAt n a (1 - a + (i : Int))
def accA (n : Int) (k : Nat) : List (Int × Int × Int) := (List.range k).flatMap fun i : Nat => rowA n ((i : Int) + 1) (2 * (i + 1))
theorem rowA_succ (n a : Int) (j : Nat) : rowA n a (j + 1) = rowA n a j ++ (formAt n a (1 - a + j)).toList := by
  unfold rowA
  rw [List.range_succ, List.filterMap_append]
  cases h : formAt n a (1 - a + j) <;> simp [h]
theorem accA_succ (n : Int) (k : Nat) : accA n (k + 1) = accA n k ++ rowA n (k + 1) (2 * (k + 1)) := by
  unfold accA
  rw [List.range_succ, List.flatMap_append]
  simp
theorem rowA_len (n a : Int) (j : Nat) : (rowA n a j).length ≤ j := by
  induction j with
  | zero => simp [rowA]
  | succ j ih =>
    rw [rowA_succ, List.length_append]
    cases formAt n a (1 - a + j) <;> simp <;> omega
theorem accA_len (n : Int) (k : Nat) : (accA n k).length ≤ k * (k + 1) := by
  induction k with
  | zero => simp [accA]
  | succ k ih =>
    rw [accA_succ, List.length_append]
    have := rowA_len n (k + 1) (2 * (k + 1))
    have e : (k + 1) * (k + 1 + 1) = k * (k + 1) + 2 * (k + 1) := by rw [Nat.add_mul, Nat.mul_add k (k + 1) 1]; omega
    omega
theorem own_keep {w w' : World} {base : Nat} {e : TypeId} {size : Nat} {v : Value} {n : Nat} {xs : List Value} {ts : List TypeId} (h : w.ownsRow base e size v n xs) (hg : w.grownBy w' v.ownBlock) (hs : e ∉ ts) : KeepT ts w w' := by
  refine ⟨hg.size, fun b cs t fz hb ht => (hg.block b (block_lt hb) ?_).trans hb⟩
  intro hv
  rcases h.2 with ⟨rfl, _⟩ | ⟨g, cap, cur, rfl, _, e3, _⟩
  · cases hv
  · injection hv with hv
    subst hv
    rw [hb] at e3; injection e3 with e3; injection e3 with _ e3
    exact hs (e3 ▸ ht)
theorem form_info : (Tryz.prog.info? 153).map (fun i => (i.zero.map (·.cells.size), i.size, i.bytes)) = some (some 6, 6, 96) := by kernel_rfl
theorem k_bound {n : Int} {k : Nat} (h : 3 * ((k : Int) * k) ≤ n) (hn : n ≤ 10000) : k ≤ 60 := by
  rcases Nat.lt_or_ge 60 k with h1 | h1
  · have h2 : 61 * 61 ≤ k * k := Nat.mul_le_mul h1 h1
    have h3 : ((k * k : Nat) : Int) = (k : Int) * k := by simp
    omega
  · exact h1

/-- The forms of a list that is being made. -/
def OwnForms (base : Nat) (w : World) (v : Value) (fs : List (Int × Int × Int)) : Prop :=
  ∃ ls : List (List Value), w.ownsRow base 153 6 v ls.length ls.flatten ∧ All2 (IsForm w) ls fs
theorem OwnForms.shape {base : Nat} {w : World} {v : Value} {fs : List (Int × Int × Int)} (h : OwnForms base w v fs) : ∃ A c, v = .slice A fs.length c := by
  obtain ⟨ls, h1, h2⟩ := h
  rw [← h2.length]
  rcases h1.2 with ⟨rfl, h⟩ | ⟨g, cap, cur, rfl, _⟩
  · rw [h]; exact ⟨none, 0, rfl⟩
  · exact ⟨_, _, rfl⟩
def IsForms (w : World) (v : Value) (fs : List (Int × Int × Int)) : Prop := ∃ ls, RowsOf 153 6 w v ls ∧ All2 (IsForm w) ls fs
theorem all2_mem {α β : Type} {R : α → β → Prop} {P : α → Prop} (hP : ∀ a b, R a b → P a) : ∀ {l : List α} {m : List β}, All2 R l m → ∀ a ∈ l, P a
  | [], [], _, a, ha => by cases ha
  | x :: l, y :: m, h, a, ha => by
    rcases List.mem_cons.1 ha with rfl | ha
    · exact hP _ _ h.1
    · exact all2_mem hP h.2 a ha
theorem OwnForms.is {base : Nat} {w : World} {v : Value} {fs : List (Int × Int × Int)} (h : OwnForms base w v fs) : IsForms w v fs := by
  obtain ⟨ls, h1, h2⟩ := h
  exact ⟨ls, RowsOf.of_own (all2_mem (fun a b hab => ⟨IsForm.len hab, IsForm.one hab⟩) h2) h1, h2⟩

set_option maxRecDepth 100000 in
set_option maxHeartbeats 2000000 in
theorem Forms_any (n : Int) (w : World) (h0 : 0 ≤ n) (hn : n ≤ 10000) :
    Calls Tryz.prog 69 #[.int .i64 n] w fun e w' => ∃ (v : Value) (k : Nat), e = .returned v ∧ 3 * ((k : Int) * k) ≤ n ∧ n < 3 * (((k : Int) + 1) * (k + 1)) ∧ IsForms w' v (accA n k) ∧ Ext w w' := by
  go_enter Tryz.func69, Tryz.ntmps69
  go_wp2
  go_loopw [3, 4] (fun o a wr => ∃ (k : Nat) (A : Option Addr) (c : Nat) (z : Int), a = .int .i64 z ∧ Hid (z = (k : Int) + 1) ∧ 1 ≤ z ∧ o = .slice A (accA n k).length c ∧ 3 * ((k : Int) * k) ≤ n ∧ Hid (OwnForms w.heap.size wr (.slice A (accA n k).length c) (accA n k)) ∧ Ext w wr) (fun _ a _ => (200 - intOf a).toNat)
  case atStart =>
    exact ⟨0, _, _, _, rfl, rfl, by omega, rfl, by simpa using h0, ⟨[], own_blk0 (Blk.newAt _ _ _ rfl) (Nat.le_refl _), by simp [accA, All2]⟩, (Ext.refl w).alloc _⟩
  case round =>
    obtain ⟨k, A, c, z, rfl, hz, hz1, rfl, hk, ho, hE⟩ := hrel
    have hk60 := k_bound hk hn
    have hz61 : z ≤ 61 := by have := hz.out; omega
    have hzz : 0 ≤ z * z ∧ z * z ≤ 61 * 61 := ⟨Int.mul_nonneg (by omega) (by omega), Int.mul_le_mul hz61 hz61 (by omega) (by omega)⟩
    obtain ⟨p, hp, hp0, hp1⟩ : ∃ p : Int, 3 * z * z = p ∧ 0 ≤ p ∧ p ≤ 11163 := ⟨_, rfl, by rw [Int.mul_assoc]; omega, by rw [Int.mul_assoc]; omega⟩
    obtain ⟨wo, rfl⟩ : ∃ wo : World, wo = wr := ⟨_, rfl⟩
    clear hzz
    by_cases hpn : p ≤ n
    · go_wp2
      go_loopw [3, 5] (fun o b wr => ∃ (j : Nat) (A : Option Addr) (c : Nat) (y : Int) (L : List (Int × Int × Int)), b = .int .i64 y ∧ Hid (y = 1 - z + j) ∧ -60 ≤ y ∧ y ≤ z + 1 ∧ o = .slice A L.length c ∧ Hid (L = accA n k ++ rowA n z j) ∧ Hid (OwnForms w.heap.size wr (.slice A L.length c) L) ∧ Ext w wr) (fun _ b _ => (z + 1 - intOf b).toNat)
      case atStart =>
        exact ⟨0, A, c, 1 - z, accA n k, rfl, by show _ = _; simp, by omega, by omega, rfl, by show _ = _; simp [rowA], ho.out, hE⟩
      case round =>
        obtain ⟨j, A, c, y, L, rfl, hy, hy1, hy2, rfl, hL, ho, hE⟩ := hrel
        have hLl : L.length ≤ 60 * 61 + 122 := by
          rw [hL.out, List.length_append]
          have h1 := accA_len n k
          have h2 := rowA_len n z j
          have h3 := Nat.mul_le_mul hk60 (show k + 1 ≤ 61 by omega)
          have := hy.out
          omega
        obtain ⟨q, hq, hq0, hq1⟩ : ∃ q : Int, y * y = q ∧ 0 ≤ q ∧ q ≤ 3844 := by
          obtain ⟨m, hm⟩ : ∃ m : Nat, y.natAbs = m := ⟨_, rfl⟩
          have hm62 : m ≤ 62 := by omega
          have h1 : m * m ≤ 62 * 62 := Nat.mul_le_mul hm62 hm62
          have h2 : ((m * m : Nat) : Int) = y * y := by rw [← hm]; exact Int.natAbs_mul_self
          exact ⟨_, rfl, by omega, by omega⟩
        obtain ⟨d, hd, hd0, hd1⟩ : ∃ d : Int, (q + n) / (4 * z) = d ∧ 0 ≤ d ∧ d ≤ 13844 := ⟨_, rfl, Int.ediv_nonneg (by omega) (by omega), Int.le_trans (Int.ediv_le_self _ (by omega)) (by omega)⟩
        obtain ⟨r, hr, hr0⟩ : ∃ r : Int, (q + n) % (4 * z) = r ∧ 0 ≤ r := ⟨_, rfl, Int.emod_nonneg _ (by omega)⟩
        have hr1 : r < 4 * z := by rw [← hr]; exact Int.emod_lt_of_pos _ (by omega)
        have hd2 : (q + n).tdiv (4 * z) = d := by rw [Int.tdiv_eq_ediv_of_nonneg (by omega)]; exact hd
        have hr2 : (q + n).tmod (4 * z) = r := by rw [Int.tmod_eq_emod_of_nonneg (by omega)]; exact hr
        have hz4 : ((4 * z : Int) == 0) = false := by rw [beq_eq_false_iff_ne]; omega
        have HF := Lib.hid (show formAt n z (1 - z + j) = if r = 0 ∧ z ≤ d ∧ (0 ≤ y ∨ z < d) then some (z, y, d) else none by unfold formAt; rw [← hy.out, hq, hd, hr])
        by_cases hyz : y ≤ z
        · have hD := Lib.hid (show rowA n z (j + 1) = rowA n z j ++ (if r = 0 ∧ z ≤ d ∧ (0 ≤ y ∨ z < d) then some (z, y, d) else none).toList by rw [rowA_succ, HF.out])
          have sk : ¬ (r = 0 ∧ z ≤ d ∧ (0 ≤ y ∨ z < d)) → L = accA n k ++ rowA n z (j + 1) := fun h => by rw [hD.out, if_neg h, hL.out]; simp
          have tk : r = 0 ∧ z ≤ d ∧ (0 ≤ y ∨ z < d) → L ++ [(z, y, d)] = accA n k ++ rowA n z (j + 1) := fun h => by rw [hD.out, if_pos h, hL.out]; simp
          have SK := Lib.hid sk
          have TK := Lib.hid tk
          clear sk tk HF hD
          go_wp2_with fail
          all_goals first
            | (have hy3 := hy.out; (refine ⟨⟨j + 1, A, c, y + 1, L, rfl, ?_, ?_, ?_, rfl, ?_, ho.out, hE⟩, ?_⟩ <;> first | omega | (show _ = _; push_cast; omega) | (show _ = _; exact SK.out (by omega)) | (simp [intOf] <;> omega)); done)
            | (refine (Of8_any z y d wr (by omega) (by omega) (by omega) (by omega) (by omega) (by omega)).mono ?_
               rintro e w2 ⟨s1, A1, n1, c1, s2, A2, n2, c2, s3, A3, n3, c3, rfl, hf, hE2⟩
               obtain ⟨ls, ho1, ho2⟩ := ho.out
               have hll := ho2.length
               rw [hll] at ho1
               go_wp2_with (with_reducible refine stop_at 60 ?_)
               refine wpList_append_rows rfl (.tmp 54) (.tmp 59) _ rfl w.heap.size 153 6 96 Tryz.underlying53 form_info (by decide) (.slice A L.length c) L.length ls.flatten rfl (own_ext ho1 (hE2.alloc _)) _ [[.bool s1, .slice A1 n1 c1, .bool s2, .slice A2 n2 c2, .bool s3, .slice A3 n3 c3]] rfl (RowsOf.one_new _ _ _ rfl hf.one rfl) (by simp; unfold maxLen; omega) (by simp; omega) (by have := (hE.trans hE2).size'; simp; omega) ?_
               intro v' w3 hown3 hgrow
               have hE3 : Ext w w3 := ((hE.trans hE2).alloc _).grown hgrow (own_block ho1)
               have hK3 : KeepT [123] w2 w3 := (KeepT.ext ((Ext.refl w2).alloc _)).trans (own_keep (own_ext ho1 (hE2.alloc _)) hgrow (by decide))
               have ho3 : OwnForms w.heap.size w3 v' (L ++ [(z, y, d)]) := by
                 refine ⟨ls ++ [[.bool s1, .slice A1 n1 c1, .bool s2, .slice A2 n2 c2, .bool s3, .slice A3 n3 c3]], ?_, (ho2.mono fun a b h => (h.ext hE2).keep hK3).append (All2.one (hf.keep hK3))⟩
                 rw [List.flatten_append, List.length_append, hll]
                 exact hown3
               obtain ⟨A', c', rfl⟩ := ho3.shape
               have HO3 := Lib.hid ho3
               clear hown3 hgrow ho1 ho2 ho3 hf hK3
               go_wp2
               go_roundw
               case rel => exact ⟨j + 1, A', c', y + 1, L ++ [(z, y, d)], by go_num, by (show _ = _; have hy3 := hy.out; push_cast; omega), by omega, by omega, by simp, by (show _ = _; exact TK.out (by omega)), HO3.out, hE3⟩
               case measure => (simp [intOf] <;> omega))
          all_goals done
        · have hLk : L = accA n (k + 1) := by
            have h1 := hy.out
            have h2 := hz.out
            rw [accA_succ, hL.out]
            obtain rfl : j = 2 * (k + 1) := by omega
            rw [h2]
          have hpk : 3 * (((k + 1 : Nat) : Int) * ((k + 1 : Nat) : Int)) ≤ n := by
            have h2 := hz.out
            push_cast
            rw [← h2, ← Int.mul_assoc, hp]; exact hpn
          have HP := Lib.hid hpk
          have HLK := Lib.hid hLk
          clear hpk hLk
          go_wp2
          go_roundw
          case rel => exact ⟨k + 1, A, c, z + 1, rfl, by (show _ = _; have := hz.out; push_cast; omega), by omega, by rw [HLK.out], HP.out, by rw [← HLK.out]; exact ho.out, hE⟩
          case measure => (simp [intOf] <;> omega)
    · have hf := ho.out.is
      have HP := Lib.hid (show n < 3 * (((k : Int) + 1) * (k + 1)) by rw [← hz.out, ← Int.mul_assoc, hp]; omega)
      go_wp2
      go_ret
      exact ⟨_, rfl, k, hk, HP.out, hf, hE⟩

end Go.Proofs.YtekipapkcgoieaaGreatDoor

/- R11.Twelve. -/
namespace Go.Proofs.YtekipapkcgoieaaGreatDoor
open Go.RowKit
attribute [local go_sem ↓] Go.wp_at_zero Go.wp_at_succ

/-- Twelve times the weight of a form. -/
def weight (f : Int × Int × Int) : Int := if f.1 = f.2.1 ∧ f.2.1 = f.2.2 then 4 else if f.2.1 = 0 ∧ f.1 = f.2.2 then 6 else 12
def twelveOf (fs : List (Int × Int × Int)) : Int := (fs.map weight).sum
def kTop (n : Int) : Nat → Nat
  | 0 => 0
  | k + 1 => if 3 * (((k : Int) + 1) * (k + 1)) ≤ n then k + 1 else kTop n k
theorem kTop_eq {n : Int} {k : Nat} (h1 : 3 * ((k : Int) * k) ≤ n) (h2 : n < 3 * (((k : Int) + 1) * (k + 1))) : ∀ m, k ≤ m → kTop n m = k
  | 0, hm => by obtain rfl : k = 0 := by omega
                rfl
  | m + 1, hm => by
    unfold kTop
    by_cases e : k = m + 1
    · subst e
      rw [if_pos (by simpa using h1)]
    · have hle : k + 1 ≤ m + 1 := by omega
      have h3 : (k + 1) * (k + 1) ≤ (m + 1) * (m + 1) := Nat.mul_le_mul hle hle
      have h4 : (((k + 1) * (k + 1) : Nat) : Int) ≤ (((m + 1) * (m + 1) : Nat) : Int) := by exact_mod_cast h3
      push_cast at h4
      rw [if_neg (by omega)]
      exact kTop_eq h1 h2 m (by omega)
/-- Twelve times the class number, as Twelve returns it. -/
def twelve (n : Int) : Int := if n = 0 then -1 else if 0 < n ∧ (n % 4 = 0 ∨ n % 4 = 3) then twelveOf (accA n (kTop n 60)) else 0
theorem weight_bd (f : Int × Int × Int) : 4 ≤ weight f ∧ weight f ≤ 12 := by
  unfold weight
  split
  · omega
  · split <;> omega
theorem twelveOf_bd (fs : List (Int × Int × Int)) : 0 ≤ twelveOf fs ∧ twelveOf fs ≤ 12 * fs.length := by
  unfold twelveOf
  induction fs with
  | nil => simp
  | cons f fs ih =>
    have := weight_bd f
    simp only [List.map_cons, List.sum_cons, List.length_cons]
    omega
theorem twelveOf_snoc (fs : List (Int × Int × Int)) (f : Int × Int × Int) : twelveOf (fs ++ [f]) = twelveOf fs + weight f := by
  unfold twelveOf; simp

theorem formAt_bd {n a b : Int} {f : Int × Int × Int} (h0 : 0 ≤ n) (hn : n ≤ 10000) (ha0 : 1 ≤ a) (ha : a ≤ 62) (hb0 : -62 ≤ b) (hb : b ≤ 62) (h : formAt n a b = some f) : f.1.natAbs ≤ 100000 ∧ f.2.1.natAbs ≤ 100000 ∧ f.2.2.natAbs ≤ 100000 := by
  unfold formAt at h
  split at h
  · injection h with h
    subst h
    have hm62 : b.natAbs ≤ 62 := by omega
    have h1 : b.natAbs * b.natAbs ≤ 62 * 62 := Nat.mul_le_mul hm62 hm62
    have h2 : ((b.natAbs * b.natAbs : Nat) : Int) = b * b := Int.natAbs_mul_self
    have h3 : 0 ≤ (b * b + n) / (4 * a) := Int.ediv_nonneg (by omega) (by omega)
    have h4 : (b * b + n) / (4 * a) ≤ b * b + n := Int.ediv_le_self _ (by omega)
    refine ⟨?_, ?_, ?_⟩
    · show a.natAbs ≤ _; omega
    · show b.natAbs ≤ _; omega
    · show ((b * b + n) / (4 * a)).natAbs ≤ _; omega
  · cases h
theorem acc_bd {n : Int} {k : Nat} (h0 : 0 ≤ n) (hn : n ≤ 10000) (hk : k ≤ 60) : ∀ f ∈ accA n k, f.1.natAbs ≤ 100000 ∧ f.2.1.natAbs ≤ 100000 ∧ f.2.2.natAbs ≤ 100000 := by
  intro f hf
  unfold accA at hf
  rw [List.mem_flatMap] at hf
  obtain ⟨i, hi, hf⟩ := hf
  rw [List.mem_range] at hi
  unfold rowA at hf
  rw [List.mem_filterMap] at hf
  obtain ⟨j, hj, hf⟩ := hf
  rw [List.mem_range] at hj
  exact formAt_bd h0 hn (by omega) (by omega) (by omega) (by omega) hf

set_option maxRecDepth 100000 in
set_option maxHeartbeats 2000000 in
theorem Twelve_any (n : Int) (w : World) (h0 : 0 ≤ n) (hn : n ≤ 10000) :
    Calls Tryz.prog 31 #[.int .i64 n] w fun e w' => e = .returned (.int .i64 (twelve n)) ∧ Ext w w' := by
  go_enter Tryz.func31, Tryz.ntmps31
  by_cases hn0 : n = 0
  · subst hn0
    go_wp2
    go_ret
    exact ⟨rfl, Ext.refl _⟩
  · by_cases hd : 0 < n ∧ (n % 4 = 0 ∨ n % 4 = 3)
    · have hi : (decide (0 < n) && (decide (n % 4 = 0) || decide (n % 4 = 3))) = true := by simp; omega
      have HI := Lib.hid hi
      clear hi
      go_wp2_with fail
      refine (Is11_any n w h0 (by omega)).mono ?_
      rintro e w' ⟨rfl, rfl⟩
      rw [HI.out]
      go_wp2_with fail
      refine (Forms_any n w h0 hn).mono ?_
      rintro e wf ⟨v, k, rfl, hk1, hk2, hfs, hE⟩
      obtain ⟨ls, hR, hA⟩ := hfs
      obtain ⟨A, c, rfl⟩ := hR.shape
      have hk60 := k_bound hk1 hn
      have hT := Lib.hid (show twelve n = twelveOf (accA n k) by unfold twelve; rw [if_neg hn0, if_pos hd, kTop_eq hk1 hk2 60 hk60])
      have hLl : ls.length ≤ 60 * 61 := by
        rw [hA.length]
        exact Nat.le_trans (accA_len n k) (Nat.mul_le_mul hk60 (show k + 1 ≤ 61 by omega))
      have hbd := Lib.hid (acc_bd h0 hn hk60)
      generalize accA n k = fs at *
      have HA := Lib.hid hA
      have HR := Lib.hid hR
      clear hk1 hk2 hA hR HI
      go_wp2
      go_loopw [3, 5] (fun s i wr => ∃ (j : Nat) (S : Int), i = .int .i64 (j : Int) ∧ j ≤ ls.length ∧ s = .int .i64 S ∧ 0 ≤ S ∧ S ≤ 12 * j ∧ Hid (S = twelveOf (fs.take j)) ∧ Ext wf wr) (fun _ i _ => ls.length - (intOf i).toNat)
      case atStart => exact ⟨0, 0, rfl, Nat.zero_le _, rfl, by omega, by omega, by (show _ = _; simp [twelveOf]), Ext.refl _⟩
      case round =>
        obtain ⟨j, S, rfl, hj, rfl, hS0, hS1, hS, hE2⟩ := hrel
        by_cases hjl : j < ls.length
        · have hjf : j < fs.length := by rw [← HA.out.length]; exact hjl
          obtain ⟨b, o, rfl, hb, hrow⟩ := HR.out.row j hjl
          have hTK := Lib.hid (show twelveOf (fs.take (j + 1)) = twelveOf (fs.take j) + weight fs[j] by rw [List.take_succ_eq_append_getElem hjf, twelveOf_snoc])
          have hbf := hbd.out _ (List.getElem_mem hjf)
          have hform := HA.out.get j _ _ (List.getElem?_eq_getElem hjl) (List.getElem?_eq_getElem hjf)
          obtain ⟨s1, v1, s2, v2, s3, v3, hl6, g1, g2, g3⟩ := hform
          obtain ⟨s1, A1, n1, c1, rfl, rfl, -, -, -⟩ := g1.form
          obtain ⟨s2, A2, n2, c2, rfl, rfl, -, -, -⟩ := g2.form
          obtain ⟨s3, A3, n3, c3, rfl, rfl, -, -, -⟩ := g3.form
          have hcs : ∀ w', Ext wr w' → Ext wr w' ∧ w'.cell? ⟨b, o + j * 6, none⟩ = some (.bool s1) ∧ w'.cell? ⟨b, o + j * 6 + 1, none⟩ = some (.slice A1 n1 c1) ∧ w'.cell? ⟨b, o + j * 6 + 2, none⟩ = some (.bool s2) ∧ w'.cell? ⟨b, o + j * 6 + 3, none⟩ = some (.slice A2 n2 c2) ∧ w'.cell? ⟨b, o + j * 6 + 4, none⟩ = some (.bool s3) ∧ w'.cell? ⟨b, o + j * 6 + 5, none⟩ = some (.slice A3 n3 c3) := by
            intro w' h
            have hr := hrow w' (KeepT.ext (hE2.trans h))
            rw [hl6] at hr
            exact ⟨h, hr 0 _ rfl, hr 1 _ rfl, hr 2 _ rfl, hr 3 _ rfl, hr 4 _ rfl, hr 5 _ rfl⟩
          generalize fs[j] = f at *
          obtain ⟨fa, fb, fc⟩ := f
          obtain ⟨u1, u2, u3⟩ := hbf
          have l1 := wordsOf_len1 (show fa.natAbs < 4294967296 from by have := u1; simp only at this; omega)
          have l2 := wordsOf_len1 (show fb.natAbs < 4294967296 from by have := u2; simp only at this; omega)
          have l3 := wordsOf_len1 (show fc.natAbs < 4294967296 from by have := u3; simp only at this; omega)
          have HK := Lib.hid hcs
          have G := Lib.hid (And.intro g1 (And.intro g2 g3))
          clear hcs hrow g1 g2 g3 hl6
          have q1 := HK.out wr (Ext.refl _)
          go_upto_region 9 with fail
          go_cut [6, 7, 8] (fun p q r wx => ∃ x y z : Nat, p = .pointer (some ⟨x, 0, none⟩) ∧ q = .pointer (some ⟨y, 0, none⟩) ∧ r = .pointer (some ⟨z, 0, none⟩) ∧ Blk wx x 37 #[.bool s1, .slice A1 n1 c1] ∧ Blk wx y 37 #[.bool s2, .slice A2 n2 c2] ∧ Blk wx z 37 #[.bool s3, .slice A3 n3 c3] ∧ Ext wr wx)
          case first =>
            go_region_held3 (fun w' => Ext wr w' ∧ w'.cell? ⟨b, o + j * 6, none⟩ = some (.bool s1) ∧ w'.cell? ⟨b, o + j * 6 + 1, none⟩ = some (.slice A1 n1 c1) ∧ w'.cell? ⟨b, o + j * 6 + 2, none⟩ = some (.bool s2) ∧ w'.cell? ⟨b, o + j * 6 + 3, none⟩ = some (.slice A2 n2 c2) ∧ w'.cell? ⟨b, o + j * 6 + 4, none⟩ = some (.bool s3) ∧ w'.cell? ⟨b, o + j * 6 + 5, none⟩ = some (.slice A3 n3 c3))
              (first | (refine HK.out _ ?_; (repeat (first | with_reducible assumption | with_reducible exact Ext.refl _ | with_reducible refine Ext.drew ?_ | with_reducible refine Ext.drewN ?_ _ | with_reducible refine Ext.alloc ?_ _ | with_reducible refine Ext.set2 ?_ (by omega) _ _ | with_reducible refine Ext.setCell ?_ (by first | omega | (simp; done) | (simp; omega)) _ | with_reducible refine Ext.trans ?_ (by with_reducible assumption))); done))
              (fail)
            all_goals
              go_wp2_with fail
              go_meet
              exact ⟨_, _, _, rfl, rfl, rfl, by (repeat (first | with_reducible assumption | with_reducible exact Blk.newAt _ _ _ (by first | rfl | (simp; done) | (simp; omega)) | with_reducible refine Blk.alloc ?_ _ | with_reducible refine Blk.set2 (x := .bool false) (y := .slice none 0 0) ?_ _ _ | with_reducible refine Blk.far2 ?_ (by omega) _ _ | with_reducible refine Blk.drew ?_ | with_reducible refine Blk.ext ?_ (by with_reducible assumption))), by (repeat (first | with_reducible assumption | with_reducible exact Blk.newAt _ _ _ (by first | rfl | (simp; done) | (simp; omega)) | with_reducible refine Blk.alloc ?_ _ | with_reducible refine Blk.set2 (x := .bool false) (y := .slice none 0 0) ?_ _ _ | with_reducible refine Blk.far2 ?_ (by omega) _ _ | with_reducible refine Blk.drew ?_ | with_reducible refine Blk.ext ?_ (by with_reducible assumption))), by (repeat (first | with_reducible assumption | with_reducible exact Blk.newAt _ _ _ (by first | rfl | (simp; done) | (simp; omega)) | with_reducible refine Blk.alloc ?_ _ | with_reducible refine Blk.set2 (x := .bool false) (y := .slice none 0 0) ?_ _ _ | with_reducible refine Blk.far2 ?_ (by omega) _ _ | with_reducible refine Blk.drew ?_ | with_reducible refine Blk.ext ?_ (by with_reducible assumption))), by (repeat (first | with_reducible assumption | with_reducible exact Ext.refl _ | with_reducible refine Ext.drew ?_ | with_reducible refine Ext.drewN ?_ _ | with_reducible refine Ext.alloc ?_ _ | with_reducible refine Ext.set2 ?_ (by omega) _ _ | with_reducible refine Ext.setCell ?_ (by first | omega | (simp; done) | (simp; omega)) _ | with_reducible refine Ext.trans ?_ (by with_reducible assumption)))⟩
          case rest =>
            clear q1 HK
            obtain ⟨x, y, z, rfl, rfl, rfl, k1, k2, k3, kE⟩ := hcut
            obtain ⟨g1, g2, g3⟩ := G.out
            have t1 := k1.two
            have t2 := k2.two
            have t3 := k3.two
            have r0 : Ext wc wc := Ext.refl _
            by_cases e1 : fa = fb
            · have d1 : decide (fa = fb) = true := by simpa using e1
              go_wp2_with fail
              refine (iSame1_any _ _ _ _ fa fb wc (by omega) (by omega) (g1.ext (hE2.trans (kE.trans r0))) (g2.ext (hE2.trans (kE.trans r0)))).mono ?_
              rintro e w2 ⟨rfl, r2'⟩
              have r2 : Ext wc w2 := r0.trans r2'
              have t1w2 := (k1.ext r2).two
              have t2w2 := (k2.ext r2).two
              have t3w2 := (k3.ext r2).two
              by_cases e2 : fb = fc
              · have d2 : decide (fb = fc) = true := by simpa using e2
                go_wp2_with fail
                refine (iSame1_any _ _ _ _ fb fc w2 (by omega) (by omega) (g2.ext (hE2.trans (kE.trans r2))) (g3.ext (hE2.trans (kE.trans r2)))).mono ?_
                rintro e w3 ⟨rfl, r3'⟩
                have r3 : Ext wc w3 := r2.trans r3'
                have t1w3 := (k1.ext r3).two
                have t2w3 := (k2.ext r3).two
                have t3w3 := (k3.ext r3).two
                have HW := Lib.hid (show weight (fa, fb, fc) = 4 by unfold weight; simp <;> omega)
                go_wp2
                go_roundw
                case rel => exact ⟨j + 1, S + 4, by go_num, by omega, rfl, by omega, by push_cast; omega, by (show _ = _; rw [hTK.out, HW.out, hS.out]), hE2.trans (kE.trans r3)⟩
                case measure => (simp [intOf] <;> omega)
              · have d2 : decide (fb = fc) = false := by simpa using e2
                go_wp2_with fail
                refine (iSame1_any _ _ _ _ fb fc w2 (by omega) (by omega) (g2.ext (hE2.trans (kE.trans r2))) (g3.ext (hE2.trans (kE.trans r2)))).mono ?_
                rintro e w3 ⟨rfl, r3'⟩
                have r3 : Ext wc w3 := r2.trans r3'
                have t1w3 := (k1.ext r3).two
                have t2w3 := (k2.ext r3).two
                have t3w3 := (k3.ext r3).two
                go_wp2_with fail
                refine (iSign1_any _ _ fb w3 (g2.ext (hE2.trans (kE.trans r3)))).mono ?_
                rintro e w4 ⟨rfl, r4'⟩
                have r4 : Ext wc w4 := r3.trans r4'
                have t1w4 := (k1.ext r4).two
                have t2w4 := (k2.ext r4).two
                have t3w4 := (k3.ext r4).two
                by_cases e3 : fb = 0
                · have s3 : fb.sign = 0 := by rw [e3]; rfl
                  have d3 : decide (fa = fc) = false := by simp; omega
                  go_wp2_with fail
                  refine (iSame1_any _ _ _ _ fa fc w4 (by omega) (by omega) (g1.ext (hE2.trans (kE.trans r4))) (g3.ext (hE2.trans (kE.trans r4)))).mono ?_
                  rintro e w5 ⟨rfl, r5'⟩
                  have r5 : Ext wc w5 := r4.trans r5'
                  have t1w5 := (k1.ext r5).two
                  have t2w5 := (k2.ext r5).two
                  have t3w5 := (k3.ext r5).two
                  have HW := Lib.hid (show weight (fa, fb, fc) = 12 by unfold weight; simp <;> omega)
                  go_wp2
                  go_roundw
                  case rel => exact ⟨j + 1, S + 12, by go_num, by omega, rfl, by omega, by push_cast; omega, by (show _ = _; rw [hTK.out, HW.out, hS.out]), hE2.trans (kE.trans r5)⟩
                  case measure => (simp [intOf] <;> omega)
                · have s3 : (fb.sign == 0) = false := by rw [beq_eq_false_iff_ne]; exact fun h => e3 (Int.sign_eq_zero_iff_zero.1 h)
                  have HW := Lib.hid (show weight (fa, fb, fc) = 12 by unfold weight; simp <;> omega)
                  go_wp2
                  go_roundw
                  case rel => exact ⟨j + 1, S + 12, by go_num, by omega, rfl, by omega, by push_cast; omega, by (show _ = _; rw [hTK.out, HW.out, hS.out]), hE2.trans (kE.trans r4)⟩
                  case measure => (simp [intOf] <;> omega)
            · have d1 : decide (fa = fb) = false := by simpa using e1
              go_wp2_with fail
              refine (iSame1_any _ _ _ _ fa fb wc (by omega) (by omega) (g1.ext (hE2.trans (kE.trans r0))) (g2.ext (hE2.trans (kE.trans r0)))).mono ?_
              rintro e w2 ⟨rfl, r2'⟩
              have r2 : Ext wc w2 := r0.trans r2'
              have t1w2 := (k1.ext r2).two
              have t2w2 := (k2.ext r2).two
              have t3w2 := (k3.ext r2).two
              go_wp2_with fail
              refine (iSign1_any _ _ fb w2 (g2.ext (hE2.trans (kE.trans r2)))).mono ?_
              rintro e w4 ⟨rfl, r4'⟩
              have r4 : Ext wc w4 := r2.trans r4'
              have t1w4 := (k1.ext r4).two
              have t2w4 := (k2.ext r4).two
              have t3w4 := (k3.ext r4).two
              by_cases e3 : fb = 0
              · have s3 : fb.sign = 0 := by rw [e3]; rfl
                by_cases e4 : fa = fc
                · have d3 : decide (fa = fc) = true := by simpa using e4
                  go_wp2_with fail
                  refine (iSame1_any _ _ _ _ fa fc w4 (by omega) (by omega) (g1.ext (hE2.trans (kE.trans r4))) (g3.ext (hE2.trans (kE.trans r4)))).mono ?_
                  rintro e w5 ⟨rfl, r5'⟩
                  have r5 : Ext wc w5 := r4.trans r5'
                  have t1w5 := (k1.ext r5).two
                  have t2w5 := (k2.ext r5).two
                  have t3w5 := (k3.ext r5).two
                  have HW := Lib.hid (show weight (fa, fb, fc) = 6 by unfold weight; simp <;> omega)
                  go_wp2
                  go_roundw
                  case rel => exact ⟨j + 1, S + 6, by go_num, by omega, rfl, by omega, by push_cast; omega, by (show _ = _; rw [hTK.out, HW.out, hS.out]), hE2.trans (kE.trans r5)⟩
                  case measure => (simp [intOf] <;> omega)
                · have d3 : decide (fa = fc) = false := by simpa using e4
                  go_wp2_with fail
                  refine (iSame1_any _ _ _ _ fa fc w4 (by omega) (by omega) (g1.ext (hE2.trans (kE.trans r4))) (g3.ext (hE2.trans (kE.trans r4)))).mono ?_
                  rintro e w5 ⟨rfl, r5'⟩
                  have r5 : Ext wc w5 := r4.trans r5'
                  have t1w5 := (k1.ext r5).two
                  have t2w5 := (k2.ext r5).two
                  have t3w5 := (k3.ext r5).two
                  have HW := Lib.hid (show weight (fa, fb, fc) = 12 by unfold weight; simp <;> omega)
                  go_wp2
                  go_roundw
                  case rel => exact ⟨j + 1, S + 12, by go_num, by omega, rfl, by omega, by push_cast; omega, by (show _ = _; rw [hTK.out, HW.out, hS.out]), hE2.trans (kE.trans r5)⟩
                  case measure => (simp [intOf] <;> omega)
              · have s3 : (fb.sign == 0) = false := by rw [beq_eq_false_iff_ne]; exact fun h => e3 (Int.sign_eq_zero_iff_zero.1 h)
                have HW := Lib.hid (show weight (fa, fb, fc) = 12 by unfold weight; simp <;> omega)
                go_wp2
                go_roundw
                case rel => exact ⟨j + 1, S + 12, by go_num, by omega, rfl, by omega, by push_cast; omega, by (show _ = _; rw [hTK.out, HW.out, hS.out]), hE2.trans (kE.trans r4)⟩
                case measure => (simp [intOf] <;> omega)
        · obtain rfl : j = ls.length := by omega
          go_wp2
          go_ret
          rw [List.take_of_length_le (by rw [HA.out.length]; exact Nat.le_refl _)] at hS
          exact ⟨by rw [hT.out, ← hS.out]; rfl, hE.trans hE2⟩
    · have hi : (decide (0 < n) && (decide (n % 4 = 0) || decide (n % 4 = 3))) = false := by rw [Bool.eq_false_iff]; simp; omega
      have HI := Lib.hid hi
      clear hi
      go_wp2_with fail
      refine (Is11_any n w h0 (by omega)).mono ?_
      rintro e w' ⟨rfl, rfl⟩
      rw [HI.out]
      go_wp2
      go_ret
      exact ⟨by unfold twelve; rw [if_neg hn0, if_neg hd]; rfl, Ext.refl _⟩

theorem twelve_bd {n : Int} (h0 : 0 ≤ n) (hn : n ≤ 10000) : -1 ≤ twelve n ∧ twelve n ≤ 44000 := by
  unfold twelve
  split
  · omega
  · split
    · have h1 := twelveOf_bd (accA n (kTop n 60))
      have h2 := accA_len n (kTop n 60)
      have h3 : ∀ m, m ≤ 60 → kTop n m ≤ m := by
        intro m
        induction m with
        | zero => intro _; exact Nat.le_refl _
        | succ m ih =>
          intro hm
          unfold kTop
          split
          · exact Nat.le_refl _
          · exact Nat.le_trans (ih (by omega)) (by omega)
      have h4 := h3 60 (Nat.le_refl _)
      have h5 := Nat.mul_le_mul h4 (show kTop n 60 + 1 ≤ 61 by omega)
      omega
    · omega
theorem twelve_4 : twelve 4 = 6 := by decide
theorem twelve_7 : twelve 7 = 12 := by decide
theorem twelve_8 : twelve 8 = 12 := by decide

end Go.Proofs.YtekipapkcgoieaaGreatDoor

/- R1.Parse of the digits of a number of one word. -/
namespace Go.Proofs.YtekipapkcgoieaaGreatDoor
open Go.RowKit
attribute [local go_sem ↓] Go.wp_at_zero Go.wp_at_succ
attribute [-go_sem] Go.run_index_string

/-- The number of a list of digits. -/
def vOf (l : List UInt8) : Nat := l.foldl (fun x b => 10 * x + (b.toNat - 48)) 0
theorem vOf_snoc (l : List UInt8) (b : UInt8) : vOf (l ++ [b]) = 10 * vOf l + (b.toNat - 48) := by simp [vOf]
theorem decDigits_vOf (m : Nat) : vOf (Lib.decDigits m) = m := by
  induction m using Nat.strongRecOn with
  | _ m ih =>
    rw [decDigits_step]
    split
    · rw [vOf_snoc, digit_byte _ (by omega)]; simp [vOf]; omega
    · rw [vOf_snoc, digit_byte _ (by omega), ih (m / 10) (by omega)]; omega
theorem decDigits_mem (m : Nat) : ∀ b ∈ Lib.decDigits m, 48 ≤ b.toNat ∧ b.toNat ≤ 57 := by
  induction m using Nat.strongRecOn with
  | _ m ih =>
    intro b hb
    rw [decDigits_step] at hb
    rcases List.mem_append.1 hb with hb | hb
    · split at hb
      · cases hb
      · exact ih (m / 10) (by omega) b hb
    · rw [List.mem_singleton.1 hb, digit_byte _ (by omega)]; omega
theorem decDigits_head (m : Nat) : ∃ b r, Lib.decDigits m = b :: r ∧ (b.toNat = 48 → r = []) := by
  induction m using Nat.strongRecOn with
  | _ m ih =>
    rw [decDigits_step]
    by_cases h : m < 10
    · rw [if_pos h]; exact ⟨_, [], rfl, fun _ => rfl⟩
    · rw [if_neg h]
      obtain ⟨b, r, e, hb⟩ := ih (m / 10) (by omega)
      refine ⟨b, r ++ [UInt8.ofNat (48 + m % 10)], by rw [e]; rfl, fun h48 => ?_⟩
      have hr := hb h48
      have := decDigits_vOf (m / 10)
      rw [e, hr] at this
      simp [vOf] at this
      omega
theorem vOf_le (l r : List UInt8) : vOf l ≤ vOf (l ++ r) := by
  induction r generalizing l with
  | nil => simp
  | cons b r ih =>
    have h1 := ih (l ++ [b])
    rw [vOf_snoc, List.append_assoc] at h1
    exact Nat.le_trans (by omega) h1
theorem own_set1 {w : World} {base : Nat} {e : TypeId} {g cap : Nat} {x u : Value} (h : w.ownsRow base e 1 (.slice (some ⟨g, 0, none⟩) 1 cap) 1 [x]) : (w.setCell ⟨g, 0, none⟩ u).ownsRow base e 1 (.slice (some ⟨g, 0, none⟩) 1 cap) 1 [u] := by
  rcases h.2 with ⟨h, _⟩ | ⟨g', cap', cur, e1, e2, e3, e4, e5, e6, e7⟩
  · cases h
  · injection e1 with e1 _ e1c; injection e1 with e1; injection e1 with e1; subst e1; subst e1c
    refine ⟨by simp, .inr ⟨g, cap, cur.setIfInBounds 0 u, rfl, e2, Blk.set_ e3 0 u, e4, e5, by simpa using e6, ?_⟩⟩
    have : 0 < cur.size := by omega
    obtain ⟨l⟩ := cur
    cases l with
    | nil => simp at this
    | cons y l => simp

set_option maxRecDepth 100000 in
set_option maxHeartbeats 2000000 in
theorem Parse1_any (m : Nat) (w : World) (hm : m < 4294967296) :
    Calls Tryz.prog 26 #[.string ⟨(Lib.decDigits m).toArray⟩] w fun e w' => ∃ (s : Bool) (A : Option Addr) (n c : Nat), e = .returned (.tuple #[.agg #[.bool s, .slice A n c], .int .i64 0]) ∧ IsInt w' (.bool s) (.slice A n c) (m : Int) ∧ Ext w w' := by
  obtain ⟨i0, hi, hz0, hz1, hz2⟩ := info_parts u32_info
  have hlen := decDigits_len m hm
  have hV := Lib.hid (decDigits_vOf m)
  have hM := Lib.hid (decDigits_mem m)
  obtain ⟨b0, r0, h0, hb48⟩ := decDigits_head m
  have hM0 := hM.out b0 (by rw [h0]; exact List.mem_cons_self ..)
  have hl0 : 0 < (Lib.decDigits m).length := by rw [h0]; simp
  have hl1 : b0.toNat = 48 → (Lib.decDigits m).length = 1 := fun h => by rw [h0, hb48 h]; rfl
  have hrun : ∀ (i : Nat) (hi : i < (Lib.decDigits m).length) (w' : World), (Instr.index 9 (.string ⟨(Lib.decDigits m).toArray⟩) (.int .i64 (i : Int))).run Tryz.prog w' = .ok (.int .u8 (((Lib.decDigits m)[i]).toNat : Int)) w' := by
    intro i hi w'
    rw [run_index_string w' _ _ _ _ Tryz.underlying9, dif_pos ⟨by omega, by simp [ByteArray.size]; omega⟩]
    rfl
  have hrun0 : ∀ (w' : World), (Instr.index 9 (.string ⟨(Lib.decDigits m).toArray⟩) (.int .i64 0)).run Tryz.prog w' = .ok (.int .u8 (b0.toNat : Int)) w' := by
    intro w'
    have := hrun 0 hl0 w'
    rw [show (Lib.decDigits m)[0] = b0 by simp [h0]] at this
    exact this
  have HR := Lib.hid hrun
  clear hrun h0 hb48
  generalize Lib.decDigits m = l at *
  obtain ⟨d0, hd0⟩ : ∃ d : Nat, b0.toNat = d := ⟨_, rfl⟩
  rw [hd0] at hM0 hl1 hrun0
  clear hd0
  have n1 : ((d0 : Int) == 45) = false := by rw [beq_eq_false_iff_ne]; omega
  obtain ⟨N, hN⟩ : ∃ N : Nat, l.length = N := ⟨_, rfl⟩
  have n2 : ((N : Int) == 0) = false := by rw [beq_eq_false_iff_ne]; omega
  have hsz : (⟨l.toArray⟩ : ByteArray).size = N := by rw [← hN]; simp [ByteArray.size]
  go_enter Tryz.func26, Tryz.ntmps26
  by_cases h48 : d0 = 48
  all_goals first
    | (have n3 : ((d0 : Int) == 48) = true := by rw [beq_iff_eq]; omega
       have n4 := hl1 h48
       go_wp2)
    | (have n3 : ((d0 : Int) == 48) = false := by rw [beq_eq_false_iff_ne]; omega
       go_wp2)
  all_goals
    clear hrun0 n1 hl1 hM0
    go_loopw [6, 7] (fun o i wr => ∃ (j x n : Nat) (A : Option Addr) (cp : Nat) (xs : List Value), i = .int .i64 (j : Int) ∧ j ≤ N ∧ o = .slice A n cp ∧ Hid (n = 0 ∧ x = 0 ∧ xs = [] ∨ n = 1 ∧ 0 < x ∧ xs = [.int .u32 (x : Int)]) ∧ Hid (x = vOf (l.take j)) ∧
      Hid (wr.ownsRow (w.heap.size + 1) 123 1 (.slice A n cp) n xs) ∧ Hid (Blk wr w.heap.size 37 #[.bool false, .slice none 0 0]) ∧ Ext w wr) (fun _ i _ => N - (intOf i).toNat)
    case atStart =>
      exact ⟨0, 0, 0, _, _, [], rfl, Nat.zero_le _, rfl, .inl ⟨rfl, rfl, rfl⟩, rfl, own_blk0 (Blk.newAt _ _ _ (by simp)) (by simp), (Blk.newAt _ _ _ rfl).alloc _, ((Ext.refl w).alloc _).alloc _⟩
    case round =>
      obtain ⟨j, x, n, A, cp, xs, rfl, hj, rfl, hn, hx, hown, hB, hE⟩ := hrel
      by_cases hjN : j < N
      · have hjl : j < l.length := by omega
        have hmj := hM.out _ (List.getElem_mem hjl)
        have hxm : vOf (l.take (j + 1)) ≤ m := by
          have := vOf_le (l.take (j + 1)) (l.drop (j + 1))
          rw [List.take_append_drop] at this
          have := hV.out
          omega
        have hxs : vOf (l.take (j + 1)) = 10 * x + (l[j].toNat - 48) := by rw [List.take_succ_eq_append_getElem hjl, vOf_snoc, hx.out]
        have hix := HR.out j hjl
        obtain ⟨d, hd⟩ : ∃ d : Nat, l[j].toNat = 48 + d := ⟨l[j].toNat - 48, by omega⟩
        rw [hd] at hmj hxs hix
        have hix : ∀ (w' : World), (Instr.index 9 (.string ⟨l.toArray⟩) (.int .i64 (j : Int))).run Tryz.prog w' = .ok (.int .u8 (48 + (d : Int))) w' := hix
        rw [hxs, Nat.add_sub_cancel_left] at hxm
        rw [Nat.add_sub_cancel_left] at hxs
        have HXS := Lib.hid hxs
        clear hd hxs hx
        have hdm : ((48 + (d : Int)) - 48) = d := by omega
        obtain ⟨wo, rfl⟩ : ∃ wo : World, wo = wr := ⟨_, rfl⟩
        rcases hn.out with ⟨rfl, rfl, rfl⟩ | ⟨rfl, hx0, rfl⟩
        · by_cases hd0 : d = 0
          · subst hd0
            go_wp2
            go_rounds 1
            go_roundw
            case rel => exact ⟨j + 1, 0, 0, A, cp, [], by go_num, by omega, rfl, .inl ⟨rfl, rfl, rfl⟩, (by show _ = _; rw [HXS.out]), hown.out, hB.out, hE⟩
            case measure => (simp [intOf] <;> omega)
          · have hd1 : 0 < d := by omega
            go_wp2
            refine wp_loop_rounds 1 ?_
            rw [rounds_succ]
            go_wp2_with (with_reducible refine stop_at 93 ?_)
            refine wpList_append_own _ rfl (.tmp 89) (.tmp 92) _ rfl (w.heap.size + 1) 123 i0 (.int .u32 0) 1 4 Tryz.underlying35 hi hz0 hz1 hz2 rfl (by decide) (.slice A 0 cp) 0 [] rfl (hown.out.alloc _) ⟨wo.heap.size, 0, none⟩ 1 1 [.int .u32 (d : Int)] rfl rfl (cell_one_new _ _ _) (by simp [Value.oneCell']) (by unfold maxLen; omega) (by omega) (by have := hB.out.lt; have := hE.size'; simp; omega) ?_
            intro v' w3 hown3 hgrow _
            have hE3 : Ext w w3 := (hE.alloc _).grown hgrow (fun k hk => by have := own_block hown.out k hk; omega)
            have hB3 : Blk w3 w.heap.size 37 #[.bool false, .slice none 0 0] := (hB.out.alloc _).grown hgrow (fun h => by have := own_block hown.out _ h.symm; omega)
            obtain ⟨g2, cap2, rfl⟩ := own_succ hown3
            have HO3 := Lib.hid hown3
            have HB3 := Lib.hid hB3
            clear hown3 hgrow hown hB3 hB
            go_wp2
            go_roundw
            case rel => exact ⟨j + 1, d, 1, some ⟨g2, 0, none⟩, cap2, _, by go_num, by omega, rfl, .inr ⟨rfl, hd1, rfl⟩, (by show _ = _; rw [HXS.out]; omega), HO3.out, HB3.out, hE3⟩
            case measure => (simp [intOf] <;> omega)
        · obtain ⟨g, cp', e⟩ := own_succ hown.out
          injection e with e1 e3 e2
          clear e3
          subst e1; subst e2
          have hcell : wo.cell? ⟨g, 0, none⟩ = some (.int .u32 (x : Int)) := by
            have := hown.out.cells rfl 0 _ rfl
            rwa [addr_add, Nat.zero_add] at this
          obtain ⟨y, hy, hyn⟩ : ∃ y : Nat, (d : Int) + (x : Int) * 10 = (y : Int) ∧ y = 10 * x + d := ⟨10 * x + d, by omega, rfl⟩
          have hym : y < 4294967296 := by omega
          have hyd : (y : Int) / 4294967296 = 0 := by omega
          have HYN := Lib.hid hyn
          clear hyn hxm
          have hfr : wo.frozen? ⟨g, 0, none⟩ = false := by
            rcases hown.out.2 with ⟨h, _⟩ | ⟨g', cap', cur, e1, e2, e3, _⟩
            · cases h
            · injection e1 with e1; injection e1 with e1; injection e1 with e1; subst e1
              exact Blk.frozen e3 0
          go_wp2
          refine wp_loop_rounds 2 ?_
          rw [rounds_succ]
          go_wp2
          rw [rounds_succ]
          go_wp2
          have hgb := own_block hown.out g rfl
          refine ⟨⟨j + 1, y, 1, some ⟨g, 0, none⟩, cp, [.int .u32 (y : Int)], by go_num, by omega, rfl, .inr ⟨rfl, by have := HYN.out; omega, rfl⟩, (by show _ = _; rw [HXS.out]; exact HYN.out), own_set1 hown.out, hB.out.far (p := ⟨g, 0, none⟩) (by show w.heap.size ≠ g; omega) _, hE.setCell (p := ⟨g, 0, none⟩) (by show w.heap.size ≤ g; omega) _⟩, by (simp [intOf] <;> omega)⟩
      · obtain rfl : j = N := by omega
        have hxm : x = m := by
          rw [hx.out, List.take_of_length_le (by omega), hV.out]
        have hWd : ∃ l2 : List Nat, W32 l2 ∧ nv l2 = m ∧ l2.length ≤ 1 ∧ Words wr (.slice A n cp) l2 := by
          rcases hn.out with ⟨rfl, rfl, rfl⟩ | ⟨rfl, hx0, rfl⟩
          · exact ⟨[], W32.nil, hxm, by simp, Words.of_own (base := w.heap.size + 1) hown.out⟩
          · exact ⟨[x], W32.cons (by omega) W32.nil, by simp [nv, hxm], by simp, Words.of_own (base := w.heap.size + 1) hown.out⟩
        obtain ⟨l2, k1, k2, k3, k4⟩ := hWd
        have hC := made_any false _ l2 wr k1 (by omega) k4
        rw [k2] at hC
        clear hown hx hxm k4 hn
        go_wp2_with fail
        refine hC.mono ?_
        rintro e w2 ⟨s2, A2, n2, c2, rfl, hm2, he2⟩
        have hq := (hB.out.ext he2).two
        go_wp2
        refine bodyPost_ret (v := .tuple #[.agg #[.bool s2, .slice A2 n2 c2], .int .i64 0]) (by simp [results, Tryz.results26, go_sem, hq]) rfl ?_
        exact ⟨_, _, _, _, rfl, hm2.set2 (hB.out.ext he2).type (by decide) _ _, (hE.trans he2).set2 (Nat.le_refl _) _ _⟩

end Go.Proofs.YtekipapkcgoieaaGreatDoor

/- The program's integers as texts: numbers below 10^9 (one chunk). -/
namespace Go.Proofs.YtekipapkcgoieaaGreatDoor
open Go.RowKit
attribute [local go_sem ↓] Go.wp_at_zero Go.wp_at_succ

/-- The table that strconv.Itoa reads. -/
def Tab (w : World) : Prop := Lib.TabIs Tryz.prog w "internal/strconv.uint64pow10" .u64 Lib.pow10Tab
theorem Tab.ext {w w' : World} (h : Tab w) (hb : Ext w w') : Tab w' := by
  unfold Tab Lib.TabIs World.var? at h ⊢
  cases hg : Tryz.prog.globalNamed "internal/strconv.uint64pow10" with
  | none => rw [hg] at h; cases h
  | some g =>
    rw [hg] at h
    simp only [Option.bind_some] at h ⊢
    have hlt : g < w.heap.size := by
      rcases Nat.lt_or_ge g w.heap.size with h' | h'
      · exact h'
      · rw [Array.getElem?_eq_none h'] at h; cases h
    rw [hb.block g hlt]
    exact h
theorem itoa_ext (m : Nat) (hm : m < 4294967296) (w : World) (ht : Tab w) :
    Calls Tryz.prog 91 #[.int .i64 (m : Int)] w fun e w' => e = .returned (.string ⟨(Lib.decDigits m).toArray⟩) ∧ Ext w w' := by
  refine (Tryz.strconv_Itoa (m : Int) (by omega) (by omega) w ht).mono ?_
  rintro e w' ⟨he, k, os, rfl⟩
  rw [Lib.itoa_nonneg] at he
  cases e <;> exact ⟨he, Lib.below_grow _ w (Nat.le_refl _) k os⟩

set_option maxHeartbeats 400000 in
theorem Reverse1_any (g c : Nat) (w : World) :
    Calls Tryz.prog 93 #[.slice (some ⟨g, 0, none⟩) 1 c] w fun e w' => e = .returned (.tuple #[]) ∧ w = w' := by
  go_enter Tryz.func93, Tryz.ntmps93
  go_wp2
  go_rounds 1
  refine bodyPost_end (v := .tuple #[]) ?_ rfl ?_
  · simp [results, Tryz.results93, go_sem]
  · exact ⟨rfl, rfl⟩
set_option maxHeartbeats 400000 in
theorem Join1_any (g c : Nat) (s : ByteArray) (w : World) (h : w.cell? ⟨g, 0, none⟩ = some (.string s)) :
    Calls Tryz.prog 94 #[.slice (some ⟨g, 0, none⟩) 1 c, .string ⟨#[]⟩] w fun e w' => e = .returned (.string s) ∧ w = w' := by
  go_enter Tryz.func94, Tryz.ntmps94
  go_wp2
  go_ret
  exact ⟨rfl, rfl⟩

theorem str_info : (Tryz.prog.info? 9).map (fun i => (i.zero, i.size, i.bytes)) = some (some (.string ByteArray.empty), 1, 16) := by kernel_rfl

set_option maxRecDepth 100000 in
set_option maxHeartbeats 2000000 in
theorem TextP_pos (b1 v1 : Value) (m : Nat) (w : World) (h0 : 0 < m) (hm : m < 1000000000) (ht : Tab w) (h1 : IsInt w b1 v1 (m : Int)) :
    Calls Tryz.prog 44 #[.agg #[b1, v1]] w fun e w' => e = .returned (.tuple #[.string ⟨(Lib.decDigits m).toArray⟩, .int .i64 0]) ∧ Ext w w' := by
  obtain ⟨i0, hi, hz0, hz1, hz2⟩ := info_parts str_info
  obtain ⟨s, A, n, c, rfl, rfl, es, en, hN⟩ := h1.form
  have hw := wordsOf_one (m := (m : Int).natAbs) (by omega) (by omega)
  rw [Int.natAbs_natCast] at hw
  unfold IsNat at hN
  rw [Int.natAbs_natCast, hw] at hN
  rw [Int.natAbs_natCast, hw] at en
  obtain rfl : n = 1 := en
  obtain rfl : s = false := by rw [es]; simp
  have HN := Lib.hid hN
  have hl := decDigits_len m (by omega)
  have hsz : (⟨(Lib.decDigits m).toArray⟩ : ByteArray).size = (Lib.decDigits m).length := by simp [ByteArray.size]
  have hsl : (Lib.decDigits m).length ≤ 1300 := by omega
  have hC : ∀ w', Ext w w' → Calls Tryz.prog 90 #[.slice A 1 c, .int .u32 1000000000] w' (RDivW w' 0 m) := by
    intro w' h
    have h2 := divWord_any (.slice A 1 c) [m] 1000000000 w' (W32.cons (by omega) W32.nil) (by simp) (by omega) (by omega) (HN.out.ext h)
    have e1 : nv [m] / 1000000000 = 0 := by simp [nv]; omega
    have e2 : nv [m] % 1000000000 = m := by simp [nv]; omega
    rw [e1, e2] at h2
    exact h2
  have HC := Lib.hid hC
  have HT := Lib.hid ht
  clear h1 hN hw es hC ht
  go_enter Tryz.func44, Tryz.ntmps44
  go_wp2_with fail
  obtain ⟨W, hW⟩ : ∃ W : World, W = w.alloc (.cells #[.bool false, .slice A 1 c] 37) := ⟨_, rfl⟩
  rw [← hW]
  have hE : Ext w W := by rw [hW]; exact (Ext.refl w).alloc _
  have hB1 : Blk W (w.heap.size) 37 #[.bool false, .slice A 1 c] := by rw [hW]; exact Blk.newAt _ _ _ (by simp)
  clear hW
  have HK : Hid (∀ w', Ext W w' → Ext w w' ∧ w'.cell? ⟨w.heap.size, 0, none⟩ = some (.bool false) ∧ w'.cell? ⟨w.heap.size, 1, none⟩ = some (.slice A 1 c)) := fun w' h => ⟨hE.trans h, (hB1.ext h).cell 0, (hB1.ext h).cell 1⟩
  refine wp_loop_rounds 2 ?_
  rw [rounds_succ]
  go_wp2_with fail
  refine (HC.out _ hE).mono ?_
  rintro e w1 ⟨A1, n1, c1, rfl, hq1, hE1⟩
  have hn1 : n1 = 0 := hq1.len
  subst hn1
  have hW1 : Ext w w1 := hE.trans hE1
  clear hq1
  go_wp2_with fail
  refine (itoa_ext m (by omega) w1 (HT.out.ext hW1)).mono ?_
  rintro e w2 ⟨rfl, hE2⟩
  go_wp2_with (with_reducible refine stop_at 43 ?_)
  refine wpList_append_own _ rfl (.tmp 40) (.tmp 42) _ rfl w2.heap.size 9 i0 (.string ByteArray.empty) 1 16 Tryz.underlying46 hi hz0 hz1 hz2 rfl (by decide) (.slice none 0 0) 0 [] rfl (World.ownsRow_nil _ _ _ _) ⟨w2.heap.size, 0, none⟩ 1 1 [.string ⟨(Lib.decDigits m).toArray⟩] rfl rfl (cell_one_new _ _ _) (by simp [Value.oneCell']) (by unfold maxLen; omega) (by omega) (by simp) ?_
  intro v' w3 hown3 hgrow _
  have hE3 : Ext w2 w3 := ((Ext.refl w2).alloc _).grown hgrow (fun k hk => by cases hk)
  obtain ⟨g, cap, rfl⟩ := own_succ hown3
  have hcell : w3.cell? ⟨g, 0, none⟩ = some (.string ⟨(Lib.decDigits m).toArray⟩) := by
    have := hown3.cells rfl 0 _ rfl
    rwa [addr_add, Nat.zero_add] at this
  have q1 := HK.out w3 ((hE1.trans hE2).trans hE3)
  clear hown3 hgrow
  go_wp2
  rw [rounds_succ]
  go_wp2_with fail
  refine (Reverse1_any g cap w3).mono ?_
  rintro e w' ⟨rfl, rfl⟩
  go_wp2_with fail
  refine (Join1_any g cap _ w3 hcell).mono ?_
  rintro e w' ⟨rfl, rfl⟩
  go_wp2
  go_ret2
  exact ⟨rfl, hW1.trans (hE2.trans hE3)⟩

set_option maxHeartbeats 400000 in
theorem TextP_zero (b1 v1 : Value) (w : World) (h1 : IsInt w b1 v1 0) :
    Calls Tryz.prog 44 #[.agg #[b1, v1]] w fun e w' => e = .returned (.tuple #[.string ⟨(Lib.decDigits 0).toArray⟩, .int .i64 0]) ∧ Ext w w' := by
  obtain ⟨s, A, n, c, rfl, rfl, es, en, hN⟩ := h1.form
  obtain rfl : n = 0 := en
  clear h1 hN es
  go_enter Tryz.func44, Tryz.ntmps44
  go_wp2
  go_ret2
  exact ⟨by rw [Lib.decDigits_one (by omega)]; rfl, (Ext.refl w).alloc _⟩

theorem TextP_any (b1 v1 : Value) (m : Nat) (w : World) (hm : m < 1000000000) (ht : Tab w) (h1 : IsInt w b1 v1 (m : Int)) :
    Calls Tryz.prog 44 #[.agg #[b1, v1]] w fun e w' => e = .returned (.tuple #[.string ⟨(Lib.decDigits m).toArray⟩, .int .i64 0]) ∧ Ext w w' := by
  rcases Nat.eq_zero_or_pos m with rfl | h
  · exact TextP_zero _ _ w h1
  · exact TextP_pos _ _ m w h hm ht h1

end Go.Proofs.YtekipapkcgoieaaGreatDoor

/- Parts and audits in memory; R38.Total. -/
namespace Go.Proofs.YtekipapkcgoieaaGreatDoor
open Go.RowKit
attribute [local go_sem ↓] Go.wp_at_zero Go.wp_at_succ

/-! Totals. -/
def totAt (n d : Int) : Int := if n % d = 0 then 2 * d - min d (n / d) else 0
def tot (n : Int) : Nat → Int
  | 0 => 0
  | k + 1 => tot n k + totAt n ((k : Int) + 1)
theorem totAt_bd {n d : Int} (hn : 1 ≤ n) (hd : 1 ≤ d) : 0 ≤ totAt n d ∧ totAt n d ≤ 2 * d := by
  have h := Int.ediv_nonneg (a := n) (b := d) (by omega) (by omega)
  unfold totAt
  split <;> omega
theorem tot_bd {n : Int} (hn : 1 ≤ n) : ∀ k : Nat, k ≤ 1024 → 0 ≤ tot n k ∧ tot n k ≤ 2048 * k
  | 0, _ => by simp [tot]
  | k + 1, h => by
    have h1 := tot_bd hn k (by omega)
    have h2 := totAt_bd hn (show 1 ≤ (k : Int) + 1 by omega)
    simp only [tot]
    push_cast
    omega

set_option maxHeartbeats 1000000 in
theorem Total38_any (n : Nat) (w : World) (h0 : 1 ≤ n) (h1 : n ≤ 1024) :
    Calls Tryz.prog 66 #[.int .i64 (n : Int)] w fun e w' => e = .returned (.int .i64 (tot n n)) ∧ w = w' := by
  go_enter Tryz.func66, Tryz.ntmps66
  go_wp2
  go_loop [3, 4] (fun s d => ∃ (k : Nat) (S : Int), k ≤ n ∧ d = .int .i64 ((k : Int) + 1) ∧ s = .int .i64 S ∧ 0 ≤ S ∧ S ≤ 2048 * k ∧ Hid (S = tot n k)) (fun _ d => n + 1 - (intOf d).toNat)
  case atStart => exact ⟨0, 0, Nat.zero_le _, rfl, rfl, by omega, by omega, rfl⟩
  case round =>
    obtain ⟨k, S, hk, rfl, rfl, hS0, hS1, hS⟩ := hrel
    by_cases hkn : k < n
    · have hb := tot_bd (n := (n : Int)) (by omega) (k + 1) (by omega)
      have hT := Lib.hid (show tot n (k + 1) = tot n k + totAt n ((k : Int) + 1) from rfl)
      rw [show tot n (k + 1) = S + totAt n ((k : Int) + 1) by rw [hT.out, hS.out]] at hb
      obtain ⟨q, hq, hq0, hq1⟩ : ∃ q : Int, (n : Int) / ((k : Int) + 1) = q ∧ 0 ≤ q ∧ q ≤ 1024 := ⟨_, rfl, Int.ediv_nonneg (by omega) (by omega), Int.le_trans (Int.ediv_le_self _ (by omega)) (by omega)⟩
      obtain ⟨r, hr, hr0⟩ : ∃ r : Int, (n : Int) % ((k : Int) + 1) = r ∧ 0 ≤ r := ⟨_, rfl, Int.emod_nonneg _ (by omega)⟩
      have hr1 : r < (k : Int) + 1 := by rw [← hr]; exact Int.emod_lt_of_pos _ (by omega)
      have hq2 : (n : Int).tdiv ((k : Int) + 1) = q := by rw [Int.tdiv_eq_ediv_of_nonneg (by omega)]; exact hq
      have hr2 : (n : Int).tmod ((k : Int) + 1) = r := by rw [Int.tmod_eq_emod_of_nonneg (by omega)]; exact hr
      have hz4 : (((k : Int) + 1 : Int) == 0) = false := by rw [beq_eq_false_iff_ne]; omega
      have HA := Lib.hid (show totAt n ((k : Int) + 1) = if r = 0 then 2 * ((k : Int) + 1) - min ((k : Int) + 1) q else 0 by unfold totAt; rw [hq, hr])
      rw [HA.out] at hb
      have HB := Lib.hid hb
      clear hb
      by_cases hr00 : r = 0
      · subst hr00
        have hb := HB.out
        rw [if_pos rfl] at hb
        go_wp2
        refine ⟨⟨k + 1, tot n (k + 1), by omega, by go_num, ?_, by rw [hT.out, HA.out, if_pos rfl, ← hS.out]; exact hb.1, by rw [hT.out, HA.out, if_pos rfl, ← hS.out]; exact hb.2, rfl⟩, by (simp [intOf] <;> omega)⟩
        congr 1
        rw [hT.out, HA.out, if_pos rfl, ← hS.out]
        all_goals (split <;> omega)
      · have hr3 : (r == 0) = false := by rw [beq_eq_false_iff_ne]; exact hr00
        go_wp2
        go_round
        case rel => exact ⟨k + 1, S, by omega, by go_num, rfl, by omega, by push_cast; omega, by (show _ = _; rw [hT.out, HA.out, if_neg hr00, hS.out]; omega)⟩
        case measure => (simp [intOf] <;> omega)
    · obtain rfl : k = n := by omega
      go_wp2
      go_ret
      exact ⟨by rw [← hS.out]; rfl, rfl⟩

/-! Parts and audits. -/
structure PartD where
  name : List UInt8
  at_ : Int
  c : Rat
  is : Bool
  v : Int
/-- The nine cells of a part. -/
def IsPart (w : World) (l : List Value) (p : PartD) : Prop := ∃ s1 v1 s2 v2 s3 v3 : Value, l = [.string ⟨p.name.toArray⟩, .int .i64 p.at_, s1, v1, s2, v2, .bool p.is, s3, v3] ∧ IsRat w s1 v1 s2 v2 p.c ∧ IsInt w s3 v3 p.v
theorem IsPart.keep {w w' : World} {l : List Value} {p : PartD} (h : IsPart w l p) (k : KeepT [123] w w') : IsPart w' l p := by
  obtain ⟨s1, v1, s2, v2, s3, v3, e, h1, h2⟩ := h
  exact ⟨s1, v1, s2, v2, s3, v3, e, h1.keep k, h2.keep k⟩
theorem IsPart.ext {w w' : World} {l : List Value} {p : PartD} (h : IsPart w l p) (k : Ext w w') : IsPart w' l p := h.keep (KeepT.ext k)
theorem IsPart.len {w : World} {l : List Value} {p : PartD} (h : IsPart w l p) : l.length = 9 := by
  obtain ⟨s1, v1, s2, v2, s3, v3, rfl, _⟩ := h; rfl
theorem IsPart.one {w : World} {l : List Value} {p : PartD} (h : IsPart w l p) : ∀ u ∈ l, u.oneCell' = true := by
  obtain ⟨s1, v1, s2, v2, s3, v3, rfl, h1, h3⟩ := h
  obtain ⟨_, _, _, _, _, _, _, _, rfl, rfl, rfl, rfl⟩ := h1.form
  obtain ⟨_, _, _, _, rfl, rfl, -, -, -⟩ := h3.form
  intro u hu
  simp at hu
  rcases hu with rfl | rfl | rfl | rfl | rfl | rfl | rfl | rfl | rfl <;> rfl
/-- The parts of a list that is being made. -/
def OwnParts (base : Nat) (w : World) (v : Value) (ps : List PartD) : Prop :=
  ∃ ls : List (List Value), w.ownsRow base 45 9 v ls.length ls.flatten ∧ All2 (IsPart w) ls ps
theorem OwnParts.shape {base : Nat} {w : World} {v : Value} {ps : List PartD} (h : OwnParts base w v ps) : ∃ A c, v = .slice A ps.length c := by
  obtain ⟨ls, h1, h2⟩ := h
  rw [← h2.length]
  rcases h1.2 with ⟨rfl, h⟩ | ⟨g, cap, cur, rfl, _⟩
  · rw [h]; exact ⟨none, 0, rfl⟩
  · exact ⟨_, _, rfl⟩
def IsParts (w : World) (v : Value) (ps : List PartD) : Prop := ∃ ls, RowsOf 45 9 w v ls ∧ All2 (IsPart w) ls ps
theorem IsParts.keep {w w' : World} {v : Value} {ps : List PartD} (h : IsParts w v ps) (k : KeepT [45, 123] w w') : IsParts w' v ps := by
  obtain ⟨ls, h1, h2⟩ := h
  exact ⟨ls, h1.keep k (by decide), h2.mono fun a b h => h.keep (k.mono (by decide))⟩
theorem IsParts.ext {w w' : World} {v : Value} {ps : List PartD} (h : IsParts w v ps) (k : Ext w w') : IsParts w' v ps := h.keep (KeepT.ext k)
theorem OwnParts.is {base : Nat} {w : World} {v : Value} {ps : List PartD} (h : OwnParts base w v ps) : IsParts w v ps := by
  obtain ⟨ls, h1, h2⟩ := h
  exact ⟨ls, RowsOf.of_own (all2_mem (fun a b hab => ⟨IsPart.len hab, IsPart.one hab⟩) h2) h1, h2⟩
theorem part_info : (Tryz.prog.info? 45).map (fun i => (i.zero.map (·.cells.size), i.size, i.bytes)) = some (some 9, 9, 128) := by kernel_rfl
theorem IsParts.shape {w : World} {v : Value} {ps : List PartD} (h : IsParts w v ps) : ∃ A c, v = .slice A ps.length c := by
  obtain ⟨ls, h1, h2⟩ := h
  rw [← h2.length]
  exact h1.shape
theorem IsParts.nil (w : World) : IsParts w (.slice none 0 0) [] := ⟨[], RowsOf.nil _ _ _, trivial⟩
theorem Blk.five {w : World} {g : Nat} {t : TypeId} {x y z u v : Value} (h : Blk w g t #[x, y, z, u, v]) :
    w.cell? ⟨g, 0, none⟩ = some x ∧ w.cell? ⟨g, 1, none⟩ = some y ∧ w.cell? ⟨g, 2, none⟩ = some z ∧ w.cell? ⟨g, 3, none⟩ = some u ∧ w.cell? ⟨g, 4, none⟩ = some v ∧
      w.frozen? ⟨g, 0, none⟩ = false ∧ w.frozen? ⟨g, 1, none⟩ = false ∧ w.frozen? ⟨g, 2, none⟩ = false ∧ w.frozen? ⟨g, 3, none⟩ = false ∧ w.frozen? ⟨g, 4, none⟩ = false :=
  ⟨h.cell 0, h.cell 1, h.cell 2, h.cell 3, h.cell 4, h.frozen 0, h.frozen 1, h.frozen 2, h.frozen 3, h.frozen 4⟩

theorem Ext.set5 {a b : World} (h : Ext a b) {k : Nat} (hk : a.heap.size ≤ k) (u v x y z : Value) : Ext a (((((b.setCell ⟨k, 0, none⟩ u).setCell ⟨k, 1, none⟩ v).setCell ⟨k, 2, none⟩ x).setCell ⟨k, 3, none⟩ y).setCell ⟨k, 4, none⟩ z) :=
  ((((h.setCell (p := ⟨k, 0, none⟩) hk u).setCell (p := ⟨k, 1, none⟩) hk v).setCell (p := ⟨k, 2, none⟩) hk x).setCell (p := ⟨k, 3, none⟩) hk y).setCell (p := ⟨k, 4, none⟩) hk z
theorem KeepT.set5 {ts : List TypeId} {a b : World} (h : KeepT ts a b) {k : Nat} {t : TypeId} (hk : TypeAt b k t) (ht : t ∉ ts) (u v x y z : Value) : KeepT ts a (((((b.setCell ⟨k, 0, none⟩ u).setCell ⟨k, 1, none⟩ v).setCell ⟨k, 2, none⟩ x).setCell ⟨k, 3, none⟩ y).setCell ⟨k, 4, none⟩ z) := by
  have t1 := hk.setCell ⟨k, 0, none⟩ u
  have t2 := t1.setCell ⟨k, 1, none⟩ v
  have t3 := t2.setCell ⟨k, 2, none⟩ x
  have t4 := t3.setCell ⟨k, 3, none⟩ y
  exact ((((h.set (p := ⟨k, 0, none⟩) hk ht u).set (p := ⟨k, 1, none⟩) t1 ht v).set (p := ⟨k, 2, none⟩) t2 ht x).set (p := ⟨k, 3, none⟩) t3 ht y).set (p := ⟨k, 4, none⟩) t4 ht z

/-! The reference's parts of an audit. -/
def cnt (N m n2 : Int) : Nat → Nat
  | 0 => 0
  | j + 1 => cnt N m n2 j + (if m = N - ((j : Int) - n2) * ((j : Int) - n2) then 1 else 0)
theorem cnt_le (N m n2 : Int) : ∀ j, cnt N m n2 j ≤ j
  | 0 => Nat.le_refl _
  | j + 1 => by
    have := cnt_le N m n2 j
    simp only [cnt]
    split <;> omega
def partM (n m : Nat) : Option PartD := if 0 < cnt (4 * n) m (2 * n) (4 * n + 1) then some ⟨nameOf m, 0, mkRat (cnt (4 * n) m (2 * n) (4 * n + 1)) 12, false, 0⟩ else none
def partsR (n j : Nat) : List PartD := (List.range j).filterMap (partM n)
theorem partsR_succ (n j : Nat) : partsR n (j + 1) = partsR n j ++ (partM n j).toList := by
  unfold partsR
  rw [List.range_succ, List.filterMap_append]
  cases h : partM n j <;> simp [h]
theorem partsR_len (n j : Nat) : (partsR n j).length ≤ j := by
  induction j with
  | zero => simp [partsR]
  | succ j ih =>
    rw [partsR_succ, List.length_append]
    cases partM n j <;> simp <;> omega

end Go.Proofs.YtekipapkcgoieaaGreatDoor
