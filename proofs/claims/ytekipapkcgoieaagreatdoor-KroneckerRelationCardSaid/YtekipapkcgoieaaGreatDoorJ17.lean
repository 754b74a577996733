/-
  kronecker.known, and the function that it returns: what it yields, and what it puts into the map.
  The function that kronecker.known returns.
  Names in order, each once: the reference's and the program's lists of missing names.
  A range over a function that itself writes to memory: a step of the statement, and a step of a round.
  kronecker.Sum.
  kronecker.Holds, R38.Holds.
  R38.Parts: the shelf of an audit's entries.
-/
import Derived.Test.YtekipapkcgoieaaGreatDoorJ16d
import Derived.Test.YtekipapkcgoieaaGreatDoorJ15
import Derived.RangeFuncNested
import Derived.RangeFuncBound
import Derived.RangeFuncCalls
import Derived.RangeFuncLeaves
import Derived.Shelf.Abstract
import Derived.Shelf.RegionOpen
import Derived.OwnWalkIn
import Derived.TacticsInMore
import Derived.LoopNIn
import Derived.LoopIn
import Derived.Maps.OwnIn
import Derived.Sort.CutIn
import Derived.Sort.KeysCollected
import Derived.Test.YtekipapkcgoieaaGreatDoorShelf
import Derived.Test.YtekipapkcgoieaaGreatDoorJ16c
import Derived.Test.YtekipapkcgoieaaGreatDoorJ10
import Derived.Test.YtekipapkcgoieaaGreatDoorJ11
import Derived.Test.YtekipapkcgoieaaGreatDoorJ08
import Derived.Deep.RegionLaw
set_option linter.unusedVariables false
set_option linter.unusedSimpArgs false

/- kronecker.known, and the function that it returns: what it yields, and what it puts into the map. -/
namespace Go.Proofs.YtekipapkcgoieaaGreatDoor
open Go.RowKit Go.Maps
attribute [local go_sem ↓] Go.wp_at_zero Go.wp_at_succ
attribute [local go_sem] Oper.semAt_some

/-- All but some blocks are as they were. -/
structure Beside (bs : List Nat) (w w' : World) : Prop where
  os : w'.os = w.os
  tape : w'.tape = w.tape
  output : w'.output = w.output
  size : w.heap.size ≤ w'.heap.size
  block : ∀ k, k < w.heap.size → k ∉ bs → w'.heap[k]? = w.heap[k]?
theorem Beside.trans {bs : List Nat} {a b c : World} (h : Beside bs a b) (k : Beside bs b c) : Beside bs a c :=
  ⟨k.os.trans h.os, k.tape.trans h.tape, k.output.trans h.output, Nat.le_trans h.size k.size, fun i hi hn => (k.block i (Nat.lt_of_lt_of_le hi h.size) hn).trans (h.block i hi hn)⟩
theorem Beside.of_ext {bs : List Nat} {a b : World} (h : Ext a b) : Beside bs a b := ⟨h.os, h.tape, h.output, h.size, fun i hi _ => h.block i hi⟩
theorem Beside.of_grown {bs : List Nat} {a b : World} {row : Option Nat} (h : a.grownBy b row) (hr : ∀ k, row = some k → k ∈ bs) : Beside bs a b :=
  ⟨h.os, h.tape, h.output, h.size, fun i hi hn => h.block i hi fun e => hn (hr i e.symm)⟩
theorem Beside.mono {bs cs : List Nat} {a b : World} (h : Beside bs a b) (k : ∀ x ∈ bs, x ∈ cs) : Beside cs a b := ⟨h.os, h.tape, h.output, h.size, fun i hi hn => h.block i hi fun e => hn (k i e)⟩
theorem Ext.beside {bs : List Nat} {w a b : World} (h : Ext w a) (k : Beside bs a b) (hb : ∀ x ∈ bs, w.heap.size ≤ x) : Ext w b :=
  ⟨k.os.trans h.os, k.tape.trans h.tape, k.output.trans h.output, Nat.le_trans h.size k.size, fun i hi => (k.block i (Nat.lt_of_lt_of_le hi h.size) fun e => by have := hb i e; omega).trans (h.block i hi)⟩
theorem Blk.beside {bs : List Nat} {a b : World} {g : Nat} {t : TypeId} {cs : Array Value} (h : Blk a g t cs) (k : Beside bs a b) (hb : g ∉ bs) : Blk b g t cs := (k.block g h.lt hb).trans h
theorem KeepT.beside {ts : List TypeId} {bs : List Nat} {a b : World} (k : Beside bs a b) (hb : ∀ x ∈ bs, ∀ cs t fz, a.heap[x]? = some (.cells cs t fz) → t ∉ ts) : KeepT ts a b :=
  ⟨k.size, fun g cs t fz hg ht => (k.block g (block_lt hg) fun e => hb g e cs t fz hg ht).trans hg⟩

/-! The names that are missing. -/
def missK (hs : List HeldD) (g : List Int) (ps : List PartD) : List (List UInt8) := (ps.filter fun p => !(partVal (best hs p.name g) p).isSome).map PartD.name
theorem missK_succ (hs : List HeldD) (g : List Int) (ps : List PartD) (k : Nat) (hk : k < ps.length) : missK hs g (ps.take (k + 1)) = missK hs g (ps.take k) ++ if (partVal (best hs ps[k].name g) ps[k]).isSome then [] else [ps[k].name] := by
  unfold missK
  rw [filter_snoc _ _ _ hk, List.map_append]
  congr 1
  split <;> simp_all
def missD {H : Type} (ms : List (List UInt8)) : DataW H := setOf (.lit (.bool true)) (ms.map Lit.string)
theorem missD_snoc {H : Type} (ms : List (List UInt8)) (x : List UInt8) : missD (H := H) (ms ++ [x]) = (missD ms).put (.string x) (.lit (.bool true)) := by
  unfold missD
  rw [List.map_append, List.map_singleton, setOf_snoc]
/-- The map of the missing names. -/
def OwnMiss (w : World) (mb n : Nat) (ms : List (List UInt8)) : Prop := w.ownsMap Tryz.prog 9 (plainElem (H := Unit) Tryz.prog 4) mb n (missD ms)
theorem OwnMiss.beside {bs : List Nat} {a b : World} {mb n : Nat} {ms : List (List UInt8)} (h : OwnMiss a mb n ms) (k : Beside bs a b) (hb : mb ∉ bs) : OwnMiss b mb n ms := by
  obtain ⟨es, clock, h1, h2⟩ := h
  exact ⟨es, clock, (k.block mb (block_lt h1) hb).trans h1, h2⟩
theorem OwnMiss.ext {a b : World} {mb n : Nat} {ms : List (List UInt8)} (h : OwnMiss a mb n ms) (k : Ext a b) : OwnMiss b mb n ms := h.beside (bs := []) (Beside.of_ext k) (by simp)

/-! known. -/
set_option maxRecDepth 100000 in
set_option maxHeartbeats 1000000 in
theorem known_any (av a1 a2 a3 a4 sv gv : Value) (mb : Nat) (w : World) (h1 : ∃ A n c, av = .slice A n c) (h2 : ∃ q, IsRat w a1 a2 a3 a4 q) (h3 : ∃ A n c, sv = .slice A n c) (h4 : ∃ A n c, gv = .slice A n c) :
    Calls Tryz.prog 35 #[.agg #[av, a1, a2, a3, a4], .agg #[sv], gv, .map (some mb)] w fun e w' => ∃ b : Nat, e = .returned (.func (.func 74) #[] #[.pointer (some ⟨b, 0, none⟩), .pointer (some ⟨b + 1, 0, none⟩), .pointer (some ⟨b + 1 + 1, 0, none⟩), .pointer (some ⟨b + 1 + 1 + 1, 0, none⟩)]) ∧
      w.heap.size = b ∧ Blk w' b 41 #[av, a1, a2, a3, a4] ∧ Blk w' (b + 1) 30 #[sv] ∧ Blk w' (b + 1 + 1) 32 #[gv] ∧ Blk w' (b + 1 + 1 + 1) 111 #[.map (some mb)] ∧ Ext w w' := by
  obtain ⟨A1, n1, c1, rfl⟩ := h1
  obtain ⟨q, h2⟩ := h2
  obtain ⟨s1, A2, n2, c2, s2, A3, n3, c3, rfl, rfl, rfl, rfl⟩ := h2.form
  obtain ⟨A4, n4, c4, rfl⟩ := h3
  obtain ⟨A5, n5, c5, rfl⟩ := h4
  clear h2
  go_enter Tryz.func35, Tryz.ntmps35
  go_wp2
  go_ret
  refine ⟨_, rfl, rfl, ?_, ?_, ?_, ?_, ((((Ext.refl w).alloc _).alloc _).alloc _).alloc _⟩
  · exact (((Blk.newAt _ _ _ rfl).alloc _).alloc _).alloc _
  · exact ((Blk.newAt _ _ _ (by simp)).alloc _).alloc _
  · exact (Blk.newAt _ _ _ (by simp)).alloc _
  · exact Blk.newAt _ _ _ (by simp)

end Go.Proofs.YtekipapkcgoieaaGreatDoor

/- The function that kronecker.known returns. -/
namespace Go.Proofs.YtekipapkcgoieaaGreatDoor
open Go.RowKit Go.Maps
attribute [local go_sem ↓] Go.wp_at_zero Go.wp_at_succ
attribute [local go_sem] Oper.semAt_some

theorem key_name (l : List UInt8) (h : l.length ≤ 1000) : keyOf Tryz.prog 9 (.string ⟨l.toArray⟩) = some (.string l) := by
  have h2 : l.length ≤ maxLen := by unfold maxLen; omega
  simp [keyOf, mapKey, Tryz.underlying9, ByteArray.size, h2]
theorem OwnMiss.map {w : World} {mb n : Nat} {ms : List (List UInt8)} (h : OwnMiss w mb n ms) : ∃ es clock, w.heap[mb]? = some (.map es clock) := by
  obtain ⟨es, clock, h1, _⟩ := h; exact ⟨es, clock, h1⟩
theorem OwnMiss.mono {w : World} {mb n m : Nat} {ms : List (List UInt8)} (h : OwnMiss w mb n ms) (k : n ≤ m) : OwnMiss w mb m ms := World.ownsMap.mono h k
/-- What stands still while the iterator runs: what it has captured. -/
structure KnownAt (wr : World) (b1 b2 b3 b4 mb : Nat) (av a1 a2 a3 a4 sv gv : Value) : Prop where
  audit : Blk wr b1 41 #[av, a1, a2, a3, a4]
  shelf : Blk wr b2 30 #[sv]
  granted : Blk wr b3 32 #[gv]
  map : Blk wr b4 111 #[.map (some mb)]
theorem KnownAt.beside {bs : List Nat} {a b : World} {b1 b2 b3 b4 mb : Nat} {av a1 a2 a3 a4 sv gv : Value} (h : KnownAt a b1 b2 b3 b4 mb av a1 a2 a3 a4 sv gv) (k : Beside bs a b) (hb : b1 ∉ bs ∧ b2 ∉ bs ∧ b3 ∉ bs ∧ b4 ∉ bs) : KnownAt b b1 b2 b3 b4 mb av a1 a2 a3 a4 sv gv :=
  ⟨h.audit.beside k hb.1, h.shelf.beside k hb.2.1, h.granted.beside k hb.2.2.1, h.map.beside k hb.2.2.2⟩
theorem KnownAt.ext {a b : World} {b1 b2 b3 b4 mb : Nat} {av a1 a2 a3 a4 sv gv : Value} (h : KnownAt a b1 b2 b3 b4 mb av a1 a2 a3 a4 sv gv) (k : Ext a b) : KnownAt b b1 b2 b3 b4 mb av a1 a2 a3 a4 sv gv := h.beside (bs := []) (Beside.of_ext k) (by simp)

set_option maxRecDepth 100000 in
set_option maxHeartbeats 4000000 in
theorem known1_in (n l b1 b2 b3 b4 mb : Nat) (bs : List Nat) (av a1 a2 a3 a4 sv gv : Value) (ps : List PartD) (hs : List HeldD) (g : List Int) (w : World) (J : Nat → World → Prop)
    (hpl : ps.length ≤ 5000) (hlen : hs.length ≤ 100000) (hgl : g.length ≤ 100000000) (hok : ∀ h ∈ hs, HeldOk h) (hp : ∀ p ∈ ps, PartTw p) (hnl : ∀ p ∈ ps, p.name.length ≤ 1000)
    (h0 : IsParts w av ps) (h3 : IsShelf w sv hs) (h4 : IsNums w gv g)
    (hbs : ∀ x ∈ bs, w.heap.size ≤ x) (hmb : w.heap.size ≤ mb) (hb : b1 ∉ bs ∧ b2 ∉ bs ∧ b3 ∉ bs ∧ b4 ∉ bs) (hmbs : mb ∉ bs) (hne : b1 ≠ mb ∧ b2 ≠ mb ∧ b3 ≠ mb ∧ b4 ≠ mb)
    (hJ1 : ∀ k W W', J k W → Ext W W' → J k W') (hJ2 : ∀ k W W', J k W → (∃ es clock, W.heap[mb]? = some (.map es clock)) → W.grownBy W' (some mb) → J k W')
    (hJ3 : ∀ k (hk : k < ps.length) W, partVal (best hs ps[k].name g) ps[k] = none → J k W → J (k + 1) W)
    (hY : ∀ k (hk : k < ps.length) (W : World) (q : Rat) (s : Bool) (A : Option Addr) (n' c : Nat) (s' : Bool) (A' : Option Addr) (n'' c' : Nat), J k W → partVal (best hs ps[k].name g) ps[k] = some q → IsRat W (.bool s) (.slice A n' c) (.bool s') (.slice A' n'' c') q → Ext w W →
      YieldAt Fence.wide (n - 1) Tryz.prog l #[.agg #[.bool s, .slice A n' c, .bool s', .slice A' n'' c']] W fun e W' => e = .returned (.bool true) ∧ J (k + 1) W' ∧ Beside bs W W')
    (W0 : World) (hE : Ext w W0) (hK : KnownAt W0 b1 b2 b3 b4 mb av a1 a2 a3 a4 sv gv) (hM : OwnMiss W0 mb 0 []) (hJ : J 0 W0) :
    CallsIn Fence.wide n Tryz.prog 74 #[.func (.yield l) #[] #[], .pointer (some ⟨b1, 0, none⟩), .pointer (some ⟨b2, 0, none⟩), .pointer (some ⟨b3, 0, none⟩), .pointer (some ⟨b4, 0, none⟩)] W0 fun e W' =>
      (∃ v, e = .returned v) ∧ J ps.length W' ∧ Ext w W' ∧ OwnMiss W' mb ps.length (missK hs g ps) := by
  obtain ⟨A0, n0, rfl⟩ := h0.shape
  obtain ⟨As, cs', rfl⟩ := h3.shape
  have H3 := Lib.hid h3
  have H4 := Lib.hid h4
  have HO := Lib.hid hok
  have HP := Lib.hid hp
  have HNL := Lib.hid hnl
  obtain ⟨ls, hR, hA⟩ := h0
  have hll := hA.length
  have HR := Lib.hid hR
  have HA := Lib.hid hA
  have HJ1 := Lib.hid hJ1
  have HJ2 := Lib.hid hJ2
  have HJ3 := Lib.hid hJ3
  have HY := Lib.hid hY
  have HBS := Lib.hid hbs
  have HB := Lib.hid hb
  have HMB := Lib.hid hmbs
  have HNE := Lib.hid hne
  have HK0 := Lib.hid hK
  have HM0 := Lib.hid hM
  have HJ0 := Lib.hid hJ
  have hc0 := hK.audit.cell 0
  clear h3 h4 hok hp hnl hR hA hJ1 hJ2 hJ3 hY hbs hb hmbs hne hM hJ hK
  refine callsIn_of_wp Tryz.func74 rfl trivial ?_ rfl
  simp only [Tryz.ntmps74, List.size_toArray, List.length_cons, List.length_nil, Nat.reduceAdd, Nat.reduceSub, Array.replicate_succ, Array.replicate_zero, List.push_toArray, List.append_toArray, List.nil_append, List.cons_append]
  gi_wp2
  gi_loopw [13] (fun t wr => ∃ k : Nat, k ≤ ps.length ∧ t = .int .i64 (k : Int) ∧ Hid (KnownAt wr b1 b2 b3 b4 mb (.slice A0 ps.length n0) a1 a2 a3 a4 (.slice As hs.length cs') gv) ∧ Hid (OwnMiss wr mb k (missK hs g (ps.take k))) ∧ Hid (J k wr) ∧ Ext w wr) (fun t _ => ps.length - (intOf t).toNat)
  case atStart => exact ⟨0, Nat.zero_le _, rfl, HK0, HM0, HJ0, hE⟩
  case round =>
    obtain ⟨k, hk, rfl, hK, hM, hJ, hEr⟩ := hrel
    by_cases hlt : k < ps.length
    · have hkl : k < ls.length := by omega
      obtain ⟨b, o, rfl, hb, hrow⟩ := HR.out.row k hkl
      have hget := HA.out.get k _ _ (List.getElem?_eq_getElem hkl) (List.getElem?_eq_getElem hlt)
      have hMS := Lib.hid (missK_succ hs g ps k hlt)
      have hpk := HP.out _ (List.getElem_mem hlt)
      have hnk := HNL.out _ (List.getElem_mem hlt)
      have HJ3k := Lib.hid (HJ3.out k hlt)
      have HYk := Lib.hid (HY.out k hlt)
      generalize ps[k] = p at *
      obtain ⟨t1, v1, t2, v2, t3, v3, hlk, hi1, hi2⟩ := hget
      obtain ⟨t1, T1, n1', c1', t2, T2, n2', c2', rfl, rfl, rfl, rfl⟩ := hi1.form
      obtain ⟨t3, T3, n3', c3', rfl, rfl, -, -, -⟩ := hi2.form
      have hr := hrow wr (KeepT.ext hEr)
      rw [hlk] at hr
      have r0 := hr 0 _ rfl
      have r1 := hr 1 _ rfl
      have r2 := hr 2 _ rfl
      have r3 := hr 3 _ rfl
      have r4 := hr 4 _ rfl
      have r5 := hr 5 _ rfl
      have r6 := hr 6 _ rfl
      have r7 := hr 7 _ rfl
      have r8 := hr 8 _ rfl
      rw [Nat.add_zero] at r0
      have HI1 := Lib.hid hi1
      have HI2 := Lib.hid hi2
      clear hr hrow hlk hi1 hi2 hb
      gi_upto_region 3 with fail
      obtain ⟨w1, hw1⟩ : ∃ w1 : World, w1 = wr.alloc (.cells #[.string ⟨p.name.toArray⟩, .int .i64 p.at_, .bool t1, .slice T1 n1' c1', .bool t2, .slice T2 n2' c2', .bool p.is, .bool t3, .slice T3 n3' c3'] 45) := ⟨_, rfl⟩
      rw [← hw1]
      have hE1 : Ext wr w1 := by rw [hw1]; exact (Ext.refl _).alloc _
      have hB7 : Blk w1 wr.heap.size 45 #[.string ⟨p.name.toArray⟩, .int .i64 p.at_, .bool t1, .slice T1 n1' c1', .bool t2, .slice T2 n2' c2', .bool p.is, .bool t3, .slice T3 n3' c3'] := by rw [hw1]; exact Blk.newAt _ _ _ rfl
      have hK1 := hK.out.ext hE1
      have hM1 := Lib.hid (hM.out.ext hE1)
      have hJ1 := Lib.hid (HJ1.out _ _ _ hJ.out hE1)
      have hEw1 := hEr.trans hE1
      have q0 : w1.cell? ⟨wr.heap.size, 0, none⟩ = some (.string ⟨p.name.toArray⟩) := hB7.cell 0
      have q1 : w1.cell? ⟨wr.heap.size, 1, none⟩ = some (.int .i64 p.at_) := hB7.cell 1
      have q2 : w1.cell? ⟨wr.heap.size, 2, none⟩ = some (.bool t1) := hB7.cell 2
      have q3 : w1.cell? ⟨wr.heap.size, 3, none⟩ = some (.slice T1 n1' c1') := hB7.cell 3
      have q4 : w1.cell? ⟨wr.heap.size, 4, none⟩ = some (.bool t2) := hB7.cell 4
      have q5 : w1.cell? ⟨wr.heap.size, 5, none⟩ = some (.slice T2 n2' c2') := hB7.cell 5
      have q6 : w1.cell? ⟨wr.heap.size, 6, none⟩ = some (.bool p.is) := hB7.cell 6
      have q7 : w1.cell? ⟨wr.heap.size, 7, none⟩ = some (.bool t3) := hB7.cell 7
      have q8 : w1.cell? ⟨wr.heap.size, 8, none⟩ = some (.slice T3 n3' c3') := hB7.cell 8
      have k2 := hK1.shelf.cell 0
      have k3 := hK1.granted.cell 0
      have HK1 := Lib.hid hK1
      have HB7 := Lib.hid hB7
      have hgp := hE1.size'
      clear hw1 hc0 r0 r1 r2 r3 r4 r5 r6 r7 r8 hK1 hB7 hK hM hJ
      generalize wr.heap.size = gp at *
      gi_wp2_with fail
      refine ⟨trivial, (fun h => by cases h), (callsIn_wide.2 (worth_any _ _ _ _ _ _ _ _ p hs g w1 hlen hgl HO.out hpk.ok (HI1.out.ext hEw1) (HI2.out.ext hEw1) (H3.out.ext hEw1) (H4.out.ext hEw1))).mono ?_⟩
      rintro e w2 ⟨s5, A5, k5, c5, s6, A6, k6, c6, rfl, hq5, hE2⟩
      gi_upto_region 4 with fail
      obtain ⟨w3, hw3⟩ : ∃ w3 : World, w3 = w2.alloc (.cells #[.bool s5, .slice A5 k5 c5, .bool s6, .slice A6 k6 c6] 39) := ⟨_, rfl⟩
      rw [← hw3]
      have hE3 : Ext w2 w3 := by rw [hw3]; exact (Ext.refl _).alloc _
      have hB8 : Blk w3 w2.heap.size 39 #[.bool s5, .slice A5 k5 c5, .bool s6, .slice A6 k6 c6] := by rw [hw3]; exact Blk.newAt _ _ _ rfl
      have hE13 := hE2.trans hE3
      have hEw3 := hEw1.trans hE13
      have HK3 := Lib.hid (HK1.out.ext hE13)
      have HM3 := Lib.hid (hM1.out.ext hE13)
      have HJ3' := Lib.hid (HJ1.out _ _ _ hJ1.out hE13)
      have n0' := (HB7.out.ext hE13).cell 0
      have k4 := HK3.out.map.cell 0
      clear hw3 q0 q1 q2 q3 q4 q5 q6 q7 q8 k2 k3 hM1 hJ1
      generalize w2.heap.size = gv8 at *
      cases hpv : partVal (best hs p.name g) p with
      | none =>
        have hMS2 := Lib.hid (show missK hs g (ps.take (k + 1)) = missK hs g (ps.take k) ++ [p.name] by rw [hMS.out, hpv]; rfl)
        have HJ4 := Lib.hid (HJ3k.out _ hpv HJ3'.out)
        have hkey := Lib.hid (key_name p.name hnk)
        gi_wp2_with (gi_at_mapUpdate; refine wpListIn_mapUpdate_own _ rfl _ _ _ 111 rfl 9 4 (string_keyed Tryz.underlying9) Tryz.underlying111 _ mb k _ rfl HM3.out (by unfold maxLen; omega) _ _ _ rfl rfl hkey.out _ [] (plainElem_bool Tryz.underlying4 true) ?_; intro w4 hown4 hgr4)
        have hBe : Beside [mb] w3 w4 := Beside.of_grown hgr4 (fun k hk => by injection hk with hk; simp [hk])
        have hne := HNE.out
        go_roundw
        case rel =>
          refine ⟨k + 1, by omega, by go_num, HK3.out.beside hBe (by simp; exact hne), ?_, HJ2.out _ _ _ HJ4.out (OwnMiss.map HM3.out) hgr4, hEw3.beside hBe (by simpa using hmb)⟩
          show OwnMiss w4 mb (k + 1) _
          unfold OwnMiss
          rw [hMS2.out, missD_snoc]
          exact hown4
        case measure => (simp [intOf] <;> omega)
      | some q =>
        have hMS2 := Lib.hid (show missK hs g (ps.take (k + 1)) = missK hs g (ps.take k) by rw [hMS.out, hpv]; simp)
        have z8 := hB8.four
        obtain ⟨fn, tmps, assign, body, hy, hR⟩ := HYk.out w3 q s5 A5 k5 c5 s6 A6 k6 c6 HJ3'.out hpv ((hq5 q hpv).ext hE3) hEw3
        gi_wp2_with fail
        refine ⟨(fun h => by cases h), hR.mono ?_⟩
        rintro e w4 ⟨rfl, hJ4, hBe⟩
        have HJ4 := Lib.hid hJ4
        gi_wp2
        go_roundw
        case rel =>
          refine ⟨k + 1, by omega, by go_num, HK3.out.beside hBe HB.out, ?_, HJ4, hEw3.beside hBe HBS.out⟩
          show OwnMiss w4 mb (k + 1) _
          rw [hMS2.out]
          exact OwnMiss.mono (HM3.out.beside hBe HMB.out) (by omega)
        case measure => (simp [intOf] <;> omega)
    · obtain rfl : k = ps.length := by omega
      rw [List.take_length] at hM
      gi_wp2
      go_end0
      exact ⟨⟨_, rfl⟩, hJ.out, hEr, hM.out⟩

end Go.Proofs.YtekipapkcgoieaaGreatDoor

/- Names in order, each once: the reference's and the program's lists of missing names. -/
namespace Go.Proofs.YtekipapkcgoieaaGreatDoor
open Go.RowKit Go.Maps

theorem str_tri (a b : (List UInt8)) : a < b ∨ a = b ∨ b < a := by
  by_cases h : a < b
  · exact .inl h
  · by_cases k : b < a
    · exact .inr (.inr k)
    · exact .inr (.inl (List.le_antisymm (List.not_lt.1 k) (List.not_lt.1 h)))
theorem insS_nil (x : (List UInt8)) : insS [] x = [x] := by simp [insS]
theorem insS_cons (y : (List UInt8)) (l : List (List UInt8)) (x : (List UInt8)) : insS (y :: l) x = if y < x then y :: insS l x else if y = x then y :: l else x :: y :: l := by
  by_cases h : y < x
  · rw [if_pos h]
    unfold insS
    rw [List.dropWhile_cons_of_pos (by simpa using h), List.takeWhile_cons_of_pos (by simpa using h)]
    split <;> rfl
  · rw [if_neg h]
    unfold insS
    rw [List.dropWhile_cons_of_neg (by simpa using h), List.takeWhile_cons_of_neg (by simpa using h)]
    simp
theorem insS_mem (x : (List UInt8)) : ∀ (l : List (List UInt8)) (y : (List UInt8)), y ∈ insS l x ↔ y = x ∨ y ∈ l
  | [], y => by rw [insS_nil]; simp
  | z :: l, y => by
    rw [insS_cons]
    split
    · simp only [List.mem_cons, insS_mem x l y]
      constructor
      · rintro (h | h | h)
        · exact .inr (.inl h)
        · exact .inl h
        · exact .inr (.inr h)
      · rintro (h | h | h)
        · exact .inr (.inl h)
        · exact .inl h
        · exact .inr (.inr h)
    · split
      · rename_i h; subst h
        simp
      · simp
theorem insS_sorted (x : (List UInt8)) : ∀ {l : List (List UInt8)}, l.Pairwise (· < ·) → (insS l x).Pairwise (· < ·)
  | [], _ => by rw [insS_nil]; simp
  | z :: l, h => by
    rw [List.pairwise_cons] at h
    rw [insS_cons]
    split
    · rename_i hz
      rw [List.pairwise_cons]
      refine ⟨fun y hy => ?_, insS_sorted x h.2⟩
      rcases (insS_mem x l y).1 hy with e | e
      · rw [e]; exact hz
      · exact h.1 y e
    · split
      · rw [List.pairwise_cons]; exact h
      · rename_i h1 h2
        have h3 : x < z := by
          rcases str_tri z x with h4 | h4 | h4
          · exact absurd h4 h1
          · exact absurd h4 h2
          · exact h4
        rw [List.pairwise_cons, List.pairwise_cons]
        refine ⟨fun y hy => ?_, h⟩
        rcases List.mem_cons.1 hy with e | e
        · rw [e]; exact h3
        · exact List.lt_trans h3 (h.1 y e)
theorem foldS_spec : ∀ (l : List (List UInt8)) {m : List (List UInt8)}, m.Pairwise (· < ·) → (l.foldl insS m).Pairwise (· < ·) ∧ ∀ y, y ∈ l.foldl insS m ↔ y ∈ l ∨ y ∈ m
  | [], _, h => ⟨h, fun y => by simp⟩
  | x :: l, m, h => by
    obtain ⟨h1, h2⟩ := foldS_spec l (insS_sorted x h)
    refine ⟨h1, fun y => ?_⟩
    rw [List.foldl_cons, h2, insS_mem, List.mem_cons]
    constructor
    · rintro (h | h | h)
      · exact .inl (.inr h)
      · exact .inl (.inl h)
      · exact .inr h
    · rintro ((h | h) | h)
      · exact .inr (.inl h)
      · exact .inl h
      · exact .inr (.inr h)
theorem sortedOf_sorted (l : List (List UInt8)) : (sortedOf l).Pairwise (· < ·) := (foldS_spec l List.Pairwise.nil).1
theorem sortedOf_mem (l : List (List UInt8)) (y : (List UInt8)) : y ∈ sortedOf l ↔ y ∈ l := by
  have := (foldS_spec l List.Pairwise.nil).2 y
  unfold sortedOf
  simpa using this
theorem sorted_unique : ∀ {l m : List (List UInt8)}, l.Pairwise (· < ·) → m.Pairwise (· < ·) → (∀ x, x ∈ l ↔ x ∈ m) → l = m
  | [], [], _, _, _ => rfl
  | [], y :: m, _, _, h => by have := (h y).2 (List.mem_cons_self ..); cases this
  | x :: l, [], _, _, h => by have := (h x).1 (List.mem_cons_self ..); cases this
  | x :: l, y :: m, h1, h2, h => by
    rw [List.pairwise_cons] at h1 h2
    have e : x = y := by
      rcases List.mem_cons.1 ((h x).1 (List.mem_cons_self ..)) with h3 | h3
      · exact h3
      · rcases List.mem_cons.1 ((h y).2 (List.mem_cons_self ..)) with h4 | h4
        · exact h4.symm
        · exact absurd (List.lt_trans (h1.1 y h4) (h2.1 x h3)) (List.lt_irrefl _)
    subst e
    congr 1
    refine sorted_unique h1.2 h2.2 fun z => ?_
    constructor
    · intro hz
      rcases List.mem_cons.1 ((h z).1 (List.mem_cons_of_mem _ hz)) with h3 | h3
      · subst h3; exact absurd (h1.1 _ hz) (List.lt_irrefl _)
      · exact h3
    · intro hz
      rcases List.mem_cons.1 ((h z).2 (List.mem_cons_of_mem _ hz)) with h3 | h3
      · subst h3; exact absurd (h2.1 _ hz) (List.lt_irrefl _)
      · exact h3

/-! The reference's list. -/
theorem foldl_sorted (hs : List HeldD) (g : List Int) : ∀ (ps : List PartD) (m : List (List UInt8)), m.Pairwise (· < ·) →
    (ps.foldl (fun m p => if (partVal (best hs p.name g) p).isSome then m else sortedOf (m ++ [p.name])) m).Pairwise (· < ·) ∧ ∀ y, y ∈ ps.foldl (fun m p => if (partVal (best hs p.name g) p).isSome then m else sortedOf (m ++ [p.name])) m ↔ y ∈ m ∨ y ∈ missK hs g ps
  | [], m, h => ⟨h, fun y => by simp [missK]⟩
  | p :: ps, m, h => by
    rw [List.foldl_cons]
    by_cases hp : (partVal (best hs p.name g) p).isSome = true
    · rw [if_pos hp]
      obtain ⟨h1, h2⟩ := foldl_sorted hs g ps m h
      refine ⟨h1, fun y => (h2 y).trans ?_⟩
      have : missK hs g (p :: ps) = missK hs g ps := by unfold missK; rw [List.filter_cons, if_neg (by simp [hp])]
      rw [this]
    · rw [if_neg hp]
      obtain ⟨h1, h2⟩ := foldl_sorted hs g ps (sortedOf (m ++ [p.name])) (sortedOf_sorted _)
      refine ⟨h1, fun y => (h2 y).trans ?_⟩
      have : missK hs g (p :: ps) = p.name :: missK hs g ps := by unfold missK; rw [List.filter_cons, if_pos (by simpa using hp)]; rfl
      rw [this, sortedOf_mem, List.mem_append, List.mem_singleton, List.mem_cons, or_assoc]
theorem sumMissR_eq (hs : List HeldD) (g : List Int) (ps : List PartD) : sumMissR hs g ps = sortedOf (missK hs g ps) := by
  obtain ⟨h1, h2⟩ := foldl_sorted hs g ps [] List.Pairwise.nil
  refine sorted_unique h1 (sortedOf_sorted _) fun x => ?_
  rw [sortedOf_mem]
  exact (h2 x).trans (by simp)

/-! The program's list. -/
theorem sortedOf_nodup (l : List (List UInt8)) : (sortedOf l).Nodup := (sortedOf_sorted l).imp fun h e => by subst e; exact List.lt_irrefl _ h
theorem merge_sortedOf (l : List (List UInt8)) : (sortedOf l).mergeSort leB = sortedOf l := List.mergeSort_of_pairwise ((sortedOf_sorted l).imp fun h => by simpa [leB] using List.le_of_lt h)
theorem missD_has {H : Type} (ms : List (List UInt8)) (x : List UInt8) : has (missD (H := H) ms) (.string x) = true ↔ x ∈ ms := by
  unfold missD
  rw [has_setOf _ _ _ (fun k hk => by obtain ⟨y, _, rfl⟩ := List.mem_map.1 hk; simp [WideAt.IsKeyLit])]
  simp [Lit.sameKey]
theorem keys_sorted {w : World} {mb n : Nat} {ms ss : List (List UInt8)} (h : OwnMiss w mb n ms) (hp : ss.Perm (strKeys (missD (H := Unit) ms))) : ss.mergeSort leB = sortedOf ms := by
  have K : Keyed Tryz.prog 9 := string_keyed Tryz.underlying9
  obtain ⟨es, hD, hpw, _⟩ := World.ownsMap.entries h K
  obtain ⟨es', hD', hko⟩ := World.ownsMap.keysOf h
  obtain rfl : es = es' := by rw [hD] at hD'; simpa using hD'
  have h2 := perm_strKeys (ss := sortedOf ms) hpw (fun p hp => by obtain ⟨v, hv⟩ := hko p hp; obtain ⟨x, _, hx, _⟩ := Maps.keyOf_str Tryz.underlying9 hv; exact ⟨x, hx⟩) (sortedOf_nodup ms) (fun x => by rw [← hD, missD_has, sortedOf_mem])
  rw [← hD] at h2
  rw [mergeSort_of_perm (hp.trans h2.symm), merge_sortedOf]
/-! maps.Keys and slices.Sorted. -/
set_option maxHeartbeats 1000000 in
theorem Keys_any (mb : Nat) (w : World) :
    Calls Tryz.prog 38 #[.map (some mb)] w fun e w' => ∃ kb : Nat, e = .returned (.func (.func 81) #[] #[.pointer (some ⟨kb, 0, none⟩)]) ∧ kb < w'.heap.size ∧ w'.cell? ⟨kb, 0, none⟩ = some (.map (some mb)) ∧ Ext w w' := by
  go_enter Tryz.func38, Tryz.ntmps38
  go_wp2
  go_ret
  have hB := Blk.newAt w 111 #[.map (some mb)] rfl
  exact ⟨_, rfl, hB.lt, hB.cell 0, (Ext.refl _).alloc _⟩
set_option maxHeartbeats 1000000 in
theorem SortedKeys_any (kb mb n : Nat) (ms : List (List UInt8)) (w : World) (hn : n ≤ 100000) (hkb : kb < w.heap.size) (hc : w.cell? ⟨kb, 0, none⟩ = some (.map (some mb))) (hown : OwnMiss w mb n ms) :
    Calls Tryz.prog 37 #[.func (.func 81) #[] #[.pointer (some ⟨kb, 0, none⟩)]] w fun e w' => ∃ (A : Option Addr) (k c : Nat), e = .returned (.slice A k c) ∧ k = (sortedOf ms).length ∧ IsStrs w' (.slice A k c) (sortedOf ms) ∧ Ext w w' := by
  have hsz : Maps.size (missD (H := Unit) ms) ≤ n := World.ownsMap.size_le hown
  have hseq : SeqGives Fence.wide 2 Tryz.prog 81 #[.pointer (some ⟨kb, 0, none⟩)] encStr (fun ss => ss.Perm (strKeys (missD (H := Unit) ms))) (Maps.size (missD (H := Unit) ms)) w :=
    AnyZ.keys_gives (ρ := Tryz.keys38_ren) { Tryz.keys38 with } Fence.wide _ trivial rfl (by omega) kb mb n _ w hkb hc hown
  have h := AnyZ.sorted_in Tryz.sorted37 Fence.wide 5 trivial trivial trivial trivial rfl (by omega) (Tryz.sorts37 _) (enters_of Tryz.func80 (by kernel_rfl) rfl) 81 #[.pointer (some ⟨kb, 0, none⟩)] trivial (enters_of Tryz.func81 (by kernel_rfl) rfl) _ _ (Nat.le_trans hsz (by unfold maxLen; omega)) (by omega) w hseq
  refine (callsIn_wide.1 h).mono ?_
  rintro e w' ⟨v, ss, rfl, hp, ho, -, hb⟩
  have e1 : (ss.mergeSort fun x y => decide (x ≤ y)) = sortedOf ms := keys_sorted hown hp
  have e2 : ss.length = (sortedOf ms).length := by rw [← e1, List.length_mergeSort]
  rw [e1, e2] at ho
  have ho2 : OwnStrs w.heap.size w' v (sortedOf ms) := by
    unfold OwnStrs
    have e3 : (cellsS (sortedOf ms)).length = (sortedOf ms).length := by simp [cellsS]
    have e4 : (cellsS (sortedOf ms)).flatten = (sortedOf ms).map encStr := by
      unfold cellsS
      induction sortedOf ms with
      | nil => rfl
      | cons x l ih => simp only [List.map_cons, List.flatten_cons, ih]; rfl
    rw [e3, e4]
    exact ho
  have hs := ho2.strs
  obtain ⟨A, c, rfl⟩ := hs.shape
  exact ⟨A, _, c, rfl, rfl, hs, hb⟩

end Go.Proofs.YtekipapkcgoieaaGreatDoor

/- A range over a function that itself writes to memory: a step of the statement, and a step of a round. -/
namespace Go.Proofs.YtekipapkcgoieaaGreatDoor
open Go.RowKit Go.Maps

/-- A round, out of its assignment and its body: the loop's record is ready, then busy, then ready. -/
theorem yield_step {l m : Nat} {r : Loop} {args : Array Value} {W : World} {R : Ending → World → Prop} {ps : Array Tmp} {tmps : Array Value} {assign body : Code} (hl : W.heap[l]? = some (.loop r)) (hr : r.state = .ready) (hpe : r.pending = none) (h3 : r.params = ps) (h4 : r.tmps = tmps) (h5 : r.assign = assign) (h6 : r.body = body) (hs : args.size = ps.size)
    (h : ∀ rb : Loop, assign.wpIn (Fence.wide.inRound l) m Tryz.prog (Exit.then (fun a1 w1 => w1.heap[l]? = some (.loop r) ∧ body.wpIn (Fence.wide.inRound l) m Tryz.prog (fun e _ W3 => e = .normal ∧ W3.heap[l]? = some (.loop rb) ∧ R (.returned (.bool true)) (W3.putObj l (.loop r))) a1 (w1.putObj l (.loop rb))) (fun _ _ _ => False))
      { tmps := (ps.zip args).foldl (fun t (p, v) => t.setIfInBounds p v) tmps, defers := [] } W) :
    YieldAt Fence.wide m Tryz.prog l args W R := by
  subst h3 h4 h5 h6
  refine ⟨r.fn, _, r.assign, r.body, run_yield hl hs, roundIn_of_wpIn trivial (wpIn_mono (h { r with state := .busy }) ?_)⟩
  intro e a1 w1 hq
  cases e with
  | normal =>
    obtain ⟨h1, h2⟩ := hq
    refine ⟨_, run_beginRound h1 hr, wpIn_mono h2 ?_⟩
    rintro e a3 W3 ⟨rfl, h3, h4⟩
    refine ⟨_, _, run_endRound none h3, ?_⟩
    have : ({ ({ r with state := .busy } : Loop) with state := if (none : Option Code).isNone then .ready else .done, pending := none } : Loop) = r := by
      cases r; simp at hr hpe ⊢; exact ⟨hr.symm, hpe.symm⟩
    rw [this]
    exact h4
  | _ => exact hq.elim

/-- The statement: the record is laid, the function is called, the record is taken up. -/
theorem range_step {g : Operand} {ps : Array Tmp} {assign body : Code} {Q : Exit → Act → World → Prop} {a : Act} {w : World} {gf n : Nat} {lb : Array Value} (hg : a.eval g = .func (.func gf) #[] lb) (eg : ∀ args w', (callFunc gf args).run Tryz.prog w' = .ok (.enter gf args) w')
    (h : ∀ r : Loop, r.state = .ready → r.pending = none → r.params = ps → r.tmps = a.tmps → r.assign = assign → r.body = body → ∀ (re : Loop) (W1 : World), W1 = (w.alloc (.deferred (some []))).alloc (.loop r) →
      CallsIn Fence.wide (n - 1) Tryz.prog gf (#[.func (.yield (w.heap.size + 1)) #[] #[]] ++ lb) W1 fun e W' => (∃ v, e = .returned v) ∧ W'.heap[w.heap.size + 1]? = some (.loop r) ∧
        Q .normal { a with defers := { target := .collected w.heap.size, args := #[] } :: a.defers } (W'.putObj (w.heap.size + 1) (.loop re))) :
    (Code.rangeFunc g ps assign body).wpIn Fence.wide n Tryz.prog Q a w := by
  refine wpIn_rangeFunc ?_
  intro fn _
  obtain ⟨r, hr⟩ : ∃ r : Loop, r = { state := .ready, pending := none, fn, tmps := a.tmps, params := ps, assign, body, defers := w.heap.size } := ⟨_, rfl⟩
  refine ⟨w.heap.size + 1, [{ target := .collected w.heap.size, args := #[] }], (w.alloc (.deferred (some []))).alloc (.loop r), { target := .fn (.func gf) lb, args := #[.func (.yield (w.heap.size + 1)) #[] #[]] }, (w.alloc (.deferred (some []))).alloc (.loop r), gf, #[.func (.yield (w.heap.size + 1)) #[] #[]] ++ lb, (w.alloc (.deferred (some []))).alloc (.loop r), ?_, ?_, ?_, ?_, ?_, ?_⟩
  · rw [hr]; exact run_enterLoop_outer _ _ _ _ _
  · simp only [resolve, hg]
    simp [go_sem]
  · intro f' _; trivial
  · simp [invoke, go_sem, eg]
  · intro h; cases h
  · refine (h r (by rw [hr]) (by rw [hr]) (by rw [hr]) (by rw [hr]) (by rw [hr]) (by rw [hr]) { r with state := .exhausted } _ rfl).mono ?_
    rintro e W' ⟨⟨v, rfl⟩, hl, hq⟩
    have hrun := run_endLoop (P := Tryz.prog) hl (by rw [hr]; simp)
    refine ⟨none, _, by rw [hrun]; simp [hr], hq⟩

end Go.Proofs.YtekipapkcgoieaaGreatDoor

/- kronecker.Sum. -/
namespace Go.Proofs.YtekipapkcgoieaaGreatDoor
open Go.RowKit Go.Maps
attribute [local go_sem ↓] Go.wp_at_zero Go.wp_at_succ
attribute [local go_sem] Oper.semAt_some

/-- What holds between two rounds. -/
structure SumJ (hs : List HeldD) (g : List Int) (ps : List PartD) (l D sb rb : Nat) (r : Loop) (k : Nat) (W : World) : Prop where
  loop : W.heap[l]? = some (.loop r)
  deferred : W.heap[D]? = some (.deferred (some []))
  sum : ∃ (s : Bool) (A : Option Addr) (n c : Nat) (s' : Bool) (A' : Option Addr) (n' c' : Nat), Blk W sb 39 #[.bool s, .slice A n c, .bool s', .slice A' n' c'] ∧ IsRat W (.bool s) (.slice A n c) (.bool s') (.slice A' n' c') (sumVal hs g (ps.take k))
  res : Blk W rb 39 #[.bool false, .slice none 0 0, .bool false, .slice none 0 0]
theorem heap_beside {bs : List Nat} {a b : World} {k : Nat} {o : Obj} (h : a.heap[k]? = some o) (hb : Beside bs a b) (hk : k ∉ bs) : b.heap[k]? = some o := (hb.block k (block_lt h) hk).trans h
theorem SumJ.beside {bs : List Nat} {hs : List HeldD} {g : List Int} {ps : List PartD} {l D sb rb : Nat} {r : Loop} {k : Nat} {a b : World} (h : SumJ hs g ps l D sb rb r k a) (hb : Beside bs a b) (hn : l ∉ bs ∧ D ∉ bs ∧ sb ∉ bs ∧ rb ∉ bs) (hk : KeepT [123] a b) : SumJ hs g ps l D sb rb r k b := by
  obtain ⟨h1, h2, ⟨s, A, n, c, s', A', n', c', h3, h4⟩, h5⟩ := h
  exact ⟨heap_beside h1 hb hn.1, heap_beside h2 hb hn.2.1, ⟨s, A, n, c, s', A', n', c', h3.beside hb hn.2.2.1, h4.keep hk⟩, h5.beside hb hn.2.2.2⟩
theorem SumJ.ext {hs : List HeldD} {g : List Int} {ps : List PartD} {l D sb rb : Nat} {r : Loop} {k : Nat} {a b : World} (h : SumJ hs g ps l D sb rb r k a) (hb : Ext a b) : SumJ hs g ps l D sb rb r k b :=
  h.beside (bs := []) (Beside.of_ext hb) (by simp) (KeepT.ext hb)
theorem KeepT.one {ts : List TypeId} {a b : World} {x : Nat} (k : Beside [x] a b) {o : Obj} (h : a.heap[x]? = some o) (ho : ∀ cs t fz, o ≠ .cells cs t fz) : KeepT ts a b :=
  KeepT.beside k fun y hy cs t fz hc => by
    rw [List.mem_singleton.1 hy, h] at hc
    injection hc with hc
    exact absurd hc (ho cs t fz)
theorem Beside.putObj (W : World) (l : Nat) (o : Obj) : Beside [l] W (W.putObj l o) := Beside.of_grown (grownBy_putObj' W l o) (fun k hk => by injection hk with hk; simp [hk])

/-- What is asked behind a region that does not panic. -/
def noPanic (Q : Exit → Act → World → Prop) (e : Exit) (a : Act) (w : World) : Prop :=
  match e with
  | .panic _ => False
  | e => Q e a w
theorem noPanic_normal {Q : Exit → Act → World → Prop} {a : Act} {w : World} (h : Q .normal a w) : noPanic Q .normal a w := h
theorem noPanic_le {Q : Exit → Act → World → Prop} (e : Exit) (a : Act) (w : World) (h : noPanic Q e a w) : Q e a w := by
  cases e <;> first | exact h | exact h.elim
set_option maxRecDepth 100000 in
set_option maxHeartbeats 4000000 in
theorem SumK_any (av a b c' d sv gv : Value) (ps : List PartD) (tt : Rat) (hs : List HeldD) (g : List Int) (w : World) (hpl : ps.length ≤ 5000) (hlen : hs.length ≤ 100000) (hgl : g.length ≤ 100000000) (hok : ∀ h ∈ hs, HeldOk h) (hp : ∀ p ∈ ps, PartTw p) (hnl : ∀ p ∈ ps, p.name.length ≤ 1000)
    (h0 : IsParts w av ps) (h1 : IsRat w a b c' d tt) (h3 : IsShelf w sv hs) (h4 : IsNums w gv g) :
    Calls Tryz.prog 10 #[.agg #[av, a, b, c', d], .agg #[sv], gv] w fun e w' => ∃ (a b c d m : Value), e = .returned (.tuple #[.agg #[a, b, c, d], m]) ∧ IsRat w' a b c d (sumVal hs g ps) ∧ IsStrs w' m (sortedOf (missK hs g ps)) ∧ Ext w w' := by
  obtain ⟨A0, n0, rfl⟩ := h0.shape
  obtain ⟨s1, A1, n1, c1, s2, A2, n2, c2, rfl, rfl, rfl, rfl⟩ := h1.form
  obtain ⟨A, c, rfl⟩ := h3.shape
  obtain ⟨Ag, cg, rfl⟩ := h4.shape
  have H0 := Lib.hid h0
  have H1 := Lib.hid h1
  have H3 := Lib.hid h3
  have H4 := Lib.hid h4
  have HO := Lib.hid hok
  have HP := Lib.hid hp
  have HNL := Lib.hid hnl
  have HS := Lib.hid (sumVal_tw (g := g) hok hp)
  have hZ : ∀ w', Calls Tryz.prog 34 #[.int .i64 0, .int .i64 1] w' (RRat w' 0) := fun w' => by
    have := fraction_any 0 1 w' (by omega) (by omega) (by omega) (by omega)
    rwa [show mkRat 0 1 = 0 by rfl] at this
  have HZ := Lib.hid hZ
  clear h0 h1 h3 h4 hok hp hnl hZ
  have hmm := @run_makeMap Tryz.prog
  refine (callsIn_wide (n := 9)).1 ?_
  refine callsIn_of_wp_marks Tryz.func10 rfl trivial ?_ rfl
  simp only [Tryz.ntmps10, List.size_toArray, List.length_cons, List.length_nil, Nat.reduceAdd, Nat.reduceSub, Array.replicate_succ, Array.replicate_zero, List.push_toArray, List.append_toArray, List.nil_append, List.cons_append]
  gi_upto_region 2 with fail
  obtain ⟨W, hW⟩ : ∃ W : World, W = (((w.alloc (.cells #[.slice A0 ps.length n0, .bool s1, .slice A1 n1 c1, .bool s2, .slice A2 n2 c2] 41)).alloc (.cells #[.slice A hs.length c] 30)).alloc (.cells #[.bool false, .slice none 0 0, .bool false, .slice none 0 0] 39)).alloc (.map #[] 0) := ⟨_, rfl⟩
  rw [← hW]
  have hE : Ext w W := by rw [hW]; exact ((((Ext.refl w).alloc _).alloc _).alloc _).alloc _
  have hBa : Blk W w.heap.size 41 #[.slice A0 ps.length n0, .bool s1, .slice A1 n1 c1, .bool s2, .slice A2 n2 c2] := by rw [hW]; exact (((Blk.newAt _ _ _ (by simp)).alloc _).alloc _).alloc _
  have hBs : Blk W (w.heap.size + 1) 30 #[.slice A hs.length c] := by rw [hW]; exact ((Blk.newAt _ _ _ (by simp)).alloc _).alloc _
  have hBr : Blk W (w.heap.size + 1 + 1) 39 #[.bool false, .slice none 0 0, .bool false, .slice none 0 0] := by rw [hW]; exact (Blk.newAt _ _ _ (by simp)).alloc _
  have hM : OwnMiss W (w.heap.size + 1 + 1 + 1) 0 [] := by
    rw [hW]
    have := World.ownsMap_made (((w.alloc (.cells #[.slice A0 ps.length n0, .bool s1, .slice A1 n1 c1, .bool s2, .slice A2 n2 c2] 41)).alloc (.cells #[.slice A hs.length c] 30)).alloc (.cells #[.bool false, .slice none 0 0, .bool false, .slice none 0 0] 39)) Tryz.prog 9 (plainElem (H := Unit) Tryz.prog 4)
    simp only [World.size_alloc] at this
    exact this
  have hWs : W.heap.size = w.heap.size + 1 + 1 + 1 + 1 := by rw [hW]; simp
  have HWs := Lib.hid hWs
  have HM := Lib.hid hM
  have HBA := Lib.hid hBa
  have HBS := Lib.hid hBs
  have HBR := Lib.hid hBr
  clear hW hWs hM hBa hBs hBr hmm
  gi_wp2_with fail
  refine ⟨trivial, (callsIn_wide.2 (HZ.out W)).mono ?_⟩
  rintro e w1 ⟨s5, A5, k5, c5, s6, A6, k6, c6, rfl, hq5, hE1⟩
  gi_upto_region 3 with fail
  obtain ⟨w2, hw2⟩ : ∃ w2 : World, w2 = w1.alloc (.cells #[.bool s5, .slice A5 k5 c5, .bool s6, .slice A6 k6 c6] 39) := ⟨_, rfl⟩
  rw [← hw2]
  have hE2 : Ext W w2 := by rw [hw2]; exact hE1.alloc _
  have hBq : Blk w2 w1.heap.size 39 #[.bool s5, .slice A5 k5 c5, .bool s6, .slice A6 k6 c6] := by rw [hw2]; exact Blk.newAt _ _ _ rfl
  have hq2 : IsRat w2 (.bool s5) (.slice A5 k5 c5) (.bool s6) (.slice A6 k6 c6) 0 := by rw [hw2]; exact ⟨hq5.1.alloc _, hq5.2.alloc _⟩
  have hsb : W.heap.size ≤ w1.heap.size ∧ w1.heap.size + 1 = w2.heap.size := ⟨hE1.size', by rw [hw2]; simp⟩
  clear hw2 hq5
  obtain ⟨sb, hsb2⟩ : ∃ sb : Nat, w1.heap.size = sb := ⟨_, rfl⟩
  rw [hsb2] at hBq hsb ⊢
  have HSB := Lib.hid hsb
  have HBQ := Lib.hid hBq
  have HQ2 := Lib.hid hq2
  have HM2 := Lib.hid (HM.out.ext hE2)
  have g1 := (HBA.out.ext hE2).five
  have g2 := (HBS.out.ext hE2).cell 0
  have hEw2 := hE.trans hE2
  clear hsb hsb2 hBq hq2
  gi_wp2_with fail
  refine ⟨trivial, (callsIn_wide.2 (known_any _ _ _ _ _ _ _ _ w2 ⟨_, _, _, rfl⟩ ⟨tt, H1.out.ext hEw2⟩ ⟨_, _, _, rfl⟩ ⟨_, _, _, rfl⟩)).mono ?_⟩
  rintro e w3 ⟨b, rfl, hb2, hk1, hk2, hk3, hk4, hE3⟩
  have HKA := Lib.hid (KnownAt.mk (mb := w.heap.size + 1 + 1 + 1) hk1 hk2 hk3 hk4)
  have HB2 := Lib.hid hb2
  clear hk1 hk2 hk3 hk4 g1 g2 hb2
  gi_wp2_with fail
  refine range_step rfl (enters_of Tryz.func74 (by kernel_rfl) rfl) ?_
  intro r hr1 hr2 hr3 hr4 hr5 hr6 re W1 hW1
  have hE4 : Ext w3 W1 := by rw [hW1]; exact ((Ext.refl _).alloc _).alloc _
  have hL : W1.heap[w3.heap.size + 1]? = some (.loop r) := by
    rw [hW1]; have := World.alloc_heap_new (w3.alloc (.deferred (some []))) (.loop r); rwa [World.size_alloc] at this
  have hD : W1.heap[w3.heap.size]? = some (.deferred (some [])) := by
    rw [hW1]; exact (Below.heap_alloc _ _ _ (by simp)).trans (World.alloc_heap_new w3 _)
  have hw3 := hE3.size'
  have hwb := HB2.out
  have hsb := HSB.out
  have hws := HWs.out
  have hb3 : b + 1 + 1 + 1 < w3.heap.size := HKA.out.map.lt
  have hE13 : Ext w2 W1 := hE3.trans hE4
  clear hW1
  generalize w3.heap.size = D at *
  have hJ0 : SumJ hs g ps (D + 1) D sb (w.heap.size + 1 + 1) r 0 W1 := ⟨hL, hD, ⟨_, _, _, _, _, _, _, _, HBQ.out.ext hE13, by simpa [sumVal] using HQ2.out.ext hE13⟩, (HBR.out.ext hE2).ext hE13⟩
  show CallsIn Fence.wide 8 Tryz.prog 74 #[.func (.yield (D + 1)) #[] #[], .pointer (some ⟨b, 0, none⟩), .pointer (some ⟨b + 1, 0, none⟩), .pointer (some ⟨b + 1 + 1, 0, none⟩), .pointer (some ⟨b + 1 + 1 + 1, 0, none⟩)] W1 _
  refine (known1_in 8 (D + 1) b (b + 1) (b + 1 + 1) (b + 1 + 1 + 1) (w.heap.size + 1 + 1 + 1) [sb, D + 1, D] _ _ _ _ _ _ _ ps hs g w (SumJ hs g ps (D + 1) D sb (w.heap.size + 1 + 1) r) hpl hlen hgl HO.out HP.out HNL.out H0.out H3.out H4.out ?bs (by omega) ?nb ?nm ?ne ?j1 ?j2 ?j3 ?yy W1 (hEw2.trans hE13) (HKA.out.ext hE4) (HM2.out.ext hE13) hJ0).mono ?_
  case bs => intro x hx; simp at hx; omega
  case nb => simp; omega
  case nm => simp; omega
  case ne => omega
  case j1 => exact fun k W W' h hx => h.ext hx
  case j2 =>
    intro k W W' h ⟨es, clock, hm⟩ hg
    have hbe : Beside [w.heap.size + 1 + 1 + 1] W W' := Beside.of_grown hg (fun k hk => by injection hk with hk; simp [hk])
    exact h.beside hbe (by simp; omega) (KeepT.one hbe hm (fun _ _ _ e => by cases e))
  case j3 =>
    intro k hk W hn h
    obtain ⟨h1, h2, ⟨s, A, n, c, s', A', n', c', h3, h4⟩, h5⟩ := h
    exact ⟨h1, h2, ⟨s, A, n, c, s', A', n', c', h3, by rw [sumVal_succ hs g ps k hk, hn, show ((none : Option Rat).getD 0) = 0 from rfl, Rat.add_zero]; exact h4⟩, h5⟩
  case yy =>
    intro k hk W q s7 A7 k7 c7 s8 A8 k8 c8 hJ hpv hq hEW
    refine yield_step hJ.loop hr1 hr2 hr3 hr4 hr5 hr6 rfl ?_
    clear hr1 hr2 hr3 hr4 hr5 hr6
    intro rb
    have HJ := Lib.hid hJ
    clear hJ
    gi_wp2
    obtain ⟨Wa, hWa⟩ : ∃ Wa : World, Wa = W.alloc (.cells #[.bool s7, .slice A7 k7 c7, .bool s8, .slice A8 k8 c8] 39) := ⟨_, rfl⟩
    rw [← hWa]
    have hEa : Ext W Wa := by rw [hWa]; exact (Ext.refl _).alloc _
    have hBv : Blk Wa W.heap.size 39 #[.bool s7, .slice A7 k7 c7, .bool s8, .slice A8 k8 c8] := by rw [hWa]; exact Blk.newAt _ _ _ rfl
    have hJa := HJ.out.ext hEa
    have hqa := hq.ext hEa
    have hDW : D + 1 < W.heap.size := block_lt HJ.out.loop
    clear hWa
    refine ⟨hJa.loop, ?_⟩
    obtain ⟨W2, hW2⟩ : ∃ W2 : World, W2 = Wa.putObj (D + 1) (.loop rb) := ⟨_, rfl⟩
    rw [← hW2]
    have hbe : Beside [D + 1] Wa W2 := by rw [hW2]; exact Beside.putObj _ _ _
    have hkt : KeepT [123] Wa W2 := KeepT.one hbe hJa.loop (fun _ _ _ e => by cases e)
    have hlb : W2.heap[D + 1]? = some (.loop rb) := by rw [hW2]; exact World.putObj_heap_same (block_lt hJa.loop)
    obtain ⟨-, hDa, ⟨s9, A9, n9, c9, s0, A0', n0', c0', hSa, hQa⟩, hRa⟩ := hJa
    have hS2 := hSa.beside hbe (by simp; omega)
    have hQ2 := hQa.keep hkt
    have hV2 := hBv.beside hbe (by simp; omega)
    have hv2 := hqa.keep hkt
    have hD2 := heap_beside hDa hbe (by simp)
    have hR2 := hRa.beside hbe (by simp; omega)
    clear hW2 hSa hQa hBv hqa hDa hRa hkt
    have f1 := hS2.four
    have f2 := hV2.four
    have hSV := Lib.hid (sumVal_succ hs g ps k hk)
    have hst := HS.out k (by omega)
    have hpt := partVal_tw (g := g) HO.out (HP.out _ (List.getElem_mem hk))
    rw [hpv] at hpt
    change Tw _ q at hpt
    have hd1 := hst.den
    have hd2 := hpt.den
    have hn1 := hst.num
    have hn2 := hpt.num
    have hmm : (sumVal hs g (ps.take k)).den * q.den ≤ 12 * 12 := Nat.mul_le_mul hd1 hd2
    have hj12 : k * 1000000000000 ≤ 5000000000000000 := by omega
    have hnn : ((sumVal hs g (ps.take k)).num * q.den + q.num * (sumVal hs g (ps.take k)).den).natAbs ≤ 18446744073709551615 := by
      have a1 : ((sumVal hs g (ps.take k)).num * q.den).natAbs ≤ 5000000000000000 * 12 := by rw [Int.natAbs_mul, Int.natAbs_natCast]; exact Nat.mul_le_mul (by omega) hd2
      have a2 : (q.num * (sumVal hs g (ps.take k)).den).natAbs ≤ 1000000000000 * 12 := by rw [Int.natAbs_mul, Int.natAbs_natCast]; exact Nat.mul_le_mul hn2 hd1
      omega
    have HADD := Lib.hid (radd_any _ _ _ _ _ _ _ _ (sumVal hs g (ps.take k)) q W2 (by omega) (by omega) (by omega) hnn hQ2 hv2)
    have HSQ := Lib.hid (show sumVal hs g (ps.take (k + 1)) = sumVal hs g (ps.take k) + q by rw [hSV.out, hpv]; rfl)
    clear hnn hmm hj12 hd1 hd2 hn1 hn2 hst hpt hSV hpv
    gi_wp2_with fail
    refine ⟨trivial, (CallsIn.inRound _ (callsIn_wide.2 HADD.out)).mono ?_⟩
    rintro e W3 ⟨s4, A4, n4, c4, s4', A4', n4', c4', rfl, hq9, hE9⟩
    have hS3 := hS2.ext hE9
    have f5 := hS3.four
    clear f1 f2 HADD
    have hlb3 := heap_beside hlb (Beside.of_ext (bs := []) hE9) (by simp)
    have hD3 := heap_beside hD2 (Beside.of_ext (bs := []) hE9) (by simp)
    have hR3 := hR2.ext hE9
    obtain ⟨W4, hW4⟩ : ∃ W4 : World, W4 = (((W3.setCell ⟨sb, 0, none⟩ (.bool s4)).setCell ⟨sb, 1, none⟩ (.slice A4 n4 c4)).setCell ⟨sb, 2, none⟩ (.bool s4')).setCell ⟨sb, 3, none⟩ (.slice A4' n4' c4') := ⟨_, rfl⟩
    have hb4 : Beside [sb] W3 W4 := by
      rw [hW4]
      exact Beside.of_grown (row := some sb) (grow_set (grow_set (grow_set (grow_set (World.grownBy.refl _ _) 0 _) 1 _) 2 _) 3 _) (fun k hk => by injection hk with hk; simp [hk])
    have hS4 : Blk W4 sb 39 #[.bool s4, .slice A4 n4 c4, .bool s4', .slice A4' n4' c4'] := by
      rw [hW4]; exact (((hS3.set_ 0 (.bool s4)).set_ 1 (.slice A4 n4 c4)).set_ 2 (.bool s4')).set_ 3 (.slice A4' n4' c4')
    have hq4 : IsRat W4 (.bool s4) (.slice A4 n4 c4) (.bool s4') (.slice A4' n4' c4') (sumVal hs g (ps.take (k + 1))) := by
      rw [hW4, HSQ.out]; exact ⟨hq9.1.set4 hS3.type (by decide) _ _ _ _, hq9.2.set4 hS3.type (by decide) _ _ _ _⟩
    have hlb4 := heap_beside hlb3 hb4 (by simp; omega)
    have hD4 := heap_beside hD3 hb4 (by simp; omega)
    have hR4 := hR3.beside hb4 (by simp; omega)
    have hb5 : Beside [D + 1] W4 (W4.putObj (D + 1) (.loop r)) := Beside.putObj _ _ _
    have hJ6 : SumJ hs g ps (D + 1) D sb (w.heap.size + 1 + 1) r (k + 1) (W4.putObj (D + 1) (.loop r)) :=
      ⟨World.putObj_heap_same (block_lt hlb4), heap_beside hD4 hb5 (by simp), ⟨_, _, _, _, _, _, _, _, hS4.beside hb5 (by simp; omega), hq4.keep (KeepT.one hb5 hlb4 (fun _ _ _ e => by cases e))⟩, hR4.beside hb5 (by simp; omega)⟩
    have hbb : Beside [sb, D + 1, D] W (W4.putObj (D + 1) (.loop r)) :=
      ((((Beside.of_ext hEa).trans (hbe.mono (by simp))).trans (Beside.of_ext hE9)).trans (hb4.mono (by simp))).trans (hb5.mono (by simp))
    have HFIN := Lib.hid (And.intro hlb4 (And.intro hJ6 hbb))
    rw [hW4] at HFIN
    clear hW4 hb4 hS4 hq4 hlb4 hD4 hR4 hb5 hJ6 hbb hlb3 hD3 hR3 hS3 hq9
    gi_wp2
    exact ⟨HFIN.out.1, HFIN.out.2⟩
  rintro e W5 ⟨⟨v, rfl⟩, hJ5, hE5, hM5⟩
  refine ⟨⟨_, rfl⟩, hJ5.loop, ?_⟩
  clear hr1 hr2 hr3 hr4 hr5 hr6
  gi_upto_region 6 with fail
  obtain ⟨W6, hW6⟩ : ∃ W6 : World, W6 = W5.putObj (D + 1) (.loop re) := ⟨_, rfl⟩
  rw [← hW6]
  have hbe : Beside [D + 1] W5 W6 := by rw [hW6]; exact Beside.putObj _ _ _
  have hkt : KeepT [123] W5 W6 := KeepT.one hbe hJ5.loop (fun _ _ _ e => by cases e)
  obtain ⟨-, hDa, ⟨s9, A9, n9, c9, s0, A0', n0', c0', hSa, hQa⟩, hRa⟩ := hJ5
  rw [List.take_length] at hQa
  have hS6 := hSa.beside hbe (by simp; omega)
  have hQ6 := hQa.keep hkt
  have hD6 := heap_beside hDa hbe (by simp)
  have hR6 := hRa.beside hbe (by simp; omega)
  have hM6 := hM5.beside hbe (by simp; omega)
  have hE6 : Ext w W6 := hE5.beside hbe (by simp; omega)
  clear hW6 hSa hQa hDa hRa hkt hbe hM5 hE5
  have f6 := hS6.four
  have z6 := hR6.four
  have hmx : Tryz.prog.follows .mixedOrders = true := by kernel_rfl
  have HS6 := Lib.hid hS6
  have HQ6 := Lib.hid hQ6
  have HD6 := Lib.hid hD6
  have HR6 := Lib.hid hR6
  have HM6 := Lib.hid hM6
  clear hS6 hQ6 hD6 hR6 hM6
  refine wpIn_mono ?_ noPanic_le
  gi_region_with_o (first | (refine ⟨trivial, ?_⟩; gi_at_call 38; refine (callsIn_wide.2 (Keys_any _ _)).mono ?_; rintro e w7 ⟨kb, rfl, hkb, hkc, hE7⟩; have hE67 : Ext W6 w7 := (by (repeat (first | with_reducible assumption | with_reducible exact Ext.refl _ | with_reducible refine Ext.drew ?_ | with_reducible refine Ext.drewN ?_ _ | with_reducible refine Ext.alloc ?_ _ | with_reducible refine Ext.set2 ?_ (by omega) _ _ | with_reducible refine Ext.setCell ?_ (by first | omega | (simp; done) | (simp; omega)) _ | with_reducible refine Ext.trans ?_ (by with_reducible assumption)))); have f7 := (HS6.out.ext hE67).four; have z7 := (HR6.out.ext hE67).four) | (refine ⟨trivial, ?_⟩; gi_at_call 37; refine (callsIn_wide.2 (SortedKeys_any kb _ ps.length (missK hs g ps) _ (by omega) hkb hkc (HM6.out.ext (by (repeat (first | with_reducible assumption | with_reducible exact Ext.refl _ | with_reducible refine Ext.drew ?_ | with_reducible refine Ext.drewN ?_ _ | with_reducible refine Ext.alloc ?_ _ | with_reducible refine Ext.set2 ?_ (by omega) _ _ | with_reducible refine Ext.setCell ?_ (by first | omega | (simp; done) | (simp; omega)) _ | with_reducible refine Ext.trans ?_ (by with_reducible assumption))))))).mono ?_; rintro e w8 ⟨A8, k8, c8, rfl, hk8, hs8, hE8⟩; have hE68 : Ext W6 w8 := (by (repeat (first | with_reducible assumption | with_reducible exact Ext.refl _ | with_reducible refine Ext.drew ?_ | with_reducible refine Ext.drewN ?_ _ | with_reducible refine Ext.alloc ?_ _ | with_reducible refine Ext.set2 ?_ (by omega) _ _ | with_reducible refine Ext.setCell ?_ (by first | omega | (simp; done) | (simp; omega)) _ | with_reducible refine Ext.trans ?_ (by with_reducible assumption)))); have f8 := (HS6.out.ext hE68).four; have z8 := (HR6.out.ext hE68).four))
  all_goals (refine noPanic_normal ?_; go_simp; gi_wp2)
  all_goals
    have hD8 := heap_beside HD6.out (Beside.of_ext (bs := []) hE68) (by simp)
    have hR8 := HR6.out.ext hE68
    have hQ8 := HQ6.out.ext hE68
    obtain ⟨W9, hW9⟩ : ∃ W9 : World, W9 = (((w8.setCell ⟨w.heap.size + 1 + 1, 0, none⟩ (.bool s9)).setCell ⟨w.heap.size + 1 + 1, 1, none⟩ (.slice A9 n9 c9)).setCell ⟨w.heap.size + 1 + 1, 2, none⟩ (.bool s0)).setCell ⟨w.heap.size + 1 + 1, 3, none⟩ (.slice A0' n0' c0') := ⟨_, rfl⟩
    have hb9 : Beside [w.heap.size + 1 + 1] w8 W9 := by
      rw [hW9]
      exact Beside.of_grown (row := some (w.heap.size + 1 + 1)) (grow_set (grow_set (grow_set (grow_set (World.grownBy.refl _ _) 0 _) 1 _) 2 _) 3 _) (fun k hk => by injection hk with hk; simp [hk])
    have hR9 : Blk W9 (w.heap.size + 1 + 1) 39 #[.bool s9, .slice A9 n9 c9, .bool s0, .slice A0' n0' c0'] := by
      rw [hW9]; exact (((hR8.set_ 0 (.bool s9)).set_ 1 (.slice A9 n9 c9)).set_ 2 (.bool s0)).set_ 3 (.slice A0' n0' c0')
    have hk9 : KeepT [9, 123] w8 W9 := by
      rw [hW9]
      have t0 := hR8.type
      have t1 := t0.setCell ⟨w.heap.size + 1 + 1, 0, none⟩ (.bool s9)
      have t2 := t1.setCell ⟨w.heap.size + 1 + 1, 1, none⟩ (.slice A9 n9 c9)
      have t3 := t2.setCell ⟨w.heap.size + 1 + 1, 2, none⟩ (.bool s0)
      exact ((((KeepT.refl _ _).set (p := ⟨w.heap.size + 1 + 1, 0, none⟩) t0 (by decide) _).set (p := ⟨w.heap.size + 1 + 1, 1, none⟩) t1 (by decide) _).set (p := ⟨w.heap.size + 1 + 1, 2, none⟩) t2 (by decide) _).set (p := ⟨w.heap.size + 1 + 1, 3, none⟩) t3 (by decide) _
    have hD9 := heap_beside hD8 hb9 (by simp; omega)
    have hE9 : Ext w W9 := (hE6.trans hE68).beside hb9 (by simp; omega)
    have hb10 : Beside [D] W9 (W9.putObj D (.deferred none)) := Beside.putObj _ _ _
    have hk10 : KeepT [9, 123] W9 (W9.putObj D (.deferred none)) := KeepT.one hb10 hD9 (fun _ _ _ e => by cases e)
    have hR10 := hR9.beside hb10 (by simp; omega)
    have y10 := hR10.four
    rw [← hW9]
    refine ⟨by simp, .inl ⟨_, _, rfl, run_takeDeferred hD9, ?_⟩⟩
    refine ⟨.tuple #[.agg #[.bool s9, .slice A9 n9 c9, .bool s0, .slice A0' n0' c0'], .slice A8 (sortedOf (missK hs g ps)).length c8], by simp [results, Tryz.results10, go_sem, y10], ?_⟩
    refine ⟨_, _, _, _, _, rfl, hQ8.keep ((hk9.trans hk10).mono (by decide)), ?_, hE9.beside hb10 (by simp; omega)⟩
    rw [hk8] at hs8
    exact hs8.keep (hk9.trans hk10) (by decide)

end Go.Proofs.YtekipapkcgoieaaGreatDoor

/- kronecker.Holds, R38.Holds. -/
namespace Go.Proofs.YtekipapkcgoieaaGreatDoor
open Go.RowKit
attribute [local go_sem ↓] Go.wp_at_zero Go.wp_at_succ

def holdsOf (hs : List HeldD) (g : List Int) (ps : List PartD) (tt : Rat) : Bool := (sortedOf (missK hs g ps)).isEmpty && decide (sumVal hs g ps = tt)
theorem icmp_ne0 {p q : Rat} : (icmp (p.num * q.den) (q.num * p.den) == 0) = decide (p = q) := cross_eq p q

set_option maxRecDepth 100000 in
set_option maxHeartbeats 4000000 in
theorem HoldsK_any (av a b c' d sv gv : Value) (ps : List PartD) (tt : Rat) (hs : List HeldD) (g : List Int) (w : World) (hpl : ps.length ≤ 5000) (hlen : hs.length ≤ 100000) (hgl : g.length ≤ 100000000) (hok : ∀ h ∈ hs, HeldOk h) (hp : ∀ p ∈ ps, PartTw p) (hnl : ∀ p ∈ ps, p.name.length ≤ 1000) (htn : tt.num.natAbs ≤ 1000000000) (htd : tt.den ≤ 1000)
    (h0 : IsParts w av ps) (h1 : IsRat w a b c' d tt) (h3 : IsShelf w sv hs) (h4 : IsNums w gv g) :
    Calls Tryz.prog 25 #[.agg #[av, a, b, c', d], .agg #[sv], gv] w fun e w' => e = .returned (.bool (holdsOf hs g ps tt)) ∧ Ext w w' := by
  have hSum := fun (W : World) (k : Ext w W) => SumK_any av a b c' d sv gv ps tt hs g W hpl hlen hgl hok hp hnl (h0.ext k) (h1.ext k) (h3.ext k) (h4.ext k)
  have hst := sumVal_tw (g := g) hok hp ps.length (Nat.le_refl _)
  rw [List.take_length] at hst
  have hsd := hst.den
  have hsn := hst.num
  have HSUM := Lib.hid hSum
  have H1 := Lib.hid h1
  obtain ⟨A0, n0, rfl⟩ := h0.shape
  obtain ⟨s1, A1, n1, c1, s2, A2, n2, c2, rfl, rfl, rfl, rfl⟩ := h1.form
  obtain ⟨A, c, rfl⟩ := h3.shape
  obtain ⟨Ag, cg, rfl⟩ := h4.shape
  clear h0 h1 h3 h4 hok hp hnl hSum hst
  have hj : ps.length * 1000000000000 ≤ 5000000000000000 := by omega
  go_enter Tryz.func25, Tryz.ntmps25
  go_wp2_with fail
  obtain ⟨W, hW⟩ : ∃ W : World, W = (w.alloc (.cells #[.slice A0 ps.length n0, .bool s1, .slice A1 n1 c1, .bool s2, .slice A2 n2 c2] 41)).alloc (.cells #[.slice A hs.length c] 30) := ⟨_, rfl⟩
  rw [← hW]
  have hE : Ext w W := by rw [hW]; exact ((Ext.refl w).alloc _).alloc _
  have hBa : Blk W w.heap.size 41 #[.slice A0 ps.length n0, .bool s1, .slice A1 n1 c1, .bool s2, .slice A2 n2 c2] := by rw [hW]; exact (Blk.newAt _ _ _ (by simp)).alloc _
  clear hW
  refine (HSUM.out W hE).mono ?_
  rintro e w1 ⟨a', b', c'', d', m, rfl, hq, hm, hE1⟩
  obtain ⟨s3, A3, n3, c3, s4, A4, n4, c4, rfl, rfl, rfl, rfl⟩ := hq.form
  obtain ⟨A5, c5, rfl⟩ := hm.shape
  have HQ := Lib.hid hq
  have HBA := Lib.hid (hBa.ext hE1)
  clear hq hm hBa HSUM
  go_upto_region 2 with fail
  obtain ⟨w2, hw2⟩ : ∃ w2 : World, w2 = w1.alloc (.cells #[.bool s3, .slice A3 n3 c3, .bool s4, .slice A4 n4 c4] 39) := ⟨_, rfl⟩
  rw [← hw2]
  have hE2 : Ext w1 w2 := by rw [hw2]; exact (Ext.refl _).alloc _
  have hB7 : Blk w2 w1.heap.size 39 #[.bool s3, .slice A3 n3 c3, .bool s4, .slice A4 n4 c4] := by rw [hw2]; exact Blk.newAt _ _ _ rfl
  clear hw2
  generalize w1.heap.size = gb at *
  have q7 := hB7.four
  have qa := (HBA.out.ext hE2).five
  have hC := rCmp_any (.bool s3) (.slice A3 n3 c3) (.bool s4) (.slice A4 n4 c4) (.bool s1) (.slice A1 n1 c1) (.bool s2) (.slice A2 n2 c2) (sumVal hs g ps) tt w2 (by omega) (by omega) (by omega) (by omega) (HQ.out.ext hE2) (H1.out.ext (hE.trans (hE1.trans hE2)))
  obtain ⟨z, hz⟩ : ∃ z : Int, icmp ((sumVal hs g ps).num * tt.den) (tt.num * (sumVal hs g ps).den) = z := ⟨_, rfl⟩
  have hz0 : (z == 0) = decide (sumVal hs g ps = tt) := by rw [← hz]; exact cross_eq _ _
  rw [hz] at hC
  have HC := Lib.hid hC
  have HH := Lib.hid (show holdsOf hs g ps tt = ((sortedOf (missK hs g ps)).isEmpty && decide (sumVal hs g ps = tt)) from rfl)
  rw [← hz0] at HH
  have hall := (hE.trans (hE1.trans hE2))
  clear hC hz hz0 hsd hsn hj
  by_cases hm0 : (sortedOf (missK hs g ps)).length = 0
  · have hm1 := List.eq_nil_of_length_eq_zero hm0
    rw [hm1] at HH ⊢
    clear hm0 hm1
    go_wp2_with (go_at_call 61; refine HC.out.mono ?_; rintro e w3 ⟨rfl, hE3⟩)
    go_ret
    exact ⟨by rw [HH.out]; rfl, hall.trans hE3⟩
  · have hm1 : (sortedOf (missK hs g ps)).isEmpty = false := by cases h : sortedOf (missK hs g ps) with
      | nil => rw [h] at hm0; simp at hm0
      | cons x l => rfl
    rw [hm1] at HH
    have hl0 : (((sortedOf (missK hs g ps)).length : Int) == 0) = false := beq_eq_false_iff_ne.2 (by omega)
    go_wp2
    go_ret
    exact ⟨by rw [HH.out]; rfl, hall⟩

end Go.Proofs.YtekipapkcgoieaaGreatDoor

/- R38.Parts: the shelf of an audit's entries. -/
namespace Go.Proofs.YtekipapkcgoieaaGreatDoor
open Go.RowKit
attribute [local go_sem ↓] Go.wp_at_zero Go.wp_at_succ

/-! The entries of parts. -/
def numOf (p : PartD) : Nat := vOf (p.name.drop 2)
def entR (p : PartD) : HeldD := ⟨p.name, [twelve (numOf p)], []⟩
theorem vOf_name (m : Nat) : vOf ((nameOf m).drop 2) = m := by
  show vOf (Lib.decDigits m) = m
  exact decDigits_vOf m
theorem nameOf_inj {a b : Nat} (h : nameOf a = nameOf b) : a = b := by rw [← vOf_name a, ← vOf_name b, h]
theorem partM_some {n m : Nat} {p : PartD} (h : partM n m = some p) : p = ⟨nameOf m, 0, mkRat (cnt (4 * n) m (2 * n) (4 * n + 1)) 12, false, 0⟩ := by
  unfold partM at h
  split at h
  · injection h with h; exact h.symm
  · cases h
theorem parts_mem {n j : Nat} {p : PartD} (h : p ∈ partsR n j) : ∃ m, m < j ∧ p = ⟨nameOf m, 0, mkRat (cnt (4 * n) m (2 * n) (4 * n + 1)) 12, false, 0⟩ := by
  unfold partsR at h
  rw [List.mem_filterMap] at h
  obtain ⟨m, hm, h⟩ := h
  exact ⟨m, List.mem_range.1 hm, partM_some h⟩
theorem parts_names (n : Nat) : ∀ j, ((partsR n j).map PartD.name).Pairwise (· ≠ ·)
  | 0 => by simp [partsR]
  | j + 1 => by
    rw [partsR_succ, List.map_append, List.pairwise_append]
    refine ⟨parts_names n j, ?_, ?_⟩
    · cases partM n j <;> simp
    · intro a ha b hb
      obtain ⟨p, hp, rfl⟩ := List.mem_map.1 ha
      obtain ⟨m, hm, rfl⟩ := parts_mem hp
      cases h : partM n j with
      | none => rw [h] at hb; simp at hb
      | some q =>
        rw [h] at hb
        simp at hb
        subst hb
        rw [partM_some h]
        intro e
        have := nameOf_inj e
        omega
theorem nameOf_len (m : Nat) (hm : m < 4294967296) : 2 ≤ (nameOf m).length ∧ (nameOf m).length ≤ 23 := by
  have := decDigits_len m hm
  unfold nameOf
  simp
  omega
theorem entR_ok {n j : Nat} (hj : j ≤ 10001) {p : PartD} (h : p ∈ partsR n j) : HeldOk (entR p) := by
  obtain ⟨m, hm, rfl⟩ := parts_mem h
  refine ⟨by simp [entR], by simp [entR], fun v hv => ?_⟩
  simp only [entR, List.mem_singleton] at hv
  subst hv
  have := twelve_bd (n := ((numOf ⟨nameOf m, 0, mkRat (cnt (4 * n) m (2 * n) (4 * n + 1)) 12, false, 0⟩ : Nat) : Int)) (by omega) (by unfold numOf; rw [vOf_name]; omega)
  omega
theorem cnt_le2 (N n2 : Nat) (m : Int) (j : Nat) : cnt N m n2 j ≤ 2 := by
  by_cases h : ∃ t : Nat, m = (N : Int) - (t : Int) * t
  · obtain ⟨t, rfl⟩ := h
    rw [cnt_sq]
    split <;> split <;> omega
  · rw [cnt_none N n2 m (fun t ht => h ⟨t, ht⟩)]
    omega
theorem parts_tw {n j : Nat} {p : PartD} (h : p ∈ partsR n j) : PartTw p := by
  obtain ⟨m, hm, rfl⟩ := parts_mem h
  refine ⟨⟨(cnt (4 * n) m (2 * n) (4 * n + 1) : Nat), rfl, ?_⟩, by simp⟩
  have := cnt_le2 (4 * n) (2 * n) (m : Int) (4 * n + 1)
  have e1 : (4 * (n : Int)) = ((4 * n : Nat) : Int) := by omega
  have e2 : (2 * (n : Int)) = ((2 * n : Nat) : Int) := by omega
  rw [e1, e2]
  omega
theorem parts_short {n j : Nat} (hj : j ≤ 10001) {p : PartD} (h : p ∈ partsR n j) : p.name.length ≤ 1000 := by
  obtain ⟨m, hm, rfl⟩ := parts_mem h
  have := nameOf_len m (by omega)
  simp only
  omega

theorem sub_str (x : Value) (lo hi mx : Option Value) : Instr.slice 9 x lo hi mx = bigSub 9 x lo hi mx := rfl
theorem run_tail_name (m : Nat) (w : World) (hm : m < 4294967296) : (bigSub 9 (.string ⟨(nameOf m).toArray⟩) (some (.int .i64 2)) none none).run Tryz.prog w = .ok (.string ⟨(Lib.decDigits m).toArray⟩) w := by
  have hl := nameOf_len m hm
  have h2 : (2 : Int) ≤ ((nameOf m).length : Int) := by omega
  have hs : ByteArray.size ⟨(nameOf m).toArray⟩ = (nameOf m).length := by simp [ByteArray.size]
  have he : ByteArray.extract ⟨(nameOf m).toArray⟩ 2 (nameOf m).length = ⟨(Lib.decDigits m).toArray⟩ := by
    rw [ByteArray.ext_iff, ByteArray.data_extract]
    simp [nameOf]
  unfold bigSub Instr.slice
  simp [go_sem, Instr.sliceBounds, hs, h2, he]

end Go.Proofs.YtekipapkcgoieaaGreatDoor
