/-
  merge.Compare of different names, merge.held, merge.union of shelves, merge.Merge, merge.Add.
-/
import Derived.Test.YtekipapkcgoieaaGreatDoorJ09
import Derived.Test.YtekipapkcgoieaaGreatDoorShelf
set_option linter.unusedVariables false
set_option linter.unusedSimpArgs false

/- merge.Compare of different names, merge.held, merge.union of shelves, merge.Merge, merge.Add. -/
namespace Go.Proofs.YtekipapkcgoieaaGreatDoor
open Go.RowKit
attribute [local go_sem ↓] Go.wp_at_zero Go.wp_at_succ load_entry load_held store_entry store_held build_held slice_held sub_held

theorem compareBytes_eq : ∀ {a b : List UInt8}, a ≠ b → Lib.compareBytes a b = scmp a b
  | [], [], h => absurd rfl h
  | [], _ :: _, _ => by simp [Lib.compareBytes, scmp]
  | _ :: _, [], _ => by simp [Lib.compareBytes, scmp]
  | x :: a, y :: b, h => by
    unfold Lib.compareBytes
    by_cases h1 : x < y
    · rw [if_pos h1]
      unfold scmp
      rw [if_pos (List.cons_lt_cons_iff.2 (.inl h1))]
    · rw [if_neg h1]
      by_cases h2 : y < x
      · rw [if_pos h2]
        unfold scmp
        rw [if_neg]
        intro h3
        rcases List.cons_lt_cons_iff.1 h3 with h4 | ⟨rfl, _⟩
        · exact h1 h4
        · exact h1 h2
      · rw [if_neg h2]
        have e : x = y := by
          have a1 : ¬ x.toNat < y.toNat := h1
          have a2 : ¬ y.toNat < x.toNat := h2
          exact UInt8.toNat_inj.1 (by omega)
        subst e
        rw [compareBytes_eq (fun e => h (by rw [e]))]
        unfold scmp
        have : (x :: a < x :: b) ↔ a < b := by rw [List.cons_lt_cons_iff]; simp [h1]
        by_cases h3 : a < b
        · rw [if_pos h3, if_pos (this.2 h3)]
        · rw [if_neg h3, if_neg (fun h4 => h3 (this.1 h4))]

set_option maxRecDepth 100000 in
set_option maxHeartbeats 4000000 in
theorem CmpM_ne (cs ds : List Value) (a b : List UInt8) (w : World) (hne : a ≠ b) (hc : cs[0]? = some (.string ⟨a.toArray⟩)) (hd : ds[0]? = some (.string ⟨b.toArray⟩)) :
    Calls Tryz.prog 118 #[.agg cs.toArray, .agg ds.toArray] w fun e w' => e = .returned (.int .i64 (scmp a b)) ∧ Ext w w' := by
  have HCS := Lib.hid (fun w' => (Tryz.strings_Compare ⟨a.toArray⟩ ⟨b.toArray⟩ w').mono (R' := fun e w'' => e = .returned (.int .i64 (scmp a b)) ∧ w'' = w') fun e w'' ⟨he, hw⟩ => ⟨by rw [he]; congr 2; exact compareBytes_eq hne, hw⟩)
  have hle : scmp a b ≠ 0 := by unfold scmp; split <;> simp
  generalize scmp a b = z at *
  have hz : (z == 0) = false := beq_eq_false_iff_ne.2 hle
  have hz2 : (z != 0) = true := by simp [hle]
  go_enter Tryz.func118, Tryz.ntmps118
  go_wp2_with fail
  refine (HCS.out _).mono ?_
  rintro e w2 ⟨rfl, rfl⟩
  go_wp2
  refine bodyPost_ret (v := .int .i64 z) (by simp [results, Tryz.results118, go_sem]) rfl ?_
  exact ⟨rfl, (((Ext.refl w).alloc _).alloc _).alloc _⟩

set_option maxRecDepth 100000 in
set_option maxHeartbeats 4000000 in
theorem HeldM_ne (cs ds : List Value) (a b : List UInt8) (w : World) (hcl : cs.length = 32) (hdl : ds.length = 32) (hne : a ≠ b) (hc : cs[0]? = some (.string ⟨a.toArray⟩)) (hd : ds[0]? = some (.string ⟨b.toArray⟩)) :
    Calls Tryz.prog 83 #[.agg cs.toArray, .agg ds.toArray] w fun e w' => e = .returned (.int .i64 (scmp a b)) ∧ Ext w w' := by
  have HC := Lib.hid (fun w' => CmpM_ne (cs.take 31) (ds.take 31) a b w' hne (by rw [List.getElem?_take, if_pos (by omega)]; exact hc) (by rw [List.getElem?_take, if_pos (by omega)]; exact hd))
  go_enter Tryz.func83, Tryz.ntmps83
  go_upto_region 1 with fail
  obtain ⟨W, hW⟩ : ∃ W : World, W = (w.alloc (.cells cs.toArray 82)).alloc (.cells ds.toArray 82) := ⟨_, rfl⟩
  rw [← hW]
  have hE : Ext w W := by rw [hW]; exact ((Ext.refl w).alloc _).alloc _
  have hB1 : Blk W w.heap.size 82 cs.toArray := by rw [hW]; exact (Blk.newAt _ _ _ (by simp)).alloc _
  have hB2 : Blk W (w.heap.size + 1) 82 ds.toArray := by rw [hW]; exact Blk.newAt _ _ _ (by simp)
  have l1 : (bigLoad 77 (.pointer (some ⟨w.heap.size, 0, none⟩))).run Tryz.prog W = .ok (.agg (cs.take 31).toArray) W := run_load_entry W _ _ _ (by simp [hcl]) (rangeAt_take hB1.range 31)
  have l2 : (bigLoad 77 (.pointer (some ⟨w.heap.size + 1, 0, none⟩))).run Tryz.prog W = .ok (.agg (ds.take 31).toArray) W := run_load_entry W _ _ _ (by simp [hdl]) (rangeAt_take hB2.range 31)
  have hl1 := hB1.lt
  have hl2 := hB2.lt
  clear hW hc hd hB1 hB2
  go_wp2_with fail
  refine (HC.out W).mono ?_
  rintro e w2 ⟨rfl, hE2⟩
  go_wp2
  go_ret
  exact ⟨rfl, hE.trans hE2⟩

def sliceLen : Value → Nat
  | .slice _ n _ => n
  | _ => 0
theorem rows_first {w : World} {A : Option Addr} {n c : Nat} {l : List Value} {r : List (List Value)} (h : RowsOf 82 32 w (.slice A n c) (l :: r)) :
    ∃ b o, A = some ⟨b, o, none⟩ ∧ ∀ w', Ext w w' → w'.rangeAt b o l := by
  obtain ⟨b, o, e, _, hr⟩ := h.row 0 (by simp)
  exact ⟨b, o, e, fun w' hw => by simpa using hr w' (KeepT.ext hw)⟩
theorem rows_rest {w : World} {A : Option Addr} {n c : Nat} {l : List Value} {r : List (List Value)} (h : RowsOf 82 32 w (.slice A (n + 1) c) (l :: r)) :
    RowsOf 82 32 w (.slice (cutAt A c 1 32) n (c - 1)) r := by
  simpa using h.from 1 (by omega)

set_option maxRecDepth 100000 in
set_option maxHeartbeats 8000000 in
theorem Union_one (sv bv : Value) (xl : List Value) (hs : List HeldD) (e : HeldD) (w : World) (hlen : hs.length ≤ 100000) (hne : ∀ h ∈ hs, h.name ≠ e.name)
    (h1 : IsShelf w sv hs) (h2 : RowsOf 82 32 w bv [xl]) (hx : IsHeld w xl e) :
    Calls Tryz.prog 82 #[sv, bv, .func (.func 83) #[] #[], .func (.func 84) #[] #[]] w fun e' w' => ∃ (v : Value) (k : Nat), e' = .returned v ∧ k ≤ hs.length ∧ IsShelf w' v (hs.take k ++ e :: hs.drop k) ∧ Ext w w' := by
  obtain ⟨ls, hR, hA⟩ := h1
  obtain ⟨A, c, rfl⟩ := hR.shape
  obtain ⟨B, d, rfl⟩ := h2.shape
  have hnl := hA.length
  have HR := Lib.hid hR
  have H2 := Lib.hid h2
  have HA := Lib.hid hA
  have HX := Lib.hid hx
  have HNE := Lib.hid hne
  have HNL := Lib.hid hnl
  have hll : ls.length ≤ 100000 := by omega
  clear hR h2 hA hx hne hnl
  go_enter Tryz.func82, Tryz.ntmps82
  go_wp2_with fail
  go_loopw [0, 1, 9] (fun a b o wr => ∃ (i m q p : Nat) (A' : Option Addr) (c' : Nat) (B' : Option Addr) (d' : Nat), i + m = ls.length ∧ q + p = 1 ∧ m ≤ c' ∧ p ≤ d' ∧ a = .slice A' m c' ∧ b = .slice B' p d' ∧ Hid (RowsOf 82 32 w (.slice A' m c') (ls.drop i)) ∧ Hid (RowsOf 82 32 w (.slice B' p d') ([xl].drop q)) ∧ Hid (wr.ownsRow w.heap.size 82 32 o (i + q) (ls.take i ++ [xl].take q).flatten) ∧ Ext w wr) (fun a b _ _ => sliceLen a + sliceLen b)
  case atStart => exact ⟨0, ls.length, 0, 1, A, c, B, d, by omega, rfl, HR.out.cap, H2.out.cap, rfl, rfl, Lib.hid (by simpa using HR.out), Lib.hid (by simpa using H2.out), Lib.hid (World.ownsRow_nil _ _ _ _), Ext.refl _⟩
  case round =>
    obtain ⟨i, m, q, p, A', c', B', d', him, hqp, hmc, hpd, rfl, rfl, hRa, hRb, hO, hEr⟩ := hrel
    obtain ⟨wo, rfl⟩ : ∃ wo : World, wo = wr := ⟨_, rfl⟩
    have HOB := Lib.hid (own_block hO.out)
    by_cases hcont : 0 < m ∧ q = 0
    · obtain ⟨hm0, rfl⟩ := hcont
      obtain rfl : p = 1 := by omega
      obtain ⟨m', rfl⟩ : ∃ m', m = m' + 1 := ⟨m - 1, by omega⟩
      have hil : i < ls.length := by omega
      have hdr : ls.drop i = ls[i] :: ls.drop (i + 1) := List.drop_eq_getElem_cons hil
      have hih : i < hs.length := by rw [← HNL.out]; exact hil
      have hli := HA.out.get i _ _ (List.getElem?_eq_getElem hil) (List.getElem?_eq_getElem hih)
      have hnn := HNE.out _ (List.getElem_mem hih)
      have htk : ls.take (i + 1) = ls.take i ++ [ls[i]] := List.take_succ_eq_append_getElem hil
      have hRa' := hRa
      rw [hdr] at hRa
      generalize ls[i] = l at *
      generalize hs[i] = h at *
      have hRb2 : RowsOf 82 32 w (.slice B' (0 + 1) d') (xl :: []) := by simpa using hRb.out
      obtain ⟨b0, o0, rfl, hc0⟩ := rows_first hRa.out
      obtain ⟨b1, o1, rfl, hc1⟩ := rows_first hRb2
      have HLL := Lib.hid hli
      have HTK := Lib.hid htk
      have HC := Lib.hid (fun w' => HeldM_ne l xl h.name e.name w' hli.len HX.out.len hnn hli.name HX.out.name)
      have hz : scmp h.name e.name = -1 ∨ scmp h.name e.name = 1 := by unfold scmp; split <;> simp
      generalize scmp h.name e.name = z at *
      have LA := Lib.hid (fun (w' : World) (k : Ext w w') => run_load_held w' b0 o0 l hli.len (hc0 w' k))
      have LB := Lib.hid (fun (w' : World) (k : Ext w w') => run_load_held w' b1 o1 xl HX.out.len (hc1 w' k))
      have la := fun (w' : World) (k : Ext wo w') => LA.out w' (hEr.trans k)
      have lb := fun (w' : World) (k : Ext wo w') => LB.out w' (hEr.trans k)
      have HR2 := Lib.hid hRb2
      clear hli htk hnn hdr hc0 hc1 hRb2
      go_upto_region 3 with fail
      go_cut [10] (fun cv wx => cv = .int .i64 z ∧ Ext wo wx)
      case first =>
        go_region_held3 (fun w' => Ext wo w')
          (first | ((repeat (first | with_reducible assumption | with_reducible exact Ext.refl _ | with_reducible refine Ext.drew ?_ | with_reducible refine Ext.drewN ?_ _ | with_reducible refine Ext.alloc ?_ _ | with_reducible refine Ext.set2 ?_ (by omega) _ _ | with_reducible refine Ext.setCell ?_ (by first | omega | (simp; done) | (simp; omega)) _ | with_reducible refine Ext.trans ?_ (by with_reducible assumption))); done))
          (first | (go_at_call 83; (with_reducible refine (HC.out _).mono ?_); rintro e w3 ⟨rfl, hE3⟩))
        all_goals
          go_wp2_with fail
          go_meet
          exact ⟨rfl, by (repeat (first | with_reducible assumption | with_reducible exact Ext.refl _ | with_reducible refine Ext.drew ?_ | with_reducible refine Ext.drewN ?_ _ | with_reducible refine Ext.alloc ?_ _ | with_reducible refine Ext.set2 ?_ (by omega) _ _ | with_reducible refine Ext.setCell ?_ (by first | omega | (simp; done) | (simp; omega)) _ | with_reducible refine Ext.trans ?_ (by with_reducible assumption)))⟩
      case rest =>
        obtain ⟨rfl, hEc⟩ := hcut
        have HWB := Lib.hid hEr.size'
        rcases hz with rfl | rfl
        · have ro := fun w' => run_one_held w' l HLL.out.len
          have rs : ∀ w', (bigSub 28 (.slice (some ⟨b0, o0, none⟩) (m' + 1) c') (some (.int .i64 1)) none none).run Tryz.prog w' = .ok (.slice (cutAt (some ⟨b0, o0, none⟩) c' 1 32) m' (c' - 1)) w' := fun w' => run_from_held w' _ _ _ 1 (by omega) hmc
          have la2 := LA.out
          clear la lb
          go_upto_region 6 with fail
          go_region_held3 (fun w' => Ext w w')
            (first | ((repeat (first | with_reducible assumption | with_reducible exact Ext.refl _ | with_reducible refine Ext.drew ?_ | with_reducible refine Ext.drewN ?_ _ | with_reducible refine Ext.alloc ?_ _ | with_reducible refine Ext.set2 ?_ (by omega) _ _ | with_reducible refine Ext.setCell ?_ (by first | omega | (simp; done) | (simp; omega)) _ | with_reducible refine Ext.trans ?_ (by with_reducible assumption))); done))
            (first | ((with_reducible refine step_at 50 ?_); go_must ((refine step_append_rows rfl (.tmp 45) (.tmp 49) _ rfl w.heap.size 82 32 616 Tryz.underlying28 held_info (by decide) _ _ _ rfl (own_ext hO.out ?q1) _ [l] rfl (RowsOf.one_blk (by (repeat (first | with_reducible assumption | with_reducible exact Blk.newAt _ _ _ (by first | rfl | (simp; done) | (simp; omega)) | with_reducible refine Blk.alloc ?_ _ | with_reducible refine Blk.set2 (x := .bool false) (y := .slice none 0 0) ?_ _ _ | with_reducible refine Blk.far2 ?_ (by omega) _ _ | with_reducible refine Blk.drew ?_ | with_reducible refine Blk.ext ?_ (by with_reducible assumption)))) HLL.out.len ?q2) ?q4 ?q5 ?q6 ?_; (case q1 => (repeat (first | with_reducible assumption | with_reducible exact Ext.refl _ | with_reducible refine Ext.drew ?_ | with_reducible refine Ext.drewN ?_ _ | with_reducible refine Ext.alloc ?_ _ | with_reducible refine Ext.set2 ?_ (by omega) _ _ | with_reducible refine Ext.setCell ?_ (by first | omega | (simp; done) | (simp; omega)) _ | with_reducible refine Ext.trans ?_ (by with_reducible assumption)))); (case q2 => exact HLL.out.one); (case q4 => (simp; unfold maxLen; omega)); (case q5 => (simp; omega)); (case q6 => (have hsz := HWB.out; have hsz2 := hEc.size'; simp; omega)); intro v6 w6 hown6 hgr6; have hE6 : Ext w w6 := Ext.grown (by (repeat (first | with_reducible assumption | with_reducible exact Ext.refl _ | with_reducible refine Ext.drew ?_ | with_reducible refine Ext.drewN ?_ _ | with_reducible refine Ext.alloc ?_ _ | with_reducible refine Ext.set2 ?_ (by omega) _ _ | with_reducible refine Ext.setCell ?_ (by first | omega | (simp; done) | (simp; omega)) _ | with_reducible refine Ext.trans ?_ (by with_reducible assumption)))) hgr6 (fun k hk => HOB.out k hk)))))
          all_goals
            have hO7 : Hid (w6.ownsRow w.heap.size 82 32 v6 (i + 1 + 0) (ls.take (i + 1) ++ [xl].take 0).flatten) := Lib.hid (by rw [HTK.out]; simpa using hown6)
            clear hown6 hgr6 la2 ro rs
            go_wp2_with fail
            exact ⟨⟨i + 1, m', 0, 1, _, _, _, _, by omega, rfl, by omega, hpd, rfl, rfl, Lib.hid (rows_rest hRa.out), Lib.hid (by simpa using HR2.out), hO7, hE6⟩, by (simp [sliceLen])⟩
        · have ro := fun w' => run_one_held w' xl HX.out.len
          have rs : ∀ w', (bigSub 28 (.slice (some ⟨b1, o1, none⟩) 1 d') (some (.int .i64 1)) none none).run Tryz.prog w' = .ok (.slice (cutAt (some ⟨b1, o1, none⟩) d' 1 32) 0 (d' - 1)) w' := fun w' => run_from_held w' _ _ _ 1 (by omega) hpd
          have lb2 := LB.out
          clear la lb
          go_upto_region 8 with fail
          go_region_held3 (fun w' => Ext w w')
            (first | ((repeat (first | with_reducible assumption | with_reducible exact Ext.refl _ | with_reducible refine Ext.drew ?_ | with_reducible refine Ext.drewN ?_ _ | with_reducible refine Ext.alloc ?_ _ | with_reducible refine Ext.set2 ?_ (by omega) _ _ | with_reducible refine Ext.setCell ?_ (by first | omega | (simp; done) | (simp; omega)) _ | with_reducible refine Ext.trans ?_ (by with_reducible assumption))); done))
            (first | ((with_reducible refine step_at 61 ?_); go_must ((refine step_append_rows rfl (.tmp 56) (.tmp 60) _ rfl w.heap.size 82 32 616 Tryz.underlying28 held_info (by decide) _ _ _ rfl (own_ext hO.out ?q1) _ [xl] rfl (RowsOf.one_blk (by (repeat (first | with_reducible assumption | with_reducible exact Blk.newAt _ _ _ (by first | rfl | (simp; done) | (simp; omega)) | with_reducible refine Blk.alloc ?_ _ | with_reducible refine Blk.set2 (x := .bool false) (y := .slice none 0 0) ?_ _ _ | with_reducible refine Blk.far2 ?_ (by omega) _ _ | with_reducible refine Blk.drew ?_ | with_reducible refine Blk.ext ?_ (by with_reducible assumption)))) HX.out.len ?q2) ?q4 ?q5 ?q6 ?_; (case q1 => (repeat (first | with_reducible assumption | with_reducible exact Ext.refl _ | with_reducible refine Ext.drew ?_ | with_reducible refine Ext.drewN ?_ _ | with_reducible refine Ext.alloc ?_ _ | with_reducible refine Ext.set2 ?_ (by omega) _ _ | with_reducible refine Ext.setCell ?_ (by first | omega | (simp; done) | (simp; omega)) _ | with_reducible refine Ext.trans ?_ (by with_reducible assumption)))); (case q2 => exact HX.out.one); (case q4 => (simp; unfold maxLen; omega)); (case q5 => (simp; omega)); (case q6 => (have hsz := HWB.out; have hsz2 := hEc.size'; simp; omega)); intro v6 w6 hown6 hgr6; have hE6 : Ext w w6 := Ext.grown (by (repeat (first | with_reducible assumption | with_reducible exact Ext.refl _ | with_reducible refine Ext.drew ?_ | with_reducible refine Ext.drewN ?_ _ | with_reducible refine Ext.alloc ?_ _ | with_reducible refine Ext.set2 ?_ (by omega) _ _ | with_reducible refine Ext.setCell ?_ (by first | omega | (simp; done) | (simp; omega)) _ | with_reducible refine Ext.trans ?_ (by with_reducible assumption)))) hgr6 (fun k hk => HOB.out k hk)))))
          all_goals
            have hO7 : Hid (w6.ownsRow w.heap.size 82 32 v6 (i + 1) (ls.take i ++ [xl].take 1).flatten) := Lib.hid (by simpa using hown6)
            have HR3 := Lib.hid (rows_rest HR2.out)
            clear hown6 hgr6 lb2 ro rs
            go_wp2_with fail
            exact ⟨⟨i, m' + 1, 1, 0, _, _, _, _, by omega, rfl, hmc, by omega, rfl, rfl, hRa', Lib.hid (by simpa using HR3.out), hO7, hE6⟩, by (simp [sliceLen])⟩
    · have key : m = 0 ∨ (0 < m ∧ p = 0) := by omega
      have hRR : ls.take i ++ [xl].take q ++ ls.drop i ++ [xl].drop q = ls.take i ++ xl :: ls.drop i := by
        by_cases hq : q = 0
        · subst hq
          have : ls.drop i = [] := List.drop_of_length_le (by omega)
          rw [this]; simp
        · obtain rfl : q = 1 := by omega
          simp
      have hrl : ∀ l ∈ ls.take i ++ xl :: ls.drop i, l.length = 32 ∧ ∀ u ∈ l, u.oneCell' = true := by
        intro l hl
        rcases List.mem_append.1 hl with h | h
        · exact HR.out.1 l (List.mem_of_mem_take h)
        · rcases List.mem_cons.1 h with h | h
          · subst h
            exact ⟨HX.out.len, HX.out.one⟩
          · exact HR.out.1 l (List.mem_of_mem_drop h)
      have hdl : (ls.drop i).length = m := by rw [List.length_drop]; omega
      have hxd : ([xl].drop q).length = p := by rw [List.length_drop]; simp; omega
      have HRR := Lib.hid hRR
      have HRL := Lib.hid hrl
      have HDL := Lib.hid hdl
      have HXD := Lib.hid hxd
      have hih : i ≤ hs.length := by have := HNL.out; omega
      clear hRR hrl hdl hxd hcont
      rcases key with rfl | ⟨hm0, rfl⟩
      all_goals
        go_wp2_with (with_reducible refine stop_at 66 ?_)
        refine wpList_append_rows rfl (.tmp 64) (.tmp 65) _ rfl w.heap.size 82 32 616 Tryz.underlying28 held_info (by decide) _ _ _ rfl hO.out _ (ls.drop i) rfl (hRa.out.ext hEr) (by rw [HDL.out]; unfold maxLen; omega) (by rw [HDL.out]; omega) hEr.size' ?_
        intro v7 w7 hown7 hgr7
        have hE7 : Ext w w7 := Ext.grown hEr hgr7 (fun k hk => HOB.out k hk)
        rw [HDL.out] at hown7
        go_wp2_with (with_reducible refine stop_at 68 ?_)
        refine wpList_append_rows rfl (.tmp 66) (.tmp 67) _ rfl w.heap.size 82 32 616 Tryz.underlying28 held_info (by decide) _ _ _ rfl hown7 _ ([xl].drop q) rfl (hRb.out.ext hE7) (by rw [HXD.out]; unfold maxLen; omega) (by rw [HXD.out]; omega) hE7.size' ?_
        intro v8 w8 hown8 hgr8
        have hE8 : Ext w w8 := Ext.grown hE7 hgr8 (own_block hown7)
        have hS8 : IsShelf w8 v8 (hs.take i ++ e :: hs.drop i) := by
          refine ⟨ls.take i ++ xl :: ls.drop i, RowsOf.of_own (base := w.heap.size) HRL.out ?_, ((HA.out.mono fun _ _ h => h.ext hE8).take i).append (All2.append (All2.one (HX.out.ext hE8)) ((HA.out.mono fun _ _ h => h.ext hE8).drop i))⟩
          rw [← HRR.out]
          have e2 : (ls.take i ++ [xl].take q ++ ls.drop i ++ [xl].drop q).length = i + q + (ls.drop i).length + ([xl].drop q).length := by
            simp only [List.length_append, List.length_take]
            simp
            omega
          rw [e2, List.flatten_append, List.flatten_append, HDL.out]
          exact hown8
        have HS8 := Lib.hid hS8
        clear hown7 hown8 hgr7 hgr8 hS8
        go_wp2
        go_ret
        exact ⟨_, i, rfl, hih, HS8.out, hE8⟩

set_option maxRecDepth 100000 in
set_option maxHeartbeats 8000000 in
theorem MergeM_one (sv bv : Value) (xl : List Value) (hs : List HeldD) (e : HeldD) (w : World) (hlen : hs.length ≤ 100000) (hne : ∀ h ∈ hs, h.name ≠ e.name)
    (h1 : IsShelf w sv hs) (h2 : RowsOf 82 32 w bv [xl]) (hx : IsHeld w xl e) :
    Calls Tryz.prog 39 #[.agg #[sv], .agg #[bv]] w fun e' w' => ∃ (v : Value) (k : Nat), e' = .returned (.agg #[v]) ∧ k ≤ hs.length ∧ IsShelf w' v (hs.take k ++ e :: hs.drop k) ∧ Ext w w' := by
  obtain ⟨A, c, rfl⟩ := h1.shape
  obtain ⟨B, d, rfl⟩ := h2.shape
  have HU := Lib.hid (fun (w' : World) (k : Ext w w') => Union_one _ _ xl hs e w' hlen hne (h1.ext k) (h2.ext k) (hx.ext k))
  clear h1 h2 hx hne
  go_enter Tryz.func39, Tryz.ntmps39
  go_upto_region 1 with fail
  obtain ⟨W, hW⟩ : ∃ W : World, W = ((w.alloc (.cells #[.slice A hs.length c] 30)).alloc (.cells #[.slice B 1 d] 30)).alloc (.cells #[.slice none 0 0] 30) := ⟨_, rfl⟩
  rw [← hW]
  have hE : Ext w W := by rw [hW]; exact (((Ext.refl w).alloc _).alloc _).alloc _
  have hB1 : Blk W w.heap.size 30 #[.slice A hs.length c] := by rw [hW]; exact ((Blk.newAt _ _ _ (by simp)).alloc _).alloc _
  have hB2 : Blk W (w.heap.size + 1) 30 #[.slice B 1 d] := by rw [hW]; exact (Blk.newAt _ _ _ (by simp)).alloc _
  have hB3 : Blk W (w.heap.size + 1 + 1) 30 #[.slice none 0 0] := by rw [hW]; exact Blk.newAt _ _ _ (by simp)
  have c1 := hB1.cell 0
  have c2 := hB2.cell 0
  clear hW
  go_wp2_with fail
  refine (HU.out W hE).mono ?_
  rintro e' w2 ⟨v, k, rfl, hk, hS, hE2⟩
  obtain ⟨Av, cv, rfl⟩ := hS.shape
  have hB4 := hB3.ext hE2
  have y0 := hB4.cell 0
  have y1 := hB4.frozen 0
  have y2 := hB4.lt
  have hS2 := Lib.hid (hS.keep (ts := [82, 37, 123, 3]) ((KeepT.refl _ _).set (p := ⟨w.heap.size + 1 + 1, 0, none⟩) hB4.type (by decide) (.slice Av (hs.take k ++ e :: hs.drop k).length cv)) (fun _ h => h))
  have hEx := Lib.hid ((hE.trans hE2).setCell (p := ⟨w.heap.size + 1 + 1, 0, none⟩) (by show w.heap.size ≤ w.heap.size + 1 + 1; omega) (.slice Av (hs.take k ++ e :: hs.drop k).length cv))
  clear c1 c2 hS hB1 hB2 hB3 hB4
  have HRS := Lib.hid (show ∃ rs, hs.take k ++ e :: hs.drop k = rs from ⟨_, rfl⟩)
  obtain ⟨rs, hrs⟩ := HRS.out
  have HRS := Lib.hid hrs
  rw [hrs] at hS2 hEx
  rw [hrs]
  clear hrs
  go_wp2
  refine bodyPost_ret (v := .agg #[.slice Av rs.length cv]) (by simp [results, Tryz.results39, go_sem, y0, y2]) rfl ?_
  exact ⟨_, k, rfl, hk, by rw [HRS.out]; exact hS2.out, hEx.out⟩

set_option maxRecDepth 100000 in
set_option maxHeartbeats 8000000 in
theorem AddM_any (sv : Value) (es : List Value) (la wh da : Int) (hs : List HeldD) (e : HeldD) (w : World) (hlen : hs.length ≤ 100000) (hne : ∀ h ∈ hs, h.name ≠ e.name)
    (h1 : IsShelf w sv hs) (he : IsEntry w es e) :
    Calls Tryz.prog 11 #[.agg #[sv], .agg es.toArray, .agg #[.int .i64 la, .int .i64 wh, .int .i64 da]] w fun e' w' => ∃ (v : Value) (k : Nat), e' = .returned (.agg #[v]) ∧ k ≤ hs.length ∧ IsShelf w' v (hs.take k ++ e :: hs.drop k) ∧ Ext w w' := by
  obtain ⟨A, c, rfl⟩ := h1.shape
  have HM := Lib.hid (fun (w' : World) (bv : Value) (xl : List Value) (k : Ext w w') (h2 : RowsOf 82 32 w' bv [xl]) (hx : IsHeld w' xl e) => MergeM_one _ bv xl hs e w' hlen hne (h1.ext k) h2 hx)
  have hel := he.len
  have heo := Lib.hid he.2.1
  have HE := Lib.hid he
  clear h1 he hne
  go_enter Tryz.func11, Tryz.ntmps11
  go_upto_region 1 with fail
  obtain ⟨W, hW⟩ : ∃ W : World, W = (((w.alloc (.cells #[.slice A hs.length c] 30)).alloc (.cells es.toArray 77)).alloc (.cells #[.int .i64 la, .int .i64 wh, .int .i64 da] 79)).alloc (.cells #[.slice none 0 0] 30) := ⟨_, rfl⟩
  rw [← hW]
  have hE : Ext w W := by rw [hW]; exact ((((Ext.refl w).alloc _).alloc _).alloc _).alloc _
  have hB1 : Blk W w.heap.size 30 #[.slice A hs.length c] := by rw [hW]; exact (((Blk.newAt _ _ _ (by simp)).alloc _).alloc _).alloc _
  have hB2 : Blk W (w.heap.size + 1) 77 es.toArray := by rw [hW]; exact ((Blk.newAt _ _ _ (by simp)).alloc _).alloc _
  have hB3 : Blk W (w.heap.size + 1 + 1) 79 #[.int .i64 la, .int .i64 wh, .int .i64 da] := by rw [hW]; exact (Blk.newAt _ _ _ (by simp)).alloc _
  have hB4 : Blk W (w.heap.size + 1 + 1 + 1) 30 #[.slice none 0 0] := by rw [hW]; exact Blk.newAt _ _ _ (by simp)
  have c1 := hB1.cell 0
  have c30 := hB3.cell 0
  have c31 := hB3.cell 1
  have c32 := hB3.cell 2
  have l2 : (bigLoad 77 (.pointer (some ⟨w.heap.size + 1, 0, none⟩))).run Tryz.prog W = .ok (.agg es.toArray) W := run_load_entry W _ _ es hel hB2.range
  have rb := fun w' A n c => run_build_held w' es A n c hel
  have ro := fun w' S => run_one_held w' (es ++ [S]) (by simp [hel])
  have g1 := hB1.lt
  have g2 := hB2.lt
  have g3 := hB3.lt
  have g4 := hB4.lt
  clear hW
  go_wp2_with fail
  clear l2 rb ro c1 c30 c31 c32 g1 g2 g3 g4
  have hE3 : Ext W ((W.alloc (.cells #[.int .i64 la, .int .i64 wh, .int .i64 da] 79)).alloc (.cells (es ++ [Value.slice (some ⟨W.heap.size, 0, none⟩) 1 1]).toArray 82)) := ((Ext.refl _).alloc _).alloc _
  refine (HM.out _ _ (es ++ [Value.slice (some ⟨W.heap.size, 0, none⟩) 1 1]) (hE.trans hE3) (RowsOf.one_blk (Blk.newAt _ _ _ (by simp)) (by simp [hel]) (one_snoc heo.out rfl)) (IsHeld.mk (HE.out.ext (hE.trans hE3)) rfl)).mono ?_
  rintro e' w2 ⟨v, k, rfl, hk, hS, hE2⟩
  obtain ⟨Av, cv, rfl⟩ := hS.shape
  have hB5 := hB4.ext (hE3.trans hE2)
  have y0 := hB5.cell 0
  have y1 := hB5.frozen 0
  have y2 := hB5.lt
  have hS2 := Lib.hid (hS.keep (ts := [82, 37, 123, 3]) ((KeepT.refl _ _).set (p := ⟨w.heap.size + 1 + 1 + 1, 0, none⟩) hB5.type (by decide) (.slice Av (hs.take k ++ e :: hs.drop k).length cv)) (fun _ h => h))
  have hEx := Lib.hid ((hE.trans (hE3.trans hE2)).setCell (p := ⟨w.heap.size + 1 + 1 + 1, 0, none⟩) (by show w.heap.size ≤ w.heap.size + 1 + 1 + 1; omega) (.slice Av (hs.take k ++ e :: hs.drop k).length cv))
  clear hS hB1 hB2 hB3 hB4 hB5 hE3 hE2
  have HRS := Lib.hid (show ∃ rs, hs.take k ++ e :: hs.drop k = rs from ⟨_, rfl⟩)
  obtain ⟨rs, hrs⟩ := HRS.out
  have HRS := Lib.hid hrs
  rw [hrs] at hS2 hEx
  rw [hrs]
  clear hrs
  go_wp2
  refine bodyPost_ret (v := .agg #[.slice Av rs.length cv]) (by simp [results, Tryz.results11, go_sem, y0, y2]) rfl ?_
  exact ⟨_, k, rfl, hk, by rw [HRS.out]; exact hS2.out, hEx.out⟩

end Go.Proofs.YtekipapkcgoieaaGreatDoor
