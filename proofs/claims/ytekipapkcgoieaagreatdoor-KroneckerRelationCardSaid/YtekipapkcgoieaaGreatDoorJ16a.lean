/-
  slices.Clone, slices.IndexFunc of entries.
  slices.DeleteFunc of entries.
  slices.DeleteFunc of entries; merge.Find, merge.Drop.
-/
import Derived.Test.YtekipapkcgoieaaGreatDoorJ10
import Derived.Shelf.Abstract
set_option linter.unusedVariables false
set_option linter.unusedSimpArgs false

/- slices.Clone, slices.IndexFunc of entries. -/
namespace Go.Proofs.YtekipapkcgoieaaGreatDoor
open Go.RowKit
attribute [local go_sem ↓] Go.wp_at_zero Go.wp_at_succ load_entry load_held store_entry store_held build_held build_entry slice_held sub_held

theorem OwnHeld.ext {w0 w w' : World} {v : Value} {hs : List HeldD} (h : OwnHeld w0 w v hs) (k : Ext w w') : OwnHeld w0 w' v hs := by
  obtain ⟨ms, h1, h2, h3⟩ := h
  exact ⟨ms, h1, own_ext h2 k, h3⟩
theorem OwnHeld.shape {w0 w : World} {v : Value} {hs : List HeldD} (h : OwnHeld w0 w v hs) : ∃ A c, v = .slice A hs.length c := by
  obtain ⟨ms, h1, h2, h3⟩ := h
  obtain ⟨A, c, e⟩ := (RowsOf.of_own h1 h2).shape
  exact ⟨A, c, by rw [e, h3.length]⟩
theorem OwnHeld.len {w0 w : World} {A : Option Addr} {n c : Nat} {hs : List HeldD} (h : OwnHeld w0 w (.slice A n c) hs) : n = hs.length := by
  obtain ⟨A', c', e⟩ := h.shape
  injection e
/-- An entry of a row of the call's own. -/
theorem OwnHeld.at {w0 w : World} {A : Option Addr} {n c : Nat} {hs : List HeldD} (h : OwnHeld w0 w (.slice A n c) hs) (j : Nat) (hj : j < hs.length) :
    ∃ b o l, A = some ⟨b, o, none⟩ ∧ IsHeld w0 l hs[j] ∧ ∀ w', Ext w w' → w'.rangeAt b (o + j * 32) l := by
  obtain ⟨ms, h1, h2, h3⟩ := h
  have hj' : j < ms.length := by rw [h3.length]; exact hj
  obtain ⟨b, o, e, ht, hr⟩ := (RowsOf.of_own h1 h2).row j hj'
  exact ⟨b, o, _, e, h3.get j _ _ (List.getElem?_eq_getElem hj') (List.getElem?_eq_getElem hj), fun w' hw => hr w' (KeepT.ext hw)⟩

set_option maxRecDepth 100000 in
set_option maxHeartbeats 1000000 in
theorem CloneH_any (v : Value) (hs : List HeldD) (w : World) (hlen : hs.length ≤ 100000) (h1 : IsShelf w v hs) :
    Calls Tryz.prog 58 #[v] w fun e w' => ∃ v', e = .returned v' ∧ OwnHeld w w' v' hs ∧ Ext w w' := by
  obtain ⟨ls, hR, hA⟩ := h1
  have hal := hA.length
  obtain ⟨hok, hh⟩ := hR
  rcases hh with ⟨rfl, rfl⟩ | ⟨b, o, c, rfl, hc, ht, hr⟩
  · have hq := fun w' => Lib.run_eql_slice_nil (P := Tryz.prog) w' 28 82 none 0 0 0 0 Tryz.underlying28
    have : hs = [] := List.eq_nil_of_length_eq_zero hal.symm
    subst this
    go_enter Tryz.func58, Tryz.ntmps58
    go_wp2
    go_ret
    exact ⟨_, rfl, ⟨[], (fun l hl => by cases hl), World.ownsRow_nil _ _ _ _, trivial⟩, Ext.refl _⟩
  · have hq := fun w' => Lib.run_eql_slice_nil (P := Tryz.prog) w' 28 82 (some ⟨b, o, none⟩) ls.length c 0 0 Tryz.underlying28
    have hR : Hid (RowsOf 82 32 w (.slice (some ⟨b, o, none⟩) ls.length c) ls) := ⟨hok, .inr ⟨b, o, c, rfl, hc, ht, hr⟩⟩
    have HA := Lib.hid hA
    have rn := run_none_held
    have hln : ls.length ≤ 100000 := by omega
    clear hA ht hr hok hal
    go_enter Tryz.func58, Tryz.ntmps58
    go_wp2_with (at_builtin; refine Hid.out ?_)
    refine wpList_append_rows rfl (.tmp 5) (.tmp 6) _ rfl w.heap.size 82 32 616 Tryz.underlying28 held_info (by decide) _ 0 [] rfl ?c1 _ ls rfl ?c2 ?c3 ?c4 ?c5 ?_
    case c1 => exact World.ownsRow_made w #[] 0 (Nat.le_refl _) (Nat.zero_le _) (by simp)
    case c2 => exact hR.out.ext ((Ext.refl _).alloc _)
    case c3 => unfold maxLen; omega
    case c4 => omega
    case c5 => simp
    intro v3 w3 hown3 hgr3
    have hE3 : Ext w w3 := ((Ext.refl w).alloc _).grown hgr3 (own_slice_base (Nat.le_refl _))
    have hO3 : OwnHeld w w3 v3 hs := ⟨ls, hR.out.1, by simpa using hown3, HA.out⟩
    have HO := Lib.hid hO3
    clear hO3 hown3 hgr3
    go_wp2
    go_ret
    exact ⟨_, rfl, HO.out, hE3⟩

/-- What is asked of a function value on entries. -/
def PredH (g : Nat) (lb : Array Value) (w0 : World) (p : HeldD → Bool) (hs : List HeldD) : Prop :=
  ∀ (W : World) (l : List Value) (h : HeldD), Ext w0 W → h ∈ hs → IsHeld w0 l h → Calls Tryz.prog g (#[.agg l.toArray] ++ lb) W fun e w' => e = .returned (.bool (p h)) ∧ Ext W w'
theorem PredH.mono {g : Nat} {lb : Array Value} {w0 : World} {p : HeldD → Bool} {hs hs' : List HeldD} (h : PredH g lb w0 p hs) (k : ∀ x ∈ hs', x ∈ hs) : PredH g lb w0 p hs' := fun W l x hW hx => h W l x hW (k x hx)
def idxOf {α : Type} (p : α → Bool) (hs : List α) : Int := match hs.findIdx? p with | none => -1 | some i => (i : Int)
theorem idxOf_hit {α : Type} (p : α → Bool) (hs : List α) (k : Nat) (hk : k < hs.length) (h : p hs[k] = true) (hb : ∀ j (hj : j < hs.length), j < k → p hs[j] = false) : idxOf p hs = k := by
  unfold idxOf
  rw [List.findIdx?_eq_some_of_exists ⟨_, List.getElem_mem hk, h⟩]
  have : hs.findIdx p = k := by
    rw [List.findIdx_eq hk]
    exact ⟨h, fun j hj => hb j (by omega) hj⟩
  rw [this]
theorem idxOf_miss {α : Type} (p : α → Bool) (hs : List α) (hb : ∀ j (hj : j < hs.length), p hs[j] = false) : idxOf p hs = -1 := by
  unfold idxOf
  have : hs.findIdx? p = none := by
    rw [List.findIdx?_eq_none_iff]
    intro x hx
    obtain ⟨j, hj, rfl⟩ := List.getElem_of_mem hx
    exact hb j hj
  rw [this]

set_option maxRecDepth 100000 in
set_option maxHeartbeats 1000000 in
theorem IndexFuncH_any (g : Nat) (lb : Array Value) (p : HeldD → Bool) (v : Value) (hs : List HeldD) (w0 w : World) (hlen : hs.length ≤ 100000) (eg : ∀ args w', (callFunc g args).run Tryz.prog w' = .ok (.enter g args) w')
    (hp : PredH g lb w0 p hs) (hO : OwnHeld w0 w v hs) (hE : Ext w0 w) :
    Calls Tryz.prog 97 #[v, .func (.func g) #[] lb] w fun e w' => e = .returned (.int .i64 (idxOf p hs)) ∧ Ext w w' := by
  obtain ⟨A, c, rfl⟩ := hO.shape
  have HO := Lib.hid hO
  have HP := Lib.hid hp
  clear hO hp
  go_enter Tryz.func97, Tryz.ntmps97
  go_wp2_with fail
  go_loopw [5, 8] (fun _ t wr => ∃ k : Nat, k ≤ hs.length ∧ t = .int .i64 (k : Int) ∧ Hid (∀ j (hj : j < hs.length), j < k → p hs[j] = false) ∧ Ext w wr) (fun _ t _ => hs.length - (intOf t).toNat)
  case atStart => exact ⟨0, Nat.zero_le _, rfl, (fun j _ hj => absurd hj (Nat.not_lt_zero _)), Ext.refl _⟩
  case round =>
    obtain ⟨k, hk, rfl, hb, hEr⟩ := hrel
    by_cases hlt : k < hs.length
    · obtain ⟨b, o, l, rfl, hl, hr⟩ := HO.out.at k hlt
      have hld : (bigLoad 82 (.pointer (some ⟨b, o + k * 32, none⟩))).run Tryz.prog wr = .ok (.agg l.toArray) wr := run_load_held wr _ _ l hl.len (hr wr hEr)
      have hcall := HP.out wr l hs[k] (hE.trans hEr) (List.getElem_mem hlt) hl
      have HH := Lib.hid (fun h => idxOf_hit p hs k hlt h hb.out)
      have HB2 := Lib.hid (show p hs[k] = false → ∀ j (hj : j < hs.length), j < k + 1 → p hs[j] = false from fun h j hj hjk => by
        by_cases e : j = k
        · subst e; exact h
        · exact hb.out j hj (by omega))
      clear hl hr
      cases hq : p hs[k] with
      | true =>
        rw [hq] at hcall
        have HI := Lib.hid (HH.out hq)
        clear HH HB2 hq
        go_wp2_with (go_at_fn g; refine hcall.mono ?_; rintro e w' ⟨rfl, hx⟩)
        go_ret
        exact ⟨by rw [HI.out]; rfl, hEr.trans hx⟩
      | false =>
        rw [hq] at hcall
        have HB := Lib.hid (HB2.out hq)
        clear HH HB2 hq
        go_wp2_with (go_at_fn g; refine hcall.mono ?_; rintro e w' ⟨rfl, hx⟩)
        go_roundw
        case rel => exact ⟨k + 1, by omega, by go_num, HB, hEr.trans hx⟩
        case measure => (simp [intOf] <;> omega)
    · have hkl : k = hs.length := by omega
      have HI := Lib.hid (idxOf_miss p hs fun j hj => hb.out j hj (by omega))
      go_wp2
      go_ret
      exact ⟨by rw [HI.out]; rfl, hEr⟩

end Go.Proofs.YtekipapkcgoieaaGreatDoor

/- slices.DeleteFunc of entries. -/
namespace Go.Proofs.YtekipapkcgoieaaGreatDoor
open Go.RowKit
attribute [local go_sem ↓] Go.wp_at_zero Go.wp_at_succ load_entry load_held store_entry store_held build_held build_entry slice_held sub_held

theorem flatten_take {k : Nat} : ∀ (L : List (List Value)), (∀ l ∈ L, l.length = k) → ∀ j, (L.take j).flatten = L.flatten.take (j * k)
  | [], _, j => by simp
  | x :: L, h, 0 => by simp
  | x :: L, h, j + 1 => by
    have hx := h x (List.mem_cons_self ..)
    rw [List.take_succ_cons, List.flatten_cons, List.flatten_cons, flatten_take L (fun l hl => h l (List.mem_cons_of_mem _ hl)) j, List.take_append, hx, List.take_of_length_le (l := x) (by rw [hx, Nat.add_mul]; omega)]
    congr 2
    rw [Nat.add_mul]; omega
theorem flatten_drop {k : Nat} : ∀ (L : List (List Value)), (∀ l ∈ L, l.length = k) → ∀ j, (L.drop j).flatten = L.flatten.drop (j * k)
  | [], _, j => by simp
  | x :: L, h, 0 => by simp
  | x :: L, h, j + 1 => by
    have hx := h x (List.mem_cons_self ..)
    rw [List.drop_succ_cons, List.flatten_cons, flatten_drop L (fun l hl => h l (List.mem_cons_of_mem _ hl)) j, List.drop_append, hx, List.drop_of_length_le (l := x) (by rw [hx, Nat.add_mul]; omega), List.nil_append]
    congr 1
    rw [Nat.add_mul]; omega
theorem Blk.setMid {g : Nat} {t : TypeId} : ∀ (l : List Value) {w : World} {cs : Array Value} (_ : Blk w g t cs) (o : Nat), o + l.length ≤ cs.size → Blk (w.setCells g o l) g t (cs.toList.take o ++ l ++ cs.toList.drop (o + l.length)).toArray
  | [], w, cs, h, o, _ => by
    have e : (cs.toList.take o ++ ([] : List Value) ++ cs.toList.drop (o + ([] : List Value).length)).toArray = cs := by simp
    rw [e]; exact h
  | v :: r, w, cs, h, o, ho => by
    have ho' : o < cs.size := by simp at ho; omega
    have := Blk.setMid r (h.set_ o v) (o + 1) (by simp at ho ⊢; omega)
    have e : (cs.setIfInBounds o v).toList.take (o + 1) ++ r ++ (cs.setIfInBounds o v).toList.drop (o + 1 + r.length) = cs.toList.take o ++ v :: r ++ cs.toList.drop (o + (v :: r).length) := by
      rw [Array.toList_setIfInBounds, List.take_succ_eq_append_getElem (by simpa using ho'), List.drop_set_of_lt (by omega), List.take_set_of_le (Nat.le_refl _)]
      simp
      congr 1; omega
    rw [e] at this
    exact this
/-- An element of a row of the call's own is written. -/
theorem own_put {w : World} {base : Nat} {e : TypeId} {k g n c : Nat} {L : List (List Value)} (h : w.ownsRow base e k (.slice (some ⟨g, 0, none⟩) n c) n L.flatten) (hL : L.length = n) (hk : ∀ l ∈ L, l.length = k) (j : Nat) (hj : j < n) (l : List Value) (hl : l.length = k) :
    (w.setCells g (j * k) l).ownsRow base e k (.slice (some ⟨g, 0, none⟩) n c) n (L.set j l).flatten := by
  obtain ⟨h1, h2⟩ := h
  rcases h2 with ⟨h2, _⟩ | ⟨g', cap, cur, e1, e2, e3, e4, e5, e6, e7⟩
  · cases h2
  · injection e1 with e1 _ e8; injection e1 with e1; injection e1 with e1
    subst e1 e8
    have hjk : j * k + k ≤ n * k := by have := Nat.mul_le_mul_right k (show j + 1 ≤ n from hj); rw [Nat.add_mul] at this; omega
    have hnc : n * k ≤ c * k := Nat.mul_le_mul_right k e4
    have hb : Blk w g e cur := e3
    have hb2 := Blk.setMid l hb (j * k) (by rw [hl, e6]; omega)
    have hlen : ∀ x ∈ L.set j l, x.length = k := fun x hx => by
      rcases List.mem_or_eq_of_mem_set hx with h | rfl
      · exact hk x h
      · exact hl
    refine ⟨by rw [flatten_len hlen, List.length_set, hL], .inr ⟨g, c, _, rfl, e2, hb2, e4, e5, ?_, ?_⟩⟩
    · simp [hl]
      omega
    · have e9 : (L.set j l).flatten = cur.toList.take (j * k) ++ l ++ (cur.toList.take (n * k)).drop (j * k + k) := by
        rw [List.set_eq_take_append_cons_drop, if_pos (by omega), List.flatten_append, List.flatten_cons, flatten_take L hk, flatten_drop L hk, ← e7, List.take_take, Nat.min_eq_left (by omega), List.append_assoc, Nat.add_mul, Nat.one_mul]
      rw [e9, hl]
      simp only [List.append_assoc]
      rw [List.take_append, List.take_append, List.take_of_length_le (l := cur.toList.take (j * k)) (by simp; omega), List.take_of_length_le (l := l) (by simp; omega), List.drop_take]
      congr 3
      simp
      omega
/-- The rest of a row of the call's own is written, and cut off. -/
theorem own_cut {w : World} {base : Nat} {e : TypeId} {k g n c : Nat} {L : List (List Value)} (h : w.ownsRow base e k (.slice (some ⟨g, 0, none⟩) n c) n L.flatten) (hL : L.length = n) (hk : ∀ l ∈ L, l.length = k) (i : Nat) (hi : i ≤ n) (Z : List Value) (hZ : Z.length = (n - i) * k) :
    (w.setCells g (i * k) Z).ownsRow base e k (.slice (some ⟨g, 0, none⟩) i c) i (L.take i).flatten := by
  obtain ⟨h1, h2⟩ := h
  rcases h2 with ⟨h2, _⟩ | ⟨g', cap, cur, e1, e2, e3, e4, e5, e6, e7⟩
  · cases h2
  · injection e1 with e1 _ e8; injection e1 with e1; injection e1 with e1
    subst e1 e8
    have hik : i * k + (n - i) * k = n * k := by rw [← Nat.add_mul, Nat.add_sub_cancel' hi]
    have hnc : n * k ≤ c * k := Nat.mul_le_mul_right k e4
    have hb : Blk w g e cur := e3
    have hb2 := Blk.setMid Z hb (i * k) (by rw [hZ, e6]; omega)
    refine ⟨?_, .inr ⟨g, c, _, rfl, e2, hb2, by omega, e5, ?_, ?_⟩⟩
    · rw [flatten_len (fun l hl => hk l (List.mem_of_mem_take hl)), List.length_take, Nat.min_eq_left (by omega)]
    · simp [hZ]
      omega
    · rw [flatten_take L hk, ← e7, List.take_take, Nat.min_eq_left (by omega)]
      simp only [List.append_assoc]
      rw [List.take_append, List.take_of_length_le (l := cur.toList.take (i * k)) (by simp; omega), show i * k - (cur.toList.take (i * k)).length = 0 by simp; omega]
      simp

/-! clear. -/
def held0 : List Value := [.string ⟨#[]⟩, .slice none 0 0, .slice none 0 0, .bool false, .slice none 0 0, .slice none 0 0, .slice none 0 0, .int .i64 0, .bool false, .slice none 0 0, .slice none 0 0, .slice none 0 0, .int .i64 0, .int .i64 0, .int .i64 0, .int .i64 0, .slice none 0 0, .slice none 0 0, .slice none 0 0, .slice none 0 0, .bool false, .slice none 0 0, .bool false, .slice none 0 0, .slice none 0 0, .slice none 0 0, .slice none 0 0, .slice none 0 0, .slice none 0 0, .slice none 0 0, .slice none 0 0, .slice none 0 0]
theorem held0_len : held0.length = 32 := rfl
theorem held0_one : ∀ u ∈ held0, u.oneCell' = true := List.all_eq_true.1 rfl
theorem zero_held (w : World) : (zeroValue 82).run Tryz.prog w = .ok (.agg held0.toArray) w := by kernel_rfl
theorem zeroCells_len (z : Array Value) (n : Nat) : (Builtin.zeroCells z n).toList.length = n * z.size := by simp [Builtin.zeroCells]
theorem zeroCells_one (z : Array Value) (n : Nat) (hz : 0 < z.size) (h : ∀ u ∈ z, u.oneCell' = true) : ∀ u ∈ (Builtin.zeroCells z n).toList, u.oneCell' = true := by
  intro u hu
  simp only [Builtin.zeroCells, Array.toList_map, List.mem_map] at hu
  obtain ⟨i, _, rfl⟩ := hu
  have hi := Nat.mod_lt i hz
  rw [getElem!_pos z _ hi]
  exact h _ (Array.getElem_mem hi)
theorem run_clear_rows (z : List Value) (hzl : z.length = 32) (hz1 : ∀ u ∈ z, u.oneCell' = true) (hz : ∀ w, (zeroValue 82).run Tryz.prog w = .ok (.agg z.toArray) w) (w : World) (ty : TypeId) (b o n c : Nat) (hn : 0 < n) (hc : ∀ j, j < n * 32 → (w.cell? ⟨b, o + j, none⟩).isSome = true) (hf : ∀ j, j < n * 32 → w.frozen? ⟨b, o + j, none⟩ = false) :
    (Builtin.clear_ #[28] ty #[.slice (some ⟨b, o, none⟩) n c]).run Tryz.prog w = .ok (.tuple #[]) (w.setCells b o (Builtin.zeroCells z.toArray n).toList) := by
  have hst := run_storeCells_cells (P := Tryz.prog) b o (Builtin.zeroCells z.toArray n).toList 0 w
    (fun j hj => by rw [zeroCells_len] at hj; simpa using hc j (by simpa [hzl] using hj))
    (fun j hj => by rw [zeroCells_len] at hj; simpa using hf j (by simpa [hzl] using hj))
    (zeroCells_one _ _ (by simp [hzl]) (by simpa using hz1))
  simp only [Nat.add_zero] at hst
  obtain ⟨m, rfl⟩ : ∃ m, n = m + 1 := ⟨n - 1, by omega⟩
  simp [Builtin.clear_, run_underlying Tryz.underlying28, hz, Value.cells, hst]
theorem run_clear_held (w : World) (ty : TypeId) (b o n c : Nat) (hn : 0 < n) (hc : ∀ j, j < n * 32 → (w.cell? ⟨b, o + j, none⟩).isSome = true) (hf : ∀ j, j < n * 32 → w.frozen? ⟨b, o + j, none⟩ = false) :
    ∃ Z : List Value, Z.length = n * 32 ∧ (Builtin.clear_ #[28] ty #[.slice (some ⟨b, o, none⟩) n c]).run Tryz.prog w = .ok (.tuple #[]) (w.setCells b o Z) :=
  ⟨_, by rw [zeroCells_len]; simp [held0_len], run_clear_rows held0 held0_len held0_one zero_held w ty b o n c hn hc hf⟩

/-! The loop. -/
structure DelInv (w0 wr : World) (g c : Nat) (ms : List (List Value)) (hs : List HeldD) (p : HeldD → Bool) (i j : Nat) (L : List (List Value)) : Prop where
  len : L.length = hs.length
  ok : ∀ l ∈ L, l.length = 32 ∧ ∀ u ∈ l, u.oneCell' = true
  row : wr.ownsRow w0.heap.size 82 32 (.slice (some ⟨g, 0, none⟩) hs.length c) hs.length L.flatten
  kept : All2 (IsHeld w0) (L.take i) ((hs.take j).filter fun x => !p x)
  rest : ∀ r, j ≤ r → L[r]? = ms[r]?
theorem filter_snoc {α : Type} (f : α → Bool) (l : List α) (k : Nat) (hk : k < l.length) : (l.take (k + 1)).filter f = (l.take k).filter f ++ if f l[k] then [l[k]] else [] := by
  rw [List.take_succ_eq_append_getElem hk, List.filter_append]
  congr 1
  by_cases h : f l[k] = true <;> simp [List.filter_cons, h]
theorem DelInv.skip {w0 wr wr' : World} {g c : Nat} {ms : List (List Value)} {hs : List HeldD} {p : HeldD → Bool} {i j : Nat} {L : List (List Value)} (h : DelInv w0 wr g c ms hs p i j L) (hj : j < hs.length) (hp : p hs[j] = true) (k : Ext wr wr') : DelInv w0 wr' g c ms hs p i (j + 1) L :=
  ⟨h.len, h.ok, own_ext h.row k, by rw [filter_snoc _ _ _ hj]; simpa [hp] using h.kept, fun r hr => h.rest r (by omega)⟩
theorem DelInv.keep {w0 wr wr' : World} {g c : Nat} {ms : List (List Value)} {hs : List HeldD} {p : HeldD → Bool} {i j : Nat} {L : List (List Value)} {l : List Value} (h : DelInv w0 wr g c ms hs p i j L) (hij : i < j) (hj : j < hs.length) (hp : p hs[j] = false) (hl : IsHeld w0 l hs[j]) (k : Ext wr wr') :
    DelInv w0 (wr'.setCells g (i * 32) l) g c ms hs p (i + 1) (j + 1) (L.set i l) := by
  have hi : i < L.length := by rw [h.len]; omega
  refine ⟨by simpa using h.len, fun x hx => ?_, own_put (own_ext h.row k) h.len (fun x hx => (h.ok x hx).1) i (by omega) l hl.len, ?_, fun r hr => ?_⟩
  · rcases List.mem_or_eq_of_mem_set hx with h1 | rfl
    · exact h.ok x h1
    · exact ⟨hl.len, hl.one⟩
  · rw [filter_snoc _ _ _ hj, List.take_succ_eq_append_getElem (by simpa using hi), List.take_set_of_le (Nat.le_refl _), List.getElem_set_self]
    simp only [hp]
    exact h.kept.append (All2.one hl)
  · rw [List.getElem?_set_ne (by omega)]
    exact h.rest r (by omega)

end Go.Proofs.YtekipapkcgoieaaGreatDoor

/- slices.DeleteFunc of entries; merge.Find, merge.Drop. -/
namespace Go.Proofs.YtekipapkcgoieaaGreatDoor
open Go.RowKit
attribute [local go_sem ↓] Go.wp_at_zero Go.wp_at_succ load_entry load_held store_entry store_held build_held build_entry slice_held sub_held

theorem OwnHeld.row {w0 w : World} {v : Value} {hs : List HeldD} (h : OwnHeld w0 w v hs) (h0 : 0 < hs.length) :
    ∃ g c ms, v = .slice (some ⟨g, 0, none⟩) hs.length c ∧ hs.length ≤ c ∧ w0.heap.size ≤ g ∧ (∀ l ∈ ms, l.length = 32 ∧ ∀ u ∈ l, u.oneCell' = true) ∧ All2 (IsHeld w0) ms hs ∧ w.ownsRow w0.heap.size 82 32 (.slice (some ⟨g, 0, none⟩) hs.length c) hs.length ms.flatten := by
  obtain ⟨ms, h1, h2, h3⟩ := h
  have hl := h3.length
  rw [hl] at h2
  have h2' := h2
  rcases h2.2 with ⟨rfl, e⟩ | ⟨g, cap, cur, rfl, hb, hh, hc, _⟩
  · omega
  · exact ⟨g, cap, ms, rfl, hc, hb, h1, h3, h2'⟩
theorem DelInv.start {w0 w : World} {g c : Nat} {ms : List (List Value)} {hs : List HeldD} {p : HeldD → Bool} {i : Nat} (hi : i < hs.length) (hp : p hs[i] = true) (hb : ∀ j (hj : j < hs.length), j < i → p hs[j] = false)
    (h1 : ∀ l ∈ ms, l.length = 32 ∧ ∀ u ∈ l, u.oneCell' = true) (h3 : All2 (IsHeld w0) ms hs) (h2 : w.ownsRow w0.heap.size 82 32 (.slice (some ⟨g, 0, none⟩) hs.length c) hs.length ms.flatten) : DelInv w0 w g c ms hs p i (i + 1) ms := by
  refine ⟨h3.length, h1, h2, ?_, fun _ _ => rfl⟩
  rw [filter_snoc _ _ _ hi]
  simp only [hp, Bool.not_true, Bool.false_eq_true, if_false, List.append_nil]
  rw [List.filter_eq_self.2 ?_]
  · exact h3.take i
  · intro x hx
    obtain ⟨j, hj, rfl⟩ := List.getElem_of_mem hx
    rw [List.length_take] at hj
    rw [List.getElem_take]
    simpa using hb j (by omega) (by omega)
theorem DelInv.done {w0 wr : World} {g c : Nat} {ms : List (List Value)} {hs : List HeldD} {p : HeldD → Bool} {i j : Nat} {L : List (List Value)} (h : DelInv w0 wr g c ms hs p i j L) (hj : hs.length ≤ j) (hi : i ≤ hs.length) (Z : List Value) (hZ : Z.length = (hs.length - i) * 32) :
    OwnHeld w0 (wr.setCells g (i * 32) Z) (.slice (some ⟨g, 0, none⟩) i c) (hs.filter fun x => !p x) := by
  have hk := h.kept
  rw [List.take_of_length_le hj] at hk
  refine ⟨L.take i, fun l hl => h.ok l (List.mem_of_mem_take hl), ?_, hk⟩
  rw [List.length_take, Nat.min_eq_left (by rw [h.len]; exact hi)]
  exact own_cut h.row h.len (fun l hl => (h.ok l hl).1) i hi Z hZ
theorem idxOf_cases {α : Type} (p : α → Bool) (hs : List α) : (idxOf p hs = -1 ∧ hs.filter (fun x => !p x) = hs) ∨ ∃ i : Nat, ∃ hi : i < hs.length, idxOf p hs = (i : Int) ∧ p hs[i] = true ∧ ∀ j (hj : j < hs.length), j < i → p hs[j] = false := by
  unfold idxOf
  cases h : hs.findIdx? p with
  | none =>
    left
    refine ⟨rfl, List.filter_eq_self.2 fun x hx => ?_⟩
    simpa using List.findIdx?_eq_none_iff.1 h x hx
  | some i =>
    right
    obtain ⟨hi, h1, h2⟩ := List.findIdx?_eq_some_iff_getElem.1 h
    exact ⟨i, hi, rfl, h1, fun j hj hji => by simpa using h2 j hji⟩

theorem own_blk {w : World} {base : Nat} {e : TypeId} {k g n c : Nat} {xs : List Value} (h : w.ownsRow base e k (.slice (some ⟨g, 0, none⟩) n c) n xs) : ∃ cur : Array Value, Blk w g e cur ∧ cur.size = c * k ∧ n ≤ c := by
  rcases h.2 with ⟨h2, _⟩ | ⟨g', cap, cur, e1, e2, e3, e4, e5, e6, e7⟩
  · cases h2
  · injection e1 with e1 _ e8; injection e1 with e1; injection e1 with e1
    subst e1 e8
    exact ⟨cur, e3, e6, e4⟩
theorem own_there {w : World} {base : Nat} {e : TypeId} {k g n c : Nat} {xs : List Value} (h : w.ownsRow base e k (.slice (some ⟨g, 0, none⟩) n c) n xs) (i : Nat) (hi : i < n) : w.there g (i * k) k := by
  obtain ⟨cur, hb, hs, hc⟩ := own_blk h
  intro j hj
  refine ⟨?_, hb.frozen _⟩
  have := Nat.mul_le_mul_right k (show i + 1 ≤ c by omega)
  rw [Nat.add_mul, Nat.one_mul] at this
  rw [hb.cell, Array.getElem?_eq_getElem (by omega)]
  rfl
theorem own_isSome {w : World} {base : Nat} {e : TypeId} {k g n c : Nat} {xs : List Value} (h : w.ownsRow base e k (.slice (some ⟨g, 0, none⟩) n c) n xs) (i : Nat) (hi : i ≤ n) : ∀ j, j < (n - i) * k → (w.cell? ⟨g, i * k + j, none⟩).isSome = true ∧ w.frozen? ⟨g, i * k + j, none⟩ = false := by
  obtain ⟨cur, hb, hs, hc⟩ := own_blk h
  intro j hj
  refine ⟨?_, hb.frozen _⟩
  have h1 : i * k + (n - i) * k = n * k := by rw [← Nat.add_mul, Nat.add_sub_cancel' hi]
  have h2 : n * k ≤ c * k := Nat.mul_le_mul_right k hc
  rw [hb.cell, Array.getElem?_eq_getElem (by omega)]
  rfl
theorem DelInv.at {w0 wr : World} {g c : Nat} {ms : List (List Value)} {hs : List HeldD} {p : HeldD → Bool} {i j : Nat} {L : List (List Value)} (h : DelInv w0 wr g c ms hs p i j L) (hj : j < hs.length) (hm : j < ms.length) : ∀ w', Ext wr w' → w'.rangeAt g (j * 32) ms[j] := by
  have hjL : j < L.length := by rw [h.len]; exact hj
  have hLm : L[j] = ms[j] := by
    have := h.rest j (Nat.le_refl _)
    rw [List.getElem?_eq_getElem hjL, List.getElem?_eq_getElem hm] at this
    exact Option.some.inj this
  intro w' hw
  have hR := RowsOf.of_own (ls := L) h.ok (by rw [h.len]; exact h.row)
  rcases hR.2 with ⟨e, _⟩ | ⟨b, o, c', e, _, ht, hx⟩
  · cases e
  · injection e with e; injection e with e; injection e with e1 e2; subst e1; subst e2
    have := hx j _ (List.getElem?_eq_getElem hjL)
    rw [Nat.zero_add, hLm] at this
    exact rangeAt_ext this ht.lt hw
theorem DelInv.base {w0 wr : World} {g c : Nat} {ms : List (List Value)} {hs : List HeldD} {p : HeldD → Bool} {i j : Nat} {L : List (List Value)} (h : DelInv w0 wr g c ms hs p i j L) : w0.heap.size ≤ g ∧ g < wr.heap.size := h.row.lt g rfl

set_option maxRecDepth 100000 in
set_option maxHeartbeats 4000000 in
theorem DeleteFuncH_any (g : Nat) (lb : Array Value) (p : HeldD → Bool) (v : Value) (hs : List HeldD) (w0 w : World) (hlen : hs.length ≤ 100000) (eg : ∀ args w', (callFunc g args).run Tryz.prog w' = .ok (.enter g args) w')
    (hp : PredH g lb w0 p hs) (hO : OwnHeld w0 w v hs) (hE : Ext w0 w) :
    Calls Tryz.prog 48 #[v, .func (.func g) #[] lb] w fun e w' => ∃ v', e = .returned v' ∧ OwnHeld w0 w' v' (hs.filter fun x => !p x) ∧ Ext w0 w' := by
  have hI := IndexFuncH_any g lb p v hs w0 w hlen eg hp hO hE
  rcases idxOf_cases p hs with ⟨e1, e2⟩ | ⟨i, hi, e1, hpi, hbi⟩
  · rw [e1] at hI
    have HO := Lib.hid hO
    have HE2 := Lib.hid e2
    obtain ⟨A, c, rfl⟩ := hO.shape
    clear hO hp e1 e2
    go_enter Tryz.func48, Tryz.ntmps48
    go_wp2_with (go_at_call 97; refine hI.mono ?_; rintro e w' ⟨rfl, hx⟩)
    go_ret
    exact ⟨_, rfl, by rw [HE2.out]; exact HO.out.ext hx, hE.trans hx⟩
  · rw [e1] at hI
    obtain ⟨b, c, ms, rfl, hc, hb, hm1, hm3, hm2⟩ := hO.row (by omega)
    have hlm := Lib.hid hm3.length
    have HST := Lib.hid (fun w' (hx : Ext w w') => DelInv.start (p := p) hi hpi hbi hm1 hm3 (own_ext hm2 hx))
    have HM := Lib.hid hm3
    have HP := Lib.hid hp
    have hne : ((i : Int) == -1) = false := beq_eq_false_iff_ne.2 (by omega)
    clear hO hp e1 hm1 hm2 hm3 hpi hbi
    go_enter Tryz.func48, Tryz.ntmps48
    go_wp2_with (go_at_call 97; refine hI.mono ?_; rintro e w1 ⟨rfl, hx1⟩)
    have HST2 := Lib.hid (HST.out _ hx1)
    have hE1 := hE.trans hx1
    clear hI HST
    go_loopw [5, 6] (fun s t wr => ∃ (i j : Nat) (L : List (List Value)), s = .int .i64 (i : Int) ∧ t = .int .i64 (j : Int) ∧ i < j ∧ j ≤ hs.length ∧ Hid (DelInv w0 wr b c ms hs p i j L) ∧ Ext w0 wr) (fun _ t _ => hs.length - (intOf t).toNat)
    case atStart => exact ⟨i, i + 1, ms, rfl, by go_num, by omega, by omega, HST2, hE1⟩
    case round =>
      obtain ⟨i, j, L, rfl, rfl, hij, hj, hD, hEr⟩ := hrel
      have hlw := hD.out.base.2
      by_cases hlt : j < hs.length
      · have hjm : j < ms.length := by rw [hlm.out]; exact hlt
        have hl := HM.out.get j _ _ (List.getElem?_eq_getElem hjm) (List.getElem?_eq_getElem hlt)
        have hr := hD.out.at hlt hjm
        have HKP := Lib.hid (fun (w' : World) (k : Ext wr w') (h : p hs[j] = false) => hD.out.keep hij hlt h hl k)
        have HSK := Lib.hid (fun (w' : World) (k : Ext wr w') (h : p hs[j] = true) => hD.out.skip hlt h k)
        have HTH := Lib.hid (fun (w' : World) (k : Ext wr w') => own_there (own_ext hD.out.row k) i (by omega))
        have HC := Lib.hid (fun (w' : World) (k : Ext wr w') => HP.out w' _ hs[j] (hEr.trans k) (List.getElem_mem hlt) hl)
        have hl32 := hl.len
        have hl1 := Lib.hid hl.one
        have hld : (bigLoad 82 (.pointer (some ⟨b, j * 32, none⟩))).run Tryz.prog wr = .ok (.agg (ms[j]).toArray) wr := run_load_held wr _ _ _ hl32 (hr wr (Ext.refl _))
        clear hl hr
        generalize ms[j] = l at *
        have rs := run_store_held (wr.alloc (.cells held0.toArray 82)) wr.heap.size 0 l hl32 ((Blk.newAt wr 82 held0.toArray rfl).there rfl) hl1.out
        unfold held0 at rs
        go_upto_region 8 with fail
        change Code.wp _ _ _ _ ((wr.alloc (.cells held0.toArray 82)).setCells wr.heap.size 0 l)
        obtain ⟨w2, hw2⟩ : ∃ w2 : World, w2 = (wr.alloc (.cells held0.toArray 82)).setCells wr.heap.size 0 l := ⟨_, rfl⟩
        rw [← hw2]
        have hE2 : Ext wr w2 := by rw [hw2]; exact ((Ext.refl wr).alloc _).setCells l (Nat.le_refl _) 0
        have hB7 : Blk w2 wr.heap.size 82 l.toArray := by rw [hw2]; exact (Blk.newAt wr 82 held0.toArray rfl).setAll hl32
        have HLD := Lib.hid (fun (w' : World) (k : Ext w2 w') => run_load_held w' wr.heap.size 0 l hl32 (hB7.ext k).range)
        have hld2 := HLD.out w2 (Ext.refl _)
        have hcall := HC.out w2 hE2
        have HS3 := Lib.hid (fun (w' : World) (k : Ext w2 w') => run_store_held w' b (i * 32) l hl32 (HTH.out w' (hE2.trans k)) hl1.out)
        clear hw2 rs hld hB7
        generalize wr.heap.size = gb at *
        cases hq : p hs[j] with
        | false =>
          rw [hq] at hcall
          have HKP2 := Lib.hid (fun (w' : World) (k : Ext wr w') => HKP.out w' k hq)
          clear hq HKP HSK HC
          go_wp2_with (go_at_fn g; refine hcall.mono ?_; rintro e w3 ⟨rfl, hx3⟩; have hld3 := HLD.out _ hx3; have rs3 := HS3.out _ hx3)
          go_roundw
          case rel => exact ⟨i + 1, j + 1, _, by go_num, by go_num, by omega, by omega, HKP2.out _ (hE2.trans hx3), ((hEr.trans hE2).trans hx3).setCells _ hb _⟩
          case measure => (simp [intOf] <;> omega)
        | true =>
          rw [hq] at hcall
          have HSK2 := Lib.hid (fun (w' : World) (k : Ext wr w') => HSK.out w' k hq)
          clear hq HKP HSK HC
          go_wp2_with (go_at_fn g; refine hcall.mono ?_; rintro e w3 ⟨rfl, hx3⟩)
          go_roundw
          case rel => exact ⟨i, j + 1, L, rfl, by go_num, by omega, by omega, HSK2.out _ (hE2.trans hx3), (hEr.trans hE2).trans hx3⟩
          case measure => (simp [intOf] <;> omega)
      · have hjl : j = hs.length := by omega
        have hcc := own_isSome hD.out.row i (by omega)
        obtain ⟨Z, hZ, hcl⟩ : ∃ Z : List Value, Z.length = (hs.length - i) * 32 ∧ ∀ ty, (Builtin.clear_ #[28] ty #[.slice (some ⟨b, i * 32, none⟩) (hs.length - i) (c - i)]).run Tryz.prog wr = .ok (.tuple #[]) (wr.setCells b (i * 32) Z) := by
          refine ⟨(Builtin.zeroCells held0.toArray (hs.length - i)).toList, by rw [zeroCells_len]; simp [held0_len], fun ty => ?_⟩
          exact run_clear_rows held0 held0_len held0_one zero_held wr ty b (i * 32) _ _ (by omega) (fun j hj => (hcc j hj).1) (fun j hj => (hcc j hj).2)
        have hsl := fun w' => run_from_held w' (some ⟨b, 0, none⟩) hs.length c i (by omega) hc
        have hcut : cutAt (some ⟨b, 0, none⟩) c i 32 = some ⟨b, i * 32, none⟩ := by
          unfold cutAt
          rw [if_neg (by omega)]
          simp [addr_add]
        rw [hcut] at hsl
        have hsu := fun w' => run_upto_held w' (some ⟨b, 0, none⟩) hs.length c i (by omega)
        have HDN := Lib.hid (hD.out.done (by omega) (by omega) Z hZ)
        clear hcut hcc hZ
        go_wp2
        go_ret
        exact ⟨_, rfl, HDN.out, hEr.setCells _ hb _⟩

end Go.Proofs.YtekipapkcgoieaaGreatDoor
