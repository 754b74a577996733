/-
  Shelves that lack one part's entry: the plain law.
  The law on missing entries: what it computes.
-/
import Derived.Test.YtddgjlfniabehaaGreatDoorJ18
import Derived.Test.YtddgjlfniabehaaGreatDoorJ21
set_option linter.unusedVariables false
set_option linter.unusedSimpArgs false

/- Shelves that lack one part's entry: the plain law. -/
namespace Go.Proofs.YtddgjlfniabehaaGreatDoor
open Go.RowKit

def lackOf (hs : List HeldD) (nm : List UInt8) : List HeldD := hs.filter fun h => !(h.name == nm)
theorem find_lack (hs : List HeldD) (a b : List UInt8) (h : b ≠ a) : findH (lackOf hs a) b = findH hs b := by
  unfold findH lackOf
  rw [List.filter_filter]
  refine List.filter_congr fun x _ => ?_
  by_cases hx : x.name = b
  · simp [hx, h]
  · simp [hx]
theorem find_gone (hs : List HeldD) (a : List UInt8) : findH (lackOf hs a) a = [] := by
  unfold findH lackOf
  rw [List.filter_filter, List.filter_eq_nil_iff]
  intro x _
  by_cases hx : x.name = a <;> simp [hx]
theorem best_lack (hs : List HeldD) (a b : List UInt8) (g : List Int) (h : b ≠ a) : best (lackOf hs a) b g = best hs b g := by
  unfold best; rw [find_lack hs a b h]
theorem best_gone (hs : List HeldD) (a : List UInt8) (g : List Int) : best (lackOf hs a) a g = none := by
  unfold best; rw [find_gone]; rfl
theorem fold_add (f : PartD → Rat) : ∀ (l : List PartD) (s : Rat), l.foldl (fun s q => s + f q) s = s + l.foldl (fun s q => s + f q) 0
  | [], s => by simp [Rat.add_zero]
  | q :: l, s => by
    rw [List.foldl_cons, List.foldl_cons, fold_add f l (s + f q), fold_add f l (0 + f q), Rat.zero_add, Rat.add_assoc]
theorem fold_same (f f' : PartD → Rat) : ∀ (l : List PartD), (∀ q ∈ l, f q = f' q) → ∀ s, l.foldl (fun s q => s + f q) s = l.foldl (fun s q => s + f' q) s
  | [], _, _ => rfl
  | q :: l, h, s => by
    rw [List.foldl_cons, List.foldl_cons, h q (by simp)]
    exact fold_same f f' l (fun x hx => h x (by simp [hx])) _
theorem fold_less (f f' : PartD → Rat) (p : PartD) (hf : f' p = 0) (hq : ∀ q, q.name ≠ p.name → f' q = f q) :
    ∀ (l : List PartD), (l.map PartD.name).Pairwise (· ≠ ·) → p ∈ l → l.foldl (fun s q => s + f q) 0 = l.foldl (fun s q => s + f' q) 0 + f p
  | q :: l, hn, hp => by
    rw [List.map_cons, List.pairwise_cons] at hn
    rw [List.foldl_cons, List.foldl_cons, fold_add f l (0 + f q), fold_add f' l (0 + f' q), Rat.zero_add, Rat.zero_add]
    rcases List.mem_cons.1 hp with rfl | hp
    · rw [hf, Rat.zero_add, fold_same f' f l (fun x hx => hq x (fun e => hn.1 x.name (List.mem_map_of_mem hx) e.symm)) 0]
      exact Rat.add_comm _ _
    · have hne : q.name ≠ p.name := hn.1 p.name (List.mem_map_of_mem hp)
      rw [hq q hne, fold_less f f' p hf hq l hn.2 hp, Rat.add_assoc]
theorem name_one : ∀ {l : List PartD}, (l.map PartD.name).Pairwise (· ≠ ·) → ∀ {p : PartD}, p ∈ l → l.filter (fun q => q.name == p.name) = [p]
  | q :: l, hn, p, hp => by
    rw [List.map_cons, List.pairwise_cons] at hn
    rw [List.filter_cons]
    rcases List.mem_cons.1 hp with rfl | hp
    · rw [if_pos (by simp)]
      congr 1
      rw [List.filter_eq_nil_iff]
      intro x hx
      simpa using fun e => hn.1 x.name (List.mem_map_of_mem hx) e.symm
    · rw [if_neg (by simpa using hn.1 p.name (List.mem_map_of_mem hp))]
      exact name_one hn.2 hp
/-- What a shelf of the parts' entries gives, and what it gives without one of them. -/
theorem lack_law {ps : List PartD} {hs : List HeldD} (h : hs.Perm (ps.map entR)) (hn : (ps.map PartD.name).Pairwise (· ≠ ·)) (ha : ∀ q ∈ ps, q.at_ = 0 ∧ q.is = false) {p : PartD} (hp : p ∈ ps) :
    missK hs [] ps = [] ∧ missK (lackOf hs p.name) [] ps = [p.name] ∧ sumVal hs [] ps = sumVal (lackOf hs p.name) [] ps + p.c * ((twelve (numOf p) : Int) : Rat) := by
  have hv : ∀ q ∈ ps, partVal (best hs q.name []) q = some (q.c * ((twelve (numOf q) : Int) : Rat)) := fun q hq => val_ent h hn hq [] (ha q hq).1 (ha q hq).2
  refine ⟨?_, ?_, ?_⟩
  · unfold missK
    rw [List.filter_eq_nil_iff.2 (fun q hq => by rw [hv q hq]; simp)]
    rfl
  · unfold missK
    have : ps.filter (fun q => !(partVal (best (lackOf hs p.name) q.name []) q).isSome) = ps.filter (fun q => q.name == p.name) := by
      refine List.filter_congr fun q hq => ?_
      by_cases hx : q.name = p.name
      · rw [hx, best_gone]; simp [partVal]
      · rw [best_lack _ _ _ _ hx, hv q hq]
        simp [hx]
    rw [this, name_one hn hp]
    rfl
  · unfold sumVal
    have hz : (partVal (best (lackOf hs p.name) p.name []) p).getD 0 = 0 := by rw [best_gone]; rfl
    have hy : ∀ q : PartD, q.name ≠ p.name → (partVal (best (lackOf hs p.name) q.name []) q).getD 0 = (partVal (best hs q.name []) q).getD 0 := fun q hx => by rw [best_lack _ _ _ _ hx]
    rw [fold_less (fun q => (partVal (best hs q.name []) q).getD 0) (fun q => (partVal (best (lackOf hs p.name) q.name []) q).getD 0) p hz hy ps hn hp, hv p hp]
    rfl

end Go.Proofs.YtddgjlfniabehaaGreatDoor

/- The law on missing entries: what it computes. -/
namespace Go.Proofs.YtddgjlfniabehaaGreatDoor
open Go.RowKit
attribute [local go_sem ↓] Go.wp_at_zero Go.wp_at_succ
attribute [local go_sem ↓] load_entry store_entry

theorem partsR_pos (k : Nat) : 1 ≤ (partsR k (4 * k + 1)).length := by
  rw [partsR_succ]
  have := partM_sq k 0 (by omega)
  rw [show 4 * k - 0 * 0 = 4 * k by omega] at this
  rw [this]
  simp

theorem strs1 {w : World} {g : Nat} {a : List UInt8} (h : Blk w g 9 #[.string ⟨a.toArray⟩]) : IsStrs w (.slice (some ⟨g, 0, none⟩) 1 1) [a] := by
  refine ⟨fun l hl => ?_, .inr ⟨g, 0, 1, rfl, Nat.le_refl _, h.type, fun j l hl => ?_⟩⟩
  · simp at hl
    subst hl; simp [Value.oneCell']
  · intro i u hu
    have h0 := h.cell 0
    match j with
    | 0 => simp at hl; subst hl; match i with
      | 0 => simp at hu; subst hu; simpa using h0
      | i + 1 => simp at hu
    | j + 1 => simp at hl

set_option maxRecDepth 100000 in
set_option maxHeartbeats 8000000 in
theorem misses_walk (hex : ∀ w, Tab w → Calls Tryz.prog 8 #[] w fun e w' => e = .returned (.bool true) ∧ Ext w w')
    (n j : Int) (w : World) (ht : Tab w) (h1 : 0 ≤ n) (h2 : n ≤ 255) (h3 : 0 ≤ j) (h4 : j ≤ 255) :
    Calls Tryz.prog 7 #[.int .u8 n, .int .u8 j] w fun e w' => e = .returned (.bool true) ∧ Ext w w' := by
  have HEX := Lib.hid (hex w ht)
  obtain ⟨k, hk, hk1, hk2⟩ : ∃ k : Nat, 1 + n % 60 = (k : Int) ∧ 1 ≤ k ∧ k ≤ 60 := ⟨(1 + n % 60).toNat, by omega, by omega, by omega⟩
  have HT := Lib.hid ht
  have HK := Lib.hid hk
  have HAU := Lib.hid (fun (w' : World) (h : Tab w') => AuditK_R k w' hk1 (by omega) h)
  have HPA := Lib.hid (fun (w' : World) => Parts38_any k w' hk1 (by omega))
  have hl0 := partsR_pos k
  have hl1 : (partsR k (4 * k + 1)).length ≤ 241 := by have := partsR_len k (4 * k + 1); omega
  have HPN := Lib.hid (parts_names k (4 * k + 1))
  have HAT := Lib.hid (fun (q : PartD) (hq : q ∈ partsR k (4 * k + 1)) => (show q.at_ = 0 ∧ q.is = false by obtain ⟨m, _, rfl⟩ := parts_mem hq; exact ⟨rfl, rfl⟩))
  have HTW := Lib.hid (fun (q : PartD) (hq : q ∈ partsR k (4 * k + 1)) => parts_tw hq)
  have HSH := Lib.hid (fun (q : PartD) (hq : q ∈ partsR k (4 * k + 1)) => parts_short (by omega) hq)
  have HEO := Lib.hid (fun (q : PartD) (hq : q ∈ partsR k (4 * k + 1)) => entR_ok (by omega) hq)
  clear hex ht hk
  generalize partsR k (4 * k + 1) = ps at *
  go_enter Tryz.func7, Tryz.ntmps7
  go_wp2_with fail
  refine HEX.out.mono ?_
  rintro e w1 ⟨rfl, hE1⟩
  go_upto_region 5 with fail
  rw [HK.out]
  go_wp2_with fail
  refine (HAU.out w1 (HT.out.ext hE1)).mono ?_
  rintro e w2 ⟨av, a1, a2, a3, a4, rfl, hP, hQ, hE2⟩
  obtain ⟨A0, n0, rfl⟩ := hP.shape
  obtain ⟨s1, A1, n1, c1, s2, A2, n2, c2, rfl, rfl, rfl, rfl⟩ := hQ.form
  go_upto_region 6 with fail
  obtain ⟨w3, hw3⟩ : ∃ w3 : World, w3 = w2.alloc (.cells #[.slice A0 ps.length n0, .bool s1, .slice A1 n1 c1, .bool s2, .slice A2 n2 c2] 41) := ⟨_, rfl⟩
  rw [← hw3]
  have hE3 : Ext w w3 := by rw [hw3]; exact (hE1.trans hE2).alloc _
  have hE23 : Ext w2 w3 := by rw [hw3]; exact (Ext.refl _).alloc _
  have hBa : Blk w3 w2.heap.size 41 #[.slice A0 ps.length n0, .bool s1, .slice A1 n1 c1, .bool s2, .slice A2 n2 c2] := by rw [hw3]; exact Blk.newAt _ _ _ rfl
  have HBA := Lib.hid hBa
  have HP := Lib.hid (hP.ext hE23)
  have HQ := Lib.hid (hQ.ext hE23)
  clear hw3 hBa hE1 hE2 hE23 hP hQ HAU HEX HT
  generalize w2.heap.size = ga at *
  go_wp2_with fail
  refine (HPA.out w3).mono ?_
  rintro e w4 ⟨sv, hs, rfl, hpm, hS, hE4⟩
  obtain ⟨As, cs, rfl⟩ := hS.shape
  go_upto_region 7 with fail
  obtain ⟨w5, hw5⟩ : ∃ w5 : World, w5 = w4.alloc (.cells #[.slice As hs.length cs] 30) := ⟨_, rfl⟩
  rw [← hw5]
  have hE35 : Ext w3 w5 := by rw [hw5]; exact hE4.alloc _
  have hE45 : Ext w4 w5 := by rw [hw5]; exact (Ext.refl _).alloc _
  have hBs : Blk w5 w4.heap.size 30 #[.slice As hs.length cs] := by rw [hw5]; exact Blk.newAt _ _ _ rfl
  have HBS := Lib.hid hBs
  have HS := Lib.hid (hS.ext hE45)
  have HBA5 := Lib.hid (HBA.out.ext hE35)
  have HP5 := Lib.hid (HP.out.ext hE35)
  have HQ5 := Lib.hid (HQ.out.ext hE35)
  have HE5 := Lib.hid (hE3.trans hE35)
  have HPM := Lib.hid hpm
  have hhl : hs.length = ps.length := by have := hpm.length_eq; rwa [List.length_map] at this
  have HHL := Lib.hid hhl
  clear hw5 hS hBs hE4 hE45 hE35 HBA HP HQ HPA hE3 hpm hhl
  generalize w4.heap.size = gs at *
  have f5 := HBA5.out.five
  have hl0' : ¬ (ps.length : Int) = 0 := by omega
  have hl0'' : ((ps.length : Int) == 0) = false := beq_eq_false_iff_ne.2 (by omega)
  go_upto_region 9 with fail
  obtain ⟨x, hx, hxl⟩ : ∃ x : Nat, j % (ps.length : Int) = (x : Int) ∧ x < ps.length := by
    have a1 := Int.emod_nonneg j (show (ps.length : Int) ≠ 0 by omega)
    have a2 := Int.emod_lt_of_pos j (show (0 : Int) < (ps.length : Int) by omega)
    exact ⟨(j % (ps.length : Int)).toNat, by omega, by omega⟩
  have hx2 : j.tmod (ps.length : Int) = (x : Int) := by rw [Int.tmod_eq_emod_of_nonneg h3]; exact hx
  obtain ⟨b, o, x1, X1, e1, f1, x2, X2, e2, f2, x3, X3, e3, f3, rfl, hbw, hpc, hcell⟩ := HP5.out.at9 x hxl
  have hmem := List.getElem_mem hxl
  generalize ps[x] = p at *
  obtain ⟨hat, his⟩ := HAT.out p hmem
  rw [hat, his] at hcell
  have HCE := Lib.hid hcell
  have HPC := Lib.hid hpc
  have HMEM := Lib.hid hmem
  clear hcell hpc hat his hmem f5
  obtain ⟨nm, hnm⟩ : ∃ nm, p.name = nm := ⟨_, rfl⟩
  rw [hnm] at HCE
  have HNM := Lib.hid hnm
  clear hnm
  have HKK : Hid (∀ w', Ext w5 w' → (w'.cell? ⟨ga, 0, none⟩ = some (.slice (some ⟨b, o, none⟩) ps.length n0) ∧ w'.cell? ⟨b, o + x * 9, none⟩ = some (.string ⟨nm.toArray⟩) ∧ w'.cell? ⟨b, o + x * 9 + 1, none⟩ = some (.int .i64 0) ∧ w'.cell? ⟨b, o + x * 9 + 2, none⟩ = some (.bool x1) ∧ w'.cell? ⟨b, o + x * 9 + 3, none⟩ = some (.slice X1 e1 f1) ∧ w'.cell? ⟨b, o + x * 9 + 4, none⟩ = some (.bool x2) ∧ w'.cell? ⟨b, o + x * 9 + 5, none⟩ = some (.slice X2 e2 f2) ∧ w'.cell? ⟨b, o + x * 9 + 6, none⟩ = some (.bool false) ∧ w'.cell? ⟨b, o + x * 9 + 7, none⟩ = some (.bool x3) ∧ w'.cell? ⟨b, o + x * 9 + 8, none⟩ = some (.slice X3 e3 f3))) := fun w' k => ⟨(HBA5.out.ext k).cell 0, HCE.out w' k⟩
  have k5 := HKK.out w5 (Ext.refl _)
  have hxi : (x : Int) < (ps.length : Int) := by omega
  have hl3 : ps ≠ [] := by intro e; rw [e] at hl0; simp at hl0
  have hl4 : ¬ ps.length = 0 := by omega
  have hx0 : (0 : Int) ≤ (x : Int) := by omega
  have hwj : IntKind.i64.wrap j = j := IntWalk.i64_in _ (by omega)
  have hwx : IntKind.i64.wrap (x : Int) = (x : Int) := IntWalk.i64_in _ (by omega)
  have hwt : IntKind.i64.wrap (j.tmod (ps.length : Int)) = (x : Int) := by rw [hx2]; exact hwx
  have hxn : (x : Int).toNat = x := Int.toNat_natCast x
  have ha0 : ¬ (x : Int) < 0 := by omega
  have ha1 : ¬ (ps.length : Int) ≤ (x : Int) := by omega
  have ha2 : ¬ ps.length ≤ x := by omega
  go_region_held3 (fun w' => w'.cell? ⟨ga, 0, none⟩ = some (.slice (some ⟨b, o, none⟩) ps.length n0) ∧ w'.cell? ⟨b, o + x * 9, none⟩ = some (.string ⟨nm.toArray⟩) ∧ w'.cell? ⟨b, o + x * 9 + 1, none⟩ = some (.int .i64 0) ∧ w'.cell? ⟨b, o + x * 9 + 2, none⟩ = some (.bool x1) ∧ w'.cell? ⟨b, o + x * 9 + 3, none⟩ = some (.slice X1 e1 f1) ∧ w'.cell? ⟨b, o + x * 9 + 4, none⟩ = some (.bool x2) ∧ w'.cell? ⟨b, o + x * 9 + 5, none⟩ = some (.slice X2 e2 f2) ∧ w'.cell? ⟨b, o + x * 9 + 6, none⟩ = some (.bool false) ∧ w'.cell? ⟨b, o + x * 9 + 7, none⟩ = some (.bool x3) ∧ w'.cell? ⟨b, o + x * 9 + 8, none⟩ = some (.slice X3 e3 f3))
    (first | (refine HKK.out _ ?_; (repeat (first | with_reducible assumption | with_reducible exact Ext.refl _ | with_reducible refine Ext.drew ?_ | with_reducible refine Ext.drewN ?_ _ | with_reducible refine Ext.alloc ?_ _ | with_reducible refine Ext.set2 ?_ (by omega) _ _ | with_reducible refine Ext.setCell ?_ (by first | omega | (simp; done) | (simp; omega)) _ | with_reducible refine Ext.trans ?_ (by with_reducible assumption))); done))
    (first | (fail))
  obtain ⟨w6, hw6⟩ : ∃ w6 : World, w6 = (w5.alloc (.cells #[.string ⟨nm.toArray⟩, .int .i64 0, .bool x1, .slice X1 e1 f1, .bool x2, .slice X2 e2 f2, .bool false, .bool x3, .slice X3 e3 f3] 62)).drew := ⟨_, rfl⟩
  rw [← hw6]
  have hE6 : Ext w5 w6 := by rw [hw6]; exact ((Ext.refl _).alloc _).drew
  have hBp : Blk w6 w5.heap.size 62 #[.string ⟨nm.toArray⟩, .int .i64 0, .bool x1, .slice X1 e1 f1, .bool x2, .slice X2 e2 f2, .bool false, .bool x3, .slice X3 e3 f3] := by rw [hw6]; exact (Blk.newAt _ _ _ rfl).drew
  have HBP := Lib.hid hBp
  have b6 := (HBS.out.ext hE6).cell 0
  have p6 := hBp.cell 0
  have hhs : hs.length ≤ 100000 := by have := HHL.out; omega
  have HSX := Lib.hid (fun (w' : World) (k : Ext w5 w') => HS.out.ext k)
  have HDR := Lib.hid (DropK_any _ nm hs w6 hhs (HS.out.ext hE6))
  clear hw6 hBp k5 HKK
  generalize w5.heap.size = gp at *
  go_wp2_with fail
  refine HDR.out.mono ?_
  rintro e w7 ⟨lv, rfl, hE7, hL7⟩
  change IsShelf w7 lv (lackOf hs nm) at hL7
  obtain ⟨Al, cl, rfl⟩ := hL7.shape
  go_upto_region 11 with fail
  obtain ⟨w8, hw8⟩ : ∃ w8 : World, w8 = w7.alloc (.cells #[.slice Al (lackOf hs nm).length cl] 30) := ⟨_, rfl⟩
  rw [← hw8]
  have hE68 : Ext w6 w8 := by rw [hw8]; exact hE7.alloc _
  have hE78 : Ext w7 w8 := by rw [hw8]; exact (Ext.refl _).alloc _
  have hBl : Blk w8 w7.heap.size 30 #[.slice Al (lackOf hs nm).length cl] := by rw [hw8]; exact Blk.newAt _ _ _ rfl
  have hE58 := hE6.trans hE68
  have HBL := Lib.hid hBl
  have HL8 := Lib.hid (hL7.ext hE78)
  have HBP8 := Lib.hid (HBP.out.ext hE68)
  have HBS8 := Lib.hid (HBS.out.ext hE58)
  have HBA8 := Lib.hid (HBA5.out.ext hE58)
  have HS8 := Lib.hid (HS.out.ext hE58)
  have HP8 := Lib.hid (HP5.out.ext hE58)
  have HQ8 := Lib.hid (HQ5.out.ext hE58)
  have HPC8 := Lib.hid (HPC.out.ext hE58)
  have HE8 := Lib.hid (HE5.out.trans hE58)
  clear hw8 hBl hE6 hE7 hE68 hE78 hE58 hL7 b6 p6 HBP HBS HBA5 HS HP5 HQ5 HPC HE5 HDR HSX
  generalize w7.heap.size = gl at *
  have HOKH := Lib.hid (fun (h : HeldD) (hh : h ∈ hs) => (show HeldOk h by obtain ⟨q, hq, rfl⟩ := List.mem_map.1 (HPM.out.mem_iff.1 hh); exact HEO.out q hq))
  have HOKL := Lib.hid (fun (h : HeldD) (hh : h ∈ lackOf hs nm) => HOKH.out h (List.mem_filter.1 hh).1)
  have hll : (lackOf hs nm).length ≤ 100000 := Nat.le_trans (List.length_filter_le _ _) hhs
  have HLAW := Lib.hid (lack_law HPM.out HPN.out HAT.out HMEM.out)
  rw [HNM.out] at HLAW
  have HSU1 := Lib.hid ((SumK_any _ _ _ _ _ _ _ ps _ hs [] w8 (by omega) hhs (by simp) HOKH.out HTW.out HSH.out HP8.out HQ8.out HS8.out (IsNums.nil _)).mono (R' := fun e w' => ∃ (s : Bool) (A : Option Addr) (n c : Nat) (s' : Bool) (A' : Option Addr) (n' c' : Nat) (Am : Option Addr) (cm : Nat), e = .returned (.tuple #[.agg #[.bool s, .slice A n c, .bool s', .slice A' n' c'], .slice Am 0 cm]) ∧ IsRat w' (.bool s) (.slice A n c) (.bool s') (.slice A' n' c') (sumVal hs [] ps) ∧ Ext w8 w')
    fun e w' ⟨a, b, c, d, m, he, hq, hm, hE⟩ => by
      rw [HLAW.out.1] at hm
      obtain ⟨s, A, n, c, s', A', n', c', rfl, rfl, rfl, rfl⟩ := hq.form
      obtain ⟨Am, cm, rfl⟩ := hm.shape
      exact ⟨_, _, _, _, _, _, _, _, _, _, he, hq, hE⟩)
  have HSU2 := Lib.hid (fun (W : World) (k : Ext w8 W) => (SumK_any _ _ _ _ _ _ _ ps _ (lackOf hs nm) [] W (by omega) hll (by simp) HOKL.out HTW.out HSH.out (HP8.out.ext k) (HQ8.out.ext k) (HL8.out.ext k) (IsNums.nil _)).mono (R' := fun e w' => ∃ (s : Bool) (A : Option Addr) (n c : Nat) (s' : Bool) (A' : Option Addr) (n' c' : Nat) (Am : Option Addr) (cm : Nat), e = .returned (.tuple #[.agg #[.bool s, .slice A n c, .bool s', .slice A' n' c'], .slice Am 1 cm]) ∧ IsRat w' (.bool s) (.slice A n c) (.bool s') (.slice A' n' c') (sumVal (lackOf hs nm) [] ps) ∧ IsStrs w' (.slice Am 1 cm) [nm] ∧ Ext W w')
    fun e w' ⟨a, b, c, d, m, he, hq, hm, hE⟩ => by
      rw [HLAW.out.2.1] at hm
      obtain ⟨s, A, n, c, s', A', n', c', rfl, rfl, rfl, rfl⟩ := hq.form
      obtain ⟨Am, cm, rfl⟩ := hm.shape
      exact ⟨_, _, _, _, _, _, _, _, _, _, he, hq, hm, hE⟩)
  have HHO := Lib.hid (fun (W : World) (k : Ext w8 W) (hn : _) (hd : _) => (HoldsK_any _ _ _ _ _ _ _ ps _ (lackOf hs nm) [] W (by omega) hll (by simp) HOKL.out HTW.out HSH.out hn hd (HP8.out.ext k) (HQ8.out.ext k) (HL8.out.ext k) (IsNums.nil _)).mono (R' := fun e w' => e = .returned (.bool false) ∧ Ext W w')
    fun e w' ⟨he, hE⟩ => ⟨by
      rw [he]
      unfold holdsOf
      rw [HLAW.out.2.1]
      rfl, hE⟩)
  have HBE := Lib.hid (fun (W : World) (k : Ext w8 W) => BestK_any _ _ nm hs [] W hhs (by simp) (fun h hh => (HOKH.out h hh).2.1) (HS8.out.ext k) (IsNums.nil _))
  have ht0 := tot_bd (n := (k : Int)) (by omega) k (by omega)
  have htn : ((tot k k : Int) : Rat).num.natAbs ≤ 1000000000 := by rw [Rat.num_intCast]; omega
  have htd : ((tot k k : Int) : Rat).den ≤ 1000 := by rw [Rat.den_intCast]; omega
  have HHL2 := Lib.hid (fun (W : World) (h : Ext w8 W) => HHO.out W h htn htd)
  have HBO := Lib.hid (show best hs nm [] = some (entR p) by rw [← HNM.out]; exact best_ent HPM.out HPN.out HMEM.out [])
  rw [HBO.out] at HBE
  have HPT := Lib.hid (HTW.out p HMEM.out)
  clear ht0 htn htd HHO HBO hll hhs
  have f8 := HBA8.out.five
  have g8 := HBS8.out.cell 0
  go_wp2_with fail
  refine HSU1.out.mono ?_
  rintro e w9 ⟨s4, A4, n4, c4, s5, A5, n5, c5, Av, cv, rfl, hq9, hE9⟩
  go_upto_region 12 with fail
  obtain ⟨wa, hwa⟩ : ∃ wa : World, wa = w9.alloc (.cells #[.bool s4, .slice A4 n4 c4, .bool s5, .slice A5 n5 c5] 39) := ⟨_, rfl⟩
  rw [← hwa]
  have hEa : Ext w8 wa := by rw [hwa]; exact hE9.alloc _
  have hE9a : Ext w9 wa := by rw [hwa]; exact (Ext.refl _).alloc _
  have hBv : Blk wa w9.heap.size 39 #[.bool s4, .slice A4 n4 c4, .bool s5, .slice A5 n5 c5] := by rw [hwa]; exact Blk.newAt _ _ _ rfl
  have HBV := Lib.hid hBv
  have HQV := Lib.hid (hq9.ext hE9a)
  have HEA := Lib.hid hEa
  clear hwa hBv hq9 hE9 hE9a f8 g8
  generalize w9.heap.size = gv at *
  have fa := (HBA8.out.ext hEa).five
  have ga8 := (HBL.out.ext hEa).cell 0
  have HSU := Lib.hid (HSU2.out wa hEa)
  clear hEa
  go_wp2_with fail
  refine HSU.out.mono ?_
  rintro e wb ⟨s6, A6, n6, c6, s7, A7, n7, c7, Am, cm, rfl, hqb, hmb, hEb⟩
  go_upto_region 13 with fail
  obtain ⟨wc, hwc⟩ : ∃ wc : World, wc = wb.alloc (.cells #[.bool s6, .slice A6 n6 c6, .bool s7, .slice A7 n7 c7] 39) := ⟨_, rfl⟩
  rw [← hwc]
  have hEc : Ext wa wc := by rw [hwc]; exact hEb.alloc _
  have hEbc : Ext wb wc := by rw [hwc]; exact (Ext.refl _).alloc _
  have hBw : Blk wc wb.heap.size 39 #[.bool s6, .slice A6 n6 c6, .bool s7, .slice A7 n7 c7] := by rw [hwc]; exact Blk.newAt _ _ _ rfl
  have HBW := Lib.hid hBw
  have HQW := Lib.hid (hqb.ext hEbc)
  have HMW := Lib.hid (hmb.ext hEbc)
  have HBVc := Lib.hid (HBV.out.ext hEc)
  have HQVc := Lib.hid (HQV.out.ext hEc)
  have HE8c := Lib.hid (HEA.out.trans hEc)
  clear hwc hBw hqb hmb hEb hEbc hEc fa ga8 HBV HQV HSU HEA HSU1 HSU2
  generalize wb.heap.size = gw at *
  have g8 := (HBS8.out.ext HE8c.out).cell 0
  have p8 := (HBP8.out.ext HE8c.out).cell 0
  have HBX := Lib.hid (HBE.out wc HE8c.out)
  clear HBE
  go_wp2_with fail
  refine HBX.out.mono ?_
  rintro e wd ⟨es, rfl, hel, heo, hex, hEd⟩
  have rs := run_store_entry (wd.alloc (.cells entry0.toArray 100)) wd.heap.size 0 es hel ((Blk.newAt wd 100 entry0.toArray rfl).there rfl) heo
  unfold entry0 at rs
  go_upto_region 14 with fail
  change Code.wp _ _ _ _ ((wd.alloc (.cells entry0.toArray 100)).setCells wd.heap.size 0 es)
  obtain ⟨we, hwe⟩ : ∃ we : World, we = (wd.alloc (.cells entry0.toArray 100)).setCells wd.heap.size 0 es := ⟨_, rfl⟩
  rw [← hwe]
  have hEde : Ext wd we := by rw [hwe]; exact ((Ext.refl wd).alloc _).setCells es (Nat.le_refl _) 0
  have hBe : Blk we wd.heap.size 100 es.toArray := by rw [hwe]; exact (Blk.newAt wd 100 entry0.toArray rfl).setAll hel
  have hEce := hEd.trans hEde
  obtain ⟨-, -, -, ⟨V, hV1, hV2⟩, -⟩ := hex (entR p) rfl
  have hV3 : IsInts we V [twelve (numOf p)] := hV2.keep (ts := [37, 136]) (KeepT.ext hEde) (fun _ h => h)
  obtain ⟨lv, hR, hA⟩ := hV3
  obtain ⟨B, d, rfl⟩ := hR.shape
  have hlv : lv.length = 1 := hA.length
  have hkl : 0 < lv.length := by omega
  obtain ⟨b2, o2, rfl, hb2, hrow⟩ := hR.row 0 hkl
  obtain ⟨bx, ux, hlk, hix⟩ := hA.get 0 _ _ (List.getElem?_eq_getElem hkl) (show [twelve (numOf p)][0]? = some (twelve (numOf p)) from rfl)
  obtain ⟨s8, A8, n8, c8, rfl, rfl, -, -, -⟩ := hix.form
  rw [hlv] at hV1
  have HCV := Lib.hid (fun (w' : World) (k : Ext we w') => (show w'.cell? ⟨b2, o2, none⟩ = some (.bool s8) ∧ w'.cell? ⟨b2, o2 + 1, none⟩ = some (.slice A8 n8 c8) by
    have hr := hrow w' (KeepT.ext k)
    rw [hlk] at hr
    have r0 := hr 0 _ rfl
    have r1 := hr 1 _ rfl
    simp only [Nat.zero_mul, Nat.add_zero] at r0 r1
    exact ⟨r0, r1⟩))
  have e1 : we.cell? ⟨wd.heap.size, 1, none⟩ = some (.slice (some ⟨b2, o2, none⟩) 1 d) := (hBe.cell 1).trans (by simpa using hV1)
  have HIX := Lib.hid hix
  have HBE := Lib.hid hBe
  have HVE := Lib.hid hV1
  have HE8e := Lib.hid (HE8c.out.trans hEce)
  have HBP := Lib.hid (HBP8.out.ext HE8e.out)
  have HBA := Lib.hid (HBA8.out.ext HE8e.out)
  have HBLe := Lib.hid (HBL.out.ext HE8e.out)
  have HMe := Lib.hid (HMW.out.ext hEce)
  have HBVe := Lib.hid (HBVc.out.ext hEce)
  have HQVe := Lib.hid (HQVc.out.ext hEce)
  have HBWe := Lib.hid (HBW.out.ext hEce)
  have HQWe := Lib.hid (HQW.out.ext hEce)
  have HPCe := Lib.hid (HPC8.out.ext HE8e.out)
  have HHe := Lib.hid (fun (W : World) (h : Ext we W) => HHL2.out W (HE8e.out.trans h))
  have HEE := Lib.hid (HE8.out.trans HE8e.out)
  have p8 := HBP.out.cell 0
  clear hwe hEde hEce hex hV1 hV2 hR hA hlv hkl hrow hlk hix hBe rs g8 HBP8 HBA8 HBL HMW HBVc HQVc HBW HQW HPC8 HHL2 HBX HE8c HCE HOKH HOKL hel heo hEd
  generalize wd.heap.size = ge at *
  go_wp2_with fail
  obtain ⟨wf, hwf⟩ : ∃ wf : World, wf = we.alloc (.cells #[.string ⟨nm.toArray⟩] 9) := ⟨_, rfl⟩
  rw [← hwf]
  have hEf : Ext we wf := by rw [hwf]; exact (Ext.refl _).alloc _
  have hBf : Blk wf we.heap.size 9 #[.string ⟨nm.toArray⟩] := by rw [hwf]; exact Blk.newAt _ _ _ rfl
  have HSA := Lib.hid ((Same38_any _ _ [nm] [nm] wf (by simp) (by simp) (HMe.out.ext hEf) (strs1 hBf)).mono (R' := fun e w'' => e = .returned (.bool true) ∧ Ext wf w'') fun e w'' ⟨he, n, hw⟩ => ⟨by rw [he]; simp, by rw [hw]; exact (Ext.refl _).drewN n⟩)
  clear hwf hBf e1 p8
  generalize we.heap.size = gt at *
  refine HSA.out.mono ?_
  rintro e wg ⟨rfl, hEg⟩
  have hEeg := hEf.trans hEg
  have f8 := (HBA.out.ext hEeg).five
  have g8 := (HBLe.out.ext hEeg).cell 0
  have HHg := Lib.hid (HHe.out wg hEeg)
  have HEG := Lib.hid hEeg
  clear hEf hEg hEeg HHe
  go_wp2_with fail
  refine HHg.out.mono ?_
  rintro e wh ⟨rfl, hEh⟩
  have HEH := Lib.hid (HEG.out.trans hEh)
  clear f8 g8 hEh HHg HEG
  go_upto_region 16 with fail
  have HE0 := Lib.hid (fun (w' : World) (k : Ext wh w') => HEH.out.trans k)
  have HKF : Hid (∀ w', Ext wh w' → (w'.cell? ⟨gv, 0, none⟩ = some (.bool s4) ∧ w'.cell? ⟨gv, 1, none⟩ = some (.slice A4 n4 c4) ∧ w'.cell? ⟨gv, 2, none⟩ = some (.bool s5) ∧ w'.cell? ⟨gv, 3, none⟩ = some (.slice A5 n5 c5) ∧ w'.cell? ⟨gw, 0, none⟩ = some (.bool s6) ∧ w'.cell? ⟨gw, 1, none⟩ = some (.slice A6 n6 c6) ∧ w'.cell? ⟨gw, 2, none⟩ = some (.bool s7) ∧ w'.cell? ⟨gw, 3, none⟩ = some (.slice A7 n7 c7) ∧ w'.cell? ⟨gp, 2, none⟩ = some (.bool x1) ∧ w'.cell? ⟨gp, 3, none⟩ = some (.slice X1 e1 f1) ∧ w'.cell? ⟨gp, 4, none⟩ = some (.bool x2) ∧ w'.cell? ⟨gp, 5, none⟩ = some (.slice X2 e2 f2) ∧ w'.cell? ⟨ge, 1, none⟩ = some (.slice (some ⟨b2, o2, none⟩) 1 d) ∧ w'.cell? ⟨b2, o2, none⟩ = some (.bool s8) ∧ w'.cell? ⟨b2, o2 + 1, none⟩ = some (.slice A8 n8 c8))) := fun w' k =>
    have q1 := (HBVe.out.ext (HE0.out w' k)).four
    have q2 := (HBWe.out.ext (HE0.out w' k)).four
    have q3 := HBP.out.ext (HE0.out w' k)
    have q4 := HBE.out.ext (HE0.out w' k)
    ⟨q1.1, q1.2.1, q1.2.2.1, q1.2.2.2.1, q2.1, q2.2.1, q2.2.2.1, q2.2.2.2.1, q3.cell 2, q3.cell 3, q3.cell 4, q3.cell 5, (q4.cell 1).trans (by simpa using HVE.out), HCV.out w' (HE0.out w' k)⟩
  have hst1 := sumVal_tw (g := []) (hs := hs) (fun h hh => (show HeldOk h by obtain ⟨q, hq, rfl⟩ := List.mem_map.1 (HPM.out.mem_iff.1 hh); exact HEO.out q hq)) HTW.out ps.length (Nat.le_refl _)
  have hst2 := sumVal_tw (g := []) (hs := lackOf hs nm) (fun h hh => (show HeldOk h by obtain ⟨q, hq, rfl⟩ := List.mem_map.1 (HPM.out.mem_iff.1 (List.mem_filter.1 hh).1); exact HEO.out q hq)) HTW.out ps.length (Nat.le_refl _)
  rw [List.take_length] at hst1 hst2
  have htv : (twelve (numOf p)).natAbs ≤ 1000000000 := (HEO.out p HMEM.out).2.2 _ (by simp [entR])
  obtain ⟨tv, htve⟩ : ∃ tv : Int, twelve (numOf p) = tv := ⟨_, rfl⟩
  have hlaw := HLAW.out.2.2
  rw [htve] at hlaw htv HIX
  have hpc := HPT.out.c
  have hmt := hpc.mul (v := tv) htv
  obtain ⟨S1, hS1⟩ : ∃ S1, sumVal hs [] ps = S1 := ⟨_, rfl⟩
  obtain ⟨S2, hS2⟩ : ∃ S2, sumVal (lackOf hs nm) [] ps = S2 := ⟨_, rfl⟩
  rw [hS1] at hst1 hlaw HQVe
  rw [hS2] at hst2 hlaw HQWe
  have heq : S1 - S2 = p.c * ((tv : Int) : Rat) := by
    rw [hlaw, Rat.sub_eq_add_neg, Rat.add_comm S2, Rat.add_assoc, Rat.add_neg_cancel, Rat.add_zero]
  have hd1 := hst1.den
  have hd2 := hst2.den
  have hn1 := hst1.num
  have hn2 := hst2.num
  have hm1 := hmt.num
  have hm2 := hmt.den
  have hc1 := hpc.num
  have hc2 := hpc.den
  have hB : ps.length * 1000000000000 ≤ 241000000000000 := by omega
  have hmm : S1.den * S2.den ≤ 12 * 12 := Nat.mul_le_mul hd1 hd2
  have hnn : (S1.num * S2.den - S2.num * S1.den).natAbs ≤ 18446744073709551615 := by
    have a1 : (S1.num * S2.den).natAbs ≤ 241000000000000 * 12 := by rw [Int.natAbs_mul, Int.natAbs_natCast]; exact Nat.mul_le_mul (by omega) hd2
    have a2 : (S2.num * S1.den).natAbs ≤ 241000000000000 * 12 := by rw [Int.natAbs_mul, Int.natAbs_natCast]; exact Nat.mul_le_mul (by omega) hd1
    omega
  have hnm2 : (p.c.num * ((tv : Int) : Rat).num).natAbs ≤ 18446744073709551615 := by
    rw [Rat.num_intCast, Int.natAbs_mul]
    have a3 := Nat.mul_le_mul hc1 htv
    obtain ⟨q, hq⟩ : ∃ q, p.c.num.natAbs * tv.natAbs = q := ⟨_, rfl⟩
    rw [hq] at a3 ⊢
    clear hq hnn hmm hB
    omega
  have HSB := Lib.hid (fun (w' : World) (k : Ext wh w') => rsub1_any _ _ _ _ _ _ _ _ S1 S2 w' (by omega) (by omega) (by omega) hnn (HQVe.out.ext (HE0.out w' k)) (HQWe.out.ext (HE0.out w' k)))
  have HWH := Lib.hid (fun (w' : World) (k : Ext wh w') => rWhole1_any _ _ tv w' (HIX.out.ext (HE0.out w' k)))
  have HML := Lib.hid (fun (w' : World) (b3 v3 b4 v4 : Value) (k : Ext wh w') (h : IsRat w' b3 v3 b4 v4 ((tv : Int) : Rat)) => rmul1_any _ _ _ _ b3 v3 b4 v4 p.c ((tv : Int) : Rat) w' (by omega) (by rw [Rat.num_intCast]; omega) (by rw [Rat.den_intCast]; omega) hnm2 (HPCe.out.ext (HE0.out w' k)) h)
  have HSM := Lib.hid (fun (w' : World) (b1 v1 b2 v2 b3 v3 b4 v4 : Value) (h : IsRat w' b1 v1 b2 v2 (S1 - S2)) (h2 : IsRat w' b3 v3 b4 v4 (p.c * ((tv : Int) : Rat))) => same_one h h2 heq (by rw [heq]; omega) (by rw [heq]; omega))
  have kf := HKF.out wh (Ext.refl _)
  have HEF := Lib.hid (HEE.out.trans HEH.out)
  clear htve hlaw hpc hmt hS1 hS2 hst1 hst2 hd1 hd2 hn1 hn2 hm1 hm2 hc1 hc2 hB hmm hnn hnm2 heq htv
  go_region_held3 (fun w' => w'.cell? ⟨gv, 0, none⟩ = some (.bool s4) ∧ w'.cell? ⟨gv, 1, none⟩ = some (.slice A4 n4 c4) ∧ w'.cell? ⟨gv, 2, none⟩ = some (.bool s5) ∧ w'.cell? ⟨gv, 3, none⟩ = some (.slice A5 n5 c5) ∧ w'.cell? ⟨gw, 0, none⟩ = some (.bool s6) ∧ w'.cell? ⟨gw, 1, none⟩ = some (.slice A6 n6 c6) ∧ w'.cell? ⟨gw, 2, none⟩ = some (.bool s7) ∧ w'.cell? ⟨gw, 3, none⟩ = some (.slice A7 n7 c7) ∧ w'.cell? ⟨gp, 2, none⟩ = some (.bool x1) ∧ w'.cell? ⟨gp, 3, none⟩ = some (.slice X1 e1 f1) ∧ w'.cell? ⟨gp, 4, none⟩ = some (.bool x2) ∧ w'.cell? ⟨gp, 5, none⟩ = some (.slice X2 e2 f2) ∧ w'.cell? ⟨ge, 1, none⟩ = some (.slice (some ⟨b2, o2, none⟩) 1 d) ∧ w'.cell? ⟨b2, o2, none⟩ = some (.bool s8) ∧ w'.cell? ⟨b2, o2 + 1, none⟩ = some (.slice A8 n8 c8))
    (first | (refine HKF.out _ ?_; (repeat (first | with_reducible assumption | with_reducible exact Ext.refl _ | with_reducible refine Ext.drew ?_ | with_reducible refine Ext.drewN ?_ _ | with_reducible refine Ext.alloc ?_ _ | with_reducible refine Ext.set2 ?_ (by omega) _ _ | with_reducible refine Ext.setCell ?_ (by first | omega | (simp; done) | (simp; omega)) _ | with_reducible refine Ext.trans ?_ (by with_reducible assumption))); done))
    (first | (go_at_call 34; (with_reducible refine (HSB.out _ ?q1).mono ?_); (case q1 => (repeat (first | with_reducible assumption | with_reducible exact Ext.refl _ | with_reducible refine Ext.drew ?_ | with_reducible refine Ext.drewN ?_ _ | with_reducible refine Ext.alloc ?_ _ | with_reducible refine Ext.set2 ?_ (by omega) _ _ | with_reducible refine Ext.setCell ?_ (by first | omega | (simp; done) | (simp; omega)) _ | with_reducible refine Ext.trans ?_ (by with_reducible assumption)))); rintro e wx ⟨sx, Ax, nx, cx, sx', Ax', nx', cx', rfl, hqx, hex⟩) | (go_at_call 35; (with_reducible refine (HWH.out _ ?q1).mono ?_); (case q1 => (repeat (first | with_reducible assumption | with_reducible exact Ext.refl _ | with_reducible refine Ext.drew ?_ | with_reducible refine Ext.drewN ?_ _ | with_reducible refine Ext.alloc ?_ _ | with_reducible refine Ext.set2 ?_ (by omega) _ _ | with_reducible refine Ext.setCell ?_ (by first | omega | (simp; done) | (simp; omega)) _ | with_reducible refine Ext.trans ?_ (by with_reducible assumption)))); rintro e wy ⟨sy, Ay, ny, cy, sy', Ay', ny', cy', rfl, hqy, hey⟩) | (go_at_call 29; (with_reducible refine (HML.out _ _ _ _ _ ?q1 ?q2).mono ?_); (case q1 => (repeat (first | with_reducible assumption | with_reducible exact Ext.refl _ | with_reducible refine Ext.drew ?_ | with_reducible refine Ext.drewN ?_ _ | with_reducible refine Ext.alloc ?_ _ | with_reducible refine Ext.set2 ?_ (by omega) _ _ | with_reducible refine Ext.setCell ?_ (by first | omega | (simp; done) | (simp; omega)) _ | with_reducible refine Ext.trans ?_ (by with_reducible assumption)))); (case q2 => (refine IsRat.ext hqy ?_; (repeat (first | with_reducible assumption | with_reducible exact Ext.refl _ | with_reducible refine Ext.drew ?_ | with_reducible refine Ext.drewN ?_ _ | with_reducible refine Ext.alloc ?_ _ | with_reducible refine Ext.set2 ?_ (by omega) _ _ | with_reducible refine Ext.setCell ?_ (by first | omega | (simp; done) | (simp; omega)) _ | with_reducible refine Ext.trans ?_ (by with_reducible assumption))))); rintro e wz ⟨sz, Az, nz, cz, sz', Az', nz', cz', rfl, hqz, hez⟩) | (go_at_call 18; (with_reducible refine (HSM.out _ _ _ _ _ _ _ _ _ ?q1 ?q2).mono ?_); (case q1 => (refine IsRat.ext hqx ?_; (repeat (first | with_reducible assumption | with_reducible exact Ext.refl _ | with_reducible refine Ext.drew ?_ | with_reducible refine Ext.drewN ?_ _ | with_reducible refine Ext.alloc ?_ _ | with_reducible refine Ext.set2 ?_ (by omega) _ _ | with_reducible refine Ext.setCell ?_ (by first | omega | (simp; done) | (simp; omega)) _ | with_reducible refine Ext.trans ?_ (by with_reducible assumption))))); (case q2 => (refine IsRat.ext hqz ?_; (repeat (first | with_reducible assumption | with_reducible exact Ext.refl _ | with_reducible refine Ext.drew ?_ | with_reducible refine Ext.drewN ?_ _ | with_reducible refine Ext.alloc ?_ _ | with_reducible refine Ext.set2 ?_ (by omega) _ _ | with_reducible refine Ext.setCell ?_ (by first | omega | (simp; done) | (simp; omega)) _ | with_reducible refine Ext.trans ?_ (by with_reducible assumption))))); rintro e wn ⟨rfl, hen⟩))
  all_goals
    go_wp2
    go_ret
    exact ⟨rfl, HEF.out.trans (by (repeat (first | with_reducible assumption | with_reducible exact Ext.refl _ | with_reducible refine Ext.drew ?_ | with_reducible refine Ext.drewN ?_ _ | with_reducible refine Ext.alloc ?_ _ | with_reducible refine Ext.set2 ?_ (by omega) _ _ | with_reducible refine Ext.setCell ?_ (by first | omega | (simp; done) | (simp; omega)) _ | with_reducible refine Ext.trans ?_ (by with_reducible assumption))))⟩

end Go.Proofs.YtddgjlfniabehaaGreatDoor
