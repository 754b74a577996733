/-
  Numbers of the law on parts.
  The law on parts: what it computes.
-/
import Derived.Test.YtddgjlfniabehaaGreatDoorJ18
import Derived.Test.YtddgjlfniabehaaGreatDoorJ20
import Derived.Test.YtddgjlfniabehaaGreatDoorJ09
import Derived.IntWalk
set_option linter.unusedVariables false
set_option linter.unusedSimpArgs false

/- Numbers of the law on parts. -/
namespace Go.Proofs.YtddgjlfniabehaaGreatDoor
open Go.RowKit

/-- How many of the first j integers from -2k on have squares of at most 4k. -/
def cntLe (k : Nat) : Nat → Nat
  | 0 => 0
  | j + 1 => cntLe k j + (if ((j : Int) - 2 * k) * ((j : Int) - 2 * k) ≤ 4 * k then 1 else 0)
theorem cntLe_le (k : Nat) : ∀ j, cntLe k j ≤ j
  | 0 => Nat.le_refl _
  | j + 1 => by have := cntLe_le k j; simp only [cntLe]; split <;> omega
theorem sq_small {k T : Nat} (h1 : ∀ i, i < T → i * i ≤ 4 * k) (h2 : 4 * k < T * T) (x : Int) : x * x ≤ 4 * k ↔ x.natAbs < T := by
  have hx : x * x = ((x.natAbs * x.natAbs : Nat) : Int) := by rw [Int.natCast_mul, Int.natAbs_mul_self']
  rw [hx]
  constructor
  · intro h
    rcases Nat.lt_or_ge x.natAbs T with h3 | h3
    · exact h3
    · have := Nat.mul_le_mul h3 h3
      omega
  · intro h
    have := h1 _ h
    omega
theorem T_le {k T : Nat} (hk : 1 ≤ k) (h1 : ∀ i, i < T → i * i ≤ 4 * k) : T ≤ 2 * k + 1 := by
  rcases Nat.lt_or_ge (2 * k + 1) T with h | h
  · have := h1 _ h
    have h2 : (2 * k + 1) * (2 * k + 1) = 4 * (k * k) + 4 * k + 1 := by
      rw [Nat.mul_add, Nat.add_mul, Nat.mul_mul_mul_comm]; omega
    omega
  · exact h
theorem T_pos {k T : Nat} (h2 : 4 * k < T * T) : 1 ≤ T := by
  rcases Nat.eq_zero_or_pos T with rfl | h
  · omega
  · exact h
theorem cntLe_form {k T : Nat} (hk : 1 ≤ k) (h1 : ∀ i, i < T → i * i ≤ 4 * k) (h2 : 4 * k < T * T) : ∀ j, cntLe k j + min j (2 * k + 1 - T) = min j (2 * k + T)
  | 0 => by simp [cntLe]
  | j + 1 => by
    have ih := cntLe_form hk h1 h2 j
    have hT := T_le hk h1
    have hp := T_pos h2
    have hs := sq_small h1 h2 ((j : Int) - 2 * k)
    simp only [cntLe]
    by_cases h : ((j : Int) - 2 * k) * ((j : Int) - 2 * k) ≤ 4 * k
    · rw [if_pos h]
      have := hs.1 h
      omega
    · rw [if_neg h]
      have : ¬ ((j : Int) - 2 * k).natAbs < T := fun h3 => h (hs.2 h3)
      omega
theorem cntLe_end {k T : Nat} (hk : 1 ≤ k) (h1 : ∀ i, i < T → i * i ≤ 4 * k) (h2 : 4 * k < T * T) : cntLe k (4 * k + 1) = 2 * T - 1 := by
  have := cntLe_form hk h1 h2 (4 * k + 1)
  have hT := T_le hk h1
  omega

/-- The sum of the first i coefficients. -/
def sumC (T i : Nat) : Rat := mkRat (min (2 * i) (2 * T - 1) : Nat) 12
theorem rev_at (n T i : Nat) (hi : i < (partsK n T).reverse.length) : (partsK n T).reverse[i] = partK n (T - 1 - i) := by
  rw [List.length_reverse, partsK_len] at hi
  rw [List.getElem_reverse]
  simp only [partsK, List.getElem_map, List.getElem_range, List.length_map, List.length_range]
theorem sumC_succ (n T i : Nat) (hi : i < T) : sumC T (i + 1) = sumC T i + (partK n (T - 1 - i)).c := by
  unfold sumC partK
  have h6 : mkRat 1 6 = mkRat 2 12 := by decide
  by_cases h : T - 1 - i = 0
  · simp only [h, if_true]
    rw [mk12_add]
    congr 1
    omega
  · simp only [h, if_false, h6]
    rw [mk12_add]
    congr 1
    omega
theorem sumC_tw (T i : Nat) : Tw (2 * T) (sumC T i) := ⟨_, rfl, by omega⟩
theorem partK_tw (n t : Nat) : Tw 2 (partK n t).c := by
  unfold partK
  by_cases h : t = 0
  · simp only [h, if_true]; exact ⟨1, rfl, by decide⟩
  · simp only [h, if_false]; exact ⟨2, by decide, by decide⟩
theorem sumC_end (T : Nat) : sumC T T * mkRat 12 1 = mkRat (2 * T - 1 : Nat) 1 := by
  unfold sumC
  have : min (2 * T) (2 * T - 1) = 2 * T - 1 := by omega
  rw [this, Rat.mkRat_mul_mkRat, Nat.mul_one, ← Rat.mkRat_mul_right (n := ((2 * T - 1 : Nat) : Int)) (d := 1) (a := 12) (by decide)]
  rfl
/-- The number of the part before, or less than any. -/
def lastV (k T i : Nat) : Int := if i = 0 then -1 else 4 * (k : Int) - ((T - i : Nat) : Int) * ((T - i : Nat) : Int)
theorem last_lt {k T i : Nat} (h1 : ∀ i, i < T → i * i ≤ 4 * k) (hi : i < T) : lastV k T i < ((4 * k - (T - 1 - i) * (T - 1 - i) : Nat) : Int) := by
  have h := h1 (T - 1 - i) (by omega)
  unfold lastV
  split
  · omega
  · obtain ⟨u, hu⟩ : ∃ u, T - 1 - i = u := ⟨_, rfl⟩
    have hu2 : T - i = u + 1 := by omega
    rw [hu] at h ⊢
    rw [hu2]
    have h3 : (u + 1) * (u + 1) = u * u + 2 * u + 1 := by rw [Nat.mul_add, Nat.add_mul]; omega
    have h4 : (((u + 1 : Nat) : Int) * ((u + 1 : Nat) : Int)) = ((u * u + 2 * u + 1 : Nat) : Int) := by rw [← Int.natCast_mul, h3]
    rw [h4]
    omega
theorem last_succ {k T i : Nat} (h1 : ∀ i, i < T → i * i ≤ 4 * k) (hi : i < T) : lastV k T (i + 1) = ((4 * k - (T - 1 - i) * (T - 1 - i) : Nat) : Int) := by
  have h := h1 (T - 1 - i) (by omega)
  unfold lastV
  rw [if_neg (by omega), show T - (i + 1) = T - 1 - i by omega, ← Int.natCast_mul]
  omega
theorem sqrt_same {r t : Nat} (h1 : r * r ≤ t * t) (h2 : t * t < (r + 1) * (r + 1)) : r = t := by
  rcases Nat.lt_trichotomy r t with h | h | h
  · have := Nat.mul_le_mul (show r + 1 ≤ t from h) (show r + 1 ≤ t from h); omega
  · exact h
  · have := Nat.mul_lt_mul_of_lt_of_le h (Nat.le_of_lt h) (by omega); omega

end Go.Proofs.YtddgjlfniabehaaGreatDoor

/- The law on parts: what it computes. -/
namespace Go.Proofs.YtddgjlfniabehaaGreatDoor
open Go.RowKit
attribute [local go_sem ↓] Go.wp_at_zero Go.wp_at_succ
attribute [local go_sem ↓] sub_str

theorem KeepT.set4 {ts : List TypeId} {a b : World} (h : KeepT ts a b) {k : Nat} {t : TypeId} (hk : TypeAt b k t) (ht : t ∉ ts) (u v x y : Value) : KeepT ts a ((((b.setCell ⟨k, 0, none⟩ u).setCell ⟨k, 1, none⟩ v).setCell ⟨k, 2, none⟩ x).setCell ⟨k, 3, none⟩ y) := by
  have t1 := hk.setCell ⟨k, 0, none⟩ u
  have t2 := t1.setCell ⟨k, 1, none⟩ v
  have t3 := t2.setCell ⟨k, 2, none⟩ x
  exact (((h.set (p := ⟨k, 0, none⟩) hk ht u).set (p := ⟨k, 1, none⟩) t1 ht v).set (p := ⟨k, 2, none⟩) t2 ht x).set (p := ⟨k, 3, none⟩) t3 ht y
/-- A part, its place out of a variable: all of its cells. -/
theorem IsParts.at9 {w : World} {A : Option Addr} {n c : Nat} {ps : List PartD} (h : IsParts w (.slice A n c) ps) (j : Nat) (hj : j < ps.length) :
    ∃ (b o : Nat) (s1 : Bool) (A1 : Option Addr) (n1 c1 : Nat) (s2 : Bool) (A2 : Option Addr) (n2 c2 : Nat) (s3 : Bool) (A3 : Option Addr) (n3 c3 : Nat), A = some ⟨b, o, none⟩ ∧ b < w.heap.size ∧ IsRat w (.bool s1) (.slice A1 n1 c1) (.bool s2) (.slice A2 n2 c2) (ps[j]).c ∧
      ∀ w', Ext w w' → w'.cell? ⟨b, o + j * 9, none⟩ = some (.string ⟨(ps[j]).name.toArray⟩) ∧ w'.cell? ⟨b, o + j * 9 + 1, none⟩ = some (.int .i64 (ps[j]).at_) ∧ w'.cell? ⟨b, o + j * 9 + 2, none⟩ = some (.bool s1) ∧ w'.cell? ⟨b, o + j * 9 + 3, none⟩ = some (.slice A1 n1 c1) ∧ w'.cell? ⟨b, o + j * 9 + 4, none⟩ = some (.bool s2) ∧ w'.cell? ⟨b, o + j * 9 + 5, none⟩ = some (.slice A2 n2 c2) ∧ w'.cell? ⟨b, o + j * 9 + 6, none⟩ = some (.bool (ps[j]).is) ∧ w'.cell? ⟨b, o + j * 9 + 7, none⟩ = some (.bool s3) ∧ w'.cell? ⟨b, o + j * 9 + 8, none⟩ = some (.slice A3 n3 c3) := by
  obtain ⟨ls, h1, h2⟩ := h
  have hj' : j < ls.length := by rw [h2.length]; exact hj
  obtain ⟨b, o, e, ht, hr⟩ := h1.row j hj'
  obtain ⟨s1, v1, s2, v2, s3, v3, hl, hq, hi⟩ := h2.get j _ _ (List.getElem?_eq_getElem hj') (List.getElem?_eq_getElem hj)
  obtain ⟨s1, A1, n1, c1, s2, A2, n2, c2, rfl, rfl, rfl, rfl⟩ := hq.form
  obtain ⟨s3, A3, n3, c3, rfl, rfl, -, -, -⟩ := hi.form
  refine ⟨b, o, s1, A1, n1, c1, s2, A2, n2, c2, s3, A3, n3, c3, e, ht.lt, hq, fun w' hw => ?_⟩
  have hr2 := hr w' (KeepT.ext hw)
  rw [hl] at hr2
  exact ⟨hr2 0 _ rfl, hr2 1 _ rfl, hr2 2 _ rfl, hr2 3 _ rfl, hr2 4 _ rfl, hr2 5 _ rfl, hr2 6 _ rfl, hr2 7 _ rfl, hr2 8 _ rfl⟩
theorem run_head_name (m : Nat) (w : World) (hm : m < 4294967296) : (bigSub 9 (.string ⟨(nameOf m).toArray⟩) none (some (.int .i64 2)) none).run Tryz.prog w = .ok (.string ⟨#[104, 58]⟩) w := by
  have hl := nameOf_len m hm
  have h2 : (2 : Int) ≤ ((nameOf m).length : Int) := by omega
  have hs : ByteArray.size ⟨(nameOf m).toArray⟩ = (nameOf m).length := by simp [ByteArray.size]
  have he : ByteArray.extract ⟨(nameOf m).toArray⟩ 0 2 = ⟨#[104, 58]⟩ := by
    rw [ByteArray.ext_iff, ByteArray.data_extract]
    simp [nameOf]
  unfold bigSub Instr.slice
  simp [go_sem, Instr.sliceBounds, hs, h2, he]

set_option maxRecDepth 100000 in
set_option maxHeartbeats 8000000 in
theorem partsL_walk (hex : ∀ w, Tab w → Calls Tryz.prog 8 #[] w fun e w' => e = .returned (.bool true) ∧ Ext w w')
    (n : Int) (w : World) (ht : Tab w) (h1 : 0 ≤ n) (h2 : n ≤ 255) :
    Calls Tryz.prog 4 #[.int .u8 n] w fun e w' => e = .returned (.bool true) ∧ Ext w w' := by
  have HEX := Lib.hid (hex w ht)
  obtain ⟨k, hk, hk1, hk2⟩ : ∃ k : Nat, 1 + n % 200 = (k : Int) ∧ 1 ≤ k ∧ k ≤ 200 := ⟨(1 + n % 200).toNat, by omega, by omega, by omega⟩
  have HT := Lib.hid ht
  have HK := Lib.hid hk
  have HO := Lib.hid (fun w' : World => (show Calls Tryz.prog 22 #[.int .i64 0, .int .i64 1] w' (RRat w' (mkRat 0 1)) from rOf1_any 0 1 w' (by omega) (by omega) (by omega) (by omega)))
  have HAU := Lib.hid (fun (w' : World) (h : Tab w') => AuditK_pos k w' hk1 (by omega) h)
  clear hex ht hk
  go_enter Tryz.func4, Tryz.ntmps4
  go_wp2_with fail
  refine HEX.out.mono ?_
  rintro e w1 ⟨rfl, hE1⟩
  go_upto_region 5 with fail
  rw [HK.out]
  go_wp2_with fail
  refine (HAU.out w1 (HT.out.ext hE1)).mono ?_
  rintro e w2 ⟨av, a1, a2, a3, a4, T, rfl, hT1, hT2, hP, hQ, hE2⟩
  obtain ⟨A0, n0, rfl⟩ := hP.shape
  obtain ⟨s1, A1, n1, c1, s2, A2, n2, c2, rfl, rfl, rfl, rfl⟩ := hQ.form
  have hpl : (partsK k T).reverse.length = T := by rw [List.length_reverse, partsK_len]
  rw [hpl]
  go_upto_region 6 with fail
  obtain ⟨w3, hw3⟩ : ∃ w3 : World, w3 = w2.alloc (.cells #[.slice A0 T n0, .bool s1, .slice A1 n1 c1, .bool s2, .slice A2 n2 c2] 41) := ⟨_, rfl⟩
  rw [← hw3]
  have hE3 : Ext w w3 := by rw [hw3]; exact (hE1.trans hE2).alloc _
  have hE23 : Ext w2 w3 := by rw [hw3]; exact (Ext.refl _).alloc _
  have hBa : Blk w3 w2.heap.size 41 #[.slice A0 T n0, .bool s1, .slice A1 n1 c1, .bool s2, .slice A2 n2 c2] := by rw [hw3]; exact Blk.newAt _ _ _ rfl
  have HBA := Lib.hid hBa
  have HP := Lib.hid (hP.ext hE23)
  have HT1 := Lib.hid hT1
  have HT2 := Lib.hid hT2
  have hTk := T_le hk1 hT1
  have hTp := T_pos hT2
  have HPL := Lib.hid hpl
  clear hw3 hBa hE1 hE2 hE23 hP hQ HAU HEX HT hT1 hT2 hpl
  generalize w2.heap.size = ga at *
  go_wp2_with fail
  refine (HO.out w3).mono ?_
  rintro e w4 ⟨so, Ao, no, co, so', Ao', no', co', rfl, hqo, hE4⟩
  go_upto_region 7 with fail
  obtain ⟨w5, hw5⟩ : ∃ w5 : World, w5 = w4.alloc (.cells #[.bool so, .slice Ao no co, .bool so', .slice Ao' no' co'] 39) := ⟨_, rfl⟩
  rw [← hw5]
  have hE35 : Ext w3 w5 := by rw [hw5]; exact hE4.alloc _
  have hE45 : Ext w4 w5 := by rw [hw5]; exact (Ext.refl _).alloc _
  have hBs : Blk w5 w4.heap.size 39 #[.bool so, .slice Ao no co, .bool so', .slice Ao' no' co'] := by rw [hw5]; exact Blk.newAt _ _ _ rfl
  have HBS := Lib.hid hBs
  have HQ0 := Lib.hid (hqo.ext hE45)
  have HBA5 := Lib.hid (HBA.out.ext hE35)
  have HP5 := Lib.hid (HP.out.ext hE35)
  have hE5 := hE3.trans hE35
  have hgs : w.heap.size ≤ w4.heap.size := (hE3.trans hE4).size'
  have hgg : ga < w4.heap.size := Nat.lt_of_lt_of_le HBA.out.lt hE4.size'
  clear hw5 hqo hBs hE4 hE45 hE35 HBA HP HO hE3
  generalize w4.heap.size = gs at *
  go_wp2_with fail
  go_loop [9, 10] (fun q t => ∃ (j cc : Nat), j ≤ 4 * k + 1 ∧ q = .int .i64 (cc : Int) ∧ cc ≤ j ∧ t = .int .i64 ((j : Int) - 2 * k) ∧ Hid (cc = cntLe k j)) (fun _ t => (2 * (k : Int) + 1 - intOf t).toNat)
  case atStart => exact ⟨0, 0, Nat.zero_le _, rfl, Nat.le_refl _, by first | rfl | (simp; done) | (congr 1; omega), rfl⟩
  case round =>
    obtain ⟨j, cc, hj, rfl, hcj, rfl, hcc⟩ := hrel
    by_cases hjn : j ≤ 4 * k
    · obtain ⟨y, hy⟩ : ∃ y : Int, y = (j : Int) - 2 * k := ⟨_, rfl⟩
      obtain ⟨q, hq, hq0, hq1⟩ : ∃ q : Int, y * y = q ∧ 0 ≤ q ∧ q ≤ 4194304 := by
        obtain ⟨z, hz⟩ : ∃ z : Nat, y.natAbs = z := ⟨_, rfl⟩
        have hm62 : z ≤ 2048 := by omega
        have h1 : z * z ≤ 2048 * 2048 := Nat.mul_le_mul hm62 hm62
        have h2 : ((z * z : Nat) : Int) = y * y := by rw [← hz]; exact Int.natAbs_mul_self
        exact ⟨_, rfl, by omega, by omega⟩
      have HCN := Lib.hid (show cntLe k (j + 1) = cntLe k j + (if q ≤ 4 * (k : Int) then 1 else 0) by simp only [cntLe]; rw [← hy, hq])
      rw [← hy]
      have hy1 : -2048 ≤ y := by omega
      have hy2 : y ≤ 2048 := by omega
      have hy3 : y ≤ 2 * (k : Int) := by omega
      have HY := Lib.hid hy
      clear hy
      by_cases hmq : q ≤ 4 * (k : Int)
      · go_wp2
        exact ⟨⟨j + 1, cc + 1, by omega, by go_num, by omega, by (congr 1; have := HY.out; push_cast; omega), by (show _ = _; rw [HCN.out, if_pos hmq, hcc.out])⟩, by (simp [intOf] <;> omega)⟩
      · go_wp2
        exact ⟨⟨j + 1, cc, by omega, rfl, by omega, by (congr 1; have := HY.out; push_cast; omega), by (show _ = _; rw [HCN.out, if_neg hmq, hcc.out]; omega)⟩, by (simp [intOf] <;> omega)⟩
    · obtain rfl : j = 4 * k + 1 := by omega
      have HM := Lib.hid (show cc = 2 * T - 1 by rw [hcc.out]; exact cntLe_end hk1 HT1.out HT2.out)
      clear hcc hcj hj
      go_wp2_with fail
      go_loopw [8, 11] (fun l t wr => ∃ (i : Nat) (z : Int) (s : Bool) (A : Option Addr) (m c : Nat) (s' : Bool) (A' : Option Addr) (m' c' : Nat), t = .int .i64 (i : Int) ∧ i ≤ T ∧ l = .int .i64 z ∧ Hid (z = lastV k T i) ∧ Hid (Blk wr gs 39 #[.bool s, .slice A m c, .bool s', .slice A' m' c']) ∧ Hid (IsRat wr (.bool s) (.slice A m c) (.bool s') (.slice A' m' c') (sumC T i)) ∧ Hid (Blk wr ga 41 #[.slice A0 T n0, .bool s1, .slice A1 n1 c1, .bool s2, .slice A2 n2 c2]) ∧ Hid (IsParts wr (.slice A0 T n0) (partsK k T).reverse) ∧ Ext w wr) (fun _ t _ => T - (intOf t).toNat)
      case atStart =>
        refine ⟨0, -1, _, _, _, _, _, _, _, _, rfl, Nat.zero_le _, rfl, Lib.hid rfl, HBS, by rw [show sumC T 0 = mkRat 0 1 by simp [sumC]]; exact HQ0, HBA5, ?_, hE5⟩
        have := HP5.out
        rw [HPL.out] at this
        exact Lib.hid this
      case round =>
        obtain ⟨i, z, s, A, m, c, s', A', m', c', rfl, hi, rfl, hz, hBs, hSq, hBa, hPr, hEr⟩ := hrel
        obtain ⟨wo, rfl⟩ : ∃ wo : World, wo = wr := ⟨_, rfl⟩
        have z4 := hBa.out.five
        by_cases hlt : i < T
        · have hil : i < (partsK k T).reverse.length := by rw [HPL.out]; exact hlt
          obtain ⟨b, o, x1, X1, e1, f1, x2, X2, e2, f2, x3, X3, e3, f3, rfl, hbw, hpc, hcell⟩ := hPr.out.at9 i hil
          rw [rev_at k T i hil] at hpc hcell
          obtain ⟨t, ht⟩ : ∃ t, T - 1 - i = t := ⟨_, rfl⟩
          have HZ1 := Lib.hid (last_succ HT1.out hlt)
          have HZ0 := Lib.hid (last_lt HT1.out hlt)
          have HSC := Lib.hid (sumC_succ k T i hlt)
          rw [ht] at hpc hcell HZ1 HZ0 HSC
          have htt := HT1.out t (by omega)
          obtain ⟨v, hv⟩ : ∃ v, 4 * k - t * t = v := ⟨_, rfl⟩
          have hv2 : v + t * t = 4 * k := by omega
          rw [hv] at HZ1 HZ0
          have hnm : (partK k t).name = nameOf v := by rw [← hv]; rfl
          have hat : (partK k t).at_ = 0 := rfl
          have his : (partK k t).is = false := rfl
          rw [hnm, hat, his] at hcell
          have HC := Lib.hid hcell
          have c0 := hcell wo (Ext.refl _)
          have HPC := Lib.hid hpc
          have HV2 := Lib.hid hv2
          clear hcell hpc hnm hat his hv hv2
          go_upto_region 16 with fail
          obtain ⟨w6, hw6⟩ : ∃ w6 : World, w6 = wo.alloc (.cells #[.string ⟨(nameOf v).toArray⟩, .int .i64 0, .bool x1, .slice X1 e1 f1, .bool x2, .slice X2 e2 f2, .bool false, .bool x3, .slice X3 e3 f3] 62) := ⟨_, rfl⟩
          rw [← hw6]
          have hE6 : Ext wo w6 := by rw [hw6]; exact (Ext.refl _).alloc _
          have hBp : Blk w6 wo.heap.size 62 #[.string ⟨(nameOf v).toArray⟩, .int .i64 0, .bool x1, .slice X1 e1 f1, .bool x2, .slice X2 e2 f2, .bool false, .bool x3, .slice X3 e3 f3] := by rw [hw6]; exact Blk.newAt _ _ _ rfl
          have HBP := Lib.hid hBp
          have hv32 : v < 4294967296 := by have := HV2.out; omega
          have hln : 3 ≤ ((nameOf v).length : Int) := by
            obtain ⟨bb, rr, hd, _⟩ := decDigits_head v
            unfold nameOf
            rw [hd]
            simp only [List.length_cons]
            omega
          have hln2 : ((nameOf v).length : Int) ≤ 23 := by have := (nameOf_len v hv32).2; omega
          have p0 := hBp.cell 0
          have p1 := hBp.cell 1
          have p6 := hBp.cell 6
          have hsl := fun w' => run_head_name v w' hv32
          have hst := fun w' => run_tail_name v w' hv32
          clear hw6 c0 z4 hBp
          generalize wo.heap.size = gp at *
          go_wp2_with fail
          refine (Parse1_any v w6 hv32).mono ?_
          rintro e w7 ⟨s4, A4, n4, c4, rfl, hm7, hE7⟩
          go_upto_region 19 with fail
          obtain ⟨w8, hw8⟩ : ∃ w8 : World, w8 = w7.alloc (.cells #[.bool s4, .slice A4 n4 c4] 37) := ⟨_, rfl⟩
          rw [← hw8]
          have hE8 : Ext w6 w8 := by rw [hw8]; exact hE7.alloc _
          have hB8 : Blk w8 w7.heap.size 37 #[.bool s4, .slice A4 n4 c4] := by rw [hw8]; exact Blk.newAt _ _ _ rfl
          have hm8 : IsInt w8 (.bool s4) (.slice A4 n4 c4) (v : Int) := by rw [hw8]; exact hm7.alloc _
          have z8 := hB8.two
          clear hw8 hm7 hE7 p0 p1 p6 hsl hst
          generalize w7.heap.size = gm at *
          go_wp2_with fail
          refine (Low1_any _ _ (v : Int) w8 (by omega) hm8).mono ?_
          rintro e w9 ⟨rfl, hE9⟩
          go_upto_region 20 with fail
          clear z8 hm8 hB8
          have hvv : 4 * (k : Int) - (v : Int) = ((t * t : Nat) : Int) := by have := HV2.out; omega
          have ht1 : t * t ≤ 1023 := by have := HV2.out; omega
          have HOF := Lib.hid (Of1_any ((t * t : Nat) : Int) w9 (by omega) (by omega))
          have hv4 : (v : Int) ≤ 800 := by have := HV2.out; omega
          rw [← hvv] at HOF
          have HVV := Lib.hid hvv
          have HE9 := Lib.hid (hE6.trans (hE8.trans hE9))
          have HE69 := Lib.hid (hE8.trans hE9)
          clear hvv hE6 hE8 hE9
          go_wp2_with fail
          refine HOF.out.mono ?_
          rintro e w10 ⟨s5, A5, n5, c5, rfl, hm10, hE10⟩
          rw [HVV.out] at hm10
          go_wp2_with fail
          refine (Sqrt1_any _ _ (t * t) w10 ht1 hm10).mono ?_
          rintro e w11 ⟨r, hr1, hr2, s6, A6, n6, c6, s7, A7, n7, c7, rfl, hm6, hm7, hE11⟩
          obtain rfl : r = t := sqrt_same hr1 hr2
          have hz7 : IsInt w11 (.bool s7) (.slice A7 n7 c7) 0 := by
            have e0 : ((r * r : Nat) : Int) - (r : Int) * r = 0 := by rw [Int.natCast_mul]; omega
            rw [e0] at hm7
            exact hm7
          clear hr1 hr2 hm6 hm7 hm10
          go_upto_region 21 with fail
          obtain ⟨w12, hw12⟩ : ∃ w12 : World, w12 = (w11.alloc (.cells #[.bool s6, .slice A6 n6 c6] 37)).alloc (.cells #[.bool s7, .slice A7 n7 c7] 37) := ⟨_, rfl⟩
          rw [← hw12]
          have hE12 : Ext w9 w12 := by rw [hw12]; exact ((hE10.trans hE11).alloc _).alloc _
          have hz12 : IsInt w12 (.bool s7) (.slice A7 n7 c7) 0 := by rw [hw12]; exact (hz7.alloc _).alloc _
          have hB12 : Blk w12 (w11.heap.size + 1) 37 #[.bool s7, .slice A7 n7 c7] := by rw [hw12]; exact Blk.newAt _ _ _ (by simp)
          have z12 := hB12.two
          have HSG := Lib.hid (show Calls Tryz.prog 27 #[.agg #[.bool s7, .slice A7 n7 c7]] w12 fun e w' => e = .returned (.int .i64 0) ∧ Ext w12 w' from iSign1_any _ _ 0 w12 hz12)
          have hzv : z < (v : Int) := by rw [hz.out]; exact HZ0.out
          have HE12 := Lib.hid (HE9.out.trans hE12)
          have HE612 := Lib.hid (HE69.out.trans hE12)
          clear hw12 hE10 hE11 hE12 hz7 hz12 hB12 HOF
          generalize w11.heap.size = gq at *
          go_wp2_with fail
          refine HSG.out.mono ?_
          rintro e w13 ⟨rfl, hE13⟩
          have HE13 := Lib.hid (HE12.out.trans hE13)
          have HE613 := Lib.hid (HE612.out.trans hE13)
          have q13 := (hBs.out.ext HE13.out).four
          have p13 := HBP.out.ext HE613.out
          have p2 := p13.cell 2
          have p3 := p13.cell 3
          have p4 := p13.cell 4
          have p5 := p13.cell 5
          have hst := sumC_tw T i
          have hpt := partK_tw k r
          have hd1 := hst.den
          have hd2 := hpt.den
          have hn1 := hst.num
          have hn2 := hpt.num
          have hmm : (sumC T i).den * (partK k r).c.den ≤ 12 * 12 := Nat.mul_le_mul hd1 hd2
          have hnn : ((sumC T i).num * (partK k r).c.den + (partK k r).c.num * (sumC T i).den).natAbs ≤ 18446744073709551615 := by
            have a1 : ((sumC T i).num * (partK k r).c.den).natAbs ≤ 802 * 12 := by rw [Int.natAbs_mul, Int.natAbs_natCast]; exact Nat.mul_le_mul (by omega) hd2
            have a2 : ((partK k r).c.num * (sumC T i).den).natAbs ≤ 2 * 12 := by rw [Int.natAbs_mul, Int.natAbs_natCast]; exact Nat.mul_le_mul hn2 hd1
            omega
          have HADD := Lib.hid (radd1_any _ _ _ _ _ _ _ _ (sumC T i) (partK k r).c w13 (by omega) (by omega) (by omega) hnn (hSq.out.ext HE13.out) (HPC.out.ext HE13.out))
          clear hst hpt hd1 hd2 hn1 hn2 hmm hnn
          go_wp2_with fail
          refine HADD.out.mono ?_
          rintro e w14 ⟨s8, A8, n8, c8, s9, A9, n9, c9, rfl, hq14, hE14⟩
          have HE14 := Lib.hid (HE13.out.trans hE14)
          have hBs14 := hBs.out.ext HE14.out
          have q14 := hBs14.four
          have HS14 := Lib.hid ((((hBs14.set_ 0 (.bool s8)).set_ 1 (.slice A8 n8 c8)).set_ 2 (.bool s9)).set_ 3 (.slice A9 n9 c9))
          have HQ14 := Lib.hid (show IsRat _ _ _ _ _ (sumC T (i + 1)) by rw [HSC.out]; exact ⟨hq14.1.set4 hBs14.type (by decide) (.bool s8) (.slice A8 n8 c8) (.bool s9) (.slice A9 n9 c9), hq14.2.set4 hBs14.type (by decide) (.bool s8) (.slice A8 n8 c8) (.bool s9) (.slice A9 n9 c9)⟩)
          have HA14 := Lib.hid (((((hBa.out.ext HE14.out).far (p := ⟨gs, 0, none⟩) (by show ga ≠ gs; omega) (.bool s8)).far (p := ⟨gs, 1, none⟩) (by show ga ≠ gs; omega) (.slice A8 n8 c8)).far (p := ⟨gs, 2, none⟩) (by show ga ≠ gs; omega) (.bool s9)).far (p := ⟨gs, 3, none⟩) (by show ga ≠ gs; omega) (.slice A9 n9 c9))
          have HP14 := Lib.hid ((hPr.out.ext HE14.out).keep (KeepT.set4 (KeepT.refl _ _) hBs14.type (by decide) (.bool s8) (.slice A8 n8 c8) (.bool s9) (.slice A9 n9 c9)))
          have HE15 := Lib.hid (Ext.set4 (hEr.trans HE14.out) hgs (.bool s8) (.slice A8 n8 c8) (.bool s9) (.slice A9 n9 c9))
          clear hBs14 hq14 hE14 q13 p2 p3 p4 p5 p13 hE13 hBs hSq hBa hPr
          go_wp2
          exact ⟨⟨i + 1, v, s8, A8, n8, c8, s9, A9, n9, c9, by go_num, by omega, rfl, Lib.hid HZ1.out.symm, HS14, HQ14, HA14, HP14, HE15.out⟩, by (simp [intOf] <;> omega)⟩
        · obtain rfl : i = T := by omega
          have hcc : (cc : Int) = ((2 * i - 1 : Nat) : Int) := by rw [HM.out]
          have O12 := Lib.hid (fun w' : World => (show Calls Tryz.prog 22 #[.int .i64 12, .int .i64 1] w' (RRat w' (mkRat 12 1)) from rOf1_any 12 1 w' (by omega) (by omega) (by omega) (by omega)))
          have OM := Lib.hid (fun w' : World => (show Calls Tryz.prog 22 #[.int .i64 (cc : Int), .int .i64 1] w' (RRat w' (mkRat (2 * i - 1 : Nat) 1)) from by rw [hcc]; exact rOf1_any ((2 * i - 1 : Nat) : Int) 1 w' (by omega) (by omega) (by omega) (by omega)))
          have hst := sumC_tw i i
          have hd1 := hst.den
          have hn1 := hst.num
          have HMU := Lib.hid (fun (w' : World) (b3 v3 b4 v4 : Value) (h : Ext wo w') (hq : IsRat w' b3 v3 b4 v4 (mkRat 12 1)) => rmul1_any _ _ _ _ b3 v3 b4 v4 (sumC i i) (mkRat 12 1) w' (by omega) (by decide) (by rw [show (mkRat 12 1).den = 1 by decide]; omega) (by rw [Int.natAbs_mul, show (mkRat 12 1).num.natAbs = 12 by decide]; omega) (hSq.out.ext h) hq)
          have HSM := Lib.hid (fun (w' : World) (b1 v1 b2 v2 b3 v3 b4 v4 : Value) (h : IsRat w' b1 v1 b2 v2 (sumC i i * mkRat 12 1)) (hq : IsRat w' b3 v3 b4 v4 (mkRat (2 * i - 1 : Nat) 1)) => same_one h hq (sumC_end i) (by rw [sumC_end, (mk_one _).1]; omega) (by rw [sumC_end, (mk_one _).2]; omega))
          have HK1 : Hid (∀ w', Ext wo w' → (w'.cell? ⟨gs, 0, none⟩ = some (.bool s) ∧ w'.cell? ⟨gs, 1, none⟩ = some (.slice A m c) ∧ w'.cell? ⟨gs, 2, none⟩ = some (.bool s') ∧ w'.cell? ⟨gs, 3, none⟩ = some (.slice A' m' c'))) := fun w' k => (fun q => ⟨q.1, q.2.1, q.2.2.1, q.2.2.2.1⟩) (hBs.out.ext k).four
          have k9 := HK1.out wo (Ext.refl _)
          have HER := Lib.hid hEr
          clear hcc hst hd1 hn1 hEr
          go_upto_region 24 with fail
          go_region_held3 (fun w' => w'.cell? ⟨gs, 0, none⟩ = some (.bool s) ∧ w'.cell? ⟨gs, 1, none⟩ = some (.slice A m c) ∧ w'.cell? ⟨gs, 2, none⟩ = some (.bool s') ∧ w'.cell? ⟨gs, 3, none⟩ = some (.slice A' m' c'))
            (first | (refine HK1.out _ ?_; (repeat (first | with_reducible assumption | with_reducible exact Ext.refl _ | with_reducible refine Ext.drew ?_ | with_reducible refine Ext.drewN ?_ _ | with_reducible refine Ext.alloc ?_ _ | with_reducible refine Ext.set2 ?_ (by omega) _ _ | with_reducible refine Ext.setCell ?_ (by first | omega | (simp; done) | (simp; omega)) _ | with_reducible refine Ext.trans ?_ (by with_reducible assumption))); done))
            (first | (go_at_call 22; (with_reducible refine (O12.out _).mono ?_); rintro e wx ⟨sx, Ax, nx, cx, sx', Ax', nx', cx', rfl, hqx, hex⟩) | (go_at_call 22; (with_reducible refine (OM.out _).mono ?_); rintro e wy ⟨sy, Ay, ny, cy, sy', Ay', ny', cy', rfl, hqy, hey⟩) | (go_at_call 29; (with_reducible refine (HMU.out _ _ _ _ _ ?q1 ?q2).mono ?_); (case q1 => (repeat (first | with_reducible assumption | with_reducible exact Ext.refl _ | with_reducible refine Ext.drew ?_ | with_reducible refine Ext.drewN ?_ _ | with_reducible refine Ext.alloc ?_ _ | with_reducible refine Ext.set2 ?_ (by omega) _ _ | with_reducible refine Ext.setCell ?_ (by first | omega | (simp; done) | (simp; omega)) _ | with_reducible refine Ext.trans ?_ (by with_reducible assumption)))); (case q2 => (refine IsRat.ext hqx ?_; (repeat (first | with_reducible assumption | with_reducible exact Ext.refl _ | with_reducible refine Ext.drew ?_ | with_reducible refine Ext.drewN ?_ _ | with_reducible refine Ext.alloc ?_ _ | with_reducible refine Ext.set2 ?_ (by omega) _ _ | with_reducible refine Ext.setCell ?_ (by first | omega | (simp; done) | (simp; omega)) _ | with_reducible refine Ext.trans ?_ (by with_reducible assumption))))); rintro e wz ⟨sz, Az, nz, cz, sz', Az', nz', cz', rfl, hqz, hez⟩) | (go_at_call 18; (with_reducible refine (HSM.out _ _ _ _ _ _ _ _ _ ?q1 ?q2).mono ?_); (case q1 => (refine IsRat.ext hqz ?_; (repeat (first | with_reducible assumption | with_reducible exact Ext.refl _ | with_reducible refine Ext.drew ?_ | with_reducible refine Ext.drewN ?_ _ | with_reducible refine Ext.alloc ?_ _ | with_reducible refine Ext.set2 ?_ (by omega) _ _ | with_reducible refine Ext.setCell ?_ (by first | omega | (simp; done) | (simp; omega)) _ | with_reducible refine Ext.trans ?_ (by with_reducible assumption))))); (case q2 => (refine IsRat.ext hqy ?_; (repeat (first | with_reducible assumption | with_reducible exact Ext.refl _ | with_reducible refine Ext.drew ?_ | with_reducible refine Ext.drewN ?_ _ | with_reducible refine Ext.alloc ?_ _ | with_reducible refine Ext.set2 ?_ (by omega) _ _ | with_reducible refine Ext.setCell ?_ (by first | omega | (simp; done) | (simp; omega)) _ | with_reducible refine Ext.trans ?_ (by with_reducible assumption))))); rintro e wn ⟨rfl, hen⟩))
          all_goals
            go_wp2
            go_ret
            exact ⟨rfl, HER.out.trans (by (repeat (first | with_reducible assumption | with_reducible exact Ext.refl _ | with_reducible refine Ext.drew ?_ | with_reducible refine Ext.drewN ?_ _ | with_reducible refine Ext.alloc ?_ _ | with_reducible refine Ext.set2 ?_ (by omega) _ _ | with_reducible refine Ext.setCell ?_ (by first | omega | (simp; done) | (simp; omega)) _ | with_reducible refine Ext.trans ?_ (by with_reducible assumption))))⟩

end Go.Proofs.YtddgjlfniabehaaGreatDoor
