/- Parts of the proof of LawOrdersTell: words, contracts of the functions, plain laws. -/
import Derived.Test.YtdfkbiffdcfnpaaGreatDoorDA06
import Derived.Test.YtdfkbiffdcfnpaaGreatDoorDA05
import Derived.Test.YtdfkbiffdcfnpaaGreatDoorDA02
import Derived.Test.YtdfkbiffdcfnpaaGreatDoorDA03
import Derived.Test.YtdfkbiffdcfnpaaGreatDoorDA04
import Derived.Test.YtdfkbiffdcfnpaaGreatDoorDA07
import Derived.Test.YtdfkbiffdcfnpaaGreatDoorDA08
import Derived.Test.YtdfkbiffdcfnpaaGreatDoorDA01
import Derived.OpenShut
import Derived.KernelRfl
/- The document's Parse of durations, as printed, is rfParse. -/
namespace Go.Proofs.YtdfkbiffdcfnpaaGreatDoor.H
open Go.RowKit Go.HK Go.Lib Go.Proofs.YtdfkbiffdcfnpaaGreatDoorW.PrintWords Go.Proofs.YtdfkbiffdcfnpaaGreatDoorW.PrintLast Go.Proofs.YtdfkbiffdcfnpaaGreatDoorW.PrintMore
set_option linter.unusedVariables false
set_option linter.unusedSimpArgs false
theorem w64u {i : Nat} (h : i < 4611686018427387904) : wrap64 ((i : Int) + 1) = ((i + 1 : Nat) : Int) := by unfold wrap64; omega
theorem w64d {i j : Nat} (h : i < 4611686018427387904) (hj : j ≤ i) : wrap64 ((i : Int) - (j : Int)) = ((i - j : Nat) : Int) := by unfold wrap64; omega
theorem bt_sb2 (s : ByteArray) (k : Nat) : bt s (k : Int) = (sb s k : Int) := by
  unfold bt sb
  have hl := slen s
  rw [Int.toNat_natCast]
  split
  · rename_i h
    rw [List.getD_eq_getElem?_getD, List.getElem?_eq_getElem (by omega)]
    simp
    rfl
  · rename_i h
    rw [List.getD_eq_getElem?_getD, List.getElem?_eq_none (by omega)]
    rfl
theorem sb_drop (s : ByteArray) (a i : Nat) : sb s (a + i) = ((s.data.toList.drop a).getD i 0).toNat := by
  unfold sb
  rw [List.getD_eq_getElem?_getD, List.getD_eq_getElem?_getD, List.getElem?_drop]
theorem dgs_get {l : List UInt8} {i : Nat} (h : i < (dgs l).length) : 48 ≤ (l.getD i 0).toNat ∧ (l.getD i 0).toNat ≤ 57 ∧ (dgs l).getD i 0 = l.getD i 0 := by
  obtain ⟨h1, h2⟩ := (dgs_go l i (by omega)).2 h
  have h3 := (isDg_iff _).1 h2
  rw [List.getD_eq_getElem?_getD, List.getElem?_eq_getElem h1]
  refine ⟨h3.1, h3.2, ?_⟩
  rw [List.getD_eq_getElem?_getD, ← dgs_take l, List.getElem?_take_of_lt h, List.getElem?_eq_getElem h1]
theorem dgs_stop {l : List UInt8} (h : (dgs l).length < l.length) : (l.getD (dgs l).length 0).toNat < 48 ∨ 57 < (l.getD (dgs l).length 0).toNat := by
  have h2 : ¬ isDg (l[(dgs l).length]) = true := fun q => by
    have := (dgs_go l (dgs l).length (by omega)).1 ⟨h, q⟩
    omega
  rw [isDg_iff] at h2
  rw [List.getD_eq_getElem?_getD, List.getElem?_eq_getElem h]
  simp only [Option.getD_some]
  omega
theorem decV_take {l : List UInt8} {i : Nat} (h : i < l.length) : decV (l.take (i + 1)) = decV (l.take i) * 10 + ((l.getD i 0).toNat - 48) := by
  unfold decV
  rw [List.take_add_one, List.foldl_append, List.getElem?_eq_getElem h, List.getD_eq_getElem?_getD, List.getElem?_eq_getElem h]
  rfl
theorem decV_lt : ∀ (l : List UInt8), (∀ b ∈ l, isDg b = true) → decV l < 10 ^ l.length := by
  have key : ∀ (l : List UInt8) (a : Nat), (∀ b ∈ l, isDg b = true) → l.foldl (fun n b => n * 10 + (b.toNat - 48)) a < (a + 1) * 10 ^ l.length := by
    intro l
    induction l with
    | nil => intro a _; simp
    | cons b l ih =>
      intro a hb
      have h1 := (isDg_iff b).1 (hb b (by simp))
      refine Nat.lt_of_lt_of_le (ih (a * 10 + (b.toNat - 48)) (fun c hc => hb c (by simp [hc]))) ?_
      rw [List.length_cons, Nat.pow_succ, Nat.mul_comm (10 ^ l.length) 10, ← Nat.mul_assoc]
      exact Nat.mul_le_mul_right _ (by omega)
  intro l h
  have := key l 0 h
  rwa [Nat.zero_add, Nat.one_mul] at this
theorem num_l1 {s : ByteArray} (hs : s.size ≤ 1000) {a : Nat} (ha : a ≤ s.size) (h15 : (dgs (s.data.toList.drop a)).length ≤ 15) : ∀ (d i k : Nat), i + d = (dgs (s.data.toList.drop a)).length → d < k →
    remontoirref02_number.l1 k s ((a + (dgs (s.data.toList.drop a)).length : Nat) : Int) (decV ((dgs (s.data.toList.drop a)).take i) : Int) ((a + i : Nat) : Int) = some ((decV (dgs (s.data.toList.drop a)) : Int), ((a + (dgs (s.data.toList.drop a)).length : Nat) : Int), true) := by
  have hl := slen s
  have hle := dgs_le (s.data.toList.drop a)
  rw [List.length_drop] at hle
  have hget := fun i (h : i < (dgs (s.data.toList.drop a)).length) => dgs_get h
  have hall := dgs_all (s.data.toList.drop a)
  have hsb := fun i => sb_drop s a i
  generalize hD : dgs (s.data.toList.drop a) = D at *
  intro d
  induction d with
  | zero =>
    intro i k hi hk
    obtain ⟨k, rfl⟩ : ∃ q, k = q + 1 := ⟨k - 1, by omega⟩
    rw [remontoirref02_number.l1, if_neg (by omega), List.take_of_length_le (by omega)]
  | succ d ih =>
    intro i k hi hk
    obtain ⟨k, rfl⟩ : ∃ q, k = q + 1 := ⟨k - 1, by omega⟩
    obtain ⟨g1, g2, g3⟩ := hget i (by omega)
    have hx : decV (D.take i) < 1000000000000000 := by
      have h1 := decV_lt (D.take i) (fun b hb => hall b (List.mem_of_mem_take hb))
      have h2 : 10 ^ (D.take i).length ≤ 10 ^ 15 := Nat.pow_le_pow_right (by omega) (by rw [List.length_take]; omega)
      omega
    have hdt := decV_take (l := D) (i := i) (by omega)
    rw [g3, ← hsb i] at hdt
    rw [← hsb i] at g1 g2
    have hI := ih (i + 1) k (by omega) (by omega)
    rw [hdt] at hI
    have c1 : ((a + i : Nat) : Int) < ((a + D.length : Nat) : Int) := by omega
    have c2 : (0 : Int) ≤ ((a + i : Nat) : Int) := by omega
    have c3 : ((a + i : Nat) : Int) < (s.size : Int) := by omega
    have hw := w64u (i := a + i) (by omega)
    generalize decV (D.take i) = v at *
    obtain ⟨b, hbb⟩ : ∃ b, sb s (a + i) = b := ⟨_, rfl⟩
    rw [hbb] at g1 g2 hdt hI
    have e1 : IntKind.u64.wrap ((v : Int) * 10) = (v : Int) * 10 := by rw [IntKind.wrap_u64]; omega
    have e2 : ((b : Int) - 48) % 256 = (b : Int) - 48 := by omega
    have e3 : IntKind.u64.wrap ((v : Int) * 10 + ((b : Int) - 48)) = ((v * 10 + (b - 48) : Nat) : Int) := by rw [IntKind.wrap_u64]; omega
    rw [remontoirref02_number.l1, if_pos c1, if_pos c2, if_pos c3, bt_sb2, hw, hbb, e1, e2, e3]
    exact hI
/-- No number stands there. -/
def nBad (l : List UInt8) : Prop := (dgs l).length < 1 ∨ 15 < (dgs l).length ∨ (l.headD 0 = 48 ∧ 1 < (dgs l).length)
instance (l : List UInt8) : Decidable (nBad l) := by unfold nBad; exact inferInstance
theorem num_j1 {s : ByteArray} (hs : s.size ≤ 1000) {a : Nat} (ha : a ≤ s.size) (k : Nat) (hk : 20 ≤ k) :
    remontoirref02_number.j1 k s (a : Int) ((a + (dgs (s.data.toList.drop a)).length : Nat) : Int) = some (if nBad (s.data.toList.drop a) then (0, (a : Int), false) else ((decV (dgs (s.data.toList.drop a)) : Int), ((a + (dgs (s.data.toList.drop a)).length : Nat) : Int), true)) := by
  obtain ⟨k, rfl⟩ : ∃ q, k = q + 1 + 1 := ⟨k - 2, by omega⟩
  have hl := slen s
  have hle := dgs_le (s.data.toList.drop a)
  rw [List.length_drop] at hle
  have l1 := fun h15 => num_l1 hs ha h15 (dgs (s.data.toList.drop a)).length 0 k (by omega)
  have hsb := sb_drop s a 0
  have hhd : (s.data.toList.drop a).getD 0 0 = (s.data.toList.drop a).headD 0 := by cases s.data.toList.drop a <;> rfl
  rw [hhd] at hsb
  have b1 : remontoirref02_number.j2 (k + 1) s (a : Int) ((a + (dgs (s.data.toList.drop a)).length : Nat) : Int) true = some (0, (a : Int), false) := by rw [remontoirref02_number.j2, if_pos rfl]
  have b2 : (dgs (s.data.toList.drop a)).length ≤ 15 → remontoirref02_number.j2 (k + 1) s (a : Int) ((a + (dgs (s.data.toList.drop a)).length : Nat) : Int) false = some ((decV (dgs (s.data.toList.drop a)) : Int), ((a + (dgs (s.data.toList.drop a)).length : Nat) : Int), true) := fun h15 => by
    rw [remontoirref02_number.j2, if_neg (by decide)]
    have := l1 h15 (by omega)
    exact this
  obtain ⟨hd, hhd2⟩ : ∃ hd, (s.data.toList.drop a).headD 0 = hd := ⟨_, rfl⟩
  obtain ⟨D, hD⟩ : ∃ D, dgs (s.data.toList.drop a) = D := ⟨_, rfl⟩
  rw [hD] at l1 b1 b2 hle ⊢
  rw [hhd2] at hsb
  have hnb : nBad (s.data.toList.drop a) ↔ (D.length < 1 ∨ 15 < D.length ∨ (hd = 48 ∧ 1 < D.length)) := by unfold nBad; rw [hD, hhd2]
  rw [remontoirref02_number.j1]
  by_cases c1 : D.length < 1
  · rw [if_pos (by omega), if_pos (hnb.2 (.inl c1))]; exact b1
  · have hw := w64d (i := a + D.length) (j := a) (by omega) (by omega)
    rw [Nat.add_sub_cancel_left] at hw
    rw [if_neg (by omega), hw]
    by_cases c2 : 15 < D.length
    · rw [if_pos (by omega), if_pos (hnb.2 (.inr (.inl c2)))]; exact b1
    · rw [if_neg (by omega), if_pos (by omega), if_pos (by omega), bt_sb2]
      rw [Nat.add_zero] at hsb
      rw [hsb]
      by_cases c3 : hd = 48
      · have c3' : ((hd.toNat : Nat) : Int) = 48 := by rw [c3]; rfl
        rw [if_pos c3']
        by_cases c4 : 1 < D.length
        · rw [decide_eq_true (by omega), if_pos (hnb.2 (.inr (.inr ⟨c3, c4⟩)))]; exact b1
        · rw [decide_eq_false (by omega), if_neg (fun z => by rcases hnb.1 z with q | q | ⟨_, q⟩; exact c1 q; exact c2 q; exact c4 q)]; exact b2 (by omega)
      · have c3' : ¬ ((hd.toNat : Nat) : Int) = 48 := fun q => c3 (UInt8.toNat_inj.1 (by show hd.toNat = 48; omega))
        rw [if_neg c3', if_neg (fun z => by rcases hnb.1 z with q | q | ⟨q, _⟩; exact c1 q; exact c2 q; exact c3 q)]; exact b2 (by omega)
theorem num_l0 {s : ByteArray} (hs : s.size ≤ 1000) {a : Nat} (ha : a ≤ s.size) : ∀ (d i k : Nat), i + d = (dgs (s.data.toList.drop a)).length → d + 30 ≤ k →
    ∃ k', 20 ≤ k' ∧ remontoirref02_number.l0 k s (a : Int) ((a + i : Nat) : Int) = remontoirref02_number.j1 k' s (a : Int) ((a + (dgs (s.data.toList.drop a)).length : Nat) : Int) := by
  have hl := slen s
  have hle := dgs_le (s.data.toList.drop a)
  have hll : (s.data.toList.drop a).length = s.data.toList.length - a := List.length_drop
  rw [List.length_drop] at hle
  have hget := fun i (h : i < (dgs (s.data.toList.drop a)).length) => dgs_get h
  have hstop := fun h => dgs_stop (l := s.data.toList.drop a) h
  have hsb := fun i => sb_drop s a i
  intro d
  induction d with
  | zero =>
    intro i k hi hk
    obtain ⟨k, rfl⟩ : ∃ q, k = q + 1 := ⟨k - 1, by omega⟩
    obtain rfl : i = (dgs (s.data.toList.drop a)).length := by omega
    refine ⟨k, by omega, ?_⟩
    rw [remontoirref02_number.l0]
    by_cases c : (dgs (s.data.toList.drop a)).length < (s.data.toList.drop a).length
    · have h2 := hstop c
      rw [← hsb] at h2
      rw [if_pos (by omega), if_pos (by omega), bt_sb2]
      rcases h2 with h2 | h2
      · rw [if_neg (by omega)]
      · rw [if_pos (by omega), if_neg (by omega)]
    · rw [if_neg (by omega)]
  | succ d ih =>
    intro i k hi hk
    obtain ⟨k, rfl⟩ : ∃ q, k = q + 1 := ⟨k - 1, by omega⟩
    obtain ⟨g1, g2, _⟩ := hget i (by omega)
    rw [← hsb] at g1 g2
    obtain ⟨k', h1, h2⟩ := ih (i + 1) k (by omega) (by omega)
    refine ⟨k', h1, ?_⟩
    rw [remontoirref02_number.l0, if_pos (by omega), if_pos (by omega), bt_sb2, if_pos (by omega), if_pos (by omega), w64u (by omega)]
    exact h2
theorem num_f {s : ByteArray} (hs : s.size ≤ 1000) {a : Nat} (ha : a ≤ s.size) (k : Nat) (hk : s.size + 40 ≤ k) :
    remontoirref02_number.f k s (a : Int) = some (if nBad (s.data.toList.drop a) then (0, (a : Int), false) else ((decV (dgs (s.data.toList.drop a)) : Int), ((a + (dgs (s.data.toList.drop a)).length : Nat) : Int), true)) := by
  have hl := slen s
  have hle := dgs_le (s.data.toList.drop a)
  rw [List.length_drop] at hle
  obtain ⟨k', h1, h2⟩ := num_l0 hs ha (dgs (s.data.toList.drop a)).length 0 k (by omega) (by omega)
  unfold remontoirref02_number.f
  rw [Nat.add_zero] at h2
  rw [h2, num_j1 hs ha k' h1]
theorem add_f {s n u : Nat} (h1 : s ≤ 1125899906842625) (h2 : n < 1000000000000000) (h3 : 1 ≤ u) (h4 : u ≤ 1000000) : remontoirref02_add.f (s : Int) (n : Int) (u : Int) = some (rfAdd s n u : Int) := by
  unfold remontoirref02_add.f
  rw [if_pos (by omega)]
  simp only [Int.toNat_natCast]
theorem rfAdd_le (s n u : Nat) : rfAdd s n u ≤ 1125899906842625 := by
  unfold rfAdd
  split
  · omega
  · omega
/-- The number at a place, with a unit behind it; else none. -/
theorem next_at {s : ByteArray} (hs : s.size ≤ 1000) {a : Nat} (ha : a ≤ s.size) :
    (spBad (s.data.toList.drop a) ∧ spNext (s.data.toList.drop a) = (0, 0, []) ∧ (nBad (s.data.toList.drop a) ∨ ¬ a + (dgs (s.data.toList.drop a)).length < s.size)) ∨
    (¬ spBad (s.data.toList.drop a) ∧ ¬ nBad (s.data.toList.drop a) ∧ a + (dgs (s.data.toList.drop a)).length < s.size ∧ spNext (s.data.toList.drop a) = (decV (dgs (s.data.toList.drop a)), sb s (a + (dgs (s.data.toList.drop a)).length), s.data.toList.drop (a + (dgs (s.data.toList.drop a)).length + 1))) := by
  have hl := slen s
  have hle := dgs_le (s.data.toList.drop a)
  have hll : (s.data.toList.drop a).length = s.data.toList.length - a := List.length_drop
  by_cases c : spBad (s.data.toList.drop a)
  · left
    have c' := c
    unfold spBad at c'
    refine ⟨c, by unfold spNext; rw [if_pos c'], ?_⟩
    unfold nBad
    rcases c' with q | q | q | q
    · exact .inl (.inl q)
    · exact .inl (.inr (.inl q))
    · right; omega
    · exact .inl (.inr (.inr q))
  · right
    have c' := c
    unfold spBad at c'
    simp only [not_or] at c'
    refine ⟨c, ?_, by omega, ?_⟩
    · unfold nBad
      rintro (q | q | q)
      · exact c'.1 q
      · exact c'.2.1 q
      · exact c'.2.2.2 q
    · unfold spNext
      rw [if_neg (by have := c; unfold spBad at this; exact this), sb_drop]
      congr 2
      · rw [List.headD_eq_head?_getD, List.head?_drop, List.getD_eq_getElem?_getD]
      · rw [List.drop_drop, Nat.add_assoc]
theorem hms_at (r : Nat) (h : r ≤ 2) : bt (⟨#[72, 77, 83]⟩ : ByteArray) (2 - (r : Int)) = (if r = 2 then 72 else if r = 1 then 77 else 83) ∧ rd [3600, 60, 1] (2 - (r : Int)) = (spUnit (2 - (r : Int)) : Int) := by
  rcases (by omega : r = 0 ∨ r = 1 ∨ r = 2) with rfl | rfl | rfl <;> exact ⟨by decide, by decide⟩
theorem place_iff (u r : Nat) (h : r ≤ 2) : ((u : Int) = (if r = 2 then 72 else if r = 1 then 77 else 83)) ↔ spPlace u = 2 - (r : Int) := by
  unfold spPlace
  by_cases h1 : u = 72
  · subst h1
    rcases (by omega : r = 0 ∨ r = 1 ∨ r = 2) with rfl | rfl | rfl <;> decide
  · by_cases h2 : u = 77
    · subst h2
      rcases (by omega : r = 0 ∨ r = 1 ∨ r = 2) with rfl | rfl | rfl <;> decide
    · by_cases h3 : u = 83
      · subst h3
        rcases (by omega : r = 0 ∨ r = 1 ∨ r = 2) with rfl | rfl | rfl <;> decide
      · rw [if_neg h1, if_neg h2, if_neg h3]
        constructor
        · intro q
          exfalso
          rcases (by omega : r = 0 ∨ r = 1 ∨ r = 2) with rfl | rfl | rfl
          · have : (u : Int) = 83 := q
            omega
          · have : (u : Int) = 77 := q
            omega
          · have : (u : Int) = 72 := q
            omega
        · intro q
          omega
def sI (p : Nat × Int) : Int × Int := ((p.1 : Int), p.2)
theorem par_l0 {s : ByteArray} (hs : s.size ≤ 1000) : ∀ (r : Nat), r ≤ 3 → ∀ (a sum : Nat) (sm : Bool) (k : Nat), a ≤ s.size → sum ≤ 1125899906842625 → r + s.size + 50 ≤ k →
  remontoirref02_Parse.l0 k s (a : Int) (sum : Int) sm [3600, 60, 1] (3 - (r : Int)) = some (sI (rfR r sm sum (s.data.toList.drop a))) := by
 have hl := slen s
 intro r
 induction r with
 | zero =>
  intro _ a sum sm k ha hsum hk
  obtain ⟨k, rfl⟩ : ∃ q, k = q + 1 + 1 := ⟨k - 2, by omega⟩
  have hnil : s.data.toList.drop a = [] ↔ a = s.size := by
   rw [List.drop_eq_nil_iff]
   omega
  have j5 : ∀ q : Bool, remontoirref02_Parse.j5 (k + 1) (sum : Int) q = some (if q = true then (0, 2) else sI (rfEnd sum)) := by
   intro q
   rw [remontoirref02_Parse.j5]
   by_cases c : q = true
   ·rw [if_pos c, if_pos c]
   ·rw [if_neg c, if_neg c]
    unfold rfEnd sI
    by_cases c2 : sum > 1125899906842624
    ·rw [if_pos (by omega), if_pos c2]; rfl
    ·rw [if_neg (by omega), if_neg c2]
  rw [remontoirref02_Parse.l0, if_neg (by omega)]
  unfold rfR
  cases sm with
  | false => rw [if_neg (by decide), if_neg (by simp), j5, if_pos rfl]; rfl
  | true =>
   rw [if_pos rfl, j5]
   by_cases c : a = s.size
   ·have : ((a : Int) != (s.size : Int)) = false := bne_eq_false_iff_eq.2 (by omega)
    rw [this, if_neg (by decide), if_pos ⟨rfl, hnil.2 c⟩]
   ·have : ((a : Int) != (s.size : Int)) = true := bne_iff_ne.2 (by omega)
    rw [this, if_pos rfl, if_neg (fun q => c (hnil.1 q.2))]
    rfl
 | succ r ih =>
  intro hr a sum sm k ha hsum hk
  obtain ⟨k, rfl⟩ : ∃ q, k = q + 1 := ⟨k - 1, by omega⟩
  have hi : (3 : Int) - ((r + 1 : Nat) : Int) = 2 - (r : Int) := by omega
  obtain ⟨hb, hu⟩ := hms_at r (by omega)
  have hw : wrap64 (2 - (r : Int) + 1) = 3 - (r : Int) := by unfold wrap64; omega
  have hN := num_f hs ha k (by omega)
  have hsame := ih (by omega) a sum sm k ha hsum (by omega)
  rw [hi]
  unfold rfR
  rw [remontoirref02_Parse.l0, if_pos (by omega), hN, hw, Option.bind_some]
  rcases next_at hs ha with ⟨b1, b2, b3⟩ | ⟨b1, b2, b3, b4⟩
  ·rw [b2]
   have hp : ¬ spPlace 0 = 2 - (r : Int) := by show ¬ (-1 : Int) = _; omega
   rw [if_neg hp]
   by_cases c : nBad (s.data.toList.drop a)
   ·rw [if_pos c]
    dsimp only
    rw [if_neg (by decide)]
    exact hsame
   ·rw [if_neg c]
    dsimp only
    rw [if_pos rfl, if_neg (by rcases b3 with q | q; exact absurd q c; omega)]
    exact hsame
  ·rw [if_neg b2]
   dsimp only
   rw [if_pos rfl, b4]
   have hn := spNext_n (s.data.toList.drop a)
   rw [b4] at hn
   generalize a + (dgs (s.data.toList.drop a)).length = K at *
   have g1 : ((K : Nat) : Int) < (s.size : Int) := by omega
   have g2 : (0 : Int) ≤ ((K : Nat) : Int) := by omega
   have g3 : (0 : Int) ≤ 2 - (r : Int) := by omega
   have g4 : 2 - (r : Int) < (([3600, 60, 1] : List Int).length : Int) := by show _ < (3 : Int); omega
   have hpl := place_iff (sb s K) r (by omega)
   have ha := add_f (s := sum) (n := decV (dgs (s.data.toList.drop a))) (u := spUnit (2 - (r : Int))) hsum hn (unit_pos _) (by unfold spUnit; split; omega; split <;> omega)
   have hrec := ih (by omega) (K + 1) (rfAdd sum (decV (dgs (s.data.toList.drop a))) (spUnit (2 - (r : Int)))) true k (by omega) (rfAdd_le _ _ _) (by omega)
   have hwk := w64u (i := K) (by omega)
   dsimp only
   rw [if_pos g1, if_pos g2, if_pos g3, bt_sb2, hb]
   by_cases c : spPlace (sb s K) = 2 - (r : Int)
   ·rw [if_pos (hpl.2 c), if_pos g4, hu, ha, Option.bind_some, if_pos c, hwk]
    exact hrec
   ·rw [if_neg (fun q => c (hpl.1 q)), if_neg c]
    exact hsame
theorem par_j3 {s : ByteArray} (hs : s.size ≤ 1000) {a sum : Nat} (ha : a ≤ s.size) (hsum : sum ≤ 1125899906842625) (k : Nat) (hk : s.size + 60 ≤ k) : remontoirref02_Parse.j3 k s (a : Int) (sum : Int) = some (sI (rfTail sum (s.data.toList.drop a))) := by
  obtain ⟨k, rfl⟩ : ∃ q, k = q + 1 := ⟨k - 1, by omega⟩
  have hl := slen s
  rw [remontoirref02_Parse.j3]
  by_cases c : a < s.size
  · have hsb : sb s a = ((s.data.toList.drop a).headD 0).toNat := by
      have := sb_drop s a 0
      rw [Nat.add_zero] at this
      rw [this]
      cases s.data.toList.drop a <;> rfl
    have hd1 : s.data.toList.drop (a + 1) = (s.data.toList.drop a).tail := by rw [List.tail_drop]
    rw [if_pos (by omega), if_pos (by omega), bt_sb2, hsb]
    have hlen : (s.data.toList.drop a).length = s.data.toList.length - a := List.length_drop
    have hrec := par_l0 hs 3 (by omega) (a + 1) sum false k (by omega) hsum (by omega)
    rw [hd1] at hrec
    cases hL : s.data.toList.drop a with
    | nil => rw [hL] at hlen; simp at hlen; omega
    | cons b m =>
      rw [hL] at hrec
      rw [rfTail]
      show (if ((b.toNat : Nat) : Int) = 84 then _ else _) = _
      by_cases c2 : b = 84
      · have : ((b.toNat : Nat) : Int) = 84 := by rw [c2]; rfl
        rw [if_pos this, if_pos c2, w64u (by omega)]
        exact hrec
      · have : ¬ ((b.toNat : Nat) : Int) = 84 := fun q => c2 (UInt8.toNat_inj.1 (by show b.toNat = 84; omega))
        rw [if_neg this, if_neg c2]
        rfl
  · have : s.data.toList.drop a = [] := List.drop_of_length_le (by omega)
    rw [if_neg (by omega), this]
    unfold rfTail rfEnd sI
    by_cases c2 : sum > 1125899906842624
    · rw [if_pos (by omega), if_pos c2]; rfl
    · rw [if_neg (by omega), if_neg c2]
theorem ref02_f (s : ByteArray) (hs : s.size ≤ 1000) (k : Nat) (hk : s.size + 100 ≤ k) : remontoirref02_Parse.f k s = some (sI (spParse s.data.toList)) := by
 rw [← rfParse_eq]
 obtain ⟨k, rfl⟩ : ∃ q, k = q + 1 + 1 + 1 := ⟨k - 3, by omega⟩
 have hl := slen s
 unfold remontoirref02_Parse.f
 cases hL : s.data.toList with
 | nil =>
  rw [hL] at hl
  rw [if_pos (by simp at hl; omega), remontoirref02_Parse.j0, if_pos rfl]
  rfl
 | cons b m =>
  have hl2 : s.size = m.length + 1 := by rw [hL, List.length_cons] at hl; omega
  have hm : s.data.toList.drop 1 = m := by rw [hL]; rfl
  rw [rfParse]
  by_cases c1 : m = []
  ·rw [if_pos (by rw [hl2, c1]; decide), remontoirref02_Parse.j0, if_pos rfl, if_pos (.inl c1)]
   rfl
  ·have hm0 : 0 < m.length := List.length_pos_iff.2 c1
   have hb : bt s 0 = ((b.toNat : Nat) : Int) := by
    have := bt_sb2 s 0
    rw [show ((0 : Nat) : Int) = 0 from rfl] at this
    rw [this]
    unfold sb
    rw [hL]
    rfl
   rw [if_neg (by omega), if_pos (by omega), hb]
   by_cases c2 : b = 80
   ·have e : (((b.toNat : Nat) : Int) != 80) = false := by rw [c2]; rfl
    rw [e, remontoirref02_Parse.j0, if_neg (by decide), if_neg (by rintro (q | q); exact c1 q; exact q c2)]
    have hN := num_f hs (a := 1) (by omega) (k + 1 + 1) (by omega)
    have h3 := par_j3 hs (a := 1) (sum := 0) (by omega) (by omega) (k + 1) (by omega)
    have hn := spNext_n m
    rw [hm] at hN h3
    have hNA := next_at hs (a := 1) (by omega)
    rw [hm] at hNA
    rw [show ((1 : Nat) : Int) = 1 from rfl] at hN h3
    rw [hN, Option.bind_some]
    rcases hNA with ⟨b1, b2, b3⟩ | ⟨b1, b2, b3, b4⟩
    ·rw [if_pos b1]
     have j1 : ∀ x6 x7 : Int, remontoirref02_Parse.j1 (k + 1 + 1) s 1 0 x6 x7 false = some (sI (rfTail 0 m)) := by
      intro x6 x7
      rw [remontoirref02_Parse.j1, if_neg (by decide)]
      exact h3
     by_cases c : nBad m
     ·rw [if_pos c]
      dsimp only
      rw [if_neg (by decide)]
      exact j1 _ _
     ·rw [if_neg c]
      dsimp only
      rw [if_pos rfl]
      have : decide (((1 + (dgs m).length : Nat) : Int) < (s.size : Int)) = false := decide_eq_false (by rcases b3 with q | q; exact absurd q c; omega)
      rw [this]
      exact j1 _ _
    ·rw [if_neg b1, if_neg b2]
     dsimp only
     rw [if_pos rfl, b4]
     rw [b4] at hn
     dsimp only at hn ⊢
     have hd : decide (((1 + (dgs m).length : Nat) : Int) < (s.size : Int)) = true := decide_eq_true (by omega)
     rw [hd]
     generalize hK : 1 + (dgs m).length = K at *
     have h3K : ∀ sum : Nat, sum ≤ 1125899906842625 → remontoirref02_Parse.j3 k s ((K + 1 : Nat) : Int) (sum : Int) = some (sI (rfTail sum (s.data.toList.drop (K + 1)))) := fun sum h => par_j3 hs (by omega) h k (by omega)
     have hrest : s.data.toList.drop (K + 1) = [] ↔ K + 1 = s.size := by rw [List.drop_eq_nil_iff, hL, List.length_cons]; omega
     generalize s.data.toList.drop (K + 1) = R at *
     have hw := w64u (i := K) (by omega)
     have g1 : ((K : Nat) : Int) < (s.size : Int) := by omega
     have g2 : (0 : Int) ≤ ((K : Nat) : Int) := by omega
     have a1 := add_f (s := 0) (n := decV (dgs m)) (u := 604800) (by omega) hn (by omega) (by omega)
     have a2 := add_f (s := 0) (n := decV (dgs m)) (u := 86400) (by omega) hn (by omega) (by omega)
     have j2 : ∀ (q : Bool) (u : Nat), (q = true ↔ (u = 89 ∨ u = 77)) → remontoirref02_Parse.j2 (k + 1) s (decV (dgs m) : Int) ((K : Nat) : Int) (u : Int) q = some (sI (if u = 89 ∨ u = 77 then (0, 4) else if u = 87 then (if R = [] then rfEnd (rfAdd 0 (decV (dgs m)) 604800) else (0, 2)) else if u = 68 then rfTail (rfAdd 0 (decV (dgs m)) 86400) R else (0, 2))) := by
      intro q u hq
      rw [remontoirref02_Parse.j2]
      by_cases c : q = true
      ·rw [if_pos c, if_pos (hq.1 c)]; rfl
      ·rw [if_neg c, if_neg (fun z => c (hq.2 z))]
       by_cases c5 : u = 87
       ·rw [if_pos (by omega), if_pos c5]
        have a1' : remontoirref02_add.f 0 (decV (dgs m) : Int) 604800 = some (rfAdd 0 (decV (dgs m)) 604800 : Int) := a1
        rw [a1', Option.bind_some, hw]
        by_cases c6 : R = []
        ·rw [if_pos (by have := hrest.1 c6; omega), if_pos c6, h3K _ (rfAdd_le _ _ _), c6]
         rfl
        ·rw [if_neg (fun z => c6 (hrest.2 (by omega))), if_neg c6]; rfl
       ·rw [if_neg (by omega), if_neg c5]
        by_cases c6 : u = 68
        ·rw [if_pos (by omega), if_pos c6]
         have a2' : remontoirref02_add.f 0 (decV (dgs m) : Int) 86400 = some (rfAdd 0 (decV (dgs m)) 86400 : Int) := a2
         rw [a2', Option.bind_some, hw, h3K _ (rfAdd_le _ _ _)]
        ·rw [if_neg (by omega), if_neg c6]; rfl
     rw [remontoirref02_Parse.j1, if_pos rfl, if_pos g2, if_pos g1, bt_sb2]
     by_cases c7 : sb s K = 89
     ·rw [if_pos (by omega)]
      exact j2 _ _ (by rw [c7]; simp)
     ·rw [if_neg (by omega)]
      refine j2 _ _ ?_
      constructor
      ·intro z
       right
       have := eq_of_beq z
       omega
      ·rintro (z | z)
       ·exact absurd z c7
       ·rw [z]; rfl
   ·have e : (((b.toNat : Nat) : Int) != 80) = true := by
     rw [bne_iff_ne]
     intro q
     exact c2 (UInt8.toNat_inj.1 (by show b.toNat = 80; omega))
    rw [e, remontoirref02_Parse.j0, if_pos rfl, if_pos (.inr c2)]
    rfl
end Go.Proofs.YtdfkbiffdcfnpaaGreatDoor.H
/- The document's Parse of cycles, as printed, is cyParse. -/
namespace Go.Proofs.YtdfkbiffdcfnpaaGreatDoor.H
open Go.RowKit Go.HK Go.Lib Go.Proofs.YtdfkbiffdcfnpaaGreatDoorW.PrintWords Go.Proofs.YtdfkbiffdcfnpaaGreatDoorW.PrintLast Go.Proofs.YtdfkbiffdcfnpaaGreatDoorW.PrintMore
set_option linter.unusedVariables false
set_option linter.unusedSimpArgs false
def nsl (c : UInt8) : Bool := c != 47
theorem cy_split : ∀ m : List UInt8,
    ((dgs m).length < m.length ∧ m.getD (dgs m).length 0 = 47 ∧ m.takeWhile nsl = dgs m ∧ m.contains 47 = true ∧ (m.dropWhile nsl).drop 1 = m.drop ((dgs m).length + 1)) ∨
    ((dgs m).length = m.length ∧ m.contains 47 = false ∧ m.takeWhile nsl = m) ∨
    ((dgs m).length < m.length ∧ m.getD (dgs m).length 0 ≠ 47 ∧ (m.takeWhile nsl).any (fun b => !isDg b) = true)
  | [] => .inr (.inl ⟨rfl, rfl, rfl⟩)
  | b :: l => by
    by_cases hb : isDg b = true
    · have h47 : nsl b = true := by
        unfold nsl
        rw [bne_iff_ne]
        rintro rfl
        exact absurd hb (by decide)
      have hb47 : b ≠ 47 := fun q => by rw [q] at h47; exact absurd h47 (by decide)
      have hd : dgs (b :: l) = b :: dgs l := by unfold dgs; rw [List.takeWhile_cons, if_pos hb]
      rw [hd, List.takeWhile_cons, if_pos h47, List.dropWhile_cons, if_pos h47]
      rcases cy_split l with ⟨h1, h2, h3, h4, h5⟩ | ⟨h1, h2, h3⟩ | ⟨h1, h2, h3⟩
      · left
        refine ⟨by simp; omega, by simpa using h2, by rw [h3], ?_, by simpa using h5⟩
        rw [List.contains_cons, h4, Bool.or_true]
      · right; left
        refine ⟨by simp; omega, ?_, by rw [h3]⟩
        rw [List.contains_cons, h2, Bool.or_false]
        exact beq_eq_false_iff_ne.2 (fun q => hb47 q.symm)
      · right; right
        refine ⟨by simp; omega, by simpa using h2, ?_⟩
        rw [List.any_cons, h3, Bool.or_true]
    · have hb' : isDg b = false := by cases h : isDg b; rfl; exact absurd h hb
      have hd : dgs (b :: l) = [] := by unfold dgs; rw [List.takeWhile_cons, if_neg hb]
      rw [hd]
      by_cases h47 : b = 47
      · left
        subst h47
        have hn : ¬ nsl 47 = true := by decide
        refine ⟨by simp, rfl, by rw [List.takeWhile_cons, if_neg hn], by rw [List.contains_cons]; rfl, by rw [List.dropWhile_cons, if_neg hn]; rfl⟩
      · right; right
        have hn : nsl b = true := by unfold nsl; rw [bne_iff_ne]; exact h47
        refine ⟨by simp, by simpa using h47, ?_⟩
        rw [List.takeWhile_cons, if_pos hn, List.any_cons, hb']
        rfl
theorem w64m (v b : Nat) (hv : v < 1000000000) (h1 : 48 ≤ b) (h2 : b ≤ 57) : wrap64 (wrap64 (10 * (v : Int)) + ((b : Int) - 48) % 256) = ((v * 10 + (b - 48) : Nat) : Int) := by
  have q1 : wrap64 (10 * (v : Int)) = 10 * (v : Int) := by unfold wrap64; omega
  have q2 : ((b : Int) - 48) % 256 = (b : Int) - 48 := by omega
  rw [q1, q2]
  unfold wrap64
  omega
set_option maxHeartbeats 2000000 in
theorem cy3_l0 {s : ByteArray} (hs : s.size ≤ 1000) (h1 : 1 ≤ s.size) : ∀ (d i k : Nat), i + d = (dgs (s.data.toList.drop 1)).length → 2 * d + 200 ≤ k + s.size →  2 * d + 30 ≤ k →
  ∃ k', k ≤ k' + 2 * d + 1 ∧ remontoirref03_Parse.l0 k s ((1 + i : Nat) : Int) (decV ((dgs (s.data.toList.drop 1)).take (min i 8)) : Int) 0 0 = remontoirref03_Parse.j3 k' s ((1 + (dgs (s.data.toList.drop 1)).length : Nat) : Int) (decV ((dgs (s.data.toList.drop 1)).take (min (dgs (s.data.toList.drop 1)).length 8)) : Int) false 0 0 := by
 have hl := slen s
 have hle := dgs_le (s.data.toList.drop 1)
 have hll : (s.data.toList.drop 1).length = s.data.toList.length - 1 := List.length_drop
 rw [List.length_drop] at hle
 have hget := fun i (h : i < (dgs (s.data.toList.drop 1)).length) => dgs_get h
 have hall := dgs_all (s.data.toList.drop 1)
 have hstop := fun h => dgs_stop (l := s.data.toList.drop 1) h
 have hsb := fun i => sb_drop s 1 i
 intro d
 induction d with
 | zero =>
  intro i k hi _ hk
  obtain ⟨k, rfl⟩ : ∃ q, k = q + 1 := ⟨k - 1, by omega⟩
  obtain rfl : i = (dgs (s.data.toList.drop 1)).length := by omega
  refine ⟨k, by omega, ?_⟩
  rw [remontoirref03_Parse.l0]
  by_cases c : (dgs (s.data.toList.drop 1)).length < (s.data.toList.drop 1).length
  ·have h2 := hstop c
   rw [← hsb] at h2
   rw [if_pos (by omega), if_pos (by omega), bt_sb2]
   rcases h2 with h2 | h2
   ·rw [if_neg (by omega)]
   ·rw [if_pos (by omega), decide_eq_false (by omega)]
  ·rw [if_neg (by omega)]
 | succ d ih =>
  intro i k hi hk0 hk
  obtain ⟨k, rfl⟩ : ∃ q, k = q + 1 + 1 := ⟨k - 2, by omega⟩
  obtain ⟨g1, g2, g3⟩ := hget i (by omega)
  rw [← hsb] at g1 g2
  obtain ⟨k', e1, e2⟩ := ih (i + 1) k (by omega) (by omega) (by omega)
  refine ⟨k', by omega, ?_⟩
  have c1 : ((1 + i : Nat) : Int) < (s.size : Int) := by omega
  have c2 : (0 : Int) ≤ ((1 + i : Nat) : Int) := by omega
  have c3 : (sb s (1 + i) : Int) ≥ 48 := by omega
  have c4 : (sb s (1 + i) : Int) ≤ 57 := by omega
  rw [remontoirref03_Parse.l0, if_pos c1, if_pos c2, bt_sb2, if_pos c3, decide_eq_true c4, remontoirref03_Parse.j3, if_pos rfl, w64u (by omega)]
  by_cases c : i < 8
  ·have c9 : ((1 + i : Nat) : Int) < 9 := by omega
   rw [if_pos c9, if_pos c2, if_pos c1, bt_sb2]
   rw [Nat.min_eq_left (by omega : i + 1 ≤ 8), decV_take (by omega), g3, ← hsb i] at e2
   rw [Nat.min_eq_left (by omega : i ≤ 8)]
   have hx : decV ((dgs (s.data.toList.drop 1)).take i) < 1000000000 := by
    have h1 := decV_lt ((dgs (s.data.toList.drop 1)).take i) (fun b hb => hall b (List.mem_of_mem_take hb))
    have h2 : 10 ^ ((dgs (s.data.toList.drop 1)).take i).length ≤ 10 ^ 9 := Nat.pow_le_pow_right (by omega) (by rw [List.length_take]; omega)
    omega
   generalize decV ((dgs (s.data.toList.drop 1)).take i) = v at *
   obtain ⟨b, hbb⟩ : ∃ b, sb s (1 + i) = b := ⟨_, rfl⟩
   rw [hbb] at g1 g2 e2 ⊢
   rw [w64m v b hx g1 g2]
   exact e2
  ·have c9 : ¬ ((1 + i : Nat) : Int) < 9 := by omega
   rw [if_neg c9]
   rw [Nat.min_eq_right (by omega : 8 ≤ i + 1)] at e2
   rw [Nat.min_eq_right (by omega : 8 ≤ i)]
   exact e2
def sI3 (p : Int × Nat × Int) : Int × Int × Int := (p.1, (p.2.1 : Int), p.2.2)
set_option maxHeartbeats 4000000 in
theorem ref03_f (s : ByteArray) (hs : s.size ≤ 900) (k : Nat) (hk : 4 * s.size + 400 ≤ k) : remontoirref03_Parse.f k s = some (sI3 (cyParse s.data.toList)) := by
 have hl := slen s
 unfold remontoirref03_Parse.f
 obtain ⟨k, rfl⟩ : ∃ q, k = q + 1 + 1 := ⟨k - 2, by omega⟩
 cases hL : s.data.toList with
 | nil =>
  rw [hL] at hl
  rw [if_pos (by simp at hl; omega), remontoirref03_Parse.j0, if_pos rfl]
  rfl
 | cons b m =>
  have hl2 : s.size = m.length + 1 := by rw [hL, List.length_cons] at hl; omega
  have hm : s.data.toList.drop 1 = m := by rw [hL]; rfl
  have hb : bt s 0 = ((b.toNat : Nat) : Int) := by
   have := bt_sb2 s 0
   rw [show ((0 : Nat) : Int) = 0 from rfl] at this
   rw [this]
   unfold sb
   rw [hL]
   rfl
  rw [if_neg (by omega), if_pos (by omega), hb]
  by_cases c2 : b = 82
  ·have e : (((b.toNat : Nat) : Int) != 82) = false := by rw [c2]; rfl
   have hcy : cyParse (b :: m) = cyBody (m.takeWhile nsl) (m.contains 47) ((m.dropWhile nsl).drop 1) := by
    show (if b = 82 then _ else _) = _
    rw [if_pos c2]
    rfl
   rw [e, remontoirref03_Parse.j0, if_neg (by decide), hcy]
   have hs1 : 0 < m.length → bt s 1 = ((m.headD 0).toNat : Int) := fun h => by
    have := bt_sb2 s 1
    rw [show ((1 : Nat) : Int) = 1 from rfl] at this
    rw [this]
    unfold sb
    rw [hL]
    cases m with
    | nil => simp at h
    | cons c r => rfl
   by_cases c3 : m.headD 0 = 47
   ·have hm0 : 0 < m.length := by cases m with | nil => exact absurd c3 (by decide) | cons c r => simp
    have e47 : (((m.headD 0).toNat : Int) == 47) = true := by rw [c3]; rfl
    rw [if_pos (by omega), if_pos (by omega), hs1 hm0, e47, remontoirref03_Parse.j1, if_pos rfl]
    cases m with
    | nil => exact absurd c3 (by decide)
    | cons c r =>
     have : c = 47 := c3
     subst this
     have hn : ¬ nsl 47 = true := by decide
     rw [List.takeWhile_cons, if_neg hn, List.contains_cons]
     unfold cyBody
     rw [if_pos ⟨rfl, rfl⟩]
     rfl
   ·have hj1 : remontoirref03_Parse.j1 (k + 1) s false 0 0 = some (sI3 (cyBody (m.takeWhile nsl) (m.contains 47) ((m.dropWhile nsl).drop 1))) := by
     rw [remontoirref03_Parse.j1, if_neg (by decide)]
     obtain ⟨k', e1, e2⟩ := cy3_l0 (s := s) (by omega) (by omega) (dgs (s.data.toList.drop 1)).length 0 k (by omega) (by have := dgs_le (s.data.toList.drop 1); rw [List.length_drop] at this; omega) (by have := dgs_le (s.data.toList.drop 1); rw [List.length_drop] at this; omega)
     have hz : decV ((dgs (s.data.toList.drop 1)).take (min 0 8)) = 0 := by rw [Nat.zero_min, List.take_zero]; rfl
     rw [hz] at e2
     have hdl := dgs_le (s.data.toList.drop 1)
     have hgt := fun (h : 0 < (dgs (s.data.toList.drop 1)).length) => (dgs_get (l := s.data.toList.drop 1) h).2.2
     have hsbK := sb_drop s 1 (dgs (s.data.toList.drop 1)).length
     have hrestK : s.data.toList.drop (1 + (dgs (s.data.toList.drop 1)).length + 1) = m.drop ((dgs (s.data.toList.drop 1)).length + 1) := by rw [← hm, List.drop_drop]; congr 1 <;> omega
     have hall := dgs_all m
     rw [hm] at e1 e2 hdl hsbK hgt hrestK
     obtain ⟨k', rfl⟩ : ∃ q, k' = q + 1 + 1 := ⟨k' - 2, by omega⟩
     have goal1 : remontoirref03_Parse.l0 k s 1 0 0 0 = remontoirref03_Parse.j3 (k' + 1 + 1) s ((1 + (dgs m).length : Nat) : Int) (decV ((dgs m).take (min (dgs m).length 8)) : Int) false 0 0 := e2
     rw [goal1]
     have j4t : ∀ x5 x6 : Int, remontoirref03_Parse.j4 (k' + 1) s x5 x6 true 0 0 = some (0, 0, 2) := fun x5 x6 => by rw [remontoirref03_Parse.j4, if_pos rfl]
     rw [remontoirref03_Parse.j3, if_neg (by decide)]
     have hbad : ∀ x : Int × Nat × Int, x = (0, 0, 2) → some ((0, 0, 2) : Int × Int × Int) = some (sI3 x) := fun x h => by rw [h]; rfl
     rcases cy_split m with ⟨h1, h2, h3, h4, h5⟩ | ⟨h1, h2, h3⟩ | ⟨h1, h2, h3⟩
     ·rw [h3, h4, h5]
      have hany : (dgs m).any (fun b => !isDg b) = false := by
       rw [List.any_eq_false]
       intro c hc
       rw [hall c hc]
       decide
      by_cases d0 : (dgs m).length = 0
      ·exfalso
       apply c3
       rw [d0] at h2
       cases m with
       | nil => simp at h1
       | cons c r => exact h2
      ·have hne : dgs m ≠ [] := fun q => d0 (by rw [q]; rfl)
       rw [if_neg (by omega)]
       by_cases d1 : 7 < (dgs m).length
       ·rw [if_pos (by omega), j4t]
        refine hbad _ ?_
        unfold cyBody
        rw [if_neg (fun q => hne q.2), if_neg (by rw [hany]; decide), if_pos (.inr (.inl d1))]
       ·rw [if_neg (by omega), if_pos (by omega), hs1 (by omega)]
        have hhd : (dgs m).headD 0 = m.headD 0 := by
         have := hgt (by omega)
         cases hq : dgs m with
         | nil => exact absurd hq hne
         | cons c r =>
          rw [hq] at this
          cases m with
          | nil => simp at h1
          | cons c' r' => simpa using this
        by_cases d2 : m.headD 0 = 48
        ·have : ((m.headD 0).toNat : Int) = 48 := by rw [d2]; rfl
         rw [if_pos this, j4t]
         refine hbad _ ?_
         unfold cyBody
         rw [if_neg (fun q => hne q.2), if_neg (by rw [hany]; decide), if_pos (.inr (.inr (by rw [hhd]; exact d2)))]
        ·have : ¬ ((m.headD 0).toNat : Int) = 48 := fun q => d2 (UInt8.toNat_inj.1 (by show (m.headD 0).toNat = 48; omega))
         have hK47 : bt s ((1 + (dgs m).length : Nat) : Int) = 47 := by rw [bt_sb2, hsbK, h2]; rfl
         have hne47 : ((47 : Int) != 47) = false := by decide
         rw [if_neg this, if_neg (by omega), if_pos (by omega), if_pos (by omega), hK47, hne47, Nat.min_eq_left (by omega), List.take_length, remontoirref03_Parse.j4, if_neg (by decide)]
         have hB : cyBody (dgs m) true (m.drop ((dgs m).length + 1)) = if 1000000 < decV (dgs m) then (0, 0, 3) else if (spParse (m.drop ((dgs m).length + 1))).2 ≠ 0 then (0, 0, (spParse (m.drop ((dgs m).length + 1))).2) else if (spParse (m.drop ((dgs m).length + 1))).1 = 0 then (0, 0, 6) else ((decV (dgs m) : Int), (spParse (m.drop ((dgs m).length + 1))).1, 0) := by
          unfold cyBody
          rw [if_neg (fun q => hne q.2), if_neg (by rw [hany]; decide), if_neg (by rintro (q | q | q); cases q; exact d1 q; rw [hhd] at q; exact d2 q)]
         rw [hB]
         by_cases d3 : 1000000 < decV (dgs m)
         ·rw [if_pos (by omega), if_pos d3]; rfl
         ·have f1 : (0 : Int) ≤ ((1 + (dgs m).length + 1 : Nat) : Int) := by omega
          have f2 : ((1 + (dgs m).length + 1 : Nat) : Int) ≤ (s.size : Int) := by omega
          have f3 : ¬ ((decV (dgs m) : Int) > 1000000) := by omega
          have hex : (s.extract (1 + (dgs m).length + 1) s.size).data.toList = m.drop ((dgs m).length + 1) := by rw [sx_drop, hrestK]
          have hsz : (s.extract (1 + (dgs m).length + 1) s.size).size ≤ s.size := by rw [ByteArray.size_extract]; omega
          have h02 := ref02_f (s.extract (1 + (dgs m).length + 1) s.size) (by omega) k' (by omega)
          rw [hex] at h02
          rw [if_neg f3, if_neg d3, w64u (by omega), if_pos f1, if_pos f2, Int.toNat_natCast, h02, Option.bind_some]
          generalize spParse (m.drop ((dgs m).length + 1)) = p
          obtain ⟨p1, p2⟩ := p
          unfold sI
          dsimp only
          by_cases d4 : p2 = 0
          ·rw [if_pos d4, if_neg (show ¬ (p2 ≠ 0) from fun q => q d4)]
           by_cases d5 : p1 = 0
           ·have d5' : ((p1 : Nat) : Int) = 0 := by rw [d5]; rfl
            rw [if_pos d5', if_pos d5]; rfl
           ·have d5' : ¬ ((p1 : Nat) : Int) = 0 := fun q => d5 (by exact_mod_cast q)
            rw [if_neg d5', if_neg d5]; rfl
          ·rw [if_neg d4, if_pos (show p2 ≠ 0 from d4)]; rfl
     ·have : cyBody (m.takeWhile nsl) (m.contains 47) ((m.dropWhile nsl).drop 1) = (0, 0, 2) := by
       rw [h2]
       unfold cyBody
       rw [if_neg (fun q => by cases q.1)]
       split
       ·rfl
       ·rw [if_pos (.inl rfl)]
      rw [this]
      by_cases d0 : (dgs m).length = 0
      ·rw [if_pos (by omega), j4t]; rfl
      ·rw [if_neg (by omega)]
       by_cases d1 : 7 < (dgs m).length
       ·rw [if_pos (by omega), j4t]; rfl
       ·rw [if_neg (by omega), if_pos (by omega)]
        split
        ·rw [j4t]; rfl
        ·rw [if_pos (by omega), j4t]; rfl
     ·have : cyBody (m.takeWhile nsl) (m.contains 47) ((m.dropWhile nsl).drop 1) = (0, 0, 2) := by
       unfold cyBody
       rw [if_neg (fun q => by rw [q.2] at h3; exact absurd h3 (by decide)), if_pos h3]
      rw [this]
      by_cases d0 : (dgs m).length = 0
      ·rw [if_pos (by omega), j4t]; rfl
      ·rw [if_neg (by omega)]
       by_cases d1 : 7 < (dgs m).length
       ·rw [if_pos (by omega), j4t]; rfl
       ·rw [if_neg (by omega), if_pos (by omega)]
        split
        ·rw [j4t]; rfl
        ·have hK47 : (bt s ((1 + (dgs m).length : Nat) : Int) != 47) = true := by
          rw [bt_sb2, hsbK, bne_iff_ne]
          intro q
          exact h2 (UInt8.toNat_inj.1 (by show (m.getD (dgs m).length 0).toNat = 47; omega))
         rw [if_neg (by omega), if_pos (by omega), if_pos (by omega), hK47, j4t]; rfl
    by_cases c4 : m.length = 0
    ·rw [if_neg (by omega)]
     exact hj1
    ·have e47 : (((m.headD 0).toNat : Int) == 47) = false := by
      rw [beq_eq_false_iff_ne]
      intro q
      exact c3 (UInt8.toNat_inj.1 (by show (m.headD 0).toNat = 47; omega))
     rw [if_pos (by omega), if_pos (by omega), hs1 (by omega), e47]
     exact hj1
  ·have e : (((b.toNat : Nat) : Int) != 82) = true := by
    rw [bne_iff_ne]
    intro q
    exact c2 (UInt8.toNat_inj.1 (by show b.toNat = 82; omega))
   have hcy : cyParse (b :: m) = (0, 0, 2) := by
    show (if b = 82 then _ else _) = _
    rw [if_neg c2]
   rw [e, remontoirref03_Parse.j0, if_pos rfl, hcy]
   rfl
end Go.Proofs.YtdfkbiffdcfnpaaGreatDoor.H
/- cycle.Parse as printed is cyParse. -/
namespace Go.Proofs.YtdfkbiffdcfnpaaGreatDoor.H
open Go.RowKit Go.HK Go.Lib Go.Proofs.YtdfkbiffdcfnpaaGreatDoorW.PrintWords Go.Proofs.YtdfkbiffdcfnpaaGreatDoorW.PrintLast Go.Proofs.YtdfkbiffdcfnpaaGreatDoorW.PrintMore
set_option linter.unusedVariables false
set_option linter.unusedSimpArgs false
theorem w64s {i : Nat} (h : i < 4611686018427387904) : wrap64 ((i : Int) + 1) = ((i + 1 : Nat) : Int) := by unfold wrap64; omega
theorem bt_sb (s : ByteArray) (k : Nat) : bt s (k : Int) = (sb s k : Int) := by
  unfold bt sb
  have hl := slen s
  rw [Int.toNat_natCast]
  split
  · rename_i h
    rw [List.getD_eq_getElem?_getD, List.getElem?_eq_getElem (by omega)]
    simp
    rfl
  · rename_i h
    rw [List.getD_eq_getElem?_getD, List.getElem?_eq_none (by omega)]
    rfl
theorem hasP_yes {s : ByteArray} {c : UInt8} {l : List UInt8} (h : s.data.toList = c :: l) : stringslite_HasPrefix.f s ⟨#[c]⟩ = some true := by
  have hl := slen s
  rw [h, List.length_cons] at hl
  have h1 : ((⟨#[c]⟩ : ByteArray).size : Int) = 1 := rfl
  unfold stringslite_HasPrefix.f
  rw [h1, if_pos (by omega), if_pos (by omega), if_pos (by omega)]
  congr 1
  have e1 : (s.extract 0 (1 : Int).toNat).toList = [c] := by
    rw [ByteArray.toList_eq, show (1 : Int).toNat = 1 from rfl, sx_take, h]
    rfl
  rw [e1, ByteArray.toList_eq]
  simp
theorem hasP_no {s : ByteArray} {c : UInt8} (h : ∀ l, s.data.toList ≠ c :: l) : stringslite_HasPrefix.f s ⟨#[c]⟩ = some false := by
  have hl := slen s
  have h1 : ((⟨#[c]⟩ : ByteArray).size : Int) = 1 := rfl
  unfold stringslite_HasPrefix.f
  rw [h1]
  by_cases h0 : s.size = 0
  · rw [if_neg (by omega)]
  · rw [if_pos (by omega), if_pos (by omega), if_pos (by omega)]
    congr 1
    rw [ByteArray.toList_eq, show (1 : Int).toNat = 1 from rfl, sx_take, ByteArray.toList_eq]
    cases hd : s.data.toList with
    | nil => rw [hd] at hl; simp at hl; omega
    | cons b l =>
      have : b ≠ c := fun q => h l (by rw [hd, q])
      simp [this]
theorem cutP_yes {s : ByteArray} {c : UInt8} {l : List UInt8} (h : s.data.toList = c :: l) : ∃ t : ByteArray, strings_CutPrefix.f s ⟨#[c]⟩ = some (t, true) ∧ t.data.toList = l ∧ t.size ≤ s.size := by
  have hl := slen s
  rw [h, List.length_cons] at hl
  have h1 : ((⟨#[c]⟩ : ByteArray).size : Int) = 1 := rfl
  refine ⟨s.extract 1 s.size, ?_, by rw [sx_drop, h]; rfl, by rw [ByteArray.size_extract]; omega⟩
  unfold strings_CutPrefix.f stringslite_CutPrefix.f
  rw [hasP_yes h, h1]
  simp only [Option.bind_some, if_true]
  rw [if_pos (by omega), if_pos (by omega)]
  rfl
theorem cutP_no {s : ByteArray} {c : UInt8} (h : ∀ l, s.data.toList ≠ c :: l) : strings_CutPrefix.f s ⟨#[c]⟩ = some (s, false) := by
  unfold strings_CutPrefix.f stringslite_CutPrefix.f
  rw [hasP_no h]
  simp
theorem ixb (c : UInt8) : ∀ l : List UInt8, (Lib.indexByte l c = -1 ∧ c ∉ l) ∨ (∃ k : Nat, Lib.indexByte l c = k ∧ k < l.length ∧ k = (l.takeWhile (fun b => b != c)).length ∧ c ∈ l)
  | [] => .inl ⟨rfl, by simp⟩
  | b :: l => by
    simp only [Lib.indexByte]
    by_cases h : b = c
    · subst h
      refine .inr ⟨0, by simp, by simp, by simp, by simp⟩
    · rcases ixb c l with ⟨e, h1⟩ | ⟨k, e, h1, h2, h3⟩
      · refine .inl ⟨?_, ?_⟩
        · simp [h, e]
        · simp only [List.mem_cons, not_or]; exact ⟨fun q => h q.symm, h1⟩
      · refine .inr ⟨k + 1, ?_, by simp; omega, ?_, by simp [h3]⟩
        · simp [h, e]
          try omega
        · have : (b != c) = true := by simp [h]
          rw [List.takeWhile_cons, if_pos this, List.length_cons, ← h2]
theorem tw_all {p : UInt8 → Bool} : ∀ {l : List UInt8}, (∀ b ∈ l, p b = true) → l.takeWhile p = l ∧ l.dropWhile p = []
  | [], _ => ⟨rfl, rfl⟩
  | b :: l, h => by
    have ih := tw_all (l := l) (fun c hc => h c (by simp [hc]))
    have hb := h b (by simp)
    exact ⟨by rw [List.takeWhile_cons, if_pos hb, ih.1], by rw [List.dropWhile_cons, if_pos hb, ih.2]⟩
theorem tw_take (p : UInt8 → Bool) (l : List UInt8) : l.take (l.takeWhile p).length = l.takeWhile p := (List.prefix_iff_eq_take.1 (List.takeWhile_prefix p)).symm
theorem tw_drop (p : UInt8 → Bool) (l : List UInt8) : l.drop (l.takeWhile p).length = l.dropWhile p := by
  have h := List.takeWhile_append_dropWhile (p := p) (l := l)
  have h2 := List.take_append_drop (l.takeWhile p).length l
  rw [tw_take] at h2
  exact List.append_cancel_left (h2.trans h.symm)
theorem cut_f {s : ByteArray} (c : UInt8) (hs : s.size ≤ 1000) : ∃ a b : ByteArray, strings_Cut.f s ⟨#[c]⟩ = some (a, b, s.data.toList.contains c) ∧ a.data.toList = s.data.toList.takeWhile (fun b => b != c) ∧ b.data.toList = (s.data.toList.dropWhile (fun b => b != c)).drop 1 ∧ a.size ≤ s.size ∧ b.size ≤ s.size := by
  have hl := slen s
  have h1 : ((⟨#[c]⟩ : ByteArray).size : Int) = 1 := rfl
  have h2 : stringslite_Index.f s ⟨#[c]⟩ = some (Lib.indexByte s.data.toList c) := by unfold stringslite_Index.f; rw [if_pos (show (⟨#[c]⟩ : ByteArray).size = 1 from rfl)]; rfl
  unfold strings_Cut.f stringslite_Cut.f
  rw [h2, h1]
  rcases ixb c s.data.toList with ⟨e, hn⟩ | ⟨k, e, hk, hk2, hm⟩
  · refine ⟨s, ⟨#[]⟩, ?_, ?_, ?_, Nat.le_refl _, Nat.zero_le _⟩
    · have hc : s.data.toList.contains c = false := by simpa using hn
      rw [e, hc]
      simp
    · have : ∀ b ∈ s.data.toList, (b != c) = true := fun b hb => by simp; rintro rfl; exact hn hb
      rw [(tw_all this).1]
    · have : ∀ b ∈ s.data.toList, (b != c) = true := fun b hb => by simp; rintro rfl; exact hn hb
      rw [(tw_all this).2]
      rfl
  · have hc : s.data.toList.contains c = true := by simpa using hm
    refine ⟨s.extract 0 k, s.extract (k + 1) s.size, ?_, ?_, ?_, by rw [ByteArray.size_extract]; omega, by rw [ByteArray.size_extract]; omega⟩
    · rw [e, hc]
      simp only [Option.bind_some]
      rw [if_pos (by omega), if_pos (by omega), if_pos (by omega), w64s (by omega), if_pos (by omega), if_pos (by omega)]
      simp
    · rw [sx_take, hk2, tw_take]
    · rw [sx_drop, ← List.drop_drop, hk2, tw_drop]
theorem cy_j2 {k : Nat} {rest num : ByteArray} {b : Bool} (hb : b = decide (num.data.toList.headD 0 = 48)) (hall : ∀ c ∈ num.data.toList, isDg c = true) (h0 : num.data.toList ≠ []) (hn : num.size ≤ 7) (hr : rest.size ≤ 1000) :
    cycle_Parse.j2 (k + 1) rest num b = some (if b = true then (0, 0, 2) else if 1000000 < decV num.data.toList then (0, 0, 3) else if (spParse rest.data.toList).2 ≠ 0 then (0, 0, (spParse rest.data.toList).2) else if (spParse rest.data.toList).1 = 0 then (0, 0, 6) else ((decV num.data.toList : Int), ((spParse rest.data.toList).1 : Int), 0)) := by
  have h1 : strconv_Atoi.f num = some ((decV num.data.toList : Int), none) := by
    unfold strconv_Atoi.f
    rw [if_pos (by omega), atoi_dgs hall h0]
    rfl
  have h2 : span_Parse.f rest = some (((spParse rest.data.toList).1 : Int), (spParse rest.data.toList).2) := by
    unfold span_Parse.f
    rw [if_pos hr]
  rw [cycle_Parse.j2, h1, h2]
  generalize spParse rest.data.toList = p
  obtain ⟨p1, p2⟩ := p
  generalize decV num.data.toList = v
  clear hb hall h0 h1 h2
  by_cases c1 : b = true
  · rw [if_pos c1, if_pos c1]
  · rw [if_neg c1, if_neg c1]
    simp only [Option.bind_some]
    by_cases c2 : 1000000 < v
    · rw [if_pos (by omega), if_pos c2]
    · rw [if_neg (by omega), if_neg c2]
      by_cases c3 : p2 = 0
      · subst c3
        by_cases c4 : p1 = 0
        · subst c4; simp
        · have : ¬ (p1 : Int) = 0 := by omega
          simp [c4, this]
      · simp [c3]
theorem isDg_sb (s : ByteArray) {i : Nat} (h : i < s.size) : isDg (s.data.toList[i]'(by have := slen s; omega)) = decide (48 ≤ sb s i ∧ sb s i ≤ 57) := by
  have hl := slen s
  unfold isDg sb
  rw [List.getD_eq_getElem?_getD, List.getElem?_eq_getElem (by omega)]
  rfl
theorem cy_l0 {rest num : ByteArray} {slash : Bool} (hn : num.size ≤ 1000) (hr : rest.size ≤ 1000) (hne : slash = true → num.data.toList ≠ []) : ∀ (d i k : Nat), i + d = num.size → d + 2 ≤ k → (∀ j, j < i → ∃ h : j < num.data.toList.length, isDg num.data.toList[j] = true) →
  cycle_Parse.l0 k rest num slash (num.size : Int) (i : Int) = some ((cyBody num.data.toList slash rest.data.toList).1, ((cyBody num.data.toList slash rest.data.toList).2.1 : Int), (cyBody num.data.toList slash rest.data.toList).2.2) := by
 have hl := slen num
 intro d
 induction d with
 | zero =>
  intro i k hd hk hall
  obtain ⟨k, rfl⟩ : ∃ q, k = q + 1 + 1 := ⟨k - 2, by omega⟩
  obtain rfl : i = num.size := by omega
  have hA : ∀ c ∈ num.data.toList, isDg c = true := fun c hc => by
   obtain ⟨j, hj, rfl⟩ := List.mem_iff_getElem.1 hc
   obtain ⟨_, h⟩ := hall j (by omega)
   exact h
  have hany : num.data.toList.any (fun b => !isDg b) = false := by
   rw [List.any_eq_false]
   intro c hc
   rw [hA c hc]
   decide
  unfold cycle_Parse.l0
  rw [if_neg (by omega)]
  cases slash with
  | false =>
   rw [if_neg (by decide)]
   have e : cyBody num.data.toList false rest.data.toList = (0, 0, 2) := by
    unfold cyBody
    rw [if_neg (by simp), if_neg (by rw [hany]; decide), if_pos (.inl rfl)]
   rw [e]
   unfold cycle_Parse.j2
   rfl
  | true =>
   have h0 := hne rfl
   have hpos : 0 < num.size := by
    cases hq : num.data.toList with
    | nil => exact absurd hq h0
    | cons c r => rw [hq, List.length_cons] at hl; omega
   rw [if_pos rfl]
   by_cases c1 : 7 < num.size
   ·rw [if_pos (by omega)]
    have e : cyBody num.data.toList true rest.data.toList = (0, 0, 2) := by
     unfold cyBody
     rw [if_neg (fun q => h0 q.2), if_neg (by rw [hany]; decide), if_pos (.inr (.inl (by omega)))]
    rw [e]
    unfold cycle_Parse.j2
    rfl
   ·rw [if_neg (by omega), if_pos (by omega)]
    have hb : (bt num 0 == 48) = decide (num.data.toList.headD 0 = 48) := by
     have := bt_sb num 0
     rw [show ((0 : Nat) : Int) = 0 from rfl] at this
     rw [this]
     unfold sb
     cases hq : num.data.toList with
     | nil => exact absurd hq h0
     | cons c r =>
      simp only [List.getD_cons_zero, List.headD_cons]
      by_cases hc : c = 48
      ·subst hc; rfl
      ·have h3 : ¬ ((c.toNat : Int) = 48) := fun q => hc (UInt8.toNat_inj.1 (by show c.toNat = 48; omega))
       rw [beq_eq_false_iff_ne.2 h3]
       simp [hc]
    rw [cy_j2 hb hA h0 (by omega) hr]
    have e : cyBody num.data.toList true rest.data.toList = if (bt num 0 == 48) = true then (0, 0, 2) else if 1000000 < decV num.data.toList then (0, 0, 3) else if (spParse rest.data.toList).2 ≠ 0 then (0, 0, (spParse rest.data.toList).2) else if (spParse rest.data.toList).1 = 0 then (0, 0, 6) else ((decV num.data.toList : Int), (spParse rest.data.toList).1, 0) := by
     unfold cyBody
     rw [if_neg (fun q => h0 q.2), if_neg (by rw [hany]; decide)]
     rw [hb]
     by_cases c2 : num.data.toList.headD 0 = 48
     ·rw [if_pos (.inr (.inr c2)), if_pos (decide_eq_true c2)]
     ·rw [if_neg (by rintro (q | q | q); cases q; omega; exact c2 q)]
      have hf : ¬ decide (num.data.toList.headD 0 = 48) = true := by simpa using c2
      rw [if_neg hf]
    rw [e]
    congr 1
    split
    ·rfl
    ·split
     ·rfl
     ·split
      ·rfl
      ·split <;> rfl
 | succ d ih =>
  intro i k hd hk hall
  obtain ⟨k, rfl⟩ : ∃ q, k = q + 1 := ⟨k - 1, by omega⟩
  unfold cycle_Parse.l0
  rw [if_pos (by omega), if_pos (by omega), if_pos (by omega), bt_sb]
  have hi : i < num.size := by omega
  have hg := isDg_sb num hi
  by_cases c1 : 48 ≤ sb num i ∧ sb num i ≤ 57
  ·rw [if_neg (by omega), if_neg (by omega), w64s (by omega)]
   refine ih (i + 1) k (by omega) (by omega) (fun j hj => ?_)
   by_cases hji : j = i
   ·subst hji
    exact ⟨by omega, by rw [hg]; exact decide_eq_true c1⟩
   ·exact hall j (by omega)
  ·have hany : num.data.toList.any (fun b => !isDg b) = true := by
    rw [List.any_eq_true]
    exact ⟨_, List.getElem_mem (by omega : i < num.data.toList.length), by rw [hg, decide_eq_false c1]; rfl⟩
   have e : cyBody num.data.toList slash rest.data.toList = (0, 0, 2) := by
    unfold cyBody
    rw [if_neg (fun q => hne q.1 q.2), if_pos hany]
   rw [e]
   by_cases c2 : sb num i < 48
   ·rw [if_pos (by omega)]; rfl
   ·rw [if_neg (by omega), if_pos (by omega)]; rfl
theorem cyc_f (s : ByteArray) (hs : s.size ≤ 1000) (k : Nat) (hk : s.size + 5 ≤ k) : cycle_Parse.f k s = some ((cyParse s.data.toList).1, ((cyParse s.data.toList).2.1 : Int), (cyParse s.data.toList).2.2) := by
  unfold cycle_Parse.f
  by_cases h : ∃ m, s.data.toList = 82 :: m
  · obtain ⟨m, hm⟩ := h
    obtain ⟨t, ht, ht1, ht2⟩ := cutP_yes hm
    obtain ⟨a, b, hc, ha, hb, ha2, hb2⟩ := cut_f (s := t) 47 (by omega)
    have e : cyParse s.data.toList = cyBody a.data.toList (t.data.toList.contains 47) b.data.toList := by
      rw [hm, ha, hb, ht1]
      simp [cyParse]
    rw [ht, e]
    simp only [Option.bind_some, if_true]
    rw [hc]
    simp only [Option.bind_some]
    obtain ⟨k, rfl⟩ : ∃ q, k = q + 1 := ⟨k - 1, by omega⟩
    by_cases c1 : t.data.toList.contains 47 = true
    · rw [if_pos c1, c1, cycle_Parse.j0]
      by_cases c2 : a.data.toList = []
      · have : (a.toList == ([] : List UInt8)) = true := by rw [sEmpty c2]; rfl
        rw [if_pos this]
        unfold cyBody
        rw [if_pos ⟨rfl, c2⟩]
        rfl
      · have : ¬ (a.toList == ([] : List UInt8)) = true := by rw [ByteArray.toList_eq]; simpa using c2
        rw [if_neg this]
        exact cy_l0 (by omega) (by omega) (fun _ => c2) a.size 0 k (by omega) (by omega) (fun j hj => by omega)
    · rw [if_neg c1]
      have c1' : t.data.toList.contains 47 = false := by simpa using c1
      rw [c1', cycle_Parse.j0, if_neg (by decide)]
      exact cy_l0 (by omega) (by omega) (fun q => by cases q) a.size 0 k (by omega) (by omega) (fun j hj => by omega)
  · rw [cutP_no (fun l q => h ⟨l, q⟩)]
    have e : cyParse s.data.toList = (0, 0, 2) := by
      unfold cyParse
      cases hl : s.data.toList with
      | nil => rfl
      | cons b m => simp only; rw [if_neg (fun q => h ⟨m, by rw [hl, q]⟩)]
    rw [e]
    simp
end Go.Proofs.YtdfkbiffdcfnpaaGreatDoor.H
/- The orders of a list of events, as printed. -/
namespace Go.Proofs.YtdfkbiffdcfnpaaGreatDoor.H
open Go.RowKit Go.HK Go.Lib Go.Proofs.YtdfkbiffdcfnpaaGreatDoorW.PrintWords Go.Proofs.YtdfkbiffdcfnpaaGreatDoorW.PrintLast Go.Proofs.YtdfkbiffdcfnpaaGreatDoorW.PrintMore
set_option linter.unusedVariables false
set_option linter.unusedSimpArgs false
abbrev SE := S83
abbrev SF := S51
/-- The node of a number; zeros: there is none. -/
def nodeAt (nodes : List SN) (n : Int) : N5 := kindOf (nodes.map on5) n
theorem nodeAt_time {nodes : List SN} (h : ∀ x ∈ nodes, x.f4.size ≤ 80) (n : Int) : (nodeAt nodes n).2.2.2.2.size ≤ 80 := by
  unfold nodeAt kindOf
  split
  · rename_i hn
    rw [List.length_map] at hn
    rw [List.getD_eq_getElem?_getD, List.getElem?_map, List.getElem?_eq_getElem (by omega)]
    exact h _ (List.getElem_mem _)
  · exact Nat.zero_le _
theorem waits_f (kind a b c : Int) (t : ByteArray) (ht : t.size ≤ 80) (k : Nat) (hk : 100 ≤ k) : graph_waits.f k kind a b c t = some ((grWaits kind t.data.toList).1, ((grWaits kind t.data.toList).2.1 : Int), (grWaits kind t.data.toList).2.2) := by
  obtain ⟨k, rfl⟩ : ∃ q, k = q + 1 := ⟨k - 1, by omega⟩
  have h1 : span_Parse.f t = some (((spParse t.data.toList).1 : Int), (spParse t.data.toList).2) := by
    unfold span_Parse.f
    rw [if_pos (by omega)]
  have h2 := cyc_f t (by omega) k (by omega)
  have key : (kind = 4 ∨ kind = 8 ∨ kind = 9) → graph_waits.j0 (k + 1) kind a b c t = some ((grWaits kind t.data.toList).1, ((grWaits kind t.data.toList).2.1 : Int), (grWaits kind t.data.toList).2.2) := by
    intro hk
    unfold grWaits
    rw [if_pos hk, graph_waits.j0, h1, h2]
    generalize spParse t.data.toList = p
    generalize cyParse t.data.toList = q
    obtain ⟨p1, p2⟩ := p
    obtain ⟨q1, q2, q3⟩ := q
    simp only [Option.bind_some]
    by_cases c1 : p2 = 0
    · rw [if_pos c1, if_pos c1]
      have e : decide ((p1 : Int) > 0) = decide (0 < p1) := by by_cases c : 0 < p1; rw [decide_eq_true c, decide_eq_true (by omega)]; rw [decide_eq_false c, decide_eq_false (by omega)]
      rw [e]
    · rw [if_neg c1, if_neg c1]
      by_cases c2 : kind = 9
      · rw [if_pos c2]
        by_cases c3 : q3 = 0
        · rw [if_pos c3]
          by_cases c4 : q1 > 9
          · rw [if_pos c4, if_pos (.inr (.inr c4))]; rfl
          · rw [if_neg c4, if_neg (by rintro (h | h | h); exact h c2; exact h c3; omega)]
        · rw [if_neg c3, if_pos (.inr (.inl c3))]; rfl
      · rw [if_neg c2, if_pos (.inl c2)]; rfl
  unfold graph_waits.f
  by_cases c4 : kind = 4
  · rw [if_pos c4]; exact key (.inl c4)
  · rw [if_neg c4]
    by_cases c8 : kind = 8
    · rw [if_pos c8]; exact key (.inr (.inl c8))
    · rw [if_neg c8]
      by_cases c9 : kind = 9
      · rw [if_pos c9]; exact key (.inr (.inr c9))
      · rw [if_neg c9]
        unfold grWaits
        rw [if_neg (by rintro (h | h | h); exact c4 h; exact c8 h; exact c9 h)]
        rfl
/-- The ticks of a node's timer. -/
def tkOf (nodes : List SN) (n : Int) : Nat := grTicks (nodeAt nodes n).1 (nodeAt nodes n).2.2.2.2.data.toList
theorem time_f {nm : ByteArray} {nodes : List SN} {flows : List SF} (hn : nodes.length ≤ 1000) (h : ∀ x ∈ nodes, x.f4.size ≤ 80) (n : Int) (k : Nat) (hk : 100 ≤ k) : ∃ N b, graph_Time.f k nm nodes flows n = some (N, (tkOf nodes n : Int), b) := by
  have h1 : graph_at.f nm nodes flows n = some ((nodeAt nodes n).1, (nodeAt nodes n).2.1, (nodeAt nodes n).2.2.1, (nodeAt nodes n).2.2.2.1, (nodeAt nodes n).2.2.2.2, decide (1 ≤ n ∧ n ≤ ((nodes.map on5).length : Int))) := by
    unfold graph_at.f
    rw [if_pos hn]
    rfl
  have ht := nodeAt_time h n
  unfold graph_Time.f tkOf
  rw [h1]
  simp only [Option.bind_some]
  generalize nodeAt nodes n = x at *
  obtain ⟨x1, x2, x3, x4, x5⟩ := x
  rw [waits_f x1 x2 x3 x4 x5 ht k hk]
  unfold grTicks
  generalize grWaits x1 x5.data.toList = g
  obtain ⟨g1, g2, g3⟩ := g
  cases g3
  · exact ⟨0, false, rfl⟩
  · exact ⟨g1, true, rfl⟩
/-- A node's class. -/
def clOf (nodes : List SN) (n : Int) : Int := (nodeAt nodes n).2.2.1
theorem class_f {nm : ByteArray} {nodes : List SN} {flows : List SF} (hn : nodes.length ≤ 1000) (n : Int) : orders_class.f nm nodes flows n = some (clOf nodes n) := by
  unfold orders_class.f clOf nodeAt kindOf
  rw [List.length_map]
  by_cases c1 : n < 1
  · rw [if_pos c1, if_neg (by omega)]
  · rw [if_neg c1]
    by_cases c2 : n > (nodes.length : Int)
    · rw [if_pos c2, if_neg (by omega)]
    · have hw : wrap64 (n - 1) = n - 1 := by unfold wrap64; omega
      rw [if_neg c2, hw, if_pos (by omega), if_pos (by omega), if_pos (by omega)]
      congr 1
      unfold rd_T86
      have e : (n - 1).toNat = n.toNat - 1 := by omega
      rw [e, List.getD_eq_getElem?_getD, List.getD_eq_getElem?_getD, List.getElem?_map, List.getElem?_eq_getElem (by omega)]
      rfl
/-- The order of an event. -/
def ofE (nodes : List SN) (e : SE) : List SO :=
  if e.f0 = 2 then [⟨1, e.f3, e.f2, clOf nodes e.f2, 0⟩] else if e.f0 = 3 then [⟨2, e.f3, e.f2, 0, (tkOf nodes e.f2 : Int)⟩] else if e.f0 = 4 then [⟨3, e.f3, 0, 0, 0⟩] else []
def ofL (nodes : List SN) (l : List SE) : List SO := l.flatMap (ofE nodes)
theorem ofE_len (nodes : List SN) (e : SE) : (ofE nodes e).length ≤ 1 := by
  unfold ofE
  split
  · simp
  · split
    · simp
    · split <;> simp
theorem ofL_len (nodes : List SN) : ∀ l : List SE, (ofL nodes l).length ≤ l.length
  | [] => by simp [ofL]
  | e :: l => by
    have h1 := ofE_len nodes e
    have h2 := ofL_len nodes l
    simp only [ofL, List.flatMap_cons, List.length_append, List.length_cons] at h2 ⊢
    omega
theorem of_l0 {nm : ByteArray} {nodes : List SN} {flows : List SF} {l : List SE} (hn : nodes.length ≤ 1000) (h : ∀ x ∈ nodes, x.f4.size ≤ 80) (hl : l.length ≤ 1000) :
    ∀ (d i k : Nat) (out : List SO), i + d = l.length → d + 101 ≤ k → out.length ≤ i → orders_Of.l0 k out l (l.length : Int) (i : Int) nm nodes flows = some (out ++ ofL nodes (l.drop i)) := by
  intro d
  induction d with
  | zero =>
    intro i k out hd hk ho
    obtain ⟨k, rfl⟩ : ∃ q, k = q + 1 := ⟨k - 1, by omega⟩
    unfold orders_Of.l0
    rw [if_neg (by omega), List.drop_of_length_le (by omega)]
    simp [ofL]
  | succ d ih =>
    intro i k out hd hk ho
    obtain ⟨k, rfl⟩ : ∃ q, k = q + 1 := ⟨k - 1, by omega⟩
    have hi : i < l.length := by omega
    have hr : rd_T83 l (i : Int) = l[i] := by
      unfold rd_T83
      rw [Int.toNat_natCast, List.getD_eq_getElem?_getD, List.getElem?_eq_getElem hi]
      rfl
    rw [List.drop_eq_getElem_cons hi]
    unfold orders_Of.l0
    rw [if_pos (by omega), if_pos (by omega), if_pos (by omega), hr, w64s (by omega)]
    have ec : ofL nodes (l[i] :: l.drop (i + 1)) = ofE nodes l[i] ++ ofL nodes (l.drop (i + 1)) := by unfold ofL; rw [List.flatMap_cons]
    rw [ec, ← List.append_assoc]
    generalize l[i] = e
    have hE := ofE_len nodes e
    by_cases c2 : e.f0 = 2
    · have e1 : ofE nodes e = [⟨1, e.f3, e.f2, clOf nodes e.f2, 0⟩] := by unfold ofE; rw [if_pos c2]
      rw [if_pos c2, class_f hn, e1]
      simp only [Option.bind_some]
      rw [if_pos (by omega)]
      exact ih (i + 1) k _ (by omega) (by omega) (by simp; omega)
    · rw [if_neg c2]
      by_cases c3 : e.f0 = 3
      · have e1 : ofE nodes e = [⟨2, e.f3, e.f2, 0, (tkOf nodes e.f2 : Int)⟩] := by unfold ofE; rw [if_neg c2, if_pos c3]
        obtain ⟨N, b, ht⟩ := time_f (nm := nm) (flows := flows) hn h e.f2 k (by omega)
        rw [if_pos c3, ht, e1]
        simp only [Option.bind_some]
        rw [if_pos (by omega)]
        exact ih (i + 1) k _ (by omega) (by omega) (by simp; omega)
      · rw [if_neg c3]
        by_cases c4 : e.f0 = 4
        · have e1 : ofE nodes e = [⟨3, e.f3, 0, 0, 0⟩] := by unfold ofE; rw [if_neg c2, if_neg c3, if_pos c4]
          rw [if_pos c4, if_pos (by omega), e1]
          exact ih (i + 1) k _ (by omega) (by omega) (by simp; omega)
        · have e1 : ofE nodes e = [] := by unfold ofE; rw [if_neg c2, if_neg c3, if_neg c4]
          rw [if_neg c4, e1, List.append_nil]
          exact ih (i + 1) k _ (by omega) (by omega) (by omega)
theorem of_f {nm : ByteArray} {nodes : List SN} {flows : List SF} {l : List SE} (hn : nodes.length ≤ 1000) (h : ∀ x ∈ nodes, x.f4.size ≤ 80) (hl : l.length ≤ 1000) (k : Nat) (hk : l.length + 101 ≤ k) : orders_Of.f k nm nodes flows l = some (ofL nodes l) := by
  unfold orders_Of.f
  have := of_l0 (nm := nm) (flows := flows) hn h hl l.length 0 k [] (by omega) (by omega) (Nat.le_refl _)
  exact this
/-- What LightDef says. -/
theorem light_l1 {nm : ByteArray} {nodes : List SN} {flows : List SF} (hf : flows.length ≤ 1000) : ∀ (d i k : Nat), i + d = flows.length → d < k → ∃ b, remontoirkeep_LightDef.l1 k (i : Int) nm nodes flows = some b := by
  intro d
  induction d with
  | zero =>
    intro i k hd hk
    obtain ⟨k, rfl⟩ : ∃ q, k = q + 1 := ⟨k - 1, by omega⟩
    rw [remontoirkeep_LightDef.l1, if_neg (by omega)]
    exact ⟨_, rfl⟩
  | succ d ih =>
    intro i k hd hk
    obtain ⟨k, rfl⟩ : ∃ q, k = q + 1 := ⟨k - 1, by omega⟩
    rw [remontoirkeep_LightDef.l1, if_pos (by omega), if_pos (by omega), w64s (by omega)]
    split
    · exact ⟨_, rfl⟩
    · exact ih (i + 1) k (by omega) (by omega)
theorem light_l0 {nm : ByteArray} {nodes : List SN} {flows : List SF} (hn : nodes.length ≤ 1000) (hf : flows.length ≤ 1000) : ∀ (d i k : Nat), i + d = nodes.length → d + flows.length + 1 < k → (∀ j, j < i → (nodes.getD j z86).f4.size ≤ 80) →
    ∃ b, remontoirkeep_LightDef.l0 k (i : Int) nm nodes flows = some b ∧ (b = true → ∀ j, j < nodes.length → (nodes.getD j z86).f4.size ≤ 80) := by
  intro d
  induction d with
  | zero =>
    intro i k hd hk hj
    obtain ⟨k, rfl⟩ : ∃ q, k = q + 1 := ⟨k - 1, by omega⟩
    rw [remontoirkeep_LightDef.l0, if_neg (by omega)]
    obtain ⟨b, hb⟩ := light_l1 (nm := nm) (nodes := nodes) hf flows.length 0 k (by omega) (by omega)
    exact ⟨b, hb, fun _ j h => hj j (by omega)⟩
  | succ d ih =>
    intro i k hd hk hj
    obtain ⟨k, rfl⟩ : ∃ q, k = q + 1 := ⟨k - 1, by omega⟩
    rw [remontoirkeep_LightDef.l0, if_pos (by omega), if_pos (by omega), w64s (by omega)]
    by_cases c : ((rd_T86 nodes (i : Int)).f4.size : Int) > 80
    · rw [if_pos c]
      exact ⟨false, rfl, fun h => by cases h⟩
    · rw [if_neg c]
      refine ih (i + 1) k (by omega) (by omega) (fun j h => ?_)
      by_cases e : j = i
      · subst e
        unfold rd_T86 at c
        rw [Int.toNat_natCast] at c
        omega
      · exact hj j (by omega)
theorem light_f {nm : ByteArray} {nodes : List SN} {flows : List SF} (k : Nat) (hk : 300 ≤ k) : ∃ b, remontoirkeep_LightDef.f k nm nodes flows = some b ∧ (b = true → nodes.length ≤ 70 ∧ ∀ x ∈ nodes, x.f4.size ≤ 80) := by
  obtain ⟨k, rfl⟩ : ∃ q, k = q + 1 := ⟨k - 1, by omega⟩
  unfold remontoirkeep_LightDef.f
  by_cases c1 : (nodes.length : Int) > 70
  · rw [if_pos c1, remontoirkeep_LightDef.j0, if_pos rfl]
    exact ⟨false, rfl, fun h => by cases h⟩
  · rw [if_neg c1]
    by_cases c2 : (flows.length : Int) > 110
    · rw [if_pos c2, remontoirkeep_LightDef.j0, if_pos rfl]
      exact ⟨false, rfl, fun h => by cases h⟩
    · rw [if_neg c2, remontoirkeep_LightDef.j0]
      by_cases c3 : decide ((nm.size : Int) > 60) = true
      · rw [if_pos c3]
        exact ⟨false, rfl, fun h => by cases h⟩
      · rw [if_neg c3]
        obtain ⟨b, hb, h⟩ := light_l0 (nm := nm) (nodes := nodes) (flows := flows) (by omega) (by omega) nodes.length 0 k (by omega) (by omega) (fun j h => by omega)
        refine ⟨b, hb, fun q => ⟨by omega, fun x hx => ?_⟩⟩
        obtain ⟨j, hj, rfl⟩ := List.mem_iff_getElem.1 hx
        have := h q j hj
        rwa [List.getD_eq_getElem?_getD, List.getElem?_eq_getElem hj] at this
end Go.Proofs.YtdfkbiffdcfnpaaGreatDoor.H
/- The chapter's examples; rows alike. -/
namespace Go.Proofs.YtdfkbiffdcfnpaaGreatDoor.H
open Go.RowKit Go.HK Go.Lib Go.Proofs.YtdfkbiffdcfnpaaGreatDoorW.PrintWords Go.Proofs.YtdfkbiffdcfnpaaGreatDoorW.PrintLast Go.Proofs.YtdfkbiffdcfnpaaGreatDoorW.PrintMore
set_option linter.unusedVariables false
set_option linter.unusedSimpArgs false
theorem orders_same (a : List SO) (ha : a.length ≤ 1000) : ∀ (d i k : Nat), i + d = a.length → d < k → remontoirkeep_Orders.l0 k a a (i : Int) = some true := by
  intro d
  induction d with
  | zero =>
    intro i k hd hk
    obtain ⟨k, rfl⟩ : ∃ q, k = q + 1 := ⟨k - 1, by omega⟩
    rw [remontoirkeep_Orders.l0, if_neg (by omega)]
  | succ d ih =>
    intro i k hd hk
    obtain ⟨k, rfl⟩ : ∃ q, k = q + 1 := ⟨k - 1, by omega⟩
    rw [remontoirkeep_Orders.l0, if_pos (by omega), if_pos (by omega), if_pos (by omega), if_neg (by simp), w64s (by omega)]
    exact ih (i + 1) k (by omega) (by omega)
theorem orders_refl (a : List SO) (ha : a.length ≤ 1000) (k : Nat) (hk : a.length < k) : remontoirkeep_Orders.f k a a = some true := by
  unfold remontoirkeep_Orders.f
  rw [if_pos rfl]
  exact orders_same a ha a.length 0 k (by omega) hk
theorem ints_same (a : List Int) (ha : a.length ≤ 1000) : ∀ (d i k : Nat), i + d = a.length → d < k → remontoirkeep_Ints.l0 k a a (i : Int) = some true := by
  intro d
  induction d with
  | zero =>
    intro i k hd hk
    obtain ⟨k, rfl⟩ : ∃ q, k = q + 1 := ⟨k - 1, by omega⟩
    rw [remontoirkeep_Ints.l0, if_neg (by omega)]
  | succ d ih =>
    intro i k hd hk
    obtain ⟨k, rfl⟩ : ∃ q, k = q + 1 := ⟨k - 1, by omega⟩
    rw [remontoirkeep_Ints.l0, if_pos (by omega), if_pos (by omega), if_pos (by omega), if_pos rfl, w64s (by omega)]
    exact ih (i + 1) k (by omega) (by omega)
theorem ints_refl (a : List Int) (ha : a.length ≤ 1000) (k : Nat) (hk : a.length < k) : remontoirkeep_Ints.f k a a = some true := by
  unfold remontoirkeep_Ints.f
  rw [if_pos rfl]
  exact ints_same a ha a.length 0 k (by omega) hk
theorem jobsL_eq (l : List O5) : jobsL l = jset ((keptL 1 l).map (·.2.1)) := rfl
theorem jset_nil : jset [] = [] := List.eq_nil_iff_forall_not_mem.2 (fun x h => by rw [jset_mem] at h; cases h)
theorem jset_one (x : Int) : jset [x] = [x] := by
  have := jset_new [] x (by simp)
  rw [List.nil_append, jset_nil] at this
  obtain ⟨y, hy⟩ := List.length_eq_one_iff.1 this
  have : x ∈ jset [x] := (jset_mem _ _).2 (by simp)
  rw [hy] at this ⊢
  rw [List.mem_singleton.1 this]
def wkN : List SN := [⟨3, 0, 3, 0, ⟨#[]⟩⟩, ⟨8, 0, 0, 1, ⟨#[80, 84, 57, 83]⟩⟩]
def wkE : List SE := [⟨2, 0, 1, 5⟩, ⟨1, 0, 0, 0⟩, ⟨3, 0, 2, 5⟩, ⟨4, 0, 0, 5⟩]
theorem wk_of : ofL wkN wkE = [⟨1, 5, 1, 3, 0⟩, ⟨2, 5, 2, 0, 9⟩, ⟨3, 5, 0, 0, 0⟩] := by
  have h : tkOf wkN 2 = 9 := by decide
  have hc : clOf wkN 1 = 3 := by decide
  simp [ofL, ofE, wkE, h, hc]
theorem wakes_f (k : Nat) (hk : 200 ≤ k) : remontoirlaw27_wakes.f k = some true := by
  have h1 := of_f (nm := ⟨#[]⟩) (nodes := wkN) (flows := []) (l := wkE) (by decide) (by decide) (by decide) k (by show 4 + 101 ≤ k; omega)
  rw [wk_of] at h1
  have e : ∀ k, orders_Of.f k ⟨#[]⟩ [⟨3, 0, 3, 0, ⟨#[]⟩⟩, ⟨8, 0, 0, 1, ⟨#[80, 84, 57, 83]⟩⟩] [] [⟨2, 0, 1, 5⟩, ⟨1, 0, 0, 0⟩, ⟨3, 0, 2, 5⟩, ⟨4, 0, 0, 5⟩] = orders_Of.f k ⟨#[]⟩ wkN [] wkE := fun _ => rfl
  have j0 : orders_Jobs.f [⟨1, 5, 1, 3, 0⟩, ⟨2, 5, 2, 0, 9⟩, ⟨3, 5, 0, 0, 0⟩] = some [] := by
    unfold orders_Jobs.f
    rw [if_pos (by decide), jobsL_eq]
    have : (keptL 1 (List.map o5 [⟨1, 5, 1, 3, 0⟩, ⟨2, 5, 2, 0, 9⟩, ⟨3, 5, 0, 0, 0⟩])).map (·.2.1) = [] := by decide
    rw [this, jset_nil]
  have j1 : orders_Jobs.f [⟨1, 5, 1, 3, 0⟩, ⟨2, 5, 2, 0, 9⟩] = some [5] := by
    unfold orders_Jobs.f
    rw [if_pos (by decide), jobsL_eq]
    have : (keptL 1 (List.map o5 [⟨1, 5, 1, 3, 0⟩, ⟨2, 5, 2, 0, 9⟩])).map (·.2.1) = [5] := by decide
    rw [this, jset_one]
  have t1 : ∃ x, orders_Timers.f [⟨1, 5, 1, 3, 0⟩, ⟨2, 5, 2, 0, 9⟩] = some [x] := ⟨_, by
    unfold orders_Timers.f
    rw [if_pos (by decide)]
    rfl⟩
  obtain ⟨x, t1⟩ := t1
  unfold remontoirlaw27_wakes.f
  rw [e, h1]
  simp [rd_T76, j0, j1, t1]
end Go.Proofs.YtdfkbiffdcfnpaaGreatDoor.H
/- The document's orders, as printed, are those of orders.Of. -/
namespace Go.Proofs.YtdfkbiffdcfnpaaGreatDoor.H
open Go.RowKit Go.HK Go.Lib Go.Proofs.YtdfkbiffdcfnpaaGreatDoorW.PrintWords Go.Proofs.YtdfkbiffdcfnpaaGreatDoorW.PrintLast Go.Proofs.YtdfkbiffdcfnpaaGreatDoorW.PrintMore
set_option linter.unusedVariables false
set_option linter.unusedSimpArgs false
/-- A text that is a duration is no cycle. -/
theorem sp_no_cy (t : List UInt8) (h : (spParse t).2 = 0) : (cyParse t).2.2 = 2 := by
  cases t with
  | nil => rfl
  | cons b s =>
    show (if b = 82 then _ else ((0, 0, 2) : Int × Nat × Int)).2.2 = 2
    by_cases c : b = 82
    · exfalso
      subst c
      have : spParse (82 :: s) = (0, 2) := by
        show (if (82 : UInt8) = 80 then (if s.headD 0 = 84 then spTime 0 s else spDate s) else (0, 2)) = (0, 2)
        rw [if_neg (by decide)]
      rw [this] at h
      exact absurd h (by decide)
    · rw [if_neg c]
theorem once_f (t : ByteArray) (ht : t.size ≤ 80) (k : Nat) (hk : 200 ≤ k) : remontoirref18_once.f k t = some (if (spParse t.data.toList).2 = 0 ∧ (spParse t.data.toList).1 ≠ 0 then (1, ((spParse t.data.toList).1 : Int), true) else (0, 0, false)) := by
  unfold remontoirref18_once.f
  rw [ref02_f t (by omega) k (by omega), Option.bind_some]
  generalize spParse t.data.toList = p
  obtain ⟨p1, p2⟩ := p
  unfold sI
  dsimp only
  by_cases c : p2 = 0
  · rw [if_pos c]
    by_cases c2 : p1 = 0
    · have c2' : ((p1 : Nat) : Int) = 0 := by rw [c2]; rfl
      rw [if_pos c2', if_neg (fun q => q.2 c2)]
    · have c2' : ¬ ((p1 : Nat) : Int) = 0 := fun q => c2 (by exact_mod_cast q)
      rw [if_neg c2', if_pos ⟨c, c2⟩]
  · rw [if_neg c, if_neg (fun q => c q.1)]
theorem wm1 {nodes : List SN} {n : Int} (h1 : 1 ≤ n) (h2 : n ≤ (nodes.length : Int)) (h3 : nodes.length ≤ 1000) : wrap64 (n - 1) = n - 1 := by unfold wrap64; omega
theorem node_rd {nodes : List SN} {n : Int} (h1 : 1 ≤ n) (h2 : n ≤ (nodes.length : Int)) : on5 (rd_T86 nodes (n - 1)) = nodeAt nodes n := by
  unfold nodeAt kindOf rd_T86
  rw [List.length_map, if_pos ⟨h1, h2⟩]
  have e : (n - 1).toNat = n.toNat - 1 := by omega
  rw [e, List.getD_eq_getElem?_getD, List.getD_eq_getElem?_getD, List.getElem?_map, List.getElem?_eq_getElem (by omega)]
  rfl
theorem is_f {nm : ByteArray} {nodes : List SN} {flows : List SF} (n : Int) : remontoirref18_Is.f nm nodes flows n = some (decide (1 ≤ n ∧ n ≤ (nodes.length : Int))) := by
  unfold remontoirref18_Is.f
  by_cases c : n ≥ 1
  · rw [if_pos c]
    by_cases c2 : n ≤ (nodes.length : Int)
    · rw [decide_eq_true c2, decide_eq_true ⟨c, c2⟩]
    · rw [decide_eq_false c2, decide_eq_false (fun q => c2 q.2)]
  · rw [if_neg c, decide_eq_false (fun q => c q.1)]
theorem kind_f {nm : ByteArray} {nodes : List SN} {flows : List SF} (hn : nodes.length ≤ 1000) (n : Int) : remontoirref18_Kind.f nm nodes flows n = some (nodeAt nodes n).1 := by
  unfold remontoirref18_Kind.f
  rw [is_f, Option.bind_some]
  by_cases c : 1 ≤ n ∧ n ≤ (nodes.length : Int)
  · have g1 : 0 ≤ n - 1 := by omega
    have g2 : n - 1 < (nodes.length : Int) := by omega
    rw [decide_eq_true c, if_pos rfl, wm1 c.1 c.2 hn, if_pos g1, if_pos g2, ← node_rd c.1 c.2]
    rfl
  · rw [decide_eq_false c, if_neg (by decide)]
    unfold nodeAt kindOf
    rw [List.length_map, if_neg c]
theorem rtime_f {nm : ByteArray} {nodes : List SN} {flows : List SF} (hn : nodes.length ≤ 1000) (h : ∀ x ∈ nodes, x.f4.size ≤ 80) (n : Int) (k : Nat) (hk : 1000 ≤ k) : ∃ N b, remontoirref18_Time.f k nm nodes flows n = some (N, (tkOf nodes n : Int), b) := by
 obtain ⟨k, rfl⟩ : ∃ q, k = q + 1 + 1 := ⟨k - 2, by omega⟩
 have ht := nodeAt_time h n
 unfold remontoirref18_Time.f
 rw [kind_f hn, Option.bind_some]
 by_cases c : 1 ≤ n ∧ n ≤ (nodes.length : Int)
 ·have g1 : 0 ≤ n - 1 := by omega
  have g2 : n - 1 < (nodes.length : Int) := by omega
  have hw := wm1 c.1 c.2 hn
  have hrd : (rd_T86 nodes (n - 1)).f4 = (nodeAt nodes n).2.2.2.2 := by rw [← node_rd c.1 c.2]; rfl
  unfold tkOf
  generalize nodeAt nodes n = x at *
  obtain ⟨kd, x2, x3, x4, t⟩ := x
  dsimp only at hrd ht ⊢
  have ho := once_f t ht (k + 1) (by omega)
  have hcy := ref03_f t (by omega) k (by omega)
  have hno := sp_no_cy t.data.toList
  have key : (kd = 4 ∨ kd = 8 ∨ kd = 9) → ∃ N b, remontoirref18_Time.j0 (k + 1 + 1) n kd false nm nodes flows = some (N, (grTicks kd t.data.toList : Int), b) := by
   intro hkd
   rw [remontoirref18_Time.j0, if_neg (by decide), hw, if_pos g1, if_pos g2, hrd, ho, Option.bind_some]
   unfold grTicks grWaits
   rw [if_pos hkd]
   generalize spParse t.data.toList = p at *
   generalize cyParse t.data.toList = q at *
   obtain ⟨p1, p2⟩ := p
   obtain ⟨q1, q2, q3⟩ := q
   dsimp only at hno ⊢
   by_cases d1 : p2 = 0
   ·rw [if_pos d1]
    by_cases d2 : p1 = 0
    ·rw [if_neg (show ¬ (p2 = 0 ∧ p1 ≠ 0) from fun z => z.2 d2)]
     dsimp only
     rw [if_neg (by decide)]
     have hf : decide (0 < p1) = false := decide_eq_false (by omega)
     rw [hf, if_neg (by decide), remontoirref18_Time.j1]
     by_cases d3 : kd = 9
     ·have : (kd != 9) = false := by rw [d3]; rfl
      rw [this, if_neg (by decide), hcy, Option.bind_some]
      unfold sI3
      dsimp only
      have hq3 : ¬ q3 = 0 := by rw [hno d1]; decide
      rw [if_neg hq3]
      exact ⟨0, false, rfl⟩
     ·have : (kd != 9) = true := bne_iff_ne.2 d3
      rw [this, if_pos rfl]
      exact ⟨0, false, rfl⟩
    ·rw [if_pos (show p2 = 0 ∧ p1 ≠ 0 from ⟨d1, d2⟩)]
     dsimp only
     have hf : decide (0 < p1) = true := decide_eq_true (by omega)
     rw [if_pos rfl, hf, if_pos rfl, remontoirref18_Time.j1, if_pos rfl]
     exact ⟨1, true, rfl⟩
   ·rw [if_neg d1, if_neg (show ¬ (p2 = 0 ∧ p1 ≠ 0) from fun z => d1 z.1)]
    dsimp only
    rw [if_neg (by decide), remontoirref18_Time.j1]
    by_cases d3 : kd = 9
    ·have : (kd != 9) = false := by rw [d3]; rfl
     rw [this, if_neg (by decide), hcy, Option.bind_some]
     unfold sI3
     dsimp only
     by_cases d4 : q3 = 0
     ·rw [if_pos d4]
      by_cases d5 : q1 > 9
      ·rw [if_pos d5, if_pos (show kd ≠ 9 ∨ q3 ≠ 0 ∨ 9 < q1 from .inr (.inr d5)), if_neg (by decide)]
       exact ⟨0, false, rfl⟩
      ·rw [if_neg d5, if_neg (show ¬ (kd ≠ 9 ∨ q3 ≠ 0 ∨ 9 < q1) by rintro (z | z | z); exact z d3; exact z d4; exact d5 z), if_pos rfl]
       exact ⟨q1, true, rfl⟩
     ·rw [if_neg d4, if_pos (show kd ≠ 9 ∨ q3 ≠ 0 ∨ 9 < q1 from .inr (.inl d4)), if_neg (by decide)]
      exact ⟨0, false, rfl⟩
    ·have : (kd != 9) = true := bne_iff_ne.2 d3
     rw [this, if_pos rfl, if_pos (show kd ≠ 9 ∨ q3 ≠ 0 ∨ 9 < q1 from .inl d3), if_neg (by decide)]
     exact ⟨0, false, rfl⟩
  by_cases d4 : kd = 4
  ·rw [if_pos d4]; exact key (.inl d4)
  ·rw [if_neg d4]
   by_cases d8 : kd = 8
   ·rw [if_pos d8]; exact key (.inr (.inl d8))
   ·rw [if_neg d8]
    by_cases d9 : kd = 9
    ·have : (kd != 9) = false := by rw [d9]; rfl
     rw [this]
     exact key (.inr (.inr d9))
    ·have : (kd != 9) = true := bne_iff_ne.2 d9
     rw [this, remontoirref18_Time.j0, if_pos rfl]
     refine ⟨0, false, ?_⟩
     have : grTicks kd t.data.toList = 0 := by
      have hw0 : grWaits kd t.data.toList = (0, 0, false) := by
       unfold grWaits
       rw [if_neg (by rintro (z | z | z); exact d4 z; exact d8 z; exact d9 z)]
      unfold grTicks
      rw [hw0]
      rfl
     rw [this]
     rfl
 ·have hx : nodeAt nodes n = nx0 := by unfold nodeAt kindOf; rw [List.length_map, if_neg c]
  unfold tkOf
  rw [hx]
  rw [if_neg (by decide), if_neg (by decide)]
  have : ((nx0.1 : Int) != 9) = true := by decide
  rw [this, remontoirref18_Time.j0, if_pos rfl]
  exact ⟨0, false, rfl⟩
theorem rof_l0 {nm : ByteArray} {nodes : List SN} {flows : List SF} {l : List SE} (hn : nodes.length ≤ 1000) (h : ∀ x ∈ nodes, x.f4.size ≤ 80) (hl : l.length ≤ 1000) :
  ∀ (d i k : Nat) (out : List SO), i + d = l.length → d + 1001 ≤ k → out.length ≤ i → remontoirref27_Of.l0 k l out (i : Int) nm nodes flows = some (out ++ ofL nodes (l.drop i)) := by
 intro d
 induction d with
 | zero =>
  intro i k out hd hk ho
  obtain ⟨k, rfl⟩ : ∃ q, k = q + 1 := ⟨k - 1, by omega⟩
  rw [remontoirref27_Of.l0, if_neg (by omega), List.drop_of_length_le (by omega)]
  simp [ofL]
 | succ d ih =>
  intro i k out hd hk ho
  obtain ⟨k, rfl⟩ : ∃ q, k = q + 1 := ⟨k - 1, by omega⟩
  have hi : i < l.length := by omega
  have hr : rd_T83 l (i : Int) = l[i] := by
   unfold rd_T83
   rw [Int.toNat_natCast, List.getD_eq_getElem?_getD, List.getElem?_eq_getElem hi]
   rfl
  have g1 : (i : Int) < (l.length : Int) := by omega
  have g2 : (0 : Int) ≤ (i : Int) := by omega
  have g3 : out.length < 3518437208883 := by omega
  have e0 : ofL nodes (l.drop i) = ofE nodes l[i] ++ ofL nodes (l.drop (i + 1)) := by rw [List.drop_eq_getElem_cons hi]; unfold ofL; rw [List.flatMap_cons]
  have hrec : ∀ q : List SO, q.length ≤ 1 → remontoirref27_Of.l0 k l (out ++ q) ((i + 1 : Nat) : Int) nm nodes flows = some (out ++ q ++ ofL nodes (l.drop (i + 1))) := fun q hq => ih (i + 1) k _ (by omega) (by omega) (by rw [List.length_append]; omega)
  rw [e0, ← List.append_assoc, remontoirref27_Of.l0, if_pos g1, if_pos g2, hr, w64s (by omega)]
  generalize l[i] = e at *
  by_cases c2 : e.f0 = 2
  ·have e1 : ofE nodes e = [⟨1, e.f3, e.f2, clOf nodes e.f2, 0⟩] := by unfold ofE; rw [if_pos c2]
   rw [if_pos c2, is_f, Option.bind_some, e1]
   by_cases c : 1 ≤ e.f2 ∧ e.f2 ≤ (nodes.length : Int)
   ·have k1 : 0 ≤ e.f2 - 1 := by omega
    have k2 : e.f2 - 1 < (nodes.length : Int) := by omega
    have k3 : (rd_T86 nodes (e.f2 - 1)).f2 = clOf nodes e.f2 := by unfold clOf; rw [← node_rd c.1 c.2]; rfl
    rw [decide_eq_true c, if_pos rfl, wm1 c.1 c.2 hn, if_pos k1, if_pos k2, if_pos g3, k3]
    exact hrec _ (by simp)
   ·have k3 : clOf nodes e.f2 = 0 := by unfold clOf nodeAt kindOf; rw [List.length_map, if_neg c]
    rw [decide_eq_false c, if_neg (by decide), if_pos g3, k3]
    exact hrec _ (by simp)
  ·rw [if_neg c2]
   by_cases c3 : e.f0 = 3
   ·have e1 : ofE nodes e = [⟨2, e.f3, e.f2, 0, (tkOf nodes e.f2 : Int)⟩] := by unfold ofE; rw [if_neg c2, if_pos c3]
    obtain ⟨N, b, ht⟩ := rtime_f (nm := nm) (flows := flows) hn h e.f2 k (by omega)
    rw [if_pos c3, ht, Option.bind_some, e1, if_pos g3]
    exact hrec _ (by simp)
   ·rw [if_neg c3]
    by_cases c4 : e.f0 = 4
    ·have e1 : ofE nodes e = [⟨3, e.f3, 0, 0, 0⟩] := by unfold ofE; rw [if_neg c2, if_neg c3, if_pos c4]
     rw [if_pos c4, if_pos g3, e1]
     exact hrec _ (by simp)
    ·have e1 : ofE nodes e = [] := by unfold ofE; rw [if_neg c2, if_neg c3, if_neg c4]
     have := hrec [] (by simp)
     rw [List.append_nil] at this
     rw [if_neg c4, e1, List.append_nil]
     exact this
theorem rof_f {nm : ByteArray} {nodes : List SN} {flows : List SF} {l : List SE} (hn : nodes.length ≤ 1000) (h : ∀ x ∈ nodes, x.f4.size ≤ 80) (hl : l.length ≤ 1000) (k : Nat) (hk : l.length + 1001 ≤ k) : remontoirref27_Of.f k nm nodes flows l = some (ofL nodes l) := by
  unfold remontoirref27_Of.f
  exact rof_l0 hn h hl l.length 0 k [] (by omega) (by omega) (Nat.le_refl _)
theorem rtim_l0 {l : List SO} (hl : l.length ≤ 1000) : ∀ (d i k : Nat) (out : List SO), i + d = l.length → d + l.length + 10 ≤ k → out.length ≤ i → remontoirref27_Timers.l0 k l out (i : Int) = some (out ++ refK 2 (l.drop i)) := by
  intro d
  induction d with
  | zero =>
    intro i k out hd hk ho
    obtain ⟨k, rfl⟩ : ∃ q, k = q + 1 := ⟨k - 1, by omega⟩
    rw [remontoirref27_Timers.l0, if_neg (by omega), List.drop_of_length_le (by omega)]
    simp [refK]
  | succ d ih =>
    intro i k out hd hk ho
    obtain ⟨k, rfl⟩ : ∃ q, k = q + 1 := ⟨k - 1, by omega⟩
    have hi : i < l.length := by omega
    have hr : rd_T76 l (i : Int) = l[i] := by
      unfold rd_T76
      rw [Int.toNat_natCast, List.getD_eq_getElem?_getD, List.getElem?_eq_getElem hi]
      rfl
    have g1 : (i : Int) < (l.length : Int) := by omega
    have g2 : (0 : Int) ≤ (i : Int) := by omega
    have g3 : out.length < 3518437208883 := by omega
    have ht := taken_f hl hi k (by omega)
    have hrec0 := ih (i + 1) k out (by omega) (by omega) (by omega)
    have hrec1 := fun x : SO => ih (i + 1) k (out ++ [x]) (by omega) (by omega) (by rw [List.length_append]; show out.length + 1 ≤ i + 1; omega)
    rw [remontoirref27_Timers.l0, if_pos g1, if_pos g2, hr, w64s (by omega), List.drop_eq_getElem_cons hi]
    generalize l[i] = x at *
    rw [show refK 2 (x :: l.drop (i + 1)) = if x.f0 = 2 ∧ tkn (l.drop (i + 1)) x.f1 = false then x :: refK 2 (l.drop (i + 1)) else refK 2 (l.drop (i + 1)) from rfl]
    by_cases c : x.f0 = 2
    · rw [if_pos c, ht, Option.bind_some]
      by_cases c2 : tkn (l.drop (i + 1)) x.f1 = true
      · rw [if_pos c2, if_neg (fun q => by rw [c2] at q; exact absurd q.2 (by decide))]
        exact hrec0
      · have c2' : tkn (l.drop (i + 1)) x.f1 = false := by cases hh : tkn (l.drop (i + 1)) x.f1; rfl; exact absurd hh c2
        rw [if_neg c2, if_pos g3, if_pos ⟨c, c2'⟩]
        have := hrec1 x
        rw [List.append_assoc] at this
        exact this
    · rw [if_neg c, if_neg (fun q => c q.1)]
      exact hrec0
theorem rtim_f {l : List SO} (hl : l.length ≤ 1000) (k : Nat) (hk : 2 * l.length + 10 ≤ k) : remontoirref27_Timers.f k l = some (refK 2 l) := by
  unfold remontoirref27_Timers.f
  exact rtim_l0 hl l.length 0 k [] (by omega) (by omega) (Nat.le_refl _)
end Go.Proofs.YtdfkbiffdcfnpaaGreatDoor.H
/- OrdersTell. -/
namespace Go.Proofs.YtdfkbiffdcfnpaaGreatDoor.Pure
open Go.RowKit Go.Proofs.YtdfkbiffdcfnpaaGreatDoor.H Go.Proofs.YtdfkbiffdcfnpaaGreatDoorW.PrintWords Go.Proofs.YtdfkbiffdcfnpaaGreatDoorW.PrintLast Go.Proofs.YtdfkbiffdcfnpaaGreatDoorW.PrintMore
set_option linter.unusedVariables false
set_option linter.unusedSimpArgs false
theorem tjset_len (zs : List Int) : (jset zs).length ≤ zs.length := by
  unfold jset
  have := compact_len (zs.mergeSort fun x y => decide (x ≤ y))
  rwa [List.length_mergeSort] at this
theorem refK_len (kd : Int) : ∀ l : List SO, (refK kd l).length ≤ l.length
  | [] => Nat.le_refl _
  | x :: l => by
    have := refK_len kd l
    rw [show refK kd (x :: l) = if x.f0 = kd ∧ tkn l x.f1 = false then x :: refK kd l else refK kd l from rfl]
    split
    · simp; omega
    · simp; omega
theorem tell_at {nm : ByteArray} {nodes : List SN} {flows : List SF} (l : List SE) (o : List SO) (k : Nat) (hk : 3000 ≤ k) : remontoirlaw27_OrdersTell.f k nm nodes flows l o = some true := by
  have j1 : ∀ k, 500 ≤ k → remontoirlaw27_OrdersTell.j0 k l o true nm nodes flows = some true := by
    intro k hk
    obtain ⟨k, rfl⟩ : ∃ z, k = z + 1 := ⟨k - 1, by omega⟩
    rw [remontoirlaw27_OrdersTell.j0, if_pos rfl, wakes_f k (by omega), Option.bind_some]
  unfold remontoirlaw27_OrdersTell.f
  obtain ⟨bb, hb, hl⟩ := light_f (nm := nm) (nodes := nodes) (flows := flows) k (by omega)
  rw [hb, Option.bind_some]
  by_cases c0 : bb = true
  · obtain ⟨hn, h⟩ := hl c0
    rw [if_pos c0]
    by_cases c1 : (l.length : Int) > 80
    · rw [if_pos c1]
      exact j1 k (by omega)
    · rw [if_neg c1]
      by_cases c2 : (o.length : Int) > 80
      · rw [decide_eq_true c2]
        exact j1 k (by omega)
      · rw [decide_eq_false c2]
        obtain ⟨k, rfl⟩ : ∃ q, k = q + 1 := ⟨k - 1, by omega⟩
        have g1 := of_f (nm := nm) (flows := flows) (l := l) (by omega : nodes.length ≤ 1000) h (by omega) k (by omega)
        have g2 := rof_f (nm := nm) (flows := flows) (l := l) (by omega : nodes.length ≤ 1000) h (by omega) k (by omega)
        have hol := ofL_len nodes l
        have g3 := orders_refl (ofL nodes l) (by omega) k (by omega)
        have e1 : orders_Jobs.f o = some (jobsL (o.map o5)) := by unfold orders_Jobs.f; rw [if_pos (by omega)]
        have e2 : remontoirref27_Jobs.f o = some (jobsL (o.map o5)) := by unfold remontoirref27_Jobs.f; rw [if_pos (by omega)]
        have hj : (jobsL (o.map o5)).length ≤ 80 := by
          rw [jobsL_eq]
          have h1 := tjset_len ((keptL 1 (o.map o5)).map (·.2.1))
          have h2 := keptL_len 1 (o.map o5) (o.map o5).length (Nat.le_refl _)
          rw [List.take_length] at h2
          rw [List.length_map] at h1 h2
          omega
        have g4 := ints_refl (jobsL (o.map o5)) (by omega) k (by omega)
        have e3 : orders_Timers.f o = some (refK 2 o) := by
          unfold orders_Timers.f
          rw [if_pos (by omega), keptL_ref (by decide), List.map_map]
          congr 1
          have : (s5 ∘ o5) = (id : SO → SO) := rfl
          rw [this, List.map_id]
        have g5 := rtim_f (l := o) (by omega) k (by omega)
        have hrl := refK_len 2 o
        have g6 := orders_refl (refK 2 o) (by omega) k (by omega)
        have g7 := wakes_f k (by omega)
        rw [remontoirlaw27_OrdersTell.j0, if_neg (by decide), g1, Option.bind_some, g2, Option.bind_some, g3, Option.bind_some, if_pos rfl, e1, Option.bind_some, e2, Option.bind_some, g4, Option.bind_some, if_pos rfl, e3, Option.bind_some, g5, Option.bind_some, g6, Option.bind_some, if_pos rfl, g7, Option.bind_some]
  · rw [if_neg c0]
    exact j1 k (by omega)
theorem OrdersTell (nm : ByteArray) (nodes : List SN) (flows : List SF) (l : List SE) (o : List SO) (m1 : l.length ≤ Go.maxLen) (w1 : ∀ y ∈ l, True) (m2 : o.length ≤ Go.maxLen) (w2 : ∀ y ∈ o, True) : ∃ k, remontoirlaw27_OrdersTell.f k nm nodes flows l o = some true := ⟨3000, tell_at l o 3000 (Nat.le_refl _)⟩
end Go.Proofs.YtdfkbiffdcfnpaaGreatDoor.Pure
/- A definition, an event, as parameters; rows of events and orders. -/
namespace Go.Proofs.YtdfkbiffdcfnpaaGreatDoor.H
open Go.RowKit Go.Deep Go.ChangeShapes Go.WideShapes Go.Proofs.YtdfkbiffdcfnpaaGreatDoorW.PrintWords
set_option linter.unusedVariables false
set_option maxRecDepth 100000
section
variable {K : Type} {enc : TypeId × Value → K} {W : World} {b : Nat} {spare : Nat → Bool} {held : Bool}
theorem opensO : HO.Opens enc Tryz.prog W b spare held 76 k76 (fun _ => True) :=
  HO.Opens.imp (HO.opens_struct5 (fun x : S76 => (x.f0, x.f1, x.f2, x.f3, x.f4)) S76.mk (fun _ _ _ _ _ => rfl) Tryz.underlying76 rfl rfl rfl rfl rfl (by kernel_rfl) (by kernel_rfl) (by kernel_rfl) (by kernel_rfl) (by kernel_rfl) (by kernel_rfl) (HO.opens_int (by kernel_rfl)) (HO.opens_int (by kernel_rfl)) (HO.opens_int (by kernel_rfl)) (HO.opens_int (by kernel_rfl)) (HO.opens_int (by kernel_rfl))) (fun _ _ => trivial)
theorem opensE : HO.Opens enc Tryz.prog W b spare held 83 k83 (fun _ => True) :=
  HO.Opens.imp (HO.opens_struct4 (fun x : S83 => (x.f0, x.f1, x.f2, x.f3)) S83.mk (fun _ _ _ _ => rfl) Tryz.underlying83 rfl rfl rfl rfl (by kernel_rfl) (by kernel_rfl) (by kernel_rfl) (by kernel_rfl) (by kernel_rfl) (HO.opens_int (by kernel_rfl)) (HO.opens_int (by kernel_rfl)) (HO.opens_int (by kernel_rfl)) (HO.opens_int (by kernel_rfl))) (fun _ _ => trivial)
theorem opensN : HO.Opens enc Tryz.prog W b spare held 86 k86 (fun _ => True) :=
  HO.Opens.imp (HO.opens_struct5 (fun x : S86 => (x.f0, x.f1, x.f2, x.f3, x.f4)) S86.mk (fun _ _ _ _ _ => rfl) Tryz.underlying86 rfl rfl rfl rfl rfl (by kernel_rfl) (by kernel_rfl) (by kernel_rfl) (by kernel_rfl) (by kernel_rfl) (by kernel_rfl) (HO.opens_int (by kernel_rfl)) (HO.opens_int (by kernel_rfl)) (HO.opens_int (by kernel_rfl)) (HO.opens_int (by kernel_rfl)) (HO.opens_string (by kernel_rfl))) (fun _ _ => trivial)
theorem opensF : HO.Opens enc Tryz.prog W b spare held 51 k51 (fun _ => True) :=
  HO.Opens.imp (HO.opens_struct5 (fun x : S51 => (x.f0, x.f1, x.f2, x.f3, x.f4)) S51.mk (fun _ _ _ _ _ => rfl) Tryz.underlying51 rfl rfl rfl rfl rfl (by kernel_rfl) (by kernel_rfl) (by kernel_rfl) (by kernel_rfl) (by kernel_rfl) (by kernel_rfl) (HO.opens_int (by kernel_rfl)) (HO.opens_int (by kernel_rfl)) (HO.opens_int (by kernel_rfl)) (HO.opens_int (by kernel_rfl)) (HO.opens_string (by kernel_rfl))) (fun _ _ => trivial)
end
theorem open_def {K : Type} {enc : TypeId × Value → K} {W W2 : World} {r : Reach} {b b2 : Nat} {spare : Nat → Bool} {held : Bool} {v : Value} {d : DataW K} {p : List MemPlace} (hv : Value.okWide Tryz.prog W2 r b2 25 v) (h : DataW.Trod enc Tryz.prog W b spare held 25 v d p) :
    ∃ (nm : ByteArray) (A : Option Addr) (c : Nat) (nodes : List S86) (A' : Option Addr) (c' : Nat) (flows : List S51), v = .agg #[.string nm, .slice A nodes.length c, .slice A' flows.length c'] ∧ Kd.C k86 W A nodes.length nodes ∧ nodes.length ≤ c ∧ Kd.C k51 W A' flows.length flows ∧ flows.length ≤ c' := by
  simp only [Value.okWide, Tryz.underlying25] at hv
  obtain ⟨cs, rfl, hsz, _⟩ := hv
  obtain ⟨fuel, hf⟩ := h
  have O := HO.opens_struct3 (enc := enc) (P := Tryz.prog) (w := W) (base := b) (spare := spare) (held := held) (t := 25) (fun x : ByteArray × List S86 × List S51 => x) (fun a b c => (a, b, c)) (fun _ _ _ => rfl) Tryz.underlying25 rfl rfl rfl (by kernel_rfl) (by kernel_rfl) (by kernel_rfl) (by kernel_rfl) (HO.opens_string (by kernel_rfl)) (HO.opens_slice Tryz.underlying22 (by kernel_rfl) opensN) (HO.opens_slice Tryz.underlying23 (by kernel_rfl) opensF)
  obtain ⟨⟨nm, nodes, flows⟩, hK, _⟩ := O _ _ _ hf
  have e : (Value.cells (.agg cs)).toList = cs.toList := by simp [Value.cells]
  rw [e] at hK
  obtain ⟨c1, c2, hc, h1, c3, c4, h2, h3, h4⟩ := hK
  obtain ⟨A, c, rfl, hc3, hA⟩ := h3
  obtain ⟨A', c', rfl, hc4, hA'⟩ := h4
  refine ⟨nm, A, c, nodes, A', c', flows, ?_, hA, hc3, hA', hc4⟩
  refine congrArg Value.agg ?_
  apply Array.toList_inj.1
  rw [hc, h2]
  have h1' : c1 = [.string nm] := h1
  rw [h1']
  rfl
end Go.Proofs.YtdfkbiffdcfnpaaGreatDoor.H
