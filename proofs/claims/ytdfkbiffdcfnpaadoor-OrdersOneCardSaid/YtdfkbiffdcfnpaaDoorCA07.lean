/- Parts of the proof of LawOrdersOne: words, contracts of the functions, plain laws. -/
import Derived.Test.YtdfkbiffdcfnpaaDoorCA03
import Derived.Test.YtdfkbiffdcfnpaaDoorCA04
import Derived.Test.YtdfkbiffdcfnpaaDoorCA05
import Derived.Test.YtdfkbiffdcfnpaaDoorCA06
import Derived.Test.YtdfkbiffdcfnpaaDoorCA01
import Derived.Test.YtdfkbiffdcfnpaaDoorCA02
import Derived.OpenShut
import Derived.KernelRfl
/- cycle.Parse as printed is cyParse. -/
namespace Go.Proofs.YtdfkbiffdcfnpaaDoor.H
open Go.RowKit Go.HK Go.Lib Go.Proofs.YtdfkbiffdcfnpaaDoorW.PrintWords Go.Proofs.YtdfkbiffdcfnpaaDoorW.PrintLast Go.Proofs.YtdfkbiffdcfnpaaDoorW.PrintMore
set_option linter.unusedVariables false
set_option linter.unusedSimpArgs false
theorem w64s {i : Nat} (h : i < 4611686018427387904) : wrap64 ((i : Int) + 1) = ((i + 1 : Nat) : Int) := by unfold wrap64; omega
theorem bt_sb (s : ByteArray) (k : Nat) : bt s (k : Int) = (sb s k : Int) := by
  unfold bt sb
  have hl := slen s
  rw [Int.toNat_natCast]
  split
  · rename_i h
    rw [List.getD_eq_getElem?_getD, List.getElem?_eq_getElem (by omega)]
    simp
    rfl
  · rename_i h
    rw [List.getD_eq_getElem?_getD, List.getElem?_eq_none (by omega)]
    rfl
theorem hasP_yes {s : ByteArray} {c : UInt8} {l : List UInt8} (h : s.data.toList = c :: l) : stringslite_HasPrefix.f s ⟨#[c]⟩ = some true := by
  have hl := slen s
  rw [h, List.length_cons] at hl
  have h1 : ((⟨#[c]⟩ : ByteArray).size : Int) = 1 := rfl
  unfold stringslite_HasPrefix.f
  rw [h1, if_pos (by omega), if_pos (by omega), if_pos (by omega)]
  congr 1
  have e1 : (s.extract 0 (1 : Int).toNat).toList = [c] := by
    rw [ByteArray.toList_eq, show (1 : Int).toNat = 1 from rfl, sx_take, h]
    rfl
  rw [e1, ByteArray.toList_eq]
  simp
theorem hasP_no {s : ByteArray} {c : UInt8} (h : ∀ l, s.data.toList ≠ c :: l) : stringslite_HasPrefix.f s ⟨#[c]⟩ = some false := by
  have hl := slen s
  have h1 : ((⟨#[c]⟩ : ByteArray).size : Int) = 1 := rfl
  unfold stringslite_HasPrefix.f
  rw [h1]
  by_cases h0 : s.size = 0
  · rw [if_neg (by omega)]
  · rw [if_pos (by omega), if_pos (by omega), if_pos (by omega)]
    congr 1
    rw [ByteArray.toList_eq, show (1 : Int).toNat = 1 from rfl, sx_take, ByteArray.toList_eq]
    cases hd : s.data.toList with
    | nil => rw [hd] at hl; simp at hl; omega
    | cons b l =>
      have : b ≠ c := fun q => h l (by rw [hd, q])
      simp [this]
theorem cutP_yes {s : ByteArray} {c : UInt8} {l : List UInt8} (h : s.data.toList = c :: l) : ∃ t : ByteArray, strings_CutPrefix.f s ⟨#[c]⟩ = some (t, true) ∧ t.data.toList = l ∧ t.size ≤ s.size := by
  have hl := slen s
  rw [h, List.length_cons] at hl
  have h1 : ((⟨#[c]⟩ : ByteArray).size : Int) = 1 := rfl
  refine ⟨s.extract 1 s.size, ?_, by rw [sx_drop, h]; rfl, by rw [ByteArray.size_extract]; omega⟩
  unfold strings_CutPrefix.f stringslite_CutPrefix.f
  rw [hasP_yes h, h1]
  simp only [Option.bind_some, if_true]
  rw [if_pos (by omega), if_pos (by omega)]
  rfl
theorem cutP_no {s : ByteArray} {c : UInt8} (h : ∀ l, s.data.toList ≠ c :: l) : strings_CutPrefix.f s ⟨#[c]⟩ = some (s, false) := by
  unfold strings_CutPrefix.f stringslite_CutPrefix.f
  rw [hasP_no h]
  simp
theorem ixb (c : UInt8) : ∀ l : List UInt8, (Lib.indexByte l c = -1 ∧ c ∉ l) ∨ (∃ k : Nat, Lib.indexByte l c = k ∧ k < l.length ∧ k = (l.takeWhile (fun b => b != c)).length ∧ c ∈ l)
  | [] => .inl ⟨rfl, by simp⟩
  | b :: l => by
    simp only [Lib.indexByte]
    by_cases h : b = c
    · subst h
      refine .inr ⟨0, by simp, by simp, by simp, by simp⟩
    · rcases ixb c l with ⟨e, h1⟩ | ⟨k, e, h1, h2, h3⟩
      · refine .inl ⟨?_, ?_⟩
        · simp [h, e]
        · simp only [List.mem_cons, not_or]; exact ⟨fun q => h q.symm, h1⟩
      · refine .inr ⟨k + 1, ?_, by simp; omega, ?_, by simp [h3]⟩
        · simp [h, e]
          try omega
        · have : (b != c) = true := by simp [h]
          rw [List.takeWhile_cons, if_pos this, List.length_cons, ← h2]
theorem tw_all {p : UInt8 → Bool} : ∀ {l : List UInt8}, (∀ b ∈ l, p b = true) → l.takeWhile p = l ∧ l.dropWhile p = []
  | [], _ => ⟨rfl, rfl⟩
  | b :: l, h => by
    have ih := tw_all (l := l) (fun c hc => h c (by simp [hc]))
    have hb := h b (by simp)
    exact ⟨by rw [List.takeWhile_cons, if_pos hb, ih.1], by rw [List.dropWhile_cons, if_pos hb, ih.2]⟩
theorem tw_take (p : UInt8 → Bool) (l : List UInt8) : l.take (l.takeWhile p).length = l.takeWhile p := (List.prefix_iff_eq_take.1 (List.takeWhile_prefix p)).symm
theorem tw_drop (p : UInt8 → Bool) (l : List UInt8) : l.drop (l.takeWhile p).length = l.dropWhile p := by
  have h := List.takeWhile_append_dropWhile (p := p) (l := l)
  have h2 := List.take_append_drop (l.takeWhile p).length l
  rw [tw_take] at h2
  exact List.append_cancel_left (h2.trans h.symm)
theorem cut_f {s : ByteArray} (c : UInt8) (hs : s.size ≤ 1000) : ∃ a b : ByteArray, strings_Cut.f s ⟨#[c]⟩ = some (a, b, s.data.toList.contains c) ∧ a.data.toList = s.data.toList.takeWhile (fun b => b != c) ∧ b.data.toList = (s.data.toList.dropWhile (fun b => b != c)).drop 1 ∧ a.size ≤ s.size ∧ b.size ≤ s.size := by
  have hl := slen s
  have h1 : ((⟨#[c]⟩ : ByteArray).size : Int) = 1 := rfl
  have h2 : stringslite_Index.f s ⟨#[c]⟩ = some (Lib.indexByte s.data.toList c) := by unfold stringslite_Index.f; rw [if_pos (show (⟨#[c]⟩ : ByteArray).size = 1 from rfl)]; rfl
  unfold strings_Cut.f stringslite_Cut.f
  rw [h2, h1]
  rcases ixb c s.data.toList with ⟨e, hn⟩ | ⟨k, e, hk, hk2, hm⟩
  · refine ⟨s, ⟨#[]⟩, ?_, ?_, ?_, Nat.le_refl _, Nat.zero_le _⟩
    · have hc : s.data.toList.contains c = false := by simpa using hn
      rw [e, hc]
      simp
    · have : ∀ b ∈ s.data.toList, (b != c) = true := fun b hb => by simp; rintro rfl; exact hn hb
      rw [(tw_all this).1]
    · have : ∀ b ∈ s.data.toList, (b != c) = true := fun b hb => by simp; rintro rfl; exact hn hb
      rw [(tw_all this).2]
      rfl
  · have hc : s.data.toList.contains c = true := by simpa using hm
    refine ⟨s.extract 0 k, s.extract (k + 1) s.size, ?_, ?_, ?_, by rw [ByteArray.size_extract]; omega, by rw [ByteArray.size_extract]; omega⟩
    · rw [e, hc]
      simp only [Option.bind_some]
      rw [if_pos (by omega), if_pos (by omega), if_pos (by omega), w64s (by omega), if_pos (by omega), if_pos (by omega)]
      simp
    · rw [sx_take, hk2, tw_take]
    · rw [sx_drop, ← List.drop_drop, hk2, tw_drop]
theorem cy_j2 {k : Nat} {rest num : ByteArray} {b : Bool} (hb : b = decide (num.data.toList.headD 0 = 48)) (hall : ∀ c ∈ num.data.toList, isDg c = true) (h0 : num.data.toList ≠ []) (hn : num.size ≤ 7) (hr : rest.size ≤ 1000) :
    cycle_Parse.j2 (k + 1) rest num b = some (if b = true then (0, 0, 2) else if 1000000 < decV num.data.toList then (0, 0, 3) else if (spParse rest.data.toList).2 ≠ 0 then (0, 0, (spParse rest.data.toList).2) else if (spParse rest.data.toList).1 = 0 then (0, 0, 6) else ((decV num.data.toList : Int), ((spParse rest.data.toList).1 : Int), 0)) := by
  have h1 : strconv_Atoi.f num = some ((decV num.data.toList : Int), none) := by
    unfold strconv_Atoi.f
    rw [if_pos (by omega), atoi_dgs hall h0]
    rfl
  have h2 : span_Parse.f rest = some (((spParse rest.data.toList).1 : Int), (spParse rest.data.toList).2) := by
    unfold span_Parse.f
    rw [if_pos hr]
  rw [cycle_Parse.j2, h1, h2]
  generalize spParse rest.data.toList = p
  obtain ⟨p1, p2⟩ := p
  generalize decV num.data.toList = v
  clear hb hall h0 h1 h2
  by_cases c1 : b = true
  · rw [if_pos c1, if_pos c1]
  · rw [if_neg c1, if_neg c1]
    simp only [Option.bind_some]
    by_cases c2 : 1000000 < v
    · rw [if_pos (by omega), if_pos c2]
    · rw [if_neg (by omega), if_neg c2]
      by_cases c3 : p2 = 0
      · subst c3
        by_cases c4 : p1 = 0
        · subst c4; simp
        · have : ¬ (p1 : Int) = 0 := by omega
          simp [c4, this]
      · simp [c3]
theorem isDg_sb (s : ByteArray) {i : Nat} (h : i < s.size) : isDg (s.data.toList[i]'(by have := slen s; omega)) = decide (48 ≤ sb s i ∧ sb s i ≤ 57) := by
  have hl := slen s
  unfold isDg sb
  rw [List.getD_eq_getElem?_getD, List.getElem?_eq_getElem (by omega)]
  rfl
theorem cy_l0 {rest num : ByteArray} {slash : Bool} (hn : num.size ≤ 1000) (hr : rest.size ≤ 1000) (hne : slash = true → num.data.toList ≠ []) : ∀ (d i k : Nat), i + d = num.size → d + 2 ≤ k → (∀ j, j < i → ∃ h : j < num.data.toList.length, isDg num.data.toList[j] = true) →
    cycle_Parse.l0 k rest num slash (num.size : Int) (i : Int) = some ((cyBody num.data.toList slash rest.data.toList).1, ((cyBody num.data.toList slash rest.data.toList).2.1 : Int), (cyBody num.data.toList slash rest.data.toList).2.2) := by
  have hl := slen num
  intro d
  induction d with
  | zero =>
    intro i k hd hk hall
    obtain ⟨k, rfl⟩ : ∃ q, k = q + 1 + 1 := ⟨k - 2, by omega⟩
    obtain rfl : i = num.size := by omega
    have hA : ∀ c ∈ num.data.toList, isDg c = true := fun c hc => by
      obtain ⟨j, hj, rfl⟩ := List.mem_iff_getElem.1 hc
      obtain ⟨_, h⟩ := hall j (by omega)
      exact h
    have hany : num.data.toList.any (fun b => !isDg b) = false := by
      rw [List.any_eq_false]
      intro c hc
      rw [hA c hc]
      decide
    unfold cycle_Parse.l0
    rw [if_neg (by omega)]
    cases slash with
    | false =>
      rw [if_neg (by decide)]
      have e : cyBody num.data.toList false rest.data.toList = (0, 0, 2) := by
        unfold cyBody
        rw [if_neg (by simp), if_neg (by rw [hany]; decide), if_pos (.inl rfl)]
      rw [e]
      unfold cycle_Parse.j2
      rfl
    | true =>
      have h0 := hne rfl
      have hpos : 0 < num.size := by
        cases hq : num.data.toList with
        | nil => exact absurd hq h0
        | cons c r => rw [hq, List.length_cons] at hl; omega
      rw [if_pos rfl]
      by_cases c1 : 7 < num.size
      · rw [if_pos (by omega)]
        have e : cyBody num.data.toList true rest.data.toList = (0, 0, 2) := by
          unfold cyBody
          rw [if_neg (fun q => h0 q.2), if_neg (by rw [hany]; decide), if_pos (.inr (.inl (by omega)))]
        rw [e]
        unfold cycle_Parse.j2
        rfl
      · rw [if_neg (by omega), if_pos (by omega)]
        have hb : (bt num 0 == 48) = decide (num.data.toList.headD 0 = 48) := by
          have := bt_sb num 0
          rw [show ((0 : Nat) : Int) = 0 from rfl] at this
          rw [this]
          unfold sb
          cases hq : num.data.toList with
          | nil => exact absurd hq h0
          | cons c r =>
            simp only [List.getD_cons_zero, List.headD_cons]
            by_cases hc : c = 48
            · subst hc; rfl
            · have h3 : ¬ ((c.toNat : Int) = 48) := fun q => hc (UInt8.toNat_inj.1 (by show c.toNat = 48; omega))
              rw [beq_eq_false_iff_ne.2 h3]
              simp [hc]
        rw [cy_j2 hb hA h0 (by omega) hr]
        have e : cyBody num.data.toList true rest.data.toList = if (bt num 0 == 48) = true then (0, 0, 2) else if 1000000 < decV num.data.toList then (0, 0, 3) else if (spParse rest.data.toList).2 ≠ 0 then (0, 0, (spParse rest.data.toList).2) else if (spParse rest.data.toList).1 = 0 then (0, 0, 6) else ((decV num.data.toList : Int), (spParse rest.data.toList).1, 0) := by
          unfold cyBody
          rw [if_neg (fun q => h0 q.2), if_neg (by rw [hany]; decide)]
          rw [hb]
          by_cases c2 : num.data.toList.headD 0 = 48
          · rw [if_pos (.inr (.inr c2)), if_pos (decide_eq_true c2)]
          · rw [if_neg (by rintro (q | q | q); cases q; omega; exact c2 q)]
            have hf : ¬ decide (num.data.toList.headD 0 = 48) = true := by simpa using c2
            rw [if_neg hf]
        rw [e]
        congr 1
        split
        · rfl
        · split
          · rfl
          · split
            · rfl
            · split <;> rfl
  | succ d ih =>
    intro i k hd hk hall
    obtain ⟨k, rfl⟩ : ∃ q, k = q + 1 := ⟨k - 1, by omega⟩
    unfold cycle_Parse.l0
    rw [if_pos (by omega), if_pos (by omega), if_pos (by omega), bt_sb]
    have hi : i < num.size := by omega
    have hg := isDg_sb num hi
    by_cases c1 : 48 ≤ sb num i ∧ sb num i ≤ 57
    · rw [if_neg (by omega), if_neg (by omega), w64s (by omega)]
      refine ih (i + 1) k (by omega) (by omega) (fun j hj => ?_)
      by_cases hji : j = i
      · subst hji
        exact ⟨by omega, by rw [hg]; exact decide_eq_true c1⟩
      · exact hall j (by omega)
    · have hany : num.data.toList.any (fun b => !isDg b) = true := by
        rw [List.any_eq_true]
        exact ⟨_, List.getElem_mem (by omega : i < num.data.toList.length), by rw [hg, decide_eq_false c1]; rfl⟩
      have e : cyBody num.data.toList slash rest.data.toList = (0, 0, 2) := by
        unfold cyBody
        rw [if_neg (fun q => hne q.1 q.2), if_pos hany]
      rw [e]
      by_cases c2 : sb num i < 48
      · rw [if_pos (by omega)]; rfl
      · rw [if_neg (by omega), if_pos (by omega)]; rfl
theorem cyc_f (s : ByteArray) (hs : s.size ≤ 1000) (k : Nat) (hk : s.size + 5 ≤ k) : cycle_Parse.f k s = some ((cyParse s.data.toList).1, ((cyParse s.data.toList).2.1 : Int), (cyParse s.data.toList).2.2) := by
  unfold cycle_Parse.f
  by_cases h : ∃ m, s.data.toList = 82 :: m
  · obtain ⟨m, hm⟩ := h
    obtain ⟨t, ht, ht1, ht2⟩ := cutP_yes hm
    obtain ⟨a, b, hc, ha, hb, ha2, hb2⟩ := cut_f (s := t) 47 (by omega)
    have e : cyParse s.data.toList = cyBody a.data.toList (t.data.toList.contains 47) b.data.toList := by
      rw [hm, ha, hb, ht1]
      simp [cyParse]
    rw [ht, e]
    simp only [Option.bind_some, if_true]
    rw [hc]
    simp only [Option.bind_some]
    obtain ⟨k, rfl⟩ : ∃ q, k = q + 1 := ⟨k - 1, by omega⟩
    by_cases c1 : t.data.toList.contains 47 = true
    · rw [if_pos c1, c1, cycle_Parse.j0]
      by_cases c2 : a.data.toList = []
      · have : (a.toList == ([] : List UInt8)) = true := by rw [sEmpty c2]; rfl
        rw [if_pos this]
        unfold cyBody
        rw [if_pos ⟨rfl, c2⟩]
        rfl
      · have : ¬ (a.toList == ([] : List UInt8)) = true := by rw [ByteArray.toList_eq]; simpa using c2
        rw [if_neg this]
        exact cy_l0 (by omega) (by omega) (fun _ => c2) a.size 0 k (by omega) (by omega) (fun j hj => by omega)
    · rw [if_neg c1]
      have c1' : t.data.toList.contains 47 = false := by simpa using c1
      rw [c1', cycle_Parse.j0, if_neg (by decide)]
      exact cy_l0 (by omega) (by omega) (fun q => by cases q) a.size 0 k (by omega) (by omega) (fun j hj => by omega)
  · rw [cutP_no (fun l q => h ⟨l, q⟩)]
    have e : cyParse s.data.toList = (0, 0, 2) := by
      unfold cyParse
      cases hl : s.data.toList with
      | nil => rfl
      | cons b m => simp only; rw [if_neg (fun q => h ⟨m, by rw [hl, q]⟩)]
    rw [e]
    simp
end Go.Proofs.YtdfkbiffdcfnpaaDoor.H
/- The orders of a list of events, as printed. -/
namespace Go.Proofs.YtdfkbiffdcfnpaaDoor.H
open Go.RowKit Go.HK Go.Lib Go.Proofs.YtdfkbiffdcfnpaaDoorW.PrintWords Go.Proofs.YtdfkbiffdcfnpaaDoorW.PrintLast Go.Proofs.YtdfkbiffdcfnpaaDoorW.PrintMore
set_option linter.unusedVariables false
set_option linter.unusedSimpArgs false
abbrev SE := S32
abbrev SF := S47
/-- The node of a number; zeros: there is none. -/
def nodeAt (nodes : List SN) (n : Int) : N5 := kindOf (nodes.map on5) n
theorem nodeAt_time {nodes : List SN} (h : ∀ x ∈ nodes, x.f4.size ≤ 80) (n : Int) : (nodeAt nodes n).2.2.2.2.size ≤ 80 := by
  unfold nodeAt kindOf
  split
  · rename_i hn
    rw [List.length_map] at hn
    rw [List.getD_eq_getElem?_getD, List.getElem?_map, List.getElem?_eq_getElem (by omega)]
    exact h _ (List.getElem_mem _)
  · exact Nat.zero_le _
theorem waits_f (kind a b c : Int) (t : ByteArray) (ht : t.size ≤ 80) (k : Nat) (hk : 100 ≤ k) : graph_waits.f k kind a b c t = some ((grWaits kind t.data.toList).1, ((grWaits kind t.data.toList).2.1 : Int), (grWaits kind t.data.toList).2.2) := by
  obtain ⟨k, rfl⟩ : ∃ q, k = q + 1 := ⟨k - 1, by omega⟩
  have h1 : span_Parse.f t = some (((spParse t.data.toList).1 : Int), (spParse t.data.toList).2) := by
    unfold span_Parse.f
    rw [if_pos (by omega)]
  have h2 := cyc_f t (by omega) k (by omega)
  have key : (kind = 4 ∨ kind = 8 ∨ kind = 9) → graph_waits.j0 (k + 1) kind a b c t = some ((grWaits kind t.data.toList).1, ((grWaits kind t.data.toList).2.1 : Int), (grWaits kind t.data.toList).2.2) := by
    intro hk
    unfold grWaits
    rw [if_pos hk, graph_waits.j0, h1, h2]
    generalize spParse t.data.toList = p
    generalize cyParse t.data.toList = q
    obtain ⟨p1, p2⟩ := p
    obtain ⟨q1, q2, q3⟩ := q
    simp only [Option.bind_some]
    by_cases c1 : p2 = 0
    · rw [if_pos c1, if_pos c1]
      have e : decide ((p1 : Int) > 0) = decide (0 < p1) := by by_cases c : 0 < p1; rw [decide_eq_true c, decide_eq_true (by omega)]; rw [decide_eq_false c, decide_eq_false (by omega)]
      rw [e]
    · rw [if_neg c1, if_neg c1]
      by_cases c2 : kind = 9
      · rw [if_pos c2]
        by_cases c3 : q3 = 0
        · rw [if_pos c3]
          by_cases c4 : q1 > 9
          · rw [if_pos c4, if_pos (.inr (.inr c4))]; rfl
          · rw [if_neg c4, if_neg (by rintro (h | h | h); exact h c2; exact h c3; omega)]
        · rw [if_neg c3, if_pos (.inr (.inl c3))]; rfl
      · rw [if_neg c2, if_pos (.inl c2)]; rfl
  unfold graph_waits.f
  by_cases c4 : kind = 4
  · rw [if_pos c4]; exact key (.inl c4)
  · rw [if_neg c4]
    by_cases c8 : kind = 8
    · rw [if_pos c8]; exact key (.inr (.inl c8))
    · rw [if_neg c8]
      by_cases c9 : kind = 9
      · rw [if_pos c9]; exact key (.inr (.inr c9))
      · rw [if_neg c9]
        unfold grWaits
        rw [if_neg (by rintro (h | h | h); exact c4 h; exact c8 h; exact c9 h)]
        rfl
/-- The ticks of a node's timer. -/
def tkOf (nodes : List SN) (n : Int) : Nat := grTicks (nodeAt nodes n).1 (nodeAt nodes n).2.2.2.2.data.toList
theorem time_f {nm : ByteArray} {nodes : List SN} {flows : List SF} (hn : nodes.length ≤ 1000) (h : ∀ x ∈ nodes, x.f4.size ≤ 80) (n : Int) (k : Nat) (hk : 100 ≤ k) : ∃ N b, graph_Time.f k nm nodes flows n = some (N, (tkOf nodes n : Int), b) := by
  have h1 : graph_at.f nm nodes flows n = some ((nodeAt nodes n).1, (nodeAt nodes n).2.1, (nodeAt nodes n).2.2.1, (nodeAt nodes n).2.2.2.1, (nodeAt nodes n).2.2.2.2, decide (1 ≤ n ∧ n ≤ ((nodes.map on5).length : Int))) := by
    unfold graph_at.f
    rw [if_pos hn]
    rfl
  have ht := nodeAt_time h n
  unfold graph_Time.f tkOf
  rw [h1]
  simp only [Option.bind_some]
  generalize nodeAt nodes n = x at *
  obtain ⟨x1, x2, x3, x4, x5⟩ := x
  rw [waits_f x1 x2 x3 x4 x5 ht k hk]
  unfold grTicks
  generalize grWaits x1 x5.data.toList = g
  obtain ⟨g1, g2, g3⟩ := g
  cases g3
  · exact ⟨0, false, rfl⟩
  · exact ⟨g1, true, rfl⟩
/-- A node's class. -/
def clOf (nodes : List SN) (n : Int) : Int := (nodeAt nodes n).2.2.1
theorem class_f {nm : ByteArray} {nodes : List SN} {flows : List SF} (hn : nodes.length ≤ 1000) (n : Int) : orders_class.f nm nodes flows n = some (clOf nodes n) := by
  unfold orders_class.f clOf nodeAt kindOf
  rw [List.length_map]
  by_cases c1 : n < 1
  · rw [if_pos c1, if_neg (by omega)]
  · rw [if_neg c1]
    by_cases c2 : n > (nodes.length : Int)
    · rw [if_pos c2, if_neg (by omega)]
    · have hw : wrap64 (n - 1) = n - 1 := by unfold wrap64; omega
      rw [if_neg c2, hw, if_pos (by omega), if_pos (by omega), if_pos (by omega)]
      congr 1
      unfold rd_T45
      have e : (n - 1).toNat = n.toNat - 1 := by omega
      rw [e, List.getD_eq_getElem?_getD, List.getD_eq_getElem?_getD, List.getElem?_map, List.getElem?_eq_getElem (by omega)]
      rfl
/-- The order of an event. -/
def ofE (nodes : List SN) (e : SE) : List SO :=
  if e.f0 = 2 then [⟨1, e.f3, e.f2, clOf nodes e.f2, 0⟩] else if e.f0 = 3 then [⟨2, e.f3, e.f2, 0, (tkOf nodes e.f2 : Int)⟩] else if e.f0 = 4 then [⟨3, e.f3, 0, 0, 0⟩] else []
def ofL (nodes : List SN) (l : List SE) : List SO := l.flatMap (ofE nodes)
theorem ofE_len (nodes : List SN) (e : SE) : (ofE nodes e).length ≤ 1 := by
  unfold ofE
  split
  · simp
  · split
    · simp
    · split <;> simp
theorem ofL_len (nodes : List SN) : ∀ l : List SE, (ofL nodes l).length ≤ l.length
  | [] => by simp [ofL]
  | e :: l => by
    have h1 := ofE_len nodes e
    have h2 := ofL_len nodes l
    simp only [ofL, List.flatMap_cons, List.length_append, List.length_cons] at h2 ⊢
    omega
theorem ofL_app (nodes : List SN) (a b : List SE) : ofL nodes (a ++ b) = ofL nodes a ++ ofL nodes b := by simp [ofL]
theorem of_l0 {nm : ByteArray} {nodes : List SN} {flows : List SF} {l : List SE} (hn : nodes.length ≤ 1000) (h : ∀ x ∈ nodes, x.f4.size ≤ 80) (hl : l.length ≤ 1000) :
    ∀ (d i k : Nat) (out : List SO), i + d = l.length → d + 101 ≤ k → out.length ≤ i → orders_Of.l0 k out l (l.length : Int) (i : Int) nm nodes flows = some (out ++ ofL nodes (l.drop i)) := by
  intro d
  induction d with
  | zero =>
    intro i k out hd hk ho
    obtain ⟨k, rfl⟩ : ∃ q, k = q + 1 := ⟨k - 1, by omega⟩
    unfold orders_Of.l0
    rw [if_neg (by omega), List.drop_of_length_le (by omega)]
    simp [ofL]
  | succ d ih =>
    intro i k out hd hk ho
    obtain ⟨k, rfl⟩ : ∃ q, k = q + 1 := ⟨k - 1, by omega⟩
    have hi : i < l.length := by omega
    have hr : rd_T32 l (i : Int) = l[i] := by
      unfold rd_T32
      rw [Int.toNat_natCast, List.getD_eq_getElem?_getD, List.getElem?_eq_getElem hi]
      rfl
    rw [List.drop_eq_getElem_cons hi]
    unfold orders_Of.l0
    rw [if_pos (by omega), if_pos (by omega), if_pos (by omega), hr, w64s (by omega)]
    have ec : ofL nodes (l[i] :: l.drop (i + 1)) = ofE nodes l[i] ++ ofL nodes (l.drop (i + 1)) := by unfold ofL; rw [List.flatMap_cons]
    rw [ec, ← List.append_assoc]
    generalize l[i] = e
    have hE := ofE_len nodes e
    by_cases c2 : e.f0 = 2
    · have e1 : ofE nodes e = [⟨1, e.f3, e.f2, clOf nodes e.f2, 0⟩] := by unfold ofE; rw [if_pos c2]
      rw [if_pos c2, class_f hn, e1]
      simp only [Option.bind_some]
      rw [if_pos (by omega)]
      exact ih (i + 1) k _ (by omega) (by omega) (by simp; omega)
    · rw [if_neg c2]
      by_cases c3 : e.f0 = 3
      · have e1 : ofE nodes e = [⟨2, e.f3, e.f2, 0, (tkOf nodes e.f2 : Int)⟩] := by unfold ofE; rw [if_neg c2, if_pos c3]
        obtain ⟨N, b, ht⟩ := time_f (nm := nm) (flows := flows) hn h e.f2 k (by omega)
        rw [if_pos c3, ht, e1]
        simp only [Option.bind_some]
        rw [if_pos (by omega)]
        exact ih (i + 1) k _ (by omega) (by omega) (by simp; omega)
      · rw [if_neg c3]
        by_cases c4 : e.f0 = 4
        · have e1 : ofE nodes e = [⟨3, e.f3, 0, 0, 0⟩] := by unfold ofE; rw [if_neg c2, if_neg c3, if_pos c4]
          rw [if_pos c4, if_pos (by omega), e1]
          exact ih (i + 1) k _ (by omega) (by omega) (by simp; omega)
        · have e1 : ofE nodes e = [] := by unfold ofE; rw [if_neg c2, if_neg c3, if_neg c4]
          rw [if_neg c4, e1, List.append_nil]
          exact ih (i + 1) k _ (by omega) (by omega) (by omega)
theorem of_f {nm : ByteArray} {nodes : List SN} {flows : List SF} {l : List SE} (hn : nodes.length ≤ 1000) (h : ∀ x ∈ nodes, x.f4.size ≤ 80) (hl : l.length ≤ 1000) (k : Nat) (hk : l.length + 101 ≤ k) : orders_Of.f k nm nodes flows l = some (ofL nodes l) := by
  unfold orders_Of.f
  have := of_l0 (nm := nm) (flows := flows) hn h hl l.length 0 k [] (by omega) (by omega) (Nat.le_refl _)
  exact this
/-- What LightDef says. -/
theorem light_l1 {nm : ByteArray} {nodes : List SN} {flows : List SF} (hf : flows.length ≤ 1000) : ∀ (d i k : Nat), i + d = flows.length → d < k → ∃ b, remontoirkeep_LightDef.l1 k (i : Int) nm nodes flows = some b := by
  intro d
  induction d with
  | zero =>
    intro i k hd hk
    obtain ⟨k, rfl⟩ : ∃ q, k = q + 1 := ⟨k - 1, by omega⟩
    rw [remontoirkeep_LightDef.l1, if_neg (by omega)]
    exact ⟨_, rfl⟩
  | succ d ih =>
    intro i k hd hk
    obtain ⟨k, rfl⟩ : ∃ q, k = q + 1 := ⟨k - 1, by omega⟩
    rw [remontoirkeep_LightDef.l1, if_pos (by omega), if_pos (by omega), w64s (by omega)]
    split
    · exact ⟨_, rfl⟩
    · exact ih (i + 1) k (by omega) (by omega)
theorem light_l0 {nm : ByteArray} {nodes : List SN} {flows : List SF} (hn : nodes.length ≤ 1000) (hf : flows.length ≤ 1000) : ∀ (d i k : Nat), i + d = nodes.length → d + flows.length + 1 < k → (∀ j, j < i → (nodes.getD j z45).f4.size ≤ 80) →
    ∃ b, remontoirkeep_LightDef.l0 k (i : Int) nm nodes flows = some b ∧ (b = true → ∀ j, j < nodes.length → (nodes.getD j z45).f4.size ≤ 80) := by
  intro d
  induction d with
  | zero =>
    intro i k hd hk hj
    obtain ⟨k, rfl⟩ : ∃ q, k = q + 1 := ⟨k - 1, by omega⟩
    rw [remontoirkeep_LightDef.l0, if_neg (by omega)]
    obtain ⟨b, hb⟩ := light_l1 (nm := nm) (nodes := nodes) hf flows.length 0 k (by omega) (by omega)
    exact ⟨b, hb, fun _ j h => hj j (by omega)⟩
  | succ d ih =>
    intro i k hd hk hj
    obtain ⟨k, rfl⟩ : ∃ q, k = q + 1 := ⟨k - 1, by omega⟩
    rw [remontoirkeep_LightDef.l0, if_pos (by omega), if_pos (by omega), w64s (by omega)]
    by_cases c : ((rd_T45 nodes (i : Int)).f4.size : Int) > 80
    · rw [if_pos c]
      exact ⟨false, rfl, fun h => by cases h⟩
    · rw [if_neg c]
      refine ih (i + 1) k (by omega) (by omega) (fun j h => ?_)
      by_cases e : j = i
      · subst e
        unfold rd_T45 at c
        rw [Int.toNat_natCast] at c
        omega
      · exact hj j (by omega)
theorem light_f {nm : ByteArray} {nodes : List SN} {flows : List SF} (k : Nat) (hk : 300 ≤ k) : ∃ b, remontoirkeep_LightDef.f k nm nodes flows = some b ∧ (b = true → nodes.length ≤ 70 ∧ ∀ x ∈ nodes, x.f4.size ≤ 80) := by
  obtain ⟨k, rfl⟩ : ∃ q, k = q + 1 := ⟨k - 1, by omega⟩
  unfold remontoirkeep_LightDef.f
  by_cases c1 : (nodes.length : Int) > 70
  · rw [if_pos c1, remontoirkeep_LightDef.j0, if_pos rfl]
    exact ⟨false, rfl, fun h => by cases h⟩
  · rw [if_neg c1]
    by_cases c2 : (flows.length : Int) > 110
    · rw [if_pos c2, remontoirkeep_LightDef.j0, if_pos rfl]
      exact ⟨false, rfl, fun h => by cases h⟩
    · rw [if_neg c2, remontoirkeep_LightDef.j0]
      by_cases c3 : decide ((nm.size : Int) > 60) = true
      · rw [if_pos c3]
        exact ⟨false, rfl, fun h => by cases h⟩
      · rw [if_neg c3]
        obtain ⟨b, hb, h⟩ := light_l0 (nm := nm) (nodes := nodes) (flows := flows) (by omega) (by omega) nodes.length 0 k (by omega) (by omega) (fun j h => by omega)
        refine ⟨b, hb, fun q => ⟨by omega, fun x hx => ?_⟩⟩
        obtain ⟨j, hj, rfl⟩ := List.mem_iff_getElem.1 hx
        have := h q j hj
        rwa [List.getD_eq_getElem?_getD, List.getElem?_eq_getElem hj] at this
end Go.Proofs.YtdfkbiffdcfnpaaDoor.H
/- The chapter's examples; rows alike. -/
namespace Go.Proofs.YtdfkbiffdcfnpaaDoor.H
open Go.RowKit Go.HK Go.Lib Go.Proofs.YtdfkbiffdcfnpaaDoorW.PrintWords Go.Proofs.YtdfkbiffdcfnpaaDoorW.PrintLast Go.Proofs.YtdfkbiffdcfnpaaDoorW.PrintMore
set_option linter.unusedVariables false
set_option linter.unusedSimpArgs false
theorem orders_same (a : List SO) (ha : a.length ≤ 1000) : ∀ (d i k : Nat), i + d = a.length → d < k → remontoirkeep_Orders.l0 k a a (i : Int) = some true := by
  intro d
  induction d with
  | zero =>
    intro i k hd hk
    obtain ⟨k, rfl⟩ : ∃ q, k = q + 1 := ⟨k - 1, by omega⟩
    rw [remontoirkeep_Orders.l0, if_neg (by omega)]
  | succ d ih =>
    intro i k hd hk
    obtain ⟨k, rfl⟩ : ∃ q, k = q + 1 := ⟨k - 1, by omega⟩
    rw [remontoirkeep_Orders.l0, if_pos (by omega), if_pos (by omega), if_pos (by omega), if_neg (by simp), w64s (by omega)]
    exact ih (i + 1) k (by omega) (by omega)
theorem orders_refl (a : List SO) (ha : a.length ≤ 1000) (k : Nat) (hk : a.length < k) : remontoirkeep_Orders.f k a a = some true := by
  unfold remontoirkeep_Orders.f
  rw [if_pos rfl]
  exact orders_same a ha a.length 0 k (by omega) hk
theorem jobsL_eq (l : List O5) : jobsL l = jset ((keptL 1 l).map (·.2.1)) := rfl
theorem jset_nil : jset [] = [] := List.eq_nil_iff_forall_not_mem.2 (fun x h => by rw [jset_mem] at h; cases h)
theorem jset_one (x : Int) : jset [x] = [x] := by
  have := jset_new [] x (by simp)
  rw [List.nil_append, jset_nil] at this
  obtain ⟨y, hy⟩ := List.length_eq_one_iff.1 this
  have : x ∈ jset [x] := (jset_mem _ _).2 (by simp)
  rw [hy] at this ⊢
  rw [List.mem_singleton.1 this]
def wkN : List SN := [⟨3, 0, 3, 0, ⟨#[]⟩⟩, ⟨8, 0, 0, 1, ⟨#[80, 84, 57, 83]⟩⟩]
def wkE : List SE := [⟨2, 0, 1, 5⟩, ⟨1, 0, 0, 0⟩, ⟨3, 0, 2, 5⟩, ⟨4, 0, 0, 5⟩]
theorem wk_of : ofL wkN wkE = [⟨1, 5, 1, 3, 0⟩, ⟨2, 5, 2, 0, 9⟩, ⟨3, 5, 0, 0, 0⟩] := by
  have h : tkOf wkN 2 = 9 := by decide
  have hc : clOf wkN 1 = 3 := by decide
  simp [ofL, ofE, wkE, h, hc]
theorem wakes_f (k : Nat) (hk : 200 ≤ k) : remontoirlaw27_wakes.f k = some true := by
  have h1 := of_f (nm := ⟨#[]⟩) (nodes := wkN) (flows := []) (l := wkE) (by decide) (by decide) (by decide) k (by show 4 + 101 ≤ k; omega)
  rw [wk_of] at h1
  have e : ∀ k, orders_Of.f k ⟨#[]⟩ [⟨3, 0, 3, 0, ⟨#[]⟩⟩, ⟨8, 0, 0, 1, ⟨#[80, 84, 57, 83]⟩⟩] [] [⟨2, 0, 1, 5⟩, ⟨1, 0, 0, 0⟩, ⟨3, 0, 2, 5⟩, ⟨4, 0, 0, 5⟩] = orders_Of.f k ⟨#[]⟩ wkN [] wkE := fun _ => rfl
  have j0 : orders_Jobs.f [⟨1, 5, 1, 3, 0⟩, ⟨2, 5, 2, 0, 9⟩, ⟨3, 5, 0, 0, 0⟩] = some [] := by
    unfold orders_Jobs.f
    rw [if_pos (by decide), jobsL_eq]
    have : (keptL 1 (List.map o5 [⟨1, 5, 1, 3, 0⟩, ⟨2, 5, 2, 0, 9⟩, ⟨3, 5, 0, 0, 0⟩])).map (·.2.1) = [] := by decide
    rw [this, jset_nil]
  have j1 : orders_Jobs.f [⟨1, 5, 1, 3, 0⟩, ⟨2, 5, 2, 0, 9⟩] = some [5] := by
    unfold orders_Jobs.f
    rw [if_pos (by decide), jobsL_eq]
    have : (keptL 1 (List.map o5 [⟨1, 5, 1, 3, 0⟩, ⟨2, 5, 2, 0, 9⟩])).map (·.2.1) = [5] := by decide
    rw [this, jset_one]
  have t1 : ∃ x, orders_Timers.f [⟨1, 5, 1, 3, 0⟩, ⟨2, 5, 2, 0, 9⟩] = some [x] := ⟨_, by
    unfold orders_Timers.f
    rw [if_pos (by decide)]
    rfl⟩
  obtain ⟨x, t1⟩ := t1
  unfold remontoirlaw27_wakes.f
  rw [e, h1]
  simp [rd_T35, j0, j1, t1]
end Go.Proofs.YtdfkbiffdcfnpaaDoor.H
/- OrdersOne. -/
namespace Go.Proofs.YtdfkbiffdcfnpaaDoor.Pure
open Go.RowKit Go.Proofs.YtdfkbiffdcfnpaaDoor.H Go.Proofs.YtdfkbiffdcfnpaaDoorW.PrintWords Go.Proofs.YtdfkbiffdcfnpaaDoorW.PrintLast Go.Proofs.YtdfkbiffdcfnpaaDoorW.PrintMore
set_option linter.unusedVariables false
set_option linter.unusedSimpArgs false
theorem ofE_tok (nodes : List SN) (e : SE) : ∀ o ∈ ofE nodes e, o.f1 = e.f3 := by
  intro o ho
  unfold ofE at ho
  split at ho
  · simp at ho; subst ho; rfl
  · split at ho
    · simp at ho; subst ho; rfl
    · split at ho
      · simp at ho; subst ho; rfl
      · cases ho
theorem ofL_one (nodes : List SN) (e : SE) : ofL nodes [e] = ofE nodes e := by simp [ofL]
theorem tmod_ok (n : Nat) (L : Nat) (hL : L ≤ 60) : (wrap64 ((L : Int) + 1)) = ((L + 1 : Nat) : Int) := w64s (by omega)
theorem one_l0 {nm : ByteArray} {nodes : List SN} {flows : List SF} (hn : nodes.length ≤ 70) (h : ∀ x ∈ nodes, x.f4.size ≤ 80) {l : List SE} (hl : l.length ≤ 60) {a K : Nat} {a2 : Int} (ha : Int.tmod (wrap64 a2) ((l.length + 1 : Nat) : Int) = (K : Int)) (hK : K ≤ l.length) :
    ∀ (d i k : Nat) (out : List SO), i + d = l.length → d + 400 ≤ k → out = ofL nodes (l.take i) → remontoirlaw27_OrdersOne.l0 k l a2 (ofL nodes l) out (i : Int) nm nodes flows = some true := by
  have g : ∀ (k : Nat) (m : List SE), 200 ≤ k → m.length ≤ 60 → orders_Of.f k nm nodes flows m = some (ofL nodes m) := fun k m h1 h2 => of_f (by omega) h (by omega) k (by omega)
  have hO := ofL_len nodes l
  intro d
  induction d with
  | zero =>
    intro i k out hi hk ho
    obtain ⟨k, rfl⟩ : ∃ z, k = z + 1 := ⟨k - 1, by omega⟩
    rw [List.take_of_length_le (by omega)] at ho
    subst ho
    have hsplit : ofL nodes (l.take K) ++ ofL nodes (l.drop K) = ofL nodes l := by rw [← ofL_app, List.take_append_drop]
    have g0 : ¬ ((i : Int) < (l.length : Int)) := by omega
    have g1 := g k (l.take K) (by omega) (by rw [List.length_take]; omega)
    have g2 := g k (l.drop K) (by omega) (by rw [List.length_drop]; omega)
    have g3 := orders_refl (ofL nodes l) (by omega) k (by omega)
    have g4 := wakes_f k (by omega)
    have g5 : (0 : Int) ≤ (K : Int) := by omega
    have g6 : (K : Int) ≤ (l.length : Int) := by omega
    have h1 := ofL_len nodes (l.take K)
    have h2 := ofL_len nodes (l.drop K)
    rw [List.length_take] at h1
    rw [List.length_drop] at h2
    have f1 : ([] : List SO).length + (ofL nodes (l.take K)).length < 3518437208883 := by show 0 + _ < _; omega
    have f2 : (ofL nodes (l.take K)).length + (ofL nodes (l.drop K)).length < 3518437208883 := by omega
    have f3 : ¬ ((l.length + 1 : Nat) : Int) = 0 := by omega
    have hw := tmod_ok 0 l.length hl
    have hKn : ((K : Int)).toNat = K := by omega
    clear h1 h2 hO hi hk hK g
    rw [remontoirlaw27_OrdersOne.l0, if_neg g0, hw, if_neg f3, g3, Option.bind_some, if_pos rfl, Option.bind_some, ha, if_pos g5, if_pos g6, hKn, g1, Option.bind_some, if_pos f1, Option.bind_some, List.nil_append, g2, Option.bind_some, if_pos f2, hsplit, g3, Option.bind_some, if_pos rfl, g4, Option.bind_some]
  | succ d ih =>
    intro i k out hi hk ho
    obtain ⟨k, rfl⟩ : ∃ z, k = z + 1 := ⟨k - 1, by omega⟩
    have hr : rd_T32 l (i : Int) = l[i] := by
      unfold rd_T32
      rw [Int.toNat_natCast, List.getD_eq_getElem?_getD, List.getElem?_eq_getElem (by omega)]
      rfl
    have hol := ofL_len nodes (l.take i)
    rw [List.length_take, ← ho] at hol
    have hs : ofL nodes (l.take (i + 1)) = out ++ ofE nodes l[i] := by
      rw [List.take_add_one, List.getElem?_eq_getElem (by omega), ofL_app, ← ho]
      congr 1
      exact ofL_one nodes _
    have hE := ofE_len nodes l[i]
    have hT := ofE_tok nodes l[i]
    have hg := g k [l[i]] (by omega) (by simp)
    rw [ofL_one] at hg
    have he : (⟨l[i].f0, l[i].f1, l[i].f2, l[i].f3⟩ : SE) = l[i] := rfl
    have hrec := ih (i + 1) k _ (by omega) (by omega) hs.symm
    have g0 : (i : Int) < (l.length : Int) := by omega
    have g1 : (0 : Int) ≤ (i : Int) := by omega
    have g2 : ¬ ((ofE nodes l[i]).length : Int) > 1 := by omega
    have g3 : out.length + (ofE nodes l[i]).length < 3518437208883 := by omega
    have hw := w64s (i := i) (by omega)
    rw [remontoirlaw27_OrdersOne.l0, if_pos g0, if_pos g1, hr, he, hg, Option.bind_some, if_neg g2, hw]
    by_cases c : ((ofE nodes l[i]).length : Int) = 1
    · rw [if_pos c, if_pos (by omega)]
      have ht : (rd_T35 (ofE nodes l[i]) 0).f1 = l[i].f3 := by
        unfold rd_T35
        obtain ⟨o, ho1⟩ := List.length_eq_one_iff.1 (by omega : (ofE nodes l[i]).length = 1)
        rw [ho1] at hT ⊢
        exact hT o (by simp)
      rw [if_pos ht, if_pos g3]
      exact hrec
    · rw [if_neg c, if_pos g3]
      exact hrec
theorem one_at {nm : ByteArray} {nodes : List SN} {flows : List SF} (l : List SE) (a2 : Int) (h0 : 0 ≤ a2) (h1 : a2 ≤ 255) (k : Nat) (hk : 1000 ≤ k) : remontoirlaw27_OrdersOne.f k nm nodes flows l a2 = some true := by
  have j1 : ∀ k, 500 ≤ k → remontoirlaw27_OrdersOne.j0 k l a2 true nm nodes flows = some true := by
    intro k hk
    obtain ⟨k, rfl⟩ : ∃ z, k = z + 1 := ⟨k - 1, by omega⟩
    rw [remontoirlaw27_OrdersOne.j0, if_pos rfl, wakes_f k (by omega), Option.bind_some]
  unfold remontoirlaw27_OrdersOne.f
  obtain ⟨bb, hb, hl⟩ := light_f (nm := nm) (nodes := nodes) (flows := flows) k (by omega)
  rw [hb, Option.bind_some]
  by_cases c0 : bb = true
  · obtain ⟨hn, h⟩ := hl c0
    rw [if_pos c0]
    by_cases c1 : (l.length : Int) > 60
    · rw [decide_eq_true c1]
      exact j1 k (by omega)
    · rw [decide_eq_false c1]
      obtain ⟨k, rfl⟩ : ∃ z, k = z + 1 := ⟨k - 1, by omega⟩
      have g := of_f (nm := nm) (flows := flows) (l := l) (by omega : nodes.length ≤ 1000) h (by omega) k (by omega)
      rw [remontoirlaw27_OrdersOne.j0, if_neg (by decide), g, Option.bind_some]
      have hw : wrap64 a2 = a2 := by unfold wrap64; omega
      have ht : Int.tmod (wrap64 a2) ((l.length + 1 : Nat) : Int) = ((a2.toNat % (l.length + 1) : Nat) : Int) := by
        rw [hw]
        obtain ⟨n, rfl⟩ : ∃ n : Nat, a2 = n := ⟨a2.toNat, by omega⟩
        rw [Int.toNat_natCast]
        rfl
      clear hw
      exact one_l0 (a := 0) hn h (by omega) ht (Nat.le_of_lt_succ (Nat.mod_lt _ (by omega))) l.length 0 k [] (by omega) (by omega) rfl
  · rw [if_neg c0]
    exact j1 k (by omega)
theorem OrdersOne (nm : ByteArray) (nodes : List SN) (flows : List SF) (l : List SE) (a2 : Int) (m1 : l.length ≤ Go.maxLen) (w1 : ∀ y ∈ l, True) (w2 : (Go.Lit.int .u8 a2).wf = true) : ∃ k, remontoirlaw27_OrdersOne.f k nm nodes flows l a2 = some true := by
  have h1 : Go.IntKind.u8.min ≤ a2 ∧ a2 ≤ Go.IntKind.u8.max := by simpa [Go.Lit.wf] using w2
  have h0 : 0 ≤ a2 ∧ a2 ≤ 255 := h1
  exact ⟨1000, one_at l a2 h0.1 h0.2 1000 (Nat.le_refl _)⟩
end Go.Proofs.YtdfkbiffdcfnpaaDoor.Pure
/- A definition, an event, as parameters; rows of events and orders. -/
namespace Go.Proofs.YtdfkbiffdcfnpaaDoor.H
open Go.RowKit Go.Deep Go.ChangeShapes Go.WideShapes Go.Proofs.YtdfkbiffdcfnpaaDoorW.PrintWords
set_option linter.unusedVariables false
set_option maxRecDepth 100000
section
variable {K : Type} {enc : TypeId × Value → K} {W : World} {b : Nat} {spare : Nat → Bool} {held : Bool}
theorem opensE : HO.Opens enc Tryd.prog W b spare held 32 k32 (fun _ => True) :=
  HO.Opens.imp (HO.opens_struct4 (fun x : S32 => (x.f0, x.f1, x.f2, x.f3)) S32.mk (fun _ _ _ _ => rfl) Tryd.underlying32 rfl rfl rfl rfl (by kernel_rfl) (by kernel_rfl) (by kernel_rfl) (by kernel_rfl) (by kernel_rfl) (HO.opens_int (by kernel_rfl)) (HO.opens_int (by kernel_rfl)) (HO.opens_int (by kernel_rfl)) (HO.opens_int (by kernel_rfl))) (fun _ _ => trivial)
theorem opensN : HO.Opens enc Tryd.prog W b spare held 45 k45 (fun _ => True) :=
  HO.Opens.imp (HO.opens_struct5 (fun x : S45 => (x.f0, x.f1, x.f2, x.f3, x.f4)) S45.mk (fun _ _ _ _ _ => rfl) Tryd.underlying45 rfl rfl rfl rfl rfl (by kernel_rfl) (by kernel_rfl) (by kernel_rfl) (by kernel_rfl) (by kernel_rfl) (by kernel_rfl) (HO.opens_int (by kernel_rfl)) (HO.opens_int (by kernel_rfl)) (HO.opens_int (by kernel_rfl)) (HO.opens_int (by kernel_rfl)) (HO.opens_string (by kernel_rfl))) (fun _ _ => trivial)
theorem opensF : HO.Opens enc Tryd.prog W b spare held 47 k47 (fun _ => True) :=
  HO.Opens.imp (HO.opens_struct5 (fun x : S47 => (x.f0, x.f1, x.f2, x.f3, x.f4)) S47.mk (fun _ _ _ _ _ => rfl) Tryd.underlying47 rfl rfl rfl rfl rfl (by kernel_rfl) (by kernel_rfl) (by kernel_rfl) (by kernel_rfl) (by kernel_rfl) (by kernel_rfl) (HO.opens_int (by kernel_rfl)) (HO.opens_int (by kernel_rfl)) (HO.opens_int (by kernel_rfl)) (HO.opens_int (by kernel_rfl)) (HO.opens_string (by kernel_rfl))) (fun _ _ => trivial)
end
theorem open_def {K : Type} {enc : TypeId × Value → K} {W W2 : World} {r : Reach} {b b2 : Nat} {spare : Nat → Bool} {held : Bool} {v : Value} {d : DataW K} {p : List MemPlace} (hv : Value.okWide Tryd.prog W2 r b2 25 v) (h : DataW.Trod enc Tryd.prog W b spare held 25 v d p) :
    ∃ (nm : ByteArray) (A : Option Addr) (c : Nat) (nodes : List S45) (A' : Option Addr) (c' : Nat) (flows : List S47), v = .agg #[.string nm, .slice A nodes.length c, .slice A' flows.length c'] ∧ Kd.C k45 W A nodes.length nodes ∧ nodes.length ≤ c ∧ Kd.C k47 W A' flows.length flows ∧ flows.length ≤ c' := by
  simp only [Value.okWide, Tryd.underlying25] at hv
  obtain ⟨cs, rfl, hsz, _⟩ := hv
  obtain ⟨fuel, hf⟩ := h
  have O := HO.opens_struct3 (enc := enc) (P := Tryd.prog) (w := W) (base := b) (spare := spare) (held := held) (t := 25) (fun x : ByteArray × List S45 × List S47 => x) (fun a b c => (a, b, c)) (fun _ _ _ => rfl) Tryd.underlying25 rfl rfl rfl (by kernel_rfl) (by kernel_rfl) (by kernel_rfl) (by kernel_rfl) (HO.opens_string (by kernel_rfl)) (HO.opens_slice Tryd.underlying22 (by kernel_rfl) opensN) (HO.opens_slice Tryd.underlying23 (by kernel_rfl) opensF)
  obtain ⟨⟨nm, nodes, flows⟩, hK, _⟩ := O _ _ _ hf
  have e : (Value.cells (.agg cs)).toList = cs.toList := by simp [Value.cells]
  rw [e] at hK
  obtain ⟨c1, c2, hc, h1, c3, c4, h2, h3, h4⟩ := hK
  obtain ⟨A, c, rfl, hc3, hA⟩ := h3
  obtain ⟨A', c', rfl, hc4, hA'⟩ := h4
  refine ⟨nm, A, c, nodes, A', c', flows, ?_, hA, hc3, hA', hc4⟩
  refine congrArg Value.agg ?_
  apply Array.toList_inj.1
  rw [hc, h2]
  have h1' : c1 = [.string nm] := h1
  rw [h1']
  rfl
end Go.Proofs.YtdfkbiffdcfnpaaDoor.H
