-- Written by hp.py (a program of this session, over the kit's print.py), with hand-made contracts beside it.
import Derived.Test.YtojfdekiponccaaDoorTHx0
import Derived.Test.YtojfdekiponccaaDoorTHx6
import Derived.Test.YtojfdekiponccaaDoorTHTexts
import Derived.Test.YtojfdekiponccaaDoorTHShelf
namespace Go.Proofs.YtojfdekiponccaaDoor.H
open Go.RowKit Go.Proofs.YtojfdekiponccaaDoorW.PrintWords Go.Proofs.YtojfdekiponccaaDoorW.PrintLast Go.Proofs.YtojfdekiponccaaDoorW.PrintMore
attribute [local go_sem] max2_int min2_int max_two min_two max_three min_three max_four min_four   -- for this text's walks alone
set_option linter.unusedVariables false
set_option linter.unusedSimpArgs false

-- HANDMADE remontoir/lex.Lex
/-! ### lex_Lex: function 14 -/
open Go.HK
def lexTrim (s : ByteArray) : ByteArray := ⟨(Lib.trimLeftB s.data.toList 32).toArray⟩
def lexDigs : ByteArray := ⟨#[48, 49, 50, 51, 52, 53, 54, 55, 56, 57]⟩
def lexRest (s : ByteArray) : ByteArray := ⟨(Lib.trimLeftS s.data.toList lexDigs.data.toList).toArray⟩
def lexCnt (s : ByteArray) : Nat := s.size - (lexRest s).size
def lexVal (s : ByteArray) : Int := (Lib.atoi (s.extract 0 (min (lexCnt s) 10)).data.toList).getD 0
def lexDig (c : Int) : Bool := decide (48 ≤ c ∧ c ≤ 57)
def lexLow (c : Int) : Bool := decide (97 ≤ c ∧ c ≤ 122)
def lex_Lex.num (g : ByteArray → List S35 → Option (List S35 × Int)) (s : ByteArray) (x : List S35) : Option (List S35 × Int) :=
  if bt s 0 = 48 ∧ 1 < lexCnt s then some ([], 2)
  else if 10 < lexCnt s then some ([], 3)
  else if 2147483647 < lexVal s then some ([], 3)
  else g (s.extract (lexCnt s) s.size) (x ++ [(⟨1, lexVal s⟩ : S35)])
def lex_Lex.l0 : Nat → ByteArray → List S35 → Option (List S35 × Int)
  | 0, _, _ => none
  | k + 1, s, x =>
    if (lexTrim s).size = 0 then some (x, 0)
    else if lexDig (bt (lexTrim s) 0) = true then lex_Lex.num (lex_Lex.l0 k) (lexTrim s) x
    else if lexLow (bt (lexTrim s) 0) = true then lex_Lex.l0 k ((lexTrim s).extract 1 (lexTrim s).size) (x ++ [(⟨2, (bt (lexTrim s) 0 - 97) % 256⟩ : S35)])
    else if (lex_longest.to (lexTrim s) 19).2 = 0 then some ([], 2)
    else lex_Lex.l0 k ((lexTrim s).extract (lex_longest.to (lexTrim s) 19).2.toNat (lexTrim s).size) (x ++ [(⟨(lex_longest.to (lexTrim s) 19).1, 0⟩ : S35)])
def lex_Lex.f (a0 : ByteArray) : Option (List S35 × Int) := if (a0.size : Int) > 60 then some ([], 15) else lex_Lex.l0 (a0.size + 1) a0 []
theorem lexTrim_size (s : ByteArray) : (lexTrim s).size ≤ s.size := by
  have h : (Lib.trimLeftB s.data.toList 32).length ≤ s.data.toList.length := List.Sublist.length_le (List.dropWhile_sublist _)
  exact h
theorem in_calls (a b c : Int) (r : Bool) (w : World) (h : decide (b ≤ a ∧ a ≤ c) = r) :
    Calls Tryd.prog 33 #[.int .i64 a, .int .i64 b, .int .i64 c] w fun e w' => e = .returned (.bool r) ∧ w' = w := by
  subst h
  by_cases h1 : b ≤ a
  · have e1 : decide (b ≤ a ∧ a ≤ c) = decide (a ≤ c) := by simp [h1]
    rw [e1]
    go_enter Tryd.func33, Tryd.ntmps33
    go_wp2
    go_ret
    exact ⟨rfl, rfl⟩
  · have e1 : decide (b ≤ a ∧ a ≤ c) = false := by simp [h1]
    rw [e1]
    go_enter Tryd.func33, Tryd.ntmps33
    go_wp2
    go_ret
    exact ⟨rfl, rfl⟩
theorem trim_calls (s s1 : ByteArray) (w : World) (h : lexTrim s = s1) :
    Calls Tryd.prog 32 #[.string s, .string ⟨#[32]⟩] w fun e w' => e = .returned (.string s1) ∧ w' = w := by
  subst h
  exact Tryd.strings_TrimLeft_one s 32 (by decide) w
theorem rest_calls (s s1 : ByteArray) (w : World) (h : lexRest s = s1) :
    Calls Tryd.prog 32 #[.string s, .string ⟨#[48, 49, 50, 51, 52, 53, 54, 55, 56, 57]⟩] w fun e w' => e = .returned (.string s1) ∧ Below w.heap.size w w' := by
  subst h
  exact Tryd.strings_TrimLeft_set s lexDigs w (by decide) (by
    intro j b hj
    have : ∀ b ∈ lexDigs.data.toList, b.toNat < 128 := by decide
    exact this b (List.mem_of_getElem? hj))
theorem str_empty (s : ByteArray) (h : s.size = 0) : s.toList = [] := by
  rw [ByteArray.toList_eq]
  exact List.eq_nil_of_length_eq_zero (by rw [Array.length_toList]; exact h)
theorem toList_data (s : ByteArray) : s.toList = s.data.toList := ByteArray.toList_eq s
theorem str_some (s : ByteArray) (h : s.size ≠ 0) : s.toList.isEmpty = false ∧ (s.toList = []) = False := by
  have : s.toList ≠ [] := by
    rw [toList_data]
    intro e
    apply h
    show s.data.size = 0
    rw [← Array.length_toList, e]; rfl
  exact ⟨by simpa using this, eq_false this⟩
theorem dig_mem (b : UInt8) : lexDigs.data.toList.contains b = true ↔ 48 ≤ b.toNat ∧ b.toNat ≤ 57 := by
  constructor
  · intro h
    have h' : b ∈ lexDigs.data.toList := by simpa using h
    have : ∀ b ∈ lexDigs.data.toList, 48 ≤ b.toNat ∧ b.toNat ≤ 57 := by decide
    exact this b h'
  · rintro ⟨h1, h2⟩
    have e : b = UInt8.ofNat b.toNat := by simp
    generalize b.toNat = n at *
    subst e
    rcases (by omega : n = 48 ∨ n = 49 ∨ n = 50 ∨ n = 51 ∨ n = 52 ∨ n = 53 ∨ n = 54 ∨ n = 55 ∨ n = 56 ∨ n = 57) with rfl | rfl | rfl | rfl | rfl | rfl | rfl | rfl | rfl | rfl
    all_goals decide
theorem decFrom_some : ∀ (l : List UInt8) (acc : Nat), (∀ b ∈ l, lexDigs.data.toList.contains b = true) → ∃ v, Lib.decFrom acc l = some v
  | [], acc, _ => ⟨acc, rfl⟩
  | b :: r, acc, h => by
    have hb := (dig_mem b).1 (h b (by simp))
    obtain ⟨v, hv⟩ := decFrom_some r (acc * 10 + (b.toNat - 48)) (fun c hc => h c (by simp [hc]))
    exact ⟨v, by simp only [Lib.decFrom, Lib.digitVal, if_pos hb]; exact hv⟩
theorem atoi_some (l : List UInt8) (h0 : l ≠ []) (h : ∀ b ∈ l, lexDigs.data.toList.contains b = true) : ∃ v, Lib.atoi l = some v := by
  obtain ⟨v, hv⟩ := decFrom_some l 0 h
  cases l with
  | nil => exact absurd rfl h0
  | cons b r =>
    have hb := (dig_mem b).1 (h b (by simp))
    have n1 : (b == 45) = false := by rw [beq_eq_false_iff_ne]; rintro rfl; exact absurd hb.1 (by decide)
    have n2 : (b == 43) = false := by rw [beq_eq_false_iff_ne]; rintro rfl; exact absurd hb.1 (by decide)
    exact ⟨(v : Int), by simp [Lib.atoi, n1, n2, Lib.decNat, hv]⟩
theorem data_len (s : ByteArray) : s.data.toList.length = s.size := by rw [Array.length_toList]; rfl
theorem lexRest_size (s : ByteArray) : (lexRest s).size = (s.data.toList.dropWhile (lexDigs.data.toList.contains ·)).length := rfl
theorem cnt_eq (s : ByteArray) : lexCnt s = (s.data.toList.takeWhile (lexDigs.data.toList.contains ·)).length := by
  unfold lexCnt
  rw [lexRest_size]
  have := congrArg List.length (List.takeWhile_append_dropWhile (p := (lexDigs.data.toList.contains ·)) (l := s.data.toList))
  rw [List.length_append, data_len] at this
  omega
theorem rest_le (s : ByteArray) : (lexRest s).size ≤ s.size := by
  rw [lexRest_size, ← data_len s]
  exact List.Sublist.length_le (List.dropWhile_sublist _)
theorem bt_zero (s : ByteArray) (h : 0 < s.size) : ∃ b r, s.data.toList = b :: r ∧ bt s 0 = (b.toNat : Int) := by
  cases e : s.data.toList with
  | nil => have := data_len s; rw [e] at this; simp at this; omega
  | cons b r =>
    refine ⟨b, r, rfl, ?_⟩
    unfold bt
    rw [dif_pos (by simpa using h)]
    have : s.data.toList[0]'(by rw [e]; simp) = b := by simp [e]
    rw [← this]
    rfl
theorem cnt_pos (s : ByteArray) (h : 0 < s.size) (hd : lexDig (bt s 0) = true) : 1 ≤ lexCnt s := by
  obtain ⟨b, r, e, hb⟩ := bt_zero s h
  rw [cnt_eq, e]
  have : lexDigs.data.toList.contains b = true := by
    rw [dig_mem]
    rw [hb] at hd
    unfold lexDig at hd
    have := of_decide_eq_true hd
    omega
  rw [List.takeWhile_cons, if_pos this]
  simp
theorem lexVal_ok (s : ByteArray) (h : 0 < s.size) (hd : lexDig (bt s 0) = true) : Lib.atoi (s.extract 0 (min (lexCnt s) 10)).data.toList = some (lexVal s) := by
  have hc := cnt_pos s h hd
  have hc2 : lexCnt s ≤ s.size := by unfold lexCnt; omega
  have e : (s.extract 0 (min (lexCnt s) 10)).data.toList = s.data.toList.take (min (lexCnt s) 10) := by
    simp [ByteArray.data_extract]
  obtain ⟨v, hv⟩ := atoi_some (s.extract 0 (min (lexCnt s) 10)).data.toList (by
      intro e0
      have h1 := congrArg List.length e0
      rw [e, List.length_take, data_len, List.length_nil] at h1
      omega) (by
      intro b hb
      rw [e] at hb
      have hb2 : b ∈ s.data.toList.takeWhile (lexDigs.data.toList.contains ·) := by
        have h3 := List.takeWhile_append_dropWhile (p := (lexDigs.data.toList.contains ·)) (l := s.data.toList)
        rw [← h3, List.take_append_of_le_length (by rw [← cnt_eq]; omega)] at hb
        exact List.mem_of_mem_take hb
      exact (List.all_eq_true.1 (List.all_takeWhile (p := (lexDigs.data.toList.contains ·)) (l := s.data.toList))) b hb2)
  unfold lexVal
  rw [hv]; rfl
theorem has_le (s t : ByteArray) (h : lexHas s t = true) : t.size ≤ s.size := by
  unfold lexHas Lib.hasPrefix at h
  have := (List.isPrefixOf_iff_prefix.1 h).length_le
  rwa [data_len, data_len] at this
theorem lex_longest.fit (s : ByteArray) : ∀ k, (lex_longest.to s k).2 ≤ s.size
  | 0 => by show (0 : Int) ≤ _; omega
  | k + 1 => by
    have ih := lex_longest.fit s k
    unfold lex_longest.to
    split
    · rename_i h
      have := has_le _ _ h.2
      show ((lexT.getD k ⟨#[]⟩).size : Int) ≤ s.size
      omega
    · exact ih
theorem dig_calls (c : Int) (r : Bool) (w : World) (h : lexDig c = r) :
    Calls Tryd.prog 33 #[.int .i64 c, .int .i64 48, .int .i64 57] w fun e w' => e = .returned (.bool r) ∧ w' = w := in_calls c 48 57 r w h
theorem low_calls (c : Int) (r : Bool) (w : World) (h : lexLow c = r) :
    Calls Tryd.prog 33 #[.int .i64 c, .int .i64 97, .int .i64 122] w fun e w' => e = .returned (.bool r) ∧ w' = w := in_calls c 97 122 r w h
theorem atoi_calls (s : ByteArray) (v : Int) (w : World) (hl : s.size ≤ 10) (h : Lib.atoi s.data.toList = some v) :
    Calls Tryd.prog 35 #[.string s] w fun e w' => e = .returned (.tuple #[.int .i64 v, .nilIface]) ∧ Below w.heap.size w w' :=
  (Tryd.strconv_Atoi s v (by omega) h w).mono fun e w' ⟨he, t, hw⟩ => ⟨he, hw ▸ bytes_below (Below.refl _ _) (Nat.le_refl _) _ _⟩
def lex_Lex.I (w : World) (r1 : List S35) (r2 : Int) (l n : Nat) (a : Act) (w1 : World) : Prop :=
  ∃ (k : Nat) (s : ByteArray) (x : List S35) (v4 u1 u2 u3 u5 u6 u7 u8 u9 u10 u11 u12 u13 u14 u15 u16 u17 u18 u19 u20 u21 u22 u23 u24 u25 u26 u27 u28 u29 u30 u31 u32 u33 u34 u35 u36 u37 u38 u39 u40 u41 u42 u43 u44 u45 u46 u47 u48 u49 u50 u51 u52 u53 u54 u55 u56 u57 u58 u59 u60 u61 u62 u63 u64 u65 u66 u67 u68 u69 u70 u71 u72 u73 u74 u75 u76 u77 u78 u79 u80 u81 u82 u83 u84 u85 u86 : Value), a = { tmps := #[.string s, u1, u2, u3, v4, u5, u6, u7, u8, u9, u10, u11, u12, u13, u14, u15, u16, u17, u18, u19, u20, u21, u22, u23, u24, u25, u26, u27, u28, u29, u30, u31, u32, u33, u34, u35, u36, u37, u38, u39, u40, u41, u42, u43, u44, u45, u46, u47, u48, u49, u50, u51, u52, u53, u54, u55, u56, u57, u58, u59, u60, u61, u62, u63, u64, u65, u66, u67, u68, u69, u70, u71, u72, u73, u74, u75, u76, u77, u78, u79, u80, u81, u82, u83, u84, u85, u86], defers := [] } ∧ x.length + s.size ≤ 60 ∧ Kd.R k35 35 w1 w.heap.size (fun _ => True) v4 x ∧ Below w.heap.size w w1 ∧
      ((l = 0 ∧ n = 2 * k ∧ lex_Lex.l0 k s x = some (r1, r2)) ∨ (l = 1 ∧ n = 2 * k + 1 ∧ 0 < s.size ∧ lexDig (bt s 0) = true ∧ lex_Lex.num (lex_Lex.l0 k) s x = some (r1, r2)))
set_option maxRecDepth 100000 in
set_option maxHeartbeats 4000000 in
theorem lex_Lex.calls (a0 : ByteArray) (r1 : List S35) (r2 : Int) (w : World) (h : lex_Lex.f a0 = some (r1, r2)) :
    Calls Tryd.prog 14 #[.string a0] w fun e w' => ∃ v0_ : Value, e = .returned (.tuple #[v0_, .int .i64 r2]) ∧ Kd.R k35 35 w' w.heap.size (fun _ => True) v0_ r1 ∧ Below w.heap.size w w' := by
  have HB := Aside0.mk (Below.refl w.heap.size w)
  unfold lex_Lex.f at h
  by_cases c2 : (a0.size : Int) > 60
  · rw [if_pos c2] at h
    simp only [Option.some.injEq, Prod.mk.injEq] at h
    obtain ⟨rfl, rfl⟩ := h
    go_enter Tryd.func14, Tryd.ntmps14
    go_wp2
    refine wp_scope_straight ?_
    go_wp2
    rw [Exit.noGoto_ret]
    go_ret2
    exact ⟨_, rfl, Kd.R_nil _ _ _ _ _, HB.out⟩
  · rw [if_neg c2] at h
    have H := Lib.hid h
    clear h
    have c2b : (a0.size : Int) ≤ 60 := by omega
    clear c2
    go_enter Tryd.func14, Tryd.ntmps14
    go_wp2
    refine wp_scope_labels (lex_Lex.I w r1 r2) ?_ ?_
    · intro l n a w1 hI K hK
      unfold lex_Lex.I at hI
      obtain ⟨k, hI⟩ := hI
      obtain ⟨s, hI⟩ := hI
      obtain ⟨x, hI⟩ := hI
      obtain ⟨v4, hI⟩ := hI
      obtain ⟨u1, hI⟩ := hI
      obtain ⟨u2, hI⟩ := hI
      obtain ⟨u3, hI⟩ := hI
      obtain ⟨u5, hI⟩ := hI
      obtain ⟨u6, hI⟩ := hI
      obtain ⟨u7, hI⟩ := hI
      obtain ⟨u8, hI⟩ := hI
      obtain ⟨u9, hI⟩ := hI
      obtain ⟨u10, hI⟩ := hI
      obtain ⟨u11, hI⟩ := hI
      obtain ⟨u12, hI⟩ := hI
      obtain ⟨u13, hI⟩ := hI
      obtain ⟨u14, hI⟩ := hI
      obtain ⟨u15, hI⟩ := hI
      obtain ⟨u16, hI⟩ := hI
      obtain ⟨u17, hI⟩ := hI
      obtain ⟨u18, hI⟩ := hI
      obtain ⟨u19, hI⟩ := hI
      obtain ⟨u20, hI⟩ := hI
      obtain ⟨u21, hI⟩ := hI
      obtain ⟨u22, hI⟩ := hI
      obtain ⟨u23, hI⟩ := hI
      obtain ⟨u24, hI⟩ := hI
      obtain ⟨u25, hI⟩ := hI
      obtain ⟨u26, hI⟩ := hI
      obtain ⟨u27, hI⟩ := hI
      obtain ⟨u28, hI⟩ := hI
      obtain ⟨u29, hI⟩ := hI
      obtain ⟨u30, hI⟩ := hI
      obtain ⟨u31, hI⟩ := hI
      obtain ⟨u32, hI⟩ := hI
      obtain ⟨u33, hI⟩ := hI
      obtain ⟨u34, hI⟩ := hI
      obtain ⟨u35, hI⟩ := hI
      obtain ⟨u36, hI⟩ := hI
      obtain ⟨u37, hI⟩ := hI
      obtain ⟨u38, hI⟩ := hI
      obtain ⟨u39, hI⟩ := hI
      obtain ⟨u40, hI⟩ := hI
      obtain ⟨u41, hI⟩ := hI
      obtain ⟨u42, hI⟩ := hI
      obtain ⟨u43, hI⟩ := hI
      obtain ⟨u44, hI⟩ := hI
      obtain ⟨u45, hI⟩ := hI
      obtain ⟨u46, hI⟩ := hI
      obtain ⟨u47, hI⟩ := hI
      obtain ⟨u48, hI⟩ := hI
      obtain ⟨u49, hI⟩ := hI
      obtain ⟨u50, hI⟩ := hI
      obtain ⟨u51, hI⟩ := hI
      obtain ⟨u52, hI⟩ := hI
      obtain ⟨u53, hI⟩ := hI
      obtain ⟨u54, hI⟩ := hI
      obtain ⟨u55, hI⟩ := hI
      obtain ⟨u56, hI⟩ := hI
      obtain ⟨u57, hI⟩ := hI
      obtain ⟨u58, hI⟩ := hI
      obtain ⟨u59, hI⟩ := hI
      obtain ⟨u60, hI⟩ := hI
      obtain ⟨u61, hI⟩ := hI
      obtain ⟨u62, hI⟩ := hI
      obtain ⟨u63, hI⟩ := hI
      obtain ⟨u64, hI⟩ := hI
      obtain ⟨u65, hI⟩ := hI
      obtain ⟨u66, hI⟩ := hI
      obtain ⟨u67, hI⟩ := hI
      obtain ⟨u68, hI⟩ := hI
      obtain ⟨u69, hI⟩ := hI
      obtain ⟨u70, hI⟩ := hI
      obtain ⟨u71, hI⟩ := hI
      obtain ⟨u72, hI⟩ := hI
      obtain ⟨u73, hI⟩ := hI
      obtain ⟨u74, hI⟩ := hI
      obtain ⟨u75, hI⟩ := hI
      obtain ⟨u76, hI⟩ := hI
      obtain ⟨u77, hI⟩ := hI
      obtain ⟨u78, hI⟩ := hI
      obtain ⟨u79, hI⟩ := hI
      obtain ⟨u80, hI⟩ := hI
      obtain ⟨u81, hI⟩ := hI
      obtain ⟨u82, hI⟩ := hI
      obtain ⟨u83, hI⟩ := hI
      obtain ⟨u84, hI⟩ := hI
      obtain ⟨u85, hI⟩ := hI
      obtain ⟨u86, hI⟩ := hI
      obtain ⟨ha, hlen, hO, hB1, HJ⟩ := hI
      subst ha
      have HK := Lib.hid hK
      have HO := Aside0.mk hO
      clear HB c2b H hK hO
      have HB := Aside0.mk hB1
      clear hB1
      rcases HJ with ⟨rfl, rfl, hJ⟩ | ⟨rfl, rfl, hs0, hdg, hJ⟩
      · refine ⟨_, rfl, ?_⟩
        cases k with
        | zero => exact absurd hJ (by simp [lex_Lex.l0])
        | succ k =>
          obtain ⟨s1, hs1⟩ : ∃ s1, lexTrim s = s1 := ⟨_, rfl⟩
          have hsz := lexTrim_size s
          simp only [lex_Lex.l0, hs1] at hJ hsz
          have HS1 := Lib.hid hs1
          clear hs1
          by_cases c1 : s1.size = 0
          · rw [if_pos c1] at hJ
            simp only [Option.some.injEq, Prod.mk.injEq] at hJ
            obtain ⟨rfl, rfl⟩ := hJ
            have e1 := str_empty s1 c1
            clear c1 hsz hlen
            go_wp2_with (first
              | (go_at_call 32; refine (trim_calls _ _ _ HS1.out).mono ?_; rintro e w2 ⟨rfl, rfl⟩))
            refine jumps_ret ?_
            go_ret2
            exact ⟨_, rfl, HO.out, HB.out⟩
          · rw [if_neg c1] at hJ
            have e1 := (str_some s1 c1).1
            have e2 := (str_some s1 c1).2
            have q0 : (0 : Int) < (s1.size : Int) := by omega
            have q1 : 0 < s1.size := by omega
            have hb : ((s1[0]'q1).toNat : Int) = bt s1 0 := bt_at s1 0 q1
            have hbr := bt_range s1 0
            have hbw : wrap64 (bt s1 0) = bt s1 0 := by unfold wrap64; omega
            have HX := Lib.hid hsz
            clear hsz c1
            cases d1 : lexDig (bt s1 0)
            · have D1 := Lib.hid d1
              clear d1
              rw [if_neg (by rw [D1.out]; decide)] at hJ
              cases d2 : lexLow (bt s1 0)
              · have D2 := Lib.hid d2
                clear d2
                rw [if_neg (by rw [D2.out]; decide)] at hJ
                have hfit := lex_longest.fit s1 19
                have hbd := lex_longest.bound s1 19
                have hpp : lex_longest.f s1 = some ((lex_longest.to s1 19).1, (lex_longest.to s1 19).2) := rfl
                generalize lex_longest.to s1 19 = p at *
                obtain ⟨p1, p2⟩ := p
                simp only at hpp hfit hbd hJ
                have HP := Aside0.mk hpp
                clear hpp
                by_cases c3 : p2 = 0
                · rw [if_pos c3] at hJ
                  simp only [Option.some.injEq, Prod.mk.injEq] at hJ
                  obtain ⟨rfl, rfl⟩ := hJ
                  have c3b : (p2 == 0) = true := beq_iff_eq.2 c3
                  clear c3 hfit hbd
                  go_wp2_with (first | (go_at_call 32; refine (trim_calls _ _ _ HS1.out).mono ?_; rintro e w2 ⟨rfl, rfl⟩) | (go_at_call 33; (first | (with_reducible refine (dig_calls _ _ _ D1.out).mono ?_) | (with_reducible refine (low_calls _ _ _ D2.out).mono ?_)); rintro e w2 ⟨rfl, rfl⟩) | (go_at_call 34; refine (lex_longest.calls _ _ _ _ HP.out).mono ?_; rintro e w2 ⟨rfl, hb2⟩; have n0_ := Aside0.mk (HB.out.trans (hb2.mono HB.out.size)); have n1_ := Aside0.mk (Kd.R_below HO.out hb2); clear HB HO hb2; have HB := n0_; have HO := n1_; clear n0_ n1_))
                  refine jumps_ret ?_
                  go_ret2
                  exact ⟨_, rfl, Kd.R_nil _ _ _ _ _, HB.out⟩
                · rw [if_neg c3] at hJ
                  have c3b : (p2 == 0) = false := beq_eq_false_iff_ne.2 c3
                  have c3c : ¬ p2 = 0 := c3
                  clear c3
                  have HJ := Lib.hid hJ
                  clear hJ
                  have hlen' : x.length < 8796093022208 := by omega
                  go_wp2_with (first | (go_at_call 32; refine (trim_calls _ _ _ HS1.out).mono ?_; rintro e w2 ⟨rfl, rfl⟩) | (go_at_call 33; (first | (with_reducible refine (dig_calls _ _ _ D1.out).mono ?_) | (with_reducible refine (low_calls _ _ _ D2.out).mono ?_)); rintro e w2 ⟨rfl, rfl⟩) | (go_at_call 34; refine (lex_longest.calls _ _ _ _ HP.out).mono ?_; rintro e w2 ⟨rfl, hb2⟩; have n0_ := Aside0.mk (HB.out.trans (hb2.mono HB.out.size)); have n1_ := Aside0.mk (Kd.R_below HO.out hb2); clear HB HO hb2; have HB := n0_; have HO := n1_; clear n0_ n1_) | (at_builtin; refine Kd.R_append k35 (w0 := w) w.heap.size rfl (.tmp 44) (.tmp 47) 22 35 (.agg #[(.int .i64 0), (.int .i64 0)]) 16 rfl Tryd.underlying22 info35 rfl (by decide) (by omega) v4 x (⟨p1, 0⟩ : S35) [.int .i64 p1, .int .i64 0] (fun _ => True) (fun _ => False) rfl rfl ?aP (fun _ hk => hk.elim) ?aF ?aO ?aB ?aS ?aL ?_; (case aP => exact k35_mkM _ _ _ (⟨p1, 0⟩ : S35)); (case aB => exact (by repeat (first | (with_reducible first | exact HB.out | apply below_alloc | apply pw_below_drewN | apply below_drew1) | exact HB.out))); (case aF => exact (fun _ _ => trivial)); (case aO => exact (by (with_reducible repeat (first | apply Kd.R_alloc | apply Kd.R_drewN | apply Kd.R_drew)); exact HO.out)); (case aS => exact (below_size (by repeat (first | (with_reducible first | exact HB.out | apply below_alloc | apply pw_below_drewN | apply below_drew1) | exact HB.out)))); (case aL => omega); intro v41 w11 ho hb hg hat; have n0_ := Aside0.mk hb; have n1_ := Aside0.mk ho; clear HB; clear HO; have HB := n0_; have HO := n1_; clear n0_ n1_; clear ho hb hg hat))
                  refine wp_goto (show K 0 _ _ from HK.out 0 (2 * k) _ _ (by omega) ?_)
                  unfold lex_Lex.I
                  refine ⟨k, s1.extract p2.toNat s1.size, x ++ [(⟨p1, 0⟩ : S35)], v41, ?_⟩
                  repeat apply Exists.intro
                  refine ⟨rfl, ?_, HO.out, HB.out, Or.inl ⟨rfl, rfl, HJ.out⟩⟩
                  have := HX.out
                  rw [List.length_append, ByteArray.size_extract]
                  simp only [List.length_cons, List.length_nil]
                  omega
              · have D2 := Lib.hid d2
                clear d2
                rw [if_pos D2.out] at hJ
                have HJ := Lib.hid hJ
                clear hJ
                have hlen' : x.length < 8796093022208 := by omega
                go_wp2_with (first | (go_at_call 32; refine (trim_calls _ _ _ HS1.out).mono ?_; rintro e w2 ⟨rfl, rfl⟩) | (go_at_call 33; (first | (with_reducible refine (dig_calls _ _ _ D1.out).mono ?_) | (with_reducible refine (low_calls _ _ _ D2.out).mono ?_)); rintro e w2 ⟨rfl, rfl⟩) | (at_builtin; refine Kd.R_append k35 (w0 := w) w.heap.size rfl (.tmp 27) (.tmp 33) 22 35 (.agg #[(.int .i64 0), (.int .i64 0)]) 16 rfl Tryd.underlying22 info35 rfl (by decide) (by omega) v4 x (⟨2, (bt s1 0 - 97) % 256⟩ : S35) [.int .i64 2, .int .i64 ((bt s1 0 - 97) % 256)] (fun _ => True) (fun _ => False) rfl rfl ?aP (fun _ hk => hk.elim) ?aF ?aO ?aB ?aS ?aL ?_; (case aP => exact k35_mkM _ _ _ (⟨2, (bt s1 0 - 97) % 256⟩ : S35)); (case aB => exact (by repeat (first | (with_reducible first | exact HB.out | apply below_alloc | apply pw_below_drewN | apply below_drew1) | exact HB.out))); (case aF => exact (fun _ _ => trivial)); (case aO => exact (by (with_reducible repeat (first | apply Kd.R_alloc | apply Kd.R_drewN | apply Kd.R_drew)); exact HO.out)); (case aS => exact (below_size (by repeat (first | (with_reducible first | exact HB.out | apply below_alloc | apply pw_below_drewN | apply below_drew1) | exact HB.out)))); (case aL => omega); intro v41 w11 ho hb hg hat; have n0_ := Aside0.mk hb; have n1_ := Aside0.mk ho; clear HB; clear HO; have HB := n0_; have HO := n1_; clear n0_ n1_; clear ho hb hg hat))
                refine wp_goto (show K 0 _ _ from HK.out 0 (2 * k) _ _ (by omega) ?_)
                unfold lex_Lex.I
                refine ⟨k, s1.extract 1 s1.size, x ++ [(⟨2, (bt s1 0 - 97) % 256⟩ : S35)], v41, ?_⟩
                repeat apply Exists.intro
                refine ⟨rfl, ?_, HO.out, HB.out, Or.inl ⟨rfl, rfl, HJ.out⟩⟩
                have := HX.out
                rw [List.length_append, ByteArray.size_extract]
                simp only [List.length_cons, List.length_nil]
                omega
            · have D1 := Lib.hid d1
              clear d1
              rw [if_pos D1.out] at hJ
              have HJ := Lib.hid hJ
              clear hJ
              go_wp2_with (first | (go_at_call 32; refine (trim_calls _ _ _ HS1.out).mono ?_; rintro e w2 ⟨rfl, rfl⟩) | (go_at_call 33; (first | (with_reducible refine (dig_calls _ _ _ D1.out).mono ?_) | (with_reducible refine (low_calls _ _ _ D2.out).mono ?_)); rintro e w2 ⟨rfl, rfl⟩))
              refine wp_goto (show K 1 _ _ from HK.out 1 (2 * k + 1) _ _ (by omega) ?_)
              unfold lex_Lex.I
              refine ⟨k, s1, x, v4, ?_⟩
              repeat apply Exists.intro
              refine ⟨rfl, ?_, HO.out, HB.out, Or.inr ⟨rfl, rfl, q1, D1.out, HJ.out⟩⟩
              have := HX.out
              omega
      · refine ⟨_, rfl, ?_⟩
        obtain ⟨s2, hs2⟩ : ∃ s2, lexRest s = s2 := ⟨_, rfl⟩
        have hcp := cnt_pos s hs0 hdg
        have hv := lexVal_ok s hs0 hdg
        have hrl := rest_le s
        have hcc : ((s.size : Int) - (s2.size : Int)) = (lexCnt s : Int) := by unfold lexCnt; rw [hs2] at hrl ⊢; omega
        have hcs : lexCnt s ≤ s.size := by unfold lexCnt; omega
        rw [hs2] at hrl
        unfold lex_Lex.num at hJ
        generalize lexCnt s = c at *
        generalize lexVal s = v at *
        have HS2 := Lib.hid hs2
        have HX := Lib.hid hdg
        clear hs2 hdg
        have q0 : (0 : Int) < (s.size : Int) := by omega
        have hb : ((s[0]'hs0).toNat : Int) = bt s 0 := bt_at s 0 hs0
        have hcw : wrap64 ((s.size : Int) - (s2.size : Int)) = (c : Int) := by rw [hcc]; unfold wrap64; omega
        by_cases c1 : bt s 0 = 48 ∧ 1 < c
        · rw [if_pos c1] at hJ
          simp only [Option.some.injEq, Prod.mk.injEq] at hJ
          obtain ⟨rfl, rfl⟩ := hJ
          obtain ⟨c1a, c1b⟩ := c1
          have c1a' : (bt s 0 == 48) = true := beq_iff_eq.2 c1a
          clear hv c1a
          go_wp2_with (first | (go_at_call 32; refine (rest_calls _ _ _ HS2.out).mono ?_; rintro e w2 ⟨rfl, hb2⟩; have n0_ := Aside0.mk (HB.out.trans (hb2.mono HB.out.size)); have n1_ := Aside0.mk (Kd.R_below HO.out hb2); clear HB HO hb2; have HB := n0_; have HO := n1_; clear n0_ n1_))
          refine jumps_ret ?_
          go_ret2
          exact ⟨_, rfl, Kd.R_nil _ _ _ _ _, HB.out⟩
        · rw [if_neg c1] at hJ
          have c1' : ((bt s 0 == 48) = false) ∨ ((bt s 0 == 48) = true ∧ c ≤ 1) := by
            by_cases e : bt s 0 = 48
            · exact Or.inr ⟨beq_iff_eq.2 e, by have := fun h => c1 ⟨e, h⟩; omega⟩
            · exact Or.inl (beq_eq_false_iff_ne.2 e)
          clear c1
          by_cases c2 : 10 < c
          · rw [if_pos c2] at hJ
            simp only [Option.some.injEq, Prod.mk.injEq] at hJ
            obtain ⟨rfl, rfl⟩ := hJ
            rw [Nat.min_eq_right (by omega)] at hv
            have HV := Lib.hid hv
            have hs10 : (s.extract 0 10).size ≤ 10 := by rw [ByteArray.size_extract]; omega
            clear hv
            rcases c1' with g | ⟨g, g2⟩
            · go_wp2_with (first | (go_at_call 32; refine (rest_calls _ _ _ HS2.out).mono ?_; rintro e w2 ⟨rfl, hb2⟩; have n0_ := Aside0.mk (HB.out.trans (hb2.mono HB.out.size)); have n1_ := Aside0.mk (Kd.R_below HO.out hb2); clear HB HO hb2; have HB := n0_; have HO := n1_; clear n0_ n1_) | (go_at_call 35; refine (atoi_calls _ _ _ hs10 HV.out).mono ?_; rintro e w2 ⟨rfl, hb2⟩; have n0_ := Aside0.mk (HB.out.trans (hb2.mono HB.out.size)); have n1_ := Aside0.mk (Kd.R_below HO.out hb2); clear HB HO hb2; have HB := n0_; have HO := n1_; clear n0_ n1_))
              refine jumps_ret ?_
              go_ret2
              exact ⟨_, rfl, Kd.R_nil _ _ _ _ _, HB.out⟩
            · exact absurd g2 (by omega)
          · rw [if_neg c2] at hJ
            rw [Nat.min_eq_left (by omega)] at hv
            have HV := Lib.hid hv
            have hs10 : (s.extract 0 c).size ≤ 10 := by rw [ByteArray.size_extract]; omega
            have c2b : c ≤ 10 := by omega
            clear hv c2
            by_cases c3 : 2147483647 < v
            · rw [if_pos c3] at hJ
              simp only [Option.some.injEq, Prod.mk.injEq] at hJ
              obtain ⟨rfl, rfl⟩ := hJ
              rcases c1' with g | ⟨g, g2⟩
              all_goals
                go_wp2_with (first | (go_at_call 32; refine (rest_calls _ _ _ HS2.out).mono ?_; rintro e w2 ⟨rfl, hb2⟩; have n0_ := Aside0.mk (HB.out.trans (hb2.mono HB.out.size)); have n1_ := Aside0.mk (Kd.R_below HO.out hb2); clear HB HO hb2; have HB := n0_; have HO := n1_; clear n0_ n1_) | (go_at_call 35; refine (atoi_calls _ _ _ hs10 HV.out).mono ?_; rintro e w2 ⟨rfl, hb2⟩; have n0_ := Aside0.mk (HB.out.trans (hb2.mono HB.out.size)); have n1_ := Aside0.mk (Kd.R_below HO.out hb2); clear HB HO hb2; have HB := n0_; have HO := n1_; clear n0_ n1_))
                refine jumps_ret ?_
                go_ret2
                exact ⟨_, rfl, Kd.R_nil _ _ _ _ _, HB.out⟩
            · rw [if_neg c3] at hJ
              have HJ := Lib.hid hJ
              clear hJ
              have hlen' : x.length < 8796093022208 := by omega
              rcases c1' with g | ⟨g, g2⟩
              all_goals
                go_wp2_with (first | (go_at_call 32; refine (rest_calls _ _ _ HS2.out).mono ?_; rintro e w2 ⟨rfl, hb2⟩; have n0_ := Aside0.mk (HB.out.trans (hb2.mono HB.out.size)); have n1_ := Aside0.mk (Kd.R_below HO.out hb2); clear HB HO hb2; have HB := n0_; have HO := n1_; clear n0_ n1_) | (go_at_call 35; refine (atoi_calls _ _ _ hs10 HV.out).mono ?_; rintro e w2 ⟨rfl, hb2⟩; have n0_ := Aside0.mk (HB.out.trans (hb2.mono HB.out.size)); have n1_ := Aside0.mk (Kd.R_below HO.out hb2); clear HB HO hb2; have HB := n0_; have HO := n1_; clear n0_ n1_) | (at_builtin; refine Kd.R_append k35 (w0 := w) w.heap.size rfl (.tmp 79) (.tmp 82) 22 35 (.agg #[(.int .i64 0), (.int .i64 0)]) 16 rfl Tryd.underlying22 info35 rfl (by decide) (by omega) v4 x (⟨1, v⟩ : S35) [.int .i64 1, .int .i64 v] (fun _ => True) (fun _ => False) rfl rfl ?aP (fun _ hk => hk.elim) ?aF ?aO ?aB ?aS ?aL ?_; (case aP => exact k35_mkM _ _ _ (⟨1, v⟩ : S35)); (case aB => exact (by repeat (first | (with_reducible first | exact HB.out | apply below_alloc | apply pw_below_drewN | apply below_drew1) | exact HB.out))); (case aF => exact (fun _ _ => trivial)); (case aO => exact (by (with_reducible repeat (first | apply Kd.R_alloc | apply Kd.R_drewN | apply Kd.R_drew)); exact HO.out)); (case aS => exact (below_size (by repeat (first | (with_reducible first | exact HB.out | apply below_alloc | apply pw_below_drewN | apply below_drew1) | exact HB.out)))); (case aL => omega); intro v41 w11 ho hb hg hat; have n0_ := Aside0.mk hb; have n1_ := Aside0.mk ho; clear HB; clear HO; have HB := n0_; have HO := n1_; clear n0_ n1_; clear ho hb hg hat))
                refine wp_goto (show K 0 _ _ from HK.out 0 (2 * k) _ _ (by omega) ?_)
                unfold lex_Lex.I
                refine ⟨k, s.extract c s.size, x ++ [(⟨1, v⟩ : S35)], v41, ?_⟩
                repeat apply Exists.intro
                refine ⟨rfl, ?_, HO.out, HB.out, Or.inl ⟨rfl, rfl, HJ.out⟩⟩
                rw [List.length_append, ByteArray.size_extract]
                simp only [List.length_cons, List.length_nil]
                omega
    · intro K hK hR
      have HK := Lib.hid hK
      have HR := Lib.hid hR
      have HB' := HB
      clear hK hR
      go_wp2
      go_step3
      go_step
      rename_i K1 hK1
      refine hK1 _ _ (HR.out 0 _ rfl (2 * (a0.size + 1)) _ _ ?_)
      unfold lex_Lex.I
      refine ⟨a0.size + 1, a0, [], .slice none 0 0, ?_⟩
      repeat apply Exists.intro
      refine ⟨rfl, by simp only [List.length_nil]; omega, Kd.R_nil _ _ _ _ _, HB.out, Or.inl ⟨rfl, rfl, H.out⟩⟩


end Go.Proofs.YtojfdekiponccaaDoor.H
