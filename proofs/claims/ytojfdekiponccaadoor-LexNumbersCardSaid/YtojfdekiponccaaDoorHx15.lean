-- Written by hp.py (a program of this session, over the kit's print.py), with hand-made contracts beside it.
import Derived.Test.YtojfdekiponccaaDoorHx0
import Derived.Test.YtojfdekiponccaaDoorHx1
import Derived.Test.YtojfdekiponccaaDoorHx3
import Derived.Test.YtojfdekiponccaaDoorHx7
import Derived.Test.YtojfdekiponccaaDoorHx9
import Derived.Test.YtojfdekiponccaaDoorHTabs
namespace Go.Proofs.YtojfdekiponccaaDoor.H
open Go.RowKit Go.Proofs.YtojfdekiponccaaDoorW.PrintWords Go.Proofs.YtojfdekiponccaaDoorW.PrintLast Go.Proofs.YtojfdekiponccaaDoorW.PrintMore
attribute [local go_sem] max2_int min2_int max_two min_two max_three min_three max_four min_four   -- for this text's walks alone
set_option linter.unusedVariables false
set_option linter.unusedSimpArgs false

attribute [local go_sem high] eqA35
/-! ### remontoirlaw13_LexNumbers: function 6 -/
def remontoirlaw13_LexNumbers.f (k : Nat) (a0 : Int) (a1 : Int) : Option (Bool) := (remontoirref02_Digits.f k a0).bind fun t255 => ((lex_Lex.f t255).bind fun bt256 => (if 1 + t255.size ≤ 9223372036854775807 then ((lex_Lex.f ((⟨#[48]⟩ : ByteArray) ++ t255)).bind fun bt260 => (if bt260.2 = 2 then (if a0 > 2147483647 then (if bt256.2 = 3 then (if (bt256.1.length : Int) = 0 then ((remontoirlaw13_wakes.f k).bind fun t264 => (some t264)) else (some false)) else (some false)) else ((remontoirref02_Digits.f k (IntKind.u64.wrap (a1))).bind fun t265 => (if t265.size + 1 ≤ 9223372036854775807 then (if (t265 ++ (⟨#[32]⟩ : ByteArray)).size + t255.size ≤ 9223372036854775807 then ((lex_Lex.f ((t265 ++ (⟨#[32]⟩ : ByteArray)) ++ t255)).bind fun bt266 => (if bt256.2 = 0 then (if (bt256.1.length : Int) = 1 then (if 0 < (bt256.1.length : Int) then (if (((rd_T35 bt256.1 0).f0) == 1 && (((rd_T35 bt256.1 0).f1) == (wrap64 (a0)))) = true then (if bt266.2 = 0 then (if (bt266.1.length : Int) = 2 then (if 0 < (bt266.1.length : Int) then (if ((rd_T35 bt266.1 0).f1) = (wrap64 (a1)) then (if 1 < (bt266.1.length : Int) then (if (((rd_T35 bt266.1 1).f0) == ((rd_T35 bt256.1 0).f0) && (((rd_T35 bt266.1 1).f1) == ((rd_T35 bt256.1 0).f1))) = true then ((remontoirlaw13_wakes.f k).bind fun t274 => (some t274)) else (some false)) else (none)) else (some false)) else (none)) else (some false)) else (some false)) else (some false)) else (none)) else (some false)) else (some false))) else (none)) else (none)))) else (some false))) else (none)))
theorem remontoirlaw13_LexNumbers.mono : ∀ a0 a1 k, LeO (remontoirlaw13_LexNumbers.f k a0 a1) (remontoirlaw13_LexNumbers.f (k + 1) a0 a1) := by
  intro a0 a1 k
  unfold remontoirlaw13_LexNumbers.f
  repeat' first
      | (with_reducible exact remontoirlaw13_wakes.mono _)
      | (with_reducible exact remontoirref02_Digits.mono _ _)
      | (with_reducible exact LeO.refl _)
      | (with_reducible exact LeO.none _)
      | (with_reducible refine LeO.ite ?_ ?_)
      | (with_reducible refine LeO.bind ?_ (fun _ => ?_))
      | exact remontoirlaw13_wakes.mono _
      | exact remontoirref02_Digits.mono _ _
      | exact LeO.none _
      | refine LeO.ite ?_ ?_
      | refine LeO.bind ?_ (fun _ => ?_)
def remontoirlaw13_LexNumbers.T10 : Bool × List (List Nat × List Nat) := (true, [([], []), ([0], [0]), ([1], [1]), ([2], [2]), ([3, 2], [2, 3]), ([4, 2], [2, 4]), ([2, 5], [2, 5]), ([6, 2], [6]), ([7], [7]), ([8, 7], [7, 8]), ([9, 7], [7, 9]), ([7], [7]), ([11, 7], [7, 11]), ([12, 7], [7, 12]), ([10, 13, 7], [7, 10, 13]), ([7, 14], [7, 14]), ([15, 7], [15]), ([16], [16]), ([17, 16], [16, 17]), ([16, 18], [16, 18]), ([19, 16], [19]), ([20], [20]), ([21, 20], [20, 21]), ([22, 20], [20, 22]), ([20, 23], [20, 23]), ([24, 20], [24]), ([25], [25]), ([26, 25], [25, 26]), ([27, 25], [25, 27]), ([28, 25], [25, 28]), ([25], [25]), ([30, 25], [25, 30]), ([29, 31, 25], [25, 29, 31]), ([25, 32], [25, 32]), ([33, 25], [33]), ([34], [34]), ([35, 34], [34, 35]), ([36, 34], [34, 36]), ([34], [34]), ([38, 34], [34, 38]), ([39, 34], [34, 39]), ([37, 40, 34], [34, 37, 40]), ([34, 41], [34, 41]), ([42, 34], [42]), ([43, 43], [43]), ([43, 44], [43, 44]), ([45, 44, 0, 1, 2, 3, 4, 5, 6, 7, 8, 9, 10, 11, 12, 13, 14, 15, 16, 17, 18, 19, 20, 21, 22, 23, 24, 25, 26, 27, 28, 29, 30, 31, 32, 33, 34, 35, 36, 37, 38, 39, 40, 41, 42, 43, 44, 45], [45])])
def remontoirlaw13_LexNumbers.B10 : List Nat := [0, 1, 3, 7, 15, 31, 63, 127, 255, 511, 1023, 255, 2303, 6399, 16383, 32767, 65535, 131071, 262143, 524287, 1048575, 2097151, 4194303, 8388607, 16777215, 33554431, 67108863, 134217727, 268435455, 536870911, 67108863, 1140850687, 4294967295, 8589934591, 17179869183, 34359738367, 68719476735, 137438953471, 34359738367, 309237645311, 858993459199, 2199023255551, 4398046511103, 8796093022207, 17592186044415, 35184372088831, 70368744177663]
theorem remontoirlaw13_LexNumbers.tab10 : rtab .any (opsOf Tryd.f6 10) = remontoirlaw13_LexNumbers.T10 := by kernel_rfl
theorem remontoirlaw13_LexNumbers.bits10 : waitsOk remontoirlaw13_LexNumbers.T10.2 remontoirlaw13_LexNumbers.B10 = true := by kernel_rfl
set_option maxHeartbeats 8000000 in
set_option maxRecDepth 100000 in
theorem remontoirlaw13_LexNumbers.calls (k : Nat) (a0 : Int) (a1 : Int) (w : World) (hT : Tabs w) (h : remontoirlaw13_LexNumbers.f k a0 a1 = some true) :
    Calls Tryd.prog 6 #[.int .u64 a0, .int .u16 a1] w fun e w' => e = .returned (.bool true) ∧ Below w.heap.size w w' := by
  have hu35 := Tryd.underlying35
  have HB := Aside0.mk (Below.refl w.heap.size w)
  have H : ((remontoirref02_Digits.f k a0).bind fun t255 => ((lex_Lex.f t255).bind fun bt256 => (if 1 + t255.size ≤ 9223372036854775807 then ((lex_Lex.f ((⟨#[48]⟩ : ByteArray) ++ t255)).bind fun bt260 => (if bt260.2 = 2 then (if a0 > 2147483647 then (if bt256.2 = 3 then (if (bt256.1.length : Int) = 0 then ((remontoirlaw13_wakes.f k).bind fun t264 => (some t264)) else (some false)) else (some false)) else ((remontoirref02_Digits.f k (IntKind.u64.wrap (a1))).bind fun t265 => (if t265.size + 1 ≤ 9223372036854775807 then (if (t265 ++ (⟨#[32]⟩ : ByteArray)).size + t255.size ≤ 9223372036854775807 then ((lex_Lex.f ((t265 ++ (⟨#[32]⟩ : ByteArray)) ++ t255)).bind fun bt266 => (if bt256.2 = 0 then (if (bt256.1.length : Int) = 1 then (if 0 < (bt256.1.length : Int) then (if (((rd_T35 bt256.1 0).f0) == 1 && (((rd_T35 bt256.1 0).f1) == (wrap64 (a0)))) = true then (if bt266.2 = 0 then (if (bt266.1.length : Int) = 2 then (if 0 < (bt266.1.length : Int) then (if ((rd_T35 bt266.1 0).f1) = (wrap64 (a1)) then (if 1 < (bt266.1.length : Int) then (if (((rd_T35 bt266.1 1).f0) == ((rd_T35 bt256.1 0).f0) && (((rd_T35 bt266.1 1).f1) == ((rd_T35 bt256.1 0).f1))) = true then ((remontoirlaw13_wakes.f k).bind fun t274 => (some t274)) else (some false)) else (none)) else (some false)) else (none)) else (some false)) else (some false)) else (some false)) else (none)) else (some false)) else (some false))) else (none)) else (none)))) else (some false))) else (none)))) = some true := h
  clear h
  replace H := Option.bind_eq_some_iff.mp H
  obtain ⟨t255, A30, H⟩ := H
  replace H : ((lex_Lex.f t255).bind fun bt256 => (if 1 + t255.size ≤ 9223372036854775807 then ((lex_Lex.f ((⟨#[48]⟩ : ByteArray) ++ t255)).bind fun bt260 => (if bt260.2 = 2 then (if a0 > 2147483647 then (if bt256.2 = 3 then (if (bt256.1.length : Int) = 0 then ((remontoirlaw13_wakes.f k).bind fun t264 => (some t264)) else (some false)) else (some false)) else ((remontoirref02_Digits.f k (IntKind.u64.wrap (a1))).bind fun t265 => (if t265.size + 1 ≤ 9223372036854775807 then (if (t265 ++ (⟨#[32]⟩ : ByteArray)).size + t255.size ≤ 9223372036854775807 then ((lex_Lex.f ((t265 ++ (⟨#[32]⟩ : ByteArray)) ++ t255)).bind fun bt266 => (if bt256.2 = 0 then (if (bt256.1.length : Int) = 1 then (if 0 < (bt256.1.length : Int) then (if (((rd_T35 bt256.1 0).f0) == 1 && (((rd_T35 bt256.1 0).f1) == (wrap64 (a0)))) = true then (if bt266.2 = 0 then (if (bt266.1.length : Int) = 2 then (if 0 < (bt266.1.length : Int) then (if ((rd_T35 bt266.1 0).f1) = (wrap64 (a1)) then (if 1 < (bt266.1.length : Int) then (if (((rd_T35 bt266.1 1).f0) == ((rd_T35 bt256.1 0).f0) && (((rd_T35 bt266.1 1).f1) == ((rd_T35 bt256.1 0).f1))) = true then ((remontoirlaw13_wakes.f k).bind fun t274 => (some t274)) else (some false)) else (none)) else (some false)) else (none)) else (some false)) else (some false)) else (some false)) else (none)) else (some false)) else (some false))) else (none)) else (none)))) else (some false))) else (none))) = some true := H
  have A3 := Aside0.mk A30
  clear A30
  replace H := Option.bind_eq_some_iff.mp H
  obtain ⟨⟨t256, t257⟩, A40, H⟩ := H
  replace H : (if 1 + t255.size ≤ 9223372036854775807 then ((lex_Lex.f ((⟨#[48]⟩ : ByteArray) ++ t255)).bind fun bt260 => (if bt260.2 = 2 then (if a0 > 2147483647 then (if t257 = 3 then (if (t256.length : Int) = 0 then ((remontoirlaw13_wakes.f k).bind fun t264 => (some t264)) else (some false)) else (some false)) else ((remontoirref02_Digits.f k (IntKind.u64.wrap (a1))).bind fun t265 => (if t265.size + 1 ≤ 9223372036854775807 then (if (t265 ++ (⟨#[32]⟩ : ByteArray)).size + t255.size ≤ 9223372036854775807 then ((lex_Lex.f ((t265 ++ (⟨#[32]⟩ : ByteArray)) ++ t255)).bind fun bt266 => (if t257 = 0 then (if (t256.length : Int) = 1 then (if 0 < (t256.length : Int) then (if (((rd_T35 t256 0).f0) == 1 && (((rd_T35 t256 0).f1) == (wrap64 (a0)))) = true then (if bt266.2 = 0 then (if (bt266.1.length : Int) = 2 then (if 0 < (bt266.1.length : Int) then (if ((rd_T35 bt266.1 0).f1) = (wrap64 (a1)) then (if 1 < (bt266.1.length : Int) then (if (((rd_T35 bt266.1 1).f0) == ((rd_T35 t256 0).f0) && (((rd_T35 bt266.1 1).f1) == ((rd_T35 t256 0).f1))) = true then ((remontoirlaw13_wakes.f k).bind fun t274 => (some t274)) else (some false)) else (none)) else (some false)) else (none)) else (some false)) else (some false)) else (some false)) else (none)) else (some false)) else (some false))) else (none)) else (none)))) else (some false))) else (none)) = some true := H
  have A4 := Aside0.mk A40
  clear A40
  by_cases c5 : 1 + t255.size ≤ 9223372036854775807
  · rw [if_pos c5] at H
    have c5b0 := eq_true c5
    have c5b1 : decide (1 + t255.size ≤ 9223372036854775807) = true := decide_eq_true c5
    try have c5b2 : (9223372036854775807 < 1 + t255.size) = False := eq_false (Nat.not_lt.2 c5)
    replace H := Option.bind_eq_some_iff.mp H
    obtain ⟨⟨t260, t261⟩, A60, H⟩ := H
    replace H : (if t261 = 2 then (if a0 > 2147483647 then (if t257 = 3 then (if (t256.length : Int) = 0 then ((remontoirlaw13_wakes.f k).bind fun t264 => (some t264)) else (some false)) else (some false)) else ((remontoirref02_Digits.f k (IntKind.u64.wrap (a1))).bind fun t265 => (if t265.size + 1 ≤ 9223372036854775807 then (if (t265 ++ (⟨#[32]⟩ : ByteArray)).size + t255.size ≤ 9223372036854775807 then ((lex_Lex.f ((t265 ++ (⟨#[32]⟩ : ByteArray)) ++ t255)).bind fun bt266 => (if t257 = 0 then (if (t256.length : Int) = 1 then (if 0 < (t256.length : Int) then (if (((rd_T35 t256 0).f0) == 1 && (((rd_T35 t256 0).f1) == (wrap64 (a0)))) = true then (if bt266.2 = 0 then (if (bt266.1.length : Int) = 2 then (if 0 < (bt266.1.length : Int) then (if ((rd_T35 bt266.1 0).f1) = (wrap64 (a1)) then (if 1 < (bt266.1.length : Int) then (if (((rd_T35 bt266.1 1).f0) == ((rd_T35 t256 0).f0) && (((rd_T35 bt266.1 1).f1) == ((rd_T35 t256 0).f1))) = true then ((remontoirlaw13_wakes.f k).bind fun t274 => (some t274)) else (some false)) else (none)) else (some false)) else (none)) else (some false)) else (some false)) else (some false)) else (none)) else (some false)) else (some false))) else (none)) else (none)))) else (some false)) = some true := H
    have A6 := Aside0.mk A60
    clear A60
    by_cases c7 : t261 = 2
    · rw [if_pos c7] at H
      have c7b0 : (t261 == 2) = true := beq_iff_eq.mpr c7
      have c7b1 : (t261 != 2) = false := bne_eq_false_iff_eq.mpr c7
      clear c7
      by_cases c8 : a0 > 2147483647
      · rw [if_pos c8] at H
        have c8b0 : decide (2147483647 < a0) = true := decide_eq_true c8
        clear c8
        by_cases c9 : t257 = 3
        · rw [if_pos c9] at H
          have c9b0 : (t257 == 3) = true := beq_iff_eq.mpr c9
          have c9b1 : (t257 != 3) = false := bne_eq_false_iff_eq.mpr c9
          clear c9
          by_cases c10 : (t256.length : Int) = 0
          · rw [if_pos c10] at H
            have c10b0 : ((t256.length : Int) == 0) = true := beq_iff_eq.mpr c10
            have c10b1 : ((t256.length : Int) != 0) = false := bne_eq_false_iff_eq.mpr c10
            clear c10
            replace H := Option.bind_eq_some_iff.mp H
            obtain ⟨t264, A110, H⟩ := H
            replace H : (some t264) = some true := H
            have A11 := Aside0.mk A110
            clear A110
            obtain rfl := Option.some.inj H
            go_enter Tryd.func6, Tryd.ntmps6
            go_wp2_with (first | ((with_reducible refine gate_callee (f := 23) rfl ?_); refine goesL_ (some 14) rfl rfl Tryd.func23 (by kernel_rfl) rfl #[.int .u64 a0] rfl (by (try simp only [List.map_toArray, List.map_cons, List.map_nil]); first | done | rfl | (simp only [List.length_drop, List.length_take]; rfl)) ?_; (with_reducible refine (remontoirref02_Digits.calls k a0 t255 _ A3.out).mono ?_); rintro e w12 ⟨rfl, hb⟩; refine ⟨_, rfl, ?_⟩; have n0_ := Aside0.mk (below_step (by repeat (first | (with_reducible first | exact HB.out | apply below_alloc | apply pw_below_drewN | apply below_drew1) | exact HB.out)) hb); clear HB; have HB := n0_; clear n0_; (try clear hb); (try clear hb2); (try clear hk); (try clear hi)) | ((with_reducible refine gate_callee (f := 14) rfl ?_); refine goesL_ (some 17) rfl rfl Tryd.func14 (by kernel_rfl) rfl #[.string t255] rfl (by (try simp only [List.map_toArray, List.map_cons, List.map_nil]); first | done | rfl | (simp only [List.length_drop, List.length_take]; rfl)) ?_; (with_reducible refine (lex_Lex.calls t255 t256 t257 _ A4.out).mono ?_); rintro e w13 ⟨v258, rfl, ho0, hb⟩; refine ⟨_, rfl, ?_⟩; have n0_ := Aside0.mk (Kd.R_lower ho0 (below_size (by repeat (first | (with_reducible first | exact HB.out | apply below_alloc | apply pw_below_drewN | apply below_drew1) | exact HB.out)))); have n1_ := Aside0.mk (below_step (by repeat (first | (with_reducible first | exact HB.out | apply below_alloc | apply pw_below_drewN | apply below_drew1) | exact HB.out)) hb); clear HB; have HO259 := n0_; have HB := n1_; clear n0_ n1_; (try clear hb); (try clear hb2); (try clear hk); (try clear hi); (try clear ho0)) | ((with_reducible refine gate_callee (f := 14) rfl ?_); refine goesL_ (some 23) rfl rfl Tryd.func14 (by kernel_rfl) rfl #[.string ((⟨#[48]⟩ : ByteArray) ++ t255)] rfl (by (try simp only [List.map_toArray, List.map_cons, List.map_nil]); first | done | rfl | (simp only [List.length_drop, List.length_take]; rfl)) ?_; (with_reducible refine (lex_Lex.calls ((⟨#[48]⟩ : ByteArray) ++ t255) t260 t261 _ A6.out).mono ?_); rintro e w14 ⟨v262, rfl, ho0, hb⟩; refine ⟨_, rfl, ?_⟩; have n0_ := Aside0.mk (Kd.R_elder' (by (with_reducible repeat (first | apply Kd.R_alloc | apply Kd.R_drewN | apply Kd.R_drew)); exact HO259.out) (Kd.R_base ho0) hb); have n1_ := Aside0.mk (Kd.R_lower (Kd.R_new' ho0 (Kd.R_lt (by (with_reducible repeat (first | apply Kd.R_alloc | apply Kd.R_drewN | apply Kd.R_drew)); exact HO259.out))) (below_size (by repeat (first | (with_reducible first | exact HB.out | apply below_alloc | apply pw_below_drewN | apply below_drew1) | exact HB.out)))); have n2_ := Aside0.mk (below_step (by repeat (first | (with_reducible first | exact HB.out | apply below_alloc | apply pw_below_drewN | apply below_drew1) | exact HB.out)) hb); clear HO259; clear HB; have HO259 := n0_; have HO263 := n1_; have HB := n2_; clear n0_ n1_ n2_; (try clear hb); (try clear hb2); (try clear hk); (try clear hi); (try clear ho0); obtain ⟨Ao15, co15, eo15⟩ := Kd.R_slice HO259.out; subst eo15) | (go_at_call 13; (with_reducible refine (remontoirlaw13_wakes.calls k  true _ (Tabs.below hT (by repeat (first | (with_reducible first | exact HB.out | apply below_alloc | apply pw_below_drewN | apply below_drew1) | exact HB.out))) A11.out).mono ?_); rintro e w16 ⟨rfl, hb⟩; have n0_ := Aside0.mk (Kd.R_below (by (with_reducible repeat (first | apply Kd.R_alloc | apply Kd.R_drewN | apply Kd.R_drew)); exact HO259.out) hb); have n1_ := Aside0.mk (Kd.R_below (by (with_reducible repeat (first | apply Kd.R_alloc | apply Kd.R_drewN | apply Kd.R_drew)); exact HO263.out) hb); have n2_ := Aside0.mk (below_step (by repeat (first | (with_reducible first | exact HB.out | apply below_alloc | apply pw_below_drewN | apply below_drew1) | exact HB.out)) hb); clear HO259; clear HO263; clear HB; have HO259 := n0_; have HO263 := n1_; have HB := n2_; clear n0_ n1_ n2_; (try clear hb); (try clear hb2); (try clear hk); (try clear hi)))
            go_ret
            exact ⟨by first | rfl | (simp [errW_none, errW_some] <;> rfl) | (simp [*, errW_none, errW_some] <;> rfl), by repeat (first | (with_reducible first | exact HB.out | apply below_alloc | apply pw_below_drewN | apply below_drew1) | exact HB.out)⟩
          · rw [if_neg c10] at H
            have c10b0 : ((t256.length : Int) == 0) = false := beq_eq_false_iff_ne.mpr c10
            have c10b1 : ((t256.length : Int) != 0) = true := bne_iff_ne.mpr c10
            have c10b2 : ¬ (t256 = []) := fun h_ => c10 (by rw [h_]; rfl)
            exact absurd (Option.some.inj H) (by decide)
        · rw [if_neg c9] at H
          have c9b0 : (t257 == 3) = false := beq_eq_false_iff_ne.mpr c9
          have c9b1 : (t257 != 3) = true := bne_iff_ne.mpr c9
          exact absurd (Option.some.inj H) (by decide)
      · rw [if_neg c8] at H
        have c8b0 : decide (2147483647 < a0) = false := decide_eq_false c8
        clear c8
        replace H := Option.bind_eq_some_iff.mp H
        obtain ⟨t265, A240, H⟩ := H
        replace H : (if t265.size + 1 ≤ 9223372036854775807 then (if (t265 ++ (⟨#[32]⟩ : ByteArray)).size + t255.size ≤ 9223372036854775807 then ((lex_Lex.f ((t265 ++ (⟨#[32]⟩ : ByteArray)) ++ t255)).bind fun bt266 => (if t257 = 0 then (if (t256.length : Int) = 1 then (if 0 < (t256.length : Int) then (if (((rd_T35 t256 0).f0) == 1 && (((rd_T35 t256 0).f1) == (wrap64 (a0)))) = true then (if bt266.2 = 0 then (if (bt266.1.length : Int) = 2 then (if 0 < (bt266.1.length : Int) then (if ((rd_T35 bt266.1 0).f1) = (wrap64 (a1)) then (if 1 < (bt266.1.length : Int) then (if (((rd_T35 bt266.1 1).f0) == ((rd_T35 t256 0).f0) && (((rd_T35 bt266.1 1).f1) == ((rd_T35 t256 0).f1))) = true then ((remontoirlaw13_wakes.f k).bind fun t274 => (some t274)) else (some false)) else (none)) else (some false)) else (none)) else (some false)) else (some false)) else (some false)) else (none)) else (some false)) else (some false))) else (none)) else (none)) = some true := H
        have A24 := Aside0.mk A240
        clear A240
        by_cases c25 : t265.size + 1 ≤ 9223372036854775807
        · rw [if_pos c25] at H
          have c25b0 := eq_true c25
          have c25b1 : decide (t265.size + 1 ≤ 9223372036854775807) = true := decide_eq_true c25
          try have c25b2 : (9223372036854775807 < t265.size + 1) = False := eq_false (Nat.not_lt.2 c25)
          by_cases c26 : (t265 ++ (⟨#[32]⟩ : ByteArray)).size + t255.size ≤ 9223372036854775807
          · rw [if_pos c26] at H
            have c26b0 := eq_true c26
            have c26b1 : decide ((t265 ++ (⟨#[32]⟩ : ByteArray)).size + t255.size ≤ 9223372036854775807) = true := decide_eq_true c26
            try (have sz0_ : (⟨#[32]⟩ : ByteArray).size = 1 := rfl; have c26b4 := c26; simp only [ByteArray.size_append, sz0_] at c26b4; have c26b5 := eq_false (Nat.not_lt.2 c26b4); clear sz0_)
            try have c26b2 : (9223372036854775807 < (t265 ++ (⟨#[32]⟩ : ByteArray)).size + t255.size) = False := eq_false (Nat.not_lt.2 c26)
            replace H := Option.bind_eq_some_iff.mp H
            obtain ⟨⟨t266, t267⟩, A270, H⟩ := H
            replace H : (if t257 = 0 then (if (t256.length : Int) = 1 then (if 0 < (t256.length : Int) then (if (((rd_T35 t256 0).f0) == 1 && (((rd_T35 t256 0).f1) == (wrap64 (a0)))) = true then (if t267 = 0 then (if (t266.length : Int) = 2 then (if 0 < (t266.length : Int) then (if ((rd_T35 t266 0).f1) = (wrap64 (a1)) then (if 1 < (t266.length : Int) then (if (((rd_T35 t266 1).f0) == ((rd_T35 t256 0).f0) && (((rd_T35 t266 1).f1) == ((rd_T35 t256 0).f1))) = true then ((remontoirlaw13_wakes.f k).bind fun t274 => (some t274)) else (some false)) else (none)) else (some false)) else (none)) else (some false)) else (some false)) else (some false)) else (none)) else (some false)) else (some false)) = some true := H
            have A27 := Aside0.mk A270
            clear A270
            by_cases c28 : t257 = 0
            · rw [if_pos c28] at H
              have c28b0 : (t257 == 0) = true := beq_iff_eq.mpr c28
              have c28b1 : (t257 != 0) = false := bne_eq_false_iff_eq.mpr c28
              clear c28
              by_cases c29 : (t256.length : Int) = 1
              · rw [if_pos c29] at H
                have c29b0 : ((t256.length : Int) == 1) = true := beq_iff_eq.mpr c29
                have c29b1 : ((t256.length : Int) != 1) = false := bne_eq_false_iff_eq.mpr c29
                clear c29
                by_cases c30 : 0 < (t256.length : Int)
                · rw [if_pos c30] at H
                  have c30b0 : decide (0 < (t256.length : Int)) = true := decide_eq_true c30
                  have c30b1 : decide (0 < t256.length) = true := decide_eq_true (by omega)
                  clear c30
                  by_cases c31 : (((rd_T35 t256 0).f0) == 1 && (((rd_T35 t256 0).f1) == (wrap64 (a0)))) = true
                  · rw [if_pos c31] at H
                    have c31b0 : (((rd_T35 t256 0).f0) == 1 && (((rd_T35 t256 0).f1) == (wrap64 (a0)))) = true := c31
                    (try (have c31b1 : decide (((rd_T35 t256 0).f0) = 1 && (((rd_T35 t256 0).f1) == (wrap64 (a0)))) = true := by simpa using c31))
                    (try (have c31b2 : (((rd_T35 t256 0).f0) == 1 && (((rd_T35 t256 0).f1) == (wrap64 (a0)))) = true := by simpa using c31))
                    clear c31
                    by_cases c32 : t267 = 0
                    · rw [if_pos c32] at H
                      have c32b0 : (t267 == 0) = true := beq_iff_eq.mpr c32
                      have c32b1 : (t267 != 0) = false := bne_eq_false_iff_eq.mpr c32
                      clear c32
                      by_cases c33 : (t266.length : Int) = 2
                      · rw [if_pos c33] at H
                        have c33b0 : ((t266.length : Int) == 2) = true := beq_iff_eq.mpr c33
                        have c33b1 : ((t266.length : Int) != 2) = false := bne_eq_false_iff_eq.mpr c33
                        clear c33
                        by_cases c34 : 0 < (t266.length : Int)
                        · rw [if_pos c34] at H
                          have c34b0 : decide (0 < (t266.length : Int)) = true := decide_eq_true c34
                          have c34b1 : decide (0 < t266.length) = true := decide_eq_true (by omega)
                          clear c34
                          by_cases c35 : ((rd_T35 t266 0).f1) = (wrap64 (a1))
                          · rw [if_pos c35] at H
                            have c35b0 : (((rd_T35 t266 0).f1) == (wrap64 (a1))) = true := beq_iff_eq.mpr c35
                            have c35b1 : (((rd_T35 t266 0).f1) != (wrap64 (a1))) = false := bne_eq_false_iff_eq.mpr c35
                            clear c35
                            by_cases c36 : 1 < (t266.length : Int)
                            · rw [if_pos c36] at H
                              have c36b0 : decide (1 < (t266.length : Int)) = true := decide_eq_true c36
                              have c36b1 : decide (1 < t266.length) = true := decide_eq_true (by omega)
                              clear c36
                              by_cases c37 : (((rd_T35 t266 1).f0) == ((rd_T35 t256 0).f0) && (((rd_T35 t266 1).f1) == ((rd_T35 t256 0).f1))) = true
                              · rw [if_pos c37] at H
                                have c37b0 : (((rd_T35 t266 1).f0) == ((rd_T35 t256 0).f0) && (((rd_T35 t266 1).f1) == ((rd_T35 t256 0).f1))) = true := c37
                                (try (have c37b1 : decide (((rd_T35 t266 1).f0) = ((rd_T35 t256 0).f0) && (((rd_T35 t266 1).f1) == ((rd_T35 t256 0).f1))) = true := by simpa using c37))
                                (try (have c37b2 : (((rd_T35 t266 1).f0) == ((rd_T35 t256 0).f0) && (((rd_T35 t266 1).f1) == ((rd_T35 t256 0).f1))) = true := by simpa using c37))
                                clear c37
                                replace H := Option.bind_eq_some_iff.mp H
                                obtain ⟨t274, A380, H⟩ := H
                                replace H : (some t274) = some true := H
                                have A38 := Aside0.mk A380
                                clear A380
                                obtain rfl := Option.some.inj H
                                go_enter Tryd.func6, Tryd.ntmps6
                                try go_wp2_with (first | ((with_reducible refine gate_callee (f := 23) rfl ?_); refine goesL_ (some 14) rfl rfl Tryd.func23 (by kernel_rfl) rfl #[.int .u64 a0] rfl (by (try simp only [List.map_toArray, List.map_cons, List.map_nil]); first | done | rfl | (simp only [List.length_drop, List.length_take]; rfl)) ?_; (with_reducible refine (remontoirref02_Digits.calls k a0 t255 _ A3.out).mono ?_); rintro e w39 ⟨rfl, hb⟩; refine ⟨_, rfl, ?_⟩; have n0_ := Aside0.mk (below_step (by repeat (first | (with_reducible first | exact HB.out | apply below_alloc | apply pw_below_drewN | apply below_drew1) | exact HB.out)) hb); clear HB; have HB := n0_; clear n0_; (try clear hb); (try clear hb2); (try clear hk); (try clear hi)) | ((with_reducible refine gate_callee (f := 14) rfl ?_); refine goesL_ (some 17) rfl rfl Tryd.func14 (by kernel_rfl) rfl #[.string t255] rfl (by (try simp only [List.map_toArray, List.map_cons, List.map_nil]); first | done | rfl | (simp only [List.length_drop, List.length_take]; rfl)) ?_; (with_reducible refine (lex_Lex.calls t255 t256 t257 _ A4.out).mono ?_); rintro e w40 ⟨v258, rfl, ho0, hb⟩; refine ⟨_, rfl, ?_⟩; have n0_ := Aside0.mk (Kd.R_lower ho0 (below_size (by repeat (first | (with_reducible first | exact HB.out | apply below_alloc | apply pw_below_drewN | apply below_drew1) | exact HB.out)))); have n1_ := Aside0.mk (below_step (by repeat (first | (with_reducible first | exact HB.out | apply below_alloc | apply pw_below_drewN | apply below_drew1) | exact HB.out)) hb); clear HB; have HO259 := n0_; have HB := n1_; clear n0_ n1_; (try clear hb); (try clear hb2); (try clear hk); (try clear hi); (try clear ho0)) | ((with_reducible refine gate_callee (f := 14) rfl ?_); refine goesL_ (some 23) rfl rfl Tryd.func14 (by kernel_rfl) rfl #[.string ((⟨#[48]⟩ : ByteArray) ++ t255)] rfl (by (try simp only [List.map_toArray, List.map_cons, List.map_nil]); first | done | rfl | (simp only [List.length_drop, List.length_take]; rfl)) ?_; (with_reducible refine (lex_Lex.calls ((⟨#[48]⟩ : ByteArray) ++ t255) t260 t261 _ A6.out).mono ?_); rintro e w41 ⟨v262, rfl, ho0, hb⟩; refine ⟨_, rfl, ?_⟩; have n0_ := Aside0.mk (Kd.R_elder' (by (with_reducible repeat (first | apply Kd.R_alloc | apply Kd.R_drewN | apply Kd.R_drew)); exact HO259.out) (Kd.R_base ho0) hb); have n1_ := Aside0.mk (Kd.R_lower (Kd.R_new' ho0 (Kd.R_lt (by (with_reducible repeat (first | apply Kd.R_alloc | apply Kd.R_drewN | apply Kd.R_drew)); exact HO259.out))) (below_size (by repeat (first | (with_reducible first | exact HB.out | apply below_alloc | apply pw_below_drewN | apply below_drew1) | exact HB.out)))); have n2_ := Aside0.mk (below_step (by repeat (first | (with_reducible first | exact HB.out | apply below_alloc | apply pw_below_drewN | apply below_drew1) | exact HB.out)) hb); clear HO259; clear HB; have HO259 := n0_; have HO263 := n1_; have HB := n2_; clear n0_ n1_ n2_; (try clear hb); (try clear hb2); (try clear hk); (try clear hi); (try clear ho0)) | ((with_reducible refine gate_callee (f := 23) rfl ?_); refine goesL_ (some 42) rfl rfl Tryd.func23 (by kernel_rfl) rfl #[.int .u64 (IntKind.u64.wrap (a1))] rfl (by (try simp only [List.map_toArray, List.map_cons, List.map_nil]); first | done | rfl | (simp only [List.length_drop, List.length_take]; rfl)) ?_; (with_reducible refine (remontoirref02_Digits.calls k (IntKind.u64.wrap (a1)) t265 _ A24.out).mono ?_); rintro e w42 ⟨rfl, hb⟩; refine ⟨_, rfl, ?_⟩; have n0_ := Aside0.mk (Kd.R_below (by (with_reducible repeat (first | apply Kd.R_alloc | apply Kd.R_drewN | apply Kd.R_drew)); exact HO259.out) hb); have n1_ := Aside0.mk (Kd.R_below (by (with_reducible repeat (first | apply Kd.R_alloc | apply Kd.R_drewN | apply Kd.R_drew)); exact HO263.out) hb); have n2_ := Aside0.mk (below_step (by repeat (first | (with_reducible first | exact HB.out | apply below_alloc | apply pw_below_drewN | apply below_drew1) | exact HB.out)) hb); clear HO259; clear HO263; clear HB; have HO259 := n0_; have HO263 := n1_; have HB := n2_; clear n0_ n1_ n2_; (try clear hb); (try clear hb2); (try clear hk); (try clear hi)) | ((with_reducible refine gate_callee (f := 14) rfl ?_); refine goesL_ (some 48) rfl rfl Tryd.func14 (by kernel_rfl) rfl #[.string ((t265 ++ (⟨#[32]⟩ : ByteArray)) ++ t255)] rfl (by (try simp only [List.map_toArray, List.map_cons, List.map_nil]); first | done | rfl | (simp only [List.length_drop, List.length_take]; rfl)) ?_; (with_reducible refine (lex_Lex.calls ((t265 ++ (⟨#[32]⟩ : ByteArray)) ++ t255) t266 t267 _ A27.out).mono ?_); rintro e w43 ⟨v268, rfl, ho0, hb⟩; refine ⟨_, rfl, ?_⟩; have n0_ := Aside0.mk (Kd.R_elder' (by (with_reducible repeat (first | apply Kd.R_alloc | apply Kd.R_drewN | apply Kd.R_drew)); exact HO259.out) (Kd.R_base ho0) hb); have n1_ := Aside0.mk (Kd.R_elder' (by (with_reducible repeat (first | apply Kd.R_alloc | apply Kd.R_drewN | apply Kd.R_drew)); exact HO263.out) (Kd.R_base ho0) hb); have n2_ := Aside0.mk (Kd.R_lower (Kd.R_new' (Kd.R_new' ho0 (Kd.R_lt (by (with_reducible repeat (first | apply Kd.R_alloc | apply Kd.R_drewN | apply Kd.R_drew)); exact HO259.out))) (Kd.R_lt (by (with_reducible repeat (first | apply Kd.R_alloc | apply Kd.R_drewN | apply Kd.R_drew)); exact HO263.out))) (below_size (by repeat (first | (with_reducible first | exact HB.out | apply below_alloc | apply pw_below_drewN | apply below_drew1) | exact HB.out)))); have n3_ := Aside0.mk (below_step (by repeat (first | (with_reducible first | exact HB.out | apply below_alloc | apply pw_below_drewN | apply below_drew1) | exact HB.out)) hb); clear HO259; clear HO263; clear HB; have HO259 := n0_; have HO263 := n1_; have HO269 := n2_; have HB := n3_; clear n0_ n1_ n2_ n3_; (try clear hb); (try clear hb2); (try clear hk); (try clear hi); (try clear ho0)))
                                have n0_ := Aside0.mk (Kd.R_drew HO259.out)
                                have n1_ := Aside0.mk (Kd.R_drew HO263.out)
                                have n2_ := Aside0.mk (Kd.R_drew HO269.out)
                                have n3_ := Aside0.mk (below_drew1 HB.out)
                                clear HO259
                                clear HO263
                                clear HO269
                                clear HB
                                have HO259 := n0_
                                have HO263 := n1_
                                have HO269 := n2_
                                have HB := n3_
                                clear n0_ n1_ n2_ n3_
                                obtain ⟨Ao45, co45, eo45⟩ := Kd.R_slice HO259.out
                                (first | subst eo45 | (injection eo45 with f1_ f2_ f3_; have f4_ := f1_.symm; have f5_ := f3_.symm; clear f1_ f2_ f3_; subst f4_; subst f5_))
                                have p270 : 0 ≤ (0 : Int) := (by omega)
                                have q270 : 0 < (t256.length : Int) := of_decide_eq_true (by first | (with_reducible assumption) | assumption)
                                obtain ⟨ad270, e270, hx270_0, hx270_1⟩ := at_T35 (Kd.R_reads' HO259.out).2.2 0 p270 q270
                                cases e270
                                have qi270 : (0 < t256.length) = True := eq_true (by omega)
                                (try rw [show ((0 : Int)).toNat = 0 from rfl] at hx270_0)
                                (try rw [show 0 * 2 = 0 from rfl] at hx270_0)
                                (try rw [Addr.add_zero'] at hx270_0)
                                (try rw [show ((0 : Int)).toNat = 0 from rfl] at hx270_1)
                                (try rw [show 0 * 2 = 0 from rfl] at hx270_1)
                                (try rw [Addr.add_zero'] at hx270_1)
                                replace p270 := eq_true p270
                                replace q270 := eq_true q270
                                obtain ⟨Ao46, co46, eo46⟩ := Kd.R_slice HO269.out
                                (first | subst eo46 | (injection eo46 with f1_ f2_ f3_; have f4_ := f1_.symm; have f5_ := f3_.symm; clear f1_ f2_ f3_; subst f4_; subst f5_))
                                have p271 : 0 ≤ (0 : Int) := (by omega)
                                have q271 : 0 < (t266.length : Int) := of_decide_eq_true (by first | (with_reducible assumption) | assumption)
                                obtain ⟨ad271, e271, hx271_0, hx271_1⟩ := at_T35 (Kd.R_reads' HO269.out).2.2 0 p271 q271
                                cases e271
                                have qi271 : (0 < t266.length) = True := eq_true (by omega)
                                (try rw [show ((0 : Int)).toNat = 0 from rfl] at hx271_0)
                                (try rw [show 0 * 2 = 0 from rfl] at hx271_0)
                                (try rw [Addr.add_zero'] at hx271_0)
                                (try rw [show ((0 : Int)).toNat = 0 from rfl] at hx271_1)
                                (try rw [show 0 * 2 = 0 from rfl] at hx271_1)
                                (try rw [Addr.add_zero'] at hx271_1)
                                replace p271 := eq_true p271
                                replace q271 := eq_true q271
                                have p272 : 0 ≤ (1 : Int) := (by omega)
                                have q272 : 1 < (t266.length : Int) := of_decide_eq_true (by first | (with_reducible assumption) | assumption)
                                obtain ⟨ad272, e272, hx272_0, hx272_1⟩ := at_T35 (Kd.R_reads' HO269.out).2.2 1 p272 q272
                                obtain rfl : ad271 = ad272 := (by injection e272)
                                (try simp only [show (1 : Int).toNat = 1 from rfl, Nat.reduceMul, Nat.reduceEqDiff, Go.Addr.add, ↓reduceIte] at hx272_0)
                                (try simp only [show (1 : Int).toNat = 1 from rfl, Nat.reduceMul, Nat.reduceEqDiff, Go.Addr.add, ↓reduceIte] at hx272_1)
                                have qi272 : (1 < t266.length) = True := eq_true (by omega)
                                (try rw [show ((1 : Int)).toNat = 1 from rfl] at hx272_0)
                                (try rw [show 1 * 2 = 2 from rfl] at hx272_0)
                                (try rw [show ((1 : Int)).toNat = 1 from rfl] at hx272_1)
                                (try rw [show 1 * 2 = 2 from rfl] at hx272_1)
                                replace p272 := eq_true p272
                                replace q272 := eq_true q272
                                have p273 : 0 ≤ (0 : Int) := (by omega)
                                have q273 : 0 < (t256.length : Int) := of_decide_eq_true (by first | (with_reducible assumption) | assumption)
                                obtain ⟨ad273, e273, hx273_0, hx273_1⟩ := at_T35 (Kd.R_reads' HO259.out).2.2 0 p273 q273
                                obtain rfl : ad270 = ad273 := (by injection e273)
                                have qi273 : (0 < t256.length) = True := eq_true (by omega)
                                (try rw [show ((0 : Int)).toNat = 0 from rfl] at hx273_0)
                                (try rw [show 0 * 2 = 0 from rfl] at hx273_0)
                                (try rw [Addr.add_zero'] at hx273_0)
                                (try rw [show ((0 : Int)).toNat = 0 from rfl] at hx273_1)
                                (try rw [show 0 * 2 = 0 from rfl] at hx273_1)
                                (try rw [Addr.add_zero'] at hx273_1)
                                replace p273 := eq_true p273
                                replace q273 := eq_true q273
                                refine start_ (n := 47) (S := fun w' => w'.cell? ad270 = some (.int .i64 ((rd_T35 t256 0).f0)) ∧ w'.cell? ⟨ad270.block, ad270.off + 1, none⟩ = some (.int .i64 ((rd_T35 t256 0).f1)) ∧ w'.cell? ad271 = some (.int .i64 ((rd_T35 t266 0).f0)) ∧ w'.cell? ⟨ad271.block, ad271.off + 1, none⟩ = some (.int .i64 ((rd_T35 t266 0).f1)) ∧ w'.cell? ⟨ad271.block, ad271.off + 2, none⟩ = some (.int .i64 ((rd_T35 t266 1).f0)) ∧ w'.cell? ⟨ad271.block, ad271.off + 2 + 1, none⟩ = some (.int .i64 ((rd_T35 t266 1).f1)) ∧ w'.cell? ad270 = some (.int .i64 ((rd_T35 t256 0).f0)) ∧ w'.cell? ⟨ad270.block, ad270.off + 1, none⟩ = some (.int .i64 ((rd_T35 t256 0).f1))) (ds := []) #[false, false, false, false, false, false, false, false, false, false, false, false, false, false, false, false, false, false, false, false, false, false, false, false, false, false, false, false, false, false, false, false, false, false, false, false, false, false, false, false, false, false, false, false, false, false, false] (by kernel_rfl) rfl rfl ⟨hx270_0, hx270_1, hx271_0, hx271_1, hx272_0, hx272_1, hx273_0, hx273_1⟩ (fun hHeld => ?_); refine with_tabW remontoirlaw13_LexNumbers.tab10 remontoirlaw13_LexNumbers.bits10 (fun HT_ HW_ => ?_)
                                generalize w43.drew = w44 at HO259 HO263 HO269 HB hx270_0 hx270_1 hx271_0 hx271_1 hx272_0 hx272_1 hx273_0 hx273_1 hHeld ⊢
                                refine pure_ (i := 0) (N := some 51) (v := ?_) (a' := ?_) #[true, false, false, false, false, false, false, false, false, false, false, false, false, false, false, false, false, false, false, false, false, false, false, false, false, false, false, false, false, false, false, false, false, false, false, false, false, false, false, false, false, false, false, false, false, false, false] rfl rfl (any_of HT_.out (by kernel_rfl)) (fun _ _ _ h => h) (Or.inl ⟨by rfl, ?_⟩) ?_ ?_
                                rotate_left
                                · intro w'
                                  go_simp
                                  with_reducible rfl
                                rotate_left
                                · simp only [Act.put, List.setIfInBounds_toArray, List.set_cons_zero, List.set_cons_succ, i64_w, i32_w]
                                  rfl
                                refine pure_ (i := 1) (N := some 52) (v := ?_) (a' := ?_) #[true, true, false, false, false, false, false, false, false, false, false, false, false, false, false, false, false, false, false, false, false, false, false, false, false, false, false, false, false, false, false, false, false, false, false, false, false, false, false, false, false, false, false, false, false, false, false] rfl rfl (any_of HT_.out (by kernel_rfl)) (fun _ _ _ h => h) (Or.inl ⟨by rfl, ?_⟩) ?_ ?_
                                rotate_left
                                · intro w'
                                  go_simp
                                  with_reducible rfl
                                rotate_left
                                · simp only [Act.put, List.setIfInBounds_toArray, List.set_cons_zero, List.set_cons_succ, i64_w, i32_w]
                                  rfl
                                refine pure_ (i := 2) (N := some 53) (v := ?_) (a' := ?_) #[true, true, true, false, false, false, false, false, false, false, false, false, false, false, false, false, false, false, false, false, false, false, false, false, false, false, false, false, false, false, false, false, false, false, false, false, false, false, false, false, false, false, false, false, false, false, false] rfl rfl (any_of HT_.out (by kernel_rfl)) (fun _ _ _ h => h) (Or.inl ⟨by rfl, ?_⟩) ?_ ?_
                                rotate_left
                                · intro w'
                                  go_simp
                                  with_reducible rfl
                                rotate_left
                                · simp only [Act.put, List.setIfInBounds_toArray, List.set_cons_zero, List.set_cons_succ, i64_w, i32_w]
                                  rfl
                                refine pure_ (i := 3) (N := some 54) (v := ?_) (a' := ?_) #[true, true, true, true, false, false, false, false, false, false, false, false, false, false, false, false, false, false, false, false, false, false, false, false, false, false, false, false, false, false, false, false, false, false, false, false, false, false, false, false, false, false, false, false, false, false, false] rfl rfl (any_of HT_.out (by kernel_rfl)) (fun _ _ _ h => h) (Or.inl ⟨by rfl, ?_⟩) ?_ ?_
                                rotate_left
                                · intro w'
                                  go_simp
                                  with_reducible rfl
                                rotate_left
                                · simp only [Act.put, List.setIfInBounds_toArray, List.set_cons_zero, List.set_cons_succ, i64_w, i32_w]
                                  rfl
                                refine pure_ (i := 4) (N := some 55) (v := ?_) (a' := ?_) #[true, true, true, true, true, false, false, false, false, false, false, false, false, false, false, false, false, false, false, false, false, false, false, false, false, false, false, false, false, false, false, false, false, false, false, false, false, false, false, false, false, false, false, false, false, false, false] rfl rfl (any_of HT_.out (by kernel_rfl)) (fun _ _ _ h => h) (Or.inl ⟨by rfl, ?_⟩) ?_ ?_
                                rotate_left
                                · intro w'
                                  go_simp
                                  with_reducible rfl
                                rotate_left
                                · simp only [Act.put, List.setIfInBounds_toArray, List.set_cons_zero, List.set_cons_succ, i64_w, i32_w]
                                  rfl
                                refine pure_ (i := 5) (N := some 56) (v := ?_) (a' := ?_) #[true, true, true, true, true, true, false, false, false, false, false, false, false, false, false, false, false, false, false, false, false, false, false, false, false, false, false, false, false, false, false, false, false, false, false, false, false, false, false, false, false, false, false, false, false, false, false] rfl rfl (any_of HT_.out (by kernel_rfl)) (fun _ _ _ h => h) (Or.inl ⟨by rfl, ?_⟩) ?_ ?_
                                rotate_left
                                · intro w'
                                  go_simp
                                  with_reducible rfl
                                rotate_left
                                · simp only [Act.put, List.setIfInBounds_toArray, List.set_cons_zero, List.set_cons_succ, i64_w, i32_w]
                                  rfl
                                refine pure_ (i := 6) (N := some 57) (v := ?_) (a' := ?_) #[true, true, true, true, true, true, true, false, false, false, false, false, false, false, false, false, false, false, false, false, false, false, false, false, false, false, false, false, false, false, false, false, false, false, false, false, false, false, false, false, false, false, false, false, false, false, false] rfl rfl (any_of HT_.out (by kernel_rfl)) (fun _ _ _ h => h) (Or.inl ⟨by rfl, ?_⟩) ?_ ?_
                                rotate_left
                                · intro w'
                                  go_simp
                                  with_reducible rfl
                                rotate_left
                                · simp only [Act.put, List.setIfInBounds_toArray, List.set_cons_zero, List.set_cons_succ, i64_w, i32_w]
                                  rfl
                                refine pure_ (i := 7) (N := some 58) (v := ?_) (a' := ?_) #[true, true, true, true, true, true, true, true, false, false, false, false, false, false, false, false, false, false, false, false, false, false, false, false, false, false, false, false, false, false, false, false, false, false, false, false, false, false, false, false, false, false, false, false, false, false, false] rfl rfl (any_of HT_.out (by kernel_rfl)) (fun _ _ _ h => h) (Or.inl ⟨by rfl, ?_⟩) ?_ ?_
                                rotate_left
                                · intro w'
                                  go_simp
                                  with_reducible rfl
                                rotate_left
                                · simp only [Act.put, List.setIfInBounds_toArray, List.set_cons_zero, List.set_cons_succ, i64_w, i32_w]
                                  rfl
                                refine pure_ (i := 8) (N := some 59) (v := ?_) (a' := ?_) #[true, true, true, true, true, true, true, true, true, false, false, false, false, false, false, false, false, false, false, false, false, false, false, false, false, false, false, false, false, false, false, false, false, false, false, false, false, false, false, false, false, false, false, false, false, false, false] rfl rfl (any_of HT_.out (by kernel_rfl)) (fun _ _ _ h => h) (Or.inl ⟨by rfl, ?_⟩) ?_ ?_
                                rotate_left
                                · intro w'
                                  go_simp
                                  with_reducible rfl
                                rotate_left
                                · simp only [Act.put, List.setIfInBounds_toArray, List.set_cons_zero, List.set_cons_succ, i64_w, i32_w]
                                  rfl
                                refine pure_ (i := 9) (N := some 60) (v := ?_) (a' := ?_) #[true, true, true, true, true, true, true, true, true, true, false, false, false, false, false, false, false, false, false, false, false, false, false, false, false, false, false, false, false, false, false, false, false, false, false, false, false, false, false, false, false, false, false, false, false, false, false] rfl rfl (any_of HT_.out (by kernel_rfl)) (fun _ _ _ h => h) (Or.inl ⟨by rfl, ?_⟩) ?_ ?_
                                rotate_left
                                · intro w'
                                  go_simp
                                  with_reducible rfl
                                rotate_left
                                · simp only [Act.put, List.setIfInBounds_toArray, List.set_cons_zero, List.set_cons_succ, i64_w, i32_w]
                                  rfl
                                refine pure_ (i := 11) (N := some 62) (v := ?_) (a' := ?_) #[true, true, true, true, true, true, true, true, true, true, false, true, false, false, false, false, false, false, false, false, false, false, false, false, false, false, false, false, false, false, false, false, false, false, false, false, false, false, false, false, false, false, false, false, false, false, false] rfl rfl (any_of HT_.out (by kernel_rfl)) (fun _ _ _ h => h) (Or.inl ⟨by rfl, ?_⟩) ?_ ?_
                                rotate_left
                                · intro w'
                                  go_simp
                                  with_reducible rfl
                                rotate_left
                                · simp only [Act.put, List.setIfInBounds_toArray, List.set_cons_zero, List.set_cons_succ, i64_w, i32_w]
                                  rfl
                                refine pure_ (i := 12) (N := some 63) (v := ?_) (a' := ?_) #[true, true, true, true, true, true, true, true, true, true, false, true, true, false, false, false, false, false, false, false, false, false, false, false, false, false, false, false, false, false, false, false, false, false, false, false, false, false, false, false, false, false, false, false, false, false, false] rfl rfl (any_of HT_.out (by kernel_rfl)) (fun _ _ _ h => h) (Or.inl ⟨by rfl, ?_⟩) ?_ ?_
                                rotate_left
                                · intro w'
                                  go_simp
                                  with_reducible rfl
                                rotate_left
                                · simp only [Act.put, List.setIfInBounds_toArray, List.set_cons_zero, List.set_cons_succ, i64_w, i32_w]
                                  rfl
                                refine pure_ (i := 13) (N := some 64) (v := ?_) (a' := ?_) #[true, true, true, true, true, true, true, true, true, true, false, true, true, true, false, false, false, false, false, false, false, false, false, false, false, false, false, false, false, false, false, false, false, false, false, false, false, false, false, false, false, false, false, false, false, false, false] rfl rfl (any_of HT_.out (by kernel_rfl)) (fun _ _ _ h => h) (Or.inl ⟨by rfl, ?_⟩) ?_ ?_
                                rotate_left
                                · intro w'
                                  go_simp
                                  with_reducible rfl
                                rotate_left
                                · simp only [Act.put, List.setIfInBounds_toArray, List.set_cons_zero, List.set_cons_succ, i64_w, i32_w]
                                  rfl
                                refine take_ (i := 10) (N := some 61) (v := ?_) (a' := ?_) #[true, true, true, true, true, true, true, true, true, true, true, true, true, true, false, false, false, false, false, false, false, false, false, false, false, false, false, false, false, false, false, false, false, false, false, false, false, false, false, false, false, false, false, false, false, false, false] rfl rfl (take_ofW HT_.out HW_.out (by kernel_rfl)) (fun _ _ _ h => h) (Or.inl ⟨by rfl, ?_⟩) hHeld ?_ ?_
                                rotate_left
                                · rintro w' ⟨s0, s1, s2, s3, s4, s5, s6, s7⟩
                                  go_simp
                                  with_reducible rfl
                                rotate_left
                                · simp only [Act.put, List.setIfInBounds_toArray, List.set_cons_zero, List.set_cons_succ, i64_w, i32_w]
                                  rfl
                                refine pure_ (i := 14) (N := some 65) (v := ?_) (a' := ?_) #[true, true, true, true, true, true, true, true, true, true, true, true, true, true, true, false, false, false, false, false, false, false, false, false, false, false, false, false, false, false, false, false, false, false, false, false, false, false, false, false, false, false, false, false, false, false, false] rfl rfl (any_of HT_.out (by kernel_rfl)) (fun _ _ _ h => h) (Or.inl ⟨by rfl, ?_⟩) ?_ ?_
                                rotate_left
                                · intro w'
                                  go_simp
                                  with_reducible rfl
                                rotate_left
                                · simp only [Act.put, List.setIfInBounds_toArray, List.set_cons_zero, List.set_cons_succ, i64_w, i32_w]
                                  rfl
                                refine pure_ (i := 15) (N := some 66) (v := ?_) (a' := ?_) #[true, true, true, true, true, true, true, true, true, true, true, true, true, true, true, true, false, false, false, false, false, false, false, false, false, false, false, false, false, false, false, false, false, false, false, false, false, false, false, false, false, false, false, false, false, false, false] rfl rfl (any_of HT_.out (by kernel_rfl)) (fun _ _ _ h => h) (Or.inl ⟨by rfl, ?_⟩) ?_ ?_
                                rotate_left
                                · intro w'
                                  go_simp
                                  with_reducible rfl
                                rotate_left
                                · simp only [Act.put, List.setIfInBounds_toArray, List.set_cons_zero, List.set_cons_succ, i64_w, i32_w]
                                  rfl
                                refine pure_ (i := 16) (N := some 67) (v := ?_) (a' := ?_) #[true, true, true, true, true, true, true, true, true, true, true, true, true, true, true, true, true, false, false, false, false, false, false, false, false, false, false, false, false, false, false, false, false, false, false, false, false, false, false, false, false, false, false, false, false, false, false] rfl rfl (any_of HT_.out (by kernel_rfl)) (fun _ _ _ h => h) (Or.inl ⟨by rfl, ?_⟩) ?_ ?_
                                rotate_left
                                · intro w'
                                  go_simp
                                  with_reducible rfl
                                rotate_left
                                · simp only [Act.put, List.setIfInBounds_toArray, List.set_cons_zero, List.set_cons_succ, i64_w, i32_w]
                                  rfl
                                refine pure_ (i := 17) (N := some 68) (v := ?_) (a' := ?_) #[true, true, true, true, true, true, true, true, true, true, true, true, true, true, true, true, true, true, false, false, false, false, false, false, false, false, false, false, false, false, false, false, false, false, false, false, false, false, false, false, false, false, false, false, false, false, false] rfl rfl (any_of HT_.out (by kernel_rfl)) (fun _ _ _ h => h) (Or.inl ⟨by rfl, ?_⟩) ?_ ?_
                                rotate_left
                                · intro w'
                                  go_simp
                                  with_reducible rfl
                                rotate_left
                                · simp only [Act.put, List.setIfInBounds_toArray, List.set_cons_zero, List.set_cons_succ, i64_w, i32_w]
                                  rfl
                                refine pure_ (i := 18) (N := some 69) (v := ?_) (a' := ?_) #[true, true, true, true, true, true, true, true, true, true, true, true, true, true, true, true, true, true, true, false, false, false, false, false, false, false, false, false, false, false, false, false, false, false, false, false, false, false, false, false, false, false, false, false, false, false, false] rfl rfl (any_of HT_.out (by kernel_rfl)) (fun _ _ _ h => h) (Or.inl ⟨by rfl, ?_⟩) ?_ ?_
                                rotate_left
                                · intro w'
                                  go_simp
                                  with_reducible rfl
                                rotate_left
                                · simp only [Act.put, List.setIfInBounds_toArray, List.set_cons_zero, List.set_cons_succ, i64_w, i32_w]
                                  rfl
                                refine pure_ (i := 19) (N := some 70) (v := ?_) (a' := ?_) #[true, true, true, true, true, true, true, true, true, true, true, true, true, true, true, true, true, true, true, true, false, false, false, false, false, false, false, false, false, false, false, false, false, false, false, false, false, false, false, false, false, false, false, false, false, false, false] rfl rfl (any_of HT_.out (by kernel_rfl)) (fun _ _ _ h => h) (Or.inl ⟨by rfl, ?_⟩) ?_ ?_
                                rotate_left
                                · intro w'
                                  go_simp
                                  with_reducible rfl
                                rotate_left
                                · simp only [Act.put, List.setIfInBounds_toArray, List.set_cons_zero, List.set_cons_succ, i64_w, i32_w]
                                  rfl
                                refine pure_ (i := 20) (N := some 71) (v := ?_) (a' := ?_) #[true, true, true, true, true, true, true, true, true, true, true, true, true, true, true, true, true, true, true, true, true, false, false, false, false, false, false, false, false, false, false, false, false, false, false, false, false, false, false, false, false, false, false, false, false, false, false] rfl rfl (any_of HT_.out (by kernel_rfl)) (fun _ _ _ h => h) (Or.inl ⟨by rfl, ?_⟩) ?_ ?_
                                rotate_left
                                · intro w'
                                  go_simp
                                  with_reducible rfl
                                rotate_left
                                · simp only [Act.put, List.setIfInBounds_toArray, List.set_cons_zero, List.set_cons_succ, i64_w, i32_w]
                                  rfl
                                refine pure_ (i := 21) (N := some 72) (v := ?_) (a' := ?_) #[true, true, true, true, true, true, true, true, true, true, true, true, true, true, true, true, true, true, true, true, true, true, false, false, false, false, false, false, false, false, false, false, false, false, false, false, false, false, false, false, false, false, false, false, false, false, false] rfl rfl (any_of HT_.out (by kernel_rfl)) (fun _ _ _ h => h) (Or.inl ⟨by rfl, ?_⟩) ?_ ?_
                                rotate_left
                                · intro w'
                                  go_simp
                                  with_reducible rfl
                                rotate_left
                                · simp only [Act.put, List.setIfInBounds_toArray, List.set_cons_zero, List.set_cons_succ, i64_w, i32_w]
                                  rfl
                                refine pure_ (i := 22) (N := some 73) (v := ?_) (a' := ?_) #[true, true, true, true, true, true, true, true, true, true, true, true, true, true, true, true, true, true, true, true, true, true, true, false, false, false, false, false, false, false, false, false, false, false, false, false, false, false, false, false, false, false, false, false, false, false, false] rfl rfl (any_of HT_.out (by kernel_rfl)) (fun _ _ _ h => h) (Or.inl ⟨by rfl, ?_⟩) ?_ ?_
                                rotate_left
                                · intro w'
                                  go_simp
                                  with_reducible rfl
                                rotate_left
                                · simp only [Act.put, List.setIfInBounds_toArray, List.set_cons_zero, List.set_cons_succ, i64_w, i32_w]
                                  rfl
                                refine pure_ (i := 23) (N := some 74) (v := ?_) (a' := ?_) #[true, true, true, true, true, true, true, true, true, true, true, true, true, true, true, true, true, true, true, true, true, true, true, true, false, false, false, false, false, false, false, false, false, false, false, false, false, false, false, false, false, false, false, false, false, false, false] rfl rfl (any_of HT_.out (by kernel_rfl)) (fun _ _ _ h => h) (Or.inl ⟨by rfl, ?_⟩) ?_ ?_
                                rotate_left
                                · intro w'
                                  go_simp
                                  with_reducible rfl
                                rotate_left
                                · simp only [Act.put, List.setIfInBounds_toArray, List.set_cons_zero, List.set_cons_succ, i64_w, i32_w]
                                  rfl
                                refine pure_ (i := 24) (N := some 75) (v := ?_) (a' := ?_) #[true, true, true, true, true, true, true, true, true, true, true, true, true, true, true, true, true, true, true, true, true, true, true, true, true, false, false, false, false, false, false, false, false, false, false, false, false, false, false, false, false, false, false, false, false, false, false] rfl rfl (any_of HT_.out (by kernel_rfl)) (fun _ _ _ h => h) (Or.inl ⟨by rfl, ?_⟩) ?_ ?_
                                rotate_left
                                · intro w'
                                  go_simp
                                  with_reducible rfl
                                rotate_left
                                · simp only [Act.put, List.setIfInBounds_toArray, List.set_cons_zero, List.set_cons_succ, i64_w, i32_w]
                                  rfl
                                refine pure_ (i := 25) (N := some 76) (v := ?_) (a' := ?_) #[true, true, true, true, true, true, true, true, true, true, true, true, true, true, true, true, true, true, true, true, true, true, true, true, true, true, false, false, false, false, false, false, false, false, false, false, false, false, false, false, false, false, false, false, false, false, false] rfl rfl (any_of HT_.out (by kernel_rfl)) (fun _ _ _ h => h) (Or.inl ⟨by rfl, ?_⟩) ?_ ?_
                                rotate_left
                                · intro w'
                                  go_simp
                                  with_reducible rfl
                                rotate_left
                                · simp only [Act.put, List.setIfInBounds_toArray, List.set_cons_zero, List.set_cons_succ, i64_w, i32_w]
                                  rfl
                                refine pure_ (i := 26) (N := some 77) (v := ?_) (a' := ?_) #[true, true, true, true, true, true, true, true, true, true, true, true, true, true, true, true, true, true, true, true, true, true, true, true, true, true, true, false, false, false, false, false, false, false, false, false, false, false, false, false, false, false, false, false, false, false, false] rfl rfl (any_of HT_.out (by kernel_rfl)) (fun _ _ _ h => h) (Or.inl ⟨by rfl, ?_⟩) ?_ ?_
                                rotate_left
                                · intro w'
                                  go_simp
                                  with_reducible rfl
                                rotate_left
                                · simp only [Act.put, List.setIfInBounds_toArray, List.set_cons_zero, List.set_cons_succ, i64_w, i32_w]
                                  rfl
                                refine pure_ (i := 27) (N := some 78) (v := ?_) (a' := ?_) #[true, true, true, true, true, true, true, true, true, true, true, true, true, true, true, true, true, true, true, true, true, true, true, true, true, true, true, true, false, false, false, false, false, false, false, false, false, false, false, false, false, false, false, false, false, false, false] rfl rfl (any_of HT_.out (by kernel_rfl)) (fun _ _ _ h => h) (Or.inl ⟨by rfl, ?_⟩) ?_ ?_
                                rotate_left
                                · intro w'
                                  go_simp
                                  with_reducible rfl
                                rotate_left
                                · simp only [Act.put, List.setIfInBounds_toArray, List.set_cons_zero, List.set_cons_succ, i64_w, i32_w]
                                  rfl
                                refine pure_ (i := 28) (N := some 79) (v := ?_) (a' := ?_) #[true, true, true, true, true, true, true, true, true, true, true, true, true, true, true, true, true, true, true, true, true, true, true, true, true, true, true, true, true, false, false, false, false, false, false, false, false, false, false, false, false, false, false, false, false, false, false] rfl rfl (any_of HT_.out (by kernel_rfl)) (fun _ _ _ h => h) (Or.inl ⟨by rfl, ?_⟩) ?_ ?_
                                rotate_left
                                · intro w'
                                  go_simp
                                  with_reducible rfl
                                rotate_left
                                · simp only [Act.put, List.setIfInBounds_toArray, List.set_cons_zero, List.set_cons_succ, i64_w, i32_w]
                                  rfl
                                refine pure_ (i := 30) (N := some 81) (v := ?_) (a' := ?_) #[true, true, true, true, true, true, true, true, true, true, true, true, true, true, true, true, true, true, true, true, true, true, true, true, true, true, true, true, true, false, true, false, false, false, false, false, false, false, false, false, false, false, false, false, false, false, false] rfl rfl (any_of HT_.out (by kernel_rfl)) (fun _ _ _ h => h) (Or.inl ⟨by rfl, ?_⟩) ?_ ?_
                                rotate_left
                                · intro w'
                                  go_simp
                                  with_reducible rfl
                                rotate_left
                                · simp only [Act.put, List.setIfInBounds_toArray, List.set_cons_zero, List.set_cons_succ, i64_w, i32_w]
                                  rfl
                                refine pure_ (i := 31) (N := some 82) (v := ?_) (a' := ?_) #[true, true, true, true, true, true, true, true, true, true, true, true, true, true, true, true, true, true, true, true, true, true, true, true, true, true, true, true, true, false, true, true, false, false, false, false, false, false, false, false, false, false, false, false, false, false, false] rfl rfl (any_of HT_.out (by kernel_rfl)) (fun _ _ _ h => h) (Or.inl ⟨by rfl, ?_⟩) ?_ ?_
                                rotate_left
                                · intro w'
                                  go_simp
                                  with_reducible rfl
                                rotate_left
                                · simp only [Act.put, List.setIfInBounds_toArray, List.set_cons_zero, List.set_cons_succ, i64_w, i32_w]
                                  rfl
                                refine take_ (i := 29) (N := some 80) (v := ?_) (a' := ?_) #[true, true, true, true, true, true, true, true, true, true, true, true, true, true, true, true, true, true, true, true, true, true, true, true, true, true, true, true, true, true, true, true, false, false, false, false, false, false, false, false, false, false, false, false, false, false, false] rfl rfl (take_ofW HT_.out HW_.out (by kernel_rfl)) (fun _ _ _ h => h) (Or.inl ⟨by rfl, ?_⟩) hHeld ?_ ?_
                                rotate_left
                                · rintro w' ⟨s0, s1, s2, s3, s4, s5, s6, s7⟩
                                  go_simp
                                  with_reducible rfl
                                rotate_left
                                · simp only [Act.put, List.setIfInBounds_toArray, List.set_cons_zero, List.set_cons_succ, i64_w, i32_w]
                                  rfl
                                refine pure_ (i := 32) (N := some 83) (v := ?_) (a' := ?_) #[true, true, true, true, true, true, true, true, true, true, true, true, true, true, true, true, true, true, true, true, true, true, true, true, true, true, true, true, true, true, true, true, true, false, false, false, false, false, false, false, false, false, false, false, false, false, false] rfl rfl (any_of HT_.out (by kernel_rfl)) (fun _ _ _ h => h) (Or.inl ⟨by rfl, ?_⟩) ?_ ?_
                                rotate_left
                                · intro w'
                                  go_simp
                                  with_reducible rfl
                                rotate_left
                                · simp only [Act.put, List.setIfInBounds_toArray, List.set_cons_zero, List.set_cons_succ, i64_w, i32_w]
                                  rfl
                                refine pure_ (i := 33) (N := some 84) (v := ?_) (a' := ?_) #[true, true, true, true, true, true, true, true, true, true, true, true, true, true, true, true, true, true, true, true, true, true, true, true, true, true, true, true, true, true, true, true, true, true, false, false, false, false, false, false, false, false, false, false, false, false, false] rfl rfl (any_of HT_.out (by kernel_rfl)) (fun _ _ _ h => h) (Or.inl ⟨by rfl, ?_⟩) ?_ ?_
                                rotate_left
                                · intro w'
                                  go_simp
                                  with_reducible rfl
                                rotate_left
                                · simp only [Act.put, List.setIfInBounds_toArray, List.set_cons_zero, List.set_cons_succ, i64_w, i32_w]
                                  rfl
                                refine pure_ (i := 34) (N := some 85) (v := ?_) (a' := ?_) #[true, true, true, true, true, true, true, true, true, true, true, true, true, true, true, true, true, true, true, true, true, true, true, true, true, true, true, true, true, true, true, true, true, true, true, false, false, false, false, false, false, false, false, false, false, false, false] rfl rfl (any_of HT_.out (by kernel_rfl)) (fun _ _ _ h => h) (Or.inl ⟨by rfl, ?_⟩) ?_ ?_
                                rotate_left
                                · intro w'
                                  go_simp
                                  with_reducible rfl
                                rotate_left
                                · simp only [Act.put, List.setIfInBounds_toArray, List.set_cons_zero, List.set_cons_succ, i64_w, i32_w]
                                  rfl
                                refine pure_ (i := 35) (N := some 86) (v := ?_) (a' := ?_) #[true, true, true, true, true, true, true, true, true, true, true, true, true, true, true, true, true, true, true, true, true, true, true, true, true, true, true, true, true, true, true, true, true, true, true, true, false, false, false, false, false, false, false, false, false, false, false] rfl rfl (any_of HT_.out (by kernel_rfl)) (fun _ _ _ h => h) (Or.inl ⟨by rfl, ?_⟩) ?_ ?_
                                rotate_left
                                · intro w'
                                  go_simp
                                  with_reducible rfl
                                rotate_left
                                · simp only [Act.put, List.setIfInBounds_toArray, List.set_cons_zero, List.set_cons_succ, i64_w, i32_w]
                                  rfl
                                refine pure_ (i := 36) (N := some 87) (v := ?_) (a' := ?_) #[true, true, true, true, true, true, true, true, true, true, true, true, true, true, true, true, true, true, true, true, true, true, true, true, true, true, true, true, true, true, true, true, true, true, true, true, true, false, false, false, false, false, false, false, false, false, false] rfl rfl (any_of HT_.out (by kernel_rfl)) (fun _ _ _ h => h) (Or.inl ⟨by rfl, ?_⟩) ?_ ?_
                                rotate_left
                                · intro w'
                                  go_simp
                                  with_reducible rfl
                                rotate_left
                                · simp only [Act.put, List.setIfInBounds_toArray, List.set_cons_zero, List.set_cons_succ, i64_w, i32_w]
                                  rfl
                                refine pure_ (i := 38) (N := some 89) (v := ?_) (a' := ?_) #[true, true, true, true, true, true, true, true, true, true, true, true, true, true, true, true, true, true, true, true, true, true, true, true, true, true, true, true, true, true, true, true, true, true, true, true, true, false, true, false, false, false, false, false, false, false, false] rfl rfl (any_of HT_.out (by kernel_rfl)) (fun _ _ _ h => h) (Or.inl ⟨by rfl, ?_⟩) ?_ ?_
                                rotate_left
                                · intro w'
                                  go_simp
                                  with_reducible rfl
                                rotate_left
                                · simp only [Act.put, List.setIfInBounds_toArray, List.set_cons_zero, List.set_cons_succ, i64_w, i32_w]
                                  rfl
                                refine pure_ (i := 39) (N := some 90) (v := ?_) (a' := ?_) #[true, true, true, true, true, true, true, true, true, true, true, true, true, true, true, true, true, true, true, true, true, true, true, true, true, true, true, true, true, true, true, true, true, true, true, true, true, false, true, true, false, false, false, false, false, false, false] rfl rfl (any_of HT_.out (by kernel_rfl)) (fun _ _ _ h => h) (Or.inl ⟨by rfl, ?_⟩) ?_ ?_
                                rotate_left
                                · intro w'
                                  go_simp
                                  with_reducible rfl
                                rotate_left
                                · simp only [Act.put, List.setIfInBounds_toArray, List.set_cons_zero, List.set_cons_succ, i64_w, i32_w]
                                  rfl
                                refine take_ (i := 37) (N := some 88) (v := ?_) (a' := ?_) #[true, true, true, true, true, true, true, true, true, true, true, true, true, true, true, true, true, true, true, true, true, true, true, true, true, true, true, true, true, true, true, true, true, true, true, true, true, true, true, true, false, false, false, false, false, false, false] rfl rfl (take_ofW HT_.out HW_.out (by kernel_rfl)) (fun _ _ _ h => h) (Or.inl ⟨by rfl, ?_⟩) hHeld ?_ ?_
                                rotate_left
                                · rintro w' ⟨s0, s1, s2, s3, s4, s5, s6, s7⟩
                                  go_simp
                                  with_reducible rfl
                                rotate_left
                                · simp only [Act.put, List.setIfInBounds_toArray, List.set_cons_zero, List.set_cons_succ, i64_w, i32_w]
                                  rfl
                                refine take_ (i := 40) (N := some 91) (v := ?_) (a' := ?_) #[true, true, true, true, true, true, true, true, true, true, true, true, true, true, true, true, true, true, true, true, true, true, true, true, true, true, true, true, true, true, true, true, true, true, true, true, true, true, true, true, true, false, false, false, false, false, false] rfl rfl (take_ofW HT_.out HW_.out (by kernel_rfl)) (fun _ _ _ h => h) (Or.inl ⟨by rfl, ?_⟩) hHeld ?_ ?_
                                rotate_left
                                · rintro w' ⟨s0, s1, s2, s3, s4, s5, s6, s7⟩
                                  go_simp
                                  with_reducible rfl
                                rotate_left
                                · simp only [Act.put, List.setIfInBounds_toArray, List.set_cons_zero, List.set_cons_succ, i64_w, i32_w]
                                  rfl
                                refine pure_ (i := 41) (N := some 92) (v := ?_) (a' := ?_) #[true, true, true, true, true, true, true, true, true, true, true, true, true, true, true, true, true, true, true, true, true, true, true, true, true, true, true, true, true, true, true, true, true, true, true, true, true, true, true, true, true, true, false, false, false, false, false] rfl rfl (any_of HT_.out (by kernel_rfl)) (fun _ _ _ h => h) (Or.inl ⟨by rfl, ?_⟩) ?_ ?_
                                rotate_left
                                · intro w'
                                  go_simp
                                  with_reducible rfl
                                rotate_left
                                · simp only [Act.put, List.setIfInBounds_toArray, List.set_cons_zero, List.set_cons_succ, i64_w, i32_w]
                                  rfl
                                refine pure_ (i := 42) (N := some 93) (v := ?_) (a' := ?_) #[true, true, true, true, true, true, true, true, true, true, true, true, true, true, true, true, true, true, true, true, true, true, true, true, true, true, true, true, true, true, true, true, true, true, true, true, true, true, true, true, true, true, true, false, false, false, false] rfl rfl (any_of HT_.out (by kernel_rfl)) (fun _ _ _ h => h) (Or.inl ⟨by rfl, ?_⟩) ?_ ?_
                                rotate_left
                                · intro w'
                                  go_simp
                                  with_reducible rfl
                                rotate_left
                                · simp only [Act.put, List.setIfInBounds_toArray, List.set_cons_zero, List.set_cons_succ, i64_w, i32_w]
                                  rfl
                                refine pure_ (i := 43) (N := some 94) (v := ?_) (a' := ?_) #[true, true, true, true, true, true, true, true, true, true, true, true, true, true, true, true, true, true, true, true, true, true, true, true, true, true, true, true, true, true, true, true, true, true, true, true, true, true, true, true, true, true, true, true, false, false, false] rfl rfl (any_of HT_.out (by kernel_rfl)) (fun _ _ _ h => h) (Or.inl ⟨by rfl, ?_⟩) ?_ ?_
                                rotate_left
                                · intro w'
                                  go_simp
                                  with_reducible rfl
                                rotate_left
                                · simp only [Act.put, List.setIfInBounds_toArray, List.set_cons_zero, List.set_cons_succ, i64_w, i32_w]
                                  rfl
                                refine one_ (i := 44) (N := some 95) #[true, true, true, true, true, true, true, true, true, true, true, true, true, true, true, true, true, true, true, true, true, true, true, true, true, true, true, true, true, true, true, true, true, true, true, true, true, true, true, true, true, true, true, true, true, false, false] rfl rfl (one_of HT_.out (by kernel_rfl)) (by decide) (fun K hK => ?_)
                                refine goes_ Tryd.func13 (by kernel_rfl) rfl #[] (by rfl) rfl rfl (by (try simp only [List.map_toArray, List.map_cons, List.map_nil]); first | done | rfl | (simp only [List.length_drop, List.length_take]; rfl)) ?_
                                with_reducible refine (remontoirlaw13_wakes.calls k  true _ (Tabs.below hT (by repeat (first | (with_reducible first | exact HB.out | apply below_alloc | apply pw_below_drewN | apply below_drew1) | exact HB.out))) A38.out).mono ?_
                                rintro e w47 ⟨rfl, hb⟩
                                have HS0_ := (hb.cell (World.block_lt_of_cell? _ _ (hHeld.1))).trans (hHeld.1)
                                have HS1_ := (hb.cell (World.block_lt_of_cell? _ _ (hHeld.2.1))).trans (hHeld.2.1)
                                have HS2_ := (hb.cell (World.block_lt_of_cell? _ _ (hHeld.2.2.1))).trans (hHeld.2.2.1)
                                have HS3_ := (hb.cell (World.block_lt_of_cell? _ _ (hHeld.2.2.2.1))).trans (hHeld.2.2.2.1)
                                have HS4_ := (hb.cell (World.block_lt_of_cell? _ _ (hHeld.2.2.2.2.1))).trans (hHeld.2.2.2.2.1)
                                have HS5_ := (hb.cell (World.block_lt_of_cell? _ _ (hHeld.2.2.2.2.2.1))).trans (hHeld.2.2.2.2.2.1)
                                have HS6_ := (hb.cell (World.block_lt_of_cell? _ _ (hHeld.2.2.2.2.2.2.1))).trans (hHeld.2.2.2.2.2.2.1)
                                have HS7_ := (hb.cell (World.block_lt_of_cell? _ _ (hHeld.2.2.2.2.2.2.2))).trans (hHeld.2.2.2.2.2.2.2)
                                refine ⟨_, rfl, ?_⟩
                                have n0_ := Aside0.mk (Kd.R_below (by (with_reducible repeat (first | apply Kd.R_alloc | apply Kd.R_drewN | apply Kd.R_drew)); exact HO259.out) hb)
                                have n1_ := Aside0.mk (Kd.R_below (by (with_reducible repeat (first | apply Kd.R_alloc | apply Kd.R_drewN | apply Kd.R_drew)); exact HO263.out) hb)
                                have n2_ := Aside0.mk (Kd.R_below (by (with_reducible repeat (first | apply Kd.R_alloc | apply Kd.R_drewN | apply Kd.R_drew)); exact HO269.out) hb)
                                have n3_ := Aside0.mk (below_step (by repeat (first | (with_reducible first | exact HB.out | apply below_alloc | apply pw_below_drewN | apply below_drew1) | exact HB.out)) hb)
                                clear HO259
                                clear HO263
                                clear HO269
                                clear HB
                                have HO259 := n0_
                                have HO263 := n1_
                                have HO269 := n2_
                                have HB := n3_
                                clear n0_ n1_ n2_ n3_
                                (try clear hb)
                                (try clear hb2)
                                (try clear hk)
                                (try clear hi)
                                refine hK.out _ _ ⟨HS0_, HS1_, HS2_, HS3_, HS4_, HS5_, HS6_, HS7_⟩ (fun hHeld => ?_)
                                clear hK K
                                refine norm_ (a' := ?_) ?_ ?_
                                rotate_left
                                · show Act.put _ (some 95) _ = _
                                  simp only [Act.put, List.setIfInBounds_toArray, List.set_cons_zero, List.set_cons_succ, i64_w, i32_w]
                                  rfl
                                refine pure_ (i := 45) (N := some 96) (v := ?_) (a' := ?_) #[true, true, true, true, true, true, true, true, true, true, true, true, true, true, true, true, true, true, true, true, true, true, true, true, true, true, true, true, true, true, true, true, true, true, true, true, true, true, true, true, true, true, true, true, true, true, false] rfl rfl (any_of HT_.out (by kernel_rfl)) (fun _ _ _ h => h) (Or.inl ⟨by rfl, ?_⟩) ?_ ?_
                                rotate_left
                                · intro w'
                                  go_simp
                                  with_reducible rfl
                                rotate_left
                                · simp only [Act.put, List.setIfInBounds_toArray, List.set_cons_zero, List.set_cons_succ, i64_w, i32_w]
                                  rfl
                                refine pure_ (i := 46) (N := some 4) (v := ?_) (a' := ?_) #[true, true, true, true, true, true, true, true, true, true, true, true, true, true, true, true, true, true, true, true, true, true, true, true, true, true, true, true, true, true, true, true, true, true, true, true, true, true, true, true, true, true, true, true, true, true, true] rfl rfl (any_of HT_.out (by kernel_rfl)) (fun _ _ _ h => h) (Or.inl ⟨by rfl, ?_⟩) ?_ ?_
                                rotate_left
                                · intro w'
                                  go_simp
                                  with_reducible rfl
                                rotate_left
                                · simp only [Act.put, List.setIfInBounds_toArray, List.set_cons_zero, List.set_cons_succ, i64_w, i32_w]
                                  rfl
                                refine done_ (done_of HT_.out (by kernel_rfl)) ?_
                                try go_wp2
                                go_ret
                                exact ⟨by first | rfl | (simp [errW_none, errW_some] <;> rfl) | (simp [*, errW_none, errW_some] <;> rfl), by repeat (first | (with_reducible first | exact HB.out | apply below_alloc | apply pw_below_drewN | apply below_drew1) | exact HB.out)⟩
                              · rw [if_neg c37] at H
                                have c37b0 : (((rd_T35 t266 1).f0) == ((rd_T35 t256 0).f0) && (((rd_T35 t266 1).f1) == ((rd_T35 t256 0).f1))) = false := by simpa using c37
                                (try (have c37b1 : decide (((rd_T35 t266 1).f0) = ((rd_T35 t256 0).f0) && (((rd_T35 t266 1).f1) == ((rd_T35 t256 0).f1))) = false := by simpa using c37))
                                (try (have c37b2 : (((rd_T35 t266 1).f0) == ((rd_T35 t256 0).f0) && (((rd_T35 t266 1).f1) == ((rd_T35 t256 0).f1))) = false := by simpa using c37))
                                (try (have c37b3 : ¬ (((rd_T35 t266 1).f0) = ((rd_T35 t256 0).f0) && (((rd_T35 t266 1).f1) == ((rd_T35 t256 0).f1))) := by simpa using c37))
                                clear c37
                                exact absurd (Option.some.inj H) (by decide)
                            · rw [if_neg c36] at H
                              exact absurd H (by simp)
                          · rw [if_neg c35] at H
                            have c35b0 : (((rd_T35 t266 0).f1) == (wrap64 (a1))) = false := beq_eq_false_iff_ne.mpr c35
                            have c35b1 : (((rd_T35 t266 0).f1) != (wrap64 (a1))) = true := bne_iff_ne.mpr c35
                            exact absurd (Option.some.inj H) (by decide)
                        · rw [if_neg c34] at H
                          exact absurd H (by simp)
                      · rw [if_neg c33] at H
                        have c33b0 : ((t266.length : Int) == 2) = false := beq_eq_false_iff_ne.mpr c33
                        have c33b1 : ((t266.length : Int) != 2) = true := bne_iff_ne.mpr c33
                        exact absurd (Option.some.inj H) (by decide)
                    · rw [if_neg c32] at H
                      have c32b0 : (t267 == 0) = false := beq_eq_false_iff_ne.mpr c32
                      have c32b1 : (t267 != 0) = true := bne_iff_ne.mpr c32
                      exact absurd (Option.some.inj H) (by decide)
                  · rw [if_neg c31] at H
                    have c31b0 : (((rd_T35 t256 0).f0) == 1 && (((rd_T35 t256 0).f1) == (wrap64 (a0)))) = false := by simpa using c31
                    (try (have c31b1 : decide (((rd_T35 t256 0).f0) = 1 && (((rd_T35 t256 0).f1) == (wrap64 (a0)))) = false := by simpa using c31))
                    (try (have c31b2 : (((rd_T35 t256 0).f0) == 1 && (((rd_T35 t256 0).f1) == (wrap64 (a0)))) = false := by simpa using c31))
                    (try (have c31b3 : ¬ (((rd_T35 t256 0).f0) = 1 && (((rd_T35 t256 0).f1) == (wrap64 (a0)))) := by simpa using c31))
                    clear c31
                    exact absurd (Option.some.inj H) (by decide)
                · rw [if_neg c30] at H
                  exact absurd H (by simp)
              · rw [if_neg c29] at H
                have c29b0 : ((t256.length : Int) == 1) = false := beq_eq_false_iff_ne.mpr c29
                have c29b1 : ((t256.length : Int) != 1) = true := bne_iff_ne.mpr c29
                exact absurd (Option.some.inj H) (by decide)
            · rw [if_neg c28] at H
              have c28b0 : (t257 == 0) = false := beq_eq_false_iff_ne.mpr c28
              have c28b1 : (t257 != 0) = true := bne_iff_ne.mpr c28
              exact absurd (Option.some.inj H) (by decide)
          · rw [if_neg c26] at H
            exact absurd H (by simp)
        · rw [if_neg c25] at H
          exact absurd H (by simp)
    · rw [if_neg c7] at H
      have c7b0 : (t261 == 2) = false := beq_eq_false_iff_ne.mpr c7
      have c7b1 : (t261 != 2) = true := bne_iff_ne.mpr c7
      exact absurd (Option.some.inj H) (by decide)
  · rw [if_neg c5] at H
    exact absurd H (by simp)

/-- THE ONE PURE STATEMENT of remontoirlaw13_LexNumbers: yours. -/
def remontoirlaw13_LexNumbers.Pure : Prop := ∀ (a0 : Int) (a1 : Int), (Lit.int .u64 a0).wf = true → (Lit.int .u16 a1).wf = true → ∃ k, remontoirlaw13_LexNumbers.f k a0 a1 = some true
theorem remontoirlaw13_LexNumbers.walk (P : remontoirlaw13_LexNumbers.Pure) (a0 : Int) (a1 : Int) (w : World) (hT : Tabs w) (w0 : (Lit.int .u64 a0).wf = true) (w1 : (Lit.int .u16 a1).wf = true) :
    Calls Tryd.prog 6 #[.int .u64 a0, .int .u16 a1] w fun e w' => e = .returned (.bool true) ∧ Below w.heap.size w w' := by
  obtain ⟨k, h⟩ := P a0 a1 w0 w1
  refine (remontoirlaw13_LexNumbers.calls k a0 a1 w hT h).mono ?_
  rintro e w' ⟨rfl, hd⟩
  exact ⟨rfl, hd⟩

end Go.Proofs.YtojfdekiponccaaDoor.H
