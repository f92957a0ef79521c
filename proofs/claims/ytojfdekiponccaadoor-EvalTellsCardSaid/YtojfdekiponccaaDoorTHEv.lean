import Derived.Test.YtojfdekiponccaaDoorTHEval
import Derived.Test.YtojfdekiponccaaDoorTHParse
import Derived.Great.Walk
import Derived.Laws.Tables
import Derived.Deep.WholeRow
import Derived.OpenShut
import Derived.ChangeKeysEq
import Derived.Deep.Slices
import Derived.ChangeArms
import Derived.Test.YtojfdekiponccaaDoorTPGC
/- eval.Test, the law's test: a guard's text over 26 variables. -/
namespace Go.Proofs.YtojfdekiponccaaDoor.H
open Go.RowKit Go.HK Go.Proofs.YtojfdekiponccaaDoorW.PrintWords Go.Proofs.YtojfdekiponccaaDoorW.PrintLast Go.Proofs.YtojfdekiponccaaDoorW.PrintMore
set_option linter.unusedVariables false
set_option linter.unusedSimpArgs false
theorem exec_load {P : Program} {ρ : Operand → Value} {o : Oper} {t : TypeId} {a : Operand} (ho : o.op = .load t a) {w w' : World} {v : Value} (h : (Instr.loadAt t (ρ a)).run P w = .ok v w') : (execOp ρ o).run P w = .ok (.value v) w' := by
  unfold execOp
  rw [ho]
  simp only [Sem.run_bind, h, Result.andThen]
  rfl
theorem load_lit {w : World} {g : Nat} {x : Nat → Int} {T : Nat} (hg : w.heap[g]? = some (.cells (lit x) T (0, 0))) : (Instr.loadAt 48 (.pointer (some ⟨g, 0, none⟩))).run Tryd.prog w = .ok (.agg (lit x)) w := by
  have h := run_loadVar_row (P := Tryd.prog) w g T 48 (lit x) (0, 0) _ hg Tryd.underlying48 rfl (by rw [lit_size]; kernel_rfl)
  exact h
def eval_Test.f (k : Nat) (a0 : ByteArray) (x : Nat → Int) : Option (Bool × Int) :=
  (guard_Parse.f k a0).bind fun p => if p.2 = 0 then (if p.1.length ≤ 100000 then (eval_Of.f k x p.1).bind fun b => some (b.1, 0) else none) else some (false, p.2)
set_option maxRecDepth 100000 in
theorem eval_Test.calls (k : Nat) (a0 : ByteArray) (x : Nat → Int) (r1 : Bool) (r2 : Int) (w : World) (hT : Tabs2 w) (h : eval_Test.f k a0 x = some (r1, r2)) :
    Calls Tryd.prog 26 #[.string a0, .agg (lit x)] w fun e w' => e = .returned (.tuple #[.bool r1, .int .i64 r2]) ∧ Below w.heap.size w w' := by
  have hba : Below w.heap.size w (w.alloc (.cells (lit x) 48)) := (Below.refl _ _).alloc (Nat.le_refl _) _
  have HT := Aside0.mk (hT.below hba)
  have HBA := Aside0.mk hba
  have hsz : (w.alloc (.cells (lit x) 48)).heap.size = w.heap.size + 1 := by simp
  have HSZ := Aside0.mk hsz
  unfold eval_Test.f at h
  cases hp : guard_Parse.f k a0 with
  | none => rw [hp] at h; cases h
  | some p =>
    obtain ⟨l, e⟩ := p
    rw [hp] at h
    simp only [Option.bind_some] at h
    have HP := Aside0.mk hp
    clear hp hT hba hsz
    by_cases he : e = 0
    · subst he
      rw [if_pos rfl] at h
      by_cases hl : l.length ≤ 100000
      · rw [if_pos hl] at h
        cases ho : eval_Of.f k x l with
        | none => rw [ho] at h; cases h
        | some b =>
          obtain ⟨b1, b2⟩ := b
          rw [ho] at h
          obtain ⟨rfl, rfl⟩ := Prod.mk.inj (Option.some.inj (show some (b1, 0) = some (r1, r2) from h))
          have HO := Aside0.mk ho
          have HL := Aside0.mk hl
          clear h ho hl
          go_enter Tryd.func26, Tryd.ntmps26
          go_wp2_with (first
            | (go_at_call 43; refine (guard_Parse.calls k a0 l 0 _ HT.out HP.out).mono ?_; rintro e1 w1 ⟨v1, rfl, hr, hb⟩; obtain ⟨A, c, rfl, hlc, hC⟩ := Kd.R_reads hr; have hx : w1.heap[w.heap.size]? = some (.cells (lit x) 48 (0, 0)) := (hb.block _ (by rw [HSZ.out]; omega)).trans (heap_alloc_last w _); have HX := Aside0.mk hx; have HC := Aside0.mk hC; have HLC := Aside0.mk hlc; have HB1 := Aside0.mk (HBA.out.trans (hb.mono (by rw [HSZ.out]; omega))); clear hr hb hlc hC hx)
            | (refine Great.wpList_readTo rfl (some 20) rfl (.agg (lit x)) (exec_load rfl (load_lit HX.out)) ?_)
            | (go_at_call 25; refine (eval_Of.calls k x _ _ l b1 b2 _ HC.out HLC.out HL.out HO.out).mono ?_; rintro e2 w2 ⟨rfl, hb2⟩; have HB2 := Aside0.mk (HB1.out.trans (hb2.mono HB1.out.size)); clear hb2))
          go_ret2
          exact ⟨rfl, HB2.out⟩
      · rw [if_neg hl] at h
        cases h
    · rw [if_neg he] at h
      obtain ⟨rfl, rfl⟩ := Prod.mk.inj (Option.some.inj h)
      have hne : (e != 0) = true := bne_iff_ne.2 he
      clear h
      go_enter Tryd.func26, Tryd.ntmps26
      go_wp2_with (first
        | (go_at_call 43; refine (guard_Parse.calls k a0 l e _ HT.out HP.out).mono ?_; rintro e1 w1 ⟨v1, rfl, hr, hb⟩; have HB1 := Aside0.mk (HBA.out.trans (hb.mono (by rw [HSZ.out]; omega))); clear hr hb))
      go_ret2
      exact ⟨rfl, HB1.out⟩
end Go.Proofs.YtojfdekiponccaaDoor.H
/- The law's test: a guard's text over 26 variables. -/
namespace Go.Proofs.YtojfdekiponccaaDoor.H
open Go.RowKit Go.HK Go.Proofs.YtojfdekiponccaaDoorW.PrintWords Go.Proofs.YtojfdekiponccaaDoorW.PrintLast Go.Proofs.YtojfdekiponccaaDoorW.PrintMore
set_option linter.unusedVariables false
set_option linter.unusedSimpArgs false
def law15_test.f (k : Nat) (a0 : ByteArray) (x : Nat → Int) : Option Bool := (eval_Test.f k a0 x).bind fun r => some (if r.2 = 0 then r.1 else false)
set_option maxRecDepth 100000 in
theorem law15_test.calls (k : Nat) (a0 : ByteArray) (x : Nat → Int) (r : Bool) (w : World) (hT : Tabs2 w) (h : law15_test.f k a0 x = some r) :
    Calls Tryd.prog 31 #[.string a0, .agg (lit x)] w fun e w' => e = .returned (.bool r) ∧ Below w.heap.size w w' := by
  have hba : Below w.heap.size w (w.alloc (.cells (lit x) 48)) := (Below.refl _ _).alloc (Nat.le_refl _) _
  have HT := Aside0.mk (hT.below hba)
  have HBA := Aside0.mk hba
  have hsz : (w.alloc (.cells (lit x) 48)).heap.size = w.heap.size + 1 := by simp
  have HSZ := Aside0.mk hsz
  have HX := Aside0.mk (heap_alloc_last w (.cells (lit x) 48))
  unfold law15_test.f at h
  cases hp : eval_Test.f k a0 x with
  | none => rw [hp] at h; cases h
  | some p =>
    obtain ⟨b, e⟩ := p
    rw [hp] at h
    have HP := Aside0.mk hp
    have hr : (if e = 0 then b else false) = r := Option.some.inj h
    clear hp hT hba hsz h
    by_cases he : e = 0
    · rw [if_pos he] at hr
      subst hr
      have heb : (e == 0) = true := beq_iff_eq.2 he
      clear he
      go_enter Tryd.func31, Tryd.ntmps31
      go_wp2_with (first
        | (refine Great.wpList_readTo rfl (some 9) rfl (.agg (lit x)) (exec_load rfl (load_lit HX.out)) ?_)
        | (go_at_call 26; refine (eval_Test.calls k a0 x b e _ HT.out HP.out).mono ?_; rintro e2 w2 ⟨rfl, hb2⟩; have HB2 := Aside0.mk (HBA.out.trans (hb2.mono (by rw [HSZ.out]; omega))); clear hb2))
      go_ret
      exact ⟨rfl, HB2.out⟩
    · rw [if_neg he] at hr
      subst hr
      have heb : (e == 0) = false := beq_eq_false_iff_ne.2 he
      go_enter Tryd.func31, Tryd.ntmps31
      go_wp2_with (first
        | (refine Great.wpList_readTo rfl (some 9) rfl (.agg (lit x)) (exec_load rfl (load_lit HX.out)) ?_)
        | (go_at_call 26; refine (eval_Test.calls k a0 x b e _ HT.out HP.out).mono ?_; rintro e2 w2 ⟨rfl, hb2⟩; have HB2 := Aside0.mk (HBA.out.trans (hb2.mono (by rw [HSZ.out]; omega))); clear hb2))
      go_ret
      exact ⟨rfl, HB2.out⟩
end Go.Proofs.YtojfdekiponccaaDoor.H
/- eval.With: variables with other values. Its list of settings is read as pairs of numbers (as signs are: two whole numbers). -/
namespace Go.Proofs.YtojfdekiponccaaDoor.H
open Go.RowKit Go.HK Go.Proofs.YtojfdekiponccaaDoorW.PrintWords Go.Proofs.YtojfdekiponccaaDoorW.PrintLast Go.Proofs.YtojfdekiponccaaDoorW.PrintMore
set_option linter.unusedVariables false
set_option linter.unusedSimpArgs false
def upd (x : Nat → Int) (n : Nat) (v : Int) : Nat → Int := fun i => if i = n then v else x i
theorem lit_set (x : Nat → Int) (n : Nat) (v : Int) (h : n < 26) : (lit x).setIfInBounds n (.int .i64 v) = lit (upd x n v) := by
  apply Array.ext_getElem?
  intro i
  rw [Array.getElem?_setIfInBounds, lit_size]
  by_cases hi : i < 26
  · rw [lit_get _ _ hi, lit_get _ _ hi]
    unfold upd
    by_cases e : n = i
    · subst e
      rw [if_pos rfl, if_pos h, if_pos rfl]
    · rw [if_neg e, if_neg (fun q => e q.symm)]
  · have e1 : (lit x)[i]? = none := Array.getElem?_eq_none (by rw [lit_size]; omega)
    have e2 : (lit (upd x n v))[i]? = none := Array.getElem?_eq_none (by rw [lit_size]; omega)
    rw [if_neg (by omega), e1, e2]
def withL : List S35 → (Nat → Int) → (Nat → Int) × Bool
  | [], x => (x, true)
  | s :: l, x => if 0 ≤ s.f0 ∧ s.f0 < 26 then withL l (upd x s.f0.toNat s.f1) else (fun _ => 0, false)
theorem store_lit {w : World} {g : Nat} {x y : Nat → Int} {T : Nat} (hg : w.heap[g]? = some (.cells (lit x) T (0, 0))) : (Instr.storeAt 48 (.pointer (some ⟨g, 0, none⟩)) (.agg (lit y))).run Tryd.prog w = .ok () (w.setRow g (lit y)) := by
  have h := run_storeVar_row (P := Tryd.prog) w g T 48 (lit x) (lit y) hg (by rw [lit_size]; kernel_rfl) (by rw [lit_size, lit_size]) (by simp [lit, Value.oneCell'])
  exact h
theorem heap_setRow {w : World} {g : Nat} {cs ds : Array Value} {T : Nat} (h : w.heap[g]? = some (.cells cs T (0, 0))) : (w.setRow g ds).heap[g]? = some (.cells ds T (0, 0)) := by
  simp [World.setRow, Array.getElem?_modify, h]
theorem heap_setRow_far {w : World} {g k : Nat} {ds : Array Value} (hk : k ≠ g) : (w.setRow g ds).heap[k]? = w.heap[k]? := by
  simp only [World.setRow, Array.getElem?_modify]
  rw [if_neg (by omega)]
theorem below_setRow {B : Nat} {w0 w : World} {g : Nat} {ds : Array Value} (h : Below B w0 w) (hg : B ≤ g) : Below B w0 (w.setRow g ds) :=
  h.trans ⟨rfl, rfl, rfl, by simp [World.setRow], fun k hk => heap_setRow_far (by omega)⟩
theorem results_cell_tmp {fn : Func} {p q : Tmp} {ty : TypeId} (h : fn.results = #[.cell p ty, .tmp q]) (tmps : Array Value) (P : Program) (w : World) (ad : Addr) (v : Value) (hp : tmps.getD p undef = .pointer (some ad)) (hl : (loadVar ty ad).run P w = .ok v w) :
    (results fn tmps).run P w = .ok (.tuple #[v, tmps.getD q undef]) w := by
  simp only [results, h]
  simp only [List.mapM_toArray, List.mapM_cons, List.mapM_nil, hp, asAddr]
  simp [hl]
theorem load_row {w : World} {g : Nat} {x : Nat → Int} {T : Nat} (hg : w.heap[g]? = some (.cells (lit x) T (0, 0))) : (loadVar 48 ⟨g, 0, none⟩).run Tryd.prog w = .ok (.agg (lit x)) w :=
  run_loadVar_row (P := Tryd.prog) w g T 48 (lit x) (0, 0) _ hg Tryd.underlying48 rfl (by rw [lit_size]; kernel_rfl)
/-- The head of a round. -/
def WI (b : Nat) (l : List S35) (fin : (Nat → Int) × Bool) (w0 : World) (kq : Nat) (v10 : Value) (wr : World) : Prop :=
  ∃ (i : Nat) (x : Nat → Int), v10 = .int .i64 i ∧ i ≤ l.length ∧ kq = l.length - i ∧ withL (l.drop i) x = fin ∧ Below b w0 wr ∧ wr.heap[b]? = some (.cells (lit x) 48 (0, 0)) ∧ wr.heap[b + 1]? = some (.cells (lit fun _ => 0) 48 (0, 0))
set_option maxRecDepth 100000 in
set_option maxHeartbeats 4000000 in
theorem eval_With.calls (x : Nat → Int) (A : Option Addr) (c : Nat) (l : List S35) (y : Nat → Int) (ok : Bool) (w : World) (hr : Kd.C k35 w A l.length l) (hc : l.length ≤ c) (hl : l.length ≤ 100000) (h : withL l x = (y, ok)) :
    Calls Tryd.prog 29 #[.agg (lit x), .slice A l.length c] w fun e w' => e = .returned (.tuple #[.agg (lit y), .bool ok]) ∧ Below w.heap.size w w' := by
  have HR := Aside0.mk hr
  have HE := Aside0.mk h
  have hz : (#[.int .i64 0, .int .i64 0, .int .i64 0, .int .i64 0, .int .i64 0, .int .i64 0, .int .i64 0, .int .i64 0, .int .i64 0, .int .i64 0, .int .i64 0, .int .i64 0, .int .i64 0, .int .i64 0, .int .i64 0, .int .i64 0, .int .i64 0, .int .i64 0, .int .i64 0, .int .i64 0, .int .i64 0, .int .i64 0, .int .i64 0, .int .i64 0, .int .i64 0, .int .i64 0] : Array Value) = lit (fun _ => 0) := by rfl
  have HZ := Aside0.mk hz
  clear hr h hz
  go_enter Tryd.func29, Tryd.ntmps29
  go_wp2
  go_loopg [10] l.length (fun kq v10 wr => WI w.heap.size l (y, ok) w kq v10 wr)
  case atStart =>
    have q := two_blocks w (.cells (lit x) 48) (.cells (lit fun _ => 0) 48)
    rw [← HZ.out] at q
    refine ⟨0, x, rfl, Nat.zero_le _, by omega, HE.out, ((Below.refl _ _).alloc (Nat.le_refl _) _).alloc (by simp) _, q.1, ?_⟩
    rw [← HZ.out]
    exact q.2
  case round =>
    obtain ⟨i, x1, rfl, hi, hk, hev, hbw, hx, hz0⟩ := hrel
    have HK := Aside0.mk hk
    have HB := Aside0.mk hbw
    by_cases hlt : i < l.length
    · rw [List.drop_eq_getElem_cons hlt] at hev
      obtain ⟨ad, eA, e0, e1⟩ := at_T35 (Kd.C_below HR.out hbw) (i : Int) (by omega) (by omega)
      have erd : rd_T35 l (i : Int) = l[i] := by
        unfold rd_T35
        rw [Int.toNat_natCast, List.getD_eq_getElem?_getD, List.getElem?_eq_getElem hlt]
        rfl
      rw [erd, Int.toNat_natCast] at e0 e1
      generalize l[i] = s at *
      have hin : (i : Int) < (l.length : Int) := by omega
      subst eA
      clear erd hk HE
      simp only [withL] at hev
      have hxW : (wr.alloc (.cells #[.int .i64 s.f0, .int .i64 s.f1] 81)).heap[w.heap.size]? = some (.cells (lit x1) 48 (0, 0)) := (Below.heap_alloc _ _ _ (blk_lt hx)).trans hx
      have hzW : (wr.alloc (.cells #[.int .i64 s.f0, .int .i64 s.f1] 81)).heap[w.heap.size + 1]? = some (.cells (lit fun _ => 0) 48 (0, 0)) := (Below.heap_alloc _ _ _ (blk_lt hz0)).trans hz0
      have hble : w.heap.size ≤ wr.heap.size := hbw.size
      have HXW := Aside0.mk hxW
      have HZW := Aside0.mk hzW
      have HBW := Aside0.mk (hbw.alloc hble (.cells #[.int .i64 s.f0, .int .i64 s.f1] 81))
      by_cases kn : 0 ≤ s.f0 ∧ s.f0 < 26
      · rw [if_pos kn] at hev
        have HEV := Aside0.mk hev
        have hxc : (wr.alloc (.cells #[.int .i64 s.f0, .int .i64 s.f1] 81)).cell? ⟨w.heap.size, s.f0.toNat, none⟩ = some (.int .i64 (x1 s.f0.toNat)) := (blk_cell hxW s.f0.toNat).trans (lit_get x1 _ (by omega))
        have hxf := blk_frozen hxW s.f0.toNat
        obtain ⟨kn0, kn1⟩ := kn
        have kb1 : decide (s.f0 < 0) = false := decide_eq_false (by omega)
        have kb2 : decide (26 ≤ s.f0) = false := decide_eq_false (by omega)
        clear hev hxW hzW hx hz0 hbw
        go_wp2
        go_roundg (l.length - (i + 1))
        case measure => have := HK.out; omega
        case rel =>
          refine ⟨i + 1, upd x1 s.f0.toNat s.f1, by go_num, by omega, rfl, HEV.out, HBW.out.setCell (Nat.le_refl _) _, ?_, blk_far HZW.out (by show w.heap.size + 1 ≠ w.heap.size; omega) _⟩
          rw [← lit_set x1 _ _ (by omega)]
          exact blk_set HXW.out s.f0.toNat _
      · rw [if_neg kn] at hev
        obtain ⟨rfl, rfl⟩ := Prod.mk.inj hev
        have hsz := store_lit (y := fun _ => 0) HZW.out
        rw [← HZ.out] at hsz
        have HSZ := Aside0.mk hsz
        clear hev hxW hzW hx hz0 hbw hsz
        by_cases kb : s.f0 < 0
        · have kb1 : decide (s.f0 < 0) = true := decide_eq_true kb
          clear kn
          go_wp2_with (first | (refine wpList_doTo rfl _ (exec_store rfl HSZ.out) ?_))
          rw [HZ.out]
          refine bodyPost_ret (results_cell_tmp rfl _ _ _ ⟨w.heap.size + 1, 0, none⟩ _ rfl (load_row (x := fun _ => 0) (heap_setRow HZW.out))) rfl ?_
          exact ⟨rfl, below_setRow HBW.out (by omega)⟩
        · have kb1 : decide (s.f0 < 0) = false := decide_eq_false kb
          have kb2 : decide (26 ≤ s.f0) = true := decide_eq_true (by omega)
          clear kn
          go_wp2_with (first | (refine wpList_doTo rfl _ (exec_store rfl HSZ.out) ?_))
          rw [HZ.out]
          refine bodyPost_ret (results_cell_tmp rfl _ _ _ ⟨w.heap.size + 1, 0, none⟩ _ rfl (load_row (x := fun _ => 0) (heap_setRow HZW.out))) rfl ?_
          exact ⟨rfl, below_setRow HBW.out (by omega)⟩
    · obtain rfl : i = l.length := by omega
      rw [List.drop_length] at hev
      obtain ⟨rfl, rfl⟩ := Prod.mk.inj (show (x1, true) = (y, ok) from hev)
      have HX := Aside0.mk hx
      have HZ0 := Aside0.mk hz0
      clear hev hx hz0 hbw hk HE
      go_wp2_with (first
        | (refine Great.wpList_readTo rfl (some 29) rfl (.agg (lit x1)) (exec_load rfl (load_lit HX.out)) ?_)
        | (refine wpList_doTo rfl _ (exec_store rfl (store_lit (y := x1) HZ0.out)) ?_))
      refine bodyPost_ret (results_cell_tmp rfl _ _ _ ⟨w.heap.size + 1, 0, none⟩ _ rfl (load_row (heap_setRow HZ0.out))) rfl ?_
      exact ⟨rfl, below_setRow HB.out (by omega)⟩
end Go.Proofs.YtojfdekiponccaaDoor.H
/- The examples of chapter 15. -/
namespace Go.Proofs.YtojfdekiponccaaDoor.H
open Go.RowKit Go.HK Go.Proofs.YtojfdekiponccaaDoorW.PrintWords Go.Proofs.YtojfdekiponccaaDoorW.PrintLast Go.Proofs.YtojfdekiponccaaDoorW.PrintMore
set_option linter.unusedVariables false
set_option linter.unusedSimpArgs false
def zeros : Array Value := #[.int .i64 0, .int .i64 0, .int .i64 0, .int .i64 0, .int .i64 0, .int .i64 0, .int .i64 0, .int .i64 0, .int .i64 0, .int .i64 0, .int .i64 0, .int .i64 0, .int .i64 0, .int .i64 0, .int .i64 0, .int .i64 0, .int .i64 0, .int .i64 0, .int .i64 0, .int .i64 0, .int .i64 0, .int .i64 0, .int .i64 0, .int .i64 0, .int .i64 0, .int .i64 0]
theorem zeros_eq : zeros = lit (fun _ => 0) := by rfl
/-- One pair of numbers in a new row. -/
theorem row_new (w : World) (a b : Int) (T : Nat) : Kd.C k35 (w.alloc (.cells #[.int .i64 a, .int .i64 b] T)) (some ⟨w.heap.size, 0, none⟩) [(⟨a, b⟩ : S35)].length [(⟨a, b⟩ : S35)] := by
  have hb := heap_alloc_last w (.cells #[.int .i64 a, .int .i64 b] T)
  refine ⟨rfl, by simp, fun _ => ⟨_, rfl, fun j p hj => ?_⟩⟩
  have hj0 : j = 0 := by
    have := (List.getElem?_eq_some_iff.1 hj).1
    simpa using this
  subst hj0
  obtain rfl : (⟨a, b⟩ : S35) = p := by simpa using hj
  refine ⟨[.int .i64 a, .int .i64 b], rfl, k35_mk _ _, fun i u hu => ?_⟩
  have hc := blk_cell hb i
  have e : (⟨w.heap.size, 0, none⟩ : Addr).add (0 * k35.sz + i) = ⟨w.heap.size, i, none⟩ := by
    rw [Nat.zero_mul, Nat.zero_add]
    unfold Addr.add
    split
    · rename_i q; subst q; rfl
    · simp
  rw [e, hc, ← hu]
  simp
theorem store_new (w : World) (y : Nat → Int) : (Instr.storeAt 48 (.pointer (some ⟨w.heap.size, 0, none⟩)) (.agg (lit y))).run Tryd.prog (w.alloc (.cells zeros 48)) = .ok () (w.alloc (.cells (lit y) 48)) :=
  run_storeAt_new w _ zeros (lit y) (by rw [lit_size]; kernel_rfl) (by rw [lit_size]; rfl) (by simp [lit, Value.oneCell'])
def wx : Nat → Int := upd (fun _ => 0) 0 9223372036854775807
theorem ex1 : eval_Test.f 40 ⟨#[97, 32, 43, 32, 49, 32, 62, 32, 97]⟩ wx = some (false, 0) := by kernel_rfl
theorem ex2 : eval_Test.f 40 ⟨#[33, 32, 40, 32, 97, 32, 61, 61, 32, 98, 32, 41]⟩ (fun _ => 0) = some (false, 0) := by kernel_rfl
theorem ex3 : eval_Test.f 40 ⟨#[97, 32, 62, 32, 98]⟩ wx = some (true, 0) := by kernel_rfl
theorem with1 : withL [(⟨0, 9223372036854775807⟩ : S35)] (fun _ => 0) = (wx, true) := by rfl
theorem with2 : withL [(⟨26, 0⟩ : S35)] wx = (fun _ => 0, false) := by rfl
set_option maxRecDepth 100000 in
set_option maxHeartbeats 800000 in
theorem wakes15_calls (w : World) (hT : Tabs2 w) : Calls Tryd.prog 24 #[] w fun e w' => e = .returned (.bool true) ∧ Below w.heap.size w w' := by
  have HT := Aside0.mk hT
  clear hT
  have W1 := Aside0.mk (fun (W : World) => eval_With.calls (fun _ => 0) _ 1 [(⟨0, 9223372036854775807⟩ : S35)] wx true _ (row_new W 0 9223372036854775807 81) (by decide) (by decide) with1)
  have W2 := Aside0.mk (fun (W : World) => eval_With.calls wx _ 1 [(⟨26, 0⟩ : S35)] (fun _ => 0) false _ (row_new W 26 0 81) (by decide) (by decide) with2)
  have E1 := Aside0.mk (fun (W : World) (hT : Tabs2 W) => eval_Test.calls 40 _ wx false 0 W hT ex1)
  have E3 := Aside0.mk (fun (W : World) (hT : Tabs2 W) => eval_Test.calls 40 _ wx true 0 W hT ex3)
  have E2 := Aside0.mk (fun (W : World) (hT : Tabs2 W) => eval_Test.calls 40 _ (fun _ => 0) false 0 W hT ex2)
  rw [← zeros_eq] at W1 E2
  unfold zeros at W1 E2
  have SN := Aside0.mk (fun (W : World) (y : Nat → Int) => store_new W y)
  unfold zeros at SN
  go_enter Tryd.func24, Tryd.ntmps24
  go_wp2_with (first
    | (go_at_call 29; refine (W1.out _).mono ?_; clear W1; rintro e1 w1 ⟨rfl, hb⟩; have HB1 := Aside0.mk (((Below.refl _ _).alloc (Nat.le_refl _) _).trans (hb.mono (by simp))); clear hb)
    | ((with_reducible refine wpList_doTo rfl _ (exec_store rfl (SN.out w1 wx)) ?_); have hba := (Below.refl w1.heap.size w1).alloc (Nat.le_refl _) (.cells (lit wx) 48); have HB2 := Aside0.mk (HB1.out.trans (hba.mono HB1.out.size)); have HT2 := Aside0.mk (HT.out.below HB2.out); have HX2 := Aside0.mk (heap_alloc_last w1 (.cells (lit wx) 48)); clear hba)
    | ((with_reducible refine Great.wpList_readTo rfl (some 19) rfl (.agg (lit wx)) (exec_load rfl (load_lit HX2.out)) ?_))
    | (go_at_call 26; (with_reducible refine (E1.out _ HT2.out).mono ?_); rintro e1 w3 ⟨rfl, hb⟩; have HB3 := Aside0.mk (HB2.out.trans (hb.mono HB2.out.size)); have HT3 := Aside0.mk (HT2.out.below hb); have HX3 := Aside0.mk ((hb.block _ (blk_lt HX2.out)).trans HX2.out); clear hb)
    | (go_at_call 26; (with_reducible refine (E2.out _ HT3.out).mono ?_); rintro e1 w4 ⟨rfl, hb⟩; have HB4 := Aside0.mk (HB3.out.trans (hb.mono HB3.out.size)); have HT4 := Aside0.mk (HT3.out.below hb); have HX4 := Aside0.mk ((hb.block _ (blk_lt HX3.out)).trans HX3.out); clear hb)
    | ((with_reducible refine Great.wpList_readTo rfl (some 29) rfl (.agg (lit wx)) (exec_load rfl (load_lit HX4.out)) ?_))
    | (go_at_call 26; (with_reducible refine (E3.out _ HT4.out).mono ?_); rintro e1 w5 ⟨rfl, hb⟩; have HB5 := Aside0.mk (HB4.out.trans (hb.mono HB4.out.size)); have HT5 := Aside0.mk (HT4.out.below hb); have HX5 := Aside0.mk ((hb.block _ (blk_lt HX4.out)).trans HX4.out); clear hb)
    | ((with_reducible refine Great.wpList_readTo rfl (some 34) rfl (.agg (lit wx)) (exec_load rfl (load_lit HX5.out)) ?_))
    | (go_at_call 29; refine (W2.out _).mono ?_; clear W2; rintro e1 w6 ⟨rfl, hb⟩; have hba := (Below.refl w5.heap.size w5).alloc (Nat.le_refl _) (.cells #[.int .i64 26, .int .i64 0] 81); have HB6 := Aside0.mk ((HB5.out.trans (hba.mono HB5.out.size)).trans (hb.mono ((HB5.out.trans (hba.mono HB5.out.size)).size))); have hx := (hba.block _ (blk_lt HX5.out)).trans HX5.out; have HX6 := Aside0.mk ((hb.block _ (blk_lt hx)).trans hx); clear hb hba hx)
    | ((with_reducible refine wpList_doTo rfl _ (exec_store rfl (SN.out w6 (fun _ => 0))) ?_); have hba := (Below.refl w6.heap.size w6).alloc (Nat.le_refl _) (.cells (lit fun _ => 0) 48); have HB7 := Aside0.mk (HB6.out.trans (hba.mono HB6.out.size)); have hx7 : (w6.alloc (.cells (lit fun _ => 0) 48)).cell? ⟨w1.heap.size, 0, none⟩ = some (.int .i64 9223372036854775807) := (blk_cell ((hba.block _ (blk_lt HX6.out)).trans HX6.out) 0).trans (lit_get wx 0 (by decide)); clear hba))
  go_ret
  exact ⟨rfl, HB7.out⟩
end Go.Proofs.YtojfdekiponccaaDoor.H
/- 26 variables by value: held against each other, and as a parameter. -/
namespace Go.Proofs.YtojfdekiponccaaDoor.H
open Go.RowKit Go.HK Go.Deep Go.Proofs.YtojfdekiponccaaDoorW.PrintWords Go.Proofs.YtojfdekiponccaaDoorW.PrintLast Go.Proofs.YtojfdekiponccaaDoorW.PrintMore
set_option linter.unusedVariables false
set_option linter.unusedSimpArgs false
set_option maxRecDepth 100000 in
theorem open_vars {K : Type} {enc : TypeId × Value → K} {W W2 : World} {r : Reach} {b b2 : Nat} {spare : Nat → Bool} {held : Bool} {v : Value} {d : DataW K} {p : List MemPlace} (hv : Value.okWide Tryd.prog W2 r b2 48 v) (h : DataW.Trod enc Tryd.prog W b spare held 48 v d p) :
    ∃ x : Nat → Int, v = .agg (lit x) ∧ ∀ i, i < 26 → (Lit.int .i64 (x i)).wf = true := by
  simp only [Value.okWide, Tryd.underlying48] at hv
  obtain ⟨cs, rfl, hsz, _⟩ := hv
  have hsz : cs.size = 26 := hsz.trans (by kernel_rfl)
  obtain ⟨fuel, hf⟩ := h
  obtain ⟨xs, m, _, _, hl, hxl, he⟩ := DataW.trod_array Tryd.underlying48 hf
  have hc : Tryd.prog.cellsOf 2 = 1 := by kernel_rfl
  have each : ∀ i, i < 26 → ∃ n, cs[i]? = some (.int .i64 n) ∧ (Lit.int .i64 n).wf = true := by
    intro i hi
    have g := he i hi
    rw [hc, Nat.mul_one] at g
    have hx : i < xs.length := by omega
    rw [List.getElem?_eq_getElem hx] at g
    obtain ⟨n, e, _, hw⟩ := DataW.trod_int Tryd.underlying2 g
    exact ⟨n, getElem?_of_chunk (xs := cs) e, hw⟩
  obtain ⟨f, hf⟩ := choose_lt each
  refine ⟨f, ?_, fun i hi => (hf i hi).2⟩
  refine congrArg Value.agg ?_
  apply Array.ext_getElem?
  intro i
  by_cases hi : i < 26
  · rw [(hf i hi).1, lit_get _ _ hi]
  · rw [Array.getElem?_eq_none (by omega), Array.getElem?_eq_none (by rw [lit_size]; omega)]
end Go.Proofs.YtojfdekiponccaaDoor.H
/- What a guard's text says of 26 variables: turned, joined; or that it says nothing. -/
namespace Go.Proofs.YtojfdekiponccaaDoor.Pure
open Go.RowKit Go.Proofs.YtojfdekiponccaaDoor.H Go.Proofs.YtojfdekiponccaaDoorW.PrintWords Go.Proofs.YtojfdekiponccaaDoorW.PrintLast Go.Proofs.YtojfdekiponccaaDoorW.PrintMore
set_option linter.unusedVariables false
set_option linter.unusedSimpArgs false
theorem w10 : wrap64 (1 - 0) = 1 := by unfold wrap64; omega
theorem w11 : wrap64 (1 - 1) = 0 := by unfold wrap64; omega
def tv (q : Bool) : Int := if q = true then 1 else 0
theorem truth_tv (q : Bool) : eval_truth.f q = some (tv q) := by cases q <;> rfl
theorem tv_or (q : Bool) : tv q = 0 ∨ tv q = 1 := by cases q <;> simp [tv]
theorem two_con (k a b : Int) (hk : k = 12 ∨ k = 13) (ha : a = 0 ∨ a = 1) (hb : b = 0 ∨ b = 1) : ∃ z, eval_two.f k a b = some z ∧ (z = 0 ∨ z = 1) ∧ (z == 1) = (if k = 12 then ((a == 1) && (b == 1)) else ((a == 1) || (b == 1))) := by
  rcases hk with rfl | rfl <;> rcases ha with rfl | rfl <;> rcases hb with rfl | rfl
  all_goals first
    | exact ⟨0, rfl, Or.inl rfl, rfl⟩
    | exact ⟨1, rfl, Or.inr rfl, rfl⟩
theorem step_two (x : Nat → Int) (k : Int) (h3 : 3 ≤ k) (h13 : k ≤ 13) (a b : Int) (rs : List Int) : evStep x ⟨k, 0⟩ (a :: b :: rs) = (eval_two.f k b a).bind fun z => some (z :: rs) := by
  unfold evStep
  dsimp only
  rw [if_neg (by omega), if_neg (by omega), if_neg (by omega), if_neg (by omega)]
theorem ev_cons (x : Nat → Int) (s : S35) (t : List S35) (rs : List Int) : evL x (s :: t) rs = (evStep x s rs).bind (evL x t) := rfl
/-- A part of a guard, evaluated. -/
def Val (x : Nat → Int) (p : List S35) (z : Int) : Prop := ∀ t rs, evL x (p ++ t) rs = evL x t (z :: rs)
theorem Val.two {x : Nat → Int} {p q : List S35} {a b z : Int} (hp : Val x p a) (hq : Val x q b) (k : Int) (h3 : 3 ≤ k) (h13 : k ≤ 13) (hz : eval_two.f k a b = some z) : Val x (p ++ q ++ [⟨k, 0⟩]) z := by
  intro t rs
  rw [List.append_assoc, List.append_assoc, hp, hq]
  show evL x ((⟨k, 0⟩ : S35) :: t) _ = _
  rw [ev_cons, step_two x k h3 h13, hz]
  rfl
theorem Val.neg {x : Nat → Int} {p : List S35} {a : Int} (hp : Val x p a) : Val x (p ++ [⟨19, 0⟩]) (wrap64 (-a)) := by
  intro t rs
  rw [List.append_assoc, hp]
  rfl
theorem Val.nt {x : Nat → Int} {p : List S35} {a : Int} (hp : Val x p a) : Val x (p ++ [⟨14, 0⟩]) (wrap64 (1 - a)) := by
  intro t rs
  rw [List.append_assoc, hp]
  rfl
theorem Val.num (x : Nat → Int) (n : Int) : Val x [⟨1, n⟩] n := fun t rs => rfl
theorem Val.name (x : Nat → Int) (n : Int) (h0 : 0 ≤ n) (h1 : n < 26) : Val x [⟨2, n⟩] (x n.toNat) := by
  intro t rs
  show evL x ((⟨2, n⟩ : S35) :: t) rs = _
  rw [ev_cons]
  have e : evStep x ⟨2, n⟩ rs = some (x n.toNat :: rs) := by
    unfold evStep
    dsimp only
    rw [if_neg (by decide), if_pos rfl, if_pos ⟨h0, h1⟩]
  rw [e]
  rfl
/-- What a text says. -/
def Says (x : Nat → Int) (l : List UInt8) (q : Bool) : Prop := ∃ o z, Gx l o ∧ Val x o z ∧ (z = 0 ∨ z = 1) ∧ (z == 1) = q
theorem gx_len {l : List UInt8} {x o : List S35} (hx : Lx l x) {k : Nat} (hk : PF k 0 (x, []) = some (some ([], o))) : o.length ≤ l.length := by
  obtain ⟨k2, r, h1, h2⟩ := PF_total _ x.length 0 (x, []) rfl (by omega) rfl trivial
  have e1 := PF_mono (Nat.le_max_left k k2) hk
  have e2 := PF_mono (Nat.le_max_right k k2) h1
  rw [e1] at e2
  obtain rfl := Option.some.inj e2
  have := (h2 _ rfl).2
  have hl := hx.len
  simp only [List.length_nil] at this
  omega
theorem of_post {x : Nat → Int} {o : List S35} {z : Int} (hp : Post true o) (hl : o.length ≤ 100000) (hv : Val x o z) (k : Nat) (hk : 2 * o.length + 10 ≤ k) : eval_Of.f k x o = some (z == 1, true) := by
  unfold eval_Of.f
  rw [good_post hp hl k hk]
  have e : evL x o [] = some [z] := by
    have := hv [] []
    rw [List.append_nil] at this
    exact this
  simp only [Option.bind_some, if_true, e]
end Go.Proofs.YtojfdekiponccaaDoor.Pure
