import Derived.Test.YtojfdekiponccaaGreatDoorHEv
import Derived.Test.YtojfdekiponccaaGreatDoorHShelf2
import Derived.Sort.OwnSortedInts
import Derived.Lib.OwnBridge
import Derived.Test.YtojfdekiponccaaGreatDoorPSays
/- guard.Uses: the names in some signs, each once. -/
namespace Go.Proofs.YtojfdekiponccaaGreatDoor.H
open Go.RowKit Go.HK Go.Sort Go.Proofs.YtojfdekiponccaaGreatDoorW.PrintWords Go.Proofs.YtojfdekiponccaaGreatDoorW.PrintLast Go.Proofs.YtojfdekiponccaaGreatDoorW.PrintMore
set_option linter.unusedVariables false
set_option linter.unusedSimpArgs false
theorem infoInt : (Tryz.prog.info? 3).map (fun i => (i.zero, i.size, i.bytes)) = some (some (.int .i64 0), 1, 8) := by kernel_rfl
def names : List S46 → List Int
  | [] => []
  | s :: l => if s.f0 = 2 then s.f1 :: names l else names l
theorem names_app : ∀ l m : List S46, names (l ++ m) = names l ++ names m
  | [], m => rfl
  | s :: l, m => by
    simp only [List.cons_append, names]
    split
    · rw [names_app l m, List.cons_append]
    · rw [names_app l m]
theorem names_take (l : List S46) (i : Nat) (h : i < l.length) : names (l.take (i + 1)) = if l[i].f0 = 2 then names (l.take i) ++ [l[i].f1] else names (l.take i) := by
  rw [List.take_succ_eq_append_getElem h, names_app]
  simp only [names]
  split
  · rfl
  · rw [List.append_nil]
theorem names_len : ∀ l : List S46, (names l).length ≤ l.length
  | [] => Nat.le_refl _
  | s :: l => by
    simp only [names]
    have := names_len l
    split <;> simp only [List.length_cons] <;> omega
theorem names_mem {l : List S46} {n : Int} (h : n ∈ names l) : ∃ s ∈ l, s.f0 = 2 ∧ s.f1 = n := by
  induction l with
  | nil => cases h
  | cons s l ih =>
    simp only [names] at h
    split at h
    · rename_i q
      rcases List.mem_cons.1 h with rfl | h
      · exact ⟨s, by simp, q, rfl⟩
      · obtain ⟨t, ht, h2⟩ := ih h
        exact ⟨t, by simp [ht], h2⟩
    · obtain ⟨t, ht, h2⟩ := ih h
      exact ⟨t, by simp [ht], h2⟩
theorem mem_upto (d : Array Int) (x : Int) : ∀ m, x ∈ Lib.compactUpTo d m ↔ ∃ j, j < m ∧ d[j]! = x
  | 0 => by simp [Lib.compactUpTo]
  | m + 1 => by
    rw [Lib.compactUpTo_succ, List.mem_append, mem_upto d x m]
    by_cases h : Lib.keeps d m = true
    · rw [if_pos h]
      constructor
      · rintro (⟨j, hj, e⟩ | h1)
        · exact ⟨j, by omega, e⟩
        · exact ⟨m, by omega, (List.mem_singleton.1 h1).symm⟩
      · rintro ⟨j, hj, e⟩
        by_cases hm : j = m
        · subst hm
          exact Or.inr (List.mem_singleton.2 e.symm)
        · exact Or.inl ⟨j, by omega, e⟩
    · rw [if_neg h]
      have h2 : m ≠ 0 ∧ d[m]! = d[m - 1]! := by
        unfold Lib.keeps at h
        simp only [decide_eq_true_eq, not_or, Decidable.not_not] at h
        exact h
      constructor
      · rintro (⟨j, hj, e⟩ | h1)
        · exact ⟨j, by omega, e⟩
        · cases h1
      · rintro ⟨j, hj, e⟩
        by_cases hm : j = m
        · subst hm
          exact Or.inl ⟨j - 1, by omega, by rw [← h2.2]; exact e⟩
        · exact Or.inl ⟨j, by omega, e⟩
theorem mem_compact_iff (zs : List Int) (x : Int) : x ∈ Lib.compact zs ↔ x ∈ zs := by
  unfold Lib.compact
  rw [mem_upto]
  constructor
  · rintro ⟨j, hj, e⟩
    have : (zs.toArray)[j]! = zs[j] := by simp [hj]
    rw [this] at e
    rw [← e]
    exact List.getElem_mem hj
  · intro h
    obtain ⟨j, hj, e⟩ := List.mem_iff_getElem.1 h
    exact ⟨j, hj, by rw [← e]; simp [hj]⟩
theorem compact_len (zs : List Int) : (Lib.compact zs).length ≤ zs.length := by
  unfold Lib.compact Lib.compactUpTo
  rw [List.length_map]
  have := List.length_filter_le (Lib.keeps zs.toArray) (List.range zs.length)
  rw [List.length_range] at this
  exact this
theorem below_growS {B : Nat} {w0 w : World} {os : Array Obj} (h : Below B w0 w) (hB : B ≤ w0.heap.size) : Below B w0 (Sort.grow w os) :=
  ⟨h.os, h.tape, h.output, by have := h.size; simp [Sort.grow]; omega, fun k hk => by rw [← h.block k hk]; have := h.size; exact Sort.heap_grow_old _ _ (by omega)⟩
theorem holds_own {w : World} {b g n cap : Nat} {e : TypeId} {zs : List Int} (h : w.ownsRow b e 1 (.slice (some ⟨g, 0, none⟩) n cap) n (zs.map (Value.int .i64))) : Sort.Holds (Value.int .i64) w g 0 zs.toArray := by
  obtain ⟨g', c', e1, _, _, _, _, _, hH⟩ := Lib.holds_of_ownsRow (enc := Value.int .i64) h (by intro q; cases q)
  injection e1 with e1 _ _
  injection e1 with e1
  injection e1 with e1
  subst e1
  exact hH
theorem own_cut {w : World} {b g cap q m : Nat} {e : TypeId} {zs : List Int} (h : w.ownsRow b e 1 (.slice (some ⟨g, 0, none⟩) m cap) m (zs.map (Value.int .i64))) (hk : (Lib.compact zs).length ≤ m) (hl : zs.length = m) :
    (Sort.putRow (Value.int .i64) (Sort.ahead w q) g 0 (Lib.compact zs ++ List.replicate (m - (Lib.compact zs).length) 0).toArray).ownsRow b e 1 (.slice (some ⟨g, 0, none⟩) (Lib.compact zs).length cap) (Lib.compact zs).length ((Lib.compact zs).map (Value.int .i64)) := by
  have := Lib.ownsRow_putRow (enc := Value.int .i64) (q := q) (k := (Lib.compact zs).length) (ys := Lib.compact zs ++ List.replicate (m - (Lib.compact zs).length) 0) h (by rw [List.length_append, List.length_replicate]; omega) hk
  rw [List.take_left] at this
  exact this
/-- The head of a round. -/
def UI (b : Nat) (l : List S46) (w0 : World) (kq : Nat) (v3 v8 : Value) (wr : World) : Prop :=
  ∃ i : Nat, v8 = .int .i64 i ∧ i ≤ l.length ∧ kq = l.length - i ∧ Below b w0 wr ∧ KI.R 3 wr b (fun _ => True) v3 (names (l.take i))
set_option maxRecDepth 100000 in
set_option maxHeartbeats 4000000 in
theorem guard_Uses.calls (A : Option Addr) (c : Nat) (l : List S46) (w : World) (hr : Kd.C k46 w A l.length l) (hc : l.length ≤ c) (hl : l.length ≤ 100000) :
    Calls Tryz.prog 6 #[.slice A l.length c] w fun e w' => ∃ (u : List Int) (v : Value), e = .returned v ∧ w'.ownsRow w.heap.size 3 1 v u.length (u.map (.int .i64)) ∧ (∀ n, n ∈ u ↔ n ∈ names l) ∧ Below w.heap.size w w' := by
  have HR := Aside0.mk hr
  clear hr
  go_enter Tryz.func6, Tryz.ntmps6
  go_wp2
  go_loopg [3, 8] l.length (fun kq v3 v8 wr => UI w.heap.size l w kq v3 v8 wr)
  case atStart => exact ⟨0, rfl, Nat.zero_le _, by omega, Below.refl _ _, Kd.R_nil _ _ _ _ _⟩
  case round =>
    obtain ⟨i, rfl, hi, hk, hbw, hR⟩ := hrel
    have HK := Aside0.mk hk
    have HB := Aside0.mk hbw
    have hnl : (names (l.take i)).length ≤ 100000 := by have := names_len (l.take i); rw [List.length_take] at this; omega
    by_cases hlt : i < l.length
    · obtain ⟨ad, eA, e0, e1⟩ := at_T46 (Kd.C_below HR.out hbw) (i : Int) (by omega) (by omega)
      have erd : rd_T46 l (i : Int) = l[i] := by
        unfold rd_T46
        rw [Int.toNat_natCast, List.getD_eq_getElem?_getD, List.getElem?_eq_getElem hlt]
        rfl
      have hnt := names_take l i hlt
      rw [erd, Int.toNat_natCast] at e0 e1
      have HN := Aside0.mk hnt
      generalize l[i] = s at *
      have hin : (i : Int) < (l.length : Int) := by omega
      subst eA
      have hba := (Below.refl wr.heap.size wr).alloc (Nat.le_refl _) (.cells #[.int .i64 s.f0, .int .i64 s.f1] 46)
      have HBA := Aside0.mk (HB.out.trans (hba.mono HB.out.size))
      have HRA := Aside0.mk (Kd.R_below hR hba)
      clear erd hk hnt hbw hba hR
      by_cases k2 : s.f0 = 2
      · have k2b : (s.f0 == 2) = true := beq_iff_eq.2 k2
        have hxs := HN.out
        rw [if_pos k2] at hxs
        have HX := Aside0.mk hxs
        obtain ⟨As, cs, ev, _, _⟩ := Kd.R_reads HRA.out
        generalize names (l.take i) = xs at *
        subst ev
        clear hxs HN k2
        go_wp2_with (first | (at_builtin; refine Kd.R_append KI (w0 := (wr.alloc (.cells #[.int .i64 s.f0, .int .i64 s.f1] 46))) (W := (wr.alloc (.cells #[.int .i64 s.f0, .int .i64 s.f1] 46))) w.heap.size rfl (.tmp 15) (.tmp 18) 29 3 (.int .i64 0) 8 rfl Tryz.underlying29 infoInt rfl (by decide) (by omega) (.slice As xs.length cs) xs s.f1 [.int .i64 s.f1] (fun _ => True) (fun _ => False) rfl (by first | rfl | (simp [Act.eval]; done)) ?aP (fun _ hk => hk.elim) ?aF ?aO ?aB ?aS ?aL ?_; (case aP => exact rfl); (case aF => exact (fun _ _ => trivial)); (case aO => exact HRA.out); (case aB => exact Below.refl _ _); (case aS => exact HBA.out.size); (case aL => omega); intro v9 w9 ho hb hg hat; obtain ⟨A9, c9, e9, _, _⟩ := Kd.R_reads ho; subst e9; have HO9 := Aside0.mk ho; have HB9 := Aside0.mk hb; clear ho hb hg hat))
        go_roundg (l.length - (i + 1))
        case measure => have := HK.out; omega
        case rel =>
          refine ⟨i + 1, by go_num, by omega, rfl, ?_, ?_⟩
          · exact HBA.out.trans HB9.out
          · rw [HX.out]
            have q := HO9.out
            simp only [List.length_append, List.length_cons, List.length_nil, Nat.zero_add] at q
            exact q
      · have k2b : (s.f0 == 2) = false := beq_eq_false_iff_ne.2 k2
        have hxs := HN.out
        rw [if_neg k2] at hxs
        have HX := Aside0.mk hxs
        clear hxs HN k2
        go_wp2
        go_roundg (l.length - (i + 1))
        case measure => have := HK.out; omega
        case rel =>
          refine ⟨i + 1, by go_num, by omega, rfl, HBA.out, ?_⟩
          rw [HX.out]
          exact HRA.out
    · obtain rfl : i = l.length := by omega
      rw [List.take_length] at hR hnl
      have HO := Aside0.mk (Kd.own_of_R hR)
      have hm : ∀ n, n ∈ Lib.compact ((names l).mergeSort fun x y => decide (x ≤ y)) ↔ n ∈ names l := fun n => by rw [mem_compact_iff, List.mem_mergeSort]
      have HM := Aside0.mk hm
      clear hR hm hbw hk
      generalize hxs : names l = xs at *
      have hsl : (xs.mergeSort fun x y => decide (x ≤ y)).length = xs.length := List.length_mergeSort _
      have HS := Aside0.mk (fun (g c : Nat) (W : World) hH h1 h2 => Tryz.slices_Sort_int g 0 c xs W hH h1 h2)
      obtain ⟨A3, c3, e3⟩ := own_slice HO.out
      subst e3
      by_cases h0 : xs.length = 0
      · have hx0 : xs = [] := List.eq_nil_of_length_eq_zero h0
        subst hx0
        clear HS hsl
        go_wp2_with (first
          | (go_at_call 13; refine (Tryz.slices_Sort_int_none _ _ _).mono ?_; rintro e1 w1 ⟨rfl, rfl⟩)
          | (go_at_call 14; refine (Tryz.slices_Compact_int_empty _ _ _).mono ?_; rintro e1 w1 ⟨rfl, rfl⟩))
        go_ret
        exact ⟨[], _, rfl, HO.out, fun n => by rw [hxs], HB.out⟩
      · rcases HO.out.2 with ⟨e0, _⟩ | ⟨g, cap, cur, e0, hg, hh, hn, hcap, hsz, htk⟩
        · injection e0 with _ e1 _
          omega
        · injection e0 with e1 e2 e4
          subst e1; subst e4
          have HG := Aside0.mk hg
          have HH := Aside0.mk hh
          have HH2 := Aside0.mk (holds_of_blockI (ss := xs) hh (by rw [Nat.mul_one] at htk; exact htk))
          have hgs : g < wr.heap.size := blk_lt hh
          generalize (xs.mergeSort fun x y => decide (x ≤ y)) = zs at *
          have hcl := compact_len zs
          have HCC := Aside0.mk (fun (W : World) hH => Tryz.slices_Compact_int g 0 c3 zs W hH (by omega) (by omega))
          rw [hsl] at HCC
          clear htk hh hg
          go_wp2_with (first
            | (go_at_call 13; refine (HS.out g c3 wr HH2.out hgs (by omega)).mono ?_; rintro e1 w1 ⟨rfl, n1, os1, hw1⟩; have HB1 := Aside0.mk (show Below w.heap.size w w1 by rw [hw1]; exact below_growS (Lib.below_putRow HB.out HG.out) (Nat.le_refl _)); have HO1 := Aside0.mk (show w1.ownsRow w.heap.size 3 1 (.slice (some ⟨g, 0, none⟩) xs.length c3) xs.length (zs.map (.int .i64)) by rw [hw1]; exact ownsRow_sortedI hsl HG.out HH.out hn hcap hsz); clear hw1)
            | (go_at_call 14; refine (HCC.out w1 (holds_own HO1.out)).mono ?_; rintro e2 w2 ⟨rfl, q2, hw2⟩; have HB2 := Aside0.mk (show Below w.heap.size w w2 by rw [hw2]; exact Lib.below_putRow HB1.out HG.out); have HO2 := Aside0.mk (show w2.ownsRow w.heap.size 3 1 (.slice (some ⟨g, 0, none⟩) (Lib.compact zs).length c3) (Lib.compact zs).length ((Lib.compact zs).map (.int .i64)) by rw [hw2]; exact own_cut HO1.out (by omega) hsl); clear hw2))
          go_ret
          exact ⟨Lib.compact zs, _, rfl, HO2.out, fun n => by rw [hxs]; exact HM.out n, HB2.out⟩
end Go.Proofs.YtojfdekiponccaaGreatDoor.H
/- EvalOnly: what a guard says does not turn with the variables that it does not use. -/
namespace Go.Proofs.YtojfdekiponccaaGreatDoor.H
open Go.RowKit Go.HK Go.Proofs.YtojfdekiponccaaGreatDoorW.PrintWords Go.Proofs.YtojfdekiponccaaGreatDoorW.PrintLast Go.Proofs.YtojfdekiponccaaGreatDoorW.PrintMore
set_option linter.unusedVariables false
set_option linter.unusedSimpArgs false
theorem ev_names (x y : Nat → Int) : ∀ (l : List S46) (rs : List Int), (∀ n ∈ names l, x n.toNat = y n.toNat) → evL x l rs = evL y l rs
  | [], rs, _ => rfl
  | s :: l, rs, h => by
    have ih := fun rs => ev_names x y l rs (fun n hn => h n (by
      simp only [names]
      split
      · exact List.mem_cons_of_mem _ hn
      · exact hn))
    have e : evStep x s rs = evStep y s rs := by
      unfold evStep
      split
      · rfl
      · split
        · rename_i k2
          rw [h s.f1 (by simp only [names]; rw [if_pos k2]; exact List.mem_cons_self)]
        · rfl
    show (evStep x s rs).bind (evL x l) = (evStep y s rs).bind (evL y l)
    rw [e]
    congr 1
    funext rs'
    exact ih rs'
def setU (v : Nat → Int) : List Int → (Nat → Int) → (Nat → Int)
  | [], y => y
  | n :: u, y => setU v u (upd y n.toNat (v n.toNat))
theorem setU_keep (v : Nat → Int) : ∀ (u : List Int) (y : Nat → Int) (m : Nat), y m = v m → setU v u y m = v m
  | [], y, m, h => h
  | n :: u, y, m, h => setU_keep v u _ m (by
    unfold upd
    split
    · rename_i e
      rw [e]
    · exact h)
theorem setU_mem (v : Nat → Int) : ∀ (u : List Int) (y : Nat → Int) (n : Int), n ∈ u → setU v u y n.toNat = v n.toNat
  | a :: u, y, n, h => by
    rcases List.mem_cons.1 h with rfl | h
    · exact setU_keep v u _ _ (by unfold upd; rw [if_pos rfl])
    · exact setU_mem v u _ n h
theorem post_names {b : Bool} {p : List S46} (h : Pure.Post b p) : ∀ s ∈ p, s.f0 = 2 → 0 ≤ s.f1 ∧ s.f1 < 26 := by
  induction h with
  | num n h0 h1 =>
    intro s hs e
    obtain rfl := List.mem_singleton.1 hs
    cases e
  | name n h0 h1 =>
    intro s hs e
    obtain rfl := List.mem_singleton.1 hs
    exact ⟨h0, h1⟩
  | neg hp ih =>
    intro s hs e
    rcases List.mem_append.1 hs with hs | hs
    · exact ih s hs e
    · obtain rfl := List.mem_singleton.1 hs
      cases e
  | op k h3 h5 hp hq ihp ihq =>
    intro s hs e
    rcases List.mem_append.1 hs with hs | hs
    · rcases List.mem_append.1 hs with hs | hs
      · exact ihp s hs e
      · exact ihq s hs e
    · obtain rfl := List.mem_singleton.1 hs
      have e : k = 2 := e
      omega
  | cmp k h3 h5 hp hq ihp ihq =>
    intro s hs e
    rcases List.mem_append.1 hs with hs | hs
    · rcases List.mem_append.1 hs with hs | hs
      · exact ihp s hs e
      · exact ihq s hs e
    · obtain rfl := List.mem_singleton.1 hs
      have e : k = 2 := e
      omega
  | con k h3 hp hq ihp ihq =>
    intro s hs e
    rcases List.mem_append.1 hs with hs | hs
    · rcases List.mem_append.1 hs with hs | hs
      · exact ihp s hs e
      · exact ihq s hs e
    · obtain rfl := List.mem_singleton.1 hs
      have e : k = 2 := e
      omega
  | nt hp ih =>
    intro s hs e
    rcases List.mem_append.1 hs with hs | hs
    · exact ih s hs e
    · obtain rfl := List.mem_singleton.1 hs
      cases e
theorem of_good {x : Nat → Int} {o : List S46} {z : Int} (hp : Pure.Post true o) (hl : o.length ≤ 100000) (he : evL x o [] = some [z]) (k : Nat) (hk : 2 * o.length + 10 ≤ k) : eval_Of.f k x o = some (z == 1, true) := by
  unfold eval_Of.f
  rw [Pure.good_post hp hl k hk]
  simp only [Option.bind_some, if_true, he]
theorem parse_any (s : ByteArray) : (s.size ≤ 60 ∧ ∃ (o : List S46) (k : Nat), guard_Parse.f k s = some (o, 0) ∧ Pure.Post true o ∧ o.length ≤ 60) ∨ ∃ (e : Int) (k : Nat), e ≠ 0 ∧ guard_Parse.f k s = some ([], e) := by
  by_cases hs : s.size ≤ 60
  · obtain ⟨y, e, hl⟩ := Pure.lexF_some _ s.data.toList [] (Nat.le_refl _)
    by_cases he : e = 0
    · subst he
      obtain ⟨k, r, h1, h2⟩ := Pure.PF_total _ y.length 0 (y, []) rfl (by omega) rfl trivial
      have hpf : guard_Parse.f k s = guard_Parse.fin (some r) := by
        unfold guard_Parse.f
        rw [Pure.lex_list, if_neg (by omega), hl]
        simp only [Option.bind_some, if_true]
        rw [h1]
      cases r with
      | none => exact Or.inr ⟨2, k, by decide, hpf⟩
      | some st =>
        obtain ⟨l, o⟩ := st
        cases l with
        | cons a l => exact Or.inr ⟨2, k, by decide, hpf⟩
        | nil =>
          have hx : Pure.Lx s.data.toList y := hl
          have hlo := Pure.gx_len hx h1
          rw [data_len] at hlo
          exact Or.inl ⟨hs, o, k, hpf, Pure.Gx.post ⟨y, hl, k, h1⟩, by omega⟩
    · refine Or.inr ⟨e, 0, he, ?_⟩
      unfold guard_Parse.f
      rw [Pure.lex_list, if_neg (by omega), hl]
      simp only [Option.bind_some]
      rw [if_neg he]
  · refine Or.inr ⟨15, 0, by decide, ?_⟩
    unfold guard_Parse.f
    rw [Pure.lex_list, if_pos (by omega)]
    rfl
/-- The head of a round. -/
def XI (g : Nat) (u : List Int) (v fin : Nat → Int) (own : World → Prop) (w1 : World) (kq : Nat) (v33 : Value) (wr : World) : Prop :=
  ∃ (i : Nat) (yi : Nat → Int), v33 = .int .i64 i ∧ i ≤ u.length ∧ kq = u.length - i ∧ setU v (u.drop i) yi = fin ∧ Below g w1 wr ∧ wr.heap[g]? = some (.cells (lit yi) 23 (0, 0)) ∧ own wr
set_option maxRecDepth 100000 in
set_option maxHeartbeats 4000000 in
theorem remontoirlaw15_EvalOnly.calls (s : ByteArray) (v y : Nat → Int) (r : Bool) (w : World) (hT : Tabs2 w) (h : r = true ∧ s.size ≤ 140737488351232) :
    Calls Tryz.prog 3 #[.string s, .agg (lit v), .agg (lit y)] w fun e w' => e = .returned (.bool r) ∧ Below w.heap.size w w' := by
  obtain ⟨rfl, hss⟩ := h
  have hba := ((Below.refl w.heap.size w).alloc (Nat.le_refl _) (.cells (lit v) 23)).alloc (by simp) (.cells (lit y) 23)
  have HB0 := Aside0.mk hba
  have HT0 := Aside0.mk (hT.below hba)
  have q2 := two_blocks w (.cells (lit v) 23) (.cells (lit y) 23)
  have HV0 := Aside0.mk q2.1
  have HY0 := Aside0.mk q2.2
  clear q2 hT hba
  rcases parse_any s with ⟨hs60, o, k, hpar, hpost, hol⟩ | ⟨e, k, he, hpar⟩
  · have k300 : decide (300 < (s.size : Int)) = false := decide_eq_false (by omega)
    have HP := Aside0.mk hpar
    obtain ⟨z, _, hval⟩ := Pure.ev_post v hpost
    have hev : evL v o [] = some [z] := by
      have := hval [] []
      rw [List.append_nil] at this
      exact this
    have hnm : ∀ n ∈ names o, 0 ≤ n ∧ n < 26 := by
      intro n hn
      obtain ⟨t, ht, h2, rfl⟩ := names_mem hn
      exact post_names hpost t ht h2
    have HN := Aside0.mk hnm
    have OV := Aside0.mk (of_good hpost (by omega) hev 200 (by omega))
    have OX := Aside0.mk (fun (x : Nat → Int) (hx : ∀ n ∈ names o, x n.toNat = v n.toNat) => of_good (x := x) hpost (by omega) ((ev_names x v o [] hx).trans hev) 200 (by omega))
    have SN := Aside0.mk (fun W => store_new W y)
    unfold zeros at SN
    clear hpar hpost hval hev hnm
    go_enter Tryz.func3, Tryz.ntmps3
    go_wp2_with (first
      | (go_at_call 4; refine (guard_Parse.calls k s o 0 _ HT0.out HP.out).mono ?_; rintro e1 w1 ⟨v1, rfl, hr, hb⟩; obtain ⟨A, c, rfl, hlc, hC⟩ := Kd.R_reads hr; have HC1 := Aside0.mk hC; have HLC := Aside0.mk hlc; have HB1 := Aside0.mk (HB0.out.trans (hb.mono HB0.out.size)); have HT1 := Aside0.mk (HT0.out.below hb); have HV1 := Aside0.mk ((hb.block _ (blk_lt HV0.out)).trans HV0.out); have HY1 := Aside0.mk ((hb.block _ (blk_lt HY0.out)).trans HY0.out); clear hr hb hlc hC)
      | (refine Great.wpList_readTo rfl (some 29) rfl (.agg (lit y)) (exec_load rfl (load_lit HY1.out)) ?_)
      | ((with_reducible refine wpList_doTo rfl _ (exec_store rfl (SN.out w1)) ?_); have hb3 := (Below.refl w1.heap.size w1).alloc (Nat.le_refl _) (.cells (lit y) 23); have HB3 := Aside0.mk hb3; have HX3 := Aside0.mk (heap_alloc_last w1 (.cells (lit y) 23)); clear hb3)
      | (go_at_call 6; refine (guard_Uses.calls A c o _ (Kd.C_below HC1.out HB3.out) HLC.out (by omega)).mono ?_; rintro e4 w4 ⟨u, vu, rfl, hown, hmem, hb4⟩; obtain ⟨Au, cu, rfl⟩ := own_slice hown; have HB4 := Aside0.mk (HB3.out.trans (hb4.mono HB3.out.size)); have HX4 := Aside0.mk ((hb4.block _ (blk_lt HX3.out)).trans HX3.out); have HO4 := Aside0.mk hown; have HM4 := Aside0.mk hmem; clear hb4 hown hmem))
    have hsz1 : (w1.alloc (.cells (lit y) 23)).heap.size = w1.heap.size + 1 := by simp
    have HSZ := Aside0.mk hsz1
    go_loopg [33] u.length (fun kq v33 wr => XI w1.heap.size u v (setU v u y) (fun W => W.ownsRow (w1.alloc (.cells (lit y) 23)).heap.size 3 1 (.slice Au u.length cu) u.length (u.map (.int .i64))) w1 kq v33 wr)
    case atStart => exact ⟨0, y, rfl, Nat.zero_le _, by omega, rfl, HB4.out, HX4.out, HO4.out⟩
    case round =>
      obtain ⟨i, yi, rfl, hi, hk, hset, hbw, hxg, hown⟩ := hrel
      have HK := Aside0.mk hk
      have hvw := (hbw.block _ (blk_lt HV1.out)).trans HV1.out
      by_cases hlt : i < u.length
      · rw [List.drop_eq_getElem_cons hlt] at hset
        have hn := HN.out _ ((HM4.out _).1 (List.getElem_mem hlt))
        have HOW := Aside0.mk hown
        rcases hown.2 with ⟨e0, _⟩ | ⟨gu, cap, cur, e0, hgu, hh, hn1, hcap, hsz, htk⟩
        · injection e0 with _ e1 _
          omega
        · injection e0 with e1 e2 e4
          subst e1
          subst e4
          clear e2
          have hml : maxLen ≤ 9223372036854775807 := by decide
          have hcell := (own_at (k := .i64) (xs := u) HOW.out (i : Int) (by omega) (by omega)).1
          have erd : rd u (i : Int) = u[i] := by
            unfold rd
            rw [Int.toNat_natCast, List.getD_eq_getElem?_getD, List.getElem?_eq_getElem hlt]
            rfl
          rw [erd, Int.toNat_natCast] at hcell
          generalize u[i] = n at *
          have hvc : wr.cell? ⟨w.heap.size, n.toNat, none⟩ = some (.int .i64 (v n.toNat)) := (blk_cell hvw n.toNat).trans (lit_get v _ (by omega))
          have hxc : wr.cell? ⟨w1.heap.size, n.toNat, none⟩ = some (.int .i64 (yi n.toNat)) := (blk_cell hxg n.toNat).trans (lit_get yi _ (by omega))
          have hxf := blk_frozen hxg n.toNat
          obtain ⟨kn0, kn1⟩ := hn
          have kb1 : decide (n < 0) = false := decide_eq_false (by omega)
          have kb2 : decide (26 ≤ n) = false := decide_eq_false (by omega)
          have hin : (i : Int) < (u.length : Int) := by omega
          have HXG := Aside0.mk hxg
          have HBW := Aside0.mk hbw
          have HSET := Aside0.mk (show setU v (u.drop (i + 1)) (upd yi n.toNat (v n.toNat)) = setU v u y from hset)
          clear hset hxg hbw hown hk hvw erd htk hh hsz
          go_wp2
          go_roundg (u.length - (i + 1))
          case measure => have := HK.out; omega
          case rel =>
            refine ⟨i + 1, upd yi n.toNat (v n.toNat), by go_num, by omega, rfl, HSET.out, HBW.out.setCell (Nat.le_refl _) _, ?_, own_setCell HOW.out (fun q => ?_) _⟩
            · rw [← lit_set yi _ _ (by omega)]
              exact blk_set HXG.out n.toNat _
            · have q1 := own_base HOW.out w1.heap.size q.symm
              have q2 := HSZ.out
              omega
      · obtain rfl : i = u.length := by omega
        rw [List.drop_length] at hset
        have hset : yi = setU v u y := hset
        subst hset
        have HXG := Aside0.mk hxg
        have HBW := Aside0.mk hbw
        have HVW := Aside0.mk hvw
        have HOX := Aside0.mk (OX.out (setU v u y) (fun n hn => setU_mem v u y n ((HM4.out n).2 hn)))
        clear hxg hbw hvw hown hk
        go_wp2_with (first
          | (refine Great.wpList_readTo rfl (some 51) rfl (.agg (lit v)) (exec_load rfl (load_lit HVW.out)) ?_)
          | (go_at_call 7; (with_reducible refine (eval_Of.calls 200 v _ _ o _ _ _ (Kd.C_below HC1.out HBW.out) HLC.out (by omega) OV.out).mono ?_); rintro e5 w5 ⟨rfl, hb5⟩; have HB5 := Aside0.mk (HBW.out.trans (hb5.mono HBW.out.size)); have HX5 := Aside0.mk ((hb5.block _ (blk_lt HXG.out)).trans HXG.out); clear hb5)
          | (refine Great.wpList_readTo rfl (some 57) rfl (.agg (lit (setU v u y))) (exec_load rfl (load_lit HX5.out)) ?_)
          | (go_at_call 7; (with_reducible refine (eval_Of.calls 200 (setU v u y) _ _ o _ _ _ (Kd.C_below HC1.out HB5.out) HLC.out (by omega) HOX.out).mono ?_); rintro e6 w6 ⟨rfl, hb6⟩; have HB6 := Aside0.mk (HB5.out.trans (hb6.mono HB5.out.size)); have HT6 := Aside0.mk (HT1.out.below HB6.out); clear hb6)
          | (go_at_call 5; refine (wakes15_calls _ HT6.out).mono ?_; rintro e9 w9 ⟨rfl, hb⟩; have HB9 := Aside0.mk (HB1.out.trans ((HB6.out.trans (hb.mono HB6.out.size)).mono HB1.out.size)); clear hb))
        all_goals go_ret
        all_goals exact ⟨rfl, HB9.out⟩
  · have HP := Aside0.mk hpar
    have heb : (e != 0) = true := bne_iff_ne.2 he
    clear hpar he
    by_cases k3 : 300 < (s.size : Int)
    · have k300 : decide (300 < (s.size : Int)) = true := decide_eq_true k3
      clear k3
      go_enter Tryz.func3, Tryz.ntmps3
      go_wp2_with (first
        | (go_at_call 4; refine (guard_Parse.calls k s [] e _ HT0.out HP.out).mono ?_; rintro e1 w1 ⟨v1, rfl, hr, hb⟩; have HB1 := Aside0.mk (HB0.out.trans (hb.mono HB0.out.size)); have HT1 := Aside0.mk (HT0.out.below hb); clear hr hb)
        | (go_at_call 5; refine (wakes15_calls _ HT1.out).mono ?_; rintro e9 w9 ⟨rfl, hb⟩; have HB9 := Aside0.mk (HB1.out.trans (hb.mono HB1.out.size)); clear hb))
      all_goals go_ret
      all_goals exact ⟨rfl, HB9.out⟩
    · have k300 : decide (300 < (s.size : Int)) = false := decide_eq_false k3
      clear k3
      go_enter Tryz.func3, Tryz.ntmps3
      go_wp2_with (first
        | (go_at_call 4; refine (guard_Parse.calls k s [] e _ HT0.out HP.out).mono ?_; rintro e1 w1 ⟨v1, rfl, hr, hb⟩; have HB1 := Aside0.mk (HB0.out.trans (hb.mono HB0.out.size)); have HT1 := Aside0.mk (HT0.out.below hb); clear hr hb)
        | (go_at_call 5; refine (wakes15_calls _ HT1.out).mono ?_; rintro e9 w9 ⟨rfl, hb⟩; have HB9 := Aside0.mk (HB1.out.trans (hb.mono HB1.out.size)); clear hb))
      all_goals go_ret
      all_goals exact ⟨rfl, HB9.out⟩
end Go.Proofs.YtojfdekiponccaaGreatDoor.H
/- EvalOnly: the plain statement is part of the walk (HOnlyW); only the text's size is handed on. -/
namespace Go.Proofs.YtojfdekiponccaaGreatDoor.Pure
set_option linter.unusedVariables false
theorem EvalOnly (s : ByteArray) (v y : Nat → Int) (hs : s.size ≤ 140737488351232) (hv : ∀ i, i < 26 → (Go.Lit.int .i64 (v i)).wf = true) (hy : ∀ i, i < 26 → (Go.Lit.int .i64 (y i)).wf = true) : true = true ∧ s.size ≤ 140737488351232 := ⟨rfl, hs⟩
end Go.Proofs.YtojfdekiponccaaGreatDoor.Pure
