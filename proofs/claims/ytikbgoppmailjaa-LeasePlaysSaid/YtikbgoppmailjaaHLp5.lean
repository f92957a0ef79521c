import Derived.Test.YtikbgoppmailjaaHLp4
import Derived.Test.YtikbgoppmailjaaHLs31
/- The reference's table: Over's inner loop; a lease put into a row at its place. -/
namespace Go.Proofs.Ytikbgoppmailjaa.H
open Go.RowKit Go.HK Go.Maps Go.Lib Go.WideShapes Go.ChangeShapes Go.Proofs.YtikbgoppmailjaaW.PrintWords Go.Proofs.YtikbgoppmailjaaW.PrintLast Go.Proofs.YtikbgoppmailjaaW.PrintMore
set_option linter.unusedVariables false
set_option linter.unusedSimpArgs false
set_option maxRecDepth 100000 in
theorem slice_head {w : World} {A : Option Addr} {len cap k : Nat} (hk : k ≤ cap) : (Instr.sliceAt 34 (.slice A len cap) none (some (.int .i64 k)) (some (.int .i64 k))).run Try.prog w = .ok (.slice A k k) w := by
  rw [run_sliceAt_slice (h := Try.underlying34), run_slice_hm (ht := Try.underlying34) (h0 := by omega) (h2 := by omega) (h3 := by omega)]
  have hs : (sizeOf 38).run Try.prog w = .ok 3 w := by kernel_rfl
  show ((sizeOf 38).run Try.prog w).andThen _ = _
  rw [hs]
  simp only [Result.andThen, sliced, Int.toNat_natCast, Nat.sub_zero]
  congr 2
  split
  · rfl
  · cases A <;> simp [Addr.add]
set_option maxRecDepth 100000 in
theorem slice_tail {w : World} {A : Option Addr} {len cap k : Nat} (hk : k ≤ len) : (Instr.sliceAt 34 (.slice A len cap) (some (.int .i64 k)) none none).run Try.prog w = .ok (.slice (if cap = k then A else A.map (·.add (k * 3))) (len - k) (cap - k)) w := by
  rw [run_sliceAt_slice (h := Try.underlying34), run_slice_l (ht := Try.underlying34) (h0 := by omega) (h1 := by omega)]
  have hs : (sizeOf 38).run Try.prog w = .ok 3 w := by kernel_rfl
  show ((sizeOf 38).run Try.prog w).andThen _ = _
  rw [hs]
  simp only [Result.andThen, sliced, Int.toNat_natCast]
theorem exec_sliceHM {P : Program} {ρ : Operand → Value} {o : Oper} {t : TypeId} {x h m : Operand} (ho : o.op = .slice t x none (some h) (some m)) {w : World} {v : Value} (hr : (Instr.sliceAt t (ρ x) none (some (ρ h)) (some (ρ m))).run P w = .ok v w) : (execOp ρ o).run P w = .ok (.value v) w := by
  unfold execOp
  rw [ho]
  simp only [Option.map_some, Option.map_none, Sem.run_bind, hr, Result.andThen]
  rfl
theorem exec_sliceL {P : Program} {ρ : Operand → Value} {o : Oper} {t : TypeId} {x l : Operand} (ho : o.op = .slice t x (some l) none none) {w : World} {v : Value} (hr : (Instr.sliceAt t (ρ x) (some (ρ l)) none none).run P w = .ok v w) : (execOp ρ o).run P w = .ok (.value v) w := by
  unfold execOp
  rw [ho]
  simp only [Option.map_some, Option.map_none, Sem.run_bind, hr, Result.andThen]
  rfl
theorem flat_app (a b : List G3) : flat (a ++ b) = flat a ++ flat b := by simp [flat, List.flatMap_append]
theorem flat_drop {l : List G3} {k : Nat} (hk : k ≤ l.length) {j : Nat} {u : Value} (h : (flat (l.drop k))[j]? = some u) : (flat l)[k * 3 + j]? = some u := by
  conv => lhs; rw [← List.take_append_drop k l, flat_app]
  have e : (flat (l.take k)).length = k * 3 := by rw [flat_len, List.length_take, Nat.min_eq_left hk]
  rw [List.getElem?_append_right (by rw [e]; omega), e, Nat.add_sub_cancel_left]
  exact h
theorem flat_take {l : List G3} {k : Nat} {j : Nat} {u : Value} (h : (flat (l.take k))[j]? = some u) : (flat l)[j]? = some u := by
  conv => lhs; rw [← List.take_append_drop k l, flat_app]
  have hj : j < (flat (l.take k)).length := (List.getElem?_eq_some_iff.1 h).1
  rw [List.getElem?_append_left hj]
  exact h
/-- append([]api.Grant{x}, v[k:]...). -/
theorem ins_tail {w : World} {gx B base k : Nat} {v : Value} {l : List G3} {A : Option Addr} {cap a b c : _} (hx : w.heap[gx]? = some (.cells #[.int .i64 a, .int .i64 b, .int .u64 c] 38 (0, 0))) (hb : base ≤ gx) (hR : RowG w B v l) (hv : v = .slice A l.length cap) (hk : k ≤ l.length) (hl : l.length ≤ 1000) :
    ∃ y w3, (Builtin.append_ #[34, 34] 34 #[.slice (some ⟨gx, 0, none⟩) 1 1, .slice (if cap = k then A else A.map (·.add (k * 3))) (l.length - k) (cap - k)]).run Try.prog w = .ok y w3 ∧ RowG w3 base y ((a, b, c) :: l.drop k) ∧ w.grownBy w3 (some gx) ∧ (y.ownBlock = some gx ∨ y.ownBlock = some w.heap.size) := by
  have own : w.ownsRow base 38 3 (.slice (some ⟨gx, 0, none⟩) 1 1) 1 (c3 (a, b, c)) := ⟨rfl, .inr ⟨gx, 1, _, rfl, hb, hx, Nat.le_refl _, by decide, rfl, rfl⟩⟩
  have out : ∀ {y : Value} {w3 : World}, w3.ownsRow base 38 3 y (1 + (l.drop k).length) (c3 (a, b, c) ++ flat (l.drop k)) → RowG w3 base y ((a, b, c) :: l.drop k) := by
    intro y w3 h
    have e : flat ((a, b, c) :: l.drop k) = c3 (a, b, c) ++ flat (l.drop k) := by simp [flat]
    unfold RowG
    rw [List.length_cons, e, Nat.add_comm]
    exact h
  rcases hR.fn with ⟨h1, h2⟩ | ⟨g, cap', f, h1, _, hcap, hF, hfl⟩
  · subst h2
    rw [hv] at h1
    injection h1 with e1 e2 e3
    subst e1; subst e3
    obtain rfl : k = 0 := by simpa using hk
    exact ⟨_, w, by kernel_rfl, out own, ⟨rfl, rfl, rfl, Nat.le_refl _, fun _ _ _ => rfl⟩, Or.inl rfl⟩
  · rw [hv] at h1
    injection h1 with e1 e2 e3
    subst e1; subst e3
    obtain ⟨i0, hi0, hz0, hz1, hz2⟩ := infoG
    have hc := flat_cells hF
    rw [hfl] at hc
    have hbs : base ≤ w.heap.size := Nat.le_trans hb (Nat.le_of_lt (blk_lt hx))
    have hd : (l.drop k).length = l.length - k := by simp
    obtain ⟨y, w3, q1, q2, q3, _, q5⟩ := run_append_own_at (P := Try.prog) w base 34 34 38 i0 (gv 0 0 0) 3 24 Try.underlying34 hi0 hz0 hz1 hz2 rfl (by decide) (.slice (some ⟨gx, 0, none⟩) 1 1) 1 (c3 (a, b, c)) own (if cap = k then ⟨g, 0, none⟩ else (⟨g, 0, none⟩ : Addr).add (k * 3)) (l.length - k) (cap - k) (flat (l.drop k)) (by rw [flat_len, hd]) (fun j u hj => by
      have hj' : j < (flat (l.drop k)).length := (List.getElem?_eq_some_iff.1 hj).1
      rw [flat_len, hd] at hj'
      rw [if_neg (by omega), Go.Deep.add_add]
      exact hc _ _ (flat_drop hk hj)) (flat_each _) (by unfold maxLen; omega) (by omega) hbs
    refine ⟨y, w3, ?_, out (by rw [hd]; exact q2), q3, q5⟩
    have e : (if cap = k then some (⟨g, 0, none⟩ : Addr) else (some (⟨g, 0, none⟩ : Addr)).map (·.add (k * 3))) = some (if cap = k then ⟨g, 0, none⟩ else (⟨g, 0, none⟩ : Addr).add (k * 3)) := by split <;> rfl
    rw [e]
    exact q1
/-- append(v[:k:k], y...): it grows. -/
theorem ins_head {w : World} {B B2 base k : Nat} {v y : Value} {l m : List G3} {A : Option Addr} {cap : Nat} (hR : RowG w B v l) (hv : v = .slice A l.length cap) (hk : k ≤ l.length) (hY : RowG w B2 y m) (hm : 0 < m.length) (hl : l.length ≤ 1000) (hl2 : m.length ≤ 1000) (hb : base ≤ w.heap.size) :
    ∃ r w3, (Builtin.append_ #[34, 34] 34 #[.slice A k k, y]).run Try.prog w = .ok r w3 ∧ RowG w3 base r (l.take k ++ m) ∧ w.grownBy w3 none ∧ r.ownBlock = some w.heap.size := by
  obtain ⟨i0, hi0, hz0, hz1, hz2⟩ := infoG
  rcases hY.fn with ⟨_, e⟩ | ⟨gy, cy, fy, rfl, _, hcy, hFy, hfy⟩
  · subst e; simp at hm
  have hcm := flat_cells hFy
  rw [hfy] at hcm
  have grown : ∀ (old : Nat), old < k + m.length → (w.drew.alloc (.cells ((flat (l.take k)).toArray ++ (flat m).toArray ++ Builtin.zeroCells (gv 0 0 0).cells (grownCap w (k + m.length) old 38 - (k + m.length))) 38)).ownsRow base 38 3 (.slice (some ⟨w.heap.size, 0, none⟩) (k + m.length) (grownCap w (k + m.length) old 38)) (k + m.length) (flat (l.take k) ++ flat m) := by
    intro old ho
    have hge := grownCap_ge w (k + m.length) old 38
    have hcm : grownCap w (k + m.length) old 38 ≤ maxLen := grownCap_le_maxLen w (k + m.length) old 38 (by unfold maxLen; omega)
    have el : (flat (l.take k) ++ flat m).length = (k + m.length) * 3 := by rw [List.length_append, flat_len, flat_len, List.length_take, Nat.min_eq_left hk]; omega
    refine ⟨el, .inr ⟨w.heap.size, _, _, rfl, hb, heap_alloc_new w.drew _, hge, hcm, ?_, ?_⟩⟩
    · have e3 : (gv 0 0 0).cells.size = 3 := rfl
      rw [List.length_append] at el
      simp only [Array.size_append, List.size_toArray, size_zeroCells, e3]
      omega
    · simp only [Array.toList_append, List.append_assoc]
      rw [← List.append_assoc, ← el]
      exact List.take_left
  have fin : ∀ {r : Value} {w3 : World}, w3.ownsRow base 38 3 r (k + m.length) (flat (l.take k) ++ flat m) → RowG w3 base r (l.take k ++ m) := by
    intro r w3 h
    unfold RowG
    rw [List.length_append, List.length_take, Nat.min_eq_left hk, flat_app]
    exact h
  rcases hR.fn with ⟨h1, h2⟩ | ⟨g, cap', f, h1, _, hcap, hF, hfl⟩
  · subst h2
    rw [hv] at h1
    injection h1 with e1 e2 e3
    subst e1
    obtain rfl : k = 0 := by simpa using hk
    have hr := run_append_nil (P := Try.prog) w 34 34 38 i0 (gv 0 0 0) Try.underlying34 hi0 hz0 ⟨gy, 0, none⟩ m.length cy (flat m) (by rw [flat_len, hz1]) hcm hm (by omega) (by rw [hz2]; omega)
    have hg := grown 0 (by omega)
    simp only [List.take_nil, Nat.zero_add] at hg
    exact ⟨_, _, hr, fin (by simpa using hg), ⟨rfl, rfl, rfl, by simp, fun k hk _ => heap_alloc_old w.drew _ hk⟩, rfl⟩
  · rw [hv] at h1
    injection h1 with e1 e2 e3
    subst e1; subst e3
    have hc := flat_cells hF
    rw [hfl] at hc
    have hr := run_append_grow (P := Try.prog) w 34 34 38 i0 (gv 0 0 0) Try.underlying34 hi0 hz0 ⟨g, 0, none⟩ k k (flat (l.take k)) (by rw [flat_len, hz1, List.length_take, Nat.min_eq_left hk]) (fun j u hj => hc j u (flat_take hj)) ⟨gy, 0, none⟩ m.length cy (flat m) (by rw [flat_len, hz1]) hcm (by omega) (by omega) (growslice_fits (by omega) (by rw [hz2]; omega))
    exact ⟨_, _, hr, fin (grown k (by omega)), ⟨rfl, rfl, rfl, by simp, fun k hk _ => heap_alloc_old w.drew _ hk⟩, rfl⟩
theorem row_index_pm {w : World} {g L cap k : Nat} (h0 : 0 < k) (h : k ≤ L) (hl : L ≤ 100000) : (Instr.indexAt 34 (.slice (some ⟨g, 0, none⟩) L cap) (.int .i64 (wrap64 ((k : Int) - 1)))).run Try.prog w = .ok (.pointer (some ⟨g, 3 * (k - 1), none⟩)) w := by
  have e : wrap64 ((k : Int) - 1) = ((k - 1 : Nat) : Int) := by unfold wrap64; omega
  rw [e]
  exact row_index (by omega)
theorem load_gAt {w : World} {g : Nat} {a b c : Int} (hg : w.heap[g]? = some (.cells #[.int .i64 a, .int .i64 b, .int .u64 c] 38 (0, 0))) : (Instr.loadAt 38 (.pointer (some ⟨g, 0, none⟩))).run Try.prog w = .ok (gv a b c) w :=
  run_loadAt_mid (P := Try.prog) w g 0 _ [.int .i64 a, .int .i64 b, .int .u64 c] _ (fun j v hv => by
    rw [cell_of_row w g (0 + j) _ _ (0, 0) hg]
    match j, hv with
    | 0, hv => simpa using hv
    | 1, hv => simpa using hv
    | 2, hv => simpa using hv
    | n + 3, hv => simp at hv) Try.underlying38 rfl (by kernel_rfl)
theorem rover_body11 {c0 c1 c2 c3 c4 c5 c6 c7 c8 c9 body : Code} {z0 z1 : Nat}  {c0' c1' c2' c3' c4' c5' c6' c7' c8' c9' body' : Code} {z0' z1' : Nat}  (h : Try.f21.body = some (.seq c0 (.seq c1 (.seq (.seq c2 (.block z0 (.loop (.seq c3 (.seq (.block z1 (.seq c4 (.seq c5 (.seq c6 (.seq c7 body))))) c8))))) c9)))) (h' : Try.f21.body = some (.seq c0' (.seq c1' (.seq (.seq c2' (.block z0' (.loop (.seq c3' (.seq (.block z1' (.seq c4' (.seq c5' (.seq c6' (.seq c7' body'))))) c8'))))) c9')))) : body' = body := by
  rw [h] at h'
  simp only [Option.some.injEq, Code.seq.injEq, Code.cond.injEq, Code.block.injEq, Code.loop.injEq] at h'
  simp only [h']
set_option maxRecDepth 100000 in
set_option maxHeartbeats 8000000 in
theorem rover_ins {w : World} {base r k cap : Nat} {A : Option Addr} {lo : List G3} {a b c : Int} {Q : Exit → Act → World → Prop} {c0 c1 c2 c3 c4 c5 c6 c7 c8 c9 body : Code} {z0 z1 : Nat}  {x0 x1 x2 x3 x4 x6 x7 x10 x11 x12 x13 x14 x15 x16 x17 x18 x19 x20 x21 x22 x23 x24 x25 x26 x27 x28 x29 x30 x31 x32 x33 x34 x35 x36 x37 x38 x39 x40 x41 x42 x43 x44 x45 x46 x47 x48 x49 x50 x51 x52 x53 x54 x55 x56 x57 x58 x59 x60 x61 x62 x63 x64 x65 x66 : Value}
    (hB : Try.f21.body = some (.seq c0 (.seq c1 (.seq (.seq c2 (.block z0 (.loop (.seq c3 (.seq (.block z1 (.seq c4 (.seq c5 (.seq c6 (.seq c7 body))))) c8))))) c9)))) (hPQ : Aside0 (∀ c a d v w, Q (.panic c) (a.put d v) w → Q (.panic c) a w)) (hR : RowG w base (.slice A lo.length cap) lo) (hr : w.heap[r]? = some (.cells #[.int .i64 a, .int .i64 b, .int .u64 c] 38 (0, 0))) (hk : k ≤ lo.length) (hl : lo.length ≤ 900) (hbase : base ≤ w.heap.size)
    (cont : ∀ (w' : World) (v' : Value) (y51 y52 y53 y54 y55 y56 y57 y58 y59 y60 y61 : Value), RowG w' base v' (lo.take k ++ ((a, b, c) :: lo.drop k)) → Below w.heap.size w w' → (∀ z, v'.ownBlock = some z → w.heap.size ≤ z) → Q .normal ⟨#[x0, x1, x2, x3, x4, v', x6, x7, .pointer (some ⟨r, 0, none⟩), .int .i64 k, x10, x11, x12, x13, x14, x15, x16, x17, x18, x19, x20, x21, x22, x23, x24, x25, x26, x27, x28, x29, x30, x31, x32, x33, x34, x35, x36, x37, x38, x39, x40, x41, x42, x43, x44, x45, x46, x47, x48, x49, x50, y51, y52, y53, y54, y55, y56, y57, y58, y59, y60, y61, x62, x63, x64, x65, x66], []⟩ w') : Code.wp Try.prog body Q ⟨#[x0, x1, x2, x3, x4, .slice A lo.length cap, x6, x7, .pointer (some ⟨r, 0, none⟩), .int .i64 k, x10, x11, x12, x13, x14, x15, x16, x17, x18, x19, x20, x21, x22, x23, x24, x25, x26, x27, x28, x29, x30, x31, x32, x33, x34, x35, x36, x37, x38, x39, x40, x41, x42, x43, x44, x45, x46, x47, x48, x49, x50, x51, x52, x53, x54, x55, x56, x57, x58, x59, x60, x61, x62, x63, x64, x65, x66], []⟩ w := by
  have hbody := rover_body11 rfl hB
  clear hB
  subst hbody
  have hcont := Aside0.mk cont
  clear cont
  have hkc : k ≤ cap := by
    rcases hR.2 with ⟨h, h2⟩ | ⟨g, cap', cur, h, _, _, hn, _⟩
    · injection h with _ _ h3; omega
    · injection h with _ _ h3; omega
  have hl : lo.length ≤ 1000 := by omega
  have H0 := Aside0.mk hr
  have R0 := Aside0.mk hR
  have HR := blk_lt hr
  have B0 := Aside0.mk ((Below.refl w.heap.size w).drew)
  clear hR hr
  refine start_ (n := 12) (S := fun w' => w'.heap[r]? = some (.cells #[.int .i64 a, .int .i64 b, .int .u64 c] 38 (0, 0))) (ds := []) #[false, false, false, false, false, false, false, false, false, false, false, false] (by kernel_rfl) rfl rfl ((B0.out.block r HR).trans H0.out) (fun hHeld => ?_)
  refine pure_ (i := 0) (N := some 51) (v := ?_) (a' := ?_) #[true, false, false, false, false, false, false, false, false, false, false, false] rfl rfl (by kernel_rfl) (fun _ _ _ h => hPQ.out _ _ _ _ _ h) (Or.inl ⟨by rfl, ?_⟩) ?_ ?_
  rotate_left
  · intro w'
    go_simp
    with_reducible rfl
  rotate_left
  · simp only [Act.put, List.setIfInBounds_toArray, List.set_cons_zero, List.set_cons_succ, i64_w, i32_w]
    rfl
  refine pure_ (i := 1) (N := some 52) (v := ?_) (a' := ?_) #[true, true, false, false, false, false, false, false, false, false, false, false] rfl rfl (by kernel_rfl) (fun _ _ _ h => hPQ.out _ _ _ _ _ h) (Or.inl ⟨by rfl, ?_⟩) ?_ ?_
  rotate_left
  · intro w'
    go_simp
    with_reducible rfl
  rotate_left
  · simp only [Act.put, List.setIfInBounds_toArray, List.set_cons_zero, List.set_cons_succ, i64_w, i32_w]
    rfl
  refine pure_ (i := 2) (N := some 53) (v := ?_) (a' := ?_) #[true, true, true, false, false, false, false, false, false, false, false, false] rfl rfl (by kernel_rfl) (fun _ _ _ h => hPQ.out _ _ _ _ _ h) (Or.inl ⟨by rfl, ?_⟩) ?_ ?_
  rotate_left
  · intro w'
    go_simp
    with_reducible rfl
  rotate_left
  · simp only [Act.put, List.setIfInBounds_toArray, List.set_cons_zero, List.set_cons_succ, i64_w, i32_w]
    rfl
  refine pure_ (i := 3) (N := some 54) (v := ?_) (a' := ?_) #[true, true, true, true, false, false, false, false, false, false, false, false] rfl rfl (by kernel_rfl) (fun _ _ _ h => hPQ.out _ _ _ _ _ h) (Or.inl ⟨by rfl, ?_⟩) ?_ ?_
  rotate_left
  · intro w'
    refine (exec_sliceHM rfl (slice_head hkc)).trans ?_
    with_reducible rfl
  rotate_left
  · simp only [Act.put, List.setIfInBounds_toArray, List.set_cons_zero, List.set_cons_succ, i64_w, i32_w]
    rfl
  refine pure_ (i := 6) (N := some 57) (v := ?_) (a' := ?_) #[true, true, true, true, false, false, true, false, false, false, false, false] rfl rfl (by kernel_rfl) (fun _ _ _ h => hPQ.out _ _ _ _ _ h) (Or.inl ⟨by rfl, ?_⟩) ?_ ?_
  rotate_left
  · intro w'
    go_simp
    with_reducible rfl
  rotate_left
  · simp only [Act.put, List.setIfInBounds_toArray, List.set_cons_zero, List.set_cons_succ, i64_w, i32_w]
    rfl
  refine pure_ (i := 7) (N := some 58) (v := ?_) (a' := ?_) #[true, true, true, true, false, false, true, true, false, false, false, false] rfl rfl (by kernel_rfl) (fun _ _ _ h => hPQ.out _ _ _ _ _ h) (Or.inl ⟨by rfl, ?_⟩) ?_ ?_
  rotate_left
  · intro w'
    go_simp
    with_reducible rfl
  rotate_left
  · simp only [Act.put, List.setIfInBounds_toArray, List.set_cons_zero, List.set_cons_succ, i64_w, i32_w]
    rfl
  refine pure_ (i := 8) (N := some 59) (v := ?_) (a' := ?_) #[true, true, true, true, false, false, true, true, true, false, false, false] rfl rfl (by kernel_rfl) (fun _ _ _ h => hPQ.out _ _ _ _ _ h) (Or.inl ⟨by rfl, ?_⟩) ?_ ?_
  rotate_left
  · intro w'
    refine (exec_sliceL rfl (slice_tail hk)).trans ?_
    with_reducible rfl
  rotate_left
  · simp only [Act.put, List.setIfInBounds_toArray, List.set_cons_zero, List.set_cons_succ, i64_w, i32_w]
    rfl
  refine take_ (i := 4) (N := some 55) (v := ?_) (a' := ?_) #[true, true, true, true, true, false, true, true, true, false, false, false] rfl rfl (by kernel_rfl) (fun _ _ _ h => hPQ.out _ _ _ _ _ h) (Or.inl ⟨by rfl, ?_⟩) hHeld ?_ ?_
  rotate_left
  · intro w' s0
    refine (exec_load rfl (load_gAt s0)).trans ?_
    with_reducible rfl
  rotate_left
  · simp only [Act.put, List.setIfInBounds_toArray, List.set_cons_zero, List.set_cons_succ, i64_w, i32_w]
    rfl
  refine one_ (i := 5) (N := some 56) #[true, true, true, true, true, true, true, true, true, false, false, false] rfl rfl (by kernel_rfl) (by decide) (fun K hK => ?_)
  obtain ⟨w1, gx, hrun, e1, e2, e3⟩ := lit1 w.drew a b c
  have X := Aside0.mk e1
  have hgx : w.heap.size ≤ gx := e2
  have B1 := Aside0.mk (B0.out.grown e3 B0.out.size (fun k e => by cases e))
  refine value_ (w1 := w1) (v := .slice (some ⟨gx, 0, none⟩) 1 1) (by rfl) rfl (exec_buildSlice rfl (by first | (simp only [List.map_toArray, List.map_cons, List.map_nil]; done) | (simp only [List.map_toArray, List.map_cons, List.map_nil]; rfl)) hrun) ?_
  clear hrun e1 e2 e3
  refine hK.out _ _ ((B1.out.block r HR).trans H0.out) (fun hHeld => ?_)
  clear hK K
  refine norm_ (a' := ?_) ?_ ?_
  rotate_left
  · show Act.put _ (some 56) _ = _
    simp only [Act.put, List.setIfInBounds_toArray, List.set_cons_zero, List.set_cons_succ, i64_w, i32_w]
    rfl
  refine one_ (i := 9) (N := some 60) #[true, true, true, true, true, true, true, true, true, true, false, false] rfl rfl (by kernel_rfl) (by decide) (fun K hK => ?_)
  obtain ⟨y, w2, hrun, hY, hG, hO⟩ := ins_tail (base := w.heap.size) (A := A) (cap := cap) (k := k) X.out hgx (RowG.move R0.out (fun z hz => B1.out.block z (RowG.lt R0.out z hz))) rfl hk hl
  have B2 := Aside0.mk (B1.out.grown hG B1.out.size (fun z e => by cases e; exact hgx))
  have Y2 := Aside0.mk hY
  refine value_ (w1 := w2) (v := y) (by rfl) rfl (exec_append rfl hrun) ?_
  clear hrun hY hG hO
  refine hK.out _ _ ((B2.out.block r HR).trans H0.out) (fun hHeld => ?_)
  clear hK K
  refine norm_ (a' := ?_) ?_ ?_
  rotate_left
  · show Act.put _ (some 60) _ = _
    simp only [Act.put, List.setIfInBounds_toArray, List.set_cons_zero, List.set_cons_succ, i64_w, i32_w]
    rfl
  refine one_ (i := 10) (N := some 61) #[true, true, true, true, true, true, true, true, true, true, true, false] rfl rfl (by kernel_rfl) (by decide) (fun K hK => ?_)
  obtain ⟨r3, w3, hrun, hR3, hG, hO⟩ := ins_head (base := base) (A := A) (cap := cap) (k := k) (RowG.move R0.out (fun z hz => B2.out.block z (RowG.lt R0.out z hz))) rfl hk Y2.out (by simp) hl (by simp; omega) (Nat.le_trans hbase B2.out.size)
  have B3 := Aside0.mk (B2.out.grown hG B2.out.size (fun z e => by cases e))
  have R3 := Aside0.mk hR3
  have O3 : Aside0 (∀ z, r3.ownBlock = some z → w.heap.size ≤ z) := ⟨fun z hz => by rw [hO] at hz; injection hz with hz; have := B2.out.size; omega⟩
  refine value_ (w1 := w3) (v := r3) (by rfl) rfl (exec_append rfl hrun) ?_
  clear hrun hR3 hG hO
  refine hK.out _ _ ((B3.out.block r HR).trans H0.out) (fun hHeld => ?_)
  clear hK K
  refine norm_ (a' := ?_) ?_ ?_
  rotate_left
  · show Act.put _ (some 61) _ = _
    simp only [Act.put, List.setIfInBounds_toArray, List.set_cons_zero, List.set_cons_succ, i64_w, i32_w]
    rfl
  refine pure_ (i := 11) (N := some 5) (v := ?_) (a' := ?_) #[true, true, true, true, true, true, true, true, true, true, true, true] rfl rfl (by kernel_rfl) (fun _ _ _ h => hPQ.out _ _ _ _ _ h) (Or.inl ⟨by rfl, ?_⟩) ?_ ?_
  rotate_left
  · intro w'
    go_simp
    with_reducible rfl
  rotate_left
  · simp only [Act.put, List.setIfInBounds_toArray, List.set_cons_zero, List.set_cons_succ, i64_w, i32_w]
    rfl
  refine done_ (by kernel_rfl) ?_
  exact hcont.out _ _ _ _ _ _ _ _ _ _ _ _ _ R3.out B3.out O3.out
theorem rover_body9 {c0 c1 c2 c3 c4 c5 c6 c7 c8 c9 c10 c11 body : Code} {z0 z1 z2 : Nat}  {c0' c1' c2' c3' c4' c5' c6' c7' c8' c9' c10' c11' body' : Code} {z0' z1' z2' : Nat}  (h : Try.f21.body = some (.seq c0 (.seq c1 (.seq (.seq c2 (.block z0 (.loop (.seq c3 (.seq (.block z1 (.seq c4 (.seq c5 (.seq c6 (.seq (.block z2 (.loop (.seq (.seq body c7) c8))) c9))))) c10))))) c11)))) (h' : Try.f21.body = some (.seq c0' (.seq c1' (.seq (.seq c2' (.block z0' (.loop (.seq c3' (.seq (.block z1' (.seq c4' (.seq c5' (.seq c6' (.seq (.block z2' (.loop (.seq (.seq body' c7') c8'))) c9'))))) c10'))))) c11')))) : body' = body := by
  rw [h] at h'
  simp only [Option.some.injEq, Code.seq.injEq, Code.cond.injEq, Code.block.injEq, Code.loop.injEq] at h'
  simp only [h']
set_option maxRecDepth 100000 in
set_option maxHeartbeats 4000000 in
theorem rover_nine_zero {w : World} {g r NL cap k : Nat} {e u : Int} {Q : Exit → Act → World → Prop} {c0 c1 c2 c3 c4 c5 c6 c7 c8 c9 c10 c11 body : Code} {z0 z1 z2 : Nat}  {x0 x1 x2 x3 x4 x5 x6 x7 x8 x10 x11 x12 x13 x14 x15 x16 x17 x18 x19 x20 x21 x22 x23 x24 x25 x26 x27 x28 x29 x30 x31 x32 x33 x34 x35 x36 x37 x38 x39 x40 x41 x42 x43 x44 x45 x46 x47 x48 x49 x50 x51 x52 x53 x54 x55 x56 x57 x58 x59 x60 x61 x62 x63 x64 x65 x66 : Value}
    (hB : Try.f21.body = some (.seq c0 (.seq c1 (.seq (.seq c2 (.block z0 (.loop (.seq c3 (.seq (.block z1 (.seq c4 (.seq c5 (.seq c6 (.seq (.block z2 (.loop (.seq (.seq body c7) c8))) c9))))) c10))))) c11)))) (hPQ : Aside0 (∀ c a d v w, Q (.panic c) (a.put d v) w → Q (.panic c) a w)) 
    (cont : ∀ (y36 y37 y38 y39 y40 y41 y42 y43 y44 y45 y46 y47 : Value), Q .normal ⟨#[x0, x1, x2, x3, x4, x5, x6, x7, x8, .int .i64 0, x10, x11, x12, x13, x14, x15, x16, x17, x18, x19, x20, x21, x22, x23, x24, x25, x26, x27, x28, x29, x30, x31, x32, x33, x34, x35, y36, y37, y38, y39, y40, y41, y42, y43, y44, y45, y46, y47, .bool false, x49, x50, x51, x52, x53, x54, x55, x56, x57, x58, x59, x60, x61, x62, x63, x64, x65, x66], []⟩ w.drew) : Code.wp Try.prog body Q ⟨#[x0, x1, x2, x3, x4, x5, x6, x7, x8, .int .i64 0, x10, x11, x12, x13, x14, x15, x16, x17, x18, x19, x20, x21, x22, x23, x24, x25, x26, x27, x28, x29, x30, x31, x32, x33, x34, x35, x36, x37, x38, x39, x40, x41, x42, x43, x44, x45, x46, x47, x48, x49, x50, x51, x52, x53, x54, x55, x56, x57, x58, x59, x60, x61, x62, x63, x64, x65, x66], []⟩ w := by
  have hbody := rover_body9 rfl hB
  clear hB
  subst hbody
  have hcont := Aside0.mk cont
  clear cont
  refine start_ (n := 13) (S := fun w' => True) (ds := []) #[false, false, false, false, false, false, false, false, false, false, false, false, false] (by kernel_rfl) rfl rfl trivial (fun hHeld => ?_)
  refine pure_ (i := 0) (N := some 36) (v := ?_) (a' := ?_) #[true, false, false, false, false, false, false, false, false, false, false, false, false] rfl rfl (by kernel_rfl) (fun _ _ _ h => hPQ.out _ _ _ _ _ h) (Or.inl ⟨by rfl, ?_⟩) ?_ ?_
  rotate_left
  · intro w'
    go_simp
    with_reducible rfl
  rotate_left
  · simp only [Act.put, List.setIfInBounds_toArray, List.set_cons_zero, List.set_cons_succ, i64_w, i32_w]
    rfl
  refine pure_ (i := 1) (N := some 37) (v := ?_) (a' := ?_) #[true, true, false, false, false, false, false, false, false, false, false, false, false] rfl rfl (by kernel_rfl) (fun _ _ _ h => hPQ.out _ _ _ _ _ h) (Or.inl ⟨by rfl, ?_⟩) ?_ ?_
  rotate_left
  · intro w'
    go_simp
    with_reducible rfl
  rotate_left
  · simp only [Act.put, List.setIfInBounds_toArray, List.set_cons_zero, List.set_cons_succ, i64_w, i32_w]
    rfl
  refine pure_ (i := 2) (N := some 38) (v := ?_) (a' := ?_) #[true, true, true, false, false, false, false, false, false, false, false, false, false] rfl rfl (by kernel_rfl) (fun _ _ _ h => hPQ.out _ _ _ _ _ h) (Or.inl ⟨by rfl, ?_⟩) ?_ ?_
  rotate_left
  · intro w'
    go_simp
    with_reducible rfl
  rotate_left
  · simp only [Act.put, List.setIfInBounds_toArray, List.set_cons_zero, List.set_cons_succ, i64_w, i32_w]
    rfl
  refine pure_ (i := 3) (N := some 39) (v := undef) (a' := ?_) #[true, true, true, true, false, false, false, false, false, false, false, false, false] rfl rfl (by kernel_rfl) (fun _ _ _ h => hPQ.out _ _ _ _ _ h) (Or.inr ⟨by rfl, rfl⟩) ?_ ?_
  rotate_left
  · simp only [Act.put, List.setIfInBounds_toArray, List.set_cons_zero, List.set_cons_succ, i64_w, i32_w]
    rfl
  refine pure_ (i := 4) (N := some 40) (v := undef) (a' := ?_) #[true, true, true, true, true, false, false, false, false, false, false, false, false] rfl rfl (by kernel_rfl) (fun _ _ _ h => hPQ.out _ _ _ _ _ h) (Or.inr ⟨by rfl, rfl⟩) ?_ ?_
  rotate_left
  · simp only [Act.put, List.setIfInBounds_toArray, List.set_cons_zero, List.set_cons_succ, i64_w, i32_w]
    rfl
  refine pure_ (i := 5) (N := some 41) (v := undef) (a' := ?_) #[true, true, true, true, true, true, false, false, false, false, false, false, false] rfl rfl (by kernel_rfl) (fun _ _ _ h => hPQ.out _ _ _ _ _ h) (Or.inr ⟨by rfl, rfl⟩) ?_ ?_
  rotate_left
  · simp only [Act.put, List.setIfInBounds_toArray, List.set_cons_zero, List.set_cons_succ, i64_w, i32_w]
    rfl
  refine pure_ (i := 6) (N := some 42) (v := undef) (a' := ?_) #[true, true, true, true, true, true, true, false, false, false, false, false, false] rfl rfl (by kernel_rfl) (fun _ _ _ h => hPQ.out _ _ _ _ _ h) (Or.inr ⟨by rfl, rfl⟩) ?_ ?_
  rotate_left
  · simp only [Act.put, List.setIfInBounds_toArray, List.set_cons_zero, List.set_cons_succ, i64_w, i32_w]
    rfl
  refine pure_ (i := 7) (N := some 43) (v := undef) (a' := ?_) #[true, true, true, true, true, true, true, true, false, false, false, false, false] rfl rfl (by kernel_rfl) (fun _ _ _ h => hPQ.out _ _ _ _ _ h) (Or.inr ⟨by rfl, rfl⟩) ?_ ?_
  rotate_left
  · simp only [Act.put, List.setIfInBounds_toArray, List.set_cons_zero, List.set_cons_succ, i64_w, i32_w]
    rfl
  refine pure_ (i := 8) (N := some 44) (v := undef) (a' := ?_) #[true, true, true, true, true, true, true, true, true, false, false, false, false] rfl rfl (by kernel_rfl) (fun _ _ _ h => hPQ.out _ _ _ _ _ h) (Or.inr ⟨by rfl, rfl⟩) ?_ ?_
  rotate_left
  · simp only [Act.put, List.setIfInBounds_toArray, List.set_cons_zero, List.set_cons_succ, i64_w, i32_w]
    rfl
  refine pure_ (i := 9) (N := some 45) (v := undef) (a' := ?_) #[true, true, true, true, true, true, true, true, true, true, false, false, false] rfl rfl (by kernel_rfl) (fun _ _ _ h => hPQ.out _ _ _ _ _ h) (Or.inr ⟨by rfl, rfl⟩) ?_ ?_
  rotate_left
  · simp only [Act.put, List.setIfInBounds_toArray, List.set_cons_zero, List.set_cons_succ, i64_w, i32_w]
    rfl
  refine pure_ (i := 10) (N := some 46) (v := undef) (a' := ?_) #[true, true, true, true, true, true, true, true, true, true, true, false, false] rfl rfl (by kernel_rfl) (fun _ _ _ h => hPQ.out _ _ _ _ _ h) (Or.inr ⟨by rfl, rfl⟩) ?_ ?_
  rotate_left
  · simp only [Act.put, List.setIfInBounds_toArray, List.set_cons_zero, List.set_cons_succ, i64_w, i32_w]
    rfl
  refine pure_ (i := 11) (N := some 47) (v := undef) (a' := ?_) #[true, true, true, true, true, true, true, true, true, true, true, true, false] rfl rfl (by kernel_rfl) (fun _ _ _ h => hPQ.out _ _ _ _ _ h) (Or.inr ⟨by rfl, rfl⟩) ?_ ?_
  rotate_left
  · simp only [Act.put, List.setIfInBounds_toArray, List.set_cons_zero, List.set_cons_succ, i64_w, i32_w]
    rfl
  refine pure_ (i := 12) (N := some 48) (v := ?_) (a' := ?_) #[true, true, true, true, true, true, true, true, true, true, true, true, true] rfl rfl (by kernel_rfl) (fun _ _ _ h => hPQ.out _ _ _ _ _ h) (Or.inl ⟨by rfl, ?_⟩) ?_ ?_
  rotate_left
  · intro w'
    go_simp
    with_reducible rfl
  rotate_left
  · simp only [Act.put, List.setIfInBounds_toArray, List.set_cons_zero, List.set_cons_succ, i64_w, i32_w]
    rfl
  refine done_ (by kernel_rfl) ?_
  exact hcont.out _ _ _ _ _ _ _ _ _ _ _ _
set_option maxRecDepth 100000 in
set_option maxHeartbeats 4000000 in
theorem rover_nine_stop {w : World} {g r NL cap k : Nat} {e u : Int} {Q : Exit → Act → World → Prop} {c0 c1 c2 c3 c4 c5 c6 c7 c8 c9 c10 c11 body : Code} {z0 z1 z2 : Nat}  {x0 x1 x2 x3 x4 x6 x7 x10 x11 x12 x13 x14 x15 x16 x17 x18 x19 x20 x21 x22 x23 x24 x25 x26 x27 x28 x29 x30 x31 x32 x33 x34 x35 x36 x37 x38 x39 x40 x41 x42 x43 x44 x45 x46 x47 x48 x49 x50 x51 x52 x53 x54 x55 x56 x57 x58 x59 x60 x61 x62 x63 x64 x65 x66 : Value}
    (hB : Try.f21.body = some (.seq c0 (.seq c1 (.seq (.seq c2 (.block z0 (.loop (.seq c3 (.seq (.block z1 (.seq c4 (.seq c5 (.seq c6 (.seq (.block z2 (.loop (.seq (.seq body c7) c8))) c9))))) c10))))) c11)))) (hPQ : Aside0 (∀ c a d v w, Q (.panic c) (a.put d v) w → Q (.panic c) a w)) (hk0 : 0 < k) (hk : k ≤ NL) (hNL : NL ≤ 1000) (ce : Aside0 (w.cell? ⟨g, 3 * (k - 1) + 2, none⟩ = some (.int .u64 e))) (cr : Aside0 (w.cell? ⟨r, 2, none⟩ = some (.int .u64 u))) (he : e ≤ u)
    (cont : ∀ (y36 y37 y38 y39 y40 y41 y42 y43 y44 y45 y46 y47 : Value), Q .normal ⟨#[x0, x1, x2, x3, x4, .slice (some ⟨g, 0, none⟩) NL cap, x6, x7, .pointer (some ⟨r, 0, none⟩), .int .i64 k, x10, x11, x12, x13, x14, x15, x16, x17, x18, x19, x20, x21, x22, x23, x24, x25, x26, x27, x28, x29, x30, x31, x32, x33, x34, x35, y36, y37, y38, y39, y40, y41, y42, y43, y44, y45, y46, y47, .bool false, x49, x50, x51, x52, x53, x54, x55, x56, x57, x58, x59, x60, x61, x62, x63, x64, x65, x66], []⟩ w.drew) : Code.wp Try.prog body Q ⟨#[x0, x1, x2, x3, x4, .slice (some ⟨g, 0, none⟩) NL cap, x6, x7, .pointer (some ⟨r, 0, none⟩), .int .i64 k, x10, x11, x12, x13, x14, x15, x16, x17, x18, x19, x20, x21, x22, x23, x24, x25, x26, x27, x28, x29, x30, x31, x32, x33, x34, x35, x36, x37, x38, x39, x40, x41, x42, x43, x44, x45, x46, x47, x48, x49, x50, x51, x52, x53, x54, x55, x56, x57, x58, x59, x60, x61, x62, x63, x64, x65, x66], []⟩ w := by
  have hbody := rover_body9 rfl hB
  clear hB
  subst hbody
  have hcont := Aside0.mk cont
  clear cont
  have hl2 : NL ≤ 100000 := by omega
  have hb0 : decide (0 < k) = true := by simp; omega
  have hb1 : decide (u < e) = false := by simp; omega
  refine start_ (n := 13) (S := fun w' => w'.cell? ⟨g, 3 * (k - 1) + 2, none⟩ = some (.int .u64 e) ∧ w'.cell? ⟨r, 2, none⟩ = some (.int .u64 u)) (ds := []) #[false, false, false, false, false, false, false, false, false, false, false, false, false] (by kernel_rfl) rfl rfl ⟨ce.out, cr.out⟩ (fun hHeld => ?_)
  refine pure_ (i := 0) (N := some 36) (v := ?_) (a' := ?_) #[true, false, false, false, false, false, false, false, false, false, false, false, false] rfl rfl (by kernel_rfl) (fun _ _ _ h => hPQ.out _ _ _ _ _ h) (Or.inl ⟨by rfl, ?_⟩) ?_ ?_
  rotate_left
  · intro w'
    go_simp
    with_reducible rfl
  rotate_left
  · simp only [Act.put, List.setIfInBounds_toArray, List.set_cons_zero, List.set_cons_succ, i64_w, i32_w]
    rfl
  refine pure_ (i := 1) (N := some 37) (v := ?_) (a' := ?_) #[true, true, false, false, false, false, false, false, false, false, false, false, false] rfl rfl (by kernel_rfl) (fun _ _ _ h => hPQ.out _ _ _ _ _ h) (Or.inl ⟨by rfl, ?_⟩) ?_ ?_
  rotate_left
  · intro w'
    go_simp
    with_reducible rfl
  rotate_left
  · simp only [Act.put, List.setIfInBounds_toArray, List.set_cons_zero, List.set_cons_succ, i64_w, i32_w]
    rfl
  refine pure_ (i := 2) (N := some 38) (v := ?_) (a' := ?_) #[true, true, true, false, false, false, false, false, false, false, false, false, false] rfl rfl (by kernel_rfl) (fun _ _ _ h => hPQ.out _ _ _ _ _ h) (Or.inl ⟨by rfl, ?_⟩) ?_ ?_
  rotate_left
  · intro w'
    go_simp
    with_reducible rfl
  rotate_left
  · simp only [Act.put, List.setIfInBounds_toArray, List.set_cons_zero, List.set_cons_succ, i64_w, i32_w]
    rfl
  refine pure_ (i := 3) (N := some 39) (v := ?_) (a' := ?_) #[true, true, true, true, false, false, false, false, false, false, false, false, false] rfl rfl (by kernel_rfl) (fun _ _ _ h => hPQ.out _ _ _ _ _ h) (Or.inl ⟨by rfl, ?_⟩) ?_ ?_
  rotate_left
  · intro w'
    go_simp
    with_reducible rfl
  rotate_left
  · simp only [Act.put, List.setIfInBounds_toArray, List.set_cons_zero, List.set_cons_succ, i64_w, i32_w]
    rfl
  refine pure_ (i := 4) (N := some 40) (v := ?_) (a' := ?_) #[true, true, true, true, true, false, false, false, false, false, false, false, false] rfl rfl (by kernel_rfl) (fun _ _ _ h => hPQ.out _ _ _ _ _ h) (Or.inl ⟨by rfl, ?_⟩) ?_ ?_
  rotate_left
  · intro w'
    go_simp
    with_reducible rfl
  rotate_left
  · simp only [Act.put, List.setIfInBounds_toArray, List.set_cons_zero, List.set_cons_succ, i64_w, i32_w]
    rfl
  refine pure_ (i := 5) (N := some 41) (v := ?_) (a' := ?_) #[true, true, true, true, true, true, false, false, false, false, false, false, false] rfl rfl (by kernel_rfl) (fun _ _ _ h => hPQ.out _ _ _ _ _ h) (Or.inl ⟨by rfl, ?_⟩) ?_ ?_
  rotate_left
  · intro w'
    go_simp
    with_reducible rfl
  rotate_left
  · simp only [Act.put, List.setIfInBounds_toArray, List.set_cons_zero, List.set_cons_succ, i64_w, i32_w]
    rfl
  refine pure_ (i := 6) (N := some 42) (v := ?_) (a' := ?_) #[true, true, true, true, true, true, true, false, false, false, false, false, false] rfl rfl (by kernel_rfl) (fun _ _ _ h => hPQ.out _ _ _ _ _ h) (Or.inl ⟨by rfl, ?_⟩) ?_ ?_
  rotate_left
  · intro w'
    refine (exec_indexAddr rfl (row_index_pm hk0 hk hl2)).trans ?_
    with_reducible rfl
  rotate_left
  · simp only [Act.put, List.setIfInBounds_toArray, List.set_cons_zero, List.set_cons_succ, i64_w, i32_w]
    rfl
  refine pure_ (i := 7) (N := some 43) (v := ?_) (a' := ?_) #[true, true, true, true, true, true, true, true, false, false, false, false, false] rfl rfl (by kernel_rfl) (fun _ _ _ h => hPQ.out _ _ _ _ _ h) (Or.inl ⟨by rfl, ?_⟩) ?_ ?_
  rotate_left
  · intro w'
    go_simp
    with_reducible rfl
  rotate_left
  · simp only [Act.put, List.setIfInBounds_toArray, List.set_cons_zero, List.set_cons_succ, i64_w, i32_w]
    rfl
  refine pure_ (i := 9) (N := some 45) (v := ?_) (a' := ?_) #[true, true, true, true, true, true, true, true, false, true, false, false, false] rfl rfl (by kernel_rfl) (fun _ _ _ h => hPQ.out _ _ _ _ _ h) (Or.inl ⟨by rfl, ?_⟩) ?_ ?_
  rotate_left
  · intro w'
    go_simp
    with_reducible rfl
  rotate_left
  · simp only [Act.put, List.setIfInBounds_toArray, List.set_cons_zero, List.set_cons_succ, i64_w, i32_w]
    rfl
  refine take_ (i := 8) (N := some 44) (v := ?_) (a' := ?_) #[true, true, true, true, true, true, true, true, true, true, false, false, false] rfl rfl (by kernel_rfl) (fun _ _ _ h => hPQ.out _ _ _ _ _ h) (Or.inl ⟨by rfl, ?_⟩) hHeld ?_ ?_
  rotate_left
  · rintro w' ⟨s0, s1⟩
    go_simp
    with_reducible rfl
  rotate_left
  · simp only [Act.put, List.setIfInBounds_toArray, List.set_cons_zero, List.set_cons_succ, i64_w, i32_w]
    rfl
  refine take_ (i := 10) (N := some 46) (v := ?_) (a' := ?_) #[true, true, true, true, true, true, true, true, true, true, true, false, false] rfl rfl (by kernel_rfl) (fun _ _ _ h => hPQ.out _ _ _ _ _ h) (Or.inl ⟨by rfl, ?_⟩) hHeld ?_ ?_
  rotate_left
  · rintro w' ⟨s0, s1⟩
    go_simp
    with_reducible rfl
  rotate_left
  · simp only [Act.put, List.setIfInBounds_toArray, List.set_cons_zero, List.set_cons_succ, i64_w, i32_w]
    rfl
  refine pure_ (i := 11) (N := some 47) (v := ?_) (a' := ?_) #[true, true, true, true, true, true, true, true, true, true, true, true, false] rfl rfl (by kernel_rfl) (fun _ _ _ h => hPQ.out _ _ _ _ _ h) (Or.inl ⟨by rfl, ?_⟩) ?_ ?_
  rotate_left
  · intro w'
    go_simp
    with_reducible rfl
  rotate_left
  · simp only [Act.put, List.setIfInBounds_toArray, List.set_cons_zero, List.set_cons_succ, i64_w, i32_w]
    rfl
  refine pure_ (i := 12) (N := some 48) (v := ?_) (a' := ?_) #[true, true, true, true, true, true, true, true, true, true, true, true, true] rfl rfl (by kernel_rfl) (fun _ _ _ h => hPQ.out _ _ _ _ _ h) (Or.inl ⟨by rfl, ?_⟩) ?_ ?_
  rotate_left
  · intro w'
    go_simp
    with_reducible rfl
  rotate_left
  · simp only [Act.put, List.setIfInBounds_toArray, List.set_cons_zero, List.set_cons_succ, i64_w, i32_w]
    rfl
  refine done_ (by kernel_rfl) ?_
  exact hcont.out _ _ _ _ _ _ _ _ _ _ _ _
set_option maxRecDepth 100000 in
set_option maxHeartbeats 4000000 in
theorem rover_nine_more {w : World} {g r NL cap k : Nat} {e u : Int} {Q : Exit → Act → World → Prop} {c0 c1 c2 c3 c4 c5 c6 c7 c8 c9 c10 c11 body : Code} {z0 z1 z2 : Nat}  {x0 x1 x2 x3 x4 x6 x7 x10 x11 x12 x13 x14 x15 x16 x17 x18 x19 x20 x21 x22 x23 x24 x25 x26 x27 x28 x29 x30 x31 x32 x33 x34 x35 x36 x37 x38 x39 x40 x41 x42 x43 x44 x45 x46 x47 x48 x49 x50 x51 x52 x53 x54 x55 x56 x57 x58 x59 x60 x61 x62 x63 x64 x65 x66 : Value}
    (hB : Try.f21.body = some (.seq c0 (.seq c1 (.seq (.seq c2 (.block z0 (.loop (.seq c3 (.seq (.block z1 (.seq c4 (.seq c5 (.seq c6 (.seq (.block z2 (.loop (.seq (.seq body c7) c8))) c9))))) c10))))) c11)))) (hPQ : Aside0 (∀ c a d v w, Q (.panic c) (a.put d v) w → Q (.panic c) a w)) (hk0 : 0 < k) (hk : k ≤ NL) (hNL : NL ≤ 1000) (ce : Aside0 (w.cell? ⟨g, 3 * (k - 1) + 2, none⟩ = some (.int .u64 e))) (cr : Aside0 (w.cell? ⟨r, 2, none⟩ = some (.int .u64 u))) (he : u < e)
    (cont : ∀ (y36 y37 y38 y39 y40 y41 y42 y43 y44 y45 y46 y47 : Value), Q .normal ⟨#[x0, x1, x2, x3, x4, .slice (some ⟨g, 0, none⟩) NL cap, x6, x7, .pointer (some ⟨r, 0, none⟩), .int .i64 k, x10, x11, x12, x13, x14, x15, x16, x17, x18, x19, x20, x21, x22, x23, x24, x25, x26, x27, x28, x29, x30, x31, x32, x33, x34, x35, y36, y37, y38, y39, y40, y41, y42, y43, y44, y45, y46, y47, .bool true, x49, x50, x51, x52, x53, x54, x55, x56, x57, x58, x59, x60, x61, x62, x63, x64, x65, x66], []⟩ w.drew) : Code.wp Try.prog body Q ⟨#[x0, x1, x2, x3, x4, .slice (some ⟨g, 0, none⟩) NL cap, x6, x7, .pointer (some ⟨r, 0, none⟩), .int .i64 k, x10, x11, x12, x13, x14, x15, x16, x17, x18, x19, x20, x21, x22, x23, x24, x25, x26, x27, x28, x29, x30, x31, x32, x33, x34, x35, x36, x37, x38, x39, x40, x41, x42, x43, x44, x45, x46, x47, x48, x49, x50, x51, x52, x53, x54, x55, x56, x57, x58, x59, x60, x61, x62, x63, x64, x65, x66], []⟩ w := by
  have hbody := rover_body9 rfl hB
  clear hB
  subst hbody
  have hcont := Aside0.mk cont
  clear cont
  have hl2 : NL ≤ 100000 := by omega
  have hb0 : decide (0 < k) = true := by simp; omega
  have hb1 : decide (u < e) = true := by simp; omega
  refine start_ (n := 13) (S := fun w' => w'.cell? ⟨g, 3 * (k - 1) + 2, none⟩ = some (.int .u64 e) ∧ w'.cell? ⟨r, 2, none⟩ = some (.int .u64 u)) (ds := []) #[false, false, false, false, false, false, false, false, false, false, false, false, false] (by kernel_rfl) rfl rfl ⟨ce.out, cr.out⟩ (fun hHeld => ?_)
  refine pure_ (i := 0) (N := some 36) (v := ?_) (a' := ?_) #[true, false, false, false, false, false, false, false, false, false, false, false, false] rfl rfl (by kernel_rfl) (fun _ _ _ h => hPQ.out _ _ _ _ _ h) (Or.inl ⟨by rfl, ?_⟩) ?_ ?_
  rotate_left
  · intro w'
    go_simp
    with_reducible rfl
  rotate_left
  · simp only [Act.put, List.setIfInBounds_toArray, List.set_cons_zero, List.set_cons_succ, i64_w, i32_w]
    rfl
  refine pure_ (i := 1) (N := some 37) (v := ?_) (a' := ?_) #[true, true, false, false, false, false, false, false, false, false, false, false, false] rfl rfl (by kernel_rfl) (fun _ _ _ h => hPQ.out _ _ _ _ _ h) (Or.inl ⟨by rfl, ?_⟩) ?_ ?_
  rotate_left
  · intro w'
    go_simp
    with_reducible rfl
  rotate_left
  · simp only [Act.put, List.setIfInBounds_toArray, List.set_cons_zero, List.set_cons_succ, i64_w, i32_w]
    rfl
  refine pure_ (i := 2) (N := some 38) (v := ?_) (a' := ?_) #[true, true, true, false, false, false, false, false, false, false, false, false, false] rfl rfl (by kernel_rfl) (fun _ _ _ h => hPQ.out _ _ _ _ _ h) (Or.inl ⟨by rfl, ?_⟩) ?_ ?_
  rotate_left
  · intro w'
    go_simp
    with_reducible rfl
  rotate_left
  · simp only [Act.put, List.setIfInBounds_toArray, List.set_cons_zero, List.set_cons_succ, i64_w, i32_w]
    rfl
  refine pure_ (i := 3) (N := some 39) (v := ?_) (a' := ?_) #[true, true, true, true, false, false, false, false, false, false, false, false, false] rfl rfl (by kernel_rfl) (fun _ _ _ h => hPQ.out _ _ _ _ _ h) (Or.inl ⟨by rfl, ?_⟩) ?_ ?_
  rotate_left
  · intro w'
    go_simp
    with_reducible rfl
  rotate_left
  · simp only [Act.put, List.setIfInBounds_toArray, List.set_cons_zero, List.set_cons_succ, i64_w, i32_w]
    rfl
  refine pure_ (i := 4) (N := some 40) (v := ?_) (a' := ?_) #[true, true, true, true, true, false, false, false, false, false, false, false, false] rfl rfl (by kernel_rfl) (fun _ _ _ h => hPQ.out _ _ _ _ _ h) (Or.inl ⟨by rfl, ?_⟩) ?_ ?_
  rotate_left
  · intro w'
    go_simp
    with_reducible rfl
  rotate_left
  · simp only [Act.put, List.setIfInBounds_toArray, List.set_cons_zero, List.set_cons_succ, i64_w, i32_w]
    rfl
  refine pure_ (i := 5) (N := some 41) (v := ?_) (a' := ?_) #[true, true, true, true, true, true, false, false, false, false, false, false, false] rfl rfl (by kernel_rfl) (fun _ _ _ h => hPQ.out _ _ _ _ _ h) (Or.inl ⟨by rfl, ?_⟩) ?_ ?_
  rotate_left
  · intro w'
    go_simp
    with_reducible rfl
  rotate_left
  · simp only [Act.put, List.setIfInBounds_toArray, List.set_cons_zero, List.set_cons_succ, i64_w, i32_w]
    rfl
  refine pure_ (i := 6) (N := some 42) (v := ?_) (a' := ?_) #[true, true, true, true, true, true, true, false, false, false, false, false, false] rfl rfl (by kernel_rfl) (fun _ _ _ h => hPQ.out _ _ _ _ _ h) (Or.inl ⟨by rfl, ?_⟩) ?_ ?_
  rotate_left
  · intro w'
    refine (exec_indexAddr rfl (row_index_pm hk0 hk hl2)).trans ?_
    with_reducible rfl
  rotate_left
  · simp only [Act.put, List.setIfInBounds_toArray, List.set_cons_zero, List.set_cons_succ, i64_w, i32_w]
    rfl
  refine pure_ (i := 7) (N := some 43) (v := ?_) (a' := ?_) #[true, true, true, true, true, true, true, true, false, false, false, false, false] rfl rfl (by kernel_rfl) (fun _ _ _ h => hPQ.out _ _ _ _ _ h) (Or.inl ⟨by rfl, ?_⟩) ?_ ?_
  rotate_left
  · intro w'
    go_simp
    with_reducible rfl
  rotate_left
  · simp only [Act.put, List.setIfInBounds_toArray, List.set_cons_zero, List.set_cons_succ, i64_w, i32_w]
    rfl
  refine pure_ (i := 9) (N := some 45) (v := ?_) (a' := ?_) #[true, true, true, true, true, true, true, true, false, true, false, false, false] rfl rfl (by kernel_rfl) (fun _ _ _ h => hPQ.out _ _ _ _ _ h) (Or.inl ⟨by rfl, ?_⟩) ?_ ?_
  rotate_left
  · intro w'
    go_simp
    with_reducible rfl
  rotate_left
  · simp only [Act.put, List.setIfInBounds_toArray, List.set_cons_zero, List.set_cons_succ, i64_w, i32_w]
    rfl
  refine take_ (i := 8) (N := some 44) (v := ?_) (a' := ?_) #[true, true, true, true, true, true, true, true, true, true, false, false, false] rfl rfl (by kernel_rfl) (fun _ _ _ h => hPQ.out _ _ _ _ _ h) (Or.inl ⟨by rfl, ?_⟩) hHeld ?_ ?_
  rotate_left
  · rintro w' ⟨s0, s1⟩
    go_simp
    with_reducible rfl
  rotate_left
  · simp only [Act.put, List.setIfInBounds_toArray, List.set_cons_zero, List.set_cons_succ, i64_w, i32_w]
    rfl
  refine take_ (i := 10) (N := some 46) (v := ?_) (a' := ?_) #[true, true, true, true, true, true, true, true, true, true, true, false, false] rfl rfl (by kernel_rfl) (fun _ _ _ h => hPQ.out _ _ _ _ _ h) (Or.inl ⟨by rfl, ?_⟩) hHeld ?_ ?_
  rotate_left
  · rintro w' ⟨s0, s1⟩
    go_simp
    with_reducible rfl
  rotate_left
  · simp only [Act.put, List.setIfInBounds_toArray, List.set_cons_zero, List.set_cons_succ, i64_w, i32_w]
    rfl
  refine pure_ (i := 11) (N := some 47) (v := ?_) (a' := ?_) #[true, true, true, true, true, true, true, true, true, true, true, true, false] rfl rfl (by kernel_rfl) (fun _ _ _ h => hPQ.out _ _ _ _ _ h) (Or.inl ⟨by rfl, ?_⟩) ?_ ?_
  rotate_left
  · intro w'
    go_simp
    with_reducible rfl
  rotate_left
  · simp only [Act.put, List.setIfInBounds_toArray, List.set_cons_zero, List.set_cons_succ, i64_w, i32_w]
    rfl
  refine pure_ (i := 12) (N := some 48) (v := ?_) (a' := ?_) #[true, true, true, true, true, true, true, true, true, true, true, true, true] rfl rfl (by kernel_rfl) (fun _ _ _ h => hPQ.out _ _ _ _ _ h) (Or.inl ⟨by rfl, ?_⟩) ?_ ?_
  rotate_left
  · intro w'
    go_simp
    with_reducible rfl
  rotate_left
  · simp only [Act.put, List.setIfInBounds_toArray, List.set_cons_zero, List.set_cons_succ, i64_w, i32_w]
    rfl
  refine done_ (by kernel_rfl) ?_
  exact hcont.out _ _ _ _ _ _ _ _ _ _ _ _
end Go.Proofs.Ytikbgoppmailjaa.H
