import Derived.Test.YtikbgoppmailjaaHLs4
import Derived.Test.YtikbgoppmailjaaHShelf
import Derived.Shelf.SlIterI.Nil
import Derived.Deep.MidRow
import Derived.Deep.Cut
/- List: all leases, sorted by their numbers: of nil, of none, of one. -/
namespace Go.Proofs.Ytikbgoppmailjaa.H
open Go.RowKit Go.HK Go.Maps Go.Sort Go.Shelf Go.WideShapes Go.ChangeShapes Go.Proofs.YtikbgoppmailjaaW.PrintWords Go.Proofs.YtikbgoppmailjaaW.PrintLast Go.Proofs.YtikbgoppmailjaaW.PrintMore
set_option linter.unusedVariables false
set_option linter.unusedSimpArgs false
theorem sortsA (m : Nat) : AnyZI.SortsIn Try.prog Try.sortedA_ren Fence.wide m :=
  ⟨fun blk off cap ss W hH hblk hsz => callsIn_wide.2 (Try.slices_Sort_int blk off cap ss W hH hblk hsz),
   fun p cap W => callsIn_wide.2 (Try.slices_Sort_int_none p cap W)⟩
theorem keys_calls (mb : Option Nat) (W : World) : Calls Try.prog 31 #[.map mb] W fun e w' => e = .returned (.func (.func 37) #[] #[.pointer (some ⟨W.heap.size, 0, none⟩)]) ∧ w' = W.alloc (.cells #[.map mb] 59) :=
  (callsIn_wide (n := 6)).1 (AnyZI.keys_in Try.keysA Fence.wide 6 trivial rfl mb W)
theorem sorted_calls {b nn : Nat} {D0 : DataW Unit} {w : World} (hown : w.ownsMap Try.prog 3 grantElem b nn D0) (hmax : size D0 ≤ 100000) :
    Calls Try.prog 30 #[.func (.func 37) #[] #[.pointer (some ⟨w.heap.size, 0, none⟩)]] (w.alloc (.cells #[.map (some b)] 59)) fun e w' => ∃ (v : Value) (ss : List Int), e = .returned v ∧ ss.Perm (intKeys D0) ∧
      w'.ownsRow (w.heap.size + 1) 3 1 v ss.length ((ss.mergeSort (fun x y => decide (x ≤ y))).map encZ) ∧ (v = .slice none 0 0 ↔ ss = []) ∧ Below (w.heap.size + 1) (w.alloc (.cells #[.map (some b)] 59)) w' := by
  refine (callsIn_wide (n := 5)).1 ?_
  have hbl := hown.lt
  have hseq : SeqGives Fence.wide 2 Try.prog 37 #[.pointer (some ⟨w.heap.size, 0, none⟩)] encZ (fun ss => ss.Perm (intKeys D0)) (size D0) (w.alloc (.cells #[.map (some b)] 59)) :=
    AnyZI.keys_gives (ρ := Try.keysA_ren) { Try.keysA with } Fence.wide _ trivial rfl (by omega) w.heap.size b nn D0 _ (by simp) (by simp) (hown.alloc _)
  have cS := AnyZI.sorted_in Try.sortedA Fence.wide 5 trivial trivial trivial trivial rfl (by omega) (sortsA _) (enters_of Try.func36 (by kernel_rfl) rfl) 37 #[.pointer (some ⟨w.heap.size, 0, none⟩)] trivial (enters_of Try.func37 (by kernel_rfl) rfl) _ _ (by unfold maxLen; omega) (by omega) _ hseq
  have e1 : (w.alloc (.cells #[.map (some b)] 59)).heap.size = w.heap.size + 1 := by simp
  rw [e1] at cS
  exact cS
theorem sorted_none {b nn : Nat} {w : World} (hown : w.ownsMap Try.prog 3 grantElem b nn (.map [])) :
    Calls Try.prog 30 #[.func (.func 37) #[] #[.pointer (some ⟨w.heap.size, 0, none⟩)]] (w.alloc (.cells #[.map (some b)] 59)) fun e w' => e = .returned (.slice none 0 0) ∧ Below w.heap.size w w' := by
  refine (sorted_calls hown (by simp [size])).mono ?_
  rintro e w' ⟨v, ss, rfl, hp, hrow, hn, hb⟩
  have e1 : ss = [] := List.Perm.eq_nil hp
  rw [hn.2 e1]
  exact ⟨rfl, ((Below.refl _ w).alloc (Nat.le_refl _) _).trans (hb.mono (by omega))⟩
theorem sorted_one {b nn : Nat} {j : Int} {d : DataW Unit} {w : World} (hown : w.ownsMap Try.prog 3 grantElem b nn (.map [(kk j, d)])) :
    Calls Try.prog 30 #[.func (.func 37) #[] #[.pointer (some ⟨w.heap.size, 0, none⟩)]] (w.alloc (.cells #[.map (some b)] 59)) fun e w' => ∃ g cap, e = .returned (.slice (some ⟨g, 0, none⟩) 1 cap) ∧ w'.cell? ⟨g, 0, none⟩ = some (.int .i64 j) ∧ Below w.heap.size w w' := by
  refine (sorted_calls hown (by simp [size])).mono ?_
  rintro e w' ⟨v, ss, rfl, hp, hrow, hn, hb⟩
  have e1 : ss = [j] := List.perm_singleton.1 hp
  subst e1
  rcases hrow.2 with ⟨rfl, hz⟩ | ⟨g, cap, cur, rfl, hbase, hg, r1, r2, r3, r4⟩
  · exact absurd hz (by simp)
  · refine ⟨g, cap, rfl, ?_, ((Below.refl _ w).alloc (Nat.le_refl _) _).trans (hb.mono (by omega))⟩
    rw [blk_cell hg 0]
    have r5 : cur.toList.take 1 = [encZ j] := by simpa using r4
    have r6 : cur.toList[0]? = some (encZ j) := by
      have := congrArg (fun l => l[0]?) r5
      simpa using this
    simpa [encZ] using r6
theorem exec_lookup {P : Program} {ρ : Operand → Value} {o : Oper} {t : TypeId} {m x : Operand} {c : Bool} (ho : o.op = .lookup t m x c) {w w' : World} {v : Value} (h : (Instr.lookup t (ρ m) (ρ x) c).run P w = .ok v w') : (execOp ρ o).run P w = .ok (.value v) w' := by
  unfold execOp
  rw [ho]
  simp only [Sem.run_bind, h, Result.andThen]
  rfl
theorem atKey_one {k : Lit} {d z : DataW Unit} (hk : WideAt.IsKeyLit k) : (DataW.map [(k, d)] : DataW Unit).atKey k z = d := atKey_put_same isMap_empty hk d z
theorem infoG : ∃ i, Try.prog.info? 38 = some i ∧ i.zero = some (gv 0 0 0) ∧ i.size = 3 ∧ i.bytes = 24 := by
  have h : (Try.prog.info? 38).map (fun i => (i.zero, i.size, i.bytes)) = some (some (gv 0 0 0), 3, 24) := by kernel_rfl
  obtain ⟨i, hi, e⟩ := Option.map_eq_some_iff.1 h
  injection e with e1 e2
  injection e2 with e2 e3
  exact ⟨i, hi, e1, e2, e3⟩
theorem new_three (w : World) (a b c : Int) (j : Nat) (u : Value) (h : ([.int .i64 a, .int .i64 b, .int .u64 c] : List Value)[j]? = some u) : (w.alloc (.cells #[.int .i64 a, .int .i64 b, .int .u64 c] 38)).cell? ((⟨w.heap.size, 0, none⟩ : Addr).add j) = some u := by
  rw [Addr.add_mid, blk_cell (heap_alloc_last _ _)]
  simpa using h
theorem owns_base {w : World} {B B' : Nat} {e : TypeId} {s : Nat} {v : Value} {n : Nat} {xs : List Value} (h : w.ownsRow B e s v n xs) (hB : B' ≤ B) : w.ownsRow B' e s v n xs := by
  refine ⟨h.1, ?_⟩
  rcases h.2 with h | ⟨g, cap, cur, h1, h2, r⟩
  · exact .inl h
  · exact .inr ⟨g, cap, cur, h1, by omega, r⟩
set_option maxRecDepth 100000 in
theorem list_nil {w : World} : Calls Try.prog 16 #[.pointer none] w fun e w' => w' = w ∧ e = .returned (.slice none 0 0) := by
  go_enter Try.func16, Try.ntmps16
  go_wp2
  go_ret
  exact ⟨rfl, rfl⟩
set_option maxRecDepth 100000 in
theorem list_none {w : World} {p : Nat} {n : Int} {b1 b2 m : Nat} {D2 : DataW Unit} (T : TabAt w p n b1 b2 m (.map []) D2) : Calls Try.prog 16 #[.pointer (some ⟨p, 0, none⟩)] w fun e w' => e = .returned (.slice none 0 0) ∧ Below w.heap.size w w' := by
  have HT := Aside0.mk T
  have c1 := blk_cell T.head 1
  clear T
  go_enter Try.func16, Try.ntmps16
  go_wp2_with (first
    | (go_at_call 31; refine (keys_calls _ _).mono ?_; rintro e w1 ⟨rfl, rfl⟩)
    | (go_at_call 30; refine (sorted_none HT.out.all).mono ?_; rintro e w2 ⟨rfl, hb⟩; have HB := Aside0.mk hb; clear hb))
  refine wp_loop_rounds 1 ?_
  rw [rounds_succ]
  go_wp2
  go_ret
  exact ⟨rfl, HB.out⟩
set_option maxRecDepth 100000 in
set_option maxHeartbeats 1000000 in
theorem list_one {w : World} {p : Nat} {n : Int} {b1 b2 m : Nat} {j a b c : Int} {D2 : DataW Unit} (T : TabAt w p n b1 b2 m (.map [(kk j, gd a b c)]) D2) (hj : (Lit.int .i64 j).wf = true) : Calls Try.prog 16 #[.pointer (some ⟨p, 0, none⟩)] w fun e w' => ∃ v, e = .returned v ∧ w'.ownsRow w.heap.size 38 3 v 1 [.int .i64 a, .int .i64 b, .int .u64 c] ∧ Below w.heap.size w w' := by
  have HT := Aside0.mk T
  have HJ := Aside0.mk hj
  have c1 := blk_cell T.head 1
  clear T hj
  go_enter Try.func16, Try.ntmps16
  go_wp2_with (first
    | (go_at_call 31; refine (keys_calls _ _).mono ?_; rintro e w1 ⟨rfl, rfl⟩)
    | (go_at_call 30; refine (sorted_one HT.out.all).mono ?_; rintro e w2 ⟨g, cap, rfl, hc, hb⟩; have HB := Aside0.mk hb; have T2 := Aside0.mk (HT.out.keep hb); clear hb))
  have c1' := blk_cell T2.out.head 1
  obtain ⟨v, ps, hrun, hv⟩ := T2.out.all.lookup keyI Try.underlying59 (zeroG _) (grantElem_mk 0 0 0) (keyOf_i HJ.out)
  obtain ⟨a', b', c', rfl, hz⟩ := grantElem_inv hv
  have e1 := congrArg Prod.fst hz
  rw [atKey_one (keyI.1 (keyOf_i HJ.out))] at e1
  obtain ⟨rfl, rfl, rfl⟩ := gd_inj e1
  have HR := Aside0.mk hrun
  obtain ⟨i0, hi, hz0, hz1, hz2⟩ := infoG
  have HI := Aside0.mk hi
  have HI0 := Aside0.mk hz0
  have HI1 := Aside0.mk hz1
  have HI2 := Aside0.mk hz2
  clear hrun hv hz e1 hi hz0 hz1 hz2
  refine wp_loop_rounds 2 ?_
  rw [rounds_succ]
  go_upto_region 6 with fail
  go_upto_region 99 with (first
    | (refine Great.wpList_readTo rfl (some 25) rfl (gv a b c) (exec_lookup rfl HR.out) ?_)
    | (at_builtin; refine wpList_append_own _ rfl _ _ 34 rfl w2.heap.size 38 i0 (gv 0 0 0) 3 24 Try.underlying34 HI.out HI0.out HI1.out HI2.out rfl (by decide) (.slice none 0 0) 0 [] rfl (World.ownsRow_nil _ _ _ _) ⟨w2.heap.size, 0, none⟩ 1 1 [.int .i64 a, .int .i64 b, .int .u64 c] rfl rfl (new_three _ _ _ _) (fun x hx => by simp at hx; rcases hx with rfl | rfl | rfl <;> rfl) (by unfold maxLen; omega) (by omega) (by simp) ?_; intro v' w3 hown' hgrow3 hnil3; have HO := Aside0.mk hown'; have HB3 := Aside0.mk (HB.out.trans ((((Below.refl w.heap.size w2).alloc HB.out.size (.cells #[.int .i64 a, .int .i64 b, .int .u64 c] 38)).grown hgrow3 (Nat.le_trans HB.out.size (by simp)) (fun k e => by cases e)))); clear hown' hgrow3 hnil3))
  rw [rounds_succ]
  go_wp2
  go_ret
  exact ⟨_, rfl, owns_base HO.out HB.out.size, HB3.out⟩
end Go.Proofs.Ytikbgoppmailjaa.H
