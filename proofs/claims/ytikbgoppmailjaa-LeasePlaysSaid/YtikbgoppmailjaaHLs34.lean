import Derived.Test.YtikbgoppmailjaaHLs32
import Derived.Test.YtikbgoppmailjaaHLs25
/- symMergeCmpFunc over a row of leases: the whole. -/
namespace Go.Proofs.Ytikbgoppmailjaa.H
open Go.RowKit Go.HK Go.Maps Go.Sort Go.Lib Go.WideShapes Go.ChangeShapes Go.Proofs.YtikbgoppmailjaaW.PrintWords Go.Proofs.YtikbgoppmailjaaW.PrintLast Go.Proofs.YtikbgoppmailjaaW.PrintMore
set_option linter.unusedVariables false
set_option linter.unusedSimpArgs false
set_option maxRecDepth 100000 in
set_option maxHeartbeats 4000000 in
theorem sym_left {w : World} {g L cap a m b : Nat} {f : Nat → G3} (hF : RowF w g L f) (h1 : m = a + 1) (hm : m < b) (hb : b ≤ L) (hl : L ≤ 100) :
    Calls Try.prog 39 #[.slice (some ⟨g, 0, none⟩) L cap, .int .i64 a, .int .i64 m, .int .i64 b, .func (.func 27) #[] #[]] w fun e w' => e = .returned (.tuple #[]) ∧ ∃ f', RowF w' g L f' ∧ w.grownBy w' (some g) ∧ SymPost L a m b f f' := by
  have F := Aside0.mk hF
  clear hF
  go_enter Try.func39, Try.ntmps39
  go_wp2
  refine wp_loop_rounds (b + 1) ?_
  refine sym1_loop (lo := m) (hi := b) (f := f) rfl (by omega) hl hb ?_ b m b w _ _ _ _ _ _ _ _ _ _ _ _ _ _ _ _ _ _ _ _ _ _ _ _ _ _ _ _ _ _ _ _ _ _ _ _ _ _ _ _ _ _ _ _ _ _ _ _ _ _ _ _ _ _ _ _ _ _ _ _ _ _ _ _ _ _ _ _ _ _ _ _ _ _ _ _ _ _ _ _ _ _ _ _ _ _ _ _ _ _ _ _ _ _ _ _ _ _ _ _ _ _ _ _ _ _ _ _ _ _ _ _ _ _ _ _ _ _ _ _ _ _ _ _ _ _ _ _ _ _ _ _ _ _ _ _ _ _ _ _ _ _ _ _ _ _ _ _ _ _ _ _ _ _ _ _ _ _ _ _ _ _ _ _ _ _ _ _ _ _ _ _ _ _ _ _ _ _ _ _ _ _ _ _ _ _ _ _ _ _ _ _ _ _ _ _ _ _ _ _ _ _ _ _ _ _ _ _ _ _ _ _ _ (by omega) (Srch.start (by omega)) F (World.grownBy.refl _ _)
  intro w1 i y5 y6 y7 y8 y9 y12 y13 y14 y15 y16 y17 y18 y19 y20 y21 y22 y23 y24 y25 y26 y27 y28 y29 y30 y31 y32 y33 y34 y35 y36 y37 y38 y39 y40 y41 y42 y43 y44 y45 y46 y47 y48 y49 y50 y51 y52 y53 y54 y55 y56 y57 y58 y59 y60 y61 y62 y63 y64 y65 y66 y67 y68 y69 y70 y71 y72 y73 y74 y75 y76 y77 y78 y79 y80 y81 y82 y83 y84 y85 y86 y87 y88 y89 y90 y91 y92 y93 y94 y95 y96 y97 y98 y99 y100 y101 y102 y103 y104 y105 y106 y107 y108 y109 y110 y111 y112 y113 y114 y115 y116 y117 y118 y119 y120 y121 y122 y123 y124 y125 y126 y127 y128 y129 y130 y131 y132 y133 y134 y135 y136 y137 y138 y139 y140 y141 y142 y143 y144 y145 y146 y147 y148 y149 y150 y151 y152 y153 y154 y155 y156 y157 y158 y159 y160 y161 y162 y163 y164 y165 y166 y167 y168 y169 y170 y171 y172 y173 y174 y175 y176 y177 y178 y179 y180 y181 y182 y183 y184 y185 y186 y187 y188 y189 y190 y191 y192 y193 y194 y195 y196 y197 y198 y199 y200 y201 y202 y203 y204 y205 y206 y207 y208 y209 y210 y211 y212 y213 y214 y215 y216 y217 y218 y219 hs hF hG
  have F1 := Aside0.mk hF
  have G1 := Aside0.mk hG
  have S1 := Aside0.mk hs
  have hlo := hs.lo_le
  have hhi := hs.le_hi
  clear hF hG hs
  go_wp2
  refine wp_loop_rounds (i - a - 1 + 1) ?_
  refine sym2_loop (a := a) (i := i) (f := f) rfl hl (by omega) ?_ (i - a - 1) a w1 _ _ _ _ _ _ _ _ _ _ _ _ _ _ _ _ _ _ _ _ _ _ _ _ _ _ _ _ _ _ _ _ _ _ _ _ _ _ _ _ _ _ _ _ _ _ _ _ _ _ _ _ _ _ _ _ _ _ _ _ _ _ _ _ _ _ _ _ _ _ _ _ _ _ _ _ _ _ _ _ _ _ _ _ _ _ _ _ _ _ _ _ _ _ _ _ _ _ _ _ _ _ _ _ _ _ _ _ _ _ _ _ _ _ _ _ _ _ _ _ _ _ _ _ _ _ _ _ _ _ _ _ _ _ _ _ _ _ _ _ _ _ _ _ _ _ _ _ _ _ _ _ _ _ _ _ _ _ _ _ _ _ _ _ _ _ _ _ _ _ _ _ _ _ _ _ _ _ _ _ _ _ _ _ _ _ _ _ _ _ _ _ _ _ _ _ _ _ _ _ _ _ _ _ _ _ _ _ _ _ _ _ _ (by omega) (Nat.le_refl _) ⟨by rw [fL_self]; exact F1.out⟩ (World.grownBy.refl _ _)
  intro w2 k y5 y6 y7 y8 y9 y11 y12 y14 y15 y16 y17 y18 y19 y20 y21 y22 y23 y24 y25 y26 y27 y28 y29 y30 y31 y32 y33 y34 y35 y36 y37 y38 y39 y40 y41 y42 y43 y44 y45 y46 y47 y48 y49 y50 y51 y52 y53 y54 y55 y56 y57 y58 y59 y60 y61 y62 y63 y64 y65 y66 y67 y68 y69 y70 y71 y72 y73 y74 y75 y76 y77 y78 y79 y80 y81 y82 y83 y84 y85 y86 y87 y88 y89 y90 y91 y92 y93 y94 y95 y96 y97 y98 y99 y100 y101 y102 y103 y104 y105 y106 y107 y108 y109 y110 y111 y112 y113 y114 y115 y116 y117 y118 y119 y120 y121 y122 y123 y124 y125 y126 y127 y128 y129 y130 y131 y132 y133 y134 y135 y136 y137 y138 y139 y140 y141 y142 y143 y144 y145 y146 y147 y148 y149 y150 y151 y152 y153 y154 y155 y156 y157 y158 y159 y160 y161 y162 y163 y164 y165 y166 y167 y168 y169 y170 y171 y172 y173 y174 y175 y176 y177 y178 y179 y180 y181 y182 y183 y184 y185 y186 y187 y188 y189 y190 y191 y192 y193 y194 y195 y196 y197 y198 y199 y200 y201 y202 y203 y204 y205 y206 y207 y208 y209 y210 y211 y212 y213 y214 y215 y216 y217 y218 y219 hk hF hG
  have F2 := Aside0.mk hF
  have G2 := Aside0.mk (grown_trans G1.out hG)
  clear hF hG
  go_wp2
  refine bodyPost_ret (results_none rfl _ _ _) rfl ?_
  subst h1
  have P := left_post (L := L) (by omega) hb S1.out
  have ek : i - 1 = k := by omega
  rw [ek] at P
  exact ⟨rfl, _, F2.out, G2.out, P⟩
set_option maxRecDepth 100000 in
set_option maxHeartbeats 4000000 in
theorem sym_right {w : World} {g L cap a m b : Nat} {f : Nat → G3} (hF : RowF w g L f) (h0 : a + 1 < m) (h1 : b = m + 1) (hb : b ≤ L) (hl : L ≤ 100) :
    Calls Try.prog 39 #[.slice (some ⟨g, 0, none⟩) L cap, .int .i64 a, .int .i64 m, .int .i64 b, .func (.func 27) #[] #[]] w fun e w' => e = .returned (.tuple #[]) ∧ ∃ f', RowF w' g L f' ∧ w.grownBy w' (some g) ∧ SymPost L a m b f f' := by
  have F := Aside0.mk hF
  clear hF
  go_enter Try.func39, Try.ntmps39
  go_wp2
  refine wp_loop_rounds (m + 1) ?_
  refine sym3_loop (lo := a) (hi := m) (f := f) rfl (by omega) hl (by omega) ?_ m a m w _ _ _ _ _ _ _ _ _ _ _ _ _ _ _ _ _ _ _ _ _ _ _ _ _ _ _ _ _ _ _ _ _ _ _ _ _ _ _ _ _ _ _ _ _ _ _ _ _ _ _ _ _ _ _ _ _ _ _ _ _ _ _ _ _ _ _ _ _ _ _ _ _ _ _ _ _ _ _ _ _ _ _ _ _ _ _ _ _ _ _ _ _ _ _ _ _ _ _ _ _ _ _ _ _ _ _ _ _ _ _ _ _ _ _ _ _ _ _ _ _ _ _ _ _ _ _ _ _ _ _ _ _ _ _ _ _ _ _ _ _ _ _ _ _ _ _ _ _ _ _ _ _ _ _ _ _ _ _ _ _ _ _ _ _ _ _ _ _ _ _ _ _ _ _ _ _ _ _ _ _ _ _ _ _ _ _ _ _ _ _ _ _ _ _ _ _ _ _ _ _ _ _ _ _ _ _ _ _ _ _ _ _ (by omega) (Srch.start (by omega)) F (World.grownBy.refl _ _)
  intro w1 i y5 y6 y7 y8 y9 y10 y11 y12 y13 y16 y17 y18 y19 y20 y21 y22 y23 y24 y25 y26 y27 y28 y29 y30 y31 y32 y33 y34 y35 y36 y37 y38 y39 y40 y41 y42 y43 y44 y45 y46 y47 y48 y49 y50 y51 y52 y53 y54 y55 y56 y57 y58 y59 y60 y61 y62 y63 y64 y65 y66 y67 y68 y69 y70 y71 y72 y73 y74 y75 y76 y77 y78 y79 y80 y81 y82 y83 y84 y85 y86 y87 y88 y89 y90 y91 y92 y93 y94 y95 y96 y97 y98 y99 y100 y101 y102 y103 y104 y105 y106 y107 y108 y109 y110 y111 y112 y113 y114 y115 y116 y117 y118 y119 y120 y121 y122 y123 y124 y125 y126 y127 y128 y129 y130 y131 y132 y133 y134 y135 y136 y137 y138 y139 y140 y141 y142 y143 y144 y145 y146 y147 y148 y149 y150 y151 y152 y153 y154 y155 y156 y157 y158 y159 y160 y161 y162 y163 y164 y165 y166 y167 y168 y169 y170 y171 y172 y173 y174 y175 y176 y177 y178 y179 y180 y181 y182 y183 y184 y185 y186 y187 y188 y189 y190 y191 y192 y193 y194 y195 y196 y197 y198 y199 y200 y201 y202 y203 y204 y205 y206 y207 y208 y209 y210 y211 y212 y213 y214 y215 y216 y217 y218 y219 hs hF hG
  have F1 := Aside0.mk hF
  have G1 := Aside0.mk hG
  have P1 : Aside0 (SymPost L a m b f (fR f m i)) := ⟨by subst h1; exact right_post (by omega) hb hs⟩
  have hlo := hs.lo_le
  have hhi := hs.le_hi
  clear hF hG hs
  go_wp2
  refine wp_loop_rounds (m - i + 1) ?_
  refine sym4_loop (m := m) (i := i) (f := f) rfl hl (by omega) ?_ (m - i) m w1 _ _ _ _ _ _ _ _ _ _ _ _ _ _ _ _ _ _ _ _ _ _ _ _ _ _ _ _ _ _ _ _ _ _ _ _ _ _ _ _ _ _ _ _ _ _ _ _ _ _ _ _ _ _ _ _ _ _ _ _ _ _ _ _ _ _ _ _ _ _ _ _ _ _ _ _ _ _ _ _ _ _ _ _ _ _ _ _ _ _ _ _ _ _ _ _ _ _ _ _ _ _ _ _ _ _ _ _ _ _ _ _ _ _ _ _ _ _ _ _ _ _ _ _ _ _ _ _ _ _ _ _ _ _ _ _ _ _ _ _ _ _ _ _ _ _ _ _ _ _ _ _ _ _ _ _ _ _ _ _ _ _ _ _ _ _ _ _ _ _ _ _ _ _ _ _ _ _ _ _ _ _ _ _ _ _ _ _ _ _ _ _ _ _ _ _ _ _ _ _ _ _ _ _ _ _ _ _ _ _ _ _ _ (by omega) (Nat.le_refl _) ⟨by rw [fR_self]; exact F1.out⟩ (World.grownBy.refl _ _)
  intro w2 y5 y6 y7 y8 y9 y10 y11 y12 y13 y15 y16 y18 y19 y20 y21 y22 y23 y24 y25 y26 y27 y28 y29 y30 y31 y32 y33 y34 y35 y36 y37 y38 y39 y40 y41 y42 y43 y44 y45 y46 y47 y48 y49 y50 y51 y52 y53 y54 y55 y56 y57 y58 y59 y60 y61 y62 y63 y64 y65 y66 y67 y68 y69 y70 y71 y72 y73 y74 y75 y76 y77 y78 y79 y80 y81 y82 y83 y84 y85 y86 y87 y88 y89 y90 y91 y92 y93 y94 y95 y96 y97 y98 y99 y100 y101 y102 y103 y104 y105 y106 y107 y108 y109 y110 y111 y112 y113 y114 y115 y116 y117 y118 y119 y120 y121 y122 y123 y124 y125 y126 y127 y128 y129 y130 y131 y132 y133 y134 y135 y136 y137 y138 y139 y140 y141 y142 y143 y144 y145 y146 y147 y148 y149 y150 y151 y152 y153 y154 y155 y156 y157 y158 y159 y160 y161 y162 y163 y164 y165 y166 y167 y168 y169 y170 y171 y172 y173 y174 y175 y176 y177 y178 y179 y180 y181 y182 y183 y184 y185 y186 y187 y188 y189 y190 y191 y192 y193 y194 y195 y196 y197 y198 y199 y200 y201 y202 y203 y204 y205 y206 y207 y208 y209 y210 y211 y212 y213 y214 y215 y216 y217 y218 y219 hF hG
  have F2 := Aside0.mk hF
  have G2 := Aside0.mk (grown_trans G1.out hG)
  clear hF hG
  go_wp2
  refine bodyPost_ret (results_none rfl _ _ _) rfl ?_
  exact ⟨rfl, _, F2.out, G2.out, P1.out⟩
theorem rot_turn {s m e : Nat} {f : Nat → G3} (h1 : s < m) (h2 : m < e) : rotG m (e - s) f (m - s) (e - m) = turn f s m e := by
  have h := rotG_turn m (e - s) f (m - s) (e - m) (by omega) (by omega) (by omega) (by omega)
  rwa [show m - (m - s) = s by omega, show m + (e - m) = e by omega] at h
theorem turn_same {s m e : Nat} {f : Nat → G3} (h1 : s ≤ m) (h2 : m ≤ e) (h : ¬ (s < m ∧ m < e)) : turn f s m e = f := by
  by_cases c1 : s = m
  · subst c1; exact turn_left
  · obtain rfl : e = m := by omega
    exact turn_right
theorem turn_perm {L s m e : Nat} {f : Nat → G3} (h1 : s ≤ m) (h2 : m ≤ e) (h3 : e ≤ L) : (lst L (turn f s m e)).Perm (lst L f) := by
  by_cases c : s < m ∧ m < e
  · rw [← rot_turn c.1 c.2]
    exact rotG_perm L m _ f _ _ (by omega) (by omega) (by omega) (by omega) (by omega)
  · rw [turn_same h1 h2 c]
set_option maxRecDepth 100000 in
set_option maxHeartbeats 8000000 in
theorem sym_main_hi {w : World} {g L cap a m b : Nat} {f : Nat → G3} (IH : ∀ (w : World) (a' m' b' : Nat) (f : Nat → G3), b' - a' < b - a → RowF w g L f → a' < m' → m' < b' → b' ≤ L → Calls Try.prog 39 #[.slice (some ⟨g, 0, none⟩) L cap, .int .i64 a', .int .i64 m', .int .i64 b', .func (.func 27) #[] #[]] w fun e w' => e = .returned (.tuple #[]) ∧ ∃ f', RowF w' g L f' ∧ w.grownBy w' (some g) ∧ SymPost L a' m' b' f f') (hF : RowF w g L f) (h0 : a + 1 < m) (h1 : m + 1 < b) (hb : b ≤ L) (hl : L ≤ 100) (hc : (a + b) / 2 < m) :
    Calls Try.prog 39 #[.slice (some ⟨g, 0, none⟩) L cap, .int .i64 a, .int .i64 m, .int .i64 b, .func (.func 27) #[] #[]] w fun e w' => e = .returned (.tuple #[]) ∧ ∃ f', RowF w' g L f' ∧ w.grownBy w' (some g) ∧ SymPost L a m b f f' := by
  have F := Aside0.mk hF
  have IHA := Aside0.mk IH
  clear hF IH
  obtain ⟨md, hmd, hmd'⟩ : ∃ md, 2 * md ≤ a + b ∧ a + b ≤ 2 * md + 1 := ⟨(a + b) / 2, by omega, by omega⟩
  obtain ⟨n, hn, hn'⟩ : ∃ n, n ≤ md + m ∧ md + m ≤ n := ⟨_, Nat.le_refl _, Nat.le_refl _⟩
  obtain ⟨p, hp, hp'⟩ : ∃ p, p + 1 ≤ n ∧ n ≤ p + 1 := ⟨n - 1, by omega, by omega⟩
  obtain ⟨lo, hlo, hlo'⟩ : ∃ lo, lo + b ≤ n ∧ n ≤ lo + b := ⟨n - b, by omega, by omega⟩
  have E4 := Aside0.mk (show (n : Int) - (b : Int) = (lo : Int) by omega)
  have E1 := Aside0.mk (show ((a : Int) + (b : Int)) / 2 = (md : Int) by omega)
  have E2 := Aside0.mk (show (md : Int) + (m : Int) = (n : Int) by omega)
  have E3 := Aside0.mk (show (n : Int) - 1 = (p : Int) by omega)
  go_enter Try.func39, Try.ntmps39
  go_wp2
  rw [E1.out, E2.out, E3.out, E4.out]
  refine wp_loop_rounds (md + 1) ?_
  refine sym5_loop (lo := lo) (hi := md) (md := md) (n := n) (p := p) (f := f) rfl (by omega) (by omega) (by omega) hl (by omega) ?_ md lo md w _ _ _ _ _ _ _ _ _ _ _ _ _ _ _ _ _ _ _ _ _ _ _ _ _ _ _ _ _ _ _ _ _ _ _ _ _ _ _ _ _ _ _ _ _ _ _ _ _ _ _ _ _ _ _ _ _ _ _ _ _ _ _ _ _ _ _ _ _ _ _ _ _ _ _ _ _ _ _ _ _ _ _ _ _ _ _ _ _ _ _ _ _ _ _ _ _ _ _ _ _ _ _ _ _ _ _ _ _ _ _ _ _ _ _ _ _ _ _ _ _ _ _ _ _ _ _ _ _ _ _ _ _ _ _ _ _ _ _ _ _ _ _ _ _ _ _ _ _ _ _ _ _ _ _ _ _ _ _ _ _ _ _ _ _ _ _ _ _ _ _ _ _ _ _ _ _ _ _ _ _ _ _ _ _ _ _ _ _ _ _ _ _ _ _ _ _ _ _ _ _ _ _ _ _ _ _ _ _ _ (by omega) (Srch.start (by omega)) F (World.grownBy.refl _ _)
  intro w1 s y5 y6 y7 y8 y9 y10 y11 y12 y13 y14 y15 y16 y17 y23 y24 y25 y26 y27 y28 y29 y30 y31 y32 y33 y34 y35 y36 y37 y38 y39 y40 y41 y42 y43 y44 y45 y46 y47 y48 y49 y50 y51 y52 y53 y54 y55 y56 y57 y58 y59 y60 y61 y62 y63 y64 y65 y66 y67 y68 y69 y70 y71 y72 y73 y74 y75 y76 y77 y78 y79 y80 y81 y82 y83 y84 y85 y86 y87 y88 y89 y90 y91 y92 y93 y94 y95 y96 y97 y98 y99 y100 y101 y102 y103 y104 y105 y106 y107 y108 y109 y110 y111 y112 y113 y114 y115 y116 y117 y118 y119 y120 y121 y122 y123 y124 y125 y126 y127 y128 y129 y130 y131 y132 y133 y134 y135 y136 y137 y138 y139 y140 y141 y142 y143 y144 y145 y146 y147 y148 y149 y150 y151 y152 y153 y154 y155 y156 y157 y158 y159 y160 y161 y162 y163 y164 y165 y166 y167 y168 y169 y170 y171 y172 y173 y174 y175 y176 y177 y178 y179 y180 y181 y182 y183 y184 y185 y186 y187 y188 y189 y190 y191 y192 y193 y194 y195 y196 y197 y198 y199 y200 y201 y202 y203 y204 y205 y206 y207 y208 y209 y210 y211 y212 y213 y214 y215 y216 y217 y218 y219 hs hF hG
  have F1 := Aside0.mk hF
  have G1 := Aside0.mk hG
  have q0 := hs.lo_le
  have q1 := hs.le_hi
  obtain ⟨e, he, he'⟩ : ∃ e, e + s ≤ n ∧ n ≤ e + s := ⟨n - s, by omega, by omega⟩
  have M : Aside0 (Mid f a m b md s e) := by
    have q1 := hs.lo_le
    have q2 := hs.le_hi
    refine ⟨⟨by omega, by omega, by omega, by omega, by omega, by omega, ?_, ?_⟩⟩
    · by_cases c : s = lo
      · right; left; omega
      · right; right
        rcases hs.left with r | r
        · exact absurd r c
        · refine ⟨by omega, ?_⟩
          rw [show e = p - (s - 1) by omega]
          exact r
    · rcases hs.right with r | r
      · left; omega
      · right; right
        rw [show e - 1 = p - s by omega]
        exact Classical.not_not.mp r
  have q1 := hs.lo_le
  have q2 := hs.le_hi
  have E5 := Aside0.mk (show (n : Int) - (s : Int) = (e : Int) by omega)
  clear hs hF hG
  go_upto_region 39 with fail
  rw [E5.out]
  have hmde : md ≤ e := by omega
  clear E1 E2 E3 E5 E4
  by_cases c1 : s < m ∧ m < e
  · by_cases c2 : a < s ∧ s < md
    · by_cases c3 : md < e ∧ e < b
      · go_wp2_with (first
      | (go_at_call 39; refine (IHA.out _ md e b f2 (by omega) F3.out c3.1 c3.2 hb).mono ?_; rintro e0 w4 ⟨rfl, f3, hF, hG, hP⟩; have F4 := Aside0.mk hF; have G4 := Aside0.mk (grown_trans G3'.out hG); have P3 := Aside0.mk hP; clear hF hG hP)
      | (go_at_call 39; refine (IHA.out _ a s md (turn f s m e) (by omega) F2.out c2.1 c2.2 (by omega)).mono ?_; rintro e0 w3 ⟨rfl, f2, hF, hG, hP⟩; have F3 := Aside0.mk hF; have G3' := Aside0.mk (grown_trans G2.out hG); have P2 := Aside0.mk hP; clear hF hG hP)
      | (go_at_call 43; refine (rot_calls F1.out c1.1 c1.2 (by omega) (by omega)).mono ?_; rintro e0 w2 ⟨rfl, hF, hG⟩; rw [rot_turn c1.1 c1.2] at hF; have F2 := Aside0.mk hF; have G2 := Aside0.mk (grown_trans G1.out hG); clear hF hG))
        all_goals (go_end0; exact ⟨rfl, f3, F4.out, G4.out, SymPost.main (turn_perm M.out.sm M.out.me (by have := M.out.eb; omega)) M.out P2.out P3.out⟩)
      · go_wp2_with (first
      | (go_at_call 39; refine (IHA.out _ a s md (turn f s m e) (by omega) F2.out c2.1 c2.2 (by omega)).mono ?_; rintro e0 w3 ⟨rfl, f2, hF, hG, hP⟩; have F3 := Aside0.mk hF; have G3' := Aside0.mk (grown_trans G2.out hG); have P2 := Aside0.mk hP; clear hF hG hP)
      | (go_at_call 43; refine (rot_calls F1.out c1.1 c1.2 (by omega) (by omega)).mono ?_; rintro e0 w2 ⟨rfl, hF, hG⟩; rw [rot_turn c1.1 c1.2] at hF; have F2 := Aside0.mk hF; have G2 := Aside0.mk (grown_trans G1.out hG); clear hF hG))
        all_goals (go_end0; exact ⟨rfl, f2, F3.out, G3'.out, SymPost.main (turn_perm M.out.sm M.out.me (by have := M.out.eb; omega)) M.out P2.out (SymPost.none (by have := M.out.me; have := M.out.eb; omega) hmde M.out.eb)⟩)
    · by_cases c3 : md < e ∧ e < b
      · go_wp2_with (first
      | (go_at_call 39; refine (IHA.out _ md e b (turn f s m e) (by omega) F2.out c3.1 c3.2 hb).mono ?_; rintro e0 w4 ⟨rfl, f3, hF, hG, hP⟩; have F4 := Aside0.mk hF; have G4 := Aside0.mk (grown_trans G2.out hG); have P3 := Aside0.mk hP; clear hF hG hP)
      | (go_at_call 43; refine (rot_calls F1.out c1.1 c1.2 (by omega) (by omega)).mono ?_; rintro e0 w2 ⟨rfl, hF, hG⟩; rw [rot_turn c1.1 c1.2] at hF; have F2 := Aside0.mk hF; have G2 := Aside0.mk (grown_trans G1.out hG); clear hF hG))
        all_goals (go_end0; exact ⟨rfl, f3, F4.out, G4.out, SymPost.main (turn_perm M.out.sm M.out.me (by have := M.out.eb; omega)) M.out (SymPost.none (by have := M.out.las; have := M.out.smd; omega) M.out.las M.out.smd) P3.out⟩)
      · go_wp2_with (first
      | (go_at_call 43; refine (rot_calls F1.out c1.1 c1.2 (by omega) (by omega)).mono ?_; rintro e0 w2 ⟨rfl, hF, hG⟩; rw [rot_turn c1.1 c1.2] at hF; have F2 := Aside0.mk hF; have G2 := Aside0.mk (grown_trans G1.out hG); clear hF hG))
        all_goals (go_end0; exact ⟨rfl, _, F2.out, G2.out, SymPost.main (turn_perm M.out.sm M.out.me (by have := M.out.eb; omega)) M.out (SymPost.none (by have := M.out.las; have := M.out.smd; omega) M.out.las M.out.smd) (SymPost.none (by have := M.out.me; have := M.out.eb; omega) hmde M.out.eb)⟩)
  · by_cases c2 : a < s ∧ s < md
    · by_cases c3 : md < e ∧ e < b
      · have F2 : Aside0 (RowF w1 g L (turn f s m e)) := ⟨by rw [turn_same M.out.sm M.out.me c1]; exact F1.out⟩
        have G2 := G1
        go_wp2_with (first
      | (go_at_call 39; refine (IHA.out _ md e b f2 (by omega) F3.out c3.1 c3.2 hb).mono ?_; rintro e0 w4 ⟨rfl, f3, hF, hG, hP⟩; have F4 := Aside0.mk hF; have G4 := Aside0.mk (grown_trans G3'.out hG); have P3 := Aside0.mk hP; clear hF hG hP)
      | (go_at_call 39; refine (IHA.out _ a s md (turn f s m e) (by omega) F2.out c2.1 c2.2 (by omega)).mono ?_; rintro e0 w3 ⟨rfl, f2, hF, hG, hP⟩; have F3 := Aside0.mk hF; have G3' := Aside0.mk (grown_trans G2.out hG); have P2 := Aside0.mk hP; clear hF hG hP))
        all_goals (go_end0; exact ⟨rfl, f3, F4.out, G4.out, SymPost.main (turn_perm M.out.sm M.out.me (by have := M.out.eb; omega)) M.out P2.out P3.out⟩)
      · have F2 : Aside0 (RowF w1 g L (turn f s m e)) := ⟨by rw [turn_same M.out.sm M.out.me c1]; exact F1.out⟩
        have G2 := G1
        go_wp2_with (first
      | (go_at_call 39; refine (IHA.out _ a s md (turn f s m e) (by omega) F2.out c2.1 c2.2 (by omega)).mono ?_; rintro e0 w3 ⟨rfl, f2, hF, hG, hP⟩; have F3 := Aside0.mk hF; have G3' := Aside0.mk (grown_trans G2.out hG); have P2 := Aside0.mk hP; clear hF hG hP))
        all_goals (go_end0; exact ⟨rfl, f2, F3.out, G3'.out, SymPost.main (turn_perm M.out.sm M.out.me (by have := M.out.eb; omega)) M.out P2.out (SymPost.none (by have := M.out.me; have := M.out.eb; omega) hmde M.out.eb)⟩)
    · by_cases c3 : md < e ∧ e < b
      · have F2 : Aside0 (RowF w1 g L (turn f s m e)) := ⟨by rw [turn_same M.out.sm M.out.me c1]; exact F1.out⟩
        have G2 := G1
        go_wp2_with (first
      | (go_at_call 39; refine (IHA.out _ md e b (turn f s m e) (by omega) F2.out c3.1 c3.2 hb).mono ?_; rintro e0 w4 ⟨rfl, f3, hF, hG, hP⟩; have F4 := Aside0.mk hF; have G4 := Aside0.mk (grown_trans G2.out hG); have P3 := Aside0.mk hP; clear hF hG hP))
        all_goals (go_end0; exact ⟨rfl, f3, F4.out, G4.out, SymPost.main (turn_perm M.out.sm M.out.me (by have := M.out.eb; omega)) M.out (SymPost.none (by have := M.out.las; have := M.out.smd; omega) M.out.las M.out.smd) P3.out⟩)
      · have F2 : Aside0 (RowF w1 g L (turn f s m e)) := ⟨by rw [turn_same M.out.sm M.out.me c1]; exact F1.out⟩
        have G2 := G1
        go_wp2
        all_goals (go_end0; exact ⟨rfl, _, F2.out, G2.out, SymPost.main (turn_perm M.out.sm M.out.me (by have := M.out.eb; omega)) M.out (SymPost.none (by have := M.out.las; have := M.out.smd; omega) M.out.las M.out.smd) (SymPost.none (by have := M.out.me; have := M.out.eb; omega) hmde M.out.eb)⟩)
set_option maxRecDepth 100000 in
set_option maxHeartbeats 8000000 in
theorem sym_main_lo {w : World} {g L cap a m b : Nat} {f : Nat → G3} (IH : ∀ (w : World) (a' m' b' : Nat) (f : Nat → G3), b' - a' < b - a → RowF w g L f → a' < m' → m' < b' → b' ≤ L → Calls Try.prog 39 #[.slice (some ⟨g, 0, none⟩) L cap, .int .i64 a', .int .i64 m', .int .i64 b', .func (.func 27) #[] #[]] w fun e w' => e = .returned (.tuple #[]) ∧ ∃ f', RowF w' g L f' ∧ w.grownBy w' (some g) ∧ SymPost L a' m' b' f f') (hF : RowF w g L f) (h0 : a + 1 < m) (h1 : m + 1 < b) (hb : b ≤ L) (hl : L ≤ 100) (hc : m ≤ (a + b) / 2) :
    Calls Try.prog 39 #[.slice (some ⟨g, 0, none⟩) L cap, .int .i64 a, .int .i64 m, .int .i64 b, .func (.func 27) #[] #[]] w fun e w' => e = .returned (.tuple #[]) ∧ ∃ f', RowF w' g L f' ∧ w.grownBy w' (some g) ∧ SymPost L a m b f f' := by
  have F := Aside0.mk hF
  have IHA := Aside0.mk IH
  clear hF IH
  obtain ⟨md, hmd, hmd'⟩ : ∃ md, 2 * md ≤ a + b ∧ a + b ≤ 2 * md + 1 := ⟨(a + b) / 2, by omega, by omega⟩
  obtain ⟨n, hn, hn'⟩ : ∃ n, n ≤ md + m ∧ md + m ≤ n := ⟨_, Nat.le_refl _, Nat.le_refl _⟩
  obtain ⟨p, hp, hp'⟩ : ∃ p, p + 1 ≤ n ∧ n ≤ p + 1 := ⟨n - 1, by omega, by omega⟩
  have E1 := Aside0.mk (show ((a : Int) + (b : Int)) / 2 = (md : Int) by omega)
  have E2 := Aside0.mk (show (md : Int) + (m : Int) = (n : Int) by omega)
  have E3 := Aside0.mk (show (n : Int) - 1 = (p : Int) by omega)
  go_enter Try.func39, Try.ntmps39
  go_wp2
  rw [E1.out, E2.out, E3.out]
  refine wp_loop_rounds (m + 1) ?_
  refine sym5_loop (lo := a) (hi := m) (md := md) (n := n) (p := p) (f := f) rfl (by omega) (by omega) (by omega) hl (by omega) ?_ m a m w _ _ _ _ _ _ _ _ _ _ _ _ _ _ _ _ _ _ _ _ _ _ _ _ _ _ _ _ _ _ _ _ _ _ _ _ _ _ _ _ _ _ _ _ _ _ _ _ _ _ _ _ _ _ _ _ _ _ _ _ _ _ _ _ _ _ _ _ _ _ _ _ _ _ _ _ _ _ _ _ _ _ _ _ _ _ _ _ _ _ _ _ _ _ _ _ _ _ _ _ _ _ _ _ _ _ _ _ _ _ _ _ _ _ _ _ _ _ _ _ _ _ _ _ _ _ _ _ _ _ _ _ _ _ _ _ _ _ _ _ _ _ _ _ _ _ _ _ _ _ _ _ _ _ _ _ _ _ _ _ _ _ _ _ _ _ _ _ _ _ _ _ _ _ _ _ _ _ _ _ _ _ _ _ _ _ _ _ _ _ _ _ _ _ _ _ _ _ _ _ _ _ _ _ _ _ _ _ _ _ (by omega) (Srch.start (by omega)) F (World.grownBy.refl _ _)
  intro w1 s y5 y6 y7 y8 y9 y10 y11 y12 y13 y14 y15 y16 y17 y23 y24 y25 y26 y27 y28 y29 y30 y31 y32 y33 y34 y35 y36 y37 y38 y39 y40 y41 y42 y43 y44 y45 y46 y47 y48 y49 y50 y51 y52 y53 y54 y55 y56 y57 y58 y59 y60 y61 y62 y63 y64 y65 y66 y67 y68 y69 y70 y71 y72 y73 y74 y75 y76 y77 y78 y79 y80 y81 y82 y83 y84 y85 y86 y87 y88 y89 y90 y91 y92 y93 y94 y95 y96 y97 y98 y99 y100 y101 y102 y103 y104 y105 y106 y107 y108 y109 y110 y111 y112 y113 y114 y115 y116 y117 y118 y119 y120 y121 y122 y123 y124 y125 y126 y127 y128 y129 y130 y131 y132 y133 y134 y135 y136 y137 y138 y139 y140 y141 y142 y143 y144 y145 y146 y147 y148 y149 y150 y151 y152 y153 y154 y155 y156 y157 y158 y159 y160 y161 y162 y163 y164 y165 y166 y167 y168 y169 y170 y171 y172 y173 y174 y175 y176 y177 y178 y179 y180 y181 y182 y183 y184 y185 y186 y187 y188 y189 y190 y191 y192 y193 y194 y195 y196 y197 y198 y199 y200 y201 y202 y203 y204 y205 y206 y207 y208 y209 y210 y211 y212 y213 y214 y215 y216 y217 y218 y219 hs hF hG
  have F1 := Aside0.mk hF
  have G1 := Aside0.mk hG
  have q0 := hs.lo_le
  have q1 := hs.le_hi
  obtain ⟨e, he, he'⟩ : ∃ e, e + s ≤ n ∧ n ≤ e + s := ⟨n - s, by omega, by omega⟩
  have M : Aside0 (Mid f a m b md s e) := by
    have q1 := hs.lo_le
    have q2 := hs.le_hi
    refine ⟨⟨by omega, by omega, by omega, by omega, by omega, by omega, ?_, ?_⟩⟩
    · by_cases c : s = a
      · left; omega
      · right; right
        rcases hs.left with r | r
        · exact absurd r c
        · refine ⟨by omega, ?_⟩
          rw [show e = p - (s - 1) by omega]
          exact r
    · rcases hs.right with r | r
      · right; left; omega
      · right; right
        rw [show e - 1 = p - s by omega]
        exact Classical.not_not.mp r
  have q1 := hs.lo_le
  have q2 := hs.le_hi
  have E5 := Aside0.mk (show (n : Int) - (s : Int) = (e : Int) by omega)
  clear hs hF hG
  go_upto_region 39 with fail
  rw [E5.out]
  have hmde : md ≤ e := by omega
  clear E1 E2 E3 E5
  by_cases c1 : s < m ∧ m < e
  · by_cases c2 : a < s ∧ s < md
    · by_cases c3 : md < e ∧ e < b
      · go_wp2_with (first
      | (go_at_call 39; refine (IHA.out _ md e b f2 (by omega) F3.out c3.1 c3.2 hb).mono ?_; rintro e0 w4 ⟨rfl, f3, hF, hG, hP⟩; have F4 := Aside0.mk hF; have G4 := Aside0.mk (grown_trans G3'.out hG); have P3 := Aside0.mk hP; clear hF hG hP)
      | (go_at_call 39; refine (IHA.out _ a s md (turn f s m e) (by omega) F2.out c2.1 c2.2 (by omega)).mono ?_; rintro e0 w3 ⟨rfl, f2, hF, hG, hP⟩; have F3 := Aside0.mk hF; have G3' := Aside0.mk (grown_trans G2.out hG); have P2 := Aside0.mk hP; clear hF hG hP)
      | (go_at_call 43; refine (rot_calls F1.out c1.1 c1.2 (by omega) (by omega)).mono ?_; rintro e0 w2 ⟨rfl, hF, hG⟩; rw [rot_turn c1.1 c1.2] at hF; have F2 := Aside0.mk hF; have G2 := Aside0.mk (grown_trans G1.out hG); clear hF hG))
        all_goals (go_end0; exact ⟨rfl, f3, F4.out, G4.out, SymPost.main (turn_perm M.out.sm M.out.me (by have := M.out.eb; omega)) M.out P2.out P3.out⟩)
      · go_wp2_with (first
      | (go_at_call 39; refine (IHA.out _ a s md (turn f s m e) (by omega) F2.out c2.1 c2.2 (by omega)).mono ?_; rintro e0 w3 ⟨rfl, f2, hF, hG, hP⟩; have F3 := Aside0.mk hF; have G3' := Aside0.mk (grown_trans G2.out hG); have P2 := Aside0.mk hP; clear hF hG hP)
      | (go_at_call 43; refine (rot_calls F1.out c1.1 c1.2 (by omega) (by omega)).mono ?_; rintro e0 w2 ⟨rfl, hF, hG⟩; rw [rot_turn c1.1 c1.2] at hF; have F2 := Aside0.mk hF; have G2 := Aside0.mk (grown_trans G1.out hG); clear hF hG))
        all_goals (go_end0; exact ⟨rfl, f2, F3.out, G3'.out, SymPost.main (turn_perm M.out.sm M.out.me (by have := M.out.eb; omega)) M.out P2.out (SymPost.none (by have := M.out.me; have := M.out.eb; omega) hmde M.out.eb)⟩)
    · by_cases c3 : md < e ∧ e < b
      · go_wp2_with (first
      | (go_at_call 39; refine (IHA.out _ md e b (turn f s m e) (by omega) F2.out c3.1 c3.2 hb).mono ?_; rintro e0 w4 ⟨rfl, f3, hF, hG, hP⟩; have F4 := Aside0.mk hF; have G4 := Aside0.mk (grown_trans G2.out hG); have P3 := Aside0.mk hP; clear hF hG hP)
      | (go_at_call 43; refine (rot_calls F1.out c1.1 c1.2 (by omega) (by omega)).mono ?_; rintro e0 w2 ⟨rfl, hF, hG⟩; rw [rot_turn c1.1 c1.2] at hF; have F2 := Aside0.mk hF; have G2 := Aside0.mk (grown_trans G1.out hG); clear hF hG))
        all_goals (go_end0; exact ⟨rfl, f3, F4.out, G4.out, SymPost.main (turn_perm M.out.sm M.out.me (by have := M.out.eb; omega)) M.out (SymPost.none (by have := M.out.las; have := M.out.smd; omega) M.out.las M.out.smd) P3.out⟩)
      · go_wp2_with (first
      | (go_at_call 43; refine (rot_calls F1.out c1.1 c1.2 (by omega) (by omega)).mono ?_; rintro e0 w2 ⟨rfl, hF, hG⟩; rw [rot_turn c1.1 c1.2] at hF; have F2 := Aside0.mk hF; have G2 := Aside0.mk (grown_trans G1.out hG); clear hF hG))
        all_goals (go_end0; exact ⟨rfl, _, F2.out, G2.out, SymPost.main (turn_perm M.out.sm M.out.me (by have := M.out.eb; omega)) M.out (SymPost.none (by have := M.out.las; have := M.out.smd; omega) M.out.las M.out.smd) (SymPost.none (by have := M.out.me; have := M.out.eb; omega) hmde M.out.eb)⟩)
  · by_cases c2 : a < s ∧ s < md
    · by_cases c3 : md < e ∧ e < b
      · have F2 : Aside0 (RowF w1 g L (turn f s m e)) := ⟨by rw [turn_same M.out.sm M.out.me c1]; exact F1.out⟩
        have G2 := G1
        go_wp2_with (first
      | (go_at_call 39; refine (IHA.out _ md e b f2 (by omega) F3.out c3.1 c3.2 hb).mono ?_; rintro e0 w4 ⟨rfl, f3, hF, hG, hP⟩; have F4 := Aside0.mk hF; have G4 := Aside0.mk (grown_trans G3'.out hG); have P3 := Aside0.mk hP; clear hF hG hP)
      | (go_at_call 39; refine (IHA.out _ a s md (turn f s m e) (by omega) F2.out c2.1 c2.2 (by omega)).mono ?_; rintro e0 w3 ⟨rfl, f2, hF, hG, hP⟩; have F3 := Aside0.mk hF; have G3' := Aside0.mk (grown_trans G2.out hG); have P2 := Aside0.mk hP; clear hF hG hP))
        all_goals (go_end0; exact ⟨rfl, f3, F4.out, G4.out, SymPost.main (turn_perm M.out.sm M.out.me (by have := M.out.eb; omega)) M.out P2.out P3.out⟩)
      · have F2 : Aside0 (RowF w1 g L (turn f s m e)) := ⟨by rw [turn_same M.out.sm M.out.me c1]; exact F1.out⟩
        have G2 := G1
        go_wp2_with (first
      | (go_at_call 39; refine (IHA.out _ a s md (turn f s m e) (by omega) F2.out c2.1 c2.2 (by omega)).mono ?_; rintro e0 w3 ⟨rfl, f2, hF, hG, hP⟩; have F3 := Aside0.mk hF; have G3' := Aside0.mk (grown_trans G2.out hG); have P2 := Aside0.mk hP; clear hF hG hP))
        all_goals (go_end0; exact ⟨rfl, f2, F3.out, G3'.out, SymPost.main (turn_perm M.out.sm M.out.me (by have := M.out.eb; omega)) M.out P2.out (SymPost.none (by have := M.out.me; have := M.out.eb; omega) hmde M.out.eb)⟩)
    · by_cases c3 : md < e ∧ e < b
      · have F2 : Aside0 (RowF w1 g L (turn f s m e)) := ⟨by rw [turn_same M.out.sm M.out.me c1]; exact F1.out⟩
        have G2 := G1
        go_wp2_with (first
      | (go_at_call 39; refine (IHA.out _ md e b (turn f s m e) (by omega) F2.out c3.1 c3.2 hb).mono ?_; rintro e0 w4 ⟨rfl, f3, hF, hG, hP⟩; have F4 := Aside0.mk hF; have G4 := Aside0.mk (grown_trans G2.out hG); have P3 := Aside0.mk hP; clear hF hG hP))
        all_goals (go_end0; exact ⟨rfl, f3, F4.out, G4.out, SymPost.main (turn_perm M.out.sm M.out.me (by have := M.out.eb; omega)) M.out (SymPost.none (by have := M.out.las; have := M.out.smd; omega) M.out.las M.out.smd) P3.out⟩)
      · have F2 : Aside0 (RowF w1 g L (turn f s m e)) := ⟨by rw [turn_same M.out.sm M.out.me c1]; exact F1.out⟩
        have G2 := G1
        go_wp2
        all_goals (go_end0; exact ⟨rfl, _, F2.out, G2.out, SymPost.main (turn_perm M.out.sm M.out.me (by have := M.out.eb; omega)) M.out (SymPost.none (by have := M.out.las; have := M.out.smd; omega) M.out.las M.out.smd) (SymPost.none (by have := M.out.me; have := M.out.eb; omega) hmde M.out.eb)⟩)
theorem sym_all : ∀ (d : Nat) {w : World} {g L cap a m b : Nat} {f : Nat → G3}, b - a ≤ d → RowF w g L f → a < m → m < b → b ≤ L → L ≤ 100 → Calls Try.prog 39 #[.slice (some ⟨g, 0, none⟩) L cap, .int .i64 a, .int .i64 m, .int .i64 b, .func (.func 27) #[] #[]] w fun e w' => e = .returned (.tuple #[]) ∧ ∃ f', RowF w' g L f' ∧ w.grownBy w' (some g) ∧ SymPost L a m b f f' := by
  intro d
  induction d with
  | zero => intro w g L cap a m b f hd _ _ _ _ _; omega
  | succ d ih =>
    intro w g L cap a m b f hd hF h1 h2 hb hl
    by_cases c1 : m = a + 1
    · exact sym_left hF c1 h2 hb hl
    by_cases c2 : b = m + 1
    · exact sym_right hF (by omega) c2 hb hl
    by_cases c3 : (a + b) / 2 < m
    · exact sym_main_hi (fun w a' m' b' f q1 q2 q3 q4 q5 => ih (by omega) q2 q3 q4 q5 hl) hF (by omega) (by omega) hb hl c3
    · exact sym_main_lo (fun w a' m' b' f q1 q2 q3 q4 q5 => ih (by omega) q2 q3 q4 q5 hl) hF (by omega) (by omega) hb hl (by omega)
theorem sym_word : SymP := fun w g L cap a m b f hF h1 h2 hb hl => sym_all (b - a) (Nat.le_refl _) hF h1 h2 hb hl
end Go.Proofs.Ytikbgoppmailjaa.H
