/- NamePads: the walk -/
import Derived.Test.YtpifdkkhdgbcdaaGreatDoorMNb
import Derived.Test.YtpifdkkhdgbcdaaGreatDoorMNd
import Derived.Test.YtpifdkkhdgbcdaaGreatDoorMPm4
import Derived.Test.YtpifdkkhdgbcdaaGreatDoorMHk
import Derived.Test.YtpifdkkhdgbcdaaGreatDoorMGe
namespace Go.Proofs.YtpifdkkhdgbcdaaGreatDoor
open Lib (hid)
set_option linter.unusedSimpArgs false
set_option maxRecDepth 100000
set_option maxHeartbeats 1600000
open Go.RowKit
theorem NamePads_walk (l : List (BitVec 8)) (a : Option Addr) (n c : Nat) (b : List (BitVec 8)) (pad : Int) (w : World) (_hl : l.length ≤ maxLen) (hr : Rd8 w a n c b) (_hp : (Lit.int .i64 pad).wf = true) (hT : Turning w) :
  Calls Tryz.prog 3 #[.string (str l), .slice a n c, .int .i64 pad] w fun e w' => e = .returned (.bool true) ∧ Below w.heap.size w w' := by
 have hsz := str_size l
 obtain ⟨m, hm⟩ : ∃ m, m = l.length := ⟨_, rfl⟩
 rw [← hm] at hsz
 have HM := hid hm
 clear hm
 go_enter Tryz.func3, Tryz.ntmps3
 by_cases hm4 : 400 < m
 ·have e1 : (400 : Int) < (m : Int) := by omega
  go_wp2
  go_ret
  exact ⟨rfl, Below.refl _ _⟩
 have e1 : ¬ (400 : Int) < (m : Int) := by omega
 by_cases hn4 : 400 < n
 ·have e2 : (400 : Int) < (n : Int) := by omega
  go_wp2
  go_ret
  exact ⟨rfl, Below.refl _ _⟩
 have e2 : ¬ (400 : Int) < (n : Int) := by omega
 have hpd := npadded_any l pad w (by rw [← HM.out]; omega)
 obtain ⟨E1, hE1⟩ : ∃ z, z = padE l pad := ⟨_, rfl⟩
 rw [← hE1] at hpd
 have PD := hid hpd
 have EE1 := hid hE1
 have R0 := hid hr
 have T0 := hid hT
 clear hpd hE1 hr hT
 go_wp2_with fail
 refine PD.out.mono ?_
 rintro e w1 ⟨v1, rfl, hv1, ho1, d1⟩
 have V1 := hid hv1
 have O1 := hid ho1
 have R1 := hid (R0.out.below d1)
 have T1 := hid (T0.out.below d1)
 have B1 := hid d1
 have hpl := nplain_any b pad a n c w1 R1.out (by omega)
 obtain ⟨S2, hS2⟩ : ∃ z, z = plainS b pad := ⟨_, rfl⟩
 obtain ⟨E2, hE2⟩ : ∃ z, z = plainE b pad := ⟨_, rfl⟩
 rw [← hS2, ← hE2] at hpl
 have PL := hid hpl
 have ES2 := hid hS2
 have EE2 := hid hE2
 clear hv1 ho1 d1 hpl hS2 hE2 PD R0 T0
 go_wp2_with fail
 refine PL.out.mono ?_
 rintro e w2 ⟨rfl, d2⟩
 have R2 := hid (R1.out.below d2)
 have T2 := hid (T1.out.below d2)
 have B2 := hid (B1.out.trans (d2.mono B1.out.size))
 have O2 := hid (fun h : E1 = 0 => (O1.out h).below d2)
 clear d2 PL R1 T1 B1 O1
 have N2 := hid (nameNew_nil pad w2)
 go_wp2_with fail
 refine N2.out.mono ?_
 rintro e w3 ⟨rfl, rfl⟩
 clear N2
 go_upto_region 6 with fail
 refine wp_region_order [2,2,2,2,0,0,0,0,0] [] [(0, 2, _), (1, 2, _), (2, 2, _), (3, 2, _), (4, 0, _), (5, 0, _), (6, 0, _), (7, 0, _), (8, 0, _)] dep9 [] [] [] [] [] 9 rfl rfl rfl (by kernel_rfl) (by kernel_rfl) (by kernel_rfl) rfl rfl rfl (fun C0 hC0 hCb hCe K' hK' => ?_)
 refine h_nil ?_
 generalize hAct : Act.mk _ _ = act
 obtain ⟨u, rfl⟩ : ∃ u : Nat → Value, act = { tmps := (fun u : Nat → Value => (Value.string (str l) :: Value.slice a n c :: Value.int .i64 pad :: u 3 :: u 4 :: u 5 :: Value.bool false :: v1 :: Value.int .i64 E1 :: Value.string (str S2) :: Value.int .i64 E2 :: Value.pointer none :: Value.int .i64 2 :: u 13 :: u 14 :: u 15 :: u 16 :: u 17 :: u 18 :: u 19 :: u 20 :: u 21 :: u 22 :: u 23 :: u 24 :: u 25 :: u 26 :: u 27 :: u 28 :: u 29 :: u 30 :: u 31 :: u 32 :: u 33 :: u 34 :: u 35 :: u 36 :: u 37 :: u 38 :: u 39 :: u 40 :: u 41 :: u 42 :: u 43 :: u 44 :: u 45 :: u 46 :: u 47 :: u 48 :: u 49 :: u 50 :: u 51 :: u 52 :: u 53 :: u 54 :: u 55 :: u 56 :: u 57 :: u 58 :: u 59 :: u 60 :: u 61 :: u 62 :: u 63 :: u 64 :: u 65 :: u 66 :: u 67 :: u 68 :: u 69 :: u 70 :: u 71 :: u 72 :: u 73 :: u 74 :: u 75 :: u 76 :: u 77 :: u 78 :: u 79 :: u 80 :: u 81 :: u 82 :: u 83 :: u 84 :: u 85 :: u 86 :: u 87 :: u 88 :: u 89 :: u 90 :: u 91 :: u 92 :: u 93 :: u 94 :: u 95 :: u 96 :: u 97 :: u 98 :: u 99 :: u 100 :: u 101 :: u 102 :: u 103 :: u 104 :: u 105 :: u 106 :: u 107 :: u 108 :: u 109 :: u 110 :: u 111 :: u 112 :: u 113 :: u 114 :: u 115 :: u 116 :: u 117 :: u 118 :: u 119 :: u 120 :: u 121 :: u 122 :: u 123 :: u 124 :: u 125 :: u 126 :: u 127 :: u 128 :: u 129 :: u 130 :: u 131 :: u 132 :: u 133 :: u 134 :: []).toArray) u, defers := [] } := by
  subst hAct; exact ex_frame _ rfl
 clear hAct
 generalize hRR : wpCH _ _ _ _ _ _ = RR
 have key : ∀ (x45 x46 x47 : Value) (g p : Nat) (w' : World), Below w2.drew.heap.size w2.drew w' → WcAt w' g p (zeros 8 32) → RR { tmps := (Value.string (str l) :: Value.slice a n c :: Value.int .i64 pad :: u 3 :: u 4 :: u 5 :: Value.bool false :: v1 :: Value.int .i64 E1 :: Value.string (str S2) :: Value.int .i64 E2 :: Value.pointer none :: Value.int .i64 2 :: Value.pointer (some ⟨g, 0, none⟩) :: Value.int .i64 0 :: u 15 :: u 16 :: u 17 :: u 18 :: u 19 :: u 20 :: u 21 :: u 22 :: u 23 :: u 24 :: u 25 :: u 26 :: u 27 :: u 28 :: u 29 :: u 30 :: u 31 :: u 32 :: u 33 :: u 34 :: u 35 :: u 36 :: u 37 :: u 38 :: u 39 :: u 40 :: u 41 :: u 42 :: u 43 :: Value.tuple #[Value.pointer (some ⟨g, 0, none⟩), Value.int .i64 0] :: x45 :: x46 :: x47 :: Value.tuple #[Value.pointer (some ⟨g, 0, none⟩), Value.int .i64 0] :: Value.pointer (some ⟨g, 0, none⟩) :: Value.int .i64 0 :: u 51 :: u 52 :: u 53 :: u 54 :: u 55 :: u 56 :: u 57 :: u 58 :: u 59 :: u 60 :: u 61 :: u 62 :: u 63 :: u 64 :: u 65 :: u 66 :: u 67 :: u 68 :: u 69 :: u 70 :: u 71 :: u 72 :: u 73 :: u 74 :: u 75 :: u 76 :: u 77 :: u 78 :: u 79 :: u 80 :: u 81 :: u 82 :: u 83 :: u 84 :: u 85 :: u 86 :: u 87 :: u 88 :: u 89 :: u 90 :: u 91 :: u 92 :: u 93 :: u 94 :: u 95 :: u 96 :: u 97 :: u 98 :: u 99 :: u 100 :: u 101 :: u 102 :: u 103 :: u 104 :: u 105 :: u 106 :: u 107 :: u 108 :: u 109 :: u 110 :: u 111 :: u 112 :: u 113 :: u 114 :: u 115 :: u 116 :: u 117 :: u 118 :: u 119 :: u 120 :: u 121 :: u 122 :: u 123 :: u 124 :: u 125 :: u 126 :: u 127 :: u 128 :: u 129 :: u 130 :: u 131 :: u 132 :: u 133 :: u 134 :: []).toArray, defers := [] } w' := by
  intro x45 x46 x47 g p w' D3 hW
  rw [← hRR]
  clear hRR
  refine c_nil (hK' _ _ ?_)
  clear hK' hCe hCb hC0
  have D4 : Below w2.heap.size w2 w' := ((Below.refl w2.heap.size w2).drew).trans D3
  have R3 := hid (R2.out.below D4)
  have T3 := hid (T2.out.below D4)
  have B3 := hid (B2.out.trans (D4.mono B2.out.size))
  have O3 := hid (fun h : E1 = 0 => (O2.out h).below D4)
  have NN := hid (nameNew_any g pad w')
  clear D3 D4 hW R2 T2 B2 O2
  go_wp2_with fail
  refine NN.out.mono ?_
  rintro e w4 ⟨v2, rfl, hv0, hv2, d4⟩
  have R4 := hid (R3.out.below d4)
  have T4 := hid (T3.out.below d4)
  have B4 := hid (B3.out.trans (d4.mono B3.out.size))
  have O4 := hid (fun h : E1 = 0 => (O3.out h).below d4)
  have RP := hid (refPad27_any pad w4)
  clear NN d4 R3 T3 B3 O3
  by_cases hk : knownN pad = 0
  ·obtain ⟨h, rfl, _⟩ := hv2 hk
   rw [hk]
   rw [decide_eq_true hk] at RP
   clear hv0 hv2
   have hpo : pad = 16 ∨ pad = 32 ∨ pad = 64 := by
    unfold knownN at hk
    split at hk
    ·assumption
    ·cases hk
   have hpd : padOk pad.toNat := by unfold padOk; omega
   have hpq : ((pad.toNat : Nat) : Int) = pad := by omega
   have PL := hid (refPlain27_any b pad.toNat a n c w4 R4.out (by omega) hpd)
   rw [hpq, ← ES2.out, ← EE2.out] at PL
   go_wp2_with fail
   refine RP.out.mono ?_
   rintro e w5 ⟨rfl, rfl⟩
   go_wp2_with fail
   refine PL.out.mono ?_
   rintro e w6 ⟨rfl, d6⟩
   have T6 := hid (T4.out.below d6)
   have B6 := hid (B4.out.trans (d6.mono B4.out.size))
   have O6 := hid (fun h : E1 = 0 => (O4.out h).below d6)
   have RR7 := hid (refRight27_any l w6 (by rw [← HM.out]; omega))
   clear d6 PL RP R4 T4 B4 O4
   by_cases hri : nrightN l
   ·rw [decide_eq_true hri] at RR7
    have e0 : E1 = 0 := by rw [EE1.out, padE, if_neg (by rw [hk]; decide), rightE, if_pos hri]
    have OO := hid (O6.out e0)
    clear O6 V1
    subst e0
    go_wp2_with fail
    refine RR7.out.mono ?_
    rintro e w7 ⟨rfl, rfl⟩
    clear RR7
    obtain ⟨X, hX⟩ : ∃ X, X = npadN l pad.toNat := ⟨_, rfl⟩
    rw [← hX] at OO
    obtain ⟨ax, cx, rfl, rx, _⟩ := OO.out.rd
    obtain ⟨nx, hnx⟩ : ∃ nx, nx = X.length := ⟨_, rfl⟩
    rw [← hnx] at rx
    rw [← hnx]
    have RX := hid rx
    have PP := hid (refPadded27_any l pad.toNat w6.drew hpd hri.1 hri.2.1)
    rw [hpq, rpadN_eq l pad.toNat hpd hri.1 hri.2.1, ← hX] at PP
    clear OO hX hnx rx EE1 ES2 EE2 hpo hpd hpq hri
    go_upto_region 19 with fail
    refine wp_region_tail [0,5,0,0,2,1,0,0,0,0,0,0,2,0,0] (by kernel_rfl) (by kernel_rfl) (fun C0 hC0 hCb K' hK' => ?_)
    have Q1 : ∀ w1, C0 w1 → (convert 22 9 (.slice ax nx cx)).run Tryz.prog w1 = .ok (.string (str X)) w1 := fun w1 hw => run_str (P := Tryz.prog) w1 22 9 5 ax nx cx X Tryz.underlying22 Tryz.underlying9 Tryz.underlying5 (RX.out.drew.below (hCb w1 hw))
    repeat
     (first
      | (with_reducible refine h_pure (v := ?_) (a' := ?_) ?_ (fun _ => ?_) ?_ ?_); rotate_left 2; (focus (exact rfl)); (focus (go_simp; (try go_bits); exact rfl))
      | (with_reducible refine h_obl (v := ?_) (a' := ?_) ?_ (fun _ hcw => ?_) ?_ ?_); rotate_left 2; (focus (exact rfl)); (focus (have f1 := Q1 _ hcw; go_simp; (try go_bits); exact rfl))
      | (with_reducible refine h_read (v := ?_) (a' := ?_) ?_ (fun _ hbw => ?_) ?_ ?_); rotate_left 2; (focus (exact rfl)); (focus (go_simp; (try go_bits); exact rfl)))
     focus (simp only [Act.put, zz1, zz2, zz3, Act.eval, zz4, zz5, zz6, zz7, zz8]; exact rfl)
    (with_reducible refine h_call ?_ ?_)
    ·exact rfl
    go_simp
    refine entersW_of ?_
    refine (PP.out).mono ?_
    rintro e w7 ⟨a7, m7, c7, rfl, hm7, r7, d7⟩
    refine ⟨_, rfl, d7, ?_⟩
    try simp only [Act.put, zz1, zz2, zz3]
    clear hm7
    have S4 : ∀ w1, Below w7.heap.size w7 w1 → (convert 22 9 (.slice a7 m7 c7)).run Tryz.prog w1 = .ok (.string (str X)) w1 := fun w1 hw => run_str (P := Tryz.prog) w1 22 9 5 a7 m7 c7 X Tryz.underlying22 Tryz.underlying9 Tryz.underlying5 (r7.below hw)
    have E7 : Below w6.heap.size w6 w7 := ((Below.refl w6.heap.size w6).drew).trans d7
    have B7 := hid (B6.out.trans (E7.mono B6.out.size))
    have T7 := hid (T6.out.below E7)
    repeat
     (first
      | (with_reducible refine h_pure (v := ?_) (a' := ?_) ?_ (fun _ => ?_) ?_ ?_); rotate_left 2; (focus (exact rfl)); (focus (go_simp; (try go_bits); exact rfl))
      | (with_reducible refine h_obl (v := ?_) (a' := ?_) ?_ (fun _ hcw => ?_) ?_ ?_); rotate_left 2; (focus (exact rfl)); (focus (have f1 := Q1 _ hcw; go_simp; (try go_bits); exact rfl))
      | (with_reducible refine h_read (v := ?_) (a' := ?_) ?_ (fun _ hbw => ?_) ?_ ?_); rotate_left 2; (focus (exact rfl)); (focus (have g1 := S4 _ hbw; go_simp; (try go_bits); exact rfl)))
     focus (simp only [Act.put, zz1, zz2, zz3, Act.eval, zz4, zz5, zz6, zz7, zz8]; exact rfl)
    (with_reducible refine h_call ?_ ?_)
    ·exact rfl
    go_simp
    refine entersW_of ?_
    refine (awake27_any w7 T7.out).mono ?_
    rintro e w8 ⟨rfl, d8⟩
    refine ⟨_, rfl, d8, ?_⟩
    try simp only [Act.put, zz1, zz2, zz3]
    repeat
     (first
      | (with_reducible refine h_pure (v := ?_) (a' := ?_) ?_ (fun _ => ?_) ?_ ?_); rotate_left 2; (focus (exact rfl)); (focus (go_simp; (try go_bits); exact rfl))
      | (with_reducible refine h_obl (v := ?_) (a' := ?_) ?_ (fun _ hcw => ?_) ?_ ?_); rotate_left 2; (focus (exact rfl)); (focus (go_simp; (try go_bits); exact rfl))
      | (with_reducible refine h_read (v := ?_) (a' := ?_) ?_ (fun _ hbw => ?_) ?_ ?_); rotate_left 2; (focus (exact rfl)); (focus (go_simp; (try go_bits); exact rfl)))
     focus (simp only [Act.put, zz1, zz2, zz3, Act.eval, zz4, zz5, zz6, zz7, zz8]; exact rfl)
    refine h_tail [] rfl (by simp) (z_nil (hK' _ _ ?_))
    have B8 := hid (B7.out.trans (d8.mono B7.out.size))
    clear Q1 S4 hC0 hCb hK' d7 d8 E7
    go_wp2
    go_ret
    exact ⟨rfl, B8.out⟩
   ·rw [decide_eq_false hri] at RR7
    have e0 : E1 = 15 := by rw [EE1.out, padE, if_neg (by rw [hk]; decide), rightE, if_neg hri]
    obtain rfl := V1.out (by rw [e0]; decide)
    subst e0
    clear O6 V1
    have AW := hid (awake27_any w6 T6.out)
    go_wp2_with fail
    refine RR7.out.mono ?_
    rintro e w7 ⟨rfl, rfl⟩
    go_wp2_with fail
    refine AW.out.mono ?_
    rintro e w8 ⟨rfl, d8⟩
    go_wp2
    go_ret
    exact ⟨rfl, B6.out.trans (d8.mono B6.out.size)⟩
  ·have hk4 : knownN pad = 4 := by
    unfold knownN at hk ⊢
    split
    ·rename_i h; rw [if_pos h] at hk; exact absurd rfl hk
    ·rfl
   obtain rfl := hv0 hk
   rw [hk4]
   rw [decide_eq_false hk] at RP
   have e1 : E1 = 4 := by rw [EE1.out, padE, if_pos hk, hk4]
   have e2 : E2 = 4 := by rw [EE2.out, plainE, if_pos hk]
   have e3 : str S2 = (⟨#[]⟩ : ByteArray) := by rw [ES2.out, plainS, if_neg (by rw [plainE, if_pos hk]; decide)]; rfl
   obtain rfl := V1.out (by rw [e1]; decide)
   rw [e3]
   subst e1
   subst e2
   have AW := hid (awake27_any w4 T4.out)
   clear O4 V1 hv0 hv2 e3
   go_wp2_with fail
   refine RP.out.mono ?_
   rintro e w7 ⟨rfl, rfl⟩
   go_wp2_with fail
   refine AW.out.mono ?_
   rintro e w8 ⟨rfl, d8⟩
   go_wp2
   go_ret
   exact ⟨rfl, B4.out.trans (d8.mono B4.out.size)⟩
 clear hRR
 have hT2 : Turning w2.drew := T2.out
 obtain ⟨T, hTT⟩ : ∃ T : Act → World → Prop, ∀ acx w', T acx w' ↔ ∃ (x45 x46 x47 : Value) (g p : Nat), Below w2.drew.heap.size w2.drew w' ∧ WcAt w' g p (zeros 8 32) ∧ acx = { tmps := (Value.string (str l) :: Value.slice a n c :: Value.int .i64 pad :: u 3 :: u 4 :: u 5 :: Value.bool false :: v1 :: Value.int .i64 E1 :: Value.string (str S2) :: Value.int .i64 E2 :: Value.pointer none :: Value.int .i64 2 :: u 13 :: u 14 :: u 15 :: u 16 :: u 17 :: u 18 :: u 19 :: u 20 :: u 21 :: u 22 :: u 23 :: u 24 :: u 25 :: u 26 :: u 27 :: u 28 :: u 29 :: u 30 :: u 31 :: u 32 :: u 33 :: u 34 :: u 35 :: u 36 :: u 37 :: u 38 :: u 39 :: u 40 :: u 41 :: u 42 :: u 43 :: u 44 :: x45 :: x46 :: x47 :: Value.tuple #[Value.pointer (some ⟨g, 0, none⟩), Value.int .i64 0] :: u 49 :: u 50 :: u 51 :: u 52 :: u 53 :: u 54 :: u 55 :: u 56 :: u 57 :: u 58 :: u 59 :: u 60 :: u 61 :: u 62 :: u 63 :: u 64 :: u 65 :: u 66 :: u 67 :: u 68 :: u 69 :: u 70 :: u 71 :: u 72 :: u 73 :: u 74 :: u 75 :: u 76 :: u 77 :: u 78 :: u 79 :: u 80 :: u 81 :: u 82 :: u 83 :: u 84 :: u 85 :: u 86 :: u 87 :: u 88 :: u 89 :: u 90 :: u 91 :: u 92 :: u 93 :: u 94 :: u 95 :: u 96 :: u 97 :: u 98 :: u 99 :: u 100 :: u 101 :: u 102 :: u 103 :: u 104 :: u 105 :: u 106 :: u 107 :: u 108 :: u 109 :: u 110 :: u 111 :: u 112 :: u 113 :: u 114 :: u 115 :: u 116 :: u 117 :: u 118 :: u 119 :: u 120 :: u 121 :: u 122 :: u 123 :: u 124 :: u 125 :: u 126 :: u 127 :: u 128 :: u 129 :: u 130 :: u 131 :: u 132 :: u 133 :: u 134 :: []).toArray, defers := [] } := ⟨_, fun _ _ => Iff.rfl⟩
 have TT := hid hTT
 clear hTT
 refine perm_nineT T ?_ ?_ ?_
 ·intro acx w' h
  obtain ⟨x45, x46, x47, g, p, D3, hW, rfl⟩ := (TT.out _ _).1 h
  clear TT h
  have K9 := hid (key x45 x46 x47 g p w' D3 hW)
  clear key D3 hW
  unfold tail9
  refine opH_of_wpH ?_
  repeat
   (first
    | (with_reducible refine h_pure (v := ?_) (a' := ?_) ?_ (fun _ => ?_) ?_ ?_); rotate_left 2; (focus (exact rfl)); (focus (go_simp; (try go_bits); exact rfl))
    | (with_reducible refine h_obl (v := ?_) (a' := ?_) ?_ (fun _ hcw => ?_) ?_ ?_); rotate_left 2; (focus (exact rfl)); (focus (go_simp; (try go_bits); exact rfl))
    | (with_reducible refine h_read (v := ?_) (a' := ?_) ?_ (fun _ hbw => ?_) ?_ ?_); rotate_left 2; (focus (exact rfl)); (focus (go_simp; (try go_bits); exact rfl)))
   focus (simp only [Act.put, zz1, zz2, zz3, Act.eval, zz4, zz5, zz6, zz7, zz8]; exact rfl)
  refine h_nil ⟨?_, ?_⟩
  ·refine opH_of_wpH ?_
   repeat
    (first
     | (with_reducible refine h_pure (v := ?_) (a' := ?_) ?_ (fun _ => ?_) ?_ ?_); rotate_left 2; (focus (exact rfl)); (focus (go_simp; (try go_bits); exact rfl))
     | (with_reducible refine h_obl (v := ?_) (a' := ?_) ?_ (fun _ hcw => ?_) ?_ ?_); rotate_left 2; (focus (exact rfl)); (focus (go_simp; (try go_bits); exact rfl))
     | (with_reducible refine h_read (v := ?_) (a' := ?_) ?_ (fun _ hbw => ?_) ?_ ?_); rotate_left 2; (focus (exact rfl)); (focus (go_simp; (try go_bits); exact rfl)))
    focus (simp only [Act.put, zz1, zz2, zz3, Act.eval, zz4, zz5, zz6, zz7, zz8]; exact rfl)
   refine h_nil ⟨?_, ?_⟩
   ·refine opH_of_wpH ?_
    repeat
     (first
      | (with_reducible refine h_pure (v := ?_) (a' := ?_) ?_ (fun _ => ?_) ?_ ?_); rotate_left 2; (focus (exact rfl)); (focus (go_simp; (try go_bits); exact rfl))
      | (with_reducible refine h_obl (v := ?_) (a' := ?_) ?_ (fun _ hcw => ?_) ?_ ?_); rotate_left 2; (focus (exact rfl)); (focus (go_simp; (try go_bits); exact rfl))
      | (with_reducible refine h_read (v := ?_) (a' := ?_) ?_ (fun _ hbw => ?_) ?_ ?_); rotate_left 2; (focus (exact rfl)); (focus (go_simp; (try go_bits); exact rfl)))
     focus (simp only [Act.put, zz1, zz2, zz3, Act.eval, zz4, zz5, zz6, zz7, zz8]; exact rfl)
    refine h_nil ⟨?_, ?_⟩
    ·refine opH_of_wpH ?_
     repeat
      (first
       | (with_reducible refine h_pure (v := ?_) (a' := ?_) ?_ (fun _ => ?_) ?_ ?_); rotate_left 2; (focus (exact rfl)); (focus (go_simp; (try go_bits); exact rfl))
       | (with_reducible refine h_obl (v := ?_) (a' := ?_) ?_ (fun _ hcw => ?_) ?_ ?_); rotate_left 2; (focus (exact rfl)); (focus (go_simp; (try go_bits); exact rfl))
       | (with_reducible refine h_read (v := ?_) (a' := ?_) ?_ (fun _ hbw => ?_) ?_ ?_); rotate_left 2; (focus (exact rfl)); (focus (go_simp; (try go_bits); exact rfl)))
      focus (simp only [Act.put, zz1, zz2, zz3, Act.eval, zz4, zz5, zz6, zz7, zz8]; exact rfl)
     refine h_nil ?_
     refine opH_of_wpH ?_
     repeat
      (first
       | (with_reducible refine h_pure (v := ?_) (a' := ?_) ?_ (fun _ => ?_) ?_ ?_); rotate_left 2; (focus (exact rfl)); (focus (go_simp; (try go_bits); exact rfl))
       | (with_reducible refine h_obl (v := ?_) (a' := ?_) ?_ (fun _ hcw => ?_) ?_ ?_); rotate_left 2; (focus (exact rfl)); (focus (go_simp; (try go_bits); exact rfl))
       | (with_reducible refine h_read (v := ?_) (a' := ?_) ?_ (fun _ hbw => ?_) ?_ ?_); rotate_left 2; (focus (exact rfl)); (focus (go_simp; (try go_bits); exact rfl)))
      focus (simp only [Act.put, zz1, zz2, zz3, Act.eval, zz4, zz5, zz6, zz7, zz8]; exact rfl)
     exact h_nil K9.out
    ·refine opH_of_wpH ?_
     repeat
      (first
       | (with_reducible refine h_pure (v := ?_) (a' := ?_) ?_ (fun _ => ?_) ?_ ?_); rotate_left 2; (focus (exact rfl)); (focus (go_simp; (try go_bits); exact rfl))
       | (with_reducible refine h_obl (v := ?_) (a' := ?_) ?_ (fun _ hcw => ?_) ?_ ?_); rotate_left 2; (focus (exact rfl)); (focus (go_simp; (try go_bits); exact rfl))
       | (with_reducible refine h_read (v := ?_) (a' := ?_) ?_ (fun _ hbw => ?_) ?_ ?_); rotate_left 2; (focus (exact rfl)); (focus (go_simp; (try go_bits); exact rfl)))
      focus (simp only [Act.put, zz1, zz2, zz3, Act.eval, zz4, zz5, zz6, zz7, zz8]; exact rfl)
     refine h_nil ?_
     refine opH_of_wpH ?_
     repeat
      (first
       | (with_reducible refine h_pure (v := ?_) (a' := ?_) ?_ (fun _ => ?_) ?_ ?_); rotate_left 2; (focus (exact rfl)); (focus (go_simp; (try go_bits); exact rfl))
       | (with_reducible refine h_obl (v := ?_) (a' := ?_) ?_ (fun _ hcw => ?_) ?_ ?_); rotate_left 2; (focus (exact rfl)); (focus (go_simp; (try go_bits); exact rfl))
       | (with_reducible refine h_read (v := ?_) (a' := ?_) ?_ (fun _ hbw => ?_) ?_ ?_); rotate_left 2; (focus (exact rfl)); (focus (go_simp; (try go_bits); exact rfl)))
      focus (simp only [Act.put, zz1, zz2, zz3, Act.eval, zz4, zz5, zz6, zz7, zz8]; exact rfl)
     exact h_nil K9.out
   ·refine opH_of_wpH ?_
    repeat
     (first
      | (with_reducible refine h_pure (v := ?_) (a' := ?_) ?_ (fun _ => ?_) ?_ ?_); rotate_left 2; (focus (exact rfl)); (focus (go_simp; (try go_bits); exact rfl))
      | (with_reducible refine h_obl (v := ?_) (a' := ?_) ?_ (fun _ hcw => ?_) ?_ ?_); rotate_left 2; (focus (exact rfl)); (focus (go_simp; (try go_bits); exact rfl))
      | (with_reducible refine h_read (v := ?_) (a' := ?_) ?_ (fun _ hbw => ?_) ?_ ?_); rotate_left 2; (focus (exact rfl)); (focus (go_simp; (try go_bits); exact rfl)))
     focus (simp only [Act.put, zz1, zz2, zz3, Act.eval, zz4, zz5, zz6, zz7, zz8]; exact rfl)
    refine h_nil ?_
    refine opH_of_wpH ?_
    repeat
     (first
      | (with_reducible refine h_pure (v := ?_) (a' := ?_) ?_ (fun _ => ?_) ?_ ?_); rotate_left 2; (focus (exact rfl)); (focus (go_simp; (try go_bits); exact rfl))
      | (with_reducible refine h_obl (v := ?_) (a' := ?_) ?_ (fun _ hcw => ?_) ?_ ?_); rotate_left 2; (focus (exact rfl)); (focus (go_simp; (try go_bits); exact rfl))
      | (with_reducible refine h_read (v := ?_) (a' := ?_) ?_ (fun _ hbw => ?_) ?_ ?_); rotate_left 2; (focus (exact rfl)); (focus (go_simp; (try go_bits); exact rfl)))
     focus (simp only [Act.put, zz1, zz2, zz3, Act.eval, zz4, zz5, zz6, zz7, zz8]; exact rfl)
    refine h_nil ?_
    refine opH_of_wpH ?_
    repeat
     (first
      | (with_reducible refine h_pure (v := ?_) (a' := ?_) ?_ (fun _ => ?_) ?_ ?_); rotate_left 2; (focus (exact rfl)); (focus (go_simp; (try go_bits); exact rfl))
      | (with_reducible refine h_obl (v := ?_) (a' := ?_) ?_ (fun _ hcw => ?_) ?_ ?_); rotate_left 2; (focus (exact rfl)); (focus (go_simp; (try go_bits); exact rfl))
      | (with_reducible refine h_read (v := ?_) (a' := ?_) ?_ (fun _ hbw => ?_) ?_ ?_); rotate_left 2; (focus (exact rfl)); (focus (go_simp; (try go_bits); exact rfl)))
     focus (simp only [Act.put, zz1, zz2, zz3, Act.eval, zz4, zz5, zz6, zz7, zz8]; exact rfl)
    exact h_nil K9.out
  ·refine opH_of_wpH ?_
   repeat
    (first
     | (with_reducible refine h_pure (v := ?_) (a' := ?_) ?_ (fun _ => ?_) ?_ ?_); rotate_left 2; (focus (exact rfl)); (focus (go_simp; (try go_bits); exact rfl))
     | (with_reducible refine h_obl (v := ?_) (a' := ?_) ?_ (fun _ hcw => ?_) ?_ ?_); rotate_left 2; (focus (exact rfl)); (focus (go_simp; (try go_bits); exact rfl))
     | (with_reducible refine h_read (v := ?_) (a' := ?_) ?_ (fun _ hbw => ?_) ?_ ?_); rotate_left 2; (focus (exact rfl)); (focus (go_simp; (try go_bits); exact rfl)))
    focus (simp only [Act.put, zz1, zz2, zz3, Act.eval, zz4, zz5, zz6, zz7, zz8]; exact rfl)
   refine h_nil ⟨?_, ?_⟩
   ·refine opH_of_wpH ?_
    repeat
     (first
      | (with_reducible refine h_pure (v := ?_) (a' := ?_) ?_ (fun _ => ?_) ?_ ?_); rotate_left 2; (focus (exact rfl)); (focus (go_simp; (try go_bits); exact rfl))
      | (with_reducible refine h_obl (v := ?_) (a' := ?_) ?_ (fun _ hcw => ?_) ?_ ?_); rotate_left 2; (focus (exact rfl)); (focus (go_simp; (try go_bits); exact rfl))
      | (with_reducible refine h_read (v := ?_) (a' := ?_) ?_ (fun _ hbw => ?_) ?_ ?_); rotate_left 2; (focus (exact rfl)); (focus (go_simp; (try go_bits); exact rfl)))
     focus (simp only [Act.put, zz1, zz2, zz3, Act.eval, zz4, zz5, zz6, zz7, zz8]; exact rfl)
    refine h_nil ⟨?_, ?_⟩
    ·refine opH_of_wpH ?_
     repeat
      (first
       | (with_reducible refine h_pure (v := ?_) (a' := ?_) ?_ (fun _ => ?_) ?_ ?_); rotate_left 2; (focus (exact rfl)); (focus (go_simp; (try go_bits); exact rfl))
       | (with_reducible refine h_obl (v := ?_) (a' := ?_) ?_ (fun _ hcw => ?_) ?_ ?_); rotate_left 2; (focus (exact rfl)); (focus (go_simp; (try go_bits); exact rfl))
       | (with_reducible refine h_read (v := ?_) (a' := ?_) ?_ (fun _ hbw => ?_) ?_ ?_); rotate_left 2; (focus (exact rfl)); (focus (go_simp; (try go_bits); exact rfl)))
      focus (simp only [Act.put, zz1, zz2, zz3, Act.eval, zz4, zz5, zz6, zz7, zz8]; exact rfl)
     refine h_nil ?_
     refine opH_of_wpH ?_
     repeat
      (first
       | (with_reducible refine h_pure (v := ?_) (a' := ?_) ?_ (fun _ => ?_) ?_ ?_); rotate_left 2; (focus (exact rfl)); (focus (go_simp; (try go_bits); exact rfl))
       | (with_reducible refine h_obl (v := ?_) (a' := ?_) ?_ (fun _ hcw => ?_) ?_ ?_); rotate_left 2; (focus (exact rfl)); (focus (go_simp; (try go_bits); exact rfl))
       | (with_reducible refine h_read (v := ?_) (a' := ?_) ?_ (fun _ hbw => ?_) ?_ ?_); rotate_left 2; (focus (exact rfl)); (focus (go_simp; (try go_bits); exact rfl)))
      focus (simp only [Act.put, zz1, zz2, zz3, Act.eval, zz4, zz5, zz6, zz7, zz8]; exact rfl)
     exact h_nil K9.out
    ·refine opH_of_wpH ?_
     repeat
      (first
       | (with_reducible refine h_pure (v := ?_) (a' := ?_) ?_ (fun _ => ?_) ?_ ?_); rotate_left 2; (focus (exact rfl)); (focus (go_simp; (try go_bits); exact rfl))
       | (with_reducible refine h_obl (v := ?_) (a' := ?_) ?_ (fun _ hcw => ?_) ?_ ?_); rotate_left 2; (focus (exact rfl)); (focus (go_simp; (try go_bits); exact rfl))
       | (with_reducible refine h_read (v := ?_) (a' := ?_) ?_ (fun _ hbw => ?_) ?_ ?_); rotate_left 2; (focus (exact rfl)); (focus (go_simp; (try go_bits); exact rfl)))
      focus (simp only [Act.put, zz1, zz2, zz3, Act.eval, zz4, zz5, zz6, zz7, zz8]; exact rfl)
     refine h_nil ?_
     refine opH_of_wpH ?_
     repeat
      (first
       | (with_reducible refine h_pure (v := ?_) (a' := ?_) ?_ (fun _ => ?_) ?_ ?_); rotate_left 2; (focus (exact rfl)); (focus (go_simp; (try go_bits); exact rfl))
       | (with_reducible refine h_obl (v := ?_) (a' := ?_) ?_ (fun _ hcw => ?_) ?_ ?_); rotate_left 2; (focus (exact rfl)); (focus (go_simp; (try go_bits); exact rfl))
       | (with_reducible refine h_read (v := ?_) (a' := ?_) ?_ (fun _ hbw => ?_) ?_ ?_); rotate_left 2; (focus (exact rfl)); (focus (go_simp; (try go_bits); exact rfl)))
      focus (simp only [Act.put, zz1, zz2, zz3, Act.eval, zz4, zz5, zz6, zz7, zz8]; exact rfl)
     exact h_nil K9.out
   ·refine opH_of_wpH ?_
    repeat
     (first
      | (with_reducible refine h_pure (v := ?_) (a' := ?_) ?_ (fun _ => ?_) ?_ ?_); rotate_left 2; (focus (exact rfl)); (focus (go_simp; (try go_bits); exact rfl))
      | (with_reducible refine h_obl (v := ?_) (a' := ?_) ?_ (fun _ hcw => ?_) ?_ ?_); rotate_left 2; (focus (exact rfl)); (focus (go_simp; (try go_bits); exact rfl))
      | (with_reducible refine h_read (v := ?_) (a' := ?_) ?_ (fun _ hbw => ?_) ?_ ?_); rotate_left 2; (focus (exact rfl)); (focus (go_simp; (try go_bits); exact rfl)))
     focus (simp only [Act.put, zz1, zz2, zz3, Act.eval, zz4, zz5, zz6, zz7, zz8]; exact rfl)
    refine h_nil ?_
    refine opH_of_wpH ?_
    repeat
     (first
      | (with_reducible refine h_pure (v := ?_) (a' := ?_) ?_ (fun _ => ?_) ?_ ?_); rotate_left 2; (focus (exact rfl)); (focus (go_simp; (try go_bits); exact rfl))
      | (with_reducible refine h_obl (v := ?_) (a' := ?_) ?_ (fun _ hcw => ?_) ?_ ?_); rotate_left 2; (focus (exact rfl)); (focus (go_simp; (try go_bits); exact rfl))
      | (with_reducible refine h_read (v := ?_) (a' := ?_) ?_ (fun _ hbw => ?_) ?_ ?_); rotate_left 2; (focus (exact rfl)); (focus (go_simp; (try go_bits); exact rfl)))
     focus (simp only [Act.put, zz1, zz2, zz3, Act.eval, zz4, zz5, zz6, zz7, zz8]; exact rfl)
    refine h_nil ?_
    refine opH_of_wpH ?_
    repeat
     (first
      | (with_reducible refine h_pure (v := ?_) (a' := ?_) ?_ (fun _ => ?_) ?_ ?_); rotate_left 2; (focus (exact rfl)); (focus (go_simp; (try go_bits); exact rfl))
      | (with_reducible refine h_obl (v := ?_) (a' := ?_) ?_ (fun _ hcw => ?_) ?_ ?_); rotate_left 2; (focus (exact rfl)); (focus (go_simp; (try go_bits); exact rfl))
      | (with_reducible refine h_read (v := ?_) (a' := ?_) ?_ (fun _ hbw => ?_) ?_ ?_); rotate_left 2; (focus (exact rfl)); (focus (go_simp; (try go_bits); exact rfl)))
     focus (simp only [Act.put, zz1, zz2, zz3, Act.eval, zz4, zz5, zz6, zz7, zz8]; exact rfl)
    exact h_nil K9.out
 ·refine opH_of_wpH ?_
  (with_reducible refine h_call ?_ ?_)
  ·exact rfl
  go_simp
  refine entersW_of ?_
  refine (gfmake_any w2.drew).mono ?_
  rintro e wa ⟨q1, rfl, hq1, _, d1⟩
  refine ⟨_, rfl, d1, ?_⟩
  try simp only [Act.put, zz1, zz2, zz3]
  refine h_nil ⟨?_, ?_⟩
  ·refine opH_of_wpH ?_
   (with_reducible refine h_call ?_ ?_)
   ·exact rfl
   go_simp
   refine entersW_of ?_
   refine (new_any q1 wa (hT2.below d1) hq1).mono ?_
   rintro e wb ⟨p, rfl, hp, _, d2⟩
   refine ⟨_, rfl, d2, ?_⟩
   try simp only [Act.put, zz1, zz2, zz3]
   have ht : TabAt wb p := ⟨q1, hp, hq1.belowAll d2⟩
   have d12 := d1.trans (d2.mono d1.size)
   refine h_nil (opH_of_wpH ?_)
   refine h_make8 (n := 32) rfl rfl (by omega) Tryz.underlying22 info8 (fun wc ad r3 d3 => ?_)
   simp only [Act.put, zz1, zz2, zz3]
   refine h_nil (opH_of_wpH ?_)
   have d13 := d12.trans (d3.mono d12.size)
   (with_reducible refine h_call ?_ ?_)
   ·exact rfl
   go_simp
   refine entersW_of ?_
   refine (wideNew_any p (zeros 8 32) ad 32 wc (ht.below d3) r3).mono ?_
   rintro e wd ⟨g, rfl, hw3, d4⟩
   refine ⟨_, rfl, d4, ?_⟩
   try simp only [Act.put, zz1, zz2, zz3]
   exact h_nil ((TT.out _ _).2 ⟨_, _, _, g, p, d13.trans (d4.mono d13.size), hw3, rfl⟩)
  ·refine opH_of_wpH ?_
   refine h_make8 (n := 32) rfl rfl (by omega) Tryz.underlying22 info8 (fun wc ad r3 d3 => ?_)
   simp only [Act.put, zz1, zz2, zz3]
   refine h_nil (opH_of_wpH ?_)
   have d12 := d1.trans (d3.mono d1.size)
   (with_reducible refine h_call ?_ ?_)
   ·exact rfl
   go_simp
   refine entersW_of ?_
   refine (new_any q1 wc (hT2.below d12) (hq1.belowAll d3)).mono ?_
   rintro e wb ⟨p, rfl, hp, _, d2⟩
   refine ⟨_, rfl, d2, ?_⟩
   try simp only [Act.put, zz1, zz2, zz3]
   have ht : TabAt wb p := ⟨q1, hp, (hq1.belowAll d3).belowAll d2⟩
   have d13 := d12.trans (d2.mono d12.size)
   refine h_nil (opH_of_wpH ?_)
   (with_reducible refine h_call ?_ ?_)
   ·exact rfl
   go_simp
   refine entersW_of ?_
   refine (wideNew_any p (zeros 8 32) ad 32 wb ht (r3.below d2)).mono ?_
   rintro e wd ⟨g, rfl, hw3, d4⟩
   refine ⟨_, rfl, d4, ?_⟩
   try simp only [Act.put, zz1, zz2, zz3]
   exact h_nil ((TT.out _ _).2 ⟨_, _, _, g, p, d13.trans (d4.mono d13.size), hw3, rfl⟩)
 ·refine opH_of_wpH ?_
  refine h_make8 (n := 32) rfl rfl (by omega) Tryz.underlying22 info8 (fun wc ad r3 d3 => ?_)
  simp only [Act.put, zz1, zz2, zz3]
  refine h_nil (opH_of_wpH ?_)
  (with_reducible refine h_call ?_ ?_)
  ·exact rfl
  go_simp
  refine entersW_of ?_
  refine (gfmake_any wc).mono ?_
  rintro e wa ⟨q1, rfl, hq1, _, d1⟩
  refine ⟨_, rfl, d1, ?_⟩
  try simp only [Act.put, zz1, zz2, zz3]
  have d12 := d3.trans (d1.mono d3.size)
  refine h_nil (opH_of_wpH ?_)
  (with_reducible refine h_call ?_ ?_)
  ·exact rfl
  go_simp
  refine entersW_of ?_
  refine (new_any q1 wa (hT2.below d12) hq1).mono ?_
  rintro e wb ⟨p, rfl, hp, _, d2⟩
  refine ⟨_, rfl, d2, ?_⟩
  try simp only [Act.put, zz1, zz2, zz3]
  have ht : TabAt wb p := ⟨q1, hp, hq1.belowAll d2⟩
  have d13 := d12.trans (d2.mono d12.size)
  refine h_nil (opH_of_wpH ?_)
  (with_reducible refine h_call ?_ ?_)
  ·exact rfl
  go_simp
  refine entersW_of ?_
  refine (wideNew_any p (zeros 8 32) ad 32 wb ht ((r3.below d1).below d2)).mono ?_
  rintro e wd ⟨g, rfl, hw3, d4⟩
  refine ⟨_, rfl, d4, ?_⟩
  try simp only [Act.put, zz1, zz2, zz3]
  exact h_nil ((TT.out _ _).2 ⟨_, _, _, g, p, d13.trans (d4.mono d13.size), hw3, rfl⟩)
end Go.Proofs.YtpifdkkhdgbcdaaGreatDoor
