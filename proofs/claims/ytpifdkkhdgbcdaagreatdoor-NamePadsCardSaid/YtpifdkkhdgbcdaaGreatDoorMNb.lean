/- name: turned, Encrypt (over adiantum) -/
import Derived.Test.YtpifdkkhdgbcdaaGreatDoorMNm5
import Derived.Test.YtpifdkkhdgbcdaaGreatDoorMNc
import Derived.Test.YtpifdkkhdgbcdaaGreatDoorMHj
import Derived.Test.YtpifdkkhdgbcdaaGreatDoorMGe
import Derived.Test.YtpifdkkhdgbcdaaGreatDoorMHd
namespace Go.Proofs.YtpifdkkhdgbcdaaGreatDoor
open Lib (hid)
set_option linter.unusedSimpArgs false
set_option maxRecDepth 100000
set_option maxHeartbeats 1600000
open Go.RowKit
def NmAt (w : World) (h p : Nat) (key : List (BitVec 8)) (pad : Int) : Prop := ∃ g, Blk w h 52 (NC g pad) ∧ WcAt w g p key
theorem NmAt.below {w w' : World} {h p : Nat} {key : List (BitVec 8)} {pad : Int} (k : NmAt w h p key pad) (hb : Below w.heap.size w w') : NmAt w' h p key pad := by
 obtain ⟨g, h1, h2⟩ := k
 exact ⟨g, h1.belowAll hb, h2.below hb⟩
theorem nturned_any (g p : Nat) (key M : List (BitVec 8)) (x : BitVec 64) (b : Option Addr) (len d : Nat) (w : World) (hA : WcAt w g p key) (hkl : key.length = 32) (hM : Rd8 w b len d M) (h16 : 16 ≤ len) (hlen : len ≤ 520) :
  Calls Tryz.prog 36 #[.func (.func 37) #[.pointer (some ⟨g, 0, none⟩)] #[], v64 x, .slice b len d] w fun e w' => ∃ v, e = .returned (.tuple #[v, .int .i64 0]) ∧ Own8 w' w.heap.size 5 v (encA key (le64 x) M) ∧ Below w.heap.size w w' := by
 have A0 := hid hA
 have M0 := hid hM
 clear hA hM
 go_enter Tryz.func36, Tryz.ntmps36
 go_wp2_with fail
 refine (putlong_any x w).mono ?_
 rintro e w1 ⟨rfl, d1⟩
 obtain ⟨L, hL⟩ : ∃ L, L = le64 x := ⟨_, rfl⟩
 have hLl : L.length = 8 := by rw [hL]; rfl
 rw [← hL]
 have HL := hid hL
 clear hL
 have q1 := (Blk.new w1 117 (A8 (zeros 8 8))).row
 have q3 := (Blk.new w1 117 (A8 (zeros 8 8))).whole
 obtain ⟨w2, hw2⟩ : ∃ z, w1.alloc (.cells (A8 L) 117) = z := ⟨_, rfl⟩
 obtain ⟨n2, d2, z2⟩ := new1 _ _ _ _ hw2
 obtain ⟨g1, hg1⟩ : ∃ z, w1.heap.size = z := ⟨_, rfl⟩
 have d12 := d1.trans (d2.mono d1.size)
 have n4 := n2.rd8 8 (by omega) (by rw [hLl]; unfold maxLen; omega)
 rw [List.take_of_length_le (by omega), hLl] at n4
 rw [hg1] at n4
 have A2 := hid (A0.out.below d12)
 have M2 := hid (M0.out.below d12)
 have L2 := hid n4
 have D2 := hid d12
 have HG := hid hg1
 clear d1 n2 d2 z2 d12 n4 A0 M0
 go_wp2_with fail
 have hwe := wideEnc_any g p key L M (some ⟨g1, 0, none⟩) b 8 8 len d w2 A2.out hkl L2.out M2.out h16 hlen
 have WE := hid hwe
 clear hwe q1 q3
 refine WE.out.mono ?_
 rintro e w3 ⟨v3, rfl, o3, d3⟩
 rw [HL.out] at o3
 have O3 := hid (o3.base D2.out.size)
 have D3 := hid (D2.out.trans (d3.mono D2.out.size))
 clear o3 d3
 go_wp2
 go_ret2
 exact ⟨_, rfl, O3.out, D3.out⟩
theorem nencrypt_any (h p q : Nat) (key l : List (BitVec 8)) (x : BitVec 64) (w : World) (hN : NmAt w h p key (q : Int)) (hkl : key.length = 32) (hq : padOk q) (hl : nrightN l) :
  Calls Tryz.prog 27 #[.pointer (some ⟨h, 0, none⟩), v64 x, .string (str l)] w fun e w' => e = .returned (.tuple #[.string (str (enc (encA key (le64 x) (npadN l q)))), .int .i64 0]) ∧ Below w.heap.size w w' := by
 obtain ⟨g, hb, hw⟩ := hN
 have c0 : w.cell? ⟨h, 0, none⟩ = some (.pointer (some ⟨g, 0, none⟩)) := by rw [hb.cell]; rfl
 have c1 : w.cell? ⟨h, 1, none⟩ = some (.int .i64 (q : Int)) := by rw [hb.cell]; rfl
 have hpd := npadded_any l (q : Int) w (by have := hl.2.1; omega)
 have hE : padE l (q : Int) = 0 := by
  have hk : knownN (q : Int) = 0 := by unfold knownN padOk at *; rw [if_pos (by omega)]
  rw [padE, hk, if_neg (by simp), rightE, if_pos hl]
 rw [hE, Int.toNat_natCast] at hpd
 have hml := npadN_length l q hq hl.2.1
 have hm16 : 16 ≤ nroomN l.length q ∧ nroomN l.length q ≤ 255 := by
  have := hl.1
  unfold nroomN
  rcases hq with rfl | rfl | rfl <;> omega
 obtain ⟨M, hM⟩ : ∃ M, M = npadN l q := ⟨_, rfl⟩
 obtain ⟨m, hm⟩ : ∃ m, m = nroomN l.length q := ⟨_, rfl⟩
 rw [← hM] at hpd hml ⊢
 rw [← hm] at hml hm16
 have PD := hid hpd
 have B0 := hid hb
 have W0 := hid hw
 clear hb hw hpd hE hM hm
 go_enter Tryz.func27, Tryz.ntmps27
 go_wp2_with fail
 refine PD.out.mono ?_
 rintro e w1 ⟨v1, rfl, _, ho, d1⟩
 have o1 := ho trivial
 obtain ⟨a1, s1, rfl, r1, _⟩ := o1.rd
 rw [hml] at r1 ⊢
 have c2 : w1.cell? ⟨h, 0, none⟩ = some (.pointer (some ⟨g, 0, none⟩)) := by rw [(B0.out.belowAll d1).cell]; rfl
 have hnt := nturned_any g p key M x a1 m s1 w1 (W0.out.below d1) hkl r1 hm16.1 (by omega)
 have NT := hid hnt
 have D1 := hid d1
 clear ho o1 r1 d1 hnt c0 c1
 go_wp2_with fail
 refine NT.out.mono ?_
 rintro e w2 ⟨v2, rfl, o2, d2⟩
 obtain ⟨E, hEq⟩ : ∃ E, E = encA key (le64 x) M := ⟨_, rfl⟩
 have hEl : E.length = m := by rw [hEq, encA_length _ _ _ (by omega), hml]
 rw [← hEq] at o2
 obtain ⟨a2, s2, rfl, r2, _⟩ := o2.rd
 rw [hEl] at r2 ⊢
 have hsx := sixEncode_any E a2 m s2 w2 r2 (by omega)
 have SX := hid hsx
 have HE := hid hEq
 have D2 := hid (D1.out.trans (d2.mono D1.out.size))
 clear o2 r2 d2 hsx hEq c2
 go_wp2_with fail
 refine SX.out.mono ?_
 rintro e w3 ⟨rfl, d3⟩
 have D3 := hid (D2.out.trans (d3.mono D2.out.size))
 clear d3
 go_wp2
 go_ret2
 rw [← HE.out]
 exact ⟨rfl, D3.out⟩
open Go.RowKit
theorem enc_len : ∀ l : List (BitVec 8), (enc l).length = l.length / 3 * 4 + (if l.length % 3 = 0 then 0 else l.length % 3 + 1)
 | [] => rfl
 | [a] => by show (sigs _ _).length = _; rw [sigs_length]; simp
 | [a, b] => by show (sigs _ _).length = _; rw [sigs_length]; simp
 | x :: y :: z :: r => by
  have ih := enc_len r
  simp only [enc, List.length_append, sigs_length, ih, List.length_cons]
  have e1 : (r.length + 1 + 1 + 1) / 3 = r.length / 3 + 1 := by omega
  have e2 : (r.length + 1 + 1 + 1) % 3 = r.length % 3 := by omega
  rw [e1, e2]
  split <;> omega
def TC (a : Option Addr) (c : Nat) (pad : Int) (f s : Value) : Array Value := #[.int .i64 1, .slice a 32 c, .int .i64 pad, f, s]
theorem names27_any (a : Option Addr) (c q : Nat) (f s : Value) (key : List (BitVec 8)) (w : World) (hT : Turning w) (hr : Rd8 w a 32 c key) (hq : padOk q) :
  Calls Tryz.prog 26 #[.agg (TC a c (q : Int) f s)] w fun e w' => ∃ h p, e = .returned (.tuple #[.pointer (some ⟨h, 0, none⟩), .bool true]) ∧ NmAt w' h p key (q : Int) ∧ Below w.heap.size w w' := by
 obtain ⟨T, hTT⟩ : ∃ T, T = TC a c (q : Int) f s := ⟨_, rfl⟩
 rw [← hTT]
 have s0 : T.size = 5 := by rw [hTT]; rfl
 obtain ⟨W, hW⟩ : ∃ W, w.alloc (.cells T 75) = W := ⟨_, rfl⟩
 obtain ⟨b0, hb, hz⟩ := new1 _ _ _ _ hW
 have t0 : T[0]? = some (.int .i64 1) := by rw [hTT]; rfl
 have t1 : T[1]? = some (.slice a 32 c) := by rw [hTT]; rfl
 have t2 : T[2]? = some (.int .i64 (q : Int)) := by rw [hTT]; rfl
 have P0 := hid b0
 have B0 := hid hb
 have T0 := hid (hT.below hb)
 have R0 := hid (hr.below hb)
 have C0_ := hid t0
 have C1 := hid t1
 have C2 := hid t2
 clear b0 hb hz hT hr hTT t0 t1 t2
 go_enter Tryz.func26, Tryz.ntmps26
 go_upto_region 1 with fail
 try rw [hW]
 clear hW
 refine wp_region_tail [2,2,0,5,0,5,2,0,0,0,0,0] (by kernel_rfl) (by kernel_rfl) (fun C0 hC0 hCb K' hK' => ?_)
 have Q1 : ∀ w1, C0 w1 → w1.cell? ⟨w.heap.size, 0, none⟩ = some (.int .i64 1) := fun w1 hw => by rw [(P0.out.drew.belowAll (hCb w1 hw)).cell]; exact C0_.out
 have Q2 : ∀ w1, C0 w1 → w1.cell? ⟨w.heap.size, 1, none⟩ = some (.slice a 32 c) := fun w1 hw => by rw [(P0.out.drew.belowAll (hCb w1 hw)).cell]; exact C1.out
 (with_reducible refine h_call ?_ ?_)
 ·exact rfl
 go_simp
 refine entersW_of ?_
 refine (gfmake_any W.drew).mono ?_
 rintro e w1 ⟨q1, rfl, hq1, _, d1⟩
 refine ⟨_, rfl, d1, ?_⟩
 try simp only [Act.put, zz1, zz2, zz3]
 (with_reducible refine h_call ?_ ?_)
 ·exact rfl
 go_simp
 refine entersW_of ?_
 refine (new_any q1 w1 ((show Turning W.drew from T0.out).below d1) hq1).mono ?_
 rintro e w2 ⟨p, rfl, hp, _, d2⟩
 refine ⟨_, rfl, d2, ?_⟩
 try simp only [Act.put, zz1, zz2, zz3]
 have ht : TabAt w2 p := ⟨q1, hp, hq1.belowAll d2⟩
 have d12 := d1.trans (d2.mono d1.size)
 repeat
  (first
   | (with_reducible refine h_pure (v := ?_) (a' := ?_) ?_ (fun _ => ?_) ?_ ?_); rotate_left 2; (focus (exact rfl)); (focus (go_simp; (try go_bits); exact rfl))
   | (with_reducible refine h_obl (v := ?_) (a' := ?_) ?_ (fun _ hcw => ?_) ?_ ?_); rotate_left 2; (focus (exact rfl)); (focus (have f1 := Q1 _ hcw; have f2 := Q2 _ hcw; go_simp; (try go_bits); exact rfl))
   | (with_reducible refine h_read (v := ?_) (a' := ?_) ?_ (fun _ hbw => ?_) ?_ ?_); rotate_left 2; (focus (exact rfl)); (focus (go_simp; (try go_bits); exact rfl)))
  focus (simp only [Act.put, zz1, zz2, zz3, Act.eval, zz4, zz5, zz6, zz7, zz8]; exact rfl)
 (with_reducible refine h_call ?_ ?_)
 ·exact rfl
 go_simp
 refine entersW_of ?_
 refine (wideNew_any p key a c w2 ht (R0.out.drew.below d12)).mono ?_
 rintro e w3 ⟨g, rfl, hw3, d3⟩
 refine ⟨_, rfl, d3, ?_⟩
 try simp only [Act.put, zz1, zz2, zz3]
 repeat
  (first
   | (with_reducible refine h_pure (v := ?_) (a' := ?_) ?_ (fun _ => ?_) ?_ ?_); rotate_left 2; (focus (exact rfl)); (focus (go_simp; (try go_bits); exact rfl))
   | (with_reducible refine h_obl (v := ?_) (a' := ?_) ?_ (fun _ hcw => ?_) ?_ ?_); rotate_left 2; (focus (exact rfl)); (focus (go_simp; (try go_bits); exact rfl))
   | (with_reducible refine h_read (v := ?_) (a' := ?_) ?_ (fun _ hbw => ?_) ?_ ?_); rotate_left 2; (focus (exact rfl)); (focus (go_simp; (try go_bits); exact rfl)))
  focus (simp only [Act.put, zz1, zz2, zz3, Act.eval, zz4, zz5, zz6, zz7, zz8]; exact rfl)
 refine h_tail [] rfl (by simp) (z_nil (hK' _ _ ?_))
 have d13 := d12.trans (d3.mono d12.size)
 have W3 := hid hw3
 have P3 := hid (P0.out.drew.belowAll d13)
 have B3 := hid (B0.out.drew.trans (d13.mono B0.out.drew.size))
 have hk : knownN (q : Int) = 0 := by unfold knownN padOk at *; rw [if_pos (by omega)]
 have hnn := nameNew_any g (q : Int) w3
 rw [hk] at hnn
 have NN := hid hnn
 have c2 : w3.cell? ⟨w.heap.size, 2, none⟩ = some (.int .i64 (q : Int)) := by rw [P3.out.cell]; exact C2.out
 clear Q1 Q2 hC0 hCb hK' hq1 d1 hp d2 ht d12 hw3 d3 d13 hnn hk P0 B0 T0 R0
 go_wp2_with fail
 refine NN.out.mono ?_
 rintro e w4 ⟨v4, rfl, _, h4, d4⟩
 obtain ⟨h, rfl, hn⟩ := h4 trivial
 have N4 := hid (show NmAt w4 h p key (q : Int) from ⟨g, hn, W3.out.below d4⟩)
 have B4 := hid (B3.out.trans (d4.mono B3.out.size))
 clear h4 hn d4 c2
 go_wp2
 go_ret2
 exact ⟨h, p, rfl, N4.out, B4.out⟩
open Go.RowKit
theorem buildTC (a : Option Addr) (c : Nat) (w : World) : (buildB3 75 (.int .i64 1) (.slice a 32 c) (.int .i64 16)).run Tryz.prog w = .ok (.agg (TC a c 16 (.int .u64 0) (.string ⟨#[]⟩))) w := by kernel_rfl
theorem plainE_zeros : plainE (zeros 8 16) 16 = 14 := by decide
theorem awake27_any (w : World) (hT : Turning w) :
  Calls Tryz.prog 12 #[] w fun e w' => e = .returned (.bool true) ∧ Below w.heap.size w w' := by
 have hm32 := fun w1 : World => run_make8 (P := Tryz.prog) w1 22 5 32 32 Tryz.underlying22 info8 (by omega) (Int.le_refl _) (by omega)
 have e32 : (32 : Int).toNat = 32 := rfl
 rw [e32] at hm32
 obtain ⟨W, hW⟩ : ∃ W, w.alloc (.cells (A8 (zeros 8 32)) 5) = W := ⟨_, rfl⟩
 obtain ⟨b0, hb, hz⟩ := new1 _ _ _ _ hW
 have k0 := b0.rd8 32 (by rw [zeros_length]; omega) (by rw [zeros_length]; unfold maxLen; omega)
 rw [List.take_of_length_le (by rw [zeros_length]; omega), zeros_length] at k0
 have K0 := hid k0
 have T0 := hid (hT.below hb)
 have B0 := hid hb
 have hbt := buildTC (some ⟨w.heap.size, 0, none⟩) 32
 have hnm := names27_any (some ⟨w.heap.size, 0, none⟩) 32 16 (.int .u64 0) (.string ⟨#[]⟩) (zeros 8 32) W T0.out K0.out (.inl rfl)
 have NM := hid hnm
 clear b0 hb hz k0 hT hnm e32
 go_enter Tryz.func12, Tryz.ntmps12
 go_wp2_with fail
 refine NM.out.mono ?_
 rintro e w1 ⟨h, p, rfl, hn, d1⟩
 have hne := nencrypt_any h p 16 (zeros 8 32) [97#8] 1#64 w1 hn (by rw [zeros_length]) (.inl rfl) (by decide)
 obtain ⟨X, hX⟩ : ∃ X, X = enc (encA (zeros 8 32) (le64 1#64) (npadN [97#8] 16)) := ⟨_, rfl⟩
 have hXl : X.length = 22 := by
  rw [hX, enc_len, encA_length _ _ _ (by rw [npadN_length _ _ (.inl rfl) (by decide)]; decide), npadN_length _ _ (.inl rfl) (by decide)]
  rfl
 rw [← hX] at hne
 have NE := hid hne
 have T1 := hid (T0.out.below d1)
 have B1 := hid (B0.out.trans (d1.mono B0.out.size))
 have hss : (str X).size = 22 := by rw [str_size, hXl]
 clear hm32 hbt hn d1 hne hX hXl hW
 go_wp2_with fail
 refine NE.out.mono ?_
 rintro e w2 ⟨rfl, d2⟩
 have B2 := hid (B1.out.trans (d2.mono B1.out.size))
 have hm16 := fun w1 : World => run_make8 (P := Tryz.prog) w1 22 5 16 16 Tryz.underlying22 info8 (by omega) (Int.le_refl _) (by omega)
 have e16 : (16 : Int).toNat = 16 := rfl
 rw [e16] at hm16
 obtain ⟨W3, hW3⟩ : ∃ W, w2.alloc (.cells (A8 (zeros 8 16)) 5) = W := ⟨_, rfl⟩
 obtain ⟨b3, hb3, hz3⟩ := new1 _ _ _ _ hW3
 have k3 := b3.rd8 16 (by rw [zeros_length]; omega) (by rw [zeros_length]; unfold maxLen; omega)
 rw [List.take_of_length_le (by rw [zeros_length]; omega), zeros_length] at k3
 have hpl := nplain_any (zeros 8 16) 16 (some ⟨w2.heap.size, 0, none⟩) 16 16 W3 k3 (by omega)
 rw [plainE_zeros, show plainS (zeros 8 16) 16 = [] from by decide] at hpl
 have PL := hid hpl
 have B3 := hid (B2.out.trans (hb3.mono B2.out.size))
 clear d2 b3 hb3 hz3 k3 hpl e16
 go_wp2_with fail
 refine PL.out.mono ?_
 rintro e w4 ⟨rfl, d4⟩
 have B4 := hid (B3.out.trans (d4.mono B3.out.size))
 have hpd := npadded_any [97#8] 16 w4 (by decide)
 have PD := hid hpd
 clear d4 hpd hm16 hW3
 go_wp2_with fail
 refine PD.out.mono ?_
 rintro e w5 ⟨v5, rfl, _, h5, d5⟩
 have o5 := h5 (by decide)
 obtain ⟨a5, c5, rfl, _, _⟩ := o5.rd
 rw [show (npadN [97#8] (16 : Int).toNat).length = 16 from by decide, show padE [97#8] 16 = 0 from by decide]
 have B5 := hid (B4.out.trans (d5.mono B4.out.size))
 clear h5 o5 d5
 go_wp2
 go_ret
 exact ⟨rfl, B5.out⟩
end Go.Proofs.YtpifdkkhdgbcdaaGreatDoor
