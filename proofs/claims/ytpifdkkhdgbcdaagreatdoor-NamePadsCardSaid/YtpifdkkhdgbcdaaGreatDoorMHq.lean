/- prime: Times -/
import Derived.Test.YtpifdkkhdgbcdaaGreatDoorMHp
import Derived.Test.YtpifdkkhdgbcdaaGreatDoorMHk
import Derived.Test.YtpifdkkhdgbcdaaGreatDoorMGw
import Derived.Test.YtpifdkkhdgbcdaaGreatDoorMWd3
namespace Go.Proofs.YtpifdkkhdgbcdaaGreatDoor
open Lib (hid)
set_option linter.unusedSimpArgs false
set_option maxRecDepth 100000
set_option maxHeartbeats 1600000
open Go.RowKit
theorem nth_to32 (l : List (BitVec 64)) (i : Nat) (h : i < l.length) : nth (to32 l) i = (nth l i).setWidth 32 := by
 unfold to32 nth
 simp [List.getD_eq_getElem?_getD, h]
theorem tidyL_small (x : List (BitVec 64)) (hw : ∀ i, i < 5 → pn x i < 2 ^ 60) : small5 (to64 (tidyL x)) := fun i hi => by
 have h := tidyW_small x hw i hi
 unfold pn at h
 rw [pn_to64, tidyL, nth_to32 _ _ (by rw [tidyW_length]; exact hi), BitVec.toNat_setWidth]
 omega
theorem formN_small (x : List (BitVec 32)) : small5 (to64 (formN x)) := tidyL_small _ fun i _ => Nat.lt_of_lt_of_le (to64_lt x i) (by decide)
def pX (a b : List (BitVec 64)) (i j : Nat) : BitVec 64 := if 5 ≤ i + j then nth a i * nth b j * 5#64 else nth a i * nth b j
def prodTo (a b : List (BitVec 64)) : Nat → List (BitVec 64)
 | 0 => zeros 64 5
 | t + 1 => (prodTo a b t).set ((t / 5 + t % 5) % 5) (nth (prodTo a b t) ((t / 5 + t % 5) % 5) + pX a b (t / 5) (t % 5))
theorem prodTo_length (a b : List (BitVec 64)) : ∀ t, (prodTo a b t).length = 5
 | 0 => rfl
 | t + 1 => by rw [prodTo, List.length_set]; exact prodTo_length a b t
theorem pX_lt (a b : List (BitVec 64)) (ha : small5 a) (hb : small5 b) (i j : Nat) (hi : i < 5) (hj : j < 5) : (pX a b i j).toNat < 36028797018963968 := by
 have h1 := ha i hi
 have h2 := hb j hj
 unfold pn at h1 h2
 have h3 : (nth a i).toNat * (nth b j).toNat ≤ 67108863 * 67108863 := Nat.mul_le_mul (by omega) (by omega)
 have h4 : (nth a i * nth b j).toNat = (nth a i).toNat * (nth b j).toNat := by rw [BitVec.toNat_mul]; omega
 unfold pX
 split
 ·rw [BitVec.toNat_mul, h4, show (5#64).toNat = 5 from rfl]
  generalize (nth a i).toNat * (nth b j).toNat = g at h3 ⊢
  rw [Nat.mod_eq_of_lt (by omega)]
  omega
 ·rw [h4]
  generalize (nth a i).toNat * (nth b j).toNat = g at h3 ⊢
  omega
theorem prodTo_lt (a b : List (BitVec 64)) (ha : small5 a) (hb : small5 b) : ∀ t, t ≤ 25 → ∀ i, i < 5 → pn (prodTo a b t) i ≤ t * 36028797018963968
 | 0, _, i, _ => by
  show (nth (zeros 64 5) i).toNat ≤ _
  rw [nth_zeros]; exact Nat.zero_le _
 | t + 1, ht, i, hi => by
  have h1 := prodTo_lt a b ha hb t (by omega) i hi
  have h2 := pX_lt a b ha hb (t / 5) (t % 5) (by omega) (by omega)
  unfold pn at h1 ⊢
  rw [prodTo, nth_set _ _ _ _ (by rw [prodTo_length]; omega)]
  by_cases e : (t / 5 + t % 5) % 5 = i
  ·rw [if_pos e, e, BitVec.toNat_add]
   have h3 : t * 36028797018963968 ≤ 24 * 36028797018963968 := Nat.mul_le_mul_right _ (by omega)
   have h4 := Nat.le_trans h1 h3
   rw [Nat.succ_mul, Nat.mod_eq_of_lt (by omega)]
   exact Nat.add_le_add h1 (Nat.le_of_lt h2)
  ·rw [if_neg e, Nat.succ_mul]
   exact Nat.le_trans h1 (Nat.le_add_right _ _)
def timesN (a b : List (BitVec 32)) : List (BitVec 32) := tidyL (prodTo (to64 (formN a)) (to64 (formN b)) 25)
@[simp] theorem timesN_length (a b : List (BitVec 32)) : (timesN a b).length = 5 := tidyL_length _
theorem timesN_any (a b : List (BitVec 32)) (w : World) (ha : a.length = 5) (hb5 : b.length = 5) :
  Calls Tryz.prog 148 #[.agg (A32 a), .agg (A32 b)] w fun e w' => e = .returned (.agg (A32 (timesN a b))) ∧ Below w.heap.size w w' := by
 obtain ⟨W, hW⟩ : ∃ W, ((w.alloc (.cells (A32 a) 224)).alloc (.cells (A32 b) 224)).alloc (.cells (A32 (zeros 32 5)) 224) = W := ⟨_, rfl⟩
 obtain ⟨b0, b1, b2, hb, hz⟩ := new3 _ _ _ _ _ _ _ _ hW
 have P0 := hid b0
 have Q0 := hid b1
 have Z0 := hid b2
 have B0 := hid hb
 have hRl := timesN_length a b
 obtain ⟨R, hR⟩ : ∃ R, R = timesN a b := ⟨_, rfl⟩
 rw [← hR] at hRl ⊢
 have HR := hid hR
 clear b0 b1 b2 hb hz hR
 have sa := formN_small a
 have sb := formN_small b
 have fal := formN_length a
 have fbl := formN_length b
 obtain ⟨fa, hfa⟩ : ∃ fa, fa = formN a := ⟨_, rfl⟩
 obtain ⟨fb, hfb⟩ : ∃ fb, fb = formN b := ⟨_, rfl⟩
 rw [← hfa] at sa fal
 rw [← hfb] at sb fbl
 have lal : (to64 fa).length = 5 := by rw [to64_length, fal]
 have lbl : (to64 fb).length = 5 := by rw [to64_length, fbl]
 obtain ⟨la, hla⟩ : ∃ la, la = to64 fa := ⟨_, rfl⟩
 obtain ⟨lb, hlb⟩ : ∃ lb, lb = to64 fb := ⟨_, rfl⟩
 rw [← hla] at sa lal
 rw [← hlb] at sb lbl
 have HFA := hid hfa
 have HFB := hid hfb
 have HLA := hid hla
 have HLB := hid hlb
 have SA := hid sa
 have SB := hid sb
 clear hfa hfb hla hlb sa sb
 go_enter Tryz.func148, Tryz.ntmps148
 go_upto_region 1 with fail
 clear hW
 refine wp_region_order [5,2,2,5,2,2,2,2,3,3] [0,3] [(1, 2, _), (2, 2, _), (4, 2, _), (5, 2, _), (6, 2, _), (7, 2, _)] (fun i => if i = 2 then [1] else if i = 4 then [2] else if i = 5 then [4] else []) [8,9] [_, _] [_, _] [5,5] [3,3] 6 rfl rfl rfl (by kernel_rfl) (by kernel_rfl) (by kernel_rfl) rfl rfl rfl (fun C0 hC0 hCb hCe K' hK' => ?_)
 have R0 : ∀ w1, C0 w1 → rowAt w1 w.heap.size = A32 a := fun w1 hw => (P0.out.drew.belowAll (hCb w1 hw)).row
 have R1 : ∀ w1, C0 w1 → rowAt w1 (w.heap.size + 1) = A32 b := fun w1 hw => (Q0.out.drew.belowAll (hCb w1 hw)).row
 repeat
  (first
   | (with_reducible refine h_pure (v := ?_) (a' := ?_) ?_ (fun _ => ?_) ?_ ?_); rotate_left 2; (focus (exact rfl)); (focus (go_simp; (try go_bits); exact rfl))
   | (with_reducible refine h_obl (v := ?_) (a' := ?_) ?_ (fun _ hcw => ?_) ?_ ?_); rotate_left 2; (focus (exact rfl)); (focus (have f := R0 _ hcw; have f2 := R1 _ hcw; go_simp; (try go_bits); exact rfl))
   | (with_reducible refine h_read (v := ?_) (a' := ?_) ?_ (fun _ hbw => ?_) ?_ ?_); rotate_left 2; (focus (exact rfl)); (focus (go_simp; (try go_bits); exact rfl)))
  focus (simp only [Act.put, zz1, zz2, zz3, Act.eval, zz4, zz5, zz6, zz7, zz8]; exact rfl)
 refine h_nil ?_
 clear R0 R1
 generalize hAct : Act.mk _ _ = act
 obtain ⟨u, rfl⟩ : ∃ u : Nat → Value, act = { tmps := (fun u : Nat → Value => (u 0 :: u 1 :: Value.pointer (some ⟨w.heap.size, 0, none⟩) :: Value.pointer (some ⟨(w.heap.size + 1), 0, none⟩) :: Value.pointer (some ⟨(w.heap.size + 2), 0, none⟩) :: u 5 :: u 6 :: u 7 :: u 8 :: u 9 :: u 10 :: Value.agg (A32 a) :: u 12 :: u 13 :: Value.agg (A32 b) :: u 15 :: u 16 :: u 17 :: u 18 :: u 19 :: u 20 :: u 21 :: u 22 :: u 23 :: u 24 :: u 25 :: u 26 :: u 27 :: u 28 :: u 29 :: u 30 :: u 31 :: u 32 :: u 33 :: u 34 :: u 35 :: u 36 :: u 37 :: u 38 :: u 39 :: u 40 :: u 41 :: u 42 :: u 43 :: u 44 :: u 45 :: u 46 :: u 47 :: u 48 :: []).toArray) u, defers := [] } := by
  subst hAct; exact ex_frame _ rfl
 clear hAct
 obtain ⟨St, hSt⟩ : ∃ St : Nat → Bool → Bool → Act → World → Prop, ∀ kk b1 b2 a' w', St kk b1 b2 a' w' ↔ (∃ x12 x13 x15 x16 x5 x6 : Value, a' = { tmps := (u 0 :: u 1 :: Value.pointer (some ⟨w.heap.size, 0, none⟩) :: Value.pointer (some ⟨(w.heap.size + 1), 0, none⟩) :: Value.pointer (some ⟨(w.heap.size + 2), 0, none⟩) :: x5 :: x6 :: u 7 :: u 8 :: u 9 :: u 10 :: Value.agg (A32 a) :: x12 :: x13 :: Value.agg (A32 b) :: x15 :: x16 :: u 17 :: u 18 :: u 19 :: u 20 :: u 21 :: u 22 :: u 23 :: u 24 :: u 25 :: u 26 :: u 27 :: u 28 :: u 29 :: u 30 :: u 31 :: u 32 :: u 33 :: u 34 :: u 35 :: u 36 :: u 37 :: u 38 :: u 39 :: u 40 :: u 41 :: u 42 :: u 43 :: u 44 :: u 45 :: u 46 :: u 47 :: u 48 :: []).toArray, defers := [] } ∧ Below W.drew.heap.size W.drew w' ∧ (1 ≤ kk → x12 = .agg (A32 fa)) ∧ (2 ≤ kk → x13 = .agg (A64 la)) ∧ (3 ≤ kk → x15 = .agg (A32 fb)) ∧ (4 ≤ kk → x16 = .agg (A64 lb)) ∧ (b1 = true → ∃ g, x5 = .pointer (some ⟨g, 0, none⟩) ∧ W.heap.size ≤ g ∧ Blk w' g 233 (A64 (zeros 64 5))) ∧ (b2 = true → ∃ g, x6 = .pointer (some ⟨g, 0, none⟩) ∧ W.heap.size ≤ g ∧ Blk w' g 233 (A64 (zeros 64 5))) ∧ (b1 = true → b2 = true → x5 ≠ x6)) := ⟨_, fun _ _ _ _ _ => Iff.rfl⟩
 refine permHO_chain2 (St := St) [_, _, _, _] _ _ 0 ⟨?s1, ?s2, ?s3, ?s4, trivial⟩ ?sf ?sg ?sch ?snd ?sR _ _ ?s0
 case s0 => exact (hSt _ _ _ _ _).2 ⟨_, _, _, _, _, _, rfl, Below.refl _ _, fun h => absurd h (by omega), fun h => absurd h (by omega), fun h => absurd h (by omega), fun h => absurd h (by omega), fun h => absurd h (by decide), fun h => absurd h (by decide), fun h => absurd h (by decide)⟩
 case sch => exact ⟨by decide, by decide, by decide, trivial⟩
 case snd => decide
 case s1 =>
  intro bb1 bb2 a3 w3 hs
  obtain ⟨x12, x13, x15, x16, x5, x6, rfl, D3, h1, h2, h3, h4, hf, hg, hne⟩ := (hSt _ _ _ _ _).1 hs
  clear hs
  refine opH_of_wpH ?_
  (with_reducible refine h_call ?_ ?_)
  ·exact rfl
  go_simp
  refine entersW_of ?_
  refine (form_any a w3 ha).mono ?_
  rintro e w4 ⟨rfl, d4⟩
  refine ⟨_, rfl, d4, ?_⟩
  try simp only [Act.put, zz1, zz2, zz3]
  rw [show formN a = fa from HFA.out.symm]
  refine h_nil ((hSt _ _ _ _ _).2 ⟨_, _, _, _, _, _, rfl, D3.trans (d4.mono D3.size), fun _ => rfl, fun h => by omega, fun h => by omega, fun h => by omega, fun e => ?_, fun e => ?_, hne⟩)
  ·obtain ⟨g, e1, e2, e3⟩ := hf e
   exact ⟨g, e1, e2, e3.belowAll d4⟩
  ·obtain ⟨g, e1, e2, e3⟩ := hg e
   exact ⟨g, e1, e2, e3.belowAll d4⟩
 case s2 =>
  intro bb1 bb2 a3 w3 hs
  obtain ⟨x12, x13, x15, x16, x5, x6, rfl, D3, h1, h2, h3, h4, hf, hg, hne⟩ := (hSt _ _ _ _ _).1 hs
  clear hs
  obtain rfl := h1 (by omega)
  refine opH_of_wpH ?_
  (with_reducible refine h_call ?_ ?_)
  ·exact rfl
  go_simp
  refine entersW_of ?_
  refine (ploose_any fa w3 fal).mono ?_
  rintro e w4 ⟨rfl, d4⟩
  refine ⟨_, rfl, d4, ?_⟩
  try simp only [Act.put, zz1, zz2, zz3]
  rw [show to64 fa = la from HLA.out.symm]
  refine h_nil ((hSt _ _ _ _ _).2 ⟨_, _, _, _, _, _, rfl, D3.trans (d4.mono D3.size), fun _ => rfl, fun _ => rfl, fun h => by omega, fun h => by omega, fun e => ?_, fun e => ?_, hne⟩)
  ·obtain ⟨g, e1, e2, e3⟩ := hf e
   exact ⟨g, e1, e2, e3.belowAll d4⟩
  ·obtain ⟨g, e1, e2, e3⟩ := hg e
   exact ⟨g, e1, e2, e3.belowAll d4⟩
 case s3 =>
  intro bb1 bb2 a3 w3 hs
  obtain ⟨x12, x13, x15, x16, x5, x6, rfl, D3, h1, h2, h3, h4, hf, hg, hne⟩ := (hSt _ _ _ _ _).1 hs
  clear hs
  obtain rfl := h1 (by omega)
  obtain rfl := h2 (by omega)
  refine opH_of_wpH ?_
  (with_reducible refine h_call ?_ ?_)
  ·exact rfl
  go_simp
  refine entersW_of ?_
  refine (form_any b w3 hb5).mono ?_
  rintro e w4 ⟨rfl, d4⟩
  refine ⟨_, rfl, d4, ?_⟩
  try simp only [Act.put, zz1, zz2, zz3]
  rw [show formN b = fb from HFB.out.symm]
  refine h_nil ((hSt _ _ _ _ _).2 ⟨_, _, _, _, _, _, rfl, D3.trans (d4.mono D3.size), fun _ => rfl, fun _ => rfl, fun _ => rfl, fun h => by omega, fun e => ?_, fun e => ?_, hne⟩)
  ·obtain ⟨g, e1, e2, e3⟩ := hf e
   exact ⟨g, e1, e2, e3.belowAll d4⟩
  ·obtain ⟨g, e1, e2, e3⟩ := hg e
   exact ⟨g, e1, e2, e3.belowAll d4⟩
 case s4 =>
  intro bb1 bb2 a3 w3 hs
  obtain ⟨x12, x13, x15, x16, x5, x6, rfl, D3, h1, h2, h3, h4, hf, hg, hne⟩ := (hSt _ _ _ _ _).1 hs
  clear hs
  obtain rfl := h1 (by omega)
  obtain rfl := h2 (by omega)
  obtain rfl := h3 (by omega)
  refine opH_of_wpH ?_
  (with_reducible refine h_call ?_ ?_)
  ·exact rfl
  go_simp
  refine entersW_of ?_
  refine (ploose_any fb w3 fbl).mono ?_
  rintro e w4 ⟨rfl, d4⟩
  refine ⟨_, rfl, d4, ?_⟩
  try simp only [Act.put, zz1, zz2, zz3]
  rw [show to64 fb = lb from HLB.out.symm]
  refine h_nil ((hSt _ _ _ _ _).2 ⟨_, _, _, _, _, _, rfl, D3.trans (d4.mono D3.size), fun _ => rfl, fun _ => rfl, fun _ => rfl, fun _ => rfl, fun e => ?_, fun e => ?_, hne⟩)
  ·obtain ⟨g, e1, e2, e3⟩ := hf e
   exact ⟨g, e1, e2, e3.belowAll d4⟩
  ·obtain ⟨g, e1, e2, e3⟩ := hg e
   exact ⟨g, e1, e2, e3.belowAll d4⟩
 case sf =>
  intro j hj cc a3 w3 hs
  obtain ⟨x12, x13, x15, x16, x5, x6, rfl, D3, h1, h2, h3, h4, hf, hg, hne⟩ := (hSt _ _ _ _ _).1 hs
  clear hs
  refine opH_of_wpH ?_
  obtain ⟨u3, eu3⟩ : ∃ u, w3.alloc (.cells (A64 (zeros 64 5)) 233) = u := ⟨_, rfl⟩
  obtain ⟨bf, du, zu⟩ := new1 _ _ _ _ eu3
  obtain ⟨pf, hpf⟩ : ∃ g, g = w3.heap.size := ⟨_, rfl⟩
  refine h_made (v := .pointer (some ⟨pf, 0, none⟩)) (w' := u3) rfl (by rw [hpf]; go_simp; exact eu3) du ?_
  simp only [Act.put, zz1, zz2, zz3]
  rw [← hpf] at bf
  exact h_nil ((hSt _ _ _ _ _).2 ⟨_, _, _, _, _, _, rfl, D3.trans (du.mono D3.size), h1, h2, h3, h4, fun _ => ⟨pf, rfl, by rw [hpf]; exact D3.size, bf⟩, fun e => by obtain ⟨g, e1, e2, e3⟩ := hg e; exact ⟨g, e1, e2, e3.belowAll du⟩, fun _ e he => by obtain ⟨g, e1, e2, e3⟩ := hg e; rw [e1] at he; have := e3.lt; injection he with he; injection he with he; injection he with he; omega⟩)
 case sg =>
  intro j hj cc a3 w3 hs
  obtain ⟨x12, x13, x15, x16, x5, x6, rfl, D3, h1, h2, h3, h4, hf, hg, hne⟩ := (hSt _ _ _ _ _).1 hs
  clear hs
  refine opH_of_wpH ?_
  obtain ⟨u3, eu3⟩ : ∃ u, w3.alloc (.cells (A64 (zeros 64 5)) 233) = u := ⟨_, rfl⟩
  obtain ⟨bf, du, zu⟩ := new1 _ _ _ _ eu3
  obtain ⟨pf, hpf⟩ : ∃ g, g = w3.heap.size := ⟨_, rfl⟩
  refine h_made (v := .pointer (some ⟨pf, 0, none⟩)) (w' := u3) rfl (by rw [hpf]; go_simp; exact eu3) du ?_
  simp only [Act.put, zz1, zz2, zz3]
  rw [← hpf] at bf
  exact h_nil ((hSt _ _ _ _ _).2 ⟨_, _, _, _, _, _, rfl, D3.trans (du.mono D3.size), h1, h2, h3, h4, fun e => by obtain ⟨g, e1, e2, e3⟩ := hf e; exact ⟨g, e1, e2, e3.belowAll du⟩, fun _ => ⟨pf, rfl, by rw [hpf]; exact D3.size, bf⟩, fun e _ he => by obtain ⟨g, e1, e2, e3⟩ := hf e; rw [e1] at he; have := e3.lt; injection he with he; injection he with he; injection he with he; omega⟩)
 case sR =>
  intro a3 w3 hs
  obtain ⟨x12, x13, x15, x16, x5, x6, rfl, D3, h1, h2, h3, h4, hf, hg, hne⟩ := (hSt _ _ _ _ _).1 hs
  clear hs hSt
  obtain rfl := h2 (by decide)
  obtain rfl := h4 (by decide)
  obtain ⟨g5, rfl, hg5, bg5⟩ := hf rfl
  obtain ⟨g6, rfl, hg6, bg6⟩ := hg rfl
  have hgg : g5 ≠ g6 := fun e => hne rfl rfl (by rw [e])
  refine c_act ?_
  refine z_storeRow bg5 rfl rfl (by rw [A64_size, A64_size, lal, zeros_length]) (A64_ones _) (by rw [A64_size, lal]; exact Tryz.sizeOf233 _) (fun w4 k4 q4 s4 => ?_)
  have BD4 := D3.trans (grown_below q4 hg5 D3.size)
  refine z_nil ⟨hCe _ BD4, ?_⟩
  refine c_act ?_
  refine z_storeRow (bg6.grown q4 (by intro e; cases e; exact hgg rfl)) rfl rfl (by rw [A64_size, A64_size, lbl, zeros_length]) (A64_ones _) (by rw [A64_size, lbl]; exact Tryz.sizeOf233 _) (fun w5 k5 q5 s5 => ?_)
  have BD5 := BD4.trans (grown_below q5 hg6 BD4.size)
  refine z_nil ⟨hCe _ BD5, ?_⟩
  refine c_nil (hK' _ _ ?_)
  have E5 : Below W.heap.size W w5 := ((Below.refl W.heap.size W).drew).trans BD5
  have X5 := k4.grown q5 (by intro e; cases e; exact hgg rfl)
  have X1 := hid (X5.alloc (.cells (A64 (zeros 64 5)) 233))
  have Y1 := hid (k5.alloc (.cells (A64 (zeros 64 5)) 233))
  have Z1 := hid ((Z0.out.belowAll E5).alloc (.cells (A64 (zeros 64 5)) 233))
  have D5 := B0.out.trans (E5.mono B0.out.size)
  have B1 := hid (D5.alloc D5.size (.cells (A64 (zeros 64 5)) 233))
  have A1 := hid (Blk.new w5 233 (A64 (zeros 64 5)))
  have n1 : g5 ≠ w5.heap.size := by have := X5.lt; omega
  have n2 : g6 ≠ w5.heap.size := by have := k5.lt; omega
  have n3 : w.heap.size + 2 ≠ w5.heap.size := by have := (Z0.out.belowAll E5).lt; omega
  have n4 : w.heap.size ≤ w5.heap.size := D5.size
  clear hK' hC0 hCb hCe BD4 BD5 D3 h1 h2 h3 h4 hf hg hne bg5 bg6 q4 s4 k4 q5 s5 k5 E5 X5 D5 P0 Q0 Z0 B0 hgg
  go_wp2_with fail
  generalize w5.alloc (.cells (A64 (zeros 64 5)) 233) = V at *
  generalize w5.heap.size = g7 at *
  go_loopw [17] (fun i wr => ∃ k : Nat, k ≤ 5 ∧ i = .int .i64 k ∧ Blk wr g5 233 (A64 la) ∧ Blk wr g6 233 (A64 lb) ∧ Blk wr (w.heap.size + 2) 224 (A32 (zeros 32 5)) ∧ Blk wr g7 233 (A64 (prodTo la lb (5 * k))) ∧ Below w.heap.size w wr) (fun i _ => 5 - (intOf i).toNat)
  case atStart => exact ⟨0, Nat.zero_le _, rfl, X1.out, Y1.out, Z1.out, A1.out, B1.out⟩
  case round =>
   obtain ⟨k, hk, rfl, hX, hY, hZ, hA, hB⟩ := hrel
   have X2 := hid hX
   have Y2 := hid hY
   have Z2 := hid hZ
   have A2 := hid hA
   have B2 := hid hB
   clear hX hY hZ hA hB X1 Y1 Z1 A1 B1
   by_cases hk5 : k < 5
   ·have k1 : (k : Int) < 5 := by omega
    have k0 : (0 : Int) ≤ (k : Int) := by omega
    go_wp2_with fail
    go_loopw [20] (fun i2 wi => ∃ j : Nat, j ≤ 5 ∧ i2 = .int .i64 j ∧ Blk wi g5 233 (A64 la) ∧ Blk wi g6 233 (A64 lb) ∧ Blk wi (w.heap.size + 2) 224 (A32 (zeros 32 5)) ∧ Blk wi g7 233 (A64 (prodTo la lb (5 * k + j))) ∧ Below w.heap.size w wi) (fun i2 _ => 5 - (intOf i2).toNat)
    case atStart => exact ⟨0, Nat.zero_le _, rfl, X2.out, Y2.out, Z2.out, A2.out, B2.out⟩
    case round =>
     obtain ⟨j, hj, rfl, hX, hY, hZ, hA, hB⟩ := hrel
     have X3 := hid hX
     have Y3 := hid hY
     have Z3 := hid hZ
     have A3 := hid hA
     have B3 := hid hB
     clear hX hY hZ hA hB X2 Y2 Z2 A2 B2
     by_cases hj5 : j < 5
     ·have j1 : (j : Int) < 5 := by omega
      have j0 : (0 : Int) ≤ (j : Int) := by omega
      have c1 := X3.out.drew.cell64 lal k hk5
      have c2 := Y3.out.drew.cell64 lbl j hj5
      obtain ⟨U, hU⟩ : ∃ U, U = nth la k := ⟨_, rfl⟩
      obtain ⟨T, hT⟩ : ∃ T, T = nth lb j := ⟨_, rfl⟩
      rw [← hU] at c1
      rw [← hT] at c2
      obtain ⟨S, hS⟩ : ∃ S, S = k + j := ⟨_, rfl⟩
      have f1 : (k : Int) + (j : Int) = (S : Int) := by omega
      have f2 : IntKind.i64.wrap (S : Int) = (S : Int) := by rw [IntKind.wrap_i64]; omega
      obtain ⟨Q, hQ⟩ : ∃ Q, Q = S % 5 := ⟨_, rfl⟩
      have hq5 : Q < 5 := by rw [hQ]; exact Nat.mod_lt _ (by decide)
      have f3 : (S : Int).tmod 5 = (Q : Int) := by rw [hQ]; rfl
      have f4 : IntKind.i64.wrap (Q : Int) = (Q : Int) := by rw [IntKind.wrap_i64]; omega
      have q1 : (Q : Int) < 5 := by omega
      have q0 : (0 : Int) ≤ (Q : Int) := by omega
      have hpl := prodTo_length la lb (5 * k + j)
      have c3 := A3.out.drew.cell64 hpl Q hq5
      have fo := A3.out.drew.frozen Q
      obtain ⟨E, hE⟩ : ∃ E, E = nth (prodTo la lb (5 * k + j)) Q := ⟨_, rfl⟩
      rw [← hE] at c3
      obtain ⟨M, hM⟩ : ∃ M, M = U * T := ⟨_, rfl⟩
      have g1 : ∀ t, binOp .mul t (v64 U) (v64 T) = pure (v64 M) := fun t => by rw [hM]; exact v64_mul t U T
      obtain ⟨M5, hM5⟩ : ∃ M5, M5 = M * 5#64 := ⟨_, rfl⟩
      have g2 : ∀ t, binOp .mul t (v64 M) (.int .u64 5) = pure (v64 M5) := fun t => by rw [hM5]; exact v64_mul t M 5#64
      have hstep : ∀ Y, Y = (if 5 ≤ S then M5 else M) → (prodTo la lb (5 * k + j)).set Q (E + Y) = prodTo la lb (5 * k + (j + 1)) := by
       intro Y hY
       have e1 : (5 * k + j) / 5 = k := by omega
       have e2 : (5 * k + j) % 5 = j := by omega
       show _ = prodTo la lb ((5 * k + j) + 1)
       rw [prodTo, e1, e2, hE, hQ, hS, hY, pX, hM5, hM, hU, hT, hS]
      have HST := hid hstep
      clear hU hT hS hQ hE hM hM5 hstep
      go_upto_region 9 with fail
      refine wp_region_text3' [0,0,1,0,0,1,0,0] (by kernel_rfl) (by kernel_rfl) (fun ops' K2 hK2 => ?_)
      repeat
       (first
        | (with_reducible refine z_move (a' := ?_) ?_ ?_); rotate_left
        | (with_reducible refine z_assign (a' := ?_) ?_ ?_); rotate_left
        | (with_reducible refine z_obl (v := ?_) (a' := ?_) rfl (fun _ => ?_) ?_ ?_); rotate_left 2; (focus (go_simp; (try go_bits); exact rfl))
        | (with_reducible refine z_read (v := ?_) (a' := ?_) rfl ?_ ?_ ?_); rotate_left 2; (focus (go_simp; (try go_bits); exact rfl)))
       focus (simp only [Act.put, zz1, zz2, zz3, Act.eval, zz4, zz5, zz6, zz7, zz8]; exact rfl)
      refine z_nil (hK2 _ _ ?_)
      clear hK2 c1 c2
      by_cases hs5 : 5 ≤ S
      ·have s1 : (5 : Int) ≤ (S : Int) := by omega
       obtain ⟨G, hG⟩ : ∃ G, G = E + M5 := ⟨_, rfl⟩
       have g3 : ∀ t, binOp .add t (v64 E) (v64 M5) = pure (v64 G) := fun t => by rw [hG]; exact v64_add t E M5
       have kk := A3.out.drew.set_ Q (v64 G)
       have hst := HST.out M5 (by first | rw [if_pos hs5] | rw [if_neg hs5])
       rw [A64_set, hG, hst] at kk
       rw [← hG] at kk
       have A4 := hid kk
       have X4 := hid (X3.out.drew.far (p := ⟨g7, Q, none⟩) (by simpa using n1) (v64 G))
       have Y4 := hid (Y3.out.drew.far (p := ⟨g7, Q, none⟩) (by simpa using n2) (v64 G))
       have Z4 := hid (Z3.out.drew.far (p := ⟨g7, Q, none⟩) (by simpa using n3) (v64 G))
       have B4 := hid (B3.out.drew.setCell (p := ⟨g7, Q, none⟩) n4 (v64 G))
       clear hG kk hst X3 Y3 Z3 A3 B3
       go_wp2
       exact ⟨⟨j + 1, by omega, by go_num, X4.out, Y4.out, Z4.out, A4.out, B4.out⟩, by simp [intOf]; omega⟩
      ·have s1 : ¬ (5 : Int) ≤ (S : Int) := by omega
       obtain ⟨G, hG⟩ : ∃ G, G = E + M := ⟨_, rfl⟩
       have g3 : ∀ t, binOp .add t (v64 E) (v64 M) = pure (v64 G) := fun t => by rw [hG]; exact v64_add t E M
       have kk := A3.out.drew.set_ Q (v64 G)
       have hst := HST.out M (by first | rw [if_pos hs5] | rw [if_neg hs5])
       rw [A64_set, hG, hst] at kk
       rw [← hG] at kk
       have A4 := hid kk
       have X4 := hid (X3.out.drew.far (p := ⟨g7, Q, none⟩) (by simpa using n1) (v64 G))
       have Y4 := hid (Y3.out.drew.far (p := ⟨g7, Q, none⟩) (by simpa using n2) (v64 G))
       have Z4 := hid (Z3.out.drew.far (p := ⟨g7, Q, none⟩) (by simpa using n3) (v64 G))
       have B4 := hid (B3.out.drew.setCell (p := ⟨g7, Q, none⟩) n4 (v64 G))
       clear hG kk hst X3 Y3 Z3 A3 B3
       go_wp2
       exact ⟨⟨j + 1, by omega, by go_num, X4.out, Y4.out, Z4.out, A4.out, B4.out⟩, by simp [intOf]; omega⟩
     ·obtain rfl : j = 5 := by omega
      have a3 := A3.out
      rw [show 5 * k + 5 = 5 * (k + 1) by omega] at a3
      have A4 := hid a3
      clear a3
      go_wp2
      exact ⟨⟨k + 1, by omega, by go_num, X3.out, Y3.out, Z3.out, A4.out, B3.out⟩, by simp [intOf]; omega⟩
   ·obtain rfl : k = 5 := by omega
    have a5 := A2.out
    have hsl := prodTo_length la lb (5 * 5)
    have hlt : ∀ i, i < 5 → pn (prodTo la lb (5 * 5)) i < 2 ^ 60 := fun i hi => by
     have h1 := prodTo_lt la lb SA.out SB.out 25 (Nat.le_refl _) i hi
     exact Nat.lt_of_le_of_lt h1 (by decide)
    obtain ⟨S, hS⟩ : ∃ S, S = prodTo la lb (5 * 5) := ⟨_, rfl⟩
    rw [← hS] at a5 hsl hlt
    have HS := hid hS
    have LT := hid hlt
    have r1 := a5.row
    clear a5 hS hlt
    go_wp2_with fail
    refine (tidy_any S wr hsl LT.out).mono ?_
    rintro e w9 ⟨rfl, d9⟩
    rw [show tidyL S = R by rw [HR.out, HS.out, HLA.out, HLB.out, HFA.out, HFB.out]; rfl]
    have z9 := Z2.out.belowAll d9
    have r3 := z9.row
    have r4 := z9.whole
    have B9 := B2.out.trans (d9.mono B2.out.size)
    clear d9 z9
    go_wp2
    refine bodyPost_row (A32 R) rfl rfl rfl (Tryz.isAgg224 _) (Tryz.sizeOf224 _) (by rw [A32_size]; exact hRl) (rowAt_setRow _ r4) ⟨rfl, below_setRow B9 (by omega) _⟩
open Go.RowKit
def ofW (X : W2) (h : BitVec 32) : List (BitVec 64) := [X.1 &&& msk, (X.1 >>> 26) &&& msk, (X.1 >>> 52 ||| X.2 <<< 12) &&& msk, (X.2 >>> 14) &&& msk, X.2 >>> 40 ||| (h.setWidth 64) <<< 24]
theorem ofW_lt (X : W2) (h : BitVec 32) : ∀ i, i < 5 → pn (ofW X h) i < 2 ^ 60 := by
 have hm : ∀ x : BitVec 64, (x &&& msk).toNat < 2 ^ 60 := fun x => by rw [and_msk]; omega
 intro i hi
 obtain rfl | rfl | rfl | rfl | rfl : i = 0 ∨ i = 1 ∨ i = 2 ∨ i = 3 ∨ i = 4 := by omega
 ·exact hm _
 ·exact hm _
 ·exact hm _
 ·exact hm _
 ·show (X.2 >>> 40 ||| (h.setWidth 64) <<< 24).toNat < 2 ^ 60
  rw [BitVec.toNat_or]
  refine Nat.or_lt_two_pow ?_ ?_
  ·rw [BitVec.toNat_ushiftRight, Nat.shiftRight_eq_div_pow]
   have := X.2.isLt
   omega
  ·have hh := h.isLt
   rw [BitVec.toNat_shiftLeft, BitVec.toNat_setWidth, Nat.shiftLeft_eq]
   omega
def ofN (l : List (BitVec 8)) (h : BitVec 32) : List (BitVec 32) := tidyL (ofW (long l 0, long l 8) h)
@[simp] theorem ofN_length (l : List (BitVec 8)) (h : BitVec 32) : (ofN l h).length = 5 := tidyL_length _
def lowW (w : List (BitVec 64)) : W2 := (nth w 0 ||| nth w 1 <<< 26 ||| nth w 2 <<< 52, nth w 2 >>> 12 ||| nth w 3 <<< 14 ||| nth w 4 <<< 40)
def lowN (x : List (BitVec 32)) : List (BitVec 8) := le64 (lowW (to64 (formN x))).1 ++ le64 (lowW (to64 (formN x))).2
@[simp] theorem lowN_length (x : List (BitVec 32)) : (lowN x).length = 16 := rfl
def v64_shl_of (a : BitVec 64) (k : Nat) : BitVec 64 := a <<< k
def v64_shr_of (a : BitVec 64) (k : Nat) : BitVec 64 := a >>> k
theorem low_any (x : List (BitVec 32)) (w : World) (hx : x.length = 5) :
  Calls Tryz.prog 150 #[.agg (A32 x)] w fun e w' => e = .returned (.agg (A8 (lowN x))) ∧ Below w.heap.size w w' := by
 obtain ⟨W, hW⟩ : ∃ W, (w.alloc (.cells (A32 x) 224)).alloc (.cells (A8 (zeros 8 16)) 109) = W := ⟨_, rfl⟩
 obtain ⟨b0, b1, hb, hz⟩ := new2 _ _ _ _ _ _ hW
 have r0 := b0.row
 have Z0 := hid b1
 have B0 := hid hb
 have fl := formN_length x
 obtain ⟨F, hF⟩ : ∃ F, F = formN x := ⟨_, rfl⟩
 have hLl : (to64 F).length = 5 := by rw [to64_length, hF, fl]
 rw [← hF] at fl
 obtain ⟨L, hL⟩ : ∃ L, L = to64 F := ⟨_, rfl⟩
 rw [← hL] at hLl
 obtain ⟨X, hX⟩ : ∃ X, X = lowW L := ⟨_, rfl⟩
 have hR : lowN x = le64 X.1 ++ le64 X.2 := by rw [lowN, hX, hL, hF]
 rw [hR]
 have HF := hid hF
 have HL := hid hL
 have HX := hid hX
 clear b0 b1 hb hz hF hL hX hR
 go_enter Tryz.func150, Tryz.ntmps150
 go_wp2_with fail
 refine (form_any x W hx).mono ?_
 rintro e w1 ⟨rfl, d1⟩
 rw [show formN x = F from HF.out.symm]
 clear hW r0
 go_wp2_with fail
 refine (ploose_any F w1 fl).mono ?_
 rintro e w2 ⟨rfl, d2⟩
 rw [show to64 F = L from HL.out.symm]
 have d12 := d1.trans (d2.mono d1.size)
 have N2 := hid (Blk.new w2 233 (A64 L))
 have Z2 := hid ((Z0.out.belowAll d12).alloc (.cells (A64 L) 233))
 have D2 := B0.out.trans (d12.mono B0.out.size)
 have B2 := hid (D2.alloc D2.size (.cells (A64 L) 233))
 clear d1 d2 d12 D2 Z0 B0
 go_upto_region 2 with fail
 generalize w2.alloc (.cells (A64 L) 233) = V at *
 generalize w2.heap.size = q at *
 have c0 := N2.out.cell64 hLl 0 (by omega)
 have c1 := N2.out.cell64 hLl 1 (by omega)
 have c2 := N2.out.cell64 hLl 2 (by omega)
 have c3 := N2.out.cell64 hLl 3 (by omega)
 have c4 := N2.out.cell64 hLl 4 (by omega)
 obtain ⟨a0, h0⟩ : ∃ z, z = nth L 0 := ⟨_, rfl⟩
 obtain ⟨a1, h1⟩ : ∃ z, z = nth L 1 := ⟨_, rfl⟩
 obtain ⟨a2, h2⟩ : ∃ z, z = nth L 2 := ⟨_, rfl⟩
 obtain ⟨a3, h3⟩ : ∃ z, z = nth L 3 := ⟨_, rfl⟩
 obtain ⟨a4, h4⟩ : ∃ z, z = nth L 4 := ⟨_, rfl⟩
 rw [← h0] at c0
 rw [← h1] at c1
 rw [← h2] at c2
 rw [← h3] at c3
 rw [← h4] at c4
 obtain ⟨s1, hs1⟩ : ∃ z, z = v64_shl_of a1 26 := ⟨_, rfl⟩
 have fs1 : ∀ t, binOp .shl t (v64 a1) (.int .u64 26) = pure (v64 s1) := fun t => by rw [hs1]; exact v64_shl t .u64 a1 26 (by decide)
 obtain ⟨s2, hs2⟩ : ∃ z, z = v64_shl_of a2 52 := ⟨_, rfl⟩
 have fs2 : ∀ t, binOp .shl t (v64 a2) (.int .u64 52) = pure (v64 s2) := fun t => by rw [hs2]; exact v64_shl t .u64 a2 52 (by decide)
 obtain ⟨s3, hs3⟩ : ∃ z, z = v64_shr_of a2 12 := ⟨_, rfl⟩
 have fs3 : ∀ t, binOp .shr t (v64 a2) (.int .u64 12) = pure (v64 s3) := fun t => by rw [hs3]; exact v64_shr t .u64 a2 12 (by decide)
 obtain ⟨s4, hs4⟩ : ∃ z, z = v64_shl_of a3 14 := ⟨_, rfl⟩
 have fs4 : ∀ t, binOp .shl t (v64 a3) (.int .u64 14) = pure (v64 s4) := fun t => by rw [hs4]; exact v64_shl t .u64 a3 14 (by decide)
 obtain ⟨s5, hs5⟩ : ∃ z, z = v64_shl_of a4 40 := ⟨_, rfl⟩
 have fs5 : ∀ t, binOp .shl t (v64 a4) (.int .u64 40) = pure (v64 s5) := fun t => by rw [hs5]; exact v64_shl t .u64 a4 40 (by decide)
 obtain ⟨o1, ho1⟩ : ∃ z, z = a0 ||| s1 := ⟨_, rfl⟩
 have fo1 : ∀ t, binOp .or t (v64 a0) (v64 s1) = pure (v64 o1) := fun t => by rw [ho1]; exact v64_or t a0 s1
 obtain ⟨o2, ho2⟩ : ∃ z, z = o1 ||| s2 := ⟨_, rfl⟩
 have fo2 : ∀ t, binOp .or t (v64 o1) (v64 s2) = pure (v64 o2) := fun t => by rw [ho2]; exact v64_or t o1 s2
 obtain ⟨o3, ho3⟩ : ∃ z, z = s3 ||| s4 := ⟨_, rfl⟩
 have fo3 : ∀ t, binOp .or t (v64 s3) (v64 s4) = pure (v64 o3) := fun t => by rw [ho3]; exact v64_or t s3 s4
 obtain ⟨o4, ho4⟩ : ∃ z, z = o3 ||| s5 := ⟨_, rfl⟩
 have fo4 : ∀ t, binOp .or t (v64 o3) (v64 s5) = pure (v64 o4) := fun t => by rw [ho4]; exact v64_or t o3 s5
 have hXX : X = (o2, o4) := by rw [HX.out, lowW, ho2, ho1, ho4, ho3, hs1, hs2, hs3, hs4, hs5, h0, h1, h2, h3, h4]; rfl
 have HXX := hid hXX
 clear h0 h1 h2 h3 h4 hs1 hs2 hs3 hs4 hs5 ho1 ho2 ho3 ho4 hXX
 go_wp2_with fail
 refine (wbytes_any (o2, o4) V).mono ?_
 rintro e w3 ⟨rfl, d3⟩
 have z3 := Z2.out.belowAll d3
 have r3 := z3.row
 have r4 := z3.whole
 have B3 := B2.out.trans (d3.mono B2.out.size)
 clear d3 z3 c0 c1 c2 c3 c4
 go_wp2
 rw [HXX.out]
 refine bodyPost_row (A8 (le64 o2 ++ le64 o4)) rfl rfl rfl (Tryz.isAgg109 _) (Tryz.sizeOf109 _) (by rw [A8_size]; rfl) (rowAt_setRow _ r4) ⟨rfl, below_setRow B3 (by omega) _⟩
open Go.RowKit
theorem ofN_any (l : List (BitVec 8)) (h : BitVec 32) (w : World) (hl : l.length = 16) :
  Calls Tryz.prog 141 #[.agg (A8 l), v32 h] w fun e w' => e = .returned (.agg (A32 (ofN l h))) ∧ Below w.heap.size w w' := by
 obtain ⟨W, hW⟩ : ∃ W, (w.alloc (.cells (A8 l) 109)).alloc (.cells (A32 (zeros 32 5)) 224) = W := ⟨_, rfl⟩
 obtain ⟨b0, b1, hb, hz⟩ := new2 _ _ _ _ _ _ hW
 have rl : Rd8 W (some ⟨w.heap.size, 0, none⟩) 16 16 l := by
  have := b0.rd8 16 (by omega) (by rw [hl]; unfold maxLen; omega)
  rwa [hl, List.take_of_length_le (by omega)] at this
 have L0 := hid rl
 have Z0 := hid b1
 have B0 := hid hb
 have hRl := ofN_length l h
 obtain ⟨R, hR⟩ : ∃ R, R = ofN l h := ⟨_, rfl⟩
 rw [← hR] at hRl ⊢
 have HR := hid hR
 clear b0 b1 hb hz rl hR
 go_enter Tryz.func141, Tryz.ntmps141
 go_wp2_with fail
 refine (load_any l _ 16 16 W L0.out).mono ?_
 rintro e w1 ⟨rfl, d1⟩
 obtain ⟨lo, hlo⟩ : ∃ z, z = long l 0 := ⟨_, rfl⟩
 obtain ⟨hi, hhi⟩ : ∃ z, z = long l 8 := ⟨_, rfl⟩
 rw [← hlo, ← hhi, show wl (lo, hi) = [lo, hi] from rfl]
 have hres : R = tidyL (ofW (lo, hi) h) := by rw [HR.out, ofN, ← hlo, ← hhi]
 have HRES := hid hres
 have N1 := hid (Blk.new w1 161 (A64 [lo, hi]))
 have Z1 := hid ((Z0.out.belowAll d1).alloc (.cells (A64 [lo, hi]) 161))
 have D1 := B0.out.trans (d1.mono B0.out.size)
 have B1 := hid (D1.alloc D1.size (.cells (A64 [lo, hi]) 161))
 clear hlo hhi hres d1 D1 Z0 B0 hW
 go_upto_region 2 with fail
 generalize w1.alloc (.cells (A64 [lo, hi]) 161) = V at *
 generalize w1.heap.size = q at *
 have c0 : V.cell? ⟨q, 0, none⟩ = some (v64 lo) := N1.out.cell64 (m := 2) rfl 0 (by omega)
 have c1 : V.cell? ⟨q, 1, none⟩ = some (v64 hi) := N1.out.cell64 (m := 2) rfl 1 (by omega)
 obtain ⟨hh, eh⟩ : ∃ z, z = h.setWidth 64 := ⟨_, rfl⟩
 have fh : ∀ w, (convert 59 73 (v32 h)).run Tryz.prog w = .ok (v64 hh) w := fun w => by rw [eh]; exact v32_cv_v64 h w _ _ Tryz.underlying59 Tryz.underlying73
 obtain ⟨s1, hs1⟩ : ∃ z, z = v64_shr_of lo 26 := ⟨_, rfl⟩
 have fs1 : ∀ t, binOp .shr t (v64 lo) (.int .u64 26) = pure (v64 s1) := fun t => by rw [hs1]; exact v64_shr t .u64 lo 26 (by decide)
 obtain ⟨s2, hs2⟩ : ∃ z, z = v64_shr_of lo 52 := ⟨_, rfl⟩
 have fs2 : ∀ t, binOp .shr t (v64 lo) (.int .u64 52) = pure (v64 s2) := fun t => by rw [hs2]; exact v64_shr t .u64 lo 52 (by decide)
 obtain ⟨s3, hs3⟩ : ∃ z, z = v64_shl_of hi 12 := ⟨_, rfl⟩
 have fs3 : ∀ t, binOp .shl t (v64 hi) (.int .u64 12) = pure (v64 s3) := fun t => by rw [hs3]; exact v64_shl t .u64 hi 12 (by decide)
 obtain ⟨s4, hs4⟩ : ∃ z, z = v64_shr_of hi 14 := ⟨_, rfl⟩
 have fs4 : ∀ t, binOp .shr t (v64 hi) (.int .u64 14) = pure (v64 s4) := fun t => by rw [hs4]; exact v64_shr t .u64 hi 14 (by decide)
 obtain ⟨s5, hs5⟩ : ∃ z, z = v64_shr_of hi 40 := ⟨_, rfl⟩
 have fs5 : ∀ t, binOp .shr t (v64 hi) (.int .u64 40) = pure (v64 s5) := fun t => by rw [hs5]; exact v64_shr t .u64 hi 40 (by decide)
 obtain ⟨s6, hs6⟩ : ∃ z, z = v64_shl_of hh 24 := ⟨_, rfl⟩
 have fs6 : ∀ t, binOp .shl t (v64 hh) (.int .u64 24) = pure (v64 s6) := fun t => by rw [hs6]; exact v64_shl t .u64 hh 24 (by decide)
 obtain ⟨o1, ho1⟩ : ∃ z, z = s2 ||| s3 := ⟨_, rfl⟩
 have fo1 : ∀ t, binOp .or t (v64 s2) (v64 s3) = pure (v64 o1) := fun t => by rw [ho1]; exact v64_or t s2 s3
 obtain ⟨o2, ho2⟩ : ∃ z, z = s5 ||| s6 := ⟨_, rfl⟩
 have fo2 : ∀ t, binOp .or t (v64 s5) (v64 s6) = pure (v64 o2) := fun t => by rw [ho2]; exact v64_or t s5 s6
 obtain ⟨m0, hm0⟩ : ∃ z, z = lo &&& msk := ⟨_, rfl⟩
 have fm0 : ∀ t, binOp .and t (v64 lo) (.int .u64 67108863) = pure (v64 m0) := fun t => by rw [hm0]; exact v64_and t lo msk
 obtain ⟨m1, hm1⟩ : ∃ z, z = s1 &&& msk := ⟨_, rfl⟩
 have fm1 : ∀ t, binOp .and t (v64 s1) (.int .u64 67108863) = pure (v64 m1) := fun t => by rw [hm1]; exact v64_and t s1 msk
 obtain ⟨m2, hm2⟩ : ∃ z, z = o1 &&& msk := ⟨_, rfl⟩
 have fm2 : ∀ t, binOp .and t (v64 o1) (.int .u64 67108863) = pure (v64 m2) := fun t => by rw [hm2]; exact v64_and t o1 msk
 obtain ⟨m3, hm3⟩ : ∃ z, z = s4 &&& msk := ⟨_, rfl⟩
 have fm3 : ∀ t, binOp .and t (v64 s4) (.int .u64 67108863) = pure (v64 m3) := fun t => by rw [hm3]; exact v64_and t s4 msk
 have hXX : ofW (lo, hi) h = [m0, m1, m2, m3, o2] := by rw [ofW, hm0, hm1, hm2, hm3, ho2, ho1, hs1, hs2, hs3, hs4, hs5, hs6, eh]; rfl
 have hlt := ofW_lt (lo, hi) h
 rw [hXX] at hlt
 have hres : R = tidyL [m0, m1, m2, m3, o2] := by rw [HRES.out, hXX]
 have LT := hid hlt
 have HR2 := hid hres
 clear hs1 hs2 hs3 hs4 hs5 hs6 ho1 ho2 hm0 hm1 hm2 hm3 hXX hlt hres eh HRES
 go_wp2_with fail
 refine (tidy_any [m0, m1, m2, m3, o2] V rfl LT.out).mono ?_
 rintro e w3 ⟨rfl, d3⟩
 rw [show tidyL [m0, m1, m2, m3, o2] = R from HR2.out.symm]
 have z3 := Z1.out.belowAll d3
 have r3 := z3.row
 have r4 := z3.whole
 have B3 := B1.out.trans (d3.mono B1.out.size)
 clear d3 z3 c0 c1
 go_wp2
 refine bodyPost_row (A32 R) rfl rfl rfl (Tryz.isAgg224 _) (Tryz.sizeOf224 _) (by rw [A32_size]; exact hRl) (rowAt_setRow _ r4) ⟨rfl, below_setRow B3 (by omega) _⟩
end Go.Proofs.YtpifdkkhdgbcdaaGreatDoor
