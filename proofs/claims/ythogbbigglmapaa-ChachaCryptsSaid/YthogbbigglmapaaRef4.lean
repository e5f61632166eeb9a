/- chacha by definition: Mix, the walk -/
import Derived.Test.YthogbbigglmapaaRef3
namespace Go.Proofs.Ythogbbigglmapaa
open Go.RowKit
def buildAt4 (e : TypeId) (a b c d : Value) : Sem Value := Instr.build e #[(0, a), (1, b), (2, c), (3, d)]
@[go_sem ↓ high] theorem execOp_build4 {P : Program} {ρ : Operand → Value} {w : World} {dst : Option Tmp} {ty : TypeId} {pos : String} {after : Array Edge} {guard : Option (Nat × Bool)} (e : TypeId) (a b c d : Operand) : (execOp ρ ⟨dst, .build e #[(0, a), (1, b), (2, c), (3, d)], ty, pos, after, guard⟩).run P w = ((buildAt4 e (ρ a) (ρ b) (ρ c) (ρ d)).run P w).andThen fun v w' => .ok (.value v) w' := by simp [execOp, buildAt4]
@[go_sem high] theorem build4 (a b c d : BitVec 32) (w : World) : (buildAt4 46 (v32 a) (v32 b) (v32 c) (v32 d)).run Try.prog w = .ok (.agg (A32 [a, b, c, d])) w := by kernel_rfl
set_option linter.unusedSimpArgs false in
set_option maxRecDepth 100000 in
set_option maxHeartbeats 1600000 in
theorem refMix_any (s : List (BitVec 32)) (r : Int) (w : World) (hs : s.length = 16) (hr0 : 0 ≤ r) (hr : r ≤ 20) :
    Calls Try.prog 32 #[.agg (A32 s), .int .i64 r] w fun e w' => e = .returned (.agg (A32 (mixTo s (r.toNat / 2)))) ∧ Below w.heap.size w w' := by
  obtain ⟨W, hW⟩ : ∃ W, (w.alloc (.cells (A32 s) 38)).alloc (.cells (A32 (zeros 32 16)) 38) = W := ⟨_, rfl⟩
  obtain ⟨b0, z0, hb, hz⟩ := new2 _ _ _ _ _ _ hW
  have K0 := Lib.hid b0
  have Z0 := Lib.hid z0
  have B0 := Lib.hid hb
  have hPs : PL.size = 32 := rfl
  have hPo : ones PL = true := by rw [PL_lit]; simp [ones, Value.oneCell']
  obtain ⟨N, hN⟩ : ∃ N, N = r.toNat / 2 := ⟨_, rfl⟩
  have hrN : r / 2 = (N : Int) := by omega
  have HN := Lib.hid hN
  have HS := Lib.hid hs
  clear b0 z0 hb hz hN hs
  go_enter Try.func32, Try.ntmps32
  go_wp2_with fail
  refine (places_any W).mono ?_
  rintro e w1 ⟨rfl, hb1⟩
  go_upto_region 2 with fail
  have K1 := Lib.hid ((K0.out.belowAll hb1).alloc (.cells PL 86))
  have Z1 := Lib.hid ((Z0.out.belowAll hb1).alloc (.cells PL 86))
  have T1 := Lib.hid (Blk.new w1 86 PL)
  have hB1 := B0.out.trans (hb1.mono B0.out.size)
  have B1 := Lib.hid (hB1.alloc hB1.size (.cells PL 86))
  have hz := (Z0.out.belowAll hb1).lt
  clear hW hb1 hB1 K0 Z0 B0 hPs hPo
  generalize w1.alloc (.cells PL 86) = W1 at *
  generalize w1.heap.size = pT at *
  go_wp2_with fail
  go_loopw [6] (fun i wr => ∃ n : Nat, n ≤ N ∧ i = .int .i64 n ∧ Blk wr w.heap.size 38 (A32 (mixTo s n)) ∧ Blk wr (w.heap.size + 1) 38 (A32 (zeros 32 16)) ∧ Blk wr pT 86 PL ∧ Below w.heap.size w wr) (fun i _ => N - (intOf i).toNat)
  case atStart => exact ⟨0, Nat.zero_le _, rfl, K1.out, Z1.out, T1.out, B1.out⟩
  case round =>
    obtain ⟨n, hn, rfl, hK, hZ, hT, hB⟩ := hrel
    have K2 := Lib.hid hK
    have Z2 := Lib.hid hZ
    have T2 := Lib.hid hT
    have B2 := Lib.hid hB
    clear hK hZ hT hB K1 Z1 T1 B1
    by_cases hnN : n < N
    · have n1 : (n : Int) < (N : Int) := by omega
      obtain ⟨st, hst⟩ : ∃ st, st = mixTo s n := ⟨_, rfl⟩
      have hsl : st.length = 16 := by rw [hst, mixTo_length, HS.out]
      have HST := Lib.hid hst
      have HSL := Lib.hid hsl
      rw [← hst] at K2
      clear hst hsl
      go_wp2_with fail
      go_loopw [7] (fun i wz => ∃ k : Nat, k ≤ 8 ∧ i = .int .i64 k ∧ Blk wz w.heap.size 38 (A32 (roundR st k)) ∧ Blk wz (w.heap.size + 1) 38 (A32 (zeros 32 16)) ∧ Blk wz pT 86 PL ∧ Below w.heap.size w wz) (fun i _ => 8 - (intOf i).toNat)
      case atStart => exact ⟨0, Nat.zero_le _, rfl, K2.out, Z2.out, T2.out, B2.out⟩
      case round =>
        obtain ⟨k, hk, rfl, hK, hZ, hT, hB⟩ := hrel
        have K3 := Lib.hid hK
        have Z3 := Lib.hid hZ
        have T3 := Lib.hid hT
        have B3 := Lib.hid hB
        clear hK hZ hT hB K2 Z2 T2 B2
        by_cases hk8 : k < 8
        · have k1 : (k : Int) < 8 := by omega
          have k0 : (0 : Int) ≤ (k : Int) := by omega
          obtain ⟨sk, hsk⟩ : ∃ sk, sk = roundR st k := ⟨_, rfl⟩
          have hkl : sk.length = 16 := by rw [hsk, roundR_length, HSL.out]
          rw [← hsk] at K3
          have HSK := Lib.hid hsk
          have HKL := Lib.hid hkl
          clear hsk hkl
          have tab : ∀ (wx : World), Blk wx pT 86 PL → ∀ j, j < 4 → wx.cell? ⟨pT, k * 4 + j, none⟩ = some (.int .i64 (placeAt k j)) := by
            intro wx hx j hj
            rw [hx.cell, Nat.mul_comm, PL_get k j hk8 hj]
          have HT := Lib.hid tab
          have l0 := placeAt_lt ⟨k, hk8⟩ ⟨0, by omega⟩
          have l1 := placeAt_lt ⟨k, hk8⟩ ⟨1, by omega⟩
          have l2 := placeAt_lt ⟨k, hk8⟩ ⟨2, by omega⟩
          have l3 := placeAt_lt ⟨k, hk8⟩ ⟨3, by omega⟩
          simp only at l0 l1 l2 l3
          obtain ⟨p0, e0⟩ : ∃ p, p = placeAt k 0 := ⟨_, rfl⟩
          obtain ⟨p1, e1⟩ : ∃ p, p = placeAt k 1 := ⟨_, rfl⟩
          obtain ⟨p2, e2⟩ : ∃ p, p = placeAt k 2 := ⟨_, rfl⟩
          obtain ⟨p3, e3⟩ : ∃ p, p = placeAt k 3 := ⟨_, rfl⟩
          rw [← e0] at l0
          rw [← e1] at l1
          rw [← e2] at l2
          rw [← e3] at l3
          have E0 := Lib.hid e0
          have E1 := Lib.hid e1
          have E2 := Lib.hid e2
          have E3 := Lib.hid e3
          clear e0 e1 e2 e3 tab
          have i0 : (p0 : Int) < 16 := by omega
          have i1 : (p1 : Int) < 16 := by omega
          have i2 : (p2 : Int) < 16 := by omega
          have i3 : (p3 : Int) < 16 := by omega
          go_upto_region 8 with fail
          refine wp_region_made (0 :: 0 :: 0 :: 1 :: 0 :: 1 :: 0 :: 0 :: 0 :: 1 :: 0 :: 1 :: 0 :: 0 :: 0 :: 1 :: 0 :: 1 :: 0 :: 0 :: 0 :: 1 :: 0 :: 1 :: 0 :: 1 :: 9 :: []) [2] [(26, .cells (A32 (zeros 32 4)) 46)] (by kernel_rfl) (by kernel_rfl) (by kernel_rfl) (by kernel_rfl) ?_ (fun C hC0 hCb hCn K' hK' => ?_)
          · intro p hp o ho
            simp only [List.mem_singleton] at hp
            subst hp
            simp at ho
            subst ho
            exact ⟨rfl, fun a w => by go_simp⟩
          have TC0 : ∀ w1, C w1 → w1.cell? ⟨pT, k * 4, none⟩ = some (.int .i64 (p0 : Int)) := fun w1 h => by rw [E0.out]; exact HT.out w1 (T3.out.drew.belowAll (hCb w1 h)) 0 (by omega)
          have SC0 : ∀ w1, C w1 → w1.cell? ⟨w.heap.size, p0, none⟩ = some (v32 (nth sk p0)) := fun w1 h => (K3.out.drew.belowAll (hCb w1 h)).cell32 HKL.out p0 l0
          have TC1 : ∀ w1, C w1 → w1.cell? ⟨pT, k * 4 + 1, none⟩ = some (.int .i64 (p1 : Int)) := fun w1 h => by rw [E1.out]; exact HT.out w1 (T3.out.drew.belowAll (hCb w1 h)) 1 (by omega)
          have SC1 : ∀ w1, C w1 → w1.cell? ⟨w.heap.size, p1, none⟩ = some (v32 (nth sk p1)) := fun w1 h => (K3.out.drew.belowAll (hCb w1 h)).cell32 HKL.out p1 l1
          have TC2 : ∀ w1, C w1 → w1.cell? ⟨pT, k * 4 + 2, none⟩ = some (.int .i64 (p2 : Int)) := fun w1 h => by rw [E2.out]; exact HT.out w1 (T3.out.drew.belowAll (hCb w1 h)) 2 (by omega)
          have SC2 : ∀ w1, C w1 → w1.cell? ⟨w.heap.size, p2, none⟩ = some (v32 (nth sk p2)) := fun w1 h => (K3.out.drew.belowAll (hCb w1 h)).cell32 HKL.out p2 l2
          have TC3 : ∀ w1, C w1 → w1.cell? ⟨pT, k * 4 + 3, none⟩ = some (.int .i64 (p3 : Int)) := fun w1 h => by rw [E3.out]; exact HT.out w1 (T3.out.drew.belowAll (hCb w1 h)) 3 (by omega)
          have SC3 : ∀ w1, C w1 → w1.cell? ⟨w.heap.size, p3, none⟩ = some (v32 (nth sk p3)) := fun w1 h => (K3.out.drew.belowAll (hCb w1 h)).cell32 HKL.out p3 l3
          repeat
            first
              | (with_reducible refine y_made ?_)
              | ((with_reducible refine y_obl (v := ?_) (a' := ?_) ?_ (fun _ => ?_) ?_ ?_); rotate_left; rotate_left; (focus (exact rfl)); (focus (go_simp; (try go_bits); exact rfl)); (focus (simp only [Act.put, List.setIfInBounds_toArray, List.set_cons_succ, List.set_cons_zero, Act.eval, Array.getD_eq_getD_getElem?, List.getElem?_toArray, List.getElem?_cons_succ, List.getElem?_cons_zero, Option.getD_some]; exact rfl)))
              | ((with_reducible refine y_read (v := ?_) (a' := ?_) ?_ (fun _ hcw => ?_) ?_ ?_); rotate_left; rotate_left; (focus (exact rfl)); (focus (have t0 := TC0 _ hcw; have s0 := SC0 _ hcw; have t1 := TC1 _ hcw; have s1 := SC1 _ hcw; have t2 := TC2 _ hcw; have s2 := SC2 _ hcw; have t3 := TC3 _ hcw; have s3 := SC3 _ hcw; go_simp; (try go_bits); exact rfl)); (focus (simp only [Act.put, List.setIfInBounds_toArray, List.set_cons_succ, List.set_cons_zero, Act.eval, Array.getD_eq_getD_getElem?, List.getElem?_toArray, List.getElem?_cons_succ, List.getElem?_cons_zero, Option.getD_some]; exact rfl)))
              | ((with_reducible refine y_skip (a' := ?_) ?_ ?_ ?_); rotate_left; (focus (exact rfl)); (focus (simp only [Act.put, List.setIfInBounds_toArray, List.set_cons_succ, List.set_cons_zero, Act.eval, Array.getD_eq_getD_getElem?, List.getElem?_toArray, List.getElem?_cons_succ, List.getElem?_cons_zero, Option.getD_some]; exact rfl)))
              | ((with_reducible refine y_skip1 (a' := ?_) ?_ ?_ ?_); rotate_left; (focus (exact rfl)); (focus (simp only [Act.put, List.setIfInBounds_toArray, List.set_cons_succ, List.set_cons_zero, Act.eval, Array.getD_eq_getD_getElem?, List.getElem?_toArray, List.getElem?_cons_succ, List.getElem?_cons_zero, Option.getD_some]; exact rfl)))
          ((with_reducible refine y_call (v := ?_) (a' := ?_) ?_ (fun wq hcw => ?_) ?_ ?_); rotate_left; rotate_left)
          · exact rfl
          · go_simp
            refine entersB_of ?_
            exact refQuarter_any (nth sk p0) (nth sk p1) (nth sk p2) (nth sk p3) wq
          · (simp only [Act.put, List.setIfInBounds_toArray, List.set_cons_succ, List.set_cons_zero, Act.eval, Array.getD_eq_getD_getElem?, List.getElem?_toArray, List.getElem?_cons_succ, List.getElem?_cons_zero, Option.getD_some]; exact rfl)
          repeat
            first
              | (with_reducible refine y_made ?_)
              | ((with_reducible refine y_obl (v := ?_) (a' := ?_) ?_ (fun _ => ?_) ?_ ?_); rotate_left; rotate_left; (focus (exact rfl)); (focus (go_simp; (try go_bits); exact rfl)); (focus (simp only [Act.put, List.setIfInBounds_toArray, List.set_cons_succ, List.set_cons_zero, Act.eval, Array.getD_eq_getD_getElem?, List.getElem?_toArray, List.getElem?_cons_succ, List.getElem?_cons_zero, Option.getD_some]; exact rfl)))
              | ((with_reducible refine y_read (v := ?_) (a' := ?_) ?_ (fun _ hcw => ?_) ?_ ?_); rotate_left; rotate_left; (focus (exact rfl)); (focus (have t0 := TC0 _ hcw; have s0 := SC0 _ hcw; have t1 := TC1 _ hcw; have s1 := SC1 _ hcw; have t2 := TC2 _ hcw; have s2 := SC2 _ hcw; have t3 := TC3 _ hcw; have s3 := SC3 _ hcw; go_simp; (try go_bits); exact rfl)); (focus (simp only [Act.put, List.setIfInBounds_toArray, List.set_cons_succ, List.set_cons_zero, Act.eval, Array.getD_eq_getD_getElem?, List.getElem?_toArray, List.getElem?_cons_succ, List.getElem?_cons_zero, Option.getD_some]; exact rfl)))
              | ((with_reducible refine y_skip (a' := ?_) ?_ ?_ ?_); rotate_left; (focus (exact rfl)); (focus (simp only [Act.put, List.setIfInBounds_toArray, List.set_cons_succ, List.set_cons_zero, Act.eval, Array.getD_eq_getD_getElem?, List.getElem?_toArray, List.getElem?_cons_succ, List.getElem?_cons_zero, Option.getD_some]; exact rfl)))
              | ((with_reducible refine y_skip1 (a' := ?_) ?_ ?_ ?_); rotate_left; (focus (exact rfl)); (focus (simp only [Act.put, List.setIfInBounds_toArray, List.set_cons_succ, List.set_cons_zero, Act.eval, Array.getD_eq_getD_getElem?, List.getElem?_toArray, List.getElem?_cons_succ, List.getElem?_cons_zero, Option.getD_some]; exact rfl)))
          refine y_nil (fin_one fun g wa hgW hcw hg => ?_)
          simp only [Act.put, List.setIfInBounds_toArray, List.set_cons_succ, List.set_cons_zero, List.getElem?_cons_succ, List.getElem?_cons_zero, Option.bind_some]
          have hg' : Blk wa g 46 (A32 (zeros 32 4)) := hg
          obtain ⟨qq, hqq⟩ : ∃ qq, qq = quarterL (nth sk p0) (nth sk p1) (nth sk p2) (nth sk p3) := ⟨_, rfl⟩
          have hql : qq.length = 4 := by rw [hqq]; rfl
          rw [show [(quarter (nth sk p0) (nth sk p1) (nth sk p2) (nth sk p3)).1, (quarter (nth sk p0) (nth sk p1) (nth sk p2) (nth sk p3)).2.1, (quarter (nth sk p0) (nth sk p1) (nth sk p2) (nth sk p3)).2.2.1, (quarter (nth sk p0) (nth sk p1) (nth sk p2) (nth sk p3)).2.2.2] = qq from hqq.symm]
          refine z_storeRow hg' rfl rfl (by rw [A32_size, A32_size, hql, zeros_length]) (A32_ones _) (by rw [A32_size, hql]; exact Try.sizeOf46 _) (fun wb hbb hgb hsb => ?_)
          refine z_nil (hK' _ _ ?_)
          have e1 := hCb wa hcw
          have hgw' : wr.drew.heap.size ≤ g := by simpa using hgW
          have d1 : Below wr.drew.heap.size wr.drew wb := e1.trans (grown_below hgb hgw' e1.size)
          have K4 := Lib.hid (K3.out.drew.belowAll d1)
          have Z4 := Lib.hid (Z3.out.drew.belowAll d1)
          have T4 := Lib.hid (T3.out.drew.belowAll d1)
          have B4 := Lib.hid (B3.out.drew.trans (d1.mono B3.out.size))
          have Q4 := Lib.hid hbb
          have HQ := Lib.hid hqq
          have HQL := Lib.hid hql
          have hgs : w.heap.size + 1 < g := by have h1 : w.heap.size + 1 < wr.drew.heap.size := Z3.out.lt; omega
          have hgT : pT < g := by have h1 : pT < wr.drew.heap.size := T3.out.lt; omega
          clear hC0 hCb hCn TC0 TC1 TC2 TC3 SC0 SC1 SC2 SC3 hg hg' hgb hsb e1 d1 hgw' hgW hbb hqq hql hcw K3 Z3 T3 B3 hK'
          go_wp2_with fail
          go_loopw [9] (fun i wy => ∃ j : Nat, j ≤ 4 ∧ i = .int .i64 j ∧ Blk wy w.heap.size 38 (A32 (layR sk qq k j)) ∧ Blk wy (w.heap.size + 1) 38 (A32 (zeros 32 16)) ∧ Blk wy pT 86 PL ∧ Blk wy g 46 (A32 qq) ∧ Below w.heap.size w wy) (fun i _ => 4 - (intOf i).toNat)
          case atStart => exact ⟨0, Nat.zero_le _, rfl, K4.out, Z4.out, T4.out, Q4.out, B4.out⟩
          case round =>
            obtain ⟨j, hj, rfl, hK, hZ, hT, hQ, hB⟩ := hrel
            have K5 := Lib.hid hK
            have Z5 := Lib.hid hZ
            have T5 := Lib.hid hT
            have Q5 := Lib.hid hQ
            have B5 := Lib.hid hB
            clear hK hZ hT hQ hB K4 Z4 T4 Q4 B4
            by_cases hj4 : j < 4
            · have j1 : (j : Int) < 4 := by omega
              have j0 : (0 : Int) ≤ (j : Int) := by omega
              have lp := placeAt_lt ⟨k, hk8⟩ ⟨j, hj4⟩
              simp only at lp
              obtain ⟨p, ep⟩ : ∃ p, p = placeAt k j := ⟨_, rfl⟩
              have tj : wr.drew.cell? ⟨pT, k * 4 + j, none⟩ = some (.int .i64 (p : Int)) := by rw [ep]; exact HT.out _ T5.out j hj4
              have qj := Q5.out.drew.cell32 HQL.out j hj4
              rw [← ep] at lp
              have EP := Lib.hid ep
              clear ep
              have ip : (p : Int) < 16 := by omega
              have ip0 : (0 : Int) ≤ (p : Int) := by omega
              go_upto_region 12 with fail
              refine wp_region_text3' [0,0,0,0,1,0,0,1,0,2] (by kernel_rfl) (by kernel_rfl) (fun ops' K2 hK2 => ?_)
              repeat
                first
                  | ((with_reducible refine z_move (a' := ?_) ?_ ?_); rotate_left; · (simp only [Act.put, List.setIfInBounds_toArray, List.set_cons_succ, List.set_cons_zero, Act.eval, Array.getD_eq_getD_getElem?, List.getElem?_toArray, List.getElem?_cons_succ, List.getElem?_cons_zero, Option.getD_some]; exact rfl))
                  | ((with_reducible refine z_assign (a' := ?_) ?_ ?_); rotate_left; · (simp only [Act.put, List.setIfInBounds_toArray, List.set_cons_succ, List.set_cons_zero, Act.eval, Array.getD_eq_getD_getElem?, List.getElem?_toArray, List.getElem?_cons_succ, List.getElem?_cons_zero, Option.getD_some]; exact rfl))
                  | ((with_reducible refine z_obl (v := ?_) (a' := ?_) rfl (fun _ => ?_) ?_ ?_); rotate_left; rotate_left; (focus (go_simp; (try go_bits); exact rfl)); (focus (simp only [Act.put, List.setIfInBounds_toArray, List.set_cons_succ, List.set_cons_zero, Act.eval, Array.getD_eq_getD_getElem?, List.getElem?_toArray, List.getElem?_cons_succ, List.getElem?_cons_zero, Option.getD_some]; exact rfl)))
                  | ((with_reducible refine z_read (v := ?_) (a' := ?_) rfl ?_ ?_ ?_); rotate_left; rotate_left; (focus (go_simp; (try go_bits); exact rfl)); (focus (simp only [Act.put, List.setIfInBounds_toArray, List.set_cons_succ, List.set_cons_zero, Act.eval, Array.getD_eq_getD_getElem?, List.getElem?_toArray, List.getElem?_cons_succ, List.getElem?_cons_zero, Option.getD_some]; exact rfl)))
              refine z_store32 K5.out.drew rfl rfl (by rw [layR_length, HKL.out]; exact lp) (Try.sizeOf37 _) (fun wc hbc hgc hsc => ?_)
              refine z_nil (hK2 _ _ ?_)
              rw [EP.out] at hbc
              have K6 := Lib.hid (show Blk wc w.heap.size 38 (A32 (layR sk qq k (j + 1))) from hbc)
              have Z6 := Lib.hid (Z5.out.drew.grown hgc (by simp))
              have T6 := Lib.hid (T5.out.drew.grown hgc (by simp; omega))
              have Q6 := Lib.hid (Q5.out.drew.grown hgc (by simp; omega))
              have B6 := Lib.hid (B5.out.drew.trans (grown_below hgc (Nat.le_refl _) B5.out.size))
              clear hbc hgc hsc tj qj
              go_wp2
              exact ⟨⟨j + 1, by omega, by go_num, K6.out, Z6.out, T6.out, Q6.out, B6.out⟩, by simp [intOf]; omega⟩
            · obtain rfl : j = 4 := by omega
              have hfin : layR sk qq k 4 = roundR st (k + 1) := by
                rw [HQ.out, E0.out, E1.out, E2.out, E3.out, HSK.out]
                exact layR_round st k
              have K6 := K5.out
              rw [hfin] at K6
              have K6 := Lib.hid K6
              clear hfin
              go_wp2
              exact ⟨⟨k + 1, by omega, by go_num, K6.out, Z5.out, T5.out, B5.out⟩, by simp [intOf]; omega⟩
        · obtain rfl : k = 8 := by omega
          have K6 := K3.out
          rw [roundR_twice, HST.out] at K6
          have K6 := Lib.hid (show Blk wr w.heap.size 38 (A32 (mixTo s (n + 1))) from K6)
          go_wp2
          exact ⟨⟨n + 1, by omega, by go_num, K6.out, Z3.out, T3.out, B3.out⟩, by simp [intOf]; omega⟩
    · obtain rfl : n = N := by omega
      have r1 := K2.out.row
      have r2 := Z2.out.row
      have r3 := Z2.out.whole
      have hl : (mixTo s n).length = 16 := by rw [mixTo_length, HS.out]
      go_wp2
      refine bodyPost_row (A32 (mixTo s n)) rfl rfl rfl (Try.isAgg38 _) (Try.sizeOf38 _) (by rw [A32_size]; exact hl) (rowAt_setRow _ r3) ⟨by rw [← HN.out], below_setRow B2.out (by omega) _⟩
end Go.Proofs.Ythogbbigglmapaa
