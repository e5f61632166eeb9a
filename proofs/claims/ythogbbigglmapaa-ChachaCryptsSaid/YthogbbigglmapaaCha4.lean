/- chacha: put -/
import Derived.Test.YthogbbigglmapaaCha3
namespace Go.Proofs.Ythogbbigglmapaa
open Go.RowKit
/-- numbers as bytes, one behind the other -/
def bytes32 (l : List (BitVec 32)) : List (BitVec 8) := l.flatMap le32
theorem bytes32_length (l : List (BitVec 32)) : (bytes32 l).length = 4 * l.length := by
  induction l with
  | nil => rfl
  | cons x l ih => simp only [bytes32, List.flatMap_cons, List.length_append, le32_length, List.length_cons] at *; omega
theorem bytes32_append (a b : List (BitVec 32)) : bytes32 (a ++ b) = bytes32 a ++ bytes32 b := by simp [bytes32]
theorem splc_splc {n : Nat} (m : List (BitVec n)) (o : Nat) (x y : List (BitVec n)) (h : o + x.length + y.length ≤ m.length) : splc (splc m o x) (o + x.length) y = splc m o (x ++ y) := by
  have hx := splc_length m o x (by omega)
  apply ext_nth
  · rw [splc_length _ _ _ (by omega), hx, splc_length _ _ _ (by simp; omega)]
  · intro i _
    rw [nth_splc _ _ _ (by omega), nth_splc _ _ _ (by omega), nth_splc _ _ _ (by simp; omega), nth_append]
    simp only [List.length_append]
    by_cases h1 : i < o
    · rw [if_neg (by omega), if_neg (by omega), if_neg (by omega)]
    · by_cases h2 : i < o + x.length
      · rw [if_neg (by omega), if_pos (by omega), if_pos (by omega), if_pos (by omega)]
      · by_cases h3 : i < o + x.length + y.length
        · rw [if_pos (by omega), if_pos (by omega), if_neg (by omega)]
          congr 1; omega
        · rw [if_neg (by omega), if_neg (by omega), if_neg (by omega)]
theorem take_succ_nth {n : Nat} (l : List (BitVec n)) (j : Nat) (h : j < l.length) : l.take (j + 1) = l.take j ++ [nth l j] := by
  rw [List.take_succ_eq_append_getElem h, nth_get h]
set_option linter.unusedSimpArgs false in
set_option maxRecDepth 100000 in
theorem put_any (s : List (BitVec 32)) (m : List (BitVec 8)) (g o L C h off n c : Nat) (t T : TypeId) (w : World) (hb : Blk w g t (A8 m)) (hs : Blk w h T (A32 s)) (hne : h ≠ g) (hoff : off + n ≤ s.length) (hL : 4 * n ≤ L) (hLC : L ≤ C) (hC : C ≤ 1000000) (ho : o + 4 * n ≤ m.length) :
    Calls Try.prog 52 #[.slice (some ⟨g, o, none⟩) L C, .slice (some ⟨h, off, none⟩) n c] w fun e w' => e = .returned (.tuple #[]) ∧ w.grownBy w' (some g) ∧ Blk w' g t (A8 (splc m o (bytes32 ((s.drop off).take n)))) := by
  have Hb := Lib.hid hb
  have Hs := Lib.hid hs
  clear hb hs
  go_enter Try.func52, Try.ntmps52
  go_wp2
  go_loopw [9] (fun i wr => ∃ j : Nat, j ≤ n ∧ i = .int .i64 j ∧ Blk wr g t (A8 (splc m o (bytes32 ((s.drop off).take j)))) ∧ w.grownBy wr (some g)) (fun i _ => n - (intOf i).toNat)
  case atStart => exact ⟨0, Nat.zero_le _, rfl, by rw [List.take_zero, show bytes32 [] = [] from rfl, splc_nil]; exact Hb.out, grown_refl _ _⟩
  case round =>
    obtain ⟨j, hj, rfl, hblk, hgr⟩ := hrel
    have Hk := Lib.hid hblk
    have Hg := Lib.hid hgr
    clear hblk hgr
    by_cases hjn : j < n
    · have hx : wr.cell? ⟨h, off + j, none⟩ = some (v32 (nth (s.drop off) j)) := by
        rw [nth_drop]
        exact (Hs.out.grown Hg.out (by simpa using hne)).cell32 rfl _ (by omega)
      have i1 : (j : Int) < (n : Int) := by omega
      have i0 : (0 : Int) ≤ (j : Int) := by omega
      go_wp2_with fail
      refine (putword_any _ _).mono ?_
      rintro e w1 ⟨rfl, hb1⟩
      have B1 := Lib.hid hb1
      have s1 := hb1.size
      clear hb1 hx
      go_wp2_with fail
      have hnc : ¬ C = 4 * j := by omega
      have c1 : (4 * (j : Int)) ≤ (L : Int) := by omega
      have c0 : (0 : Int) ≤ 4 * (j : Int) := by omega
      have c2 : (4 * (j : Int)).toNat = 4 * j := by omega
      refine wp_region_text' [0,0,0,0,0,2] (by kernel_rfl) (by kernel_rfl) (fun ops' K' hK' => ?_)
      repeat
        first
          | ((with_reducible refine z_move (a' := ?_) ?_ ?_); rotate_left; · (simp only [Act.put, List.setIfInBounds_toArray, List.set_cons_succ, List.set_cons_zero, Act.eval, Array.getD_eq_getD_getElem?, List.getElem?_toArray, List.getElem?_cons_succ, List.getElem?_cons_zero, Option.getD_some]; exact rfl))
          | ((with_reducible refine z_assign (a' := ?_) ?_ ?_); rotate_left; · (simp only [Act.put, List.setIfInBounds_toArray, List.set_cons_succ, List.set_cons_zero, Act.eval, Array.getD_eq_getD_getElem?, List.getElem?_toArray, List.getElem?_cons_succ, List.getElem?_cons_zero, Option.getD_some]; exact rfl))
          | ((with_reducible refine z_obl (v := ?_) (a' := ?_) rfl (fun _ => ?_) ?_ ?_); rotate_left; rotate_left; (focus (go_simp; (try go_bits); exact rfl)); (focus (simp only [Act.put, List.setIfInBounds_toArray, List.set_cons_succ, List.set_cons_zero, Act.eval, Array.getD_eq_getD_getElem?, List.getElem?_toArray, List.getElem?_cons_succ, List.getElem?_cons_zero, Option.getD_some]; exact rfl)))
          | ((with_reducible refine z_read (v := ?_) (a' := ?_) rfl ?_ ?_ ?_); rotate_left; rotate_left; (focus (go_simp; (try go_bits); exact rfl)); (focus (simp only [Act.put, List.setIfInBounds_toArray, List.set_cons_succ, List.set_cons_zero, Act.eval, Array.getD_eq_getD_getElem?, List.getElem?_toArray, List.getElem?_cons_succ, List.getElem?_cons_zero, Option.getD_some]; exact rfl)))
      have K1 := (Hk.out.belowAll B1.out).alloc (.cells (A8 (le32 (nth (s.drop off) j))) 41)
      have R1 := (Blk.new w1 41 (A8 (le32 (nth (s.drop off) j)))).rd8 4 (by simp) (by simp [maxLen])
      rw [List.take_of_length_le (by simp)] at R1
      have hpl : (bytes32 ((s.drop off).take j)).length = 4 * j := by rw [bytes32_length]; simp; omega
      have e4 : min 4 (L - 4 * j) = 4 := by omega
      refine z_copy8 K1.drew R1.drew rfl rfl Try.underlying22 size8 ?_ ?_
      · rw [splc_length _ _ _ (by omega)]; omega
      rintro w2 v k2 g2 _
      have e5 := splc_splc m o (bytes32 ((s.drop off).take j)) (le32 (nth (s.drop off) j)) (by rw [hpl]; simp; omega)
      have e6 : bytes32 ((s.drop off).take j) ++ le32 (nth (s.drop off) j) = bytes32 ((s.drop off).take (j + 1)) := by
        rw [take_succ_nth _ _ (by simp; omega), bytes32_append]; simp [bytes32]
      rw [e4, List.take_of_length_le (l := le32 _) (by simp), ← hpl, e5, e6] at k2
      have K2 := Lib.hid k2
      have G2 := Lib.hid g2
      clear k2 g2 e5 e6 e4 hpl R1 K1 c0 c1 c2 hnc
      refine z_nil (hK' _ _ ?_)
      go_wp2
      exact ⟨⟨j + 1, by omega, by go_num, K2.out, grown_trans Hg.out (grown_trans (below_grown B1.out _) (grown_trans (World.grownBy_alloc _ _ _) (grown_trans (grown_drew (grown_refl _ _)) G2.out)))⟩, by simp [intOf]; omega⟩
    · obtain rfl : j = n := by omega
      go_wp2
      go_end0
      exact ⟨rfl, Hg.out, Hk.out⟩
end Go.Proofs.Ythogbbigglmapaa
