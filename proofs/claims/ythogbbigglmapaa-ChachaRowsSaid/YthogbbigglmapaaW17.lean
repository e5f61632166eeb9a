/- chacha: crypt twice: the walk -/
import Derived.Test.YthogbbigglmapaaTx
namespace Go.Proofs.Ythogbbigglmapaa
open Go.RowKit
theorem streamOf_back (f : Nat → List (BitVec 8)) (b : List (BitVec 8)) : streamOf f (streamOf f b) = b := by
  apply ext_nth
  · rw [streamOf_length, streamOf_length]
  · intro i hi
    rw [streamOf_length, streamOf_length] at hi
    rw [nth_streamOf _ _ _ (by rw [streamOf_length]; exact hi), nth_streamOf _ _ _ hi]
    generalize nth (f (i / 64)) (i % 64) = y
    generalize nth b i = x
    rw [BitVec.xor_assoc, BitVec.xor_self, BitVec.xor_zero]
theorem crypt_back (key nonce : List (BitVec 8)) (r : Nat) (b : List (BitVec 8)) : cryptOf key nonce r (cryptOf key nonce r b) = b := streamOf_back _ _
theorem cryptOf_length (key nonce : List (BitVec 8)) (r : Nat) (b : List (BitVec 8)) : (cryptOf key nonce r b).length = b.length := streamOf_length _ _
set_option linter.unusedSimpArgs false in
set_option maxRecDepth 100000 in
set_option maxHeartbeats 800000 in
theorem ChachaBack_walk (T : Array Value) (k n : List (BitVec 8)) (r : Int) (a : Option Addr) (len cap : Nat) (l : List (BitVec 8)) (w : World) (h : TextAt T k n r a len cap) (hl : Rd8 w a len cap l) :
    Calls Try.prog 17 #[.agg T] w fun e w' => e = .returned (.bool true) ∧ Below w.heap.size w w' := by
  obtain ⟨W, hW⟩ : ∃ W, (w.alloc (.cells T 66)) = W := ⟨_, rfl⟩
  obtain ⟨b0, hb, hz⟩ := new1 _ _ _ _ hW
  have r0 := b0.row
  have s0 := h.size
  have B0 := Lib.hid b0
  have B := Lib.hid hb
  have LL := Lib.hid hl
  have HH := Lib.hid h
  have x0 : T.extract 0 58 = T := by rw [← s0]; simp
  clear hb hz b0 h hl
  go_enter Try.func17, Try.ntmps17
  go_wp2_with fail
  refine (text_right W HH.out).mono ?_
  rintro e w1 ⟨rfl, hb1⟩
  clear hW r0
  have B1 := Lib.hid (B0.out.belowAll hb1)
  have C1 := Lib.hid (B.out.trans (hb1.mono B.out.size))
  have z1 := C1.out.size
  clear B0 B hb1
  by_cases hR : len ≤ 300 ∧ (r = 8 ∨ r = 12 ∨ r = 20)
  · rw [decide_eq_true hR]
    have r0 := B1.out.row
    have t0 := HH.out.key
    have t1 := HH.out.nonce
    have c1 := B1.out.cell 56
    have c2 := B1.out.cell 57
    rw [HH.out.rounds] at c1
    rw [HH.out.b] at c2
    go_wp2_with fail
    have len2 : len ≤ 140737488355328 := by omega
    refine (crypt_yes k n l r a len cap w1 HH.out.lk HH.out.ln hR.2 (LL.out.below C1.out) len2).mono ?_
    rintro e w2 ⟨v2, rfl, ho2, hb2⟩
    obtain ⟨c, hc⟩ : ∃ c, c = cryptOf k n r.toNat l := ⟨_, rfl⟩
    rw [← hc] at ho2
    have hcl : c.length = len := by rw [hc, cryptOf_length, LL.out.1]
    obtain ⟨a2, c2', rfl, hr2, _⟩ := ho2.rd
    rw [hcl] at hr2 ⊢
    have R2 := Lib.hid hr2
    have B2 := Lib.hid (B1.out.belowAll hb2)
    have C2 := Lib.hid (C1.out.trans (hb2.mono C1.out.size))
    have HC := Lib.hid hc
    clear r0 c1 c2 ho2 hr2 hb2 hc z1
    have r0 := B2.out.row
    have c1 := B2.out.cell 56
    have c2 := B2.out.cell 57
    rw [HH.out.rounds] at c1
    rw [HH.out.b] at c2
    go_wp2_with fail
    refine (crypt_yes k n c r a2 len c2' w2 HH.out.lk HH.out.ln hR.2 R2.out len2).mono ?_
    rintro e w3 ⟨v3, rfl, ho3, hb3⟩
    rw [show cryptOf k n r.toNat c = l by rw [HC.out]; exact crypt_back _ _ _ _] at ho3
    obtain ⟨a3, c3', rfl, hr3, _⟩ := ho3.rd
    rw [LL.out.1] at hr3 ⊢
    have B3 := Lib.hid (B2.out.belowAll hb3)
    have C3 := Lib.hid (C2.out.trans (hb3.mono C2.out.size))
    have s1 := run_str (P := Try.prog) w3 22 9 5 a3 len c3' l Try.underlying22 Try.underlying9 Try.underlying5 hr3
    have s2 := run_str (P := Try.prog) w3 22 9 5 a len cap l Try.underlying22 Try.underlying9 Try.underlying5 (LL.out.below C3.out)
    clear r0 c1 c2 ho3 hb3
    have r0 := B3.out.row
    have c1 := B3.out.cell 56
    have c2 := B3.out.cell 57
    rw [HH.out.rounds] at c1
    rw [HH.out.b] at c2
    go_wp2_with fail
    refine (awake_any _).mono ?_
    rintro e w5 ⟨rfl, hb5⟩
    go_wp2
    go_ret
    exact ⟨rfl, C3.out.trans (hb5.mono C3.out.size)⟩
  · rw [decide_eq_false hR]
    go_wp2
    go_ret
    exact ⟨rfl, C1.out⟩
end Go.Proofs.Ythogbbigglmapaa
