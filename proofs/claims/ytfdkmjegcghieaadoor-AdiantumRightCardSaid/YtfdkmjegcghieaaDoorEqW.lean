/- wide numbers: the same one is itself; differences -/
import Derived.Test.YtfdkmjegcghieaaDoorHl
import Derived.Test.YtfdkmjegcghieaaDoorEq
namespace Go.Proofs.YtfdkmjegcghieaaDoor
open Go.RowKit
theorem eqW_self (x : W2) (w : World) : (binOp .eql 63 (.agg (A64 (wl x))) (.agg (A64 (wl x)))).run Tryd.prog w = .ok (.bool true) w := by
  have h : (Op.equalIn 10000 63 (.agg (A64 (wl x))) (.agg (A64 (wl x)))).run Tryd.prog w = .ok true w := by
    have f : (Tryd.prog.fieldsOf 63).toList.map (fun f => (f.name == "_", f.type, f.offset)) = [(false, 61, 0), (false, 61, 1)] := by kernel_rfl
    rw [run_equalIn_struct w 9999 63 _ _ (by kernel_rfl) (by kernel_rfl)]
    generalize (Tryd.prog.fieldsOf 63).toList = fs at f
    have hl : fs.length = 2 := by simpa using congrArg List.length f
    obtain ⟨p, q, rfl⟩ : ∃ p q, fs = [p, q] := by
      rcases fs with _ | ⟨p, _ | ⟨q, _ | ⟨r, t⟩⟩⟩
      · cases hl
      · cases hl
      · exact ⟨p, q, rfl⟩
      · simp at hl
    simp only [List.map_cons, List.map_nil, List.cons.injEq, Prod.mk.injEq, and_true] at f
    obtain ⟨⟨p1, p2, p3⟩, q1, q2, q3⟩ := f
    have p1' : p.name ≠ "_" := by simpa using p1
    have q1' : q.name ≠ "_" := by simpa using q1
    have e0 : (part 61 (A64 (wl x)) 0).run Tryd.prog w = .ok (v64 x.1) w := by
      simp [part, isAgg, run_underlying Tryd.underlying61, A64_get (wl x) 0 (by simp), show nth (wl x) 0 = x.1 from rfl]
    have e1 : (part 61 (A64 (wl x)) 1).run Tryd.prog w = .ok (v64 x.2) w := by
      simp [part, isAgg, run_underlying Tryd.underlying61, A64_get (wl x) 1 (by simp), show nth (wl x) 1 = x.2 from rfl]
    simp [Op.eqFields, p1', q1', p2, p3, q2, q3, e0, e1, v64, run_equalIn_int w 9998 61 .u64 .u64 _ _ Tryd.underlying61]
  rw [run_eql_struct, h]; rfl
/-- a wide number as one number -/
def vW (x : W2) : Nat := x.1.toNat + 18446744073709551616 * x.2.toNat
theorem vW_inj {x y : W2} (h : vW x = vW y) : x = y := by
  have h1 := x.1.isLt
  have h2 := y.1.isLt
  unfold vW at h
  have e1 : x.1.toNat = y.1.toNat := by omega
  have e2 : x.2.toNat = y.2.toNat := by omega
  exact Prod.ext (BitVec.eq_of_toNat_eq e1) (BitVec.eq_of_toNat_eq e2)
theorem vW_add (x y : W2) : vW (addW2 x y) = (vW x + vW y) % 340282366920938463463374607431768211456 := by
  have h1 := x.1.isLt
  have h2 := y.1.isLt
  have h3 := x.2.isLt
  have h4 := y.2.isLt
  unfold vW addW2 carU
  simp only [BitVec.toNat_add, BitVec.toNat_ofNat]
  generalize x.1.toNat = a at *
  generalize x.2.toNat = b at *
  generalize y.1.toNat = c at *
  generalize y.2.toNat = d at *
  omega
theorem vW_sub (x y : W2) : vW (subW2 x y) = (vW x + 340282366920938463463374607431768211456 - vW y) % 340282366920938463463374607431768211456 := by
  have h1 := x.1.isLt
  have h2 := y.1.isLt
  have h3 := x.2.isLt
  have h4 := y.2.isLt
  unfold vW subW2 borU
  simp only [BitVec.toNat_sub, BitVec.toNat_ofNat]
  generalize x.1.toNat = a at *
  generalize x.2.toNat = b at *
  generalize y.1.toNat = c at *
  generalize y.2.toNat = d at *
  split <;> omega
theorem sub_both (x y s : W2) : subW2 (addW2 x s) (addW2 y s) = subW2 x y := by
  apply vW_inj
  have hx : vW x < 340282366920938463463374607431768211456 := by unfold vW; have := x.1.isLt; have := x.2.isLt; omega
  have hy : vW y < 340282366920938463463374607431768211456 := by unfold vW; have := y.1.isLt; have := y.2.isLt; omega
  rw [vW_sub, vW_sub, vW_add, vW_add]
  generalize vW x = a at *
  generalize vW y = b at *
  generalize vW s = c at *
  omega
/-- what is enciphered tells its middle -/
theorem encA_right (key tw M : List (BitVec 8)) : addW2 (rightA (encA key tw M)) (sumN (hashA key) tw (bulkA (encA key tw M))) = midE key tw M := by
  rw [encA, rightA_join, bulkA_join, add_sub_W2]
theorem encA_plain (key tw M : List (BitVec 8)) : decS (aesA key) 15 (bytesW (midE key tw M)) = bytesW (addW2 (rightA M) (sumN (hashA key) tw (bulkA M))) := by
  rw [midE, bytesW_wideN _ (encS_length _ _ _), dec_enc_aes _ _ _ (bytesW_length _) (by rw [aesA_length]) (by omega)]
end Go.Proofs.YtfdkmjegcghieaaDoor
