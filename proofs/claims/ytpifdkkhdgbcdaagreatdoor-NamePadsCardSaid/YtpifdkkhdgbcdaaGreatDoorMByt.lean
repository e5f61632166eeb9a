/- bytes made of a string -/
import Derived.Test.YtpifdkkhdgbcdaaGreatDoorMNc
import Derived.Test.YtpifdkkhdgbcdaaGreatDoorMGa
import Derived.Test.YtpifdkkhdgbcdaaGreatDoorMGt
import Derived.Laws.IdiomStrings
namespace Go.Proofs.YtpifdkkhdgbcdaaGreatDoor
set_option linter.unusedSimpArgs false
set_option maxRecDepth 100000
set_option maxHeartbeats 1600000
open Go.RowKit
theorem rd_bytes (w : World) (e : TypeId) (l : List (BitVec 8)) (cap : Nat) (f : Nat × Nat) (hc : l.length ≤ cap) (hm : cap ≤ maxLen) : Rd8 (w.alloc (.cells (bytesRow (str l) cap) e f)) (some ⟨w.heap.size, 0, none⟩) l.length cap l := by
 refine ⟨rfl, hc, hm, fun _ => ⟨w.heap.size, 0, rfl, by simp, fun i hi => ?_⟩⟩
 rw [Nat.zero_add, cell_rowAt]
 unfold rowAt
 rw [heap_alloc_new]
 unfold bytesRow
 have h1 : i < ((str l).data.map (fun b => Value.int .u8 b.toNat)).size := by
  rw [Array.size_map]
  have : (str l).data.size = l.length := str_size l
  omega
 rw [Array.getElem?_append_left h1, Array.getElem?_map, ← Array.getElem?_toList, str_data, List.getElem?_map, nth_eq hi]
 rfl
section
variable {P : Program} {ops : Array Oper} {K : Act → World → Prop} {ks : List Nat} {L : List Oper} {a : Act} {w : World}
theorem z_bytes {d : Option Tmp} {x : Operand} {src dst e ty : TypeId} {pos : String} {after : Array Edge} {l : List (BitVec 8)} (hx : a.eval x = .string (str l)) (hs : P.underlying src = some .string) (hd : P.underlying dst = some (.slice e)) (he : P.underlying e = some (.int .u8)) (hm : l.length ≤ maxLen)
  (h : ∀ w1 g cap, Rd8 w1 (some ⟨g, 0, none⟩) l.length cap l → w.heap.size ≤ g → (∀ i, i < l.length → w1.frozen? ⟨g, i, none⟩ = false) → Below w.heap.size w w1 → wpZ P ops K ks L (a.put d (.slice (some ⟨g, 0, none⟩) l.length cap)) w1) :
  wpZ P ops K (2 :: ks) (⟨d, .convert src dst x, ty, pos, after, none⟩ :: L) a w := by
 unfold wpZ opT
 simp only [Region.wanted, if_true]
 obtain ⟨cap, hcap⟩ : ∃ cap, cap = grownCap w (str l).size 0 e := ⟨_, rfl⟩
 have h1 := run_bytes_of_string (P := P) w src dst e (str l) hs hd he
 rw [← hcap, str_size] at h1
 have hr : (execOp a.eval ⟨d, .convert src dst x, ty, pos, after, none⟩).run P w = .ok (.value (.slice (some ⟨w.heap.size, 0, none⟩) l.length cap)) (w.drew.alloc (.cells (bytesRow (str l) cap) e ((bytesRow (str l) cap).size, (bytesRow (str l) cap).size + 1))) := by
  simp only [execOp, hx, Sem.run_bind, h1, Result.andThen_ok, Sem.run_pure]
 have c1 : l.length ≤ cap := by rw [hcap, ← str_size]; exact grownCap_ge w _ _ _
 have c2 : cap ≤ maxLen := by rw [hcap]; exact grownCap_le_maxLen w _ _ _ (by rw [str_size]; exact hm)
 have hsz : (bytesRow (str l) cap).size = cap := by
  unfold bytesRow
  have := str_size l
  unfold ByteArray.size at this
  simp [ByteArray.size, this]
  omega
 unfold Oper.wp
 rw [hr]
 refine h _ _ _ (rd_bytes w.drew e l cap _ c1 c2) (Nat.le_refl _) (fun i hi => ?_) (((Below.refl _ _).drew).alloc (Nat.le_refl _) _)
 unfold World.frozen?
 rw [show (w.drew.alloc (.cells (bytesRow (str l) cap) e ((bytesRow (str l) cap).size, (bytesRow (str l) cap).size + 1))).heap[w.heap.size]? = _ from heap_alloc_new w.drew _]
 simp
 omega
end
end Go.Proofs.YtpifdkkhdgbcdaaGreatDoor
