/- four makers (a chain of two, one more ahead of the last) and five pure operations behind them, in whatever order -/
import Derived.Test.YtpifdkkhdgbcdaaGreatDoorMGq
namespace Go.Proofs.YtpifdkkhdgbcdaaGreatDoor
set_option linter.unusedSimpArgs false
set_option maxRecDepth 100000
set_option maxHeartbeats 1600000
section
variable {P : Program} {ops : Array Oper} {C : World → Prop} {R : Act → World → Prop}
def tail9 (P : Program) (ops : Array Oper) (C : World → Prop) (R : Act → World → Prop) (o4 o5 o6 o7 o8 : Oper) : Act → World → Prop := fun a w =>
 opH P ops C 0 o4 (fun a w =>
  opH P ops C 0 o5 (fun a w => opH P ops C 0 o6 (fun a w => opH P ops C 0 o7 (opH P ops C 0 o8 R) a w ∧ opH P ops C 0 o8 (opH P ops C 0 o7 R) a w) a w ∧ opH P ops C 0 o7 (opH P ops C 0 o6 (opH P ops C 0 o8 R)) a w) a w ∧
  opH P ops C 0 o6 (fun a w => opH P ops C 0 o5 (fun a w => opH P ops C 0 o7 (opH P ops C 0 o8 R) a w ∧ opH P ops C 0 o8 (opH P ops C 0 o7 R) a w) a w ∧ opH P ops C 0 o8 (opH P ops C 0 o5 (opH P ops C 0 o7 R)) a w) a w) a w
def dep9 (i : Nat) : List Nat := if i = 1 then [0] else if i = 3 then [1, 2] else if i = 4 then [3] else if i = 5 then [4] else if i = 6 then [4] else if i = 7 then [5] else if i = 8 then [6] else []
theorem perm_nine {o0 o1 o2 o3 o4 o5 o6 o7 o8 : Oper} {a : Act} {w : World}
  (h : opH P ops C 2 o0 (fun a w => opH P ops C 2 o1 (opH P ops C 2 o2 (opH P ops C 2 o3 (tail9 P ops C R o4 o5 o6 o7 o8))) a w ∧ opH P ops C 2 o2 (opH P ops C 2 o1 (opH P ops C 2 o3 (tail9 P ops C R o4 o5 o6 o7 o8))) a w) a w)
  (hf : opH P ops C 2 o2 (opH P ops C 2 o0 (opH P ops C 2 o1 (opH P ops C 2 o3 (tail9 P ops C R o4 o5 o6 o7 o8)))) a w) :
  permHO P ops C dep9 R 9 [(0, 2, o0), (1, 2, o1), (2, 2, o2), (3, 2, o3), (4, 0, o4), (5, 0, o5), (6, 0, o6), (7, 0, o7), (8, 0, o8)] a w := by
 have ht : ∀ a w, tail9 P ops C R o4 o5 o6 o7 o8 a w → permHO P ops C dep9 R 5 [(4, 0, o4), (5, 0, o5), (6, 0, o6), (7, 0, o7), (8, 0, o8)] a w := by
  intro a w h
  simp [permHO, dep9]
  exact opH_mono (fun a w h => ⟨opH_mono (fun a w h => ⟨opH_mono (fun a w h => ⟨h.1, h.2⟩) h.1, h.2⟩) h.1, opH_mono (fun a w h => ⟨opH_mono (fun a w h => ⟨h.1, h.2⟩) h.1, h.2⟩) h.2⟩) h
 have h3 : ∀ a w, opH P ops C 2 o3 (tail9 P ops C R o4 o5 o6 o7 o8) a w → permHO P ops C dep9 R 6 [(3, 2, o3), (4, 0, o4), (5, 0, o5), (6, 0, o6), (7, 0, o7), (8, 0, o8)] a w := by
  intro a w h
  rw [permHO]
  intro p hp hd
  simp only [List.mem_cons, List.not_mem_nil, or_false] at hp
  rcases hp with rfl | rfl | rfl | rfl | rfl | rfl
  ·exact opH_mono (fun a w h => ht a w h) h
  all_goals (simp [dep9] at hd)
 have h23 : ∀ a w, opH P ops C 2 o2 (opH P ops C 2 o3 (tail9 P ops C R o4 o5 o6 o7 o8)) a w → permHO P ops C dep9 R 7 [(2, 2, o2), (3, 2, o3), (4, 0, o4), (5, 0, o5), (6, 0, o6), (7, 0, o7), (8, 0, o8)] a w := by
  intro a w h
  rw [permHO]
  intro p hp hd
  simp only [List.mem_cons, List.not_mem_nil, or_false] at hp
  rcases hp with rfl | rfl | rfl | rfl | rfl | rfl | rfl
  ·exact opH_mono (fun a w h => h3 a w h) h
  all_goals (simp [dep9] at hd)
 have h13 : ∀ a w, opH P ops C 2 o1 (opH P ops C 2 o3 (tail9 P ops C R o4 o5 o6 o7 o8)) a w → permHO P ops C dep9 R 7 [(1, 2, o1), (3, 2, o3), (4, 0, o4), (5, 0, o5), (6, 0, o6), (7, 0, o7), (8, 0, o8)] a w := by
  intro a w h
  rw [permHO]
  intro p hp hd
  simp only [List.mem_cons, List.not_mem_nil, or_false] at hp
  rcases hp with rfl | rfl | rfl | rfl | rfl | rfl | rfl
  ·exact opH_mono (fun a w h => h3 a w h) h
  all_goals (simp [dep9] at hd)
 have h123 : ∀ a w, (opH P ops C 2 o1 (opH P ops C 2 o2 (opH P ops C 2 o3 (tail9 P ops C R o4 o5 o6 o7 o8))) a w ∧ opH P ops C 2 o2 (opH P ops C 2 o1 (opH P ops C 2 o3 (tail9 P ops C R o4 o5 o6 o7 o8))) a w) → permHO P ops C dep9 R 8 [(1, 2, o1), (2, 2, o2), (3, 2, o3), (4, 0, o4), (5, 0, o5), (6, 0, o6), (7, 0, o7), (8, 0, o8)] a w := by
  intro a w h
  rw [permHO]
  intro p hp hd
  simp only [List.mem_cons, List.not_mem_nil, or_false] at hp
  rcases hp with rfl | rfl | rfl | rfl | rfl | rfl | rfl | rfl
  ·exact opH_mono (fun a w h => h23 a w h) h.1
  ·exact opH_mono (fun a w h => h13 a w h) h.2
  all_goals (simp [dep9] at hd)
 have h013 : ∀ a w, opH P ops C 2 o0 (opH P ops C 2 o1 (opH P ops C 2 o3 (tail9 P ops C R o4 o5 o6 o7 o8))) a w → permHO P ops C dep9 R 8 [(0, 2, o0), (1, 2, o1), (3, 2, o3), (4, 0, o4), (5, 0, o5), (6, 0, o6), (7, 0, o7), (8, 0, o8)] a w := by
  intro a w h
  rw [permHO]
  intro p hp hd
  simp only [List.mem_cons, List.not_mem_nil, or_false] at hp
  rcases hp with rfl | rfl | rfl | rfl | rfl | rfl | rfl | rfl
  ·exact opH_mono (fun a w h => h13 a w h) h
  all_goals (simp [dep9] at hd)
 rw [permHO]
 intro p hp hd
 simp only [List.mem_cons, List.not_mem_nil, or_false] at hp
 rcases hp with rfl | rfl | rfl | rfl | rfl | rfl | rfl | rfl | rfl
 ·exact opH_mono (fun a w h => h123 a w h) h
 ·simp [dep9] at hd
 ·exact opH_mono (fun a w h => h013 a w h) hf
 all_goals (simp [dep9] at hd)
theorem perm_nineT {o0 o1 o2 o3 o4 o5 o6 o7 o8 : Oper} {a : Act} {w : World} (T : Act → World → Prop)
  (ht : ∀ a w, T a w → tail9 P ops C R o4 o5 o6 o7 o8 a w)
  (h : opH P ops C 2 o0 (fun a w => opH P ops C 2 o1 (opH P ops C 2 o2 (opH P ops C 2 o3 T)) a w ∧ opH P ops C 2 o2 (opH P ops C 2 o1 (opH P ops C 2 o3 T)) a w) a w)
  (hf : opH P ops C 2 o2 (opH P ops C 2 o0 (opH P ops C 2 o1 (opH P ops C 2 o3 T))) a w) :
  permHO P ops C dep9 R 9 [(0, 2, o0), (1, 2, o1), (2, 2, o2), (3, 2, o3), (4, 0, o4), (5, 0, o5), (6, 0, o6), (7, 0, o7), (8, 0, o8)] a w :=
 perm_nine (opH_mono (fun _ _ h => ⟨opH_mono (fun _ _ h => opH_mono (fun _ _ h => opH_mono ht h) h) h.1, opH_mono (fun _ _ h => opH_mono (fun _ _ h => opH_mono ht h) h) h.2⟩) h)
  (opH_mono (fun _ _ h => opH_mono (fun _ _ h => opH_mono (fun _ _ h => opH_mono ht h) h) h) hf)
end
end Go.Proofs.YtpifdkkhdgbcdaaGreatDoor
