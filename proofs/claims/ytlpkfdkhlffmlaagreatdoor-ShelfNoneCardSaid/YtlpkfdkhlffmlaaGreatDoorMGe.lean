/-steps:a literal of one row in a region with a tail;a cell stored-/
import Derived.Test.YtlpkfdkhlffmlaaGreatDoorMGn
import Derived.Test.YtlpkfdkhlffmlaaGreatDoorMGf
import Derived.Test.YtlpkfdkhlffmlaaGreatDoorMGu
import Derived.Test.YtlpkfdkhlffmlaaGreatDoorMGb
namespace Go.Proofs.YtlpkfdkhlffmlaaGreatDoor
set_option linter.unusedSimpArgs false
set_option linter.unusedVariables false
set_option maxRecDepth 100000
set_option maxHeartbeats 1600000
open Go.RowKit
section
variable {P:Program} {ops:Array Oper} {C:World→Prop} {K:Act→World→Prop} {ks:List Nat} {l:List Oper} {a:Act} {w:World}
theorem vQ {d:Option Tmp} {y:Operand} {t ty e:TypeId} {pos:String} {after:Array Edge} {x:Y8} {s:Nat}(hx:x.length=s)(h0:0<s)(h1:s≤1000)(hy:a.eval y= .agg (A8 x))(ht:P.underlying t=some (.slice e))(hi:(P.info? e).map (fun i=>(i.zero,i.size,i.bytes))=some (some (.agg (A8 (aa 8 s))),s,s))
  (h: ∀w1 b,RdS w1 s (some ⟨b,0,none⟩) 1 1 x→Below w.heap.size w w1→wpH P ops C K ks l (a.put d (.slice (some ⟨b,0,none⟩) 1 1)) w1):
  wpH P ops C K (2::ks) (⟨d,.buildSlice t 1 #[(0,y)],ty,pos,after,none⟩::l) a w:=by
 subst hx;have hr:(execOp a.eval ⟨d,.buildSlice t 1 #[(0,y)],ty,pos,after,none⟩).run P w= .ok (.value (.slice (some ⟨w.heap.size,0,none⟩) 1 1)) (w.alloc (.cells (A8 x) e)):=by
  simp only[execOp,List.map_toArray,List.map_cons,List.map_nil,hy,Sem.run_bind,lf w t e x h0 (by omega) ht hi,Result.andThen_ok,Sem.run_pure]
 have hbel:Below w.heap.size w (w.alloc (.cells (A8 x) e)):=(Below.refl _ _).alloc (Nat.le_refl _) _;have hb:=(Blk.new w e (A8 x)).rd8 x.length (by simp) (by unfold maxLen;omega);rw[List.take_of_length_le (Nat.le_refl _)]at hb;refine aX rfl hr hbel (h _ _ ⟨by omega,Nat.le_refl _,by unfold maxLen;omega,fun _=> ?_⟩ hbel);obtain⟨b,o,he,hlt,hc⟩:=hb.2.2.2 h0;cases he;exact⟨_,_,rfl,hlt,fun i hi=>hc i (by omega)⟩
theorem iG {e:TypeId} {p x:Operand} {ty:TypeId} {pos:String} {after:Array Edge} {g i n c:Nat} {t:TypeId} {ad:Option Addr} {cs:Array Value} {old:Value}(hb:Blk w g t cs)(hp:a.eval p= .pointer (some ⟨g,i,none⟩))(hv:a.eval x= .slice ad n c)(hold:cs[i]? =some old)
  (hsz:(sizeOf e).run P w= .ok 1 w) (h: ∀w1,Blk w1 g t (cs.setIfInBounds i (.slice ad n c))→w.grownBy w1 (some g)→w1.heap.size=w.heap.size→wpZ P ops K ks l a w1):wpZ P ops K (2::ks) (⟨none,.store e p x,ty,pos,after,none⟩::l) a w:=by
 unfold wpZ opT;simp only[Region.wanted,if_true];have hr:(execOp a.eval ⟨none,.store e p x,ty,pos,after,none⟩).run P w= .ok .skip (w.setCell ⟨g,i,none⟩ (.slice ad n c)):=by
  rw[bD,hp,hv];have hs:(store ⟨g,i,none⟩ (.slice ad n c) .plain).run P w= .ok () (w.setCell ⟨g,i,none⟩ (.slice ad n c)):=by
   rw[run_store P w ⟨g,i,none⟩ (.slice ad n c) .plain rfl];simp[hb.cell i,hold,hb.frozen i]
  simp[bL,Instr.storeAt,Instr.sureAddr,storeVar,hsz,Value.cells,storeCells,Addr.add_lit,hs]
 unfold Oper.wp;rw[hr];exact h _ (hb.set_ i _) (aC w g i _) (by simp)
end
open Go.RowKit
section
variable {P:Program} {ops:Array Oper} {C:World→Prop} {K:Act→World→Prop} {ks:List Nat} {l:List Oper} {a:Act} {w:World}
theorem nP {d:Option Tmp} {x y:Operand} {t ty e:TypeId} {pos:String} {after:Array Edge} {n:Nat}(hx:a.eval x= .int .i64 n)(hy:a.eval y= .int .i64 n)(hn:n≤1000000)(ht:P.underlying t=some (.slice e))(hi:(P.info? e).map (fun i=>(i.zero,i.size,i.bytes))=some (some (.int .u8 0),1,1))
  (h: ∀w1 ad,Rd8 w1 ad n n (aa 8 n)→Below w.heap.size w w1→wpH P ops C K ks l (a.put d (.slice ad n n)) w1):
  wpH P ops C K (2::ks) (⟨d,.makeSlice t x y,ty,pos,after,none⟩::l) a w:=by
 have hmk:=bZ (P:=P) w t e n n ht hi (by omega) (by omega) (by omega);rw[Int.toNat_natCast]at hmk;have hr:(execOp a.eval ⟨d,.makeSlice t x y,ty,pos,after,none⟩).run P w= .ok (.value (.slice (some ⟨w.heap.size,0,none⟩) n n)) (w.alloc (.cells (A8 (aa 8 n)) e)):=by
  simp only[execOp,hx,hy,Sem.run_bind,hmk,Result.andThen_ok,Sem.run_pure]
 have hbel:Below w.heap.size w (w.alloc (.cells (A8 (aa 8 n)) e)):=(Below.refl _ _).alloc (Nat.le_refl _) _;have ho:=(Own8.made w w.heap.size e (aa 8 n) n (Nat.le_refl _) (by simp) (by rw[af];unfold maxLen;omega)).rdAt;rw[af,List.take_of_length_le (by simp)]at ho;exact aX rfl hr hbel (h _ _ ho hbel)
theorem vS {d:Option Tmp} {x y:Operand} {t ty e:TypeId} {pos:String} {after:Array Edge} {gd:Option (Nat×Bool)} {n:Nat}(hg:Region.wanted (⟨d,.makeSlice t x y,ty,pos,after,gd⟩:Oper) (yielded ops a.tmps)=true)(hx:a.eval x= .int .i64 n)(hy:a.eval y= .int .i64 n)(hn:n≤1000000)(ht:P.underlying t=some (.slice e))(hi:(P.info? e).map (fun i=>(i.zero,i.size,i.bytes))=some (some (.int .u8 0),1,1))
  (h: ∀w1 ad,Rd8 w1 ad n n (aa 8 n)→Below w.heap.size w w1→wpH P ops C K ks l (a.put d (.slice ad n n)) w1):
  wpH P ops C K (2::ks) (⟨d,.makeSlice t x y,ty,pos,after,gd⟩::l) a w:=by
 have hmk:=bZ (P:=P) w t e n n ht hi (by omega) (by omega) (by omega);rw[Int.toNat_natCast]at hmk;have hr:(execOp a.eval ⟨d,.makeSlice t x y,ty,pos,after,gd⟩).run P w= .ok (.value (.slice (some ⟨w.heap.size,0,none⟩) n n)) (w.alloc (.cells (A8 (aa 8 n)) e)):=by
  simp only[execOp,hx,hy,Sem.run_bind,hmk,Result.andThen_ok,Sem.run_pure]
 have hbel:Below w.heap.size w (w.alloc (.cells (A8 (aa 8 n)) e)):=(Below.refl _ _).alloc (Nat.le_refl _) _;have ho:=(Own8.made w w.heap.size e (aa 8 n) n (Nat.le_refl _) (by simp) (by rw[af];unfold maxLen;omega)).rdAt;rw[af,List.take_of_length_le (by simp)]at ho;exact aX hg hr hbel (h _ _ ho hbel)
end
end Go.Proofs.YtlpkfdkhlffmlaaGreatDoor
