/-strings that come in,as lists of bit vectors-/
import Derived.Test.YtlpkfdkhlffmlaaGreatDoorMGs
import Derived.ChangeMaps5
import Derived.Test.YtlpkfdkhlffmlaaGreatDoorMRh
namespace Go.Proofs.YtlpkfdkhlffmlaaGreatDoor
open Go.Proofs.Tryz
set_option linter.unusedSimpArgs false
set_option linter.unusedVariables false
set_option maxRecDepth 100000
set_option maxHeartbeats 1600000
open Go.ChangeShapes Go.WideShapes Go.ChangeAt Go.RowKit
theorem wX(s:ByteArray): ∃l:Y8,s=str l∧l.length=s.size:=by
 refine⟨s.data.toList.map (·.toBitVec),?_,by simp⟩;unfold str;rw[List.map_map];have e:(UInt8.ofBitVec∘fun x:UInt8=>x.toBitVec)=id:=by funext x;rfl
 rw[e,List.map_id]
open Go.ChangeShapes Go.WideShapes Go.ChangeAt Go.RowKit
@[go_sem] theorem vg:prog.cellsOf 24=8:=by kernel_rfl
section
variable {H:Type} {enc:TypeId×Value→H} {w:World} {base:Nat} {spare:Nat→Bool} {held:Bool}
theorem wY {r:Reach} {b0:Nat} {v:Value} {d:DataW H} {p:List MemPlace}
  (hv:Value.okWide prog w r b0 24 v) (h:DataW.Trod enc prog w base spare held 24 v d p):
  ∃(dd fo tt ap:Int) (nm nz:Y8) (a:Option Addr) (n c:Nat) (y:Value) (bs:Y8),Rd8 w a n c bs∧nm.length≤maxLen∧nz.length≤maxLen∧v= .agg (ActC dd fo tt ap nm nz a n c y):=by
 unfold Value.okWide at hv;rw[underlying24]at hv;obtain⟨T,rfl,hs,_⟩:=hv;rw[vg]at hs;obtain⟨fuel,hf⟩:=h;obtain⟨xs,m,rfl,_,hl,hxl,hi⟩:=DataW.trod_struct underlying24 hf;have get: ∀i,i<8→ ∃y,xs[i]? =some y:=fun i hi3=>⟨xs[i]'(by rw[hxl];simpa using hi3),List.getElem?_eq_getElem _⟩;obtain⟨y0,e0⟩:=get 0 (by omega);have h0:DataW.trod enc prog w base spare held m 3 ((T.toList.drop 0).take (prog.cellsOf 3))=some y0:=(hi 0 _ rfl).trans e0;rw[show prog.cellsOf 3=1 by kernel_rfl]at h0;obtain⟨y1,e1⟩:=get 1 (by omega);have h1:DataW.trod enc prog w base spare held m 3 ((T.toList.drop 1).take (prog.cellsOf 3))=some y1:=(hi 1 _ rfl).trans e1;rw[show prog.cellsOf 3=1 by kernel_rfl]at h1;obtain⟨y2,e2⟩:=get 2 (by omega);have h2:DataW.trod enc prog w base spare held m 3 ((T.toList.drop 2).take (prog.cellsOf 3))=some y2:=(hi 2 _ rfl).trans e2;rw[show prog.cellsOf 3=1 by kernel_rfl]at h2;obtain⟨y3,e3⟩:=get 3 (by omega);have h3:DataW.trod enc prog w base spare held m 3 ((T.toList.drop 3).take (prog.cellsOf 3))=some y3:=(hi 3 _ rfl).trans e3;rw[show prog.cellsOf 3=1 by kernel_rfl]at h3;obtain⟨y4,e4⟩:=get 4 (by omega);have h4:DataW.trod enc prog w base spare held m 9 ((T.toList.drop 4).take (prog.cellsOf 9))=some y4:=(hi 4 _ rfl).trans e4;rw[show prog.cellsOf 9=1 by kernel_rfl]at h4;obtain⟨y5,e5⟩:=get 5 (by omega);have h5:DataW.trod enc prog w base spare held m 9 ((T.toList.drop 5).take (prog.cellsOf 9))=some y5:=(hi 5 _ rfl).trans e5
 rw[show prog.cellsOf 9=1 by kernel_rfl]at h5;obtain⟨y6,e6⟩:=get 6 (by omega);have h6:DataW.trod enc prog w base spare held m 22 ((T.toList.drop 6).take (prog.cellsOf 22))=some y6:=(hi 6 _ rfl).trans e6;rw[show prog.cellsOf 22=1 by kernel_rfl]at h6;obtain⟨y7,e7⟩:=get 7 (by omega);have h7:DataW.trod enc prog w base spare held m 5 ((T.toList.drop 7).take (prog.cellsOf 5))=some y7:=(hi 7 _ rfl).trans e7;rw[show prog.cellsOf 5=1 by kernel_rfl]at h7;obtain⟨dd,c0,_,_⟩:=DataW.trod_int underlying3 h0;obtain⟨fo,c1,_,_⟩:=DataW.trod_int underlying3 h1;obtain⟨tt,c2,_,_⟩:=DataW.trod_int underlying3 h2;obtain⟨ap,c3,_,_⟩:=DataW.trod_int underlying3 h3;obtain⟨s4,c4,_,q4⟩:=DataW.trod_string underlying9 h4;obtain⟨nm,rfl,l4⟩:=wX s4;obtain⟨s5,c5,_,q5⟩:=DataW.trod_string underlying9 h5;obtain⟨nz,rfl,l5⟩:=wX s5;obtain⟨u7,c7,_,_⟩:=DataW.trod_int underlying5 h7;have hb: ∃a len cap,((T.toList.drop 6).take 1)=[Value.slice a len cap]:=by
  rcases DataW.trod_slice underlying22 h6 with⟨hc,_⟩|⟨a,len,cap,_,_,_,_,hc,_⟩
  ·exact⟨_,_,_,hc⟩
  ·exact⟨_,_,_,hc⟩
 obtain⟨a,n,c,c6⟩:=hb;obtain⟨bs,hr⟩:=rb (enc:=enc) (P:=prog) (w:=w) (base:=base) (spare:=spare) (held:=held) (t:=22) (a:=a) (n:=n) (c:=c) (d:=y6.1) (p:=y6.2) underlying22 underlying5 (by kernel_rfl) ⟨m,by
  show DataW.trod enc prog w base spare held m 22 [Value.slice a n c]=_;rw[←c6];exact h6⟩
 refine⟨dd,fo,tt,ap,nm,nz,a,n,c,.int .u8 u7,bs,hr,by omega,by omega,?_⟩;have hT:T.toList=[.int .i64 dd,.int .i64 fo,.int .i64 tt,.int .i64 ap,.string (str nm),.string (str nz),.slice a n c,.int .u8 u7]:=by
  match hL:T.toList,(by simpa using hs:T.toList.length=8)with
  | [x0,x1,x2,x3,x4,x5,x6,x7],_=>
   rw[hL]at c0 c1 c2 c3 c4 c5 c6 c7;simp only[List.drop_zero,List.drop_succ_cons,List.take_succ_cons,List.take_zero,List.cons.injEq,and_true]at c0 c1 c2 c3 c4 c5 c6 c7;rw[c0,c1,c2,c3,c4,c5,c6,c7]
 rw[ActC,show T=T.toList.toArray from rfl,hT]
end
end Go.Proofs.YtlpkfdkhlffmlaaGreatDoor
