import Derived.Test.YtfliaggjkianpaaGreatDoorK26
import Derived.OpenShut
import Derived.WideShapes
import Derived.Deep.Fields
import Derived.ChangeArms
import Derived.ChangeSlices
set_option linter.unusedVariables false
set_option linter.unusedSimpArgs false
set_option maxRecDepth 100000
namespace Go.Proofs.YtfliaggjkianpaaGreatDoor
section
open Go.ChangeShapes Go.WideShapes Go.Deep
section
variable{H:Type}{enc:TypeId×Value→H}{P:Program}{w:World}{base:Nat}{spare:Nat→Bool}{held:Bool}
theorem open_fields{r:Reach}{b0:Nat}{t:TypeId}{fs:Array Field}{v:Value}{d:DataW H}{p:List MemPlace}(hs:P.underlying t=some (.struct fs))(hone:oneCellFields P fs=true)(hC:P.cellsOf t=fs.size)
  (hv:Value.okWide P w r b0 t v) (h:DataW.Trod enc P w base spare held t v d p) :
  ∃cs:Array Value,v=.agg cs∧cs.size=fs.size∧∀(i:Nat) (f:Field),fs[i]? = some f→∃c y n,cs[i]? = some c∧DataW.trod enc P w base spare held n f.type [c]=some y:=by
 obtain⟨cs,rfl,hsz⟩:=okWide_struct hs hv;obtain⟨fuel,hf⟩:=h;obtain⟨xs,n,_,_,_,hlen,hg⟩:=DataW.trod_struct hs hf;refine⟨cs,rfl,by omega,fun i f hi=>?_⟩;have hlt:i<fs.size:=(Array.getElem?_eq_some_iff.1 hi).1;obtain⟨ho,hk⟩:=hone_of hone i f hi;have h1:=hg i f hi;rw [ho,hk] at h1;have hic:i<cs.size:=by omega
 have e:((Value.agg cs).cells.toList.drop i).take 1=[cs[i]]:=by
  show (cs.toList.drop i).take 1=_;rw [List.drop_eq_getElem_cons (by simpa using hic)];simp
 rw [e,List.getElem?_eq_getElem (by omega)] at h1;exact⟨cs[i],_,n,Array.getElem?_eq_getElem hic,h1⟩
end
end
section
open Go.ChangeShapes Go.WideShapes Go.Deep
theorem agg2{cs:Array Value}(h:cs.size=2):∃a b,cs=#[a,b]:=by
 obtain⟨l⟩:=cs;match l,h with
 |[a,b],_=>exact⟨a,b,rfl⟩
theorem oneCfg:∃fs,Tryz.prog.underlying 23=some (.struct fs)∧oneCellFields Tryz.prog fs=true∧Tryz.prog.cellsOf 23=fs.size∧fs.size=2∧(∀i,i<2→∃f,fs[i]? = some f∧f.type=3):=by
 refine⟨_,Tryz.underlying23,by kernel_rfl,by kernel_rfl,by kernel_rfl,?_⟩;intro i hi;rcases(by omega:i=0∨i=1) with rfl|rfl
 ·exact⟨_,rfl,rfl⟩
 ·exact⟨_,rfl,rfl⟩
theorem open_cfg{H:Type}{enc:TypeId×Value→H}{w:World}{base:Nat}{spare:Nat→Bool}{held:Bool}{r:Reach}{b0:Nat}{v:Value}{d:DataW H}{p:List MemPlace}
  (hv:Value.okWide Tryz.prog w r b0 23 v) (h:DataW.Trod enc Tryz.prog w base spare held 23 v d p):∃P C:Int,v=.agg #[.int .i64 P,.int .i64 C]:=by
 obtain⟨fs,hs,hone,hC,h6,hi⟩:=oneCfg;obtain⟨cs,rfl,hsz,hg⟩:=open_fields hs hone hC hv h;obtain⟨a,b,rfl⟩:=agg2 (hsz.trans h6);have one:∀{i:Nat} {x:Value},i<2→#[a,b][i]? = some x→∃n,x=.int .i64 n:=by
  intro i x hi4 hx;obtain⟨f,hf,ht⟩:=hi i hi4;obtain⟨c',y,n,hc,hy⟩:=hg i f hf;rw [hx] at hc;cases hc
  rw [ht] at hy;obtain⟨m,e0,_,_⟩:=DataW.trod_int Tryz.underlying3 hy;simp at e0
  exact⟨m,e0⟩
 obtain⟨K,rfl⟩:=one (i:=0) (by omega) rfl;obtain⟨T,rfl⟩:=one (i:=1) (by omega) rfl;exact⟨K,T,rfl⟩
end
end Go.Proofs.YtfliaggjkianpaaGreatDoor
