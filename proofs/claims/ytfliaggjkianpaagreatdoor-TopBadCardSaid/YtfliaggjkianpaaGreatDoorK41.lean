import Derived.Test.YtfliaggjkianpaaGreatDoorK00
import Derived.OpenShut
import Derived.WideShapes
import Derived.Deep.Fields
import Derived.Test.YtfliaggjkianpaaGreatDoorK39
import Derived.KernelRfl
import Derived.ChangeArms
import Derived.ChangeSlices
import Derived.Below
import Derived.Carry
import Derived.ChangeSame
import Derived.Test.YtfliaggjkianpaaGreatDoorRows
import Derived.Test.YtfliaggjkianpaaGreatDoorTie
import Derived.Test.YtfliaggjkianpaaGreatDoorCards
import Derived.WalkKit
import Derived.ProofKit
import Derived.WalkLawsBesides
import Derived.ShutString
import Derived.LaidMore
import Derived.Lib.LaidTab
import Derived.Stop.Joined
import Derived.SevenTiedAt
set_option linter.unusedVariables false
set_option linter.unusedSimpArgs false
set_option maxRecDepth 100000
namespace Go.Proofs.YtfliaggjkianpaaGreatDoor
section
open Go.ChangeShapes Go.WideShapes Go.Deep
section
variable{H:Type}{enc:TypeId×Value→H}{P:Program}{w:World}{base:Nat}{spare:Nat→Bool}{held:Bool}
theorem open_fields{r:Reach}{b0:Nat}{t:TypeId}{fs:Array Field}{v:Value}{d:DataW H}{p:List MemPlace}(hs:P.underlying t=some (.struct fs))(hone:oneCellFields P fs=true)(hC:P.cellsOf t=fs.size)
  (hv:Value.okWide P w r b0 t v) (h:DataW.Trod enc P w base spare held t v d p) :
  ∃cs:Array Value,v=.agg cs∧cs.size=fs.size∧∀(i:Nat) (f:Field),fs[i]? = some f→∃c y n,cs[i]? = some c∧DataW.trod enc P w base spare held n f.type [c]=some y:=by
 obtain⟨cs,rfl,hsz⟩:=okWide_struct hs hv;obtain⟨fuel,hf⟩:=h;obtain⟨xs,n,_,_,_,hlen,hg⟩:=DataW.trod_struct hs hf;refine⟨cs,rfl,by omega,fun i f hi=>?_⟩;have hlt:i<fs.size:=(Array.getElem?_eq_some_iff.1 hi).1;obtain⟨ho,hk⟩:=hone_of hone i f hi;have h1:=hg i f hi;rw [ho,hk] at h1;have hic:i<cs.size:=by omega
 have e:((Value.agg cs).cells.toList.drop i).take 1=[cs[i]]:=by
  show (cs.toList.drop i).take 1=_;rw [List.drop_eq_getElem_cons (by simpa using hic)];simp
 rw [e,List.getElem?_eq_getElem (by omega)] at h1;exact⟨cs[i],_,n,Array.getElem?_eq_getElem hic,h1⟩
end
end
section
open Go.ChangeShapes Go.WideShapes Go.Deep
theorem agg2{cs:Array Value}(h:cs.size=2):∃a b,cs=#[a,b]:=by
 obtain⟨l⟩:=cs;match l,h with
 |[a,b],_=>exact⟨a,b,rfl⟩
theorem oneCfg:∃fs,Tryz.prog.underlying 23=some (.struct fs)∧oneCellFields Tryz.prog fs=true∧Tryz.prog.cellsOf 23=fs.size∧fs.size=2∧(∀i,i<2→∃f,fs[i]? = some f∧f.type=3):=by
 refine⟨_,Tryz.underlying23,by kernel_rfl,by kernel_rfl,by kernel_rfl,?_⟩;intro i hi;rcases(by omega:i=0∨i=1) with rfl|rfl
 ·exact⟨_,rfl,rfl⟩
 ·exact⟨_,rfl,rfl⟩
theorem open_cfg{H:Type}{enc:TypeId×Value→H}{w:World}{base:Nat}{spare:Nat→Bool}{held:Bool}{r:Reach}{b0:Nat}{v:Value}{d:DataW H}{p:List MemPlace}
  (hv:Value.okWide Tryz.prog w r b0 23 v) (h:DataW.Trod enc Tryz.prog w base spare held 23 v d p):∃P C:Int,v=.agg #[.int .i64 P,.int .i64 C]:=by
 obtain⟨fs,hs,hone,hC,h6,hi⟩:=oneCfg;obtain⟨cs,rfl,hsz,hg⟩:=open_fields hs hone hC hv h;obtain⟨a,b,rfl⟩:=agg2 (hsz.trans h6);have one:∀{i:Nat} {x:Value},i<2→#[a,b][i]? = some x→∃n,x=.int .i64 n:=by
  intro i x hi4 hx;obtain⟨f,hf,ht⟩:=hi i hi4;obtain⟨c',y,n,hc,hy⟩:=hg i f hf;rw [hx] at hc;cases hc
  rw [ht] at hy;obtain⟨m,e0,_,_⟩:=DataW.trod_int Tryz.underlying3 hy;simp at e0
  exact⟨m,e0⟩
 obtain⟨K,rfl⟩:=one (i:=0) (by omega) rfl;obtain⟨T,rfl⟩:=one (i:=1) (by omega) rfl;exact⟨K,T,rfl⟩
theorem oneOpT:∃fs,Tryz.prog.underlying 32=some (.struct fs)∧oneCellFields Tryz.prog fs=true∧Tryz.prog.cellsOf 32=fs.size∧fs.size=6 ∧
  (∀i,i<4→∃f,fs[i]? = some f∧f.type=3)∧(∃f,fs[4]? = some f∧f.type=30)∧∃f,fs[5]? = some f∧f.type=9:=by
 refine⟨_,Tryz.underlying32,by kernel_rfl,by kernel_rfl,by kernel_rfl,?_,⟨_,rfl,rfl⟩,⟨_,rfl,rfl⟩⟩;intro i hi;rcases(by omega:i=0∨i=1∨i=2∨i=3) with rfl|rfl|rfl|rfl
 ·exact⟨_,rfl,rfl⟩
 ·exact⟨_,rfl,rfl⟩
 ·exact⟨_,rfl,rfl⟩
 ·exact⟨_,rfl,rfl⟩
theorem open_opT{H:Type}{enc:TypeId×Value→H}{w:World}{base:Nat}{spare:Nat→Bool}{held:Bool}{fuel:Nat}{cs:List Value}{x:DataW H×List MemPlace}
  (h:DataW.trod enc Tryz.prog w base spare held fuel 32 cs=some x):∃z:OpS,cs=[.int .i64 z.K,.int .i64 z.T,.int .i64 z.N,.int .i64 z.M,.int .u64 z.H,.string z.s]∧z.H<18446744073709551616∧z.s.size≤maxLen:=by
 obtain⟨fs,hs,hone,hC,h6,hi,⟨f4,hf4,ht4⟩,⟨f5,hf5,ht5⟩⟩:=oneOpT;obtain⟨xs,n,_,_,hcl,hlen,hg⟩:=DataW.trod_struct hs h;have hc3:cs.length=6:=by rw [hcl,hC,h6]
 have cell:∀(i:Nat) (f:Field),(hi:i<6)→fs[i]? = some f→∃y n,DataW.trod enc Tryz.prog w base spare held n f.type [cs[i]'(by omega)]=some y:=by
  intro i f hi6 hf;have h1:=hg i f hf;obtain⟨ho,hk⟩:=hone_of hone i f hf;rw [ho,hk] at h1;have e:(cs.drop i).take 1=[cs[i]'(by omega)]:=by
   rw [List.drop_eq_getElem_cons (show i<cs.length by omega)];rfl
  rw [e,List.getElem?_eq_getElem (by omega)] at h1;exact⟨_,_,h1⟩
 have one:∀(i:Nat) (hi:i<4),∃m,cs[i]'(by omega)=.int .i64 m:=by
  intro i hi4;obtain⟨f,hf,ht⟩:=hi i hi4;obtain⟨y,n,h1⟩:=cell i f (by omega) hf;rw [ht] at h1;obtain⟨m,e0,_,_⟩:=DataW.trod_int Tryz.underlying3 h1;simp at e0
  exact⟨m,e0⟩
 obtain⟨K,h0⟩:=one 0 (by omega);obtain⟨T,h1⟩:=one 1 (by omega);obtain⟨N,h2⟩:=one 2 (by omega);obtain⟨M,h3⟩:=one 3 (by omega);obtain⟨y4,n4,k4⟩:=cell 4 f4 (by omega) hf4;obtain⟨y5,n5,k5⟩:=cell 5 f5 (by omega) hf5;rw [ht4] at k4;rw [ht5] at k5;obtain⟨H,e4,_,w4⟩:=DataW.trod_int Tryz.underlying30 k4;obtain⟨s,e5,_,hl⟩:=DataW.trod_string Tryz.underlying9 k5;simp at e4 e5
 have hH:0≤H∧H<18446744073709551616:=by
  have h2:(decide ((0:Int)≤H)&&decide (H≤18446744073709551615))=true:=w4;rw [Bool.and_eq_true,decide_eq_true_eq,decide_eq_true_eq] at h2;omega
 obtain⟨a,b,c,d,e,f,rfl⟩:∃a b c d e f,cs=[a,b,c,d,e,f]:=by
  match cs,hc3 with
  |[a,b,c,d,e,f],_=>exact⟨a,b,c,d,e,f,rfl⟩
 ·have q0:a=.int .i64 K:=h0
  have q1:b=.int .i64 T:=h1;have q2:c=.int .i64 N:=h2;have q3:d=.int .i64 M:=h3;have q4:e=.int .u64 H:=e4;have q5:f=.string s:=e5;refine⟨⟨K,T,N,M,H.toNat,s⟩,?_,by simp only;omega,hl⟩;rw [q0,q1,q2,q3,q4,q5];show _=[Value.int .i64 K,.int .i64 T,.int .i64 N,.int .i64 M,.int .u64 (H.toNat:Int),.string s]
  rw [Int.toNat_of_nonneg hH.1]
theorem open_ops{H:Type}{enc:TypeId×Value→H}{W:World}{base:Nat}{r:Reach}{b0:Nat}{held:Bool}{v:Value}{d:DataW H}{p:List MemPlace}
  (hv:Value.okWide Tryz.prog W r b0 36 v) (h:DataW.Trod enc Tryz.prog W base (fun _=>true) held 36 v d p) :
  ∃(A:Option Addr) (n c:Nat) (xs:List OpS),v=.slice A n c∧xs.length=n∧n≤maxLen∧OpsAt W A xs∧∀x∈xs,x.H<18446744073709551616∧x.s.size≤maxLen:=by
 have ht:Tryz.prog.underlying 36=some (.slice 32):=Tryz.underlying36;have hC:Tryz.prog.cellsOf 32=6:=by kernel_rfl
 obtain⟨A,n,c,rfl⟩:=okWide_slice ht hv;obtain⟨fuel,hf⟩:=h;rcases DataW.trod_slice ht hf with ⟨hcs,_⟩|⟨a,len,cap,elems,rest,m,_,hcs,_,hb,hl,hm,hlen,hel,_⟩
 ·simp [Value.cells] at hcs
  obtain⟨rfl,rfl,rfl⟩:=hcs;exact⟨none,0,0,[],rfl,rfl,by unfold maxLen;omega,fun h=>by simp at h,fun x hx=>by cases hx⟩
 ·simp [Value.cells] at hcs
  obtain⟨rfl,rfl,rfl⟩:=hcs;have each:∀i:Fin n,∃z:OpS,(W.cell? ((a.add (i.1*6)).add 0)=some (.int .i64 z.K)∧W.cell? ((a.add (i.1*6)).add 1)=some (.int .i64 z.T)∧W.cell? ((a.add (i.1*6)).add 2)=some (.int .i64 z.N)∧W.cell? ((a.add (i.1*6)).add 3)=some (.int .i64 z.M)∧W.cell? ((a.add (i.1*6)).add 4)=some (.int .u64 z.H)∧W.cell? ((a.add (i.1*6)).add 5)=some (.string z.s))∧z.H<18446744073709551616∧z.s.size≤maxLen:=by
   intro ⟨i,hi⟩;have h1:=hel i hi;rw [hC,List.getElem?_eq_getElem (by omega)] at h1;obtain⟨cs,hcells,htr⟩:=Option.bind_eq_some_iff.1 h1;obtain⟨_,hl3,hcell⟩:=World.cells?_some hcells;obtain⟨z,rfl,hz⟩:=open_opT htr;exact⟨z,⟨hcell 0 (by omega),hcell 1 (by omega),hcell 2 (by omega),hcell 3 (by omega),hcell 4 (by omega),hcell 5 (by omega)⟩,hz⟩
  obtain⟨g,hg⟩:=Classical.axiomOfChoice each;refine⟨some a,n,c,List.ofFn g,rfl,by simp,by omega,fun hp=>?_,fun x hx=>?_⟩
  ·obtain⟨b,off,spot⟩:=a
   have hp':0<n:=by simpa using hp
   have hspot:spot=none:=by simpa [Addr.add] using World.cell?_spot (hg ⟨0,hp'⟩).1.1
   subst hspot;refine⟨b,off,rfl,fun i hi=>?_⟩;have hi':i<n:=by simpa using hi
   obtain⟨⟨g0,g1,g2,g3,g4,g5⟩,_⟩:=hg ⟨i,hi'⟩;simp only [add_plain,Nat.add_zero] at g0 g1 g2 g3 g4 g5;simp only [List.getElem_ofFn];exact⟨g0,g1,g2,g3,g4,g5⟩
  ·obtain⟨i,rfl⟩:=List.mem_ofFn.1 hx
   exact(hg i).2
end
section
open Go.RowKit Go.WideShapes Go.ChangeShapes
section
variable{H:Type}{enc:TypeId×Value→H}{P:Program}
theorem trodAll_stays(hl:laidOutB P=true){W W':World}(hb:Below W.heap.size W W'):∀{ts:List TypeId} {vs:List Value} {ds:List (DataW H)} {ps:List MemPlace},(∀t∈ts,P.readableRec t=true∧t<P.types.size) →
  DataW.TrodAll enc P W 0 (fun _=>true) true ts vs ds ps→(∀x∈ps,x.block<W.heap.size)→DataW.TrodAll enc P W' 0 (fun b=>decide (b<W.heap.size)) true ts vs ds ps
 |[],[],[],_,_,h,_=>h
 |t :: ts,v :: vs,d :: ds,ps,hr,h,hlt=>by
  obtain⟨p,q,h1,h2,rfl⟩:=h;refine⟨p,q,Below.trod hl (hr t (List.mem_cons_self ..)).1 (hr t (List.mem_cons_self ..)).2 h1 hb (fun x hx=>hlt x (List.mem_append.2 (Or.inl hx))),trodAll_stays hl hb (fun u hu=>hr u (List.mem_cons_of_mem _ hu)) h2 (fun x hx=>hlt x (List.mem_append.2 (Or.inr hx))),rfl⟩
 |[],[],_ :: _,_,_,h,_=>by cases h
 |[],_ :: _,_,_,_,h,_=>by cases h
 |_ :: _,[],_,_,_,h,_=>by cases h
 |_ :: _,_ :: _,[],_,_,h,_=>by cases h
theorem post_law{f:Func}{s:ChangeSpec}{apart fresh handsOn:Bool}{W W':World}{args:Array Value}{ds gs:List (DataW H)}{before:List MemPlace}{tb:TypeId}
  (hl:laidOutB P=true) (hr:∀t∈f.params.toList,P.readableRec t=true∧t<P.types.size) (hres:f.resultTypes=#[tb]) (hbool:P.underlying tb=some .bool)
  (hW:DataW.Whole enc P f.params.toList s.vars apart W args.toList ds gs before) (hvars:s.vars=[])
  (hfn:s.fn H (ds++gs)={results:=[.lit (.bool true)],args:=ds}) (hb:Below W.heap.size W W') :
  s.post enc P f apart fresh handsOn false W args (.bool true) W':=by
 have hlt:∀p∈before,p.block<W.heap.size:=fun p hp=>hW.lt p hp
 have hW0:=hW;obtain⟨p,q,hA,hV,rfl,_,_⟩:=hW;rw [hvars] at hV;cases gs with
 |cons g gs=>cases hV
 |nil =>
  have hq:q=[]:=hV;subst hq;have r1:∀(b:Nat) (sp:Nat→Bool) (hd:Bool),DataW.TrodAll enc P W' b sp hd f.resultTypes.toList ((Value.bool true).resultList f.resultTypes.size) (s.fn H (ds++[])).results []:=by
   intro b sp hd;rw [hfn,hres];exact trodAll_mk1 (shut_bool hbool true)
  have a1:=trodAll_stays hl hb hr hA (fun x hx=>hlt x (List.mem_append.2 (Or.inl hx)));refine⟨ds,[],p++[],[],p,[],hW0,r1 _ _ _,?_,?_,World.keptBut_mono (fun x hx=>⟨hx,?_⟩) (hb.frame (·∈p++[])),fun h=>?_⟩
  ·rw [hfn];exact a1
  ·rw [hvars,hfn];rfl
  ·simpa using hx
  ·cases h
end
end
section
open Go.ChangeShapes Go.WideShapes Go.ChangeAt Go.RowKit Go.WideMaps Go.WideElems
abbrev laid1:List (String×DataW Unit):=[("math/bits.deBruijn64tab",Rows.laid_math_bits_deBruijn64tab)]
theorem own:ownKnob Tryz.prog.godebug=none:=by kernel_rfl
theorem laidOut:laidOutB Tryz.prog=true:=by kernel_rfl
theorem gTab:Tryz.prog.globalNamed "math/bits.deBruijn64tab" = some 0:=by kernel_rfl
theorem tTab:(Tryz.prog.globals[0]?).map (·.type)=some 273:=by kernel_rfl
theorem door_met(os:Os)(args:Array Value):laidMetH Tryz.prog laid1 ((World.doorLaid Tryz.prog 400 os).forCall (fun _ _=>0) ⟨#[],args,[]⟩).memory :=
 laidMetH_of_parts3 (fuel:=8) (laidMet_of_run' 8 (by kernel_rfl) (by kernel_rfl)) (by kernel_rfl) (by kernel_rfl)
theorem tab_getD(j:Nat):∀j,j<64→(Lib.deBruijn64tab.map Int.ofNat).getD j 0=((Lib.deBruijn64tab.getD j 0:Nat):Int):=by decide
theorem tab_of{W:World}(h:laidMetH Tryz.prog laid1 W):TabW W:=by
 rw [MakeChecks.laidMetH_plain _ _ _ (by kernel_rfl)] at h;have h2:laidMet Tryz.prog [("math/bits.deBruijn64tab",Lib.tabData .u8 (Lib.deBruijn64tab.map Int.ofNat))] W:=h;have ht:=Lib.tabIs_of_head (n:=64) gTab tTab (by kernel_rfl) Tryz.underlying5 (by kernel_rfl) (by kernel_rfl) h2;have hc:∀j,j<64→W.cell? ⟨0,j,none⟩=some (.int .u8 (Lib.deBruijn64tab.getD j 0)):=fun j hj=>by
  have:=ht.cell gTab j hj;rw [tab_getD 0 j hj] at this;exact this
 exact⟨rfl,block_lt (hc 0 (by decide)),hc⟩
end
end Go.Proofs.YtfliaggjkianpaaGreatDoor
