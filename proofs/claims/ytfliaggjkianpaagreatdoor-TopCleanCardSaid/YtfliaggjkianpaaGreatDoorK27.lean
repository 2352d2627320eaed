import Derived.Test.YtfliaggjkianpaaGreatDoorK26
import Derived.ChangeSlices
import Derived.OpenShut
import Derived.WideShapes
import Derived.Test.YtfliaggjkianpaaGreatDoorRows
import Derived.Test.YtfliaggjkianpaaGreatDoorTie
import Derived.Test.YtfliaggjkianpaaGreatDoorCards
import Derived.ProofKit
import Derived.ShutString
import Derived.LaidMore
import Derived.Lib.LaidTab
import Derived.Stop.Joined
import Derived.SevenTiedAt
set_option linter.unusedVariables false
set_option linter.unusedSimpArgs false
set_option maxRecDepth 100000
namespace Go.Proofs.YtfliaggjkianpaaGreatDoor
section
open Go.RowKit Go.WideShapes Go.ChangeShapes
section
variable{H:Type}{enc:TypeId×Value→H}{P:Program}
theorem trodAll_stays(hl:laidOutB P=true){W W':World}(hb:Below W.heap.size W W'):∀{ts:List TypeId} {vs:List Value} {ds:List (DataW H)} {ps:List MemPlace},(∀t∈ts,P.readableRec t=true∧t<P.types.size) →
  DataW.TrodAll enc P W 0 (fun _=>true) true ts vs ds ps→(∀x∈ps,x.block<W.heap.size)→DataW.TrodAll enc P W' 0 (fun b=>decide (b<W.heap.size)) true ts vs ds ps
 |[],[],[],_,_,h,_=>h
 |t :: ts,v :: vs,d :: ds,ps,hr,h,hlt=>by
  obtain⟨p,q,h1,h2,rfl⟩:=h;refine⟨p,q,Below.trod hl (hr t (List.mem_cons_self ..)).1 (hr t (List.mem_cons_self ..)).2 h1 hb (fun x hx=>hlt x (List.mem_append.2 (Or.inl hx))),trodAll_stays hl hb (fun u hu=>hr u (List.mem_cons_of_mem _ hu)) h2 (fun x hx=>hlt x (List.mem_append.2 (Or.inr hx))),rfl⟩
 |[],[],_ :: _,_,_,h,_=>by cases h
 |[],_ :: _,_,_,_,h,_=>by cases h
 |_ :: _,[],_,_,_,h,_=>by cases h
 |_ :: _,_ :: _,[],_,_,h,_=>by cases h
theorem post_law{f:Func}{s:ChangeSpec}{apart fresh handsOn:Bool}{W W':World}{args:Array Value}{ds gs:List (DataW H)}{before:List MemPlace}{tb:TypeId}
  (hl:laidOutB P=true) (hr:∀t∈f.params.toList,P.readableRec t=true∧t<P.types.size) (hres:f.resultTypes=#[tb]) (hbool:P.underlying tb=some .bool)
  (hW:DataW.Whole enc P f.params.toList s.vars apart W args.toList ds gs before) (hvars:s.vars=[])
  (hfn:s.fn H (ds++gs)={results:=[.lit (.bool true)],args:=ds}) (hb:Below W.heap.size W W') :
  s.post enc P f apart fresh handsOn false W args (.bool true) W':=by
 have hlt:∀p∈before,p.block<W.heap.size:=fun p hp=>hW.lt p hp
 have hW0:=hW;obtain⟨p,q,hA,hV,rfl,_,_⟩:=hW;rw [hvars] at hV;cases gs with
 |cons g gs=>cases hV
 |nil =>
  have hq:q=[]:=hV;subst hq;have r1:∀(b:Nat) (sp:Nat→Bool) (hd:Bool),DataW.TrodAll enc P W' b sp hd f.resultTypes.toList ((Value.bool true).resultList f.resultTypes.size) (s.fn H (ds++[])).results []:=by
   intro b sp hd;rw [hfn,hres];exact trodAll_mk1 (shut_bool hbool true)
  have a1:=trodAll_stays hl hb hr hA (fun x hx=>hlt x (List.mem_append.2 (Or.inl hx)));refine⟨ds,[],p++[],[],p,[],hW0,r1 _ _ _,?_,?_,World.keptBut_mono (fun x hx=>⟨hx,?_⟩) (hb.frame (·∈p++[])),fun h=>?_⟩
  ·rw [hfn];exact a1
  ·rw [hvars,hfn];rfl
  ·simpa using hx
  ·cases h
end
end
section
open Go.ChangeShapes Go.WideShapes Go.ChangeAt Go.RowKit Go.WideMaps Go.WideElems
abbrev laid1:List (String×DataW Unit):=[("math/bits.deBruijn64tab",Rows.laid_math_bits_deBruijn64tab)]
theorem own:ownKnob Tryz.prog.godebug=none:=by kernel_rfl
theorem laidOut:laidOutB Tryz.prog=true:=by kernel_rfl
theorem gTab:Tryz.prog.globalNamed "math/bits.deBruijn64tab" = some 0:=by kernel_rfl
theorem tTab:(Tryz.prog.globals[0]?).map (·.type)=some 273:=by kernel_rfl
theorem door_met(os:Os)(args:Array Value):laidMetH Tryz.prog laid1 ((World.doorLaid Tryz.prog 400 os).forCall (fun _ _=>0) ⟨#[],args,[]⟩).memory :=
 laidMetH_of_parts3 (fuel:=8) (laidMet_of_run' 8 (by kernel_rfl) (by kernel_rfl)) (by kernel_rfl) (by kernel_rfl)
theorem tab_getD(j:Nat):∀j,j<64→(Lib.deBruijn64tab.map Int.ofNat).getD j 0=((Lib.deBruijn64tab.getD j 0:Nat):Int):=by decide
theorem tab_of{W:World}(h:laidMetH Tryz.prog laid1 W):TabW W:=by
 rw [MakeChecks.laidMetH_plain _ _ _ (by kernel_rfl)] at h;have h2:laidMet Tryz.prog [("math/bits.deBruijn64tab",Lib.tabData .u8 (Lib.deBruijn64tab.map Int.ofNat))] W:=h;have ht:=Lib.tabIs_of_head (n:=64) gTab tTab (by kernel_rfl) Tryz.underlying5 (by kernel_rfl) (by kernel_rfl) h2;have hc:∀j,j<64→W.cell? ⟨0,j,none⟩=some (.int .u8 (Lib.deBruijn64tab.getD j 0)):=fun j hj=>by
  have:=ht.cell gTab j hj;rw [tab_getD 0 j hj] at this;exact this
 exact⟨rfl,block_lt (hc 0 (by decide)),hc⟩
end
end Go.Proofs.YtfliaggjkianpaaGreatDoor
