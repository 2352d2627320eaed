import Derived.Test.YtfliaggjkianpaaGreatDoorK00
import Derived.Test.YtfliaggjkianpaaGreatDoorK01
import Derived.Deep.RegionHeld3
import Derived.WalkKit
import Derived.KernelRfl
import Derived.RegionTactic
import Derived.Test.YtfliaggjkianpaaGreatDoorK02
set_option linter.unusedVariables false
set_option linter.unusedSimpArgs false
set_option maxRecDepth 100000
namespace Go.Proofs.YtfliaggjkianpaaGreatDoor
section
open Go.RowKit Go
section
variable{P:Program}{ops:Array Oper}{Q:Exit→Act→World→Prop}{md:Region.Mode}{S:World→Prop}{i0:Nat}
def wpAnyT(P:Program)(md:Region.Mode)(ops:Array Oper)(Q:Exit→Act→World→Prop)(S:World→Prop)(i0:Nat):Nat→Array Bool→Act→World→Prop
 |0,listed,a,w=>Region.ready md ops listed=[]∧Q .normal a w
 |fuel+1,listed,a,w =>
  (Region.ready md ops listed=[]→Q .normal a w) ∧
  ∀i∈Region.ready md ops listed,wpOp P ops Q i (fun a' w'=>((listed.setIfInBounds i true).getD i0 false=true∨S w')∧wpAnyT P md ops Q S i0 fuel (listed.setIfInBounds i true) a' w') a w
theorem wpAny_of_T:∀(fuel:Nat) (listed:Array Bool) (a:Act) (w:World),wpAnyT P md ops Q S i0 fuel listed a w→wpAny P md ops Q fuel listed a w
 |0,_,_,_,h=>h
 |fuel+1,_,_,_,h=>⟨h.1,fun i hi=>wpOp_mono (fun a' w' h'=>wpAny_of_T fuel _ a' w' h'.2) (h.2 i hi)⟩
def ClosedL(md:Region.Mode)(ops:Array Oper)(listed:Array Bool):Prop:=∀(j:Nat) (oj:Oper),ops[j]? = some oj→listed.getD j false=true→∀e∈oj.after,Region.binds md e=true→listed.getD e.on false=true
def closedB(md:Region.Mode)(ops:Array Oper)(listed:Array Bool):Bool:=(List.range ops.size).all fun j=>!listed.getD j false||match ops[j]? with
 |some oj=>oj.after.all fun e=>!Region.binds md e||listed.getD e.on false
 |none=>true
theorem closedB_spec{listed:Array Bool}(h:closedB md ops listed=true):ClosedL md ops listed:=fun j oj hj hl e he hb=>by
 unfold closedB at h;have h1:=List.all_eq_true.1 h j (List.mem_range.2 (Array.getElem?_eq_some_iff.1 hj).1);simp only [hj,hl,Bool.not_true,Bool.false_or] at h1;have h2:=Array.all_eq_true_iff_forall_mem.1 h1 e he;simpa [hb] using h2
theorem ClosedL.set{listed:Array Bool}{j:Nat}(h:ClosedL md ops listed)(hj:j∈Region.ready md ops listed):ClosedL md ops (listed.setIfInBounds j true):=fun k ok hk hl e he hb=>by
 by_cases c:j=k
 ·subst c
  obtain⟨_,oj,hoj,hall⟩:=mem_ready.1 hj;rw [hk] at hoj;obtain rfl:=Option.some.inj hoj;exact getD_set_true (hall e he hb)
 ·rw [getD_set_ne false c] at hl
  exact getD_set_true (h k ok hk hl e he hb)
def leadsB(md:Region.Mode)(ops:Array Oper)(i0:Nat):Nat→Nat→Bool
 |0,i=>i==i0
 |f+1,i=>i==i0||(List.range ops.size).any fun k=>(match ops[k]? with
  |some ok=>ok.after.any fun e=>Region.binds md e&&e.on==i
  |none=>false)&&leadsB md ops i0 f k
theorem leads_listed{listed:Array Bool}(h:ClosedL md ops listed)(h0:listed.getD i0 false=true):∀(f i:Nat),leadsB md ops i0 f i=true→listed.getD i false=true
 |0,i,hl=>by
  unfold leadsB at hl;rw [eq_of_beq hl];exact h0
 |f+1,i,hl=>by
  unfold leadsB at hl;rcases Bool.or_eq_true_iff.1 hl with c|c
  ·rw [eq_of_beq c];exact h0
  ·obtain⟨k,_,hk⟩:=List.any_eq_true.1 c
   obtain⟨k1,k2⟩:=Bool.and_eq_true_iff.1 hk;have hkl:=leads_listed h h0 f k k2;cases e:ops[k]? with
   |none=>rw [e] at k1;cases k1
   |some ok =>
    rw [e] at k1;obtain⟨x,hx,hxb⟩:=Array.any_eq_true'.1 k1;obtain⟨x1,x2⟩:=Bool.and_eq_true_iff.1 hxb;rw [←eq_of_beq x2];exact h k ok e hkl x hx x1
theorem wpAnyT_first{i:Nat}{oi:Oper}{v:Value}{f:Nat}(hi:ops[i]? = some oi)(hsel:∀(j:Nat) (o:Oper) cs b,ops[j]? = some o→o.op≠.select cs b)
  (hQ:∀c a w,Q (.panic c) (a.put oi.dst v) w→Q (.panic c) a w) (hne:i≠i0) (hld:leadsB md ops i0 f i=true) :
  ∀(fuel:Nat) (listed:Array Bool) (a:Act) (w:World),
   (∀j oj,ops[j]? = some oj→j≠i→listed.getD j true=false→(∀e∈oj.after,Region.binds md e=true→e.on≠i)→oi.apart ops oj=true) →
   i∈Region.ready md ops listed→ClosedL md ops listed→YieldsIf P ops S oi v a→S w →
   wpAnyT P md ops Q S i0 fuel (listed.setIfInBounds i true) (a.put oi.dst v) w→wpAnyT P md ops Q S i0 (fuel+1) listed a w:=by
 intro fuel;induction fuel with
 |zero =>
  intro listed a w _ hr _ hy hS H;refine⟨fun h=>(by rw [h] at hr;cases hr),fun j hj=>?_⟩;by_cases hji:j=i
  ·subst hji;exact hy.wpOp hi hS ⟨.inr hS,H⟩
  ·have:=ready_mono hj hji
   rw [H.1] at this;cases this
 |succ fuel ih =>
  intro listed a w hfree hr hcl hy hS H;refine⟨fun h=>(by rw [h] at hr;cases hr),fun j hj=>?_⟩;by_cases hji:j=i
  ·subst hji;exact hy.wpOp hi hS ⟨.inr hS,H⟩
  ·have h1:=H.2 j (ready_mono hj hji)
   have hun0:=(mem_ready.1 hr).1;have hun:listed.getD i false=true→False:=fun q=>by
    rcases Nat.lt_or_ge i listed.size with h'|h'
    ·simp [h'] at hun0 q;rw [hun0] at q;cases q
    ·simp [Array.getElem?_eq_none h'] at q
   obtain⟨hjun,oj,hoj,hall⟩:=mem_ready.1 hj;have hnot:∀e∈oj.after,Region.binds md e=true→e.on≠i:=fun e he hb heq=>by
    have h1:=hall e he hb;rw [heq] at h1;exact hun h1
   have hj0:(listed.setIfInBounds j true).getD i0 false=true→False:=fun q=>by
    have:=leads_listed (hcl.set hj) q f i hld;rw [getD_set_ne false hji] at this;exact hun this
   have h2:=wpOp_putIf hoj (hfree j oj hoj hji hjun hnot) (fun cs b=>hsel i oi cs b hi) (fun cs b=>hsel j oj cs b hoj) hQ hy h1;have hfree':∀k ok,ops[k]? = some ok→k≠i→(listed.setIfInBounds j true).getD k true=false →
     (∀e∈ok.after,Region.binds md e=true→e.on≠i)→oi.apart ops ok=true:=fun k ok hk hki hun hno=>by
    refine hfree k ok hk hki ?_ hno;by_cases hjk:j=k
    ·subst hjk;exact hjun
    ·rw [getD_set_ne true hjk] at hun;exact hun
   refine wpOp_mono (fun a' w' h3=>?_) h2;have hS':S w':=by
    rcases h3.2.1 with q|q
    ·rw [Array.setIfInBounds_comm _ _ (Ne.symm hji),getD_set_ne false hne] at q
     exact(hj0 q).elim
    ·exact q
   refine⟨.inr hS',ih (listed.setIfInBounds j true) a' w' hfree' (ready_mono hr (Ne.symm hji)) (hcl.set hj) h3.1 hS' ?_⟩;rw [Array.setIfInBounds_comm _ _ hji];exact h3.2.2
theorem wpAnyT_firstY{i:Nat}{oi:Oper}{v:Value}(hi:ops[i]? = some oi)(hsel:∀(j:Nat) (o:Oper) cs b,ops[j]? = some o→o.op≠.select cs b)
  (hQ:∀c a w,Q (.panic c) (a.put oi.dst v) w→Q (.panic c) a w) (hne:i≠i0) :
  ∀(fuel:Nat) (listed:Array Bool) (a:Act) (w:World),
   (∀j oj,ops[j]? = some oj→j≠i→listed.getD j true=false→(∀e∈oj.after,Region.binds md e=true→e.on≠i)→oi.apart ops oj=true) →
   i∈Region.ready md ops listed→YieldsIf P ops (fun _=>True) oi v a→(listed.getD i0 false=true∨S w) →
   wpAnyT P md ops Q S i0 fuel (listed.setIfInBounds i true) (a.put oi.dst v) w→wpAnyT P md ops Q S i0 (fuel+1) listed a w:=by
 intro fuel;induction fuel with
 |zero =>
  intro listed a w _ hr hy hS H;refine⟨fun h=>(by rw [h] at hr;cases hr),fun j hj=>?_⟩;by_cases hji:j=i
  ·subst hji;exact hy.wpOp hi trivial ⟨hS.imp (fun q=>getD_set_true q) id,H⟩
  ·have:=ready_mono hj hji
   rw [H.1] at this;cases this
 |succ fuel ih =>
  intro listed a w hfree hr hy hS H;refine⟨fun h=>(by rw [h] at hr;cases hr),fun j hj=>?_⟩;by_cases hji:j=i
  ·subst hji;exact hy.wpOp hi trivial ⟨hS.imp (fun q=>getD_set_true q) id,H⟩
  ·have h1:=H.2 j (ready_mono hj hji)
   obtain⟨hjun,oj,hoj,hall⟩:=mem_ready.1 hj;have hnot:∀e∈oj.after,Region.binds md e=true→e.on≠i:=fun e he hb heq=>by
    have h1:=hall e he hb;have h0:=(mem_ready.1 hr).1;rw [heq] at h1;rcases Nat.lt_or_ge i listed.size with h'|h'
    ·simp [h'] at h0 h1;rw [h0] at h1;cases h1
    ·simp [Array.getElem?_eq_none h'] at h1
   have h2:=wpOp_putIf hoj (hfree j oj hoj hji hjun hnot) (fun cs b=>hsel i oi cs b hi) (fun cs b=>hsel j oj cs b hoj) hQ hy h1;have hfree':∀k ok,ops[k]? = some ok→k≠i→(listed.setIfInBounds j true).getD k true=false →
     (∀e∈ok.after,Region.binds md e=true→e.on≠i)→oi.apart ops ok=true:=fun k ok hk hki hun hno=>by
    refine hfree k ok hk hki ?_ hno;by_cases hjk:j=k
    ·subst hjk;exact hjun
    ·rw [getD_set_ne true hjk] at hun;exact hun
   refine wpOp_mono (fun a' w' h3=>?_) h2;have hS':(listed.setIfInBounds j true).getD i0 false=true∨S w':=by
    rcases h3.2.1 with q|q
    ·rw [Array.setIfInBounds_comm _ _ (Ne.symm hji),getD_set_ne false hne] at q
     exact .inl q
    ·exact .inr q
   refine⟨hS',ih (listed.setIfInBounds j true) a' w' hfree' (ready_mono hr (Ne.symm hji)) h3.1 hS' ?_⟩;rw [Array.setIfInBounds_comm _ _ hji];exact h3.2.2
theorem wpAnyT_take{i:Nat}{oi:Oper}{v:Value}{fuel:Nat}{listed:Array Bool}{a:Act}{w:World}(hi:ops[i]? = some oi)
  (hs:Region.noSelect ops=true) (hf:Region.free md ops listed i=true) (hr:(Region.ready md ops listed).contains i=true) (hne:(i != i0)=true) (hld:leadsB md ops i0 6 i=true) (hcl:closedB md ops listed=true)
  (hQ:∀c a w,Q (.panic c) (a.put oi.dst v) w→Q (.panic c) a w) (hy:YieldsIf P ops S oi v a) (hS:S w)
  (h:wpAnyT P md ops Q S i0 fuel (listed.setIfInBounds i true) (a.put oi.dst v) w):wpAnyT P md ops Q S i0 (fuel+1) listed a w :=
 wpAnyT_first hi (Region.noSelect_spec hs) hQ (by simpa using hne) hld fuel listed a w (Region.free_spec hi hf) (by simpa using hr) (closedB_spec hcl) hy hS h
theorem wpAnyT_takeY{i:Nat}{oi:Oper}{v:Value}{fuel:Nat}{listed:Array Bool}{a:Act}{w:World}(hi:ops[i]? = some oi)
  (hs:Region.noSelect ops=true) (hf:Region.free md ops listed i=true) (hr:(Region.ready md ops listed).contains i=true) (hne:(i != i0)=true)
  (hQ:∀c a w,Q (.panic c) (a.put oi.dst v) w→Q (.panic c) a w) (hy:YieldsIf P ops (fun _=>True) oi v a) (hS:S w)
  (h:wpAnyT P md ops Q S i0 fuel (listed.setIfInBounds i true) (a.put oi.dst v) w):wpAnyT P md ops Q S i0 (fuel+1) listed a w :=
 wpAnyT_firstY hi (Region.noSelect_spec hs) hQ (by simpa using hne) fuel listed a w (Region.free_spec hi hf) (by simpa using hr) hy (.inr hS) h
theorem wpAnyT_one{i:Nat}{o:Oper}{fuel:Nat}{listed:Array Bool}{a:Act}{w:World}(hr:Region.ready md ops listed=[i])(ho:ops[i]? = some o)
  (h:∀K':Act→World→Prop,Shut (∀a w,S w→(S w→wpAnyT P md ops Q S i0 fuel (listed.setIfInBounds i true) a w)→K' a w)→if Region.wanted o (yielded ops a.tmps)=true then Oper.wp P o a w K' Q else K' (a.put o.dst undef) w) :
  wpAnyT P md ops Q S i0 (fuel+1) listed a w:=by
 refine⟨fun q=>(by rw [hr] at q;cases q),fun j hj=>?_⟩;rw [hr] at hj;obtain rfl:=List.mem_singleton.1 hj;exact wpOp_step ho (fun K' hK=>h K' (fun a w hS hW=>hK a w ⟨.inr hS,hW hS⟩))
theorem wpAnyT_last{o:Oper}{fuel:Nat}{listed:Array Bool}{a:Act}{w:World}(hr:Region.ready md ops listed=[i0])(ho:ops[i0]? = some o)(hl:(listed.setIfInBounds i0 true).getD i0 false=true)(hd:Region.ready md ops (listed.setIfInBounds i0 true)=[])
  (h:∀K':Act→World→Prop,Shut (∀a w,Q .normal a w→K' a w)→if Region.wanted o (yielded ops a.tmps)=true then Oper.wp P o a w K' Q else K' (a.put o.dst undef) w) :
  wpAnyT P md ops Q S i0 (fuel+1) listed a w:=by
 refine⟨fun q=>(by rw [hr] at q;cases q),fun j hj=>?_⟩;rw [hr] at hj;obtain rfl:=List.mem_singleton.1 hj;refine wpOp_step ho (fun K' hK=>h K' (fun a w hq=>hK a w ⟨.inl hl,?_⟩));cases fuel with
 |zero=>exact⟨hd,hq⟩
 |succ fuel=>exact⟨fun _=>hq,by rw [hd];simp⟩
theorem wpAnyT_at{o:Oper}{fuel:Nat}{listed:Array Bool}{a:Act}{w:World}(hr:Region.ready md ops listed=[i0])(ho:ops[i0]? = some o)(hl:(listed.setIfInBounds i0 true).getD i0 false=true)
  (h:∀K':Act→World→Prop,Shut (∀a w,wpAnyT P md ops Q S i0 fuel (listed.setIfInBounds i0 true) a w→K' a w)→if Region.wanted o (yielded ops a.tmps)=true then Oper.wp P o a w K' Q else K' (a.put o.dst undef) w) :
  wpAnyT P md ops Q S i0 (fuel+1) listed a w:=by
 refine⟨fun q=>(by rw [hr] at q;cases q),fun j hj=>?_⟩;rw [hr] at hj;obtain rfl:=List.mem_singleton.1 hj;exact wpOp_step ho (fun K' hK=>h K' (fun a w hW=>hK a w ⟨.inl hl,hW⟩))
theorem wpAnyT_takeL{i:Nat}{oi:Oper}{v:Value}{fuel:Nat}{listed:Array Bool}{a:Act}{w:World}(hi:ops[i]? = some oi)
  (hs:Region.noSelect ops=true) (hf:Region.free md ops listed i=true) (hr:(Region.ready md ops listed).contains i=true) (hne:(i != i0)=true)
  (hQ:∀c a w,Q (.panic c) (a.put oi.dst v) w→Q (.panic c) a w) (hy:YieldsIf P ops (fun _=>True) oi v a) (hl:listed.getD i0 false=true)
  (h:wpAnyT P md ops Q S i0 fuel (listed.setIfInBounds i true) (a.put oi.dst v) w):wpAnyT P md ops Q S i0 (fuel+1) listed a w :=
 wpAnyT_firstY hi (Region.noSelect_spec hs) hQ (by simpa using hne) fuel listed a w (Region.free_spec hi hf) (by simpa using hr) hy (.inl hl) h
theorem wpAnyT_done{listed:Array Bool}{a:Act}{w:World}(hr:Region.ready md ops listed=[])(h:Q .normal a w):∀fuel,wpAnyT P md ops Q S i0 fuel listed a w
 |0=>⟨hr,h⟩
 |_+1=>⟨fun _=>h,by rw [hr];simp⟩
theorem wp_region_T(i0:Nat){id:Nat}{a:Act}{w:World}(hm:P.follows .mixedOrders=true)(hS:S w.drew)
  (h:S w.drew→wpAnyT P .any ops Q S i0 ops.size (Array.replicate ops.size false) a w.drew):(Code.region id ops true).wp P Q a w :=
 wp_region_any hm (wpAny_of_T _ _ _ _ (h hS))
end
end
section
open Go.RowKit Go
section
variable{P:Program}{ops:Array Oper}{Q:Exit→Act→World→Prop}{md:Region.Mode}{S:World→Prop}{i0:Nat}
theorem allB{a b c:Bool}(h:(a&&b&&c)=true):a=true∧b=true∧c=true:=by
 rw [Bool.and_eq_true,Bool.and_eq_true] at h;exact⟨h.1.1,h.1.2,h.2⟩
theorem tkH(i:Nat){oi:Oper}{v:Value}{fuel:Nat}{listed:Array Bool}{a a':Act}{w:World}(hi:ops[i]? = some oi:=by(try simp only [List.getElem?_toArray,List.getElem?_cons_succ,List.getElem?_cons_zero]);rfl)(hb:(Region.noSelect ops&&Region.free md ops listed i&&(Region.ready md ops listed).contains i)=true:=by kernel_rfl)
  (hy:YieldsIf P ops S oi v a:=by(refine Or.inl ⟨rfl,?_⟩;intro w hSw;(try dsimp only at hSw);first|(go_simp;done)|(go_simp;with_reducible rfl)))
  (hS:S w:=by assumption) (ha:a.put oi.dst v=a':=by(try simp only [Act.put,List.setIfInBounds_toArray,List.set_cons_zero,List.set_cons_succ]);rfl) (hQ:∀c a w,Q (.panic c) (a.put oi.dst v) w→Q (.panic c) a w:=by exact fun _ _ _ h=>h)
  (h:wpAnyH P md ops Q S fuel (listed.setIfInBounds i true) a' w):wpAnyH P md ops Q S (fuel+1) listed a w:=by
 subst ha;obtain⟨b1,b2,b3⟩:=allB hb;exact wpAnyH_take hi b1 b2 b3 hQ hy hS h
theorem tkHs(i:Nat){oi:Oper}{v:Value}{fuel:Nat}{listed:Array Bool}{a a':Act}{w:World}(hi:ops[i]? = some oi:=by(try simp only [List.getElem?_toArray,List.getElem?_cons_succ,List.getElem?_cons_zero]);rfl)(hb:(Region.noSelect ops&&Region.free md ops listed i&&(Region.ready md ops listed).contains i)=true:=by kernel_rfl)
  (hy:YieldsIf P ops S oi v a:=by exact Or.inr ⟨rfl,rfl⟩)
  (hS:S w:=by assumption) (ha:a.put oi.dst v=a':=by(try simp only [Act.put,List.setIfInBounds_toArray,List.set_cons_zero,List.set_cons_succ]);rfl) (hQ:∀c a w,Q (.panic c) (a.put oi.dst v) w→Q (.panic c) a w:=by exact fun _ _ _ h=>h)
  (h:wpAnyH P md ops Q S fuel (listed.setIfInBounds i true) a' w):wpAnyH P md ops Q S (fuel+1) listed a w:=by
 subst ha;obtain⟨b1,b2,b3⟩:=allB hb;exact wpAnyH_take hi b1 b2 b3 hQ hy hS h
theorem tkT(i:Nat){oi:Oper}{v:Value}{fuel:Nat}{listed:Array Bool}{a a':Act}{w:World}(hi:ops[i]? = some oi:=by(try simp only [List.getElem?_toArray,List.getElem?_cons_succ,List.getElem?_cons_zero]);rfl)(hb:(Region.noSelect ops&&Region.free md ops listed i&&(Region.ready md ops listed).contains i)=true:=by kernel_rfl)
  (hne:(i != i0)=true:=by kernel_rfl) (hld:leadsB md ops i0 6 i=true:=by kernel_rfl) (hcl:closedB md ops listed=true:=by kernel_rfl) (hy:YieldsIf P ops S oi v a:=by(refine Or.inl ⟨rfl,?_⟩;intro w hSw;(try dsimp only at hSw);first|(go_simp;done)|(go_simp;with_reducible rfl)))
  (hS:S w:=by assumption) (ha:a.put oi.dst v=a':=by(try simp only [Act.put,List.setIfInBounds_toArray,List.set_cons_zero,List.set_cons_succ]);rfl) (hQ:∀c a w,Q (.panic c) (a.put oi.dst v) w→Q (.panic c) a w:=by exact fun _ _ _ h=>h)
  (h:wpAnyT P md ops Q S i0 fuel (listed.setIfInBounds i true) a' w):wpAnyT P md ops Q S i0 (fuel+1) listed a w:=by
 subst ha;obtain⟨b1,b2,b3⟩:=allB hb;exact wpAnyT_take hi b1 b2 b3 hne hld hcl hQ hy hS h
theorem tkY(i:Nat){oi:Oper}{v:Value}{fuel:Nat}{listed:Array Bool}{a a':Act}{w:World}(hi:ops[i]? = some oi:=by(try simp only [List.getElem?_toArray,List.getElem?_cons_succ,List.getElem?_cons_zero]);rfl)(hb:(Region.noSelect ops&&Region.free md ops listed i&&(Region.ready md ops listed).contains i)=true:=by kernel_rfl)
  (hne:(i != i0)=true:=by kernel_rfl) (hy:YieldsIf P ops (fun _=>True) oi v a:=by(refine Or.inl ⟨rfl,?_⟩;intro w hSw;(try dsimp only at hSw);first|(go_simp;done)|(go_simp;with_reducible rfl)))
  (hS:S w:=by assumption) (ha:a.put oi.dst v=a':=by(try simp only [Act.put,List.setIfInBounds_toArray,List.set_cons_zero,List.set_cons_succ]);rfl) (hQ:∀c a w,Q (.panic c) (a.put oi.dst v) w→Q (.panic c) a w:=by exact fun _ _ _ h=>h)
  (h:wpAnyT P md ops Q S i0 fuel (listed.setIfInBounds i true) a' w):wpAnyT P md ops Q S i0 (fuel+1) listed a w:=by
 subst ha;obtain⟨b1,b2,b3⟩:=allB hb;exact wpAnyT_takeY hi b1 b2 b3 hne hQ hy hS h
theorem tkL(i:Nat){oi:Oper}{v:Value}{fuel:Nat}{listed:Array Bool}{a a':Act}{w:World}(hi:ops[i]? = some oi:=by(try simp only [List.getElem?_toArray,List.getElem?_cons_succ,List.getElem?_cons_zero]);rfl)(hb:(Region.noSelect ops&&Region.free md ops listed i&&(Region.ready md ops listed).contains i)=true:=by kernel_rfl)
  (hne:(i != i0)=true:=by kernel_rfl) (hl:listed.getD i0 false=true:=by kernel_rfl) (hy:YieldsIf P ops (fun _=>True) oi v a:=by(refine Or.inl ⟨rfl,?_⟩;intro w hSw;(try dsimp only at hSw);first|(go_simp;done)|(go_simp;with_reducible rfl)))
  (ha:a.put oi.dst v=a':=by(try simp only [Act.put,List.setIfInBounds_toArray,List.set_cons_zero,List.set_cons_succ]);rfl) (hQ:∀c a w,Q (.panic c) (a.put oi.dst v) w→Q (.panic c) a w:=by exact fun _ _ _ h=>h)
  (h:wpAnyT P md ops Q S i0 fuel (listed.setIfInBounds i true) a' w):wpAnyT P md ops Q S i0 (fuel+1) listed a w:=by
 subst ha;obtain⟨b1,b2,b3⟩:=allB hb;exact wpAnyT_takeL hi b1 b2 b3 hne hQ hy hl h
theorem nmH{fuel:Nat}{listed:Array Bool}{a a':Act}{w:World}(ha:a=a':=by(try simp only [Act.put,List.setIfInBounds_toArray,List.set_cons_zero,List.set_cons_succ]);rfl)(h:wpAnyH P md ops Q S fuel listed a' w):wpAnyH P md ops Q S fuel listed a w:=ha▸h
theorem nmT{fuel:Nat}{listed:Array Bool}{a a':Act}{w:World}(ha:a=a':=by(try simp only [Act.put,List.setIfInBounds_toArray,List.set_cons_zero,List.set_cons_succ]);rfl)(h:wpAnyT P md ops Q S i0 fuel listed a' w):wpAnyT P md ops Q S i0 fuel listed a w:=ha▸h
theorem onH(i:Nat){o:Oper}{fuel:Nat}{listed:Array Bool}{a:Act}{w:World}(hr:Region.ready md ops listed=[i]:=by kernel_rfl)(ho:ops[i]? = some o:=by(try simp only [List.getElem?_toArray,List.getElem?_cons_succ,List.getElem?_cons_zero]);rfl)
  (h:∀K':Act→World→Prop,Shut (∀a w,S w→(S w→wpAnyH P md ops Q S fuel (listed.setIfInBounds i true) a w)→K' a w)→if Region.wanted o (yielded ops a.tmps)=true then Oper.wp P o a w K' Q else K' (a.put o.dst undef) w):wpAnyH P md ops Q S (fuel+1) listed a w :=
 wpAnyH_ready hr (by simp) (AllReadyH.cons ho h AllReadyH.nil)
theorem conH{i:Nat}{rs:List Nat}{o:Oper}{fuel:Nat}{listed:Array Bool}{a:Act}{w:World}(ho:ops[i]? = some o:=by(try simp only [List.getElem?_toArray,List.getElem?_cons_succ,List.getElem?_cons_zero]);rfl)
  (h:∀K':Act→World→Prop,Shut (∀a w,S w→(S w→wpAnyH P md ops Q S fuel (listed.setIfInBounds i true) a w)→K' a w)→if Region.wanted o (yielded ops a.tmps)=true then Oper.wp P o a w K' Q else K' (a.put o.dst undef) w) (hs:AllReadyH P md ops Q S fuel listed a w rs):AllReadyH P md ops Q S fuel listed a w (i :: rs) :=
 AllReadyH.cons ho h hs
theorem onT(i:Nat){o:Oper}{fuel:Nat}{listed:Array Bool}{a:Act}{w:World}(hr:Region.ready md ops listed=[i]:=by kernel_rfl)(ho:ops[i]? = some o:=by(try simp only [List.getElem?_toArray,List.getElem?_cons_succ,List.getElem?_cons_zero]);rfl)
  (h:∀K':Act→World→Prop,Shut (∀a w,S w→(S w→wpAnyT P md ops Q S i0 fuel (listed.setIfInBounds i true) a w)→K' a w)→if Region.wanted o (yielded ops a.tmps)=true then Oper.wp P o a w K' Q else K' (a.put o.dst undef) w):wpAnyT P md ops Q S i0 (fuel+1) listed a w :=
 wpAnyT_one hr ho h
theorem atT{o:Oper}{fuel:Nat}{listed:Array Bool}{a:Act}{w:World}(hr:Region.ready md ops listed=[i0]:=by kernel_rfl)(ho:ops[i0]? = some o:=by(try simp only [List.getElem?_toArray,List.getElem?_cons_succ,List.getElem?_cons_zero]);rfl)(hl:(listed.setIfInBounds i0 true).getD i0 false=true:=by kernel_rfl)
  (h:∀K':Act→World→Prop,Shut (∀a w,wpAnyT P md ops Q S i0 fuel (listed.setIfInBounds i0 true) a w→K' a w)→if Region.wanted o (yielded ops a.tmps)=true then Oper.wp P o a w K' Q else K' (a.put o.dst undef) w):wpAnyT P md ops Q S i0 (fuel+1) listed a w :=
 wpAnyT_at hr ho hl h
theorem laT{o:Oper}{fuel:Nat}{listed:Array Bool}{a:Act}{w:World}(hr:Region.ready md ops listed=[i0]:=by kernel_rfl)(ho:ops[i0]? = some o:=by(try simp only [List.getElem?_toArray,List.getElem?_cons_succ,List.getElem?_cons_zero]);rfl)(hl:(listed.setIfInBounds i0 true).getD i0 false=true:=by kernel_rfl)(hd:Region.ready md ops (listed.setIfInBounds i0 true)=[]:=by kernel_rfl)
  (h:∀K':Act→World→Prop,Shut (∀a w,Q .normal a w→K' a w)→if Region.wanted o (yielded ops a.tmps)=true then Oper.wp P o a w K' Q else K' (a.put o.dst undef) w):wpAnyT P md ops Q S i0 (fuel+1) listed a w :=
 wpAnyT_last hr ho hl hd h
end
end
section
open Go.RowKit
def CnPost(w:World)(o:Nat→Tag)(t u:Tag)(b a:Nat)(v:Value)(s:CnS)(B:List UInt8)(m:Nat)(e:Ending)(w':World):Prop :=
 e=.returned v∧CnAt w' (newO o w u) t b a s∧ArAt w' (newO o w u) u a B m∧Fr (fun v=>v=t∨Und u v) w o w' (newO o w u)
def CnS.at(s:CnS)(k:Int):Int:=s.base+k*s.unit
theorem cnPush(b a:Nat)(k:Int)(w:World){o:Nat→Tag}{t u:Tag}{s:CnS}{B:List UInt8}{m:Nat}(h:CnAt w o t b a s)(ha:ArAt w o u a B m)(hm:m≤1000000)
  (hk:0≤k∧k<s.per) (he:hasE B.length (s.at k) 8=0) (htu:¬Und u t) (h9:t≠[9]) :
  Calls Tryz.prog 237 #[.pointer (some ⟨b,0,none⟩),.int .i64 k] w (CnPost w o t u b a (.int .i64 0) (s.to k) (stB B (s.at k) (s.head+1).toNat) (m+1)):=by
 have hok:=h.1;obtain⟨o1,o2,o3,o4,o5⟩:=hok;have c0:w.drew.cell? ⟨b,0,none⟩=some (.pointer (some ⟨a,0,none⟩)):=h.2.cell' (i:=0) rfl;have c3:w.cell? ⟨b,3,none⟩=some (.int .i64 s.per):=h.2.cell' (i:=3) rfl;have c4:w.drew.cell? ⟨b,4,none⟩=some (.int .i64 s.head):=h.2.cell' (i:=4) rfl;have hd:CnAt w.drew o t b a s:=⟨h.1,h.2⟩
 have ht:=HD (cnAt b a k w.drew hd (by omega));have had:ArAt w.drew.drew o u a B m:=(ha.fr (S:=fun _=>False) Fr.drew ⟨fun _ _ q=>q,fun q=>q⟩).fr (S:=fun _=>False) Fr.drew ⟨fun _ _ q=>q,fun q=>q⟩;have hst:=HD (arStore a (s.at k) (s.head+1).toNat (by omega) w.drew.drew had hm);rw [he] at hst;have hto:(((s.head+1).toNat:Nat):Int)=IntKind.u64.wrap (IntKind.i64.wrap (s.head+1)):=by rw [IntWalk.i64_in _ (by omega),IntWalk.u64_in _ (by omega)];omega
 rw [hto] at hst;have hfin:=HD (show ∀w1:World,ArAt w1 (newO o w u) u a (stB B (s.at k) (s.head+1).toNat) (m+1)→Fr (Und u) w.drew.drew o w1 (newO o w u) →
   w1.cell? ⟨b,0,none⟩=some (.pointer (some ⟨a,0,none⟩))∧w1.cell? ⟨b,4,none⟩=some (.int .i64 s.head)∧w1.frozen? ⟨b,4,none⟩=false ∧
   CnPost w o t u b a (.int .i64 0) (s.to k) (stB B (s.at k) (s.head+1).toNat) (m+1) (.returned (.int .i64 0)) (w1.setCell ⟨b,4,none⟩ (.int .i64 k)) from fun w1 r1 r2=>by
  have f:=(Fr.drew.trans Fr.drew).trans r2 (o1:=o) (w:=w);have q:=h.2.fr f htu;refine⟨q.cell' (i:=0) rfl,q.cell' (i:=4) rfl,q.free 4,rfl,⟨⟨o1,o2,o3,by show -1≤k;omega,by show k<s.per;omega⟩,q.set 4 _⟩,r1.fr (S:=(· = t)) (Fr.setCell (fun _=>q.1) _) ⟨fun v hv e=>htu (by rw [←e];exact hv),fun e=>h9 e.symm⟩,(f.mono (fun v hv=>.inr hv)).set' (fun _=>.inl h.2.1) _⟩)
 clear h ha hd had o1 o2 o4 o5;go_enter Tryz.func237,Tryz.ntmps237
 go_wp2_with fail;refine wp_region_noPanic ?_;refine wp_region_held_drew (S:=(fun W=>W.cell? ⟨b,0,none⟩=some (.pointer (some ⟨a,0,none⟩))∧W.cell? ⟨b,4,none⟩=some (.int .i64 s.head))) (by kernel_rfl) ?_ (fun hHeld=>?_)
 ·(try dsimp only)
  (first|exact⟨c0,c4⟩|exact hcs)
 refine tkH 0 (h:=?_);refine tkH 1 (h:=?_);refine tkH 2 (h:=?_);refine tkH 3 (h:=?_);refine tkH 4 (h:=?_);refine tkH 5 (h:=?_);refine tkH 7 (h:=?_);refine tkH 8 (h:=?_);refine tkH 9 (h:=?_);refine tkH 10 (h:=?_);refine tkH 11 (h:=?_);refine tkH 12 (h:=?_);refine onH 6 (h:=fun K hK=>?_);go_simp;refine ht.out.mono ?_;rintro e w1 ⟨rfl,rfl⟩;go_wp2_with fail;refine hK.out _ _ ?_ (fun hHeld=>?_)
 ·(try dsimp only)
  (first|exact⟨c0,c4⟩|exact hcs)
 clear hK;refine nmH (h:=?_);refine onH 13 (h:=fun K hK=>?_);go_simp;refine hst.out.mono ?_;rintro e w1 ⟨rfl,r1,r2⟩;have hf:=HD (hfin.out w1 r1 r2);have hcs:w1.cell? ⟨b,0,none⟩=some (.pointer (some ⟨a,0,none⟩))∧w1.cell? ⟨b,4,none⟩=some (.int .i64 s.head):=⟨hf.out.1,hf.out.2.1⟩
 clear r1 r2;go_wp2_with fail;refine hK.out _ _ ?_ (fun hHeld=>?_)
 ·(try dsimp only)
  (first|exact⟨c0,c4⟩|exact hcs)
 clear hK;refine nmH (h:=?_);refine tkH 14 (h:=?_);refine wpAnyH_done (by kernel_rfl) ?_ _;refine NoPanic.normal ?_;have hfz:=hf.out.2.2.1;obtain⟨hc0,hc4⟩:=hcs;go_wp2_with fail;go_ret
 exact hf.out.2.2.2
end
section
open Go.RowKit
theorem cnNext(b a:Nat)(k:Int)(w:World){o:Nat→Tag}{t u:Tag}{s:CnS}{B:List UInt8}{m:Nat}(h:CnAt w o t b a s)(ha:ArAt w o u a B m)(hm:m≤1000000)
  (hk:0≤k∧k<s.per) (he:hasE B.length (s.at k) 8=0) (hv:(ldV B (s.at k):Int)≤s.per) (htu:¬Und u t) :
  Calls Tryz.prog 246 #[.pointer (some ⟨b,0,none⟩),.int .i64 k] w (CnPost w o t u b a (.tuple #[.int .i64 ((ldV B (s.at k):Nat)-1:Int),.int .i64 0]) s B (m+1)):=by
 have hok:=h.1;obtain⟨o1,o2,o3,o4,o5⟩:=hok;have c0:w.drew.cell? ⟨b,0,none⟩=some (.pointer (some ⟨a,0,none⟩)):=h.2.cell' (i:=0) rfl;have hd:CnAt w.drew o t b a s:=⟨h.1,h.2⟩
 have ht:=HD (cnAt b a k w.drew hd (by omega));have had:ArAt w.drew.drew o u a B m:=(ha.fr (S:=fun _=>False) Fr.drew ⟨fun _ _ q=>q,fun q=>q⟩).fr (S:=fun _=>False) Fr.drew ⟨fun _ _ q=>q,fun q=>q⟩;have hst:=HD (arLoad a (s.at k) w.drew.drew had hm);rw [he] at hst;have hfin:=HD (show ∀w1:World,ArAt w1 (newO o w u) u a B (m+1)→Fr (Und u) w.drew.drew o w1 (newO o w u) →
   w1.cell? ⟨b,0,none⟩=some (.pointer (some ⟨a,0,none⟩))∧w1.cell? ⟨b,3,none⟩=some (.int .i64 s.per) ∧
   CnPost w o t u b a (.tuple #[.int .i64 ((ldV B (s.at k):Nat)-1:Int),.int .i64 0]) s B (m+1) (.returned (.tuple #[.int .i64 ((ldV B (s.at k):Nat)-1:Int),.int .i64 0])) w1 from fun w1 r1 r2=>by
  have f:=(Fr.drew.trans Fr.drew).trans r2 (o1:=o) (w:=w);have q:=h.2.fr f htu;exact⟨q.cell' (i:=0) rfl,q.cell' (i:=3) rfl,rfl,⟨⟨o1,o2,o3,o4,o5⟩,q⟩,r1,(f.mono (fun v hv=>.inr hv))⟩)
 generalize ldV B (s.at k)=x at *;have u1:=IntWalk.i64_in (x:Int) (by omega);have u2:=IntWalk.i64_in ((x:Int)-1) (by omega);have u3:=IntWalk.u64_in s.per (by omega);clear h ha hd had o2 o4 o5;generalize s.per=per at *;go_enter Tryz.func246,Tryz.ntmps246
 go_wp2_with fail;refine wp_region_noPanic ?_;refine wp_region_held_drew (S:=(fun W=>W.cell? ⟨b,0,none⟩=some (.pointer (some ⟨a,0,none⟩)))) (by kernel_rfl) ?_ (fun hHeld=>?_)
 ·(try dsimp only)
  (first|exact c0|exact hcs)
 refine tkH 0 (h:=?_);refine tkH 1 (h:=?_);refine tkH 2 (h:=?_);refine tkH 3 (h:=?_);refine tkH 4 (h:=?_);refine tkH 5 (h:=?_);refine onH 6 (h:=fun K hK=>?_);go_simp;refine ht.out.mono ?_;rintro e w1 ⟨rfl,rfl⟩;go_wp2_with fail;refine hK.out _ _ ?_ (fun hHeld=>?_)
 ·(try dsimp only)
  (first|exact c0|exact hcs)
 clear hK;refine nmH (h:=?_);refine onH 7 (h:=fun K hK=>?_);go_simp;refine hst.out.mono ?_;rintro e w1 ⟨rfl,r1,r2⟩;have hf:=HD (hfin.out w1 r1 r2);have hcs:=hf.out.1;clear r1 r2;go_wp2_with fail;refine hK.out _ _ ?_ (fun hHeld=>?_)
 ·(try dsimp only)
  (first|exact c0|exact hcs)
 clear hK;refine nmH (h:=?_);refine tkH 8 (h:=?_);refine tkH 9 (h:=?_);refine tkH 10 (h:=?_);refine tkH 11 (h:=?_);refine tkH 12 (h:=?_);refine wpAnyH_done (by kernel_rfl) ?_ _;refine NoPanic.normal ?_;have hc3:=hf.out.2.1;go_wp2_with fail;go_ret2
 exact hf.out.2.2
theorem cnPop(b a:Nat)(w:World){o:Nat→Tag}{t u:Tag}{s:CnS}{B:List UInt8}{m:Nat}(h:CnAt w o t b a s)(ha:ArAt w o u a B m)(hm:m<1000000)
  (hk:0≤s.head) (he:hasE B.length (s.at s.head) 8=0) (hv:(ldV B (s.at s.head):Int)≤s.per) (htu:¬Und u t) (h9:t≠[9]) :
  Calls Tryz.prog 231 #[.pointer (some ⟨b,0,none⟩)] w (CnPost w o t u b a (.tuple #[.int .i64 s.head,.int .i64 0]) (s.to ((ldV B (s.at s.head):Nat)-1:Int)) (stB B (s.at s.head) 0) (m+2)):=by
 have hok:=h.1;obtain⟨o1,o2,o3,o4,o5⟩:=hok;have c4:w.cell? ⟨b,4,none⟩=some (.int .i64 s.head):=h.2.cell' (i:=4) rfl;have hn:=HD (cnNext b a s.head w h ha (by omega) ⟨hk,o5⟩ he hv htu);generalize hx:ldV B (s.at s.head)=x at *;have hfin:=HD (show ∀w1:World,CnPost w o t u b a (.tuple #[.int .i64 ((x:Nat)-1:Int),.int .i64 0]) s B (m+1) (.returned (.tuple #[.int .i64 ((x:Nat)-1:Int),.int .i64 0])) w1 →
   w1.frozen? ⟨b,4,none⟩=false∧w1.cell? ⟨b,4,none⟩=some (.int .i64 s.head) ∧
   (w1.setCell ⟨b,4,none⟩ (.int .i64 ((x:Nat)-1:Int))).drew.cell? ⟨b,0,none⟩=some (.pointer (some ⟨a,0,none⟩)) ∧
   Calls Tryz.prog 248 #[.pointer (some ⟨b,0,none⟩),.int .i64 s.head] (w1.setCell ⟨b,4,none⟩ (.int .i64 ((x:Nat)-1:Int))).drew (fun e w'=>e=.returned (.int .i64 (s.base+s.head*s.unit))∧w'=(w1.setCell ⟨b,4,none⟩ (.int .i64 ((x:Nat)-1:Int))).drew.drew) ∧
   Calls Tryz.prog 247 #[.pointer (some ⟨a,0,none⟩),.int .i64 (s.at s.head),.int .u64 0] (w1.setCell ⟨b,4,none⟩ (.int .i64 ((x:Nat)-1:Int))).drew.drew (fun e w2=>e=.returned (.int .i64 0) ∧
    w2.cell? ⟨b,0,none⟩=some (.pointer (some ⟨a,0,none⟩)) ∧
    CnPost w o t u b a (.tuple #[.int .i64 s.head,.int .i64 0]) (s.to ((x:Nat)-1:Int)) (stB B (s.at s.head) 0) (m+2) (.returned (.tuple #[.int .i64 s.head,.int .i64 0])) w2) from fun w1 r=>by
  obtain⟨_,r1,r2,r3⟩:=r;have q2:CnAt (w1.setCell ⟨b,4,none⟩ (.int .i64 ((x:Nat)-1:Int))) (newO o w u) t b a (s.to ((x:Nat)-1:Int)):=⟨⟨o1,o2,o3,by show -1≤(x:Int)-1;omega,by show (x:Int)-1<s.per;omega⟩,r1.2.set 4 _⟩
  have hob:newO o w u b=t:=r1.2.1;have q3:=r2.fr (S:=(· = t)) (Fr.setCell (p:=⟨b,4,none⟩) (fun _=>hob) (.int .i64 ((x:Nat)-1:Int))) ⟨fun v hv e=>htu (by rw [←e];exact hv),fun e=>h9 e.symm⟩;have q5:ArAt (w1.setCell ⟨b,4,none⟩ (.int .i64 ((x:Nat)-1:Int))).drew.drew (newO o w u) u a B (m+1):=(q3.fr (S:=fun _=>False) Fr.drew ⟨fun _ _ q=>q,fun q=>q⟩).fr (S:=fun _=>False) Fr.drew ⟨fun _ _ q=>q,fun q=>q⟩;have f1:Fr (fun v=>v=t∨Und u v) w o (w1.setCell ⟨b,4,none⟩ (.int .i64 ((x:Nat)-1:Int))).drew.drew (newO o w u):=(r3.trans (Fr.setCell (fun _=>.inl hob) _)).drew'.drew';have q6:CnAt (w1.setCell ⟨b,4,none⟩ (.int .i64 ((x:Nat)-1:Int))).drew (newO o w u) t b a (s.to ((x:Nat)-1:Int)):=⟨q2.1,q2.2⟩
  refine⟨r1.2.free 4,r1.2.cell' (i:=4) rfl,q2.2.cell' (i:=0) rfl,cnAt (s:=s.to ((x:Nat)-1:Int)) b a s.head _ q6 (by omega),?_⟩;have hs:=arStore a (s.at s.head) 0 (by omega) (w1.setCell ⟨b,4,none⟩ (.int .i64 ((x:Nat)-1:Int))).drew.drew q5 (by omega);rw [he] at hs;refine hs.mono ?_;rintro e w2 ⟨rfl,g1,g2⟩;have hsz:w.heap.size≤(w1.setCell ⟨b,4,none⟩ (.int .i64 ((x:Nat)-1:Int))).drew.drew.heap.size:=f1.size;have eo:newO (newO o w u) (w1.setCell ⟨b,4,none⟩ (.int .i64 ((x:Nat)-1:Int))).drew.drew u=newO o w u:=by
   funext j;unfold newO;split<;>split<;>first|rfl|omega
  rw [eo] at g1 g2;have g3:CnAt w2 (newO o w u) t b a (s.to ((x:Nat)-1:Int)):=CnAt.fr (w:=(w1.setCell ⟨b,4,none⟩ (.int .i64 ((x:Nat)-1:Int))).drew.drew) ⟨q6.1,q6.2⟩ g2 htu;exact⟨rfl,g3.2.cell' (i:=0) rfl,rfl,g3,g1,f1.trans (g2.mono fun v hv=>.inr hv)⟩)
 clear h ha o1 o2 o3 o4 o5 hx;generalize s.head=sh at *;go_enter Tryz.func231,Tryz.ntmps231
 go_wp2_with fail;refine hn.out.mono ?_;rintro e w1 hp;have hp1:=HD hp;obtain⟨rfl,hp⟩:=hp;clear hp;have hq:=hfin.out w1 hp1.out;obtain⟨hfz,z4,z0,ht0,hst0⟩:=hq;have ht:=HD ht0;have hst:=HD hst0;clear ht0 hst0;go_wp2_with fail;refine wp_region_noPanic ?_;refine wp_region_held_drew (S:=(fun W=>W.cell? ⟨b,0,none⟩=some (.pointer (some ⟨a,0,none⟩)))) (by kernel_rfl) ?_ (fun hHeld=>?_)
 ·(try dsimp only)
  (first|exact z0|exact hcs)
 refine tkH 0 (h:=?_);refine tkH 1 (h:=?_);refine tkH 2 (h:=?_);refine tkH 3 (h:=?_);refine tkH 4 (h:=?_);refine tkH 5 (h:=?_);refine tkH 6 (h:=?_);refine onH 7 (h:=fun K hK=>?_);go_simp;refine ht.out.mono ?_;rintro e w2 ⟨rfl,rfl⟩;go_wp2_with fail;refine hK.out _ _ ?_ (fun hHeld=>?_)
 ·(try dsimp only)
  (first|exact z0|exact hcs)
 clear hK;refine nmH (h:=?_);refine onH 8 (h:=fun K hK=>?_);go_simp;refine hst.out.mono ?_;rintro e w2 ⟨rfl,hcs,hf2⟩;go_wp2_with fail;refine hK.out _ _ ?_ (fun hHeld=>?_)
 ·(try dsimp only)
  (first|exact z0|exact hcs)
 clear hK;refine nmH (h:=?_);refine tkH 9 (h:=?_);refine tkH 10 (h:=?_);refine wpAnyH_done (by kernel_rfl) ?_ _;refine NoPanic.normal ?_;go_wp2_with fail;go_ret2
 exact hf2
end
end Go.Proofs.YtfliaggjkianpaaGreatDoor
