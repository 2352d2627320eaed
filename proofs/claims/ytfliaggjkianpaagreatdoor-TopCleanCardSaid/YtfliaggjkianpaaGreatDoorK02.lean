import Derived.Test.YtfliaggjkianpaaGreatDoorK01
import Derived.Deep.RegionHeld3
import Derived.RegionTactic
import Derived.Shelf.Spec.TrailingZeros
set_option linter.unusedVariables false
set_option linter.unusedSimpArgs false
set_option maxRecDepth 100000
namespace Go.Proofs.YtfliaggjkianpaaGreatDoor
section
open Go.RowKit Go
section
variable{P:Program}{ops:Array Oper}{Q:Exit→Act→World→Prop}{md:Region.Mode}{S:World→Prop}{i0:Nat}
def wpAnyT(P:Program)(md:Region.Mode)(ops:Array Oper)(Q:Exit→Act→World→Prop)(S:World→Prop)(i0:Nat):Nat→Array Bool→Act→World→Prop
 |0,listed,a,w=>Region.ready md ops listed=[]∧Q .normal a w
 |fuel+1,listed,a,w =>
  (Region.ready md ops listed=[]→Q .normal a w) ∧
  ∀i∈Region.ready md ops listed,wpOp P ops Q i (fun a' w'=>((listed.setIfInBounds i true).getD i0 false=true∨S w')∧wpAnyT P md ops Q S i0 fuel (listed.setIfInBounds i true) a' w') a w
theorem wpAny_of_T:∀(fuel:Nat) (listed:Array Bool) (a:Act) (w:World),wpAnyT P md ops Q S i0 fuel listed a w→wpAny P md ops Q fuel listed a w
 |0,_,_,_,h=>h
 |fuel+1,_,_,_,h=>⟨h.1,fun i hi=>wpOp_mono (fun a' w' h'=>wpAny_of_T fuel _ a' w' h'.2) (h.2 i hi)⟩
def ClosedL(md:Region.Mode)(ops:Array Oper)(listed:Array Bool):Prop:=∀(j:Nat) (oj:Oper),ops[j]? = some oj→listed.getD j false=true→∀e∈oj.after,Region.binds md e=true→listed.getD e.on false=true
def closedB(md:Region.Mode)(ops:Array Oper)(listed:Array Bool):Bool:=(List.range ops.size).all fun j=>!listed.getD j false||match ops[j]? with
 |some oj=>oj.after.all fun e=>!Region.binds md e||listed.getD e.on false
 |none=>true
theorem closedB_spec{listed:Array Bool}(h:closedB md ops listed=true):ClosedL md ops listed:=fun j oj hj hl e he hb=>by
 unfold closedB at h;have h1:=List.all_eq_true.1 h j (List.mem_range.2 (Array.getElem?_eq_some_iff.1 hj).1);simp only [hj,hl,Bool.not_true,Bool.false_or] at h1;have h2:=Array.all_eq_true_iff_forall_mem.1 h1 e he;simpa [hb] using h2
theorem ClosedL.set{listed:Array Bool}{j:Nat}(h:ClosedL md ops listed)(hj:j∈Region.ready md ops listed):ClosedL md ops (listed.setIfInBounds j true):=fun k ok hk hl e he hb=>by
 by_cases c:j=k
 ·subst c
  obtain⟨_,oj,hoj,hall⟩:=mem_ready.1 hj;rw [hk] at hoj;obtain rfl:=Option.some.inj hoj;exact getD_set_true (hall e he hb)
 ·rw [getD_set_ne false c] at hl
  exact getD_set_true (h k ok hk hl e he hb)
def leadsB(md:Region.Mode)(ops:Array Oper)(i0:Nat):Nat→Nat→Bool
 |0,i=>i==i0
 |f+1,i=>i==i0||(List.range ops.size).any fun k=>(match ops[k]? with
  |some ok=>ok.after.any fun e=>Region.binds md e&&e.on==i
  |none=>false)&&leadsB md ops i0 f k
theorem leads_listed{listed:Array Bool}(h:ClosedL md ops listed)(h0:listed.getD i0 false=true):∀(f i:Nat),leadsB md ops i0 f i=true→listed.getD i false=true
 |0,i,hl=>by
  unfold leadsB at hl;rw [eq_of_beq hl];exact h0
 |f+1,i,hl=>by
  unfold leadsB at hl;rcases Bool.or_eq_true_iff.1 hl with c|c
  ·rw [eq_of_beq c];exact h0
  ·obtain⟨k,_,hk⟩:=List.any_eq_true.1 c
   obtain⟨k1,k2⟩:=Bool.and_eq_true_iff.1 hk;have hkl:=leads_listed h h0 f k k2;cases e:ops[k]? with
   |none=>rw [e] at k1;cases k1
   |some ok =>
    rw [e] at k1;obtain⟨x,hx,hxb⟩:=Array.any_eq_true'.1 k1;obtain⟨x1,x2⟩:=Bool.and_eq_true_iff.1 hxb;rw [←eq_of_beq x2];exact h k ok e hkl x hx x1
theorem wpAnyT_first{i:Nat}{oi:Oper}{v:Value}{f:Nat}(hi:ops[i]? = some oi)(hsel:∀(j:Nat) (o:Oper) cs b,ops[j]? = some o→o.op≠.select cs b)
  (hQ:∀c a w,Q (.panic c) (a.put oi.dst v) w→Q (.panic c) a w) (hne:i≠i0) (hld:leadsB md ops i0 f i=true) :
  ∀(fuel:Nat) (listed:Array Bool) (a:Act) (w:World),
   (∀j oj,ops[j]? = some oj→j≠i→listed.getD j true=false→(∀e∈oj.after,Region.binds md e=true→e.on≠i)→oi.apart ops oj=true) →
   i∈Region.ready md ops listed→ClosedL md ops listed→YieldsIf P ops S oi v a→S w →
   wpAnyT P md ops Q S i0 fuel (listed.setIfInBounds i true) (a.put oi.dst v) w→wpAnyT P md ops Q S i0 (fuel+1) listed a w:=by
 intro fuel;induction fuel with
 |zero =>
  intro listed a w _ hr _ hy hS H;refine⟨fun h=>(by rw [h] at hr;cases hr),fun j hj=>?_⟩;by_cases hji:j=i
  ·subst hji;exact hy.wpOp hi hS ⟨.inr hS,H⟩
  ·have:=ready_mono hj hji
   rw [H.1] at this;cases this
 |succ fuel ih =>
  intro listed a w hfree hr hcl hy hS H;refine⟨fun h=>(by rw [h] at hr;cases hr),fun j hj=>?_⟩;by_cases hji:j=i
  ·subst hji;exact hy.wpOp hi hS ⟨.inr hS,H⟩
  ·have h1:=H.2 j (ready_mono hj hji)
   have hun0:=(mem_ready.1 hr).1;have hun:listed.getD i false=true→False:=fun q=>by
    rcases Nat.lt_or_ge i listed.size with h'|h'
    ·simp [h'] at hun0 q;rw [hun0] at q;cases q
    ·simp [Array.getElem?_eq_none h'] at q
   obtain⟨hjun,oj,hoj,hall⟩:=mem_ready.1 hj;have hnot:∀e∈oj.after,Region.binds md e=true→e.on≠i:=fun e he hb heq=>by
    have h1:=hall e he hb;rw [heq] at h1;exact hun h1
   have hj0:(listed.setIfInBounds j true).getD i0 false=true→False:=fun q=>by
    have:=leads_listed (hcl.set hj) q f i hld;rw [getD_set_ne false hji] at this;exact hun this
   have h2:=wpOp_putIf hoj (hfree j oj hoj hji hjun hnot) (fun cs b=>hsel i oi cs b hi) (fun cs b=>hsel j oj cs b hoj) hQ hy h1;have hfree':∀k ok,ops[k]? = some ok→k≠i→(listed.setIfInBounds j true).getD k true=false →
     (∀e∈ok.after,Region.binds md e=true→e.on≠i)→oi.apart ops ok=true:=fun k ok hk hki hun hno=>by
    refine hfree k ok hk hki ?_ hno;by_cases hjk:j=k
    ·subst hjk;exact hjun
    ·rw [getD_set_ne true hjk] at hun;exact hun
   refine wpOp_mono (fun a' w' h3=>?_) h2;have hS':S w':=by
    rcases h3.2.1 with q|q
    ·rw [Array.setIfInBounds_comm _ _ (Ne.symm hji),getD_set_ne false hne] at q
     exact(hj0 q).elim
    ·exact q
   refine⟨.inr hS',ih (listed.setIfInBounds j true) a' w' hfree' (ready_mono hr (Ne.symm hji)) (hcl.set hj) h3.1 hS' ?_⟩;rw [Array.setIfInBounds_comm _ _ hji];exact h3.2.2
theorem wpAnyT_firstY{i:Nat}{oi:Oper}{v:Value}(hi:ops[i]? = some oi)(hsel:∀(j:Nat) (o:Oper) cs b,ops[j]? = some o→o.op≠.select cs b)
  (hQ:∀c a w,Q (.panic c) (a.put oi.dst v) w→Q (.panic c) a w) (hne:i≠i0) :
  ∀(fuel:Nat) (listed:Array Bool) (a:Act) (w:World),
   (∀j oj,ops[j]? = some oj→j≠i→listed.getD j true=false→(∀e∈oj.after,Region.binds md e=true→e.on≠i)→oi.apart ops oj=true) →
   i∈Region.ready md ops listed→YieldsIf P ops (fun _=>True) oi v a→(listed.getD i0 false=true∨S w) →
   wpAnyT P md ops Q S i0 fuel (listed.setIfInBounds i true) (a.put oi.dst v) w→wpAnyT P md ops Q S i0 (fuel+1) listed a w:=by
 intro fuel;induction fuel with
 |zero =>
  intro listed a w _ hr hy hS H;refine⟨fun h=>(by rw [h] at hr;cases hr),fun j hj=>?_⟩;by_cases hji:j=i
  ·subst hji;exact hy.wpOp hi trivial ⟨hS.imp (fun q=>getD_set_true q) id,H⟩
  ·have:=ready_mono hj hji
   rw [H.1] at this;cases this
 |succ fuel ih =>
  intro listed a w hfree hr hy hS H;refine⟨fun h=>(by rw [h] at hr;cases hr),fun j hj=>?_⟩;by_cases hji:j=i
  ·subst hji;exact hy.wpOp hi trivial ⟨hS.imp (fun q=>getD_set_true q) id,H⟩
  ·have h1:=H.2 j (ready_mono hj hji)
   obtain⟨hjun,oj,hoj,hall⟩:=mem_ready.1 hj;have hnot:∀e∈oj.after,Region.binds md e=true→e.on≠i:=fun e he hb heq=>by
    have h1:=hall e he hb;have h0:=(mem_ready.1 hr).1;rw [heq] at h1;rcases Nat.lt_or_ge i listed.size with h'|h'
    ·simp [h'] at h0 h1;rw [h0] at h1;cases h1
    ·simp [Array.getElem?_eq_none h'] at h1
   have h2:=wpOp_putIf hoj (hfree j oj hoj hji hjun hnot) (fun cs b=>hsel i oi cs b hi) (fun cs b=>hsel j oj cs b hoj) hQ hy h1;have hfree':∀k ok,ops[k]? = some ok→k≠i→(listed.setIfInBounds j true).getD k true=false →
     (∀e∈ok.after,Region.binds md e=true→e.on≠i)→oi.apart ops ok=true:=fun k ok hk hki hun hno=>by
    refine hfree k ok hk hki ?_ hno;by_cases hjk:j=k
    ·subst hjk;exact hjun
    ·rw [getD_set_ne true hjk] at hun;exact hun
   refine wpOp_mono (fun a' w' h3=>?_) h2;have hS':(listed.setIfInBounds j true).getD i0 false=true∨S w':=by
    rcases h3.2.1 with q|q
    ·rw [Array.setIfInBounds_comm _ _ (Ne.symm hji),getD_set_ne false hne] at q
     exact .inl q
    ·exact .inr q
   refine⟨hS',ih (listed.setIfInBounds j true) a' w' hfree' (ready_mono hr (Ne.symm hji)) h3.1 hS' ?_⟩;rw [Array.setIfInBounds_comm _ _ hji];exact h3.2.2
theorem wpAnyT_take{i:Nat}{oi:Oper}{v:Value}{fuel:Nat}{listed:Array Bool}{a:Act}{w:World}(hi:ops[i]? = some oi)
  (hs:Region.noSelect ops=true) (hf:Region.free md ops listed i=true) (hr:(Region.ready md ops listed).contains i=true) (hne:(i != i0)=true) (hld:leadsB md ops i0 6 i=true) (hcl:closedB md ops listed=true)
  (hQ:∀c a w,Q (.panic c) (a.put oi.dst v) w→Q (.panic c) a w) (hy:YieldsIf P ops S oi v a) (hS:S w)
  (h:wpAnyT P md ops Q S i0 fuel (listed.setIfInBounds i true) (a.put oi.dst v) w):wpAnyT P md ops Q S i0 (fuel+1) listed a w :=
 wpAnyT_first hi (Region.noSelect_spec hs) hQ (by simpa using hne) hld fuel listed a w (Region.free_spec hi hf) (by simpa using hr) (closedB_spec hcl) hy hS h
theorem wpAnyT_takeY{i:Nat}{oi:Oper}{v:Value}{fuel:Nat}{listed:Array Bool}{a:Act}{w:World}(hi:ops[i]? = some oi)
  (hs:Region.noSelect ops=true) (hf:Region.free md ops listed i=true) (hr:(Region.ready md ops listed).contains i=true) (hne:(i != i0)=true)
  (hQ:∀c a w,Q (.panic c) (a.put oi.dst v) w→Q (.panic c) a w) (hy:YieldsIf P ops (fun _=>True) oi v a) (hS:S w)
  (h:wpAnyT P md ops Q S i0 fuel (listed.setIfInBounds i true) (a.put oi.dst v) w):wpAnyT P md ops Q S i0 (fuel+1) listed a w :=
 wpAnyT_firstY hi (Region.noSelect_spec hs) hQ (by simpa using hne) fuel listed a w (Region.free_spec hi hf) (by simpa using hr) hy (.inr hS) h
theorem wpAnyT_one{i:Nat}{o:Oper}{fuel:Nat}{listed:Array Bool}{a:Act}{w:World}(hr:Region.ready md ops listed=[i])(ho:ops[i]? = some o)
  (h:∀K':Act→World→Prop,Shut (∀a w,S w→(S w→wpAnyT P md ops Q S i0 fuel (listed.setIfInBounds i true) a w)→K' a w)→if Region.wanted o (yielded ops a.tmps)=true then Oper.wp P o a w K' Q else K' (a.put o.dst undef) w) :
  wpAnyT P md ops Q S i0 (fuel+1) listed a w:=by
 refine⟨fun q=>(by rw [hr] at q;cases q),fun j hj=>?_⟩;rw [hr] at hj;obtain rfl:=List.mem_singleton.1 hj;exact wpOp_step ho (fun K' hK=>h K' (fun a w hS hW=>hK a w ⟨.inr hS,hW hS⟩))
theorem wpAnyT_last{o:Oper}{fuel:Nat}{listed:Array Bool}{a:Act}{w:World}(hr:Region.ready md ops listed=[i0])(ho:ops[i0]? = some o)(hl:(listed.setIfInBounds i0 true).getD i0 false=true)(hd:Region.ready md ops (listed.setIfInBounds i0 true)=[])
  (h:∀K':Act→World→Prop,Shut (∀a w,Q .normal a w→K' a w)→if Region.wanted o (yielded ops a.tmps)=true then Oper.wp P o a w K' Q else K' (a.put o.dst undef) w) :
  wpAnyT P md ops Q S i0 (fuel+1) listed a w:=by
 refine⟨fun q=>(by rw [hr] at q;cases q),fun j hj=>?_⟩;rw [hr] at hj;obtain rfl:=List.mem_singleton.1 hj;refine wpOp_step ho (fun K' hK=>h K' (fun a w hq=>hK a w ⟨.inl hl,?_⟩));cases fuel with
 |zero=>exact⟨hd,hq⟩
 |succ fuel=>exact⟨fun _=>hq,by rw [hd];simp⟩
theorem wpAnyT_at{o:Oper}{fuel:Nat}{listed:Array Bool}{a:Act}{w:World}(hr:Region.ready md ops listed=[i0])(ho:ops[i0]? = some o)(hl:(listed.setIfInBounds i0 true).getD i0 false=true)
  (h:∀K':Act→World→Prop,Shut (∀a w,wpAnyT P md ops Q S i0 fuel (listed.setIfInBounds i0 true) a w→K' a w)→if Region.wanted o (yielded ops a.tmps)=true then Oper.wp P o a w K' Q else K' (a.put o.dst undef) w) :
  wpAnyT P md ops Q S i0 (fuel+1) listed a w:=by
 refine⟨fun q=>(by rw [hr] at q;cases q),fun j hj=>?_⟩;rw [hr] at hj;obtain rfl:=List.mem_singleton.1 hj;exact wpOp_step ho (fun K' hK=>h K' (fun a w hW=>hK a w ⟨.inl hl,hW⟩))
theorem wpAnyT_takeL{i:Nat}{oi:Oper}{v:Value}{fuel:Nat}{listed:Array Bool}{a:Act}{w:World}(hi:ops[i]? = some oi)
  (hs:Region.noSelect ops=true) (hf:Region.free md ops listed i=true) (hr:(Region.ready md ops listed).contains i=true) (hne:(i != i0)=true)
  (hQ:∀c a w,Q (.panic c) (a.put oi.dst v) w→Q (.panic c) a w) (hy:YieldsIf P ops (fun _=>True) oi v a) (hl:listed.getD i0 false=true)
  (h:wpAnyT P md ops Q S i0 fuel (listed.setIfInBounds i true) (a.put oi.dst v) w):wpAnyT P md ops Q S i0 (fuel+1) listed a w :=
 wpAnyT_firstY hi (Region.noSelect_spec hs) hQ (by simpa using hne) fuel listed a w (Region.free_spec hi hf) (by simpa using hr) hy (.inl hl) h
theorem wpAnyT_done{listed:Array Bool}{a:Act}{w:World}(hr:Region.ready md ops listed=[])(h:Q .normal a w):∀fuel,wpAnyT P md ops Q S i0 fuel listed a w
 |0=>⟨hr,h⟩
 |_+1=>⟨fun _=>h,by rw [hr];simp⟩
theorem wp_region_T(i0:Nat){id:Nat}{a:Act}{w:World}(hm:P.follows .mixedOrders=true)(hS:S w.drew)
  (h:S w.drew→wpAnyT P .any ops Q S i0 ops.size (Array.replicate ops.size false) a w.drew):(Code.region id ops true).wp P Q a w :=
 wp_region_any hm (wpAny_of_T _ _ _ _ (h hS))
end
end
section
open Go.RowKit Go
section
variable{P:Program}{ops:Array Oper}{Q:Exit→Act→World→Prop}{md:Region.Mode}{S:World→Prop}{i0:Nat}
theorem allB{a b c:Bool}(h:(a&&b&&c)=true):a=true∧b=true∧c=true:=by
 rw [Bool.and_eq_true,Bool.and_eq_true] at h;exact⟨h.1.1,h.1.2,h.2⟩
theorem tkH(i:Nat){oi:Oper}{v:Value}{fuel:Nat}{listed:Array Bool}{a a':Act}{w:World}(hi:ops[i]? = some oi:=by(try simp only [List.getElem?_toArray,List.getElem?_cons_succ,List.getElem?_cons_zero]);rfl)(hb:(Region.noSelect ops&&Region.free md ops listed i&&(Region.ready md ops listed).contains i)=true:=by kernel_rfl)
  (hy:YieldsIf P ops S oi v a:=by(refine Or.inl ⟨rfl,?_⟩;intro w hSw;(try dsimp only at hSw);first|(go_simp;done)|(go_simp;with_reducible rfl)))
  (hS:S w:=by assumption) (ha:a.put oi.dst v=a':=by(try simp only [Act.put,List.setIfInBounds_toArray,List.set_cons_zero,List.set_cons_succ]);rfl) (hQ:∀c a w,Q (.panic c) (a.put oi.dst v) w→Q (.panic c) a w:=by exact fun _ _ _ h=>h)
  (h:wpAnyH P md ops Q S fuel (listed.setIfInBounds i true) a' w):wpAnyH P md ops Q S (fuel+1) listed a w:=by
 subst ha;obtain⟨b1,b2,b3⟩:=allB hb;exact wpAnyH_take hi b1 b2 b3 hQ hy hS h
theorem tkHs(i:Nat){oi:Oper}{v:Value}{fuel:Nat}{listed:Array Bool}{a a':Act}{w:World}(hi:ops[i]? = some oi:=by(try simp only [List.getElem?_toArray,List.getElem?_cons_succ,List.getElem?_cons_zero]);rfl)(hb:(Region.noSelect ops&&Region.free md ops listed i&&(Region.ready md ops listed).contains i)=true:=by kernel_rfl)
  (hy:YieldsIf P ops S oi v a:=by exact Or.inr ⟨rfl,rfl⟩)
  (hS:S w:=by assumption) (ha:a.put oi.dst v=a':=by(try simp only [Act.put,List.setIfInBounds_toArray,List.set_cons_zero,List.set_cons_succ]);rfl) (hQ:∀c a w,Q (.panic c) (a.put oi.dst v) w→Q (.panic c) a w:=by exact fun _ _ _ h=>h)
  (h:wpAnyH P md ops Q S fuel (listed.setIfInBounds i true) a' w):wpAnyH P md ops Q S (fuel+1) listed a w:=by
 subst ha;obtain⟨b1,b2,b3⟩:=allB hb;exact wpAnyH_take hi b1 b2 b3 hQ hy hS h
theorem tkT(i:Nat){oi:Oper}{v:Value}{fuel:Nat}{listed:Array Bool}{a a':Act}{w:World}(hi:ops[i]? = some oi:=by(try simp only [List.getElem?_toArray,List.getElem?_cons_succ,List.getElem?_cons_zero]);rfl)(hb:(Region.noSelect ops&&Region.free md ops listed i&&(Region.ready md ops listed).contains i)=true:=by kernel_rfl)
  (hne:(i != i0)=true:=by kernel_rfl) (hld:leadsB md ops i0 6 i=true:=by kernel_rfl) (hcl:closedB md ops listed=true:=by kernel_rfl) (hy:YieldsIf P ops S oi v a:=by(refine Or.inl ⟨rfl,?_⟩;intro w hSw;(try dsimp only at hSw);first|(go_simp;done)|(go_simp;with_reducible rfl)))
  (hS:S w:=by assumption) (ha:a.put oi.dst v=a':=by(try simp only [Act.put,List.setIfInBounds_toArray,List.set_cons_zero,List.set_cons_succ]);rfl) (hQ:∀c a w,Q (.panic c) (a.put oi.dst v) w→Q (.panic c) a w:=by exact fun _ _ _ h=>h)
  (h:wpAnyT P md ops Q S i0 fuel (listed.setIfInBounds i true) a' w):wpAnyT P md ops Q S i0 (fuel+1) listed a w:=by
 subst ha;obtain⟨b1,b2,b3⟩:=allB hb;exact wpAnyT_take hi b1 b2 b3 hne hld hcl hQ hy hS h
theorem tkY(i:Nat){oi:Oper}{v:Value}{fuel:Nat}{listed:Array Bool}{a a':Act}{w:World}(hi:ops[i]? = some oi:=by(try simp only [List.getElem?_toArray,List.getElem?_cons_succ,List.getElem?_cons_zero]);rfl)(hb:(Region.noSelect ops&&Region.free md ops listed i&&(Region.ready md ops listed).contains i)=true:=by kernel_rfl)
  (hne:(i != i0)=true:=by kernel_rfl) (hy:YieldsIf P ops (fun _=>True) oi v a:=by(refine Or.inl ⟨rfl,?_⟩;intro w hSw;(try dsimp only at hSw);first|(go_simp;done)|(go_simp;with_reducible rfl)))
  (hS:S w:=by assumption) (ha:a.put oi.dst v=a':=by(try simp only [Act.put,List.setIfInBounds_toArray,List.set_cons_zero,List.set_cons_succ]);rfl) (hQ:∀c a w,Q (.panic c) (a.put oi.dst v) w→Q (.panic c) a w:=by exact fun _ _ _ h=>h)
  (h:wpAnyT P md ops Q S i0 fuel (listed.setIfInBounds i true) a' w):wpAnyT P md ops Q S i0 (fuel+1) listed a w:=by
 subst ha;obtain⟨b1,b2,b3⟩:=allB hb;exact wpAnyT_takeY hi b1 b2 b3 hne hQ hy hS h
theorem tkL(i:Nat){oi:Oper}{v:Value}{fuel:Nat}{listed:Array Bool}{a a':Act}{w:World}(hi:ops[i]? = some oi:=by(try simp only [List.getElem?_toArray,List.getElem?_cons_succ,List.getElem?_cons_zero]);rfl)(hb:(Region.noSelect ops&&Region.free md ops listed i&&(Region.ready md ops listed).contains i)=true:=by kernel_rfl)
  (hne:(i != i0)=true:=by kernel_rfl) (hl:listed.getD i0 false=true:=by kernel_rfl) (hy:YieldsIf P ops (fun _=>True) oi v a:=by(refine Or.inl ⟨rfl,?_⟩;intro w hSw;(try dsimp only at hSw);first|(go_simp;done)|(go_simp;with_reducible rfl)))
  (ha:a.put oi.dst v=a':=by(try simp only [Act.put,List.setIfInBounds_toArray,List.set_cons_zero,List.set_cons_succ]);rfl) (hQ:∀c a w,Q (.panic c) (a.put oi.dst v) w→Q (.panic c) a w:=by exact fun _ _ _ h=>h)
  (h:wpAnyT P md ops Q S i0 fuel (listed.setIfInBounds i true) a' w):wpAnyT P md ops Q S i0 (fuel+1) listed a w:=by
 subst ha;obtain⟨b1,b2,b3⟩:=allB hb;exact wpAnyT_takeL hi b1 b2 b3 hne hQ hy hl h
theorem nmH{fuel:Nat}{listed:Array Bool}{a a':Act}{w:World}(ha:a=a':=by(try simp only [Act.put,List.setIfInBounds_toArray,List.set_cons_zero,List.set_cons_succ]);rfl)(h:wpAnyH P md ops Q S fuel listed a' w):wpAnyH P md ops Q S fuel listed a w:=ha▸h
theorem nmT{fuel:Nat}{listed:Array Bool}{a a':Act}{w:World}(ha:a=a':=by(try simp only [Act.put,List.setIfInBounds_toArray,List.set_cons_zero,List.set_cons_succ]);rfl)(h:wpAnyT P md ops Q S i0 fuel listed a' w):wpAnyT P md ops Q S i0 fuel listed a w:=ha▸h
theorem onH(i:Nat){o:Oper}{fuel:Nat}{listed:Array Bool}{a:Act}{w:World}(hr:Region.ready md ops listed=[i]:=by kernel_rfl)(ho:ops[i]? = some o:=by(try simp only [List.getElem?_toArray,List.getElem?_cons_succ,List.getElem?_cons_zero]);rfl)
  (h:∀K':Act→World→Prop,Shut (∀a w,S w→(S w→wpAnyH P md ops Q S fuel (listed.setIfInBounds i true) a w)→K' a w)→if Region.wanted o (yielded ops a.tmps)=true then Oper.wp P o a w K' Q else K' (a.put o.dst undef) w):wpAnyH P md ops Q S (fuel+1) listed a w :=
 wpAnyH_ready hr (by simp) (AllReadyH.cons ho h AllReadyH.nil)
theorem conH{i:Nat}{rs:List Nat}{o:Oper}{fuel:Nat}{listed:Array Bool}{a:Act}{w:World}(ho:ops[i]? = some o:=by(try simp only [List.getElem?_toArray,List.getElem?_cons_succ,List.getElem?_cons_zero]);rfl)
  (h:∀K':Act→World→Prop,Shut (∀a w,S w→(S w→wpAnyH P md ops Q S fuel (listed.setIfInBounds i true) a w)→K' a w)→if Region.wanted o (yielded ops a.tmps)=true then Oper.wp P o a w K' Q else K' (a.put o.dst undef) w) (hs:AllReadyH P md ops Q S fuel listed a w rs):AllReadyH P md ops Q S fuel listed a w (i :: rs) :=
 AllReadyH.cons ho h hs
theorem onT(i:Nat){o:Oper}{fuel:Nat}{listed:Array Bool}{a:Act}{w:World}(hr:Region.ready md ops listed=[i]:=by kernel_rfl)(ho:ops[i]? = some o:=by(try simp only [List.getElem?_toArray,List.getElem?_cons_succ,List.getElem?_cons_zero]);rfl)
  (h:∀K':Act→World→Prop,Shut (∀a w,S w→(S w→wpAnyT P md ops Q S i0 fuel (listed.setIfInBounds i true) a w)→K' a w)→if Region.wanted o (yielded ops a.tmps)=true then Oper.wp P o a w K' Q else K' (a.put o.dst undef) w):wpAnyT P md ops Q S i0 (fuel+1) listed a w :=
 wpAnyT_one hr ho h
theorem atT{o:Oper}{fuel:Nat}{listed:Array Bool}{a:Act}{w:World}(hr:Region.ready md ops listed=[i0]:=by kernel_rfl)(ho:ops[i0]? = some o:=by(try simp only [List.getElem?_toArray,List.getElem?_cons_succ,List.getElem?_cons_zero]);rfl)(hl:(listed.setIfInBounds i0 true).getD i0 false=true:=by kernel_rfl)
  (h:∀K':Act→World→Prop,Shut (∀a w,wpAnyT P md ops Q S i0 fuel (listed.setIfInBounds i0 true) a w→K' a w)→if Region.wanted o (yielded ops a.tmps)=true then Oper.wp P o a w K' Q else K' (a.put o.dst undef) w):wpAnyT P md ops Q S i0 (fuel+1) listed a w :=
 wpAnyT_at hr ho hl h
theorem laT{o:Oper}{fuel:Nat}{listed:Array Bool}{a:Act}{w:World}(hr:Region.ready md ops listed=[i0]:=by kernel_rfl)(ho:ops[i0]? = some o:=by(try simp only [List.getElem?_toArray,List.getElem?_cons_succ,List.getElem?_cons_zero]);rfl)(hl:(listed.setIfInBounds i0 true).getD i0 false=true:=by kernel_rfl)(hd:Region.ready md ops (listed.setIfInBounds i0 true)=[]:=by kernel_rfl)
  (h:∀K':Act→World→Prop,Shut (∀a w,Q .normal a w→K' a w)→if Region.wanted o (yielded ops a.tmps)=true then Oper.wp P o a w K' Q else K' (a.put o.dst undef) w):wpAnyT P md ops Q S i0 (fuel+1) listed a w :=
 wpAnyT_last hr ho hl hd h
end
end
section
open Go.RowKit
structure ShS where
 n:Nat
 f:Nat→Bool
def ShS.cnt(s:ShS):Nat:=(List.range s.n).countP s.f
def ShRep(W:List Nat)(s:ShS):Prop:=W.length=(s.n+63)/64∧(∀x∈W,x<18446744073709551616)∧(∀k,s.n≤k→s.f k=false)∧∀k,(W.getD (k/64) 0).testBit (k%64)=s.f k
def shW(W:List Nat):Array Value:=(W.map fun (x:Nat)=>Value.int .u64 (x:Int)).toArray
def ShAt(w:World)(o:Nat→Tag)(t:Tag)(b:Nat)(s:ShS):Prop :=
 Tab w o∧s.n≤65536∧∃(g:Nat) (W:List Nat),b≠g∧Blk w o t b #[.slice (some ⟨g,0,none⟩) W.length W.length,.int .i64 s.n,.int .i64 s.cnt] 188∧Blk w o t g (shW W) 30∧ShRep W s
theorem ShAt.fr{S:Tag→Prop}{w w':World}{o o':Nat→Tag}{t:Tag}{b:Nat}{s:ShS}(h:ShAt w o t b s)(f:Fr S w o w' o')(hS:Off S t):ShAt w' o' t b s:=by
 obtain⟨h0,h1,g,W,h2,h3,h4,h5⟩:=h;exact⟨h0.fr f hS.tab,h1,g,W,h2,h3.fr f hS.self,h4.fr f hS.self,h5⟩
theorem shW_get{W:List Nat}{i:Nat}(h:i<W.length):(shW W)[i]? = some (.int .u64 ((W.getD i 0:Nat):Int)):=by
 unfold shW;simp [List.getD_eq_getElem?_getD,h]
theorem shWithin(b:Nat)(k:Int)(w:World){o:Nat→Tag}{t:Tag}{s:ShS}(h:ShAt w o t b s) :
  Calls Tryz.prog 137 #[.pointer (some ⟨b,0,none⟩),.int .i64 k] w fun e w'=>e=.returned (.int .i64 (if 0≤k∧k<s.n then 0 else 12))∧w'=w:=by
 obtain⟨h0,h1,g,W,h2,h3,h4,h5⟩:=h;have c1:=h3.cell' (i:=1) rfl;clear h0 h4 h5;by_cases hk:0≤k
 ·by_cases hk2:k<s.n
  ·rw [if_pos ⟨hk,hk2⟩]
   go_enter Tryz.func137,Tryz.ntmps137
   go_wp2_with fail;go_ret
   exact⟨rfl,rfl⟩
  ·rw [if_neg (fun q=>hk2 q.2)]
   go_enter Tryz.func137,Tryz.ntmps137
   go_wp2_with fail;go_ret
   exact⟨rfl,rfl⟩
 ·rw [if_neg (fun q=>hk q.1)]
  go_enter Tryz.func137,Tryz.ntmps137
  go_wp2_with fail;go_ret
  exact⟨rfl,rfl⟩
theorem sh_bit{W:List Nat}{s:ShS}(h:ShRep W s)(m:Nat):(bits BinOp.and IntKind.u64 ((W.getD (m/64) 0:Nat)/2^(m%64)) 1==0)=!s.f m:=by
 have h1:=h.2.2.2 m;have hx:W.getD (m/64) 0<18446744073709551616:=by
  by_cases hm:m/64<W.length
  ·rw [List.getD_eq_getElem?_getD,List.getElem?_eq_getElem hm];exact h.2.1 _ (List.getElem_mem hm)
  ·rw [List.getD_eq_getElem?_getD,List.getElem?_eq_none (by omega)];simp
 generalize W.getD (m/64) 0=x at *;have e:((x:Int)/2^(m%64))=((x/2^(m%64):Nat):Int):=by simp
 rw [e,show (1:Int)=((1:Nat):Int) from rfl,bits_and_u64_nat _ _ (Nat.lt_of_le_of_lt (Nat.div_le_self _ _) hx) (by omega),←h1,Nat.testBit_eq_decide_div_mod_eq,Nat.and_one_is_mod];rcases Nat.mod_two_eq_zero_or_one (x/2^(m%64)) with q|q<;>simp [q]
theorem shTaken(b:Nat)(k:Int)(w:World){o:Nat→Tag}{t:Tag}{s:ShS}(h:ShAt w o t b s) :
  Calls Tryz.prog 138 #[.pointer (some ⟨b,0,none⟩),.int .i64 k] w fun e w'=>e=.returned (.bool (decide (0≤k∧k<s.n)&&!s.f k.toNat))∧w'=w:=by
 have hw:=HD (shWithin b k w h);obtain⟨h0,h1,g,W,h2,h3,h4,h5⟩:=h;have c0:w.cell? ⟨b,0,none⟩=some (.slice (some ⟨g,0,none⟩) W.length W.length):=h3.cell' (i:=0) rfl;by_cases hk:0≤k∧k<s.n
 ·obtain⟨m,rfl⟩:∃m:Nat,k=m:=⟨k.toNat,by omega⟩
  rw [if_pos hk] at hw;have hl:m/64<W.length:=by have:=h5.1;omega
  have c1:=h4.cell' (shW_get hl);have hb:=sh_bit h5 m;have hl2:(m:Int)/64<(W.length:Int):=by omega
  have hm:(m:Int)<65536:=by omega
  rw [decide_eq_true hk,Bool.true_and,Int.toNat_natCast];generalize W.getD (m/64) 0=x at *;generalize W.length=n at *;clear h0 h3 h4 h5 h1;go_enter Tryz.func138,Tryz.ntmps138
  go_wp2_with fail;refine SM hw.out ?_;go_wp2_with fail;go_ret
  exact⟨rfl,rfl⟩
 ·rw [if_neg hk] at hw
  rw [decide_eq_false hk,Bool.false_and];clear h0 h3 h4 h5 h1;go_enter Tryz.func138,Tryz.ntmps138
  go_wp2_with fail;refine SM hw.out ?_;go_wp2_with fail;go_ret
  exact⟨rfl,rfl⟩
theorem bits_xor_u64_nat(a b:Nat)(ha:a<18446744073709551616)(hb:b<18446744073709551616) :
  bits .xor .u64 (a:Int) (b:Int)=((a ^^^ b:Nat):Int):=by
 have hx:a ^^^ b<2^64:=Nat.xor_lt_two_pow (by omega) (by omega);have h1:(BitVec.ofInt 64 (a:Int)).toNat=a:=by
  rw [BitVec.ofInt_natCast,BitVec.toNat_ofNat];exact Nat.mod_eq_of_lt (by omega)
 have h2:(BitVec.ofInt 64 (b:Int)).toNat=b:=by
  rw [BitVec.ofInt_natCast,BitVec.toNat_ofNat];exact Nat.mod_eq_of_lt (by omega)
 show IntKind.u64.wrap ((BitVec.ofInt 64 (a:Int) ^^^ BitVec.ofInt 64 (b:Int)).toNat:Int)=_;rw [BitVec.toNat_xor,h1,h2,IntKind.wrap_u64];omega
def ShS.flip(s:ShS)(k:Nat):ShS:=⟨s.n,fun j=>if j=k then !s.f j else s.f j⟩
theorem countP_flip(f:Nat→Bool)(k:Nat):∀n:Nat,(List.range n).countP (fun j=>if j=k then !f j else f j)+(if k<n∧f k=true then 1 else 0)=(List.range n).countP f+(if k<n∧f k=false then 1 else 0)
 |0=>by simp
 |n+1=>by
  have ih:=countP_flip f k n;rw [List.range_succ,List.countP_append,List.countP_append];simp only [List.countP_cons,List.countP_nil];by_cases h:n=k
  ·subst h
   simp only [if_true,Nat.lt_irrefl,false_and,if_false,Nat.lt_succ_self,true_and] at ih ⊢;cases f n<;>simp<;>omega
  ·rw [if_neg h]
   by_cases h2:k<n
   ·simp only [h2,true_and,show k<n+1 by omega] at ih ⊢
    omega
   ·simp only [h2,false_and,show ¬k<n+1 by omega,if_false] at ih ⊢
    omega
theorem cnt_flip(s:ShS){k:Nat}(hk:k<s.n):((s.flip k).cnt:Int)=s.cnt+(if s.f k then -1 else 1):=by
 have:=countP_flip s.f k s.n;unfold ShS.cnt ShS.flip;simp only;cases h:s.f k<;>simp [hk,h] at this ⊢<;>omega
theorem cnt_le(s:ShS):s.cnt≤s.n:=by
 unfold ShS.cnt;have:=List.countP_le_length (p:=s.f) (l:=List.range s.n)
 rwa [List.length_range] at this
theorem rep_flip{W:List Nat}{s:ShS}(h:ShRep W s){k:Nat}(hk:k<s.n):ShRep (W.set (k/64) (W.getD (k/64) 0 ^^^ 2^(k%64))) (s.flip k):=by
 obtain⟨h1,h2,h3,h4⟩:=h;have hl:k/64<W.length:=by omega
 have hp:2^(k%64)<18446744073709551616:=Nat.pow_lt_pow_right (by omega) (show k%64<64 by omega);refine⟨by rw [List.length_set];exact h1,fun x hx=>?_,fun j hj=>?_,fun j=>?_⟩
 ·rcases List.mem_or_eq_of_mem_set hx with q|q
  ·exact h2 x q
  ·rw [q]
   refine Nat.xor_lt_two_pow (n:=64) ?_ hp;rw [List.getD_eq_getElem?_getD,List.getElem?_eq_getElem hl];exact h2 _ (List.getElem_mem hl)
 ·have:j≠k:=by have:s.n≤j:=hj;omega
  show (if j=k then _ else _)=_;rw [if_neg this];exact h3 j hj
 ·show _=(if j=k then !s.f j else s.f j)
  have h4j:=h4 j;by_cases e:j/64=k/64
  ·rw [e] at h4j ⊢
   rw [show (W.set (k/64) (W.getD (k/64) 0 ^^^ 2^(k%64))).getD (k/64) 0=W.getD (k/64) 0 ^^^ 2^(k%64) by simp [List.getD_eq_getElem?_getD,hl],Nat.testBit_xor,h4j,Nat.testBit_two_pow];by_cases e2:j=k
   ·subst e2;simp
   ·rw [if_neg e2,decide_eq_false (by omega)];simp
  ·rw [show (W.set (k/64) (W.getD (k/64) 0 ^^^ 2^(k%64))).getD (j/64) 0=W.getD (j/64) 0 by simp [List.getD_eq_getElem?_getD,Ne.symm e],h4j,if_neg (fun q=>e (by rw [q]))]
theorem shW_set{W:List Nat}{i x:Nat}:(shW W).setIfInBounds i (.int .u64 (x:Int))=shW (W.set i x):=by
 unfold shW;rw [List.map_set];simp
def ShPost(w:World)(o:Nat→Tag)(t:Tag)(b:Nat)(v:Value)(s:ShS)(e:Ending)(w':World):Prop:=e=.returned v∧ShAt w' o t b s∧Fr (Und t) w o w' o
theorem shTurn(b:Nat)(k:Nat)(by_:Int)(w:World){o:Nat→Tag}{t:Tag}{s:ShS}(h:ShAt w o t b s)(h9:¬t <+: [9])(hk:k<s.n)(hb:by_=if s.f k then -1 else 1) :
  Calls Tryz.prog 120 #[.pointer (some ⟨b,0,none⟩),.int .i64 k,.int .i64 by_] w (ShPost w o t b (.tuple #[]) (s.flip k)):=by
 obtain⟨h0,h1,g,W,h2,h3,h4,h5⟩:=h;have c0:w.cell? ⟨b,0,none⟩=some (.slice (some ⟨g,0,none⟩) W.length W.length):=h3.cell' (i:=0) rfl;have c2:w.cell? ⟨b,2,none⟩=some (.int .i64 s.cnt):=h3.cell' (i:=2) rfl;have hl:k/64<W.length:=by have:=h5.1;omega
 have c1:=h4.cell' (shW_get hl);have hl2:(k:Int)/64<(W.length:Int):=by omega
 have f1:=h4.free (k/64);have f2:=h3.free 2;have hx:W.getD (k/64) 0<18446744073709551616:=by rw [List.getD_eq_getElem?_getD,List.getElem?_eq_getElem hl];exact h5.2.1 _ (List.getElem_mem hl)
 have hp:2^(k%64)<18446744073709551616:=Nat.pow_lt_pow_right (by omega) (show k%64<64 by omega);have hX:bits .xor .u64 ((W.getD (k/64) 0:Nat):Int) (IntKind.u64.wrap (2^((k:Int)%64).toNat))=((W.getD (k/64) 0 ^^^ 2^(k%64):Nat):Int):=by
  rw [show ((k:Int)%64).toNat=k%64 by omega,show ((2:Int)^(k%64))=((2^(k%64):Nat):Int) by simp,show IntKind.u64.wrap ((2^(k%64):Nat):Int)=((2^(k%64):Nat):Int) by rw [IntKind.wrap_u64];generalize 2^(k%64)=z at hp;omega];exact bits_xor_u64_nat _ _ hx hp
 have hR:=HD (rep_flip h5 hk);have hc:=cnt_flip s hk;rw [←hb] at hc;have hcl:=cnt_le (s.flip k);have hcl2:=cnt_le s;have hn':(s.flip k).n=s.n:=rfl;rw [hn'] at hcl;have hs:=HD (((h4.set (k/64) (.int .u64 ((W.getD (k/64) 0 ^^^ 2^(k%64):Nat):Int))).set_ne (p:=⟨b,2,none⟩) h2 (.int .i64 (s.flip k).cnt)));have hs2:=HD ((h3.set_ne (p:=⟨g,k/64,none⟩) (fun q=>h2 q.symm) (.int .u64 ((W.getD (k/64) 0 ^^^ 2^(k%64):Nat):Int))).set 2 (.int .i64 (s.flip k).cnt));rw [shW_set] at hs;have hc2:=HD hc;have hg:=HD (show Und t (o g) by rw [h4.1];exact Und.self t);have hbo:=HD (show Und t (o b) by rw [h3.1];exact Und.self t);have hm:(k:Int)<65536:=by omega
 have hw1:=IntWalk.i64_in ((k:Int)/64) (by omega);have hw2:0≤(k:Int)/64:=by omega
 have hw3:(k:Int).tmod 64=((k%64:Nat):Int):=by rw [Int.tmod_eq_emod_of_nonneg (by omega)];omega
 have hw4:((k:Int)/64).toNat=k/64:=by omega
 have hT:=HD h0;have hlen:=HD (show (W.set (k/64) (W.getD (k/64) 0 ^^^ 2^(k%64))).length=W.length from List.length_set ..);generalize hW':W.set (k/64) (W.getD (k/64) 0 ^^^ 2^(k%64))=W' at *;generalize W.getD (k/64) 0 ^^^ 2^(k%64)=y at *;generalize W.getD (k/64) 0=x at *;generalize hcn:(s.flip k).cnt=cn at *;generalize s.cnt=c at *;have hcy:(c:Int)+by_=cn:=by omega
 generalize W.length=n at *;have hcn':=HD hcn;clear h0 h3 h4 h5 hb hc hW' hn' hcn;go_enter Tryz.func120,Tryz.ntmps120
 go_wp2_with fail;go_still_tail 13,(by kernel_rfl)
 change wpList _ _ _ _ _ w.drew;go_wp2_with fail;refine bodyPost_end (results_none (by kernel_rfl) _ _ _) rfl ⟨rfl,⟨?_,h1,g,W',h2,?_,hs.out.drew,hR.out⟩,?_⟩
 ·exact hT.out.fr (S:=Und t) (((Fr.setCell (fun _=>hg.out) _).trans (Fr.setCell (fun _=>hbo.out) _)).drew') h9
 ·rw [hlen.out,hcn'.out]
  exact hs2.out.drew
 ·exact((Fr.setCell (fun _=>hg.out) _).trans (Fr.setCell (fun _=>hbo.out) _)).drew'
theorem shFree(b:Nat)(w:World){o:Nat→Tag}{t:Tag}{s:ShS}(h:ShAt w o t b s) :
  Calls Tryz.prog 81 #[.pointer (some ⟨b,0,none⟩)] w fun e w'=>e=.returned (.int .i64 s.cnt)∧w'=w:=by
 obtain⟨h0,h1,g,W,h2,h3,h4,h5⟩:=h;have c2:w.cell? ⟨b,2,none⟩=some (.int .i64 s.cnt):=h3.cell' (i:=2) rfl;clear h0 h3 h4 h5;go_enter Tryz.func81,Tryz.ntmps81
 go_wp2_with fail;go_ret
 exact⟨rfl,rfl⟩
theorem shSize(b:Nat)(w:World){o:Nat→Tag}{t:Tag}{s:ShS}(h:ShAt w o t b s) :
  Calls Tryz.prog 233 #[.pointer (some ⟨b,0,none⟩)] w fun e w'=>e=.returned (.int .i64 s.n)∧w'=w:=by
 obtain⟨h0,h1,g,W,h2,h3,h4,h5⟩:=h;have c2:w.cell? ⟨b,1,none⟩=some (.int .i64 s.n):=h3.cell' (i:=1) rfl;clear h0 h3 h4 h5;go_enter Tryz.func233,Tryz.ntmps233
 go_wp2_with fail;go_ret
 exact⟨rfl,rfl⟩
def ShS.takeE(s:ShS)(k:Int):Int:=if 0≤k∧k<s.n then (if s.f k.toNat then 0 else 7) else 12
def ShS.take(s:ShS)(k:Int):ShS:=if (0≤k∧k<s.n)∧s.f k.toNat=true then s.flip k.toNat else s
def ShS.giveE(s:ShS)(k:Int):Int:=if 0≤k∧k<s.n then (if s.f k.toNat then 13 else 0) else 12
def ShS.give(s:ShS)(k:Int):ShS:=if (0≤k∧k<s.n)∧s.f k.toNat=false then s.flip k.toNat else s
theorem shTakeAt(b:Nat)(k:Int)(w:World){o:Nat→Tag}{t:Tag}{s:ShS}(h:ShAt w o t b s)(h9:¬t <+: [9]) :
  Calls Tryz.prog 185 #[.pointer (some ⟨b,0,none⟩),.int .i64 k] w (ShPost w o t b (.int .i64 (s.takeE k)) (s.take k)):=by
 have hw:=HD (shWithin b k w h);have ht:=HD (shTaken b k w h);by_cases hk:0≤k∧k<s.n
 ·rw [if_pos hk] at hw
  rw [decide_eq_true hk,Bool.true_and] at ht;obtain⟨m,rfl⟩:∃m:Nat,k=m:=⟨k.toNat,by omega⟩
  rw [Int.toNat_natCast] at ht;cases hf:s.f m with
  |true =>
   have hu:=HD (shTurn b m (-1) w h h9 (by omega) (by rw [hf];rfl));have he:s.takeE m=0:=by unfold ShS.takeE;rw [if_pos hk,Int.toNat_natCast,hf];rfl
   have hs:s.take m=s.flip m:=by unfold ShS.take;rw [Int.toNat_natCast,if_pos ⟨hk,hf⟩]
   rw [he,hs];rw [hf] at ht;clear h he hs hf hk;go_enter Tryz.func185,Tryz.ntmps185
   go_wp2_with fail;refine SM hw.out ?_;go_wp2_with fail;refine SM ht.out ?_;go_wp2_with fail;refine hu.out.mono ?_;rintro e w' ⟨rfl,r1,r2⟩;go_wp2_with fail;go_ret
   exact⟨rfl,r1,r2⟩
  |false =>
   have he:s.takeE m=7:=by unfold ShS.takeE;rw [if_pos hk,Int.toNat_natCast,hf];rfl
   have hs:s.take m=s:=by unfold ShS.take;rw [Int.toNat_natCast,if_neg (fun q=>by rw [hf] at q;cases q.2)]
   rw [he,hs];rw [hf] at ht;replace h:=HD h;clear he hs hf hk;go_enter Tryz.func185,Tryz.ntmps185
   go_wp2_with fail;refine SM hw.out ?_;go_wp2_with fail;refine SM ht.out ?_;go_wp2_with fail;go_ret
   exact⟨rfl,h.out,Fr.refl _ _ _⟩
 ·rw [if_neg hk] at hw
  have he:s.takeE k=12:=by unfold ShS.takeE;rw [if_neg hk]
  have hs:s.take k=s:=by unfold ShS.take;rw [if_neg (fun q=>hk q.1)]
  rw [he,hs];replace h:=HD h;clear he hs hk ht;go_enter Tryz.func185,Tryz.ntmps185
  go_wp2_with fail;refine SM hw.out ?_;go_wp2_with fail;go_ret
  exact⟨rfl,h.out,Fr.refl _ _ _⟩
theorem shGive(b:Nat)(k:Int)(w:World){o:Nat→Tag}{t:Tag}{s:ShS}(h:ShAt w o t b s)(h9:¬t <+: [9]) :
  Calls Tryz.prog 93 #[.pointer (some ⟨b,0,none⟩),.int .i64 k] w (ShPost w o t b (.int .i64 (s.giveE k)) (s.give k)):=by
 have hw:=HD (shWithin b k w h);have ht:=HD (shTaken b k w h);by_cases hk:0≤k∧k<s.n
 ·rw [if_pos hk] at hw
  rw [decide_eq_true hk,Bool.true_and] at ht;obtain⟨m,rfl⟩:∃m:Nat,k=m:=⟨k.toNat,by omega⟩
  rw [Int.toNat_natCast] at ht;cases hf:s.f m with
  |false =>
   have hu:=HD (shTurn b m 1 w h h9 (by omega) (by rw [hf];rfl));have he:s.giveE m=0:=by unfold ShS.giveE;rw [if_pos hk,Int.toNat_natCast,hf];rfl
   have hs:s.give m=s.flip m:=by unfold ShS.give;rw [Int.toNat_natCast,if_pos ⟨hk,hf⟩]
   rw [he,hs];rw [hf] at ht;clear h he hs hf hk;go_enter Tryz.func93,Tryz.ntmps93
   go_wp2_with fail;refine SM hw.out ?_;go_wp2_with fail;refine SM ht.out ?_;go_wp2_with fail;refine hu.out.mono ?_;rintro e w' ⟨rfl,r1,r2⟩;go_wp2_with fail;go_ret
   exact⟨rfl,r1,r2⟩
  |true =>
   have he:s.giveE m=13:=by unfold ShS.giveE;rw [if_pos hk,Int.toNat_natCast,hf];rfl
   have hs:s.give m=s:=by unfold ShS.give;rw [Int.toNat_natCast,if_neg (fun q=>by rw [hf] at q;cases q.2)]
   rw [he,hs];rw [hf] at ht;replace h:=HD h;clear he hs hf hk;go_enter Tryz.func93,Tryz.ntmps93
   go_wp2_with fail;refine SM hw.out ?_;go_wp2_with fail;refine SM ht.out ?_;go_wp2_with fail;go_ret
   exact⟨rfl,h.out,Fr.refl _ _ _⟩
 ·rw [if_neg hk] at hw
  have he:s.giveE k=12:=by unfold ShS.giveE;rw [if_neg hk]
  have hs:s.give k=s:=by unfold ShS.give;rw [if_neg (fun q=>hk q.1)]
  rw [he,hs];replace h:=HD h;clear he hs hk ht;go_enter Tryz.func93,Tryz.ntmps93
  go_wp2_with fail;refine SM hw.out ?_;go_wp2_with fail;go_ret
  exact⟨rfl,h.out,Fr.refl _ _ _⟩
end
section
open Go.RowKit
theorem tz64_core(x k idx:Nat)(w:World)(hx0:((x:Int)==0)=false)
  (key:IntKind.u64.wrap (bits BinOp.and IntKind.u64 (x:Int) (IntKind.u64.wrap (-(x:Int)))*285870213051353865)/288230376151711744=(idx:Int))
  (hi:idx<64) (hk:k<64) (hcell:w.cell? ⟨0,idx,none⟩=some (.int .u8 k)) :
  Calls Tryz.prog 167 #[.int .u64 x] w fun e w'=>e=.returned (.int .i64 k)∧w'=w:=by
 go_enter Tryz.func167,Tryz.ntmps167
 go_wp2_with (simp only [key])
 go_ret
 exact⟨rfl,rfl⟩
theorem tz64(x:Nat)(hx:x<18446744073709551616)(hx0:x≠0)(w:World){o:Nat→Tag}(hT:Tab w o) :
  Calls Tryz.prog 167 #[.int .u64 x] w fun e w'=>e=.returned (.int .i64 (Lib.ctz 64 x))∧w'=w:=by
 obtain⟨hlow,hk⟩:=Lib.lowest_bit 64 x hx0 hx;obtain⟨hi,htab⟩:=Lib.deBruijn64_at _ hk;have hcell:=hT.2.2 _ hi;rw [htab] at hcell;exact tz64_core x _ _ w (by simp;omega) (Go.Proofs.tz64_key x _ hx hx0 hlow) hi hk hcell
theorem ctz_bits(x:Nat)(h0:x≠0)(h:x<18446744073709551616):x.testBit (Lib.ctz 64 x)=true∧(∀i,i<Lib.ctz 64 x→x.testBit i=false)∧Lib.ctz 64 x<64:=by
 obtain⟨m,hm,hk⟩:=Lib.ctzFrom_spec 64 x (by omega) h;have e:Lib.ctz 64 x=Lib.ctzFrom 64 x:=by simp [Lib.ctz,h0]
 rw [e];generalize Lib.ctzFrom 64 x=c at *;subst hm;refine⟨?_,fun i hi=>?_,hk⟩
 ·rw [Nat.mul_comm,Nat.testBit_mul_two_pow];simp
 ·rw [Nat.mul_comm,Nat.testBit_mul_two_pow];simp;omega
def ShS.low(s:ShS):Option Nat:=(List.range s.n).find? s.f
def ShS.lowI(s:ShS):Int:=match s.low with
 |some k=>k
 |none=>-1
theorem low_none{s:ShS}(h:∀j,j<s.n→s.f j=false):s.lowI=-1:=by
 have:s.low=none:=by
  unfold ShS.low;rw [List.find?_eq_none];intro j hj;rw [List.mem_range] at hj;simp [h j hj]
 unfold ShS.lowI;rw [this]
theorem low_some{s:ShS}{k:Nat}(hk:k<s.n)(hf:s.f k=true)(h:∀j,j<k→s.f j=false):s.low=some k∧s.lowI=k:=by
 have:s.low=some k:=by
  unfold ShS.low;rw [List.find?_range_eq_some];exact⟨hf,List.mem_range.2 hk,fun j hj=>by simp [h j hj]⟩
 exact⟨this,by unfold ShS.lowI;rw [this]⟩
theorem shLowest(b:Nat)(w:World){o:Nat→Tag}{t:Tag}{s:ShS}(h:ShAt w o t b s) :
  Calls Tryz.prog 119 #[.pointer (some ⟨b,0,none⟩)] w fun e w'=>e=.returned (.int .i64 s.lowI)∧w'=w:=by
 obtain⟨h0,h1,g,W,h2,h3,h4,h5⟩:=h;have c0:w.cell? ⟨b,0,none⟩=some (.slice (some ⟨g,0,none⟩) W.length W.length):=h3.cell' (i:=0) rfl;have hl:=h5.1;have h5:=HD h5;have h4:=HD h4;have h0:=HD h0;go_enter Tryz.func119,Tryz.ntmps119
 go_wp2_with fail;refine wp_scope_round 0 (fun a' w'=>w'=w∧∃(i:Nat) (u1 u2 u4 u5 u6 u7 u8 u9 u10 u11 u12 u13 u14 u15 u16 u17 u18 u19 u20 u21 u22 u23 u24 u25 u26 u27 u28 u29 u30 u31 u32 u33:Value),a'={tmps:=#[.pointer (some ⟨b,0,none⟩),u1,u2,.int .i64 i,u4,u5,u6,u7,u8,u9,u10,u11,u12,u13,u14,u15,u16,u17,u18,u19,u20,u21,u22,u23,u24,u25,u26,u27,u28,u29,u30,u31,u32,u33],defers:=[]}∧i≤W.length∧∀j,j<64*i→s.f j=false) (fun a' _=>W.length-(intOf (a'.tmps.getD 3 undef)).toNat) rfl ?_ ?_
 ·rintro a' w' ⟨rfl,i,u1,u2,u4,u5,u6,u7,u8,u9,u10,u11,u12,u13,u14,u15,u16,u17,u18,u19,u20,u21,u22,u23,u24,u25,u26,u27,u28,u29,u30,u31,u32,u33,rfl,hi,hz⟩
  replace hz:=HD hz;by_cases hlt:i<W.length
  ·have hd:decide ((W.length:Int)≤(i:Int))=false:=decide_eq_false (by omega)
   have hib:(i:Int)<1100:=by omega
   have c1:=h4.out.cell' (shW_get hlt);have hx:W.getD i 0<18446744073709551616:=by rw [List.getD_eq_getElem?_getD,List.getElem?_eq_getElem hlt];exact h5.out.2.1 _ (List.getElem_mem hlt)
   have hbit:Hid (∀m,m<64→(W.getD i 0).testBit m=s.f (64*i+m)):=HD (fun m hm=>by
    have:=h5.out.2.2.2 (64*i+m)
    rwa [show (64*i+m)/64=i by omega,show (64*i+m)%64=m by omega] at this)
   generalize W.getD i 0=x at *;by_cases hx0:x=0
   ·have hb:((x:Int)==0)=true:=by subst hx0;rfl
    have hz':=HD (show ∀j,j<64*(i+1)→s.f j=false from fun j hj=>by
     by_cases e:j<64*i
     ·exact hz.out j e
     ·have:=hbit.out (j-64*i) (by omega)
      rw [hx0,show 64*i+(j-64*i)=j by omega] at this;simpa using this.symm)
    clear hl;go_wp2_with fail;go_step3
    rw [show ((i:Int)+1)=((i+1:Nat):Int) from rfl];refine⟨rfl,⟨rfl,i+1,_,_,_,_,_,_,_,_,_,_,_,_,_,_,_,_,_,_,_,_,_,_,_,_,_,_,_,_,_,_,_,_,rfl,by omega,hz'.out⟩,?_⟩;simp [intOf]
    omega
   ·have hb:((x:Int)==0)=false:=by rw [beq_eq_false_iff_ne];omega
    obtain⟨t1,t2,t3⟩:=ctz_bits x hx0 hx;have htz:=HD (tz64 x hx hx0 w' h0.out);have hlow:=HD (low_some (s:=s) (k:=64*i+Lib.ctz 64 x) (by
     rw [hbit.out _ t3] at t1;by_cases q:64*i+Lib.ctz 64 x<s.n
     ·exact q
     ·exfalso;rw [h5.out.2.2.1 _ (by omega)] at t1;cases t1) (by rw [←hbit.out _ t3];exact t1) (fun j hj=>by
     by_cases e:j<64*i
     ·exact hz.out j e
     ·have:=t2 (j-64*i) (by omega)
      rw [hbit.out _ (by omega),show 64*i+(j-64*i)=j by omega] at this;exact this)).2
    generalize Lib.ctz 64 x=c at *;clear hl t1 t2;go_wp2_with fail;refine SM htz.out ?_;go_wp2_with fail;simp only [Exit.jump];go_ret
    rw [hlow.out];exact⟨rfl,rfl⟩
  ·obtain rfl:i=W.length:=by omega
   have hlow:=HD (low_none (s:=s) (fun j hj=>hz.out j (by omega)));clear hl;go_wp2_with fail;simp only [Exit.jump];go_ret
   rw [hlow.out];exact⟨rfl,rfl⟩
 ·intro H
  go_wp2_with fail;go_step3
  rename_i K hK;exact hK _ _ <| H _ _ ⟨rfl,0,_,_,_,_,_,_,_,_,_,_,_,_,_,_,_,_,_,_,_,_,_,_,_,_,_,_,_,_,_,_,_,_,rfl,Nat.zero_le _,fun j hj=>by omega⟩
def ShS.tkE(s:ShS):Int:=if s.lowI<0 then 13 else 0
def ShS.tkV(s:ShS):Int:=if s.lowI<0 then 0 else s.lowI
def ShS.tk(s:ShS):ShS:=if s.lowI<0 then s else s.flip s.lowI.toNat
theorem low_cases(s:ShS):(s.lowI=-1∧s.low=none)∨∃k:Nat,s.lowI=k∧s.low=some k∧k<s.n∧s.f k=true:=by
 unfold ShS.lowI;cases h:s.low with
 |none=>exact .inl ⟨rfl,rfl⟩
 |some k =>
  unfold ShS.low at h;rw [List.find?_range_eq_some] at h;exact .inr ⟨k,rfl,rfl,List.mem_range.1 h.2.1,h.1⟩
theorem shTake(b:Nat)(w:World){o:Nat→Tag}{t:Tag}{s:ShS}(h:ShAt w o t b s)(h9:¬t <+: [9]) :
  Calls Tryz.prog 82 #[.pointer (some ⟨b,0,none⟩)] w (ShPost w o t b (.tuple #[.int .i64 s.tkV,.int .i64 s.tkE]) s.tk):=by
 have hl:=HD (shLowest b w h);rcases low_cases s with ⟨e,_⟩|⟨k,e,_,hk,hf⟩
 ·have h1:s.tkV=0:=by unfold ShS.tkV;rw [if_pos (by omega)]
  have h2:s.tkE=13:=by unfold ShS.tkE;rw [if_pos (by omega)]
  have h3:s.tk=s:=by unfold ShS.tk;rw [if_pos (by omega)]
  rw [h1,h2,h3];rw [e] at hl;replace h:=HD h;clear e h1 h2 h3;go_enter Tryz.func82,Tryz.ntmps82
  go_wp2_with fail;refine SM hl.out ?_;go_wp2_with fail;go_ret2
  exact⟨rfl,h.out,Fr.refl _ _ _⟩
 ·have h1:s.tkV=k:=by unfold ShS.tkV;rw [if_neg (by omega),e]
  have h2:s.tkE=0:=by unfold ShS.tkE;rw [if_neg (by omega)]
  have h3:s.tk=s.flip k:=by unfold ShS.tk;rw [if_neg (by omega),e,Int.toNat_natCast]
  rw [h1,h2,h3];rw [e] at hl;have hu:=HD (shTurn b k (-1) w h h9 hk (by rw [hf];rfl));clear e h1 h2 h3 hf h;go_enter Tryz.func82,Tryz.ntmps82
  go_wp2_with fail;refine SM hl.out ?_;go_wp2_with fail;refine hu.out.mono ?_;rintro e w' ⟨rfl,r1,r2⟩;go_wp2_with fail;go_ret2
  exact⟨rfl,r1,r2⟩
def ShS.new(n:Nat):ShS:=⟨n,fun k=>decide (k<n)⟩
theorem infoU64:(Tryz.prog.info? 30).map (fun i=>(i.zero,i.size,i.bytes))=some (some (.int .u64 0),1,8):=by kernel_rfl
theorem cnt_new(n:Nat):(ShS.new n).cnt=n:=by
 unfold ShS.cnt ShS.new;rw [List.countP_eq_length.2 (fun a ha=>by simpa using ha),List.length_range]
theorem rep_or{W:List Nat}{n j:Nat}(h:ShRep W ⟨n,fun k=>decide (k<j)⟩)(hj:j<n):ShRep (W.set (j/64) (W.getD (j/64) 0 ||| 2^(j%64))) ⟨n,fun k=>decide (k<j+1)⟩:=by
 obtain⟨h1,h2,h3,h4⟩:=h;have h1':W.length=(n+63)/64:=h1;have hl:j/64<W.length:=by omega
 have hp:2^(j%64)<18446744073709551616:=Nat.pow_lt_pow_right (by omega) (show j%64<64 by omega);refine⟨by rw [List.length_set];exact h1,fun x hx=>?_,fun k hk=>?_,fun k=>?_⟩
 ·rcases List.mem_or_eq_of_mem_set hx with q|q
  ·exact h2 x q
  ·rw [q]
   refine Nat.or_lt_two_pow (n:=64) ?_ hp;rw [List.getD_eq_getElem?_getD,List.getElem?_eq_getElem hl];exact h2 _ (List.getElem_mem hl)
 ·have:n≤k:=hk
  simp;omega
 ·have h4k:=h4 k
  by_cases e:k/64=j/64
  ·rw [e] at h4k ⊢
   rw [show (W.set (j/64) (W.getD (j/64) 0 ||| 2^(j%64))).getD (j/64) 0=W.getD (j/64) 0 ||| 2^(j%64) by simp [List.getD_eq_getElem?_getD,hl],Nat.testBit_or,h4k,Nat.testBit_two_pow];by_cases e2:k=j
   ·subst e2;simp
   ·have:¬(j%64=k%64):=by omega
    simp only [this,decide_false,Bool.or_false];rw [decide_eq_decide];omega
  ·rw [show (W.set (j/64) (W.getD (j/64) 0 ||| 2^(j%64))).getD (k/64) 0=W.getD (k/64) 0 by simp [List.getD_eq_getElem?_getD,Ne.symm e],h4k]
   show decide _=decide _;rw [decide_eq_decide];have:k≠j:=fun q=>e (by rw [q])
   omega
def ShNew(w:World)(o:Nat→Tag)(t:Tag)(n:Nat)(e:Ending)(w':World):Prop:=∃(b:Nat) (o':Nat→Tag),e=.returned (.tuple #[.pointer (some ⟨b,0,none⟩),.int .i64 0])∧ShAt w' o' t b (ShS.new n)∧Fr (fun _=>False) w o w' o'
theorem shNew(n:Nat)(w:World)(o:Nat→Tag)(t:Tag)(hT:Tab w o)(hn:n≤65536) :
  Calls Tryz.prog 77 #[.int .i64 n] w (ShNew w o t n):=by
 obtain⟨i0,hi,hz0,hz1,hz2⟩:=info_parts infoU64;have hn1:(n:Int)≤65536:=by omega
 have hml:(n+63)/64≤1024:=by omega
 go_enter Tryz.func77,Tryz.ntmps77
 go_wp2_with (at_make;refine wpList_make_eq _ rfl _ _ 62 rfl 30 i0 (.int .u64 0) Tryz.underlying62 hi hz0 hz1 rfl _ _ _ _ ((n+63)/64) rfl rfl (by omega) (by omega) (by rw [hz2];omega) (by omega) ?_)
 have hA1:=Blk.made w o t (Array.replicate ((n+63)/64) (.int .u64 0)) 30;have hA2:=(hA1.setO (k:=w.heap.size+1) (u:=t) (by simp)).alloc (.cells #[.slice (some ⟨w.heap.size,0,none⟩) ((n+63)/64) ((n+63)/64),.int .i64 n,.int .i64 n] 188);have hA3:=Blk.made (w.alloc (.cells (Array.replicate ((n+63)/64) (.int .u64 0)) 30)) (setO o w.heap.size t) t #[.slice (some ⟨w.heap.size,0,none⟩) ((n+63)/64) ((n+63)/64),.int .i64 n,.int .i64 n] 188;have hF:=((Fr.alloc (S:=fun _=>False) (w:=w) (o:=o) (.cells (Array.replicate ((n+63)/64) (.int .u64 0)) 30) t).al' (.cells #[.slice (some ⟨w.heap.size,0,none⟩) ((n+63)/64) ((n+63)/64),.int .i64 n,.int .i64 n] 188) t)
 simp only [World.size_alloc] at hA3 hF;have hW:Array.replicate ((n+63)/64) (Value.int .u64 0)=shW (List.replicate ((n+63)/64) 0):=by unfold shW;simp
 rw [hW] at hA2 hA3 hF ⊢;have hR0:ShRep (List.replicate ((n+63)/64) 0) ⟨n,fun k=>decide (k<0)⟩:=by
  refine⟨by simp,fun x hx=>by have:=List.eq_of_mem_replicate hx;omega,fun k _=>rfl,fun k=>?_⟩;have:(List.replicate ((n+63)/64) 0).getD (k/64) 0=0:=by
   rw [List.getD_eq_getElem?_getD,List.getElem?_replicate];split<;>rfl
  rw [this];simp
 replace hA2:=HD hA2;replace hA3:=HD hA3;replace hF:=HD hF;clear hA1 hW;replace hR0:=HD hR0;generalize hL:(n+63)/64=l at *;go_loopg [21] n (fun gh i wx=>∃(j:Nat) (W:List Nat),j≤n∧gh=n-j∧i=.int .i64 j∧W.length=l∧Blk wx (setO (setO o w.heap.size t) (w.heap.size+1) t) t w.heap.size (shW W) 30∧Blk wx (setO (setO o w.heap.size t) (w.heap.size+1) t) t (w.heap.size+1) #[.slice (some ⟨w.heap.size,0,none⟩) l l,.int .i64 n,.int .i64 n] 188∧ShRep W ⟨n,fun k=>decide (k<j)⟩∧Fr (fun _=>False) w o wx (setO (setO o w.heap.size t) (w.heap.size+1) t))
 case atStart=>exact⟨0,_,Nat.zero_le _,rfl,rfl,by simp,hA2.out,hA3.out,hR0.out,hF.out⟩
 case round =>
  clear hA2 hA3 hF hR0;obtain⟨j,W,hj,rfl,rfl,hWl,hB1,hB2,hR,hF⟩:=hrel;have hl1:=hR.1;by_cases hlt:j<n
  ·have d8:decide ((j:Int)<(n:Int))=true:=decide_eq_true (by omega)
   have c0:wr.cell? ⟨w.heap.size+1,0,none⟩=some (.slice (some ⟨w.heap.size,0,none⟩) l l):=hB2.cell' (i:=0) rfl;have hjl:j/64<W.length:=by omega
   have c1:=hB1.cell' (shW_get hjl);have f1:=hB1.free (j/64);have hx:W.getD (j/64) 0<18446744073709551616:=by rw [List.getD_eq_getElem?_getD,List.getElem?_eq_getElem hjl];exact hR.2.1 _ (List.getElem_mem hjl)
   have hp:2^(j%64)<18446744073709551616:=Nat.pow_lt_pow_right (by omega) (show j%64<64 by omega);have hX:bits .or .u64 ((W.getD (j/64) 0:Nat):Int) (IntKind.u64.wrap (2^((j:Int)%64).toNat))=((W.getD (j/64) 0 ||| 2^(j%64):Nat):Int):=by
    rw [show ((j:Int)%64).toNat=j%64 by omega,show ((2:Int)^(j%64))=((2^(j%64):Nat):Int) by simp,show IntKind.u64.wrap ((2^(j%64):Nat):Int)=((2^(j%64):Nat):Int) by rw [IntKind.wrap_u64];generalize 2^(j%64)=z at hp;omega];exact bits_or_u64_nat _ _ hx hp
   have hR2:=HD (rep_or hR hlt);have hs:=HD (hB1.set (j/64) (.int .u64 ((W.getD (j/64) 0 ||| 2^(j%64):Nat):Int)));rw [shW_set] at hs;have hs2:=HD (hB2.set_ne (p:=⟨w.heap.size,j/64,none⟩) (by show w.heap.size≠w.heap.size+1;omega) (.int .u64 ((W.getD (j/64) 0 ||| 2^(j%64):Nat):Int)));have hl2:(j:Int)/64<(l:Int):=by omega
   have hm:(j:Int)<65536:=by omega
   have hw1:=IntWalk.i64_in ((j:Int)/64) (by omega);have hw2:0≤(j:Int)/64:=by omega
   have hw3:(j:Int).tmod 64=((j%64:Nat):Int):=by rw [Int.tmod_eq_emod_of_nonneg (by omega)];omega
   have hw4:((j:Int)/64).toNat=j/64:=by omega
   have hWl2:Hid ((W.set (j/64) (W.getD (j/64) 0 ||| 2^(j%64))).length=l):=HD (by rw [List.length_set];exact hWl);generalize W.set (j/64) (W.getD (j/64) 0 ||| 2^(j%64))=W' at *;generalize W.getD (j/64) 0 ||| 2^(j%64)=y at *
   generalize W.getD (j/64) 0=x at *;replace hF:=HD hF;clear hB1 hB2 hR hL hWl hl1;go_wp2_with fail;go_still_tail 13,(by kernel_rfl)
   change wpList _ _ _ _ _ wr.drew;go_wp2_with fail;go_roundg (n-(j+1))
   case measure=>omega
   case rel=>exact⟨j+1,W',by omega,rfl,by go_num,hWl2.out,hs.out.drew,hs2.out.drew,hR2.out,(hF.out.set' (p:=⟨w.heap.size,j/64,none⟩) (fun q=>absurd q (Nat.lt_irrefl _)) _).drew'⟩
  ·obtain rfl:j=n:=by omega
   replace hF:=HD hF;replace hR:=HD hR;clear hl1;go_wp2_with fail;go_ret2
   have hc:=cnt_new j;refine⟨w.heap.size+1,_,rfl,⟨hT.fr hF.out (fun q=>q),hn,w.heap.size,W,by omega,?_,hB1,hR.out⟩,hF.out⟩;rw [hWl,hc];exact hB2
end
section
open Go.RowKit
def Ints(w:World)(o:Nat→Tag)(t:Tag)(v:Value)(xs:List Int):Prop :=
 ∃A c,v=.slice A xs.length c∧(0<xs.length→∃g off,A=some ⟨g,off,none⟩∧g<w.heap.size∧o g=t∧∀i (h:i<xs.length),w.cell? ⟨g,off+i,none⟩=some (.int .i64 xs[i]))
theorem Ints.fr{S:Tag→Prop}{w w':World}{o o':Nat→Tag}{t:Tag}{v:Value}{xs:List Int}(h:Ints w o t v xs)(f:Fr S w o w' o')(hS:¬S t):Ints w' o' t v xs:=by
 obtain⟨A,c,rfl,h⟩:=h;refine⟨A,c,rfl,fun hp=>?_⟩;obtain⟨g,off,rfl,h1,h2,h3⟩:=h hp;exact⟨g,off,rfl,Nat.lt_of_lt_of_le h1 f.size,(f.ext g h1).trans h2,fun i hi=>f.only.cell (h3 i hi) (by show ¬S (o g);rw [h2];exact hS)⟩
structure CmS where
 P:Nat
 C:Nat
 sh:Nat→ShS
def CmS.ok(s:CmS):Prop:=1≤s.C∧s.C≤32∧1≤s.P∧s.P≤4096∧s.P%s.C=0∧∀c,c<s.C→(s.sh c).n=s.P/s.C
def CmAt(w:World)(o:Nat→Tag)(t:Tag)(b:Nat)(s:CmS):Prop :=
 s.ok∧∃(g cap:Nat) (L:List Value) (bs:Nat→Nat),Blk w o t b #[.int .i64 s.P,.int .i64 s.C,.slice (some ⟨g,0,none⟩) s.C cap] 141∧Blk w o t g L.toArray 142∧b≠g ∧
  (∀c,c<s.C→L[c]? = some (.pointer (some ⟨bs c,0,none⟩)))∧∀c,c<s.C→ShAt w o (t++[c]) (bs c) (s.sh c)
theorem CmAt.fr{S:Tag→Prop}{w w':World}{o o':Nat→Tag}{t:Tag}{b:Nat}{s:CmS}(h:CmAt w o t b s)(f:Fr S w o w' o')(hS:Off S t):CmAt w' o' t b s:=by
 obtain⟨h0,g,cap,L,bs,h1,h2,h3,h4,h5⟩:=h;exact⟨h0,g,cap,L,bs,h1.fr f hS.self,h2.fr f hS.self,h3,h4,fun c hc=>(h5 c hc).fr f (hS.sub [c])⟩
theorem CmAt.cells{w:World}{o:Nat→Tag}{t:Tag}{b:Nat}{s:CmS}(h:CmAt w o t b s):w.cell? ⟨b,0,none⟩=some (.int .i64 s.P)∧w.cell? ⟨b,1,none⟩=some (.int .i64 s.C)∧s.ok:=by
 obtain⟨h0,g,cap,L,bs,h1,_⟩:=h;exact⟨h1.cell' (i:=0) rfl,h1.cell' (i:=1) rfl,h0⟩
theorem cm_div{P C:Nat}(hC:1≤C)(hP:P≤4194304):¬C=0∧(P:Int).tdiv C=((P/C:Nat):Int)∧(P:Int).tmod C=((P%C:Nat):Int)∧IntKind.i64.wrap ((P/C:Nat):Int)=((P/C:Nat):Int)∧IntKind.i64.wrap ((P%C:Nat):Int)=((P%C:Nat):Int):=by
 have h1:P/C≤P:=Nat.div_le_self P C;have h2:P%C≤P:=Nat.mod_le P C;refine⟨by omega,?_,?_,IntWalk.i64_in _ (by generalize P/C=q at h1;omega),IntWalk.i64_in _ (by generalize P%C=q at h2;omega)⟩
 ·rw [Int.tdiv_eq_ediv_of_nonneg (by omega)];simp
 ·rw [Int.tmod_eq_emod_of_nonneg (by omega)];simp
theorem cmEach(b:Nat)(w:World){o:Nat→Tag}{t:Tag}{s:CmS}(h:CmAt w o t b s) :
  Calls Tryz.prog 50 #[.pointer (some ⟨b,0,none⟩)] w fun e w'=>e=.returned (.int .i64 (s.P/s.C:Nat))∧w'=w.drew:=by
 obtain⟨c0,c1,h1,h2,h3,h4,_⟩:=h.cells;obtain⟨d0,d1,_,d3,_⟩:=cm_div (P:=s.P) h1 (by omega);clear h h1 h2 h3 h4;generalize s.P/s.C=q at *;generalize s.P=p at *;generalize s.C=c at *;go_enter Tryz.func50,Tryz.ntmps50
 go_wp2_with fail;go_still (by kernel_rfl)
 change Exit.then _ _ _ _ w.drew;go_wp2_with fail;go_ret
 exact⟨rfl,rfl⟩
theorem cmWithin(b:Nat)(p:Int)(w:World){o:Nat→Tag}{t:Tag}{s:CmS}(h:CmAt w o t b s) :
  Calls Tryz.prog 179 #[.pointer (some ⟨b,0,none⟩),.int .i64 p] w fun e w'=>e=.returned (.bool (decide (0≤p∧p<s.P)))∧w'=w:=by
 obtain⟨c0,c1,_⟩:=h.cells;clear h;by_cases h0:0≤p
 ·by_cases h1:p<s.P
  ·rw [decide_eq_true ⟨h0,h1⟩]
   go_enter Tryz.func179,Tryz.ntmps179
   go_wp2_with fail;go_ret
   exact⟨by simp,rfl⟩
  ·rw [decide_eq_false (fun q=>h1 q.2)]
   have hd:decide (p<(s.P:Int))=false:=decide_eq_false h1;go_enter Tryz.func179,Tryz.ntmps179
   go_wp2_with fail;go_ret
   exact⟨by simp,rfl⟩
 ·rw [decide_eq_false (fun q=>h0 q.1)]
  go_enter Tryz.func179,Tryz.ntmps179
  go_wp2_with fail;go_ret
  exact⟨rfl,rfl⟩
def CmS.col(s:CmS)(p:Int):Int:=if 0≤p∧p<s.P then p%s.C else -1
theorem cmColour(b:Nat)(p:Int)(w:World){o:Nat→Tag}{t:Tag}{s:CmS}(h:CmAt w o t b s) :
  Calls Tryz.prog 124 #[.pointer (some ⟨b,0,none⟩),.int .i64 p] w fun e w'=>e=.returned (.int .i64 (s.col p))∧w'=w:=by
 have hw:=HD (cmWithin b p w h);obtain⟨c0,c1,h1,h2,h3,h4,_⟩:=h.cells;clear h;unfold CmS.col;by_cases hp:0≤p∧p<s.P
 ·obtain⟨n,rfl⟩:∃n:Nat,p=n:=⟨p.toNat,by omega⟩
  rw [if_pos hp];rw [decide_eq_true hp] at hw;obtain⟨d0,_,d2,_,d4⟩:=cm_div (P:=n) h1 (by omega);rw [show (n:Int)%s.C=((n%s.C:Nat):Int) by simp];have hm:n%s.C<s.C:=Nat.mod_lt _ (by omega);have d5:(n:Int)%s.C=((n%s.C:Nat):Int):=by simp
  replace hp:=HD hp;generalize n%s.C=q at *;go_enter Tryz.func124,Tryz.ntmps124
  go_wp2_with fail;refine SM hw.out ?_;go_wp2_with fail;go_ret
  exact⟨rfl,rfl⟩
 ·rw [if_neg hp]
  rw [decide_eq_false hp] at hw;clear hp;go_enter Tryz.func124,Tryz.ntmps124
  go_wp2_with fail;refine SM hw.out ?_;go_wp2_with fail;go_ret
  exact⟨rfl,rfl⟩
theorem cmIs(b:Nat)(c:Int)(w:World){o:Nat→Tag}{t:Tag}{s:CmS}(h:CmAt w o t b s) :
  Calls Tryz.prog 184 #[.pointer (some ⟨b,0,none⟩),.int .i64 c] w fun e w'=>e=.returned (.bool (decide (0≤c∧c<s.C)))∧w'=w:=by
 obtain⟨_,g,cap,L,bs,h1,_⟩:=h;have c2:w.cell? ⟨b,2,none⟩=some (.slice (some ⟨g,0,none⟩) s.C cap):=h1.cell' (i:=2) rfl;clear h1;by_cases h0:0≤c
 ·rw [show decide (0≤c∧c<s.C)=decide (c<s.C) by simp [h0]]
  go_enter Tryz.func184,Tryz.ntmps184
  go_wp2_with fail;go_ret
  exact⟨rfl,rfl⟩
 ·rw [decide_eq_false (fun q=>h0 q.1)]
  go_enter Tryz.func184,Tryz.ntmps184
  go_wp2_with fail;go_ret
  exact⟨rfl,rfl⟩
end
end Go.Proofs.YtfliaggjkianpaaGreatDoor
