import Derived.Test.YtfliaggjkianpaaGreatDoorK26
import Derived.Laws.MakeOwn
set_option linter.unusedVariables false
set_option linter.unusedSimpArgs false
set_option maxRecDepth 100000
namespace Go.Proofs.YtfliaggjkianpaaGreatDoor
section
open Go.RowKit Flt
attribute [local irreducible] CpS.rv
abbrev shF(d:Nat)(x:Slot):Slot:=((x.1.1,x.1.2+d),x.2)
def shL(d:Nat)(l:List (Int×Slot)):List (Int×Slot):=l.map fun y=>(y.1,shF d y.2)
def shC(d:Nat)(cp:CpS):CpS:=⟨cp.tenant,cp.next+d,shL d cp.slots,cp.obj,cp.ext⟩
def shT(d:Nat)(t:TnS):TnS:={t with cp:=shC d t.cp}
def shH(d:Nat)(h:Nat):Nat:=if h=0 then 0 else h+d*1048576
def shA(d:Nat)(a:Ans):Ans:={a with h:=shH d a.h}
def HOk(d:Nat)(h:Nat):Prop:=h=0∨(unOK h∧unN h+d≤17592186044415)
section
variable{d:Nat}{cp:CpS}{t:TnS}
theorem un_zero:¬unOK 0:=by decide
theorem un_sh{h:Nat}(ho:unOK h∧unN h+d≤17592186044415):unOK (h+d*1048576)∧unT (h+d*1048576)=unT h∧unS (h+d*1048576)=unS h∧unR (h+d*1048576)=unR h∧unN (h+d*1048576)=unN h+d:=by
 have e1:unT (h+d*1048576)=unT h:=by unfold unT;omega
 have e2:unS (h+d*1048576)=unS h:=by unfold unS;omega
 have e3:unR (h+d*1048576)=unR h:=by unfold unR;omega
 have e4:unN (h+d*1048576)=unN h+d:=by unfold unN;omega
 refine⟨?_,e1,e2,e3,e4⟩;obtain⟨o1,o2,o3,o4⟩:=ho.1;unfold unOK keyOK;rw [e1,e2,e3,e4];exact⟨o1,o2,o3,by omega,by have:=ho.2;omega⟩
theorem sh_get(l:List (Int×Slot))(k:Int):mGet (shL d l) k=(mGet l k).map (shF d):=get_map (shF d) k l
theorem sh_hit(a:Int)(k:Nat):(shC d cp).hit a k=cp.hit a k:=by
 unfold CpS.hit;rw [show (shC d cp).slots=shL d cp.slots from rfl,sh_get];cases mGet cp.slots k<;>rfl
theorem sh_drop(k:Nat):(shC d cp).drop k=shC d (cp.drop k):=by
 unfold CpS.drop;show CpS.mk _ _ (mDel k (shL d cp.slots)) _ _=CpS.mk _ _ (shL d (mDel k cp.slots)) _ _;unfold shL;rw [del_map (shF d)];rfl
section
attribute [local semireducible] CpS.rv
theorem sh_rv(a:Int):∀k:Nat,(shC d cp).rv a k=(shC d (cp.rv a k).1,(cp.rv a k).2)
 |0=>rfl
 |k+1=>by
  have ih:=sh_rv a k;unfold CpS.rv;rw [ih];simp only;rw [sh_hit,sh_drop]
  split<;>rfl
end
theorem sh_look{h:Nat}(hh:HOk d h):(shC d cp).look (shH d h)=(cp.look h).map (shF d):=by
 rcases hh with rfl|hh
 ·unfold CpS.look shH
  rw [if_pos rfl,if_neg un_zero,if_neg un_zero];rfl
 ·have h0:h≠0:=fun e=>un_zero (e▸hh.1)
  obtain⟨a1,a2,a3,a4,a5⟩:=un_sh hh;unfold CpS.look shH;rw [if_neg h0,if_pos a1,if_pos hh.1,a2,a3,a4,a5,show (shC d cp).slots=shL d cp.slots from rfl,sh_get];cases mGet cp.slots (unS h) with
  |none=>rfl
  |some x =>
   obtain⟨⟨r,n⟩,a⟩:=x;simp only [Option.map_some,Option.bind_some];show (if unT h=cp.tenant∧((r,n+(d:Int)):Int×Int)=(unR h,unN h+d) then _ else _)=_;have e:(unT h=cp.tenant∧((r,n+(d:Int)):Int×Int)=(unR h,unN h+d))↔(unT h=cp.tenant∧((r,n):Int×Int)=(unR h,unN h)):=by
    rw [Prod.mk.injEq,Prod.mk.injEq];constructor
    ·rintro ⟨q1,q2,q3⟩;exact⟨q1,q2,by omega⟩
    ·rintro ⟨q1,q2,q3⟩;exact⟨q1,q2,by omega⟩
   by_cases c:unT h=cp.tenant∧((r,n):Int×Int)=(unR h,unN h)
   ·rw [if_pos (e.2 c),if_pos c];rfl
   ·rw [if_neg (fun q=>c (e.1 q)),if_neg c];rfl
theorem sh_find{h:Nat}(hh:HOk d h)(r:Int):(shC d cp).findF (shH d h) r=cp.findF h r:=by
 unfold CpS.findF;rw [sh_look hh];cases cp.look h<;>rfl
theorem sh_fill(ob:Bool)(a r:Int)(k:Nat):(shC d cp).fill ob a r k=shC d (cp.fill ob a r k):=by
 unfold CpS.fill;show CpS.mk cp.tenant (cp.next+d+1) (mIns (CpS.base ob+k) (shF d ((r,cp.next),a)) (shL d cp.slots)) _ _=CpS.mk cp.tenant (cp.next+1+d) (shL d (mIns (CpS.base ob+k) ((r,cp.next),a) cp.slots)) _ _;unfold shL;rw [ins_map (shF d),Int.add_right_comm];rfl
theorem sh_gr(a:Int):(shC d cp).gr a=shC d (cp.gr a):=sh_fill true a 7 _
theorem low_bound{s:ShS}{n:Nat}(h:s.n=n)(h0:0<n):s.low.getD 0<n:=by
 cases e:s.low with
 |none=>exact h0
 |some k=>have:=(low_spec e).1;show k<n;omega
theorem grH_ok(ok:CpOk cp)(hx:cp.next+d<17592186044416):unOK cp.grH∧unN cp.grH=cp.next∧cp.grH≠0∧(shC d cp).grH=cp.grH+d*1048576:=by
 have h1:=ok.tenant;have h2:=ok.next;have h3:=low_bound ok.obj (by decide);obtain⟨p1,p2,p3,p4,p5,p6,p7⟩:=pack_un (t:=cp.tenant) (s:=(cp.obj.low.getD 0:Nat)) (r:=7) (n:=cp.next) ⟨h1,by omega,by omega,by omega⟩;refine⟨p1,p5,p7,?_⟩;unfold CpS.grH packN;show (cp.tenant+16*7+128*((cp.obj.low.getD 0:Nat):Int)+1048576*(cp.next+d)).toNat=_;omega
theorem grH_sh(ok:CpOk cp)(hx:cp.next+d<17592186044416):(shC d cp).grH=shH d cp.grH∧HOk d cp.grH:=by
 obtain⟨a,b,c,e⟩:=grH_ok ok hx;exact⟨by unfold shH;rw [if_neg c];exact e,.inr ⟨a,by omega⟩⟩
theorem sh_rest(ok:CpOk cp)(hx:cp.next+d<17592186044416){h:Nat}(hh:HOk d h)(r:Int) :
  (shC d cp).restA (shH d h) r=(shH d (cp.restA h r).1,(cp.restA h r).2)∧((shC d cp).restF (shH d h) r).2=shC d (cp.restF h r).2∧HOk d (cp.restA h r).1:=by
 unfold CpS.restA CpS.restF;rw [sh_look hh];cases cp.look h with
 |none=>exact⟨rfl,rfl,.inl rfl⟩
 |some x =>
  simp only [Option.map_some];by_cases c1:r<1∨7<r
  ·rw [if_pos c1,if_pos c1,if_pos c1,if_pos c1];exact⟨rfl,rfl,.inl rfl⟩
  ·rw [if_neg c1,if_neg c1,if_neg c1,if_neg c1]
   by_cases c2:mayR x.1.1 r=true
   ·rw [if_pos c2,if_pos c2,if_pos c2,if_pos c2]
    unfold CpS.putA CpS.putF;have hn:(shC d cp).next=cp.next+d:=rfl;rw [hn,if_neg (by omega),if_neg (by omega),if_neg (by omega),if_neg (by omega)];have hs:(shC d cp).sh false=cp.sh false:=rfl;rw [hs];cases e:(cp.sh false).low with
    |none=>exact⟨rfl,rfl,.inl rfl⟩
    |some k =>
     simp only;have h1:=ok.tenant;have h2:=ok.next;have h3:=(low_spec e).1;have h4:(cp.sh false).n=64:=ok.ext;have hb:CpS.base false=4096:=rfl;rw [hb];obtain⟨p1,p2,p3,p4,p5,p6,p7⟩:=pack_un (t:=cp.tenant) (s:=4096+(k:Int)) (r:=r) (n:=cp.next) ⟨h1,by omega,by omega,by omega⟩;refine⟨?_,sh_fill _ _ _ _,.inr ⟨p1,by omega⟩⟩;unfold shH;rw [if_neg p7];refine Prod.ext ?_ rfl;unfold packN;show (cp.tenant+16*r+128*(4096+(k:Int))+1048576*(cp.next+d)).toNat=_;simp only;omega
   ·rw [if_neg c2,if_neg c2,if_neg c2,if_neg c2];exact⟨rfl,rfl,.inl rfl⟩
theorem sh_put(a:Int):(shT d t).put a=shT d (t.put a):=by
 unfold TnS.put;show TnS.mk ((shC d t.cp).rv a 4160).1 _ _ _ _ _ _=TnS.mk (shC d (t.cp.rv a 4160).1) _ _ _ _ _ _;rw [sh_rv];rfl
theorem sh_getT(k:Nat)(b:List UInt8):(shT d t).get k b=shT d (t.get k b):=by
 unfold TnS.get;show TnS.mk ((shC d t.cp).gr (t.getA k)) _ _ _ _ _ _=TnS.mk (shC d (t.cp.gr (t.getA k))) _ _ _ _ _ _;rw [sh_gr];rfl
theorem sh_getR(ok:CpOk t.cp)(hx:t.cp.next+d<17592186044416)(n:Int) :
  (shT d t).getR n=(⟨shH d (t.getR n).1.h,(t.getR n).1.addr,(t.getR n).1.err⟩,shT d (t.getR n).2)∧HOk d (t.getR n).1.h:=by
 unfold TnS.getR;show (if kindT n<0 then _ else if t.qb<t.cb+chargeT n then _ else _)=_∧_
 split
 ·exact⟨rfl,.inl rfl⟩
 split
 ·exact⟨rfl,.inl rfl⟩
 ·obtain⟨a,b⟩:=grH_sh ok hx
  refine⟨?_,b⟩;rw [sh_getT];show ((⟨(shC d t.cp).grH,_,0⟩:GetA),_)=_;rw [a];rfl
theorem sh_ask(ok:CpOk t.cp)(hx:t.cp.next+d<17592186044416){x:OpS}(hh:HOk d x.H) :
  (shT d t).ask {x with H:=shH d x.H}=(shA d (t.ask x).1,shT d (t.ask x).2)∧HOk d (t.ask x).1.h:=by
 obtain⟨K,T,N,M,H,sd⟩:=x;simp only at hh ⊢;have hf:=fun r=>sh_find (cp:=t.cp) hh r
 unfold TnS.ask;simp only;by_cases c4:K=4
 ·rw [if_pos c4,if_pos c4]
  unfold TnS.malloc;obtain⟨a,b⟩:=sh_getR ok hx N;rw [a];exact⟨rfl,b⟩
 rw [if_neg c4,if_neg c4];by_cases c5:K=5
 ·rw [if_pos c5,if_pos c5]
  unfold TnS.calloc
  split
  ·unfold TnS.malloc
   obtain⟨a,b⟩:=sh_getR ok hx (N*M);rw [a];exact⟨rfl,b⟩
  ·exact⟨rfl,.inl rfl⟩
 rw [if_neg c5,if_neg c5];by_cases c6:K=6
 ·rw [if_pos c6,if_pos c6]
  unfold TnS.free;show (if ((shC d t.cp).findF (shH d H) 4).2=0 then _ else _)=_∧_;rw [show (shT d t).cp=shC d t.cp from rfl,hf 4]
  split
  ·rw [sh_put];exact⟨rfl,.inl rfl⟩
  ·exact⟨rfl,.inl rfl⟩
 rw [if_neg c6,if_neg c6];by_cases c7:K=7
 ·rw [if_pos c7,if_pos c7]
  unfold TnS.realloc;rw [show (shT d t).cp=shC d t.cp from rfl,hf 4]
  split
  ·exact⟨rfl,.inl rfl⟩
  split
  ·exact⟨rfl,.inl rfl⟩
  split
  ·exact⟨rfl,hh⟩
  show (if t.qb<t.cb+chargeT N then _ else _)=_∧_
  split
  ·exact⟨rfl,.inl rfl⟩
  ·obtain⟨a,b⟩:=grH_sh ok hx
   refine⟨?_,b⟩;rw [sh_getT];have e:∀(u:TnS) (p:Int) (l:List UInt8),(shT d u).setOb p l=shT d (u.setOb p l):=fun _ _ _=>rfl
   rw [e,sh_put,a];rfl
 rw [if_neg c7,if_neg c7];by_cases c8:K=8
 ·rw [if_pos c8,if_pos c8]
  unfold TnS.usable;rw [show (shT d t).cp=shC d t.cp from rfl,hf 0]
  split<;>exact⟨rfl,.inl rfl⟩
 rw [if_neg c8,if_neg c8];have hspan:∀r a b,(shT d t).spanR (shH d H) r a b=t.spanR H r a b:=fun r a b=>by
  unfold TnS.spanR;rw [show (shT d t).cp=shC d t.cp from rfl,hf r];rfl
 by_cases c9:K=9
 ·rw [if_pos c9,if_pos c9]
  unfold TnS.read;rw [hspan,show (shT d t).cp=shC d t.cp from rfl,hf 1]
  split<;>exact⟨rfl,.inl rfl⟩
 rw [if_neg c9,if_neg c9];by_cases c10:K=10
 ·rw [if_pos c10,if_pos c10]
  unfold TnS.write;rw [hspan,show (shT d t).cp=shC d t.cp from rfl,hf 2]
  split<;>exact⟨rfl,.inl rfl⟩
 rw [if_neg c10,if_neg c10];unfold TnS.restrict;obtain⟨a,b,c⟩:=sh_rest ok hx hh N;rw [show (shT d t).cp=shC d t.cp from rfl,a];refine⟨?_,c⟩;unfold TnS.restF;rw [show (shT d t).cp=shC d t.cp from rfl,b];rfl
end
structure Ahead(d i:Nat)(s s':AdS):Prop where
 ex:∃t,s'.ts i=some t∧s.ts i=some (shT d t)
theorem Ahead.do_{d i:Nat}{s s':AdS}(h:Ahead d i s s'){x:OpS}(hK:4≤x.K∨rightO x.K x.T x.s=false)(hT:x.T=i)(hh:HOk d x.H)(hok:∀t,s'.ts i=some t→CpOk t.cp∧t.cp.next+d<17592186044416) :
  (s.do_ {x with H:=shH d x.H}).1=shA d (s'.do_ x).1∧Ahead d i (s.do_ {x with H:=shH d x.H}).2 (s'.do_ x).2∧HOk d (s'.do_ x).1.h:=by
 cases hr:rightO x.K x.T x.s with
 |false =>
  rw [do_bad hr,do_bad (x:={x with H:=shH d x.H}) hr];exact⟨rfl,h,.inl rfl⟩
 |true =>
  have hk:4≤x.K:=hK.elim id fun q=>by rw [hr] at q;cases q
  have hi:x.T.toNat=i:=by omega
  obtain⟨t,e1,e2⟩:=h.ex;have f:∀(s:AdS) (y:OpS),y.K=x.K→y.T=x.T→y.s=x.s→s.do_ y=(match s.ts i with
     |none=>(⟨6,0,0,0,ByteArray.empty,0⟩,s)
     |some t=>({(t.ask y).1 with ch:=(t.ask y).2.cb},s.set i (t.ask y).2)):=fun s y a b c=>by
   unfold AdS.do_;rw [a,b,c,if_pos hr,if_neg (by omega),if_neg (by omega),if_neg (by omega),hi];rfl
  rw [f s {x with H:=shH d x.H} rfl rfl rfl,f s' x rfl rfl rfl,e1,e2];obtain⟨ok,hx⟩:=hok t e1;obtain⟨a,b⟩:=sh_ask ok hx hh (t:=t);simp only;rw [a];exact⟨rfl,⟨_,up1_same,up1_same⟩,b⟩
end
section
open Go.RowKit
attribute [local irreducible] smallT unitT kindT perT pagesT alignT chargeT
@[irreducible] def askN (K N M:Int):Int:=if K=4∨K=7 then N else if K=5∧1≤N∧1≤M∧N*M≤8192 then N*M else 0
@[irreducible] def askT (r:Bool) (n:Int):Int:=if r=true∧1≤n∧n≤8192 then n else 0
theorem askT_no(n:Int):askT false n=0:=by unfold askT;rw [if_neg (by simp)]
theorem askT_in{n:Int}(h0:1≤n)(h1:n≤8192):askT true n=n:=by unfold askT;rw [if_pos ⟨rfl,h0,h1⟩]
theorem askT_out{n:Int}(h:n<1∨8192<n):askT true n=0:=by unfold askT;rw [if_neg (by omega)]
theorem askT_bound(r:Bool)(n:Int):0≤askT r n∧askT r n≤8192:=by
 unfold askT;split<;>omega
end
section
open Go.RowKit Flt
attribute [local irreducible] CpS.rv smallT unitT kindT perT pagesT alignT
section
variable{B:List UInt8}{cm:CmS}{win:List Int}{tb:TbS}{t:TnS}
theorem kind_no{n:Int}:kindT n<0↔n<1∨8192<n:=by
 constructor
 ·intro h
  by_cases c:n<1∨8192<n
  ·exact c
  ·have:=unit_kind (n:=n) (by omega) (by omega);omega
 ·intro h;rw [kind_out h];decide
theorem mul_fits{k n:Int}:(1≤k∧1≤n∧k≤(8192:Int).tdiv n)↔(1≤k∧1≤n∧k*n≤8192):=by
 refine and_congr_right fun hk=>and_congr_right fun hn=>?_
 rw [Int.tdiv_eq_ediv_of_nonneg (by decide)];exact Int.le_ediv_iff_mul_le (by omega)
end
end
section
open Go.RowKit Flt
attribute [local irreducible] CpS.rv smallT unitT kindT perT pagesT alignT
theorem look_iff{cp:CpS}{h:Nat}{x:Slot}:cp.look h=some x↔unOK h∧mGet cp.slots (unS h)=some x∧unT h=cp.tenant∧x.1=(unR h,unN h):=by
 unfold CpS.look;by_cases c:unOK h
 ·rw [if_pos c]
  cases e:mGet cp.slots (unS h) with
  |none=>simp
  |some y =>
   simp only [Option.bind_some];by_cases d:unT h=cp.tenant∧y.1=(unR h,unN h)
   ·rw [if_pos d]
    constructor
    ·intro q;obtain rfl:=Option.some.inj q;exact⟨c,rfl,d⟩
    ·rintro ⟨_,q,_⟩;exact q
   ·rw [if_neg d]
    constructor
    ·intro q;cases q
    ·rintro ⟨_,q,q2⟩;obtain rfl:=Option.some.inj q;exact absurd q2 d
 ·rw [if_neg c]
  exact⟨fun q=>(by cases q),fun q=>absurd q.1 c⟩
theorem h_ext{h h':Nat}(e1:unT h=unT h')(e2:unS h=unS h')(e3:unR h=unR h')(e4:unN h=unN h'):h=h':=by
 unfold unT at e1;unfold unS at e2;unfold unR at e3;unfold unN at e4;omega
structure CleanT(i:Int)(t:TnS)(M:List (Int×Int)):Prop where
 sl:∀k x,mGet t.cp.slots k=some x→(0≤k∧k<4096)∧x.1.1=7
 len:∀(h:Nat) n,mGet M (h:Int)=some n→unT h=i→unN h<t.cp.next∧∀x,t.cp.look h=some x→((t.bytes x.2).length:Int)=n
section
variable{i:Int}{t:TnS}{M M':List (Int×Int)}{B:List UInt8}{cm:CmS}{win:List Int}{tb:TbS}
theorem CleanT.mono(c:CleanT i t M)(h:∀(k:Nat) n,unT k=i→mGet M' (k:Int)=some n→mGet M (k:Int)=some n):CleanT i t M' :=
 ⟨c.sl,fun k n hk hi=>c.len k n (h k n hi hk) hi⟩
theorem bytes_ins_same(ok:TnOk B cm win tb t)(a:Int)(d:List UInt8):(t.setOb a d).bytes a=d:=by
 unfold TnS.bytes TnS.setOb;rw [mGet_ins_same ok.ob.rise];rfl
theorem bytes_ins_other{a b:Int}(d:List UInt8)(h:b≠a):(t.setOb a d).bytes b=t.bytes b:=by
 unfold TnS.bytes TnS.setOb;rw [mGet_ins_other h]
theorem CleanT.setOb(c:CleanT i t M){a:Int}{d:List UInt8}(hr:Rise t.ob)(hd:d.length=(t.bytes a).length):CleanT i (t.setOb a d) M:=by
 refine⟨c.sl,fun h n hm hi=>?_⟩;obtain⟨h1,h2⟩:=c.len h n hm hi;refine⟨h1,fun x hx=>?_⟩;have:=h2 x hx;by_cases e:x.2=a
 ·rw [e]
  have e2:(t.setOb a d).bytes a=d:=by unfold TnS.bytes TnS.setOb;rw [mGet_ins_same hr];rfl
  rw [e2,hd,←e];exact this
 ·rw [bytes_ins_other d e];exact this
theorem look_rv(c:CleanT i t M)(hc:CpR t.cp (t.ob.map (·.1)))(a:Int)(h:Nat)(x:Slot):(t.put a).cp.look h=some x↔t.cp.look h=some x∧x.2≠a:=by
 obtain⟨h1,h2,h3,h4⟩:=rv_look hc.rise hc.ok.obj a 4160;obtain⟨n1,n2⟩:=rv_next t.cp a 4160;have e:(t.put a).cp=(t.cp.rv a 4160).1:=rfl;rw [look_iff,look_iff,e,n2,h3];constructor
 ·rintro ⟨p1,p2,p3⟩
  split at p2
  ·cases p2
  ·rename_i q
   refine⟨⟨p1,p2,p3⟩,fun ha=>q ⟨?_,?_⟩⟩
   ·have:=(c.sl _ _ p2).1;omega
   ·refine hit_iff.2 ⟨x,?_,ha⟩
    have:=(c.sl _ _ p2).1;rw [Int.toNat_of_nonneg (by omega)];exact p2
 ·rintro ⟨⟨p1,p2,p3⟩,ha⟩
  refine⟨p1,?_,p3⟩;rw [if_neg]
  ·exact p2
  ·rintro ⟨q1,q2⟩
   obtain⟨y,hy,hya⟩:=hit_iff.1 q2;rw [Int.toNat_of_nonneg q1.1,p2] at hy;obtain rfl:=Option.some.inj hy;exact ha hya
theorem bytes_del_other{a b:Int}(h:b≠a):(t.put a).bytes b=t.bytes b:=by
 unfold TnS.bytes TnS.put;simp only;rw [mGet_del_other h]
theorem CleanT.put(c:CleanT i t M)(hc:CpR t.cp (t.ob.map (·.1)))(a:Int):CleanT i (t.put a) M:=by
 obtain⟨h1,h2,h3,h4⟩:=rv_look hc.rise hc.ok.obj a 4160;obtain⟨n1,n2⟩:=rv_next t.cp a 4160;refine⟨fun k x hk=>?_,fun h n hm hi=>?_⟩
 ·rw [show (t.put a).cp=(t.cp.rv a 4160).1 from rfl,h3] at hk
  split at hk
  ·cases hk
  ·exact c.sl _ _ hk
 ·obtain⟨g1,g2⟩:=c.len h n hm hi
  refine⟨?_,fun x hx=>?_⟩
  ·rw [show (t.put a).cp=(t.cp.rv a 4160).1 from rfl,n1];exact g1
  ·obtain⟨p1,p2⟩:=(look_rv c hc a h x).1 hx
   rw [bytes_del_other p2];exact g2 x p1
theorem look_one(c:CleanT i t M)(hc:CpR t.cp (t.ob.map (·.1))){h h':Nat}{x x':Slot}(e:t.cp.look h=some x)(e':t.cp.look h'=some x')(ha:x.2=x'.2):h=h':=by
 obtain⟨a1,a2,a3,a4⟩:=look_iff.1 e;obtain⟨b1,b2,b3,b4⟩:=look_iff.1 e';have c1:=(c.sl _ _ a2).1;have c2:=(c.sl _ _ b2).1;have hs:=hc.one (unS h).toNat (unS h').toNat x x' (by omega) (by omega) (by rw [Int.toNat_of_nonneg c1.1];exact a2) (by rw [Int.toNat_of_nonneg c2.1];exact b2) ha;have hs2:unS h=unS h':=by omega
 rw [hs2,b2] at a2;obtain rfl:=Option.some.inj a2;rw [a4] at b4;exact h_ext (a3.trans b3.symm) hs2 (Prod.mk.inj b4).1 (Prod.mk.inj b4).2
theorem CleanT.get(c:CleanT i t M)(hi:t.cp.tenant=i)(hM:Rise M)(hob:Rise t.ob)(hc:CpR t.cp (t.ob.map (·.1)))(hK:(t.ob.map (·.1)).length<4096){k:Nat}(ha:t.getA k∉t.ob.map (·.1))(h0:0≤t.getA k)(hx:t.cp.next<17592186044416)(d:List UInt8) :
  CleanT i (t.get k d) (mIns (t.cp.grH:Int) d.length M)∧(t.get k d).cp.look t.cp.grH=some ((7,t.cp.next),t.getA k)∧mGet M (t.cp.grH:Int)=none∧(t.get k d).bytes (t.getA k)=d∧unT t.cp.grH=i:=by
 obtain⟨_,g2,g3,g4,g5,g6,g7⟩:=hc.grant hK ha h0 hx;have hl:=low_bound hc.ok.obj (by decide);have hlk:=look_iff.1 g5;have hT:unT t.cp.grH=i:=hlk.2.2.1.trans (g4.trans hi);have hN:unN t.cp.grH=t.cp.next:=(Prod.mk.inj hlk.2.2.2).2.symm;have hb:(t.get k d).bytes (t.getA k)=d:=by
  unfold TnS.bytes TnS.get;simp only;rw [mGet_ins_same hob];rfl
 have hno:mGet M (t.cp.grH:Int)=none:=by
  cases e:mGet M (t.cp.grH:Int) with
  |none=>rfl
  |some n =>
   have:=(c.len _ n e hT).1;omega
 refine⟨⟨fun j x hj=>?_,fun h n hm hh=>?_⟩,g5,hno,hb,hT⟩
 ·rw [show (t.get k d).cp.slots=mIns (CpS.base true+(t.cp.obj.low.getD 0:Nat)) ((7,t.cp.next),t.getA k) t.cp.slots from rfl] at hj
  by_cases e:j=CpS.base true+(t.cp.obj.low.getD 0:Nat)
  ·rw [e,mGet_ins_same hc.rise] at hj
   obtain rfl:=Option.some.inj hj;have hb0:CpS.base true=0:=rfl;exact⟨by omega,rfl⟩
  ·rw [mGet_ins_other e] at hj
   exact c.sl _ _ hj
 ·rw [show (t.get k d).cp.next=t.cp.next+1 from g3]
  by_cases e:(h:Int)=(t.cp.grH:Int)
  ·have e2:h=t.cp.grH:=by omega
   subst e2;rw [mGet_ins_same hM] at hm;obtain rfl:=Option.some.inj hm;refine⟨by omega,fun x hx=>?_⟩;rw [show (t.get k d).cp.look t.cp.grH=some ((7,t.cp.next),t.getA k) from g5] at hx;obtain rfl:=Option.some.inj hx;rw [hb]
  ·rw [mGet_ins_other e] at hm
   obtain⟨q1,q2⟩:=c.len h n hm hh;refine⟨by omega,fun x hx=>?_⟩;obtain⟨p1,p2,p3,p4⟩:=look_iff.1 hx;rw [show (t.get k d).cp.slots=mIns (CpS.base true+(t.cp.obj.low.getD 0:Nat)) ((7,t.cp.next),t.getA k) t.cp.slots from rfl] at p2;by_cases e3:unS h=CpS.base true+(t.cp.obj.low.getD 0:Nat)
   ·rw [e3,mGet_ins_same hc.rise] at p2
    obtain rfl:=Option.some.inj p2;have:=(Prod.mk.inj p4).2;omega
   ·rw [mGet_ins_other e3] at p2
    have hx0:t.cp.look h=some x:=look_iff.2 ⟨p1,p2,p3.trans g4,p4⟩;have hmem:=look_mem hc hx0;have hne:x.2≠t.getA k:=fun q=>ha (q▸hmem)
    have hbb:(t.get k d).bytes x.2=t.bytes x.2:=by
     unfold TnS.bytes TnS.get;simp only;rw [mGet_ins_other hne]
    rw [hbb];exact q2 x hx0
theorem keys_sum{ob ob':List (Int×List UInt8)}(h:ob'.map (·.1)=ob.map (·.1)):obsum ob'=obsum ob:=by
 unfold obsum;have e:∀l:List (Int×List UInt8),(l.map fun y=>unitT (kdT y.1))=(l.map (·.1)).map fun a=>unitT (kdT a):=fun l=>by rw [List.map_map];rfl
 rw [e,e,h]
theorem fresh_get(ok:TnOk B cm win tb t){k:Nat}(hk:0<unitT k){d:List UInt8}(hs:obsum (mIns (t.getA k) d t.ob)=t.cb+unitT k):t.getA k∉t.ob.map (·.1):=by
 intro hm;obtain⟨y,hy,e⟩:=List.mem_map.1 hm;have hg:=mGet_of ok.ob.rise (k:=y.1) (v:=y.2) hy;rw [e] at hg;have h1:=keys_sum (mIns_keys ok.ob.rise hg d);have h2:=ok.sum;omega
theorem fresh_move(ok:TnOk B cm win tb t){k:Nat}(hk:0<unitT k){d d':List UInt8}{a:Int}{d0:List UInt8}(hd:mGet t.ob a=some d0)(hs:obsum (mDel a (mIns (t.getA k) d' (mIns (t.getA k) d t.ob)))=t.cb+unitT k-unitT (kdT a)):t.getA k∉t.ob.map (·.1):=by
 intro hm;obtain⟨y,hy,e⟩:=List.mem_map.1 hm;have hg:=mGet_of ok.ob.rise (k:=y.1) (v:=y.2) hy;rw [e] at hg;have r1:=mIns_rise ok.ob.rise (t.getA k) d;have k1:=mIns_keys ok.ob.rise hg d;have k2:=mIns_keys r1 (mGet_ins_same ok.ob.rise (t.getA k) d) d';have h1:=keys_sum (k2.trans k1);have h2:=ok.sum;have hex:∃e0,mGet (mIns (t.getA k) d' (mIns (t.getA k) d t.ob)) a=some e0:=by
  by_cases c:a=t.getA k
  ·exact⟨d',by rw [c,mGet_ins_same r1]⟩
  ·exact⟨d0,by rw [mGet_ins_other c,mGet_ins_other c];exact hd⟩
 obtain⟨e0,he0⟩:=hex;have h3:=obsum_del he0;omega
theorem TnOk.cnt(ok:TnOk B cm win tb t){k:Nat}(hk:0<unitT k)(hq:t.cb+unitT k≤t.qb):(t.ob.map (·.1)).length<4096:=by
 have h1:=ok.few;have h2:=may_iff.1 ok.may;rw [List.length_map];omega
theorem getA_pos(ok:TnOk B cm win tb t){k:Nat}{d:List UInt8}{s':TnS}{B':List UInt8}{cm':CmS}{win':List Int}{tb':TbS}(ok':TnOk B' cm' win' tb' s')(h:∃e,mGet s'.ob (t.getA k)=some e):0≤t.getA k:=by
 obtain⟨e,he⟩:=h;obtain⟨k2,s2,j2,e2,hh,_⟩:=ok'.ob.at_ _ _ he;have:=pos_nonneg hh.1;omega
end
def Reads(s:AdS)(T:Int)(h:Nat)(fr n:Int):Prop:=∃ch,s.do_ ⟨9,T,fr,n,h,ByteArray.empty⟩=(⟨0,0,0,0,baL (List.replicate n.toNat 0),ch⟩,s)
theorem do_ask{s:AdS}{x:OpS}(hr:rightO x.K x.T x.s=true)(h4:4≤x.K):s.do_ x=(match s.ts x.T.toNat with
   |none=>(⟨6,0,0,0,ByteArray.empty,0⟩,s)
   |some t=>({(t.ask x).1 with ch:=(t.ask x).2.cb},s.set x.T.toNat (t.ask x).2)):=by
 unfold AdS.do_;rw [if_pos hr,if_neg (by omega),if_neg (by omega),if_neg (by omega)];rfl
theorem ts_same{s:AdS}{i:Nat}{t:TnS}(h:s.ts i=some t):s.set i t=s:=by unfold AdS.set;rw [up1_fun h]
theorem reads_of{s:AdS}{T:Int}{t:TnS}{h:Nat}{fr n:Int}{a:Int}{r m:Int}(hT:0≤T∧T≤7)(ht:s.ts T.toNat=some t)(hl:t.cp.look h=some ((r,m),a))(h7:r=7)(h0:0≤fr)(h1:0≤n)(h2:fr+n≤(t.bytes a).length)(hz:((t.bytes a).drop fr.toNat).take n.toNat=List.replicate n.toNat 0):Reads s T h fr n:=by
 subst h7;have hf:t.cp.findF h 1=(a,0):=by
  unfold CpS.findF;rw [hl];simp only;rw [if_pos ⟨by decide,by decide⟩]
 refine⟨t.cb,?_⟩;rw [do_ask (x:=⟨9,T,fr,n,h,ByteArray.empty⟩) (right_iff.2 ⟨by simp,by simp,hT.1,hT.2,by simp,.inr rfl⟩) (by simp)];simp only;rw [ht];have e:t.ask ⟨9,T,fr,n,h,ByteArray.empty⟩=t.read h fr n:=rfl;have hs:(t.spanR h 1 fr n).2=0:=by
  unfold TnS.spanR;rw [hf,if_pos rfl,if_pos ⟨h0,h1,h2⟩]
 have e2:t.read h fr n=(⟨0,0,0,0,baL (List.replicate n.toNat 0),t.cb⟩,t):=by
  unfold TnS.read;rw [if_pos hs,hf,hz]
 simp only;rw [e,e2];simp only;rw [ts_same ht]
structure CleanI(s:AdS)(M:List (Int×Int)):Prop where
 rise:Rise M
 live:∀(i:Nat) t,i<8→s.ts i=some t→CleanT i t M
 dead:∀i:Nat,i<8→s.ts i=none→∀(h:Nat) n,mGet M (h:Int)=some n→unT h=i→unN h<s.ser i
theorem CleanI.new(P C:Nat):CleanI (AdS.new P C) []:=⟨List.Pairwise.nil,fun i t _ h=>(by cases h),fun i _ _ h n hm=>(by cases hm)⟩
section
variable{s:AdS}{M M':List (Int×Int)}{i:Nat}{t t':TnS}{B B':List UInt8}{cm cm':CmS}{p p':PoS}{tbs tbs':Nat→TbS}
theorem CleanI.set(c:CleanI s M)(hi:i<8)(hM:Rise M')(ht:CleanT i t' M')(ho:∀(h:Nat) n,unT h≠i→mGet M' (h:Int)=some n→mGet M (h:Int)=some n):CleanI (s.set i t') M':=by
 refine⟨hM,fun j u hj hu=>?_,fun j hj hu h n hm hh=>?_⟩
 ·by_cases e:j=i
  ·subst e
   rw [show (s.set j t').ts j=some t' from up1_same] at hu;obtain rfl:=Option.some.inj hu;exact ht
  ·rw [show (s.set i t').ts j=s.ts j from up1_other e] at hu
   exact(c.live j u hj hu).mono fun k n hk hm=>ho k n (by rw [hk];omega) hm
 ·by_cases e:j=i
  ·subst e
   rw [show (s.set j t').ts j=some t' from up1_same] at hu;cases hu
  ·rw [show (s.set i t').ts j=s.ts j from up1_other e] at hu
   exact c.dead j hj hu h n (ho h n (by rw [hh];omega) hm) hh
theorem CleanI.mono(c:CleanI s M)(hM:Rise M')(h:∀(k:Nat) n,mGet M' (k:Int)=some n→mGet M (k:Int)=some n):CleanI s M' :=
 ⟨hM,fun j u hj hu=>(c.live j u hj hu).mono fun k n _ hm=>h k n hm,fun j hj hu k n hm hk=>c.dead j hj hu k n (h k n hm) hk⟩
theorem del_sub(hM:Rise M)(h:Int)(k:Int)(n:Int)(e:mGet (mDel h M) k=some n):k≠h∧mGet M k=some n:=by
 by_cases c:k=h
 ·subst c;rw [mGet_del_same hM] at e;cases e
 ·rw [mGet_del_other c] at e;exact⟨c,e⟩
theorem CleanI.del(c:CleanI s M)(h:Int):CleanI s (mDel h M):=c.mono (mDel_rise c.rise h) fun k n hm=>(del_sub c.rise h k n hm).2
theorem ask_refused{x:OpS}(h:(t.ask x).1.err≠0):(t.ask x).2=t:=by
 unfold TnS.ask at h ⊢;have hg:∀n,(t.getR n).1.err≠0→(t.getR n).2=t:=fun n hn=>by
  unfold TnS.getR at hn ⊢
  split
  ·rfl
  ·rename_i c1
   rw [if_neg c1] at hn
   split
   ·rfl
   ·rename_i c2
    rw [if_neg c2] at hn;exact absurd rfl hn
 split at h
 ·rename_i c;rw [if_pos c];exact hg _ h
 rename_i c4;rw [if_neg c4]
 split at h
 ·rename_i c;rw [if_pos c]
  unfold TnS.calloc at h ⊢
  split at h
  ·rename_i c2;rw [if_pos c2];exact hg _ h
  ·rename_i c2;rw [if_neg c2]
 rename_i c5;rw [if_neg c5]
 split at h
 ·rename_i c;rw [if_pos c]
  unfold TnS.free at h ⊢
  split at h
  ·exact absurd rfl h
  ·rename_i c2;rw [if_neg c2]
 rename_i c6;rw [if_neg c6]
 split at h
 ·rename_i c;rw [if_pos c]
  unfold TnS.realloc at h ⊢
  split at h
  ·rename_i c2;rw [if_pos c2]
  rename_i d1;rw [if_neg d1]
  split at h
  ·rename_i c2;rw [if_pos c2]
  rename_i d2;rw [if_neg d2]
  split at h
  ·exact absurd rfl h
  rename_i d3;rw [if_neg d3]
  split at h
  ·rename_i c2;rw [if_pos c2]
  ·exact absurd rfl h
 rename_i c7;rw [if_neg c7]
 split at h
 ·rename_i c;rw [if_pos c]
  unfold TnS.usable
  split<;>rfl
 rename_i c8;rw [if_neg c8]
 split at h
 ·rename_i c;rw [if_pos c]
  unfold TnS.read
  split<;>rfl
 rename_i c9;rw [if_neg c9]
 split at h
 ·rename_i c;rw [if_pos c]
  unfold TnS.write at h ⊢
  split at h
  ·exact absurd rfl h
  ·rename_i c2;rw [if_neg c2]
 rename_i c10;rw [if_neg c10];show t.restF _ _=t;have h2:(t.cp.restA x.H x.N).2≠0:=h;have:(t.cp.restF x.H x.N).2=t.cp:=by
  unfold CpS.restA at h2;unfold CpS.restF;cases e:t.cp.look x.H with
  |none=>rfl
  |some y =>
   rw [e] at h2;simp only at h2 ⊢
   split
   ·rfl
   ·rename_i d1
    rw [if_neg d1] at h2
    split
    ·rename_i d2
     rw [if_pos d2] at h2;unfold CpS.putA at h2;unfold CpS.putF
     split
     ·rfl
     ·rename_i d3
      rw [if_neg d3] at h2;cases e2:(t.cp.sh false).low with
      |none=>rfl
      |some k=>rw [e2] at h2;exact absurd rfl h2
    ·rfl
 unfold TnS.restF;rw [this]
theorem do_refused{x:OpS}(h:(s.do_ x).1.err≠0):(s.do_ x).2=s:=by
 cases hr:rightO x.K x.T x.s with
 |false=>rw [do_bad hr]
 |true =>
  have hb:=right_iff.1 hr;by_cases h4:4≤x.K
  ·rw [do_ask hr h4] at h ⊢
   cases e:s.ts x.T.toNat with
   |none=>rfl
   |some t =>
    rw [e] at h;simp only at h ⊢;rw [ask_refused h,ts_same e]
  ·unfold AdS.do_ at h ⊢
   rw [if_pos hr] at h ⊢
   split at h
   ·rename_i c;rw [if_pos c]
    unfold AdS.create at h ⊢
    split at h
    ·rename_i c2;rw [if_pos c2]
    rename_i d1;rw [if_neg d1]
    split at h
    ·rename_i c2;rw [if_pos c2]
    rename_i d2;rw [if_neg d2]
    split at h
    ·rename_i c2;rw [if_pos c2]
    rename_i d3;rw [if_neg d3]
    split at h
    ·rename_i c2;rw [if_pos c2]
    ·exact absurd rfl h
   rename_i c1;rw [if_neg c1]
   split at h
   ·rename_i c;rw [if_pos c]
    unfold AdS.resize at h ⊢;cases e:s.ts x.T.toNat with
    |none=>rfl
    |some t =>
     rw [e] at h;simp only at h ⊢
     split at h
     ·rename_i c2;rw [if_pos c2]
     rename_i d2;rw [if_neg d2]
     split at h
     ·rename_i c2;rw [if_pos c2]
     rename_i d3;rw [if_neg d3]
     split at h
     ·rename_i c2;rw [if_pos c2]
     ·exact absurd rfl h
   rename_i c2;rw [if_neg c2]
   split at h
   ·rename_i c;rw [if_pos c]
    unfold AdS.destroy at h ⊢;cases e:s.ts x.T.toNat with
    |none=>rfl
    |some t =>
     rw [e] at h;exact absurd rfl h
   ·exfalso;clear h;omega
end
structure CleanRes(s:AdS)(x:OpS)(M:List (Int×Int))(s':AdS)(y:Ans):Prop where
 mal:x.K=4∨x.K=5→mGet M (y.h:Int)=none∧Reads s' x.T y.h 0 (askT true (askN x.K x.N x.M))∧CleanI s' (mIns (y.h:Int) (askT true (askN x.K x.N x.M)) M)
 rea:x.K=7→(∀was,mGet M (x.H:Int)=some was→0≤was∧x.N≤8192∧(was<x.N→Reads s' x.T y.h was (x.N-was))∧CleanI s' (mIns (y.h:Int) x.N (mDel (x.H:Int) M)))∧(mGet M (x.H:Int)=none→CleanI s' (mDel (x.H:Int) M))
 fre:x.K=6→CleanI s' (mDel (x.H:Int) M)
 oth:x.K≠4→x.K≠5→x.K≠6→x.K≠7→x.K≠11→CleanI s' M
theorem sized_tail{d:List UInt8}{n:Nat}(h:d.length≤n):(sized d n).drop d.length=List.replicate (n-d.length) 0:=by
 unfold sized;rw [List.take_of_length_le h,List.drop_left]
section
variable{s:AdS}{M:List (Int×Int)}{i:Nat}{t:TnS}{B B':List UInt8}{cm cm':CmS}{p p':PoS}{tbs tbs':Nat→TbS}
theorem kind_pos{n:Int}(h0:1≤n)(h1:n≤8192):((kindT n).toNat:Int)=kindT n∧0<unitT ((kindT n).toNat:Nat):=by
 have a:=unit_kind h0 h1;have e:((kindT n).toNat:Int)=kindT n:=Int.toNat_of_nonneg a.1;refine⟨e,?_⟩;rw [e];have:=kind_facts a.1 a.2.1;omega
theorem clean_get(c:CleanI s M)(hok:AdOk B cm p tbs s){K:Nat}(hx:s.nx K)(hK:K≤1000000)(hi:i<8)(ht:s.ts i=some t){n:Int}(he:(t.getR n).1.err=0)(hok':AdOk B' cm' p' tbs' (s.set i (t.getR n).2)) :
  1≤n∧n≤8192∧mGet M ((t.getR n).1.h:Int)=none∧Reads (s.set i (t.getR n).2) i (t.getR n).1.h 0 n∧CleanI (s.set i (t.getR n).2) (mIns ((t.getR n).1.h:Int) n M):=by
 by_cases h1:kindT n<0
 ·unfold TnS.getR at he;rw [if_pos h1] at he;exact absurd he (by simp)
 have hb:1≤n∧n≤8192:=by
  have:=mt kind_no.2 h1;omega
 obtain⟨k1,k2⟩:=kind_pos hb.1 hb.2;by_cases h2:t.qb<t.cb+chargeT n
 ·unfold TnS.getR at he;rw [if_neg h1,if_pos h2] at he;exact absurd he (by simp)
 have e:t.getR n=(⟨t.cp.grH,t.getA (kindT n).toNat,0⟩,t.get (kindT n).toNat (List.replicate n.toNat 0)):=by unfold TnS.getR;rw [if_neg h1,if_neg h2]
 rw [e] at hok' ⊢;simp only at hok' ⊢;obtain⟨ok,o2,_⟩:=hok.tn i t hi ht;have hts:(s.set i (t.get (kindT n).toNat (List.replicate n.toNat 0))).ts i=some (t.get (kindT n).toNat (List.replicate n.toNat 0)):=up1_same;obtain⟨ok',_,_⟩:=hok'.tn i _ hi hts;have hf:=fresh_get ok (d:=List.replicate n.toNat 0) k2 ok'.sum;have hq:t.cb+unitT ((kindT n).toNat:Nat)≤t.qb:=by rw [k1];unfold chargeT at h2;omega
 have h0:=getA_pos (d:=[]) ok ok' (k:=(kindT n).toNat) ⟨_,mGet_ins_same ok.ob.rise _ _⟩;have hn:=(hx i hi).2 t ht;obtain⟨a1,a2,a3,a4,a5⟩:=(c.live i t hi ht).get (by rw [o2]) c.rise ok.ob.rise ok.cp (ok.cnt k2 hq) hf h0 (by omega) (List.replicate n.toNat 0);have el:(((List.replicate n.toNat (0:UInt8)).length:Nat):Int)=n:=by rw [List.length_replicate];omega
 rw [el] at a1;refine⟨hb.1,hb.2,a3,reads_of (by omega) (by rw [Int.toNat_natCast];exact hts) a2 rfl (Int.le_refl _) (by omega) (by rw [a4,el];omega) (by rw [a4];simp),c.set hi (mIns_rise c.rise _ _) a1 fun h m hne hm=>?_⟩;by_cases q:(h:Int)=(t.cp.grH:Int)
 ·have:h=t.cp.grH:=by omega
  subst this;exact absurd a5 hne
 ·rw [mGet_ins_other q] at hm;exact hm
theorem clean_realloc(c:CleanI s M)(hok:AdOk B cm p tbs s){K:Nat}(hx:s.nx K)(hK:K≤1000000)(hi:i<8)(ht:s.ts i=some t){h:Nat}{n:Int}(he:(t.realloc h n).1.err=0)(hok':AdOk B' cm' p' tbs' (s.set i (t.realloc h n).2)) :
  (∀was,mGet M (h:Int)=some was→0≤was∧n≤8192∧(was<n→Reads (s.set i (t.realloc h n).2) i (t.realloc h n).1.h was (n-was))∧CleanI (s.set i (t.realloc h n).2) (mIns ((t.realloc h n).1.h:Int) n (mDel (h:Int) M)))∧(mGet M (h:Int)=none→CleanI (s.set i (t.realloc h n).2) (mDel (h:Int) M)):=by
 have cl:=c.live i t hi ht;obtain⟨ok,o2,_⟩:=hok.tn i t hi ht;have hn:=(hx i hi).2 t ht;by_cases h1:(t.cp.findF h 4).2≠0
 ·unfold TnS.realloc at he;rw [if_pos h1] at he;exact absurd he h1
 have h1':(t.cp.findF h 4).2=0:=Decidable.not_not.1 h1;obtain⟨d,hd⟩:=find_ob ok h1';have hlk:∃x,t.cp.look h=some x∧x.2=(t.cp.findF h 4).1:=by
  unfold CpS.findF at h1' ⊢;cases e:t.cp.look h with
  |none=>rw [e] at h1';simp at h1'
  |some x =>
   rw [e] at h1';simp only at h1' ⊢
   split at h1'
   ·rename_i q;rw [if_pos q];exact⟨x,rfl,rfl⟩
   ·simp at h1'
 obtain⟨⟨⟨r,m⟩,a⟩,hl,ha⟩:=hlk;simp only at ha;have hT:unT h=i:=(look_iff.1 hl).2.2.1.trans o2;have h7:r=7:=(cl.sl _ _ (look_iff.1 hl).2.1).2;have hbd:t.bytes a=d:=by unfold TnS.bytes;rw [ha,hd];rfl
 by_cases h2:kindT n<0
 ·unfold TnS.realloc at he;rw [if_neg h1,if_pos h2] at he;exact absurd he (by simp)
 have hb:1≤n∧n≤8192:=by
  have:=mt kind_no.2 h2;omega
 obtain⟨k1,k2⟩:=kind_pos hb.1 hb.2;by_cases h3:chargeT n≤unitT (kdT (t.cp.findF h 4).1)
 ·have e:t.realloc h n=(⟨0,h,a,0,ByteArray.empty,t.cb⟩,t.setOb a (sized d n.toNat)):=by unfold TnS.realloc;rw [if_neg h1,if_neg h2,if_pos h3,←ha,hbd]
  rw [e] at hok' ⊢;simp only at hok' ⊢;have hts:(s.set i (t.setOb a (sized d n.toNat))).ts i=some (t.setOb a (sized d n.toNat)):=up1_same;have hlen:(((sized d n.toNat).length:Nat):Int)=n:=by rw [sized_len];omega
  have hbs:(t.setOb a (sized d n.toNat)).bytes a=sized d n.toNat:=bytes_ins_same ok a _;have others:∀(h2:Nat) k,mGet M (h2:Int)=some k→unT h2=i→h2≠h→unN h2<t.cp.next∧∀x,t.cp.look h2=some x→(((t.setOb a (sized d n.toNat)).bytes x.2).length:Int)=k:=fun h2 k hm hh hne=>by
   obtain⟨q1,q2⟩:=cl.len h2 k hm hh;refine⟨q1,fun x hx2=>?_⟩;have:x.2≠a:=fun q=>hne (look_one cl ok.cp hx2 hl q)
   rw [bytes_ins_other _ this];exact q2 x hx2
  refine⟨fun was hw=>?_,fun hno=>c.set hi (mDel_rise c.rise _) ⟨cl.sl,fun h2 k hm hh=>?_⟩ fun h2 k _ hm=>(del_sub c.rise _ _ _ hm).2⟩
  ·have hwas:=(cl.len h was hw hT).2 _ hl
   simp only at hwas;rw [hbd] at hwas;refine⟨by omega,hb.2,fun hlt=>reads_of (t:=t.setOb a (sized d n.toNat)) (by omega) (by rw [Int.toNat_natCast];exact hts) hl h7 (by omega) (by omega) (by rw [hbs,hlen];omega) ?_,c.set hi (mIns_rise (mDel_rise c.rise _) _ _) ⟨cl.sl,fun h2 k hm hh=>?_⟩ fun h2 k hne hm=>?_⟩
   ·rw [hbs,show was.toNat=d.length by omega,sized_tail (by omega),show (n-was).toNat=n.toNat-d.length by omega]
    simp
   ·by_cases q:(h2:Int)=(h:Int)
    ·have:h2=h:=by omega
     subst this;rw [mGet_ins_same (mDel_rise c.rise _)] at hm;obtain rfl:=Option.some.inj hm;refine⟨(cl.len h2 was hw hT).1,fun x hx2=>?_⟩;have hx3:t.cp.look h2=some x:=hx2;rw [hl] at hx3;obtain rfl:=Option.some.inj hx3;simp only;rw [hbs];exact hlen
    ·rw [mGet_ins_other q] at hm
     exact others h2 k (del_sub c.rise _ _ _ hm).2 hh (by omega)
   ·by_cases q:(h2:Int)=(h:Int)
    ·have:h2=h:=by omega
     subst this;exact absurd hT hne
    ·rw [mGet_ins_other q] at hm;exact(del_sub c.rise _ _ _ hm).2
  ·obtain⟨q1,q2⟩:=del_sub c.rise _ _ _ hm
   exact others h2 k q2 hh (by omega)
 by_cases h4:t.qb<t.cb+chargeT n
 ·unfold TnS.realloc at he;rw [if_neg h1,if_neg h2,if_neg h3,if_pos h4] at he;exact absurd he (by simp)
 have hq:t.cb+unitT ((kindT n).toNat:Nat)≤t.qb:=by rw [k1];unfold chargeT at h4;omega
 obtain⟨u,hu⟩:∃u,u=(t.get (kindT n).toNat (List.replicate n.toNat 0)):=⟨_,rfl⟩
 have e:t.realloc h n=(⟨0,t.cp.grH,t.getA (kindT n).toNat,0,ByteArray.empty,((u.setOb (t.getA (kindT n).toNat) (sized d n.toNat)).put a).cb⟩,(u.setOb (t.getA (kindT n).toNat) (sized d n.toNat)).put a):=by
  unfold TnS.realloc;rw [if_neg h1,if_neg h2,if_neg h3,if_neg h4,←ha,hbd,hu]
 rw [e] at hok' ⊢;simp only at hok' ⊢;have hts:(s.set i ((u.setOb (t.getA (kindT n).toNat) (sized d n.toNat)).put a)).ts i=some ((u.setOb (t.getA (kindT n).toNat) (sized d n.toNat)).put a):=up1_same;obtain⟨ok',_,_⟩:=hok'.tn i _ hi hts;have hda:mGet t.ob a=some d:=by rw [ha];exact hd
 have hf:t.getA (kindT n).toNat∉t.ob.map (·.1):=by
  refine fresh_move ok k2 (d:=List.replicate n.toNat 0) (d':=sized d n.toNat) hda ?_;have:=ok'.sum;rw [hu] at this;exact this
 have hmem:a∈t.ob.map (·.1):=List.mem_map.2 ⟨(a,d),mGet_mem hda,rfl⟩;have hne:t.getA (kindT n).toNat≠a:=fun q=>hf (q▸hmem)
 have h0:0≤t.getA (kindT n).toNat:=by
  refine getA_pos (d:=[]) ok ok' ⟨sized d n.toNat,?_⟩;show mGet (mDel a (mIns (t.getA (kindT n).toNat) (sized d n.toNat) u.ob)) _=_;rw [mGet_del_other hne,mGet_ins_same];rw [hu];exact mIns_rise ok.ob.rise _ _
 obtain⟨a1,a2,a3,a4,a5⟩:=cl.get (by rw [o2]) c.rise ok.ob.rise ok.cp (ok.cnt k2 hq) hf h0 (by omega) (List.replicate n.toNat 0);have hcu:CpR u.cp ((u.setOb (t.getA (kindT n).toNat) (sized d n.toNat)).ob.map (·.1)):=by
  have g2:=(ok.cp.grant (ok.cnt k2 hq) hf h0 (by omega)).2.1;have ek:(u.setOb (t.getA (kindT n).toNat) (sized d n.toNat)).ob.map (·.1)=(mIns (t.getA (kindT n).toNat) (List.replicate n.toNat 0) t.ob).map (·.1):=by
   rw [hu];exact mIns_keys (mIns_rise ok.ob.rise _ _) (mGet_ins_same ok.ob.rise _ _) _
  rw [ek,hu];have hp2:mGet t.ob (t.getA (kindT n).toNat)=none:=by
   cases q:mGet t.ob (t.getA (kindT n).toNat) with
   |none=>rfl
   |some z=>exact absurd (List.mem_map.2 ⟨_,mGet_mem q,rfl⟩) hf
  have hp:=(mIns_new hp2 (List.replicate n.toNat 0)).map (·.1);exact g2.cong fun x hx2=>hp.symm.subset hx2
 rw [←hu] at a1 a2 a4;have hru:Rise u.ob:=by rw [hu];exact mIns_rise ok.ob.rise _ _
 have el:(((List.replicate n.toNat (0:UInt8)).length:Nat):Int)=n:=by rw [List.length_replicate];omega
 rw [el] at a1;have b1:=a1.setOb (a:=t.getA (kindT n).toNat) (d:=sized d n.toNat) hru (by rw [a4,sized_len,List.length_replicate]);have b2:=b1.put hcu a;have hl2:((u.setOb (t.getA (kindT n).toNat) (sized d n.toNat)).put a).cp.look t.cp.grH=some ((7,t.cp.next),t.getA (kindT n).toNat):=(look_rv b1 hcu a _ _).2 ⟨a2,hne⟩;have hbs:((u.setOb (t.getA (kindT n).toNat) (sized d n.toNat)).put a).bytes (t.getA (kindT n).toNat)=sized d n.toNat:=by
  rw [bytes_del_other hne];unfold TnS.bytes TnS.setOb;rw [mGet_ins_same hru];rfl
 have hlen:(((sized d n.toNat).length:Nat):Int)=n:=by rw [sized_len];omega
 refine⟨fun was hw=>?_,fun hno=>c.set hi (mDel_rise c.rise _) (b2.mono fun k m _ hm=>?_) fun h2 k _ hm=>(del_sub c.rise _ _ _ hm).2⟩
 ·have hwas:=(cl.len h was hw hT).2 _ hl
  simp only at hwas;rw [hbd] at hwas;refine⟨by omega,hb.2,fun hlt=>reads_of (by omega) (by rw [Int.toNat_natCast];exact hts) hl2 rfl (by omega) (by omega) (by rw [hbs,hlen];omega) ?_,c.set hi (mIns_rise (mDel_rise c.rise _) _ _) (b2.mono fun k m _ hm=>?_) fun h2 k hne2 hm=>?_⟩
  ·rw [hbs,show was.toNat=d.length by omega,sized_tail (by omega),show (n-was).toNat=n.toNat-d.length by omega]
   simp
  ·by_cases q:(k:Int)=(t.cp.grH:Int)
   ·rw [q,mGet_ins_same (mDel_rise c.rise _)] at hm
    rw [q,mGet_ins_same c.rise];exact hm
   ·rw [mGet_ins_other q] at hm
    rw [mGet_ins_other q];exact(del_sub c.rise _ _ _ hm).2
  ·by_cases q:(h2:Int)=(t.cp.grH:Int)
   ·have:h2=t.cp.grH:=by omega
    subst this;exact absurd a5 hne2
   ·rw [mGet_ins_other q] at hm;exact(del_sub c.rise _ _ _ hm).2
 ·have hm2:=(del_sub c.rise _ _ _ hm).2
  by_cases q:(k:Int)=(t.cp.grH:Int)
  ·rw [q,a3] at hm2;cases hm2
  ·rw [mGet_ins_other q];exact hm2
theorem clean_do(c:CleanI s M)(hok:AdOk B cm p tbs s){K:Nat}(hx:s.nx K)(hK:K≤1000000){x:OpS}(he:(s.do_ x).1.err=0)(hok':AdOk B' cm' p' tbs' (s.do_ x).2):CleanRes s x M (s.do_ x).2 (s.do_ x).1:=by
 cases hr:rightO x.K x.T x.s with
 |false=>rw [do_bad hr] at he;exact absurd he (by simp)
 |true =>
  have hb:=right_iff.1 hr;have hi:x.T.toNat<8:=by omega
  have hT:((x.T.toNat:Nat):Int)=x.T:=by omega
  by_cases h4:4≤x.K
  ·rw [do_ask hr h4] at he hok' ⊢
   cases e:s.ts x.T.toNat with
   |none=>rw [e] at he;exact absurd he (by simp)
   |some t =>
    rw [e] at he hok';simp only at he hok' ⊢;obtain⟨ok,o2,_⟩:=hok.tn _ t hi e;have cl:=c.live _ t hi e;obtain⟨k,T,N,M2,H,sd⟩:=x;simp only at he hok' hr h4 hi hT e o2 cl hb ⊢;have same:CleanI (s.set T.toNat t) M:=by rw [ts_same e];exact c
    obtain rfl|rfl|rfl|rfl|rfl|rfl|rfl|rfl:k=4∨k=5∨k=6∨k=7∨k=8∨k=9∨k=10∨k=11:=by omega
    ·have ea:t.ask ⟨4,T,N,M2,H,sd⟩=t.malloc N:=rfl
     rw [ea] at he hok' ⊢;obtain⟨g1,g2,g3,g4,g5⟩:=clean_get c hok hx hK hi e he hok';rw [hT] at g4;have hn:askT true (askN 4 N M2)=N:=by rw [show askN 4 N M2=N by unfold askN;rw [if_pos (.inl rfl)]];exact askT_in g1 g2
     exact⟨fun _=>by simp only;rw [hn];exact⟨g3,g4,g5⟩,fun q=>absurd q (by simp),fun q=>absurd q (by simp),fun q=>absurd rfl q⟩
    ·have ea:t.ask ⟨5,T,N,M2,H,sd⟩=t.calloc N M2:=rfl
     rw [ea] at he hok' ⊢;unfold TnS.calloc at he hok' ⊢;by_cases cc:1≤N∧1≤M2∧N≤(8192:Int).tdiv M2
     ·rw [if_pos cc] at he hok' ⊢
      obtain⟨g1,g2,g3,g4,g5⟩:=clean_get c hok hx hK hi e he hok';rw [hT] at g4;have hn:askT true (askN 5 N M2)=N*M2:=by rw [show askN 5 N M2=N*M2 by unfold askN;rw [if_neg (by decide),if_pos ⟨rfl,mul_fits.1 cc⟩]];exact askT_in g1 g2
      exact⟨fun _=>by simp only;rw [hn];exact⟨g3,g4,g5⟩,fun q=>absurd q (by simp),fun q=>absurd q (by simp),fun _ q=>absurd rfl q⟩
     ·rw [if_neg cc] at he;exact absurd he (by simp)
    ·have ea:t.ask ⟨6,T,N,M2,H,sd⟩=t.free H:=rfl
     rw [ea] at he hok' ⊢;refine⟨fun q=>absurd q (by simp),fun q=>absurd q (by simp),fun _=>?_,fun _ _ q=>absurd rfl q⟩;unfold TnS.free at he ⊢
     split at he
     ·rename_i q
      rw [if_pos q];exact c.set hi (mDel_rise c.rise _) ((cl.put ok.cp _).mono fun k n _ hm=>(del_sub c.rise _ _ _ hm).2) fun h n _ hm=>(del_sub c.rise _ _ _ hm).2
     ·rename_i q;exact absurd he q
    ·have ea:t.ask ⟨7,T,N,M2,H,sd⟩=t.realloc H N:=rfl
     rw [ea] at he hok' ⊢;have g:=clean_realloc c hok hx hK hi e he hok';rw [hT] at g;exact⟨fun q=>absurd q (by simp),fun _=>g,fun q=>absurd q (by simp),fun _ _ _ q=>absurd rfl q⟩
    ·have ea:t.ask ⟨8,T,N,M2,H,sd⟩=t.usable H:=rfl
     have e2:(t.usable H).2=t:=by unfold TnS.usable;split<;>rfl
     rw [ea,e2];exact⟨fun q=>absurd q (by simp),fun q=>absurd q (by simp),fun q=>absurd q (by simp),fun _ _ _ _ _=>same⟩
    ·have ea:t.ask ⟨9,T,N,M2,H,sd⟩=t.read H N M2:=rfl
     have e2:(t.read H N M2).2=t:=by unfold TnS.read;split<;>rfl
     rw [ea,e2];exact⟨fun q=>absurd q (by simp),fun q=>absurd q (by simp),fun q=>absurd q (by simp),fun _ _ _ _ _=>same⟩
    ·have ea:t.ask ⟨10,T,N,M2,H,sd⟩=t.write H N sd:=rfl
     rw [ea] at he hok' ⊢;refine⟨fun q=>absurd q (by simp),fun q=>absurd q (by simp),fun q=>absurd q (by simp),fun _ _ _ _ _=>?_⟩;unfold TnS.write at he ⊢
     split at he
     ·rename_i q
      rw [if_pos q];obtain⟨ad,d,f1,f2,f3,f4,f5,f6,f7⟩:=span_ok ok q;refine c.set hi c.rise (cl.setOb ok.ob.rise ?_) fun h n _ hm=>hm
      rw [f1,f3];have hsd:sd.data.toList.length=sd.size:=by rw [Array.length_toList];rfl
      exact splice_length (by omega)
     ·rename_i q;exact absurd he q
    ·exact⟨fun q=>absurd q (by simp),fun q=>absurd q (by simp),fun q=>absurd q (by simp),fun _ _ _ _ q=>absurd rfl q⟩
  ·refine⟨fun q=>by omega,fun q=>by omega,fun q=>by omega,fun _ _ _ _ _=>?_⟩
   unfold AdS.do_ at he ⊢;rw [if_pos hr] at he ⊢
   split
   ·rename_i k1
    rw [if_pos k1] at he;unfold AdS.create at he ⊢
    split
    ·exact c
    split
    ·exact c
    split
    ·exact c
    split
    ·exact c
    ·rename_i d1 d2 d3 d4
     refine c.set hi c.rise ⟨fun k x hk=>(by cases hk),fun h n hm hh=>⟨?_,fun x hx2=>?_⟩⟩ fun h n _ hm=>hm
     ·have hnone:s.ts x.T.toNat=none:=by
       cases q:s.ts x.T.toNat with
       |none=>rfl
       |some t=>rw [q] at d1;exact absurd rfl d1
      exact c.dead _ hi hnone h n hm hh
     ·exact absurd (look_iff.1 hx2).2.1 (fun q=>by cases q)
   split
   ·unfold AdS.resize
    cases q:s.ts x.T.toNat with
    |none=>exact c
    |some t =>
     simp only
     split
     ·exact c
     split
     ·exact c
     split
     ·exact c
     ·have cl:=c.live _ t hi q
      exact c.set hi c.rise ⟨cl.sl,cl.len⟩ fun h n _ hm=>hm
   split
   ·unfold AdS.destroy
    cases q:s.ts x.T.toNat with
    |none=>exact c
    |some t =>
     have cl:=c.live _ t hi q;refine⟨c.rise,fun j u hj hu=>?_,fun j hj hu h n hm hh=>?_⟩
     ·by_cases g:j=x.T.toNat
      ·subst g
       rw [show ({s with ts:=up1 s.ts x.T.toNat none,ser:=up1 s.ser x.T.toNat t.cp.next}:AdS).ts x.T.toNat=none from up1_same] at hu;cases hu
      ·rw [show ({s with ts:=up1 s.ts x.T.toNat none,ser:=up1 s.ser x.T.toNat t.cp.next}:AdS).ts j=s.ts j from up1_other g] at hu
       exact c.live j u hj hu
     ·by_cases g:j=x.T.toNat
      ·subst g
       rw [show ({s with ts:=up1 s.ts x.T.toNat none,ser:=up1 s.ser x.T.toNat t.cp.next}:AdS).ser x.T.toNat=t.cp.next from up1_same];exact(cl.len h n hm hh).1
      ·rw [show ({s with ts:=up1 s.ts x.T.toNat none,ser:=up1 s.ser x.T.toNat t.cp.next}:AdS).ts j=s.ts j from up1_other g] at hu
       rw [show ({s with ts:=up1 s.ts x.T.toNat none,ser:=up1 s.ser x.T.toNat t.cp.next}:AdS).ser j=s.ser j from up1_other g];exact c.dead j hj hu h n hm hh
   ·rename_i g1 g2 g3;omega
end
end
section
open Go.RowKit Flt
section
variable{w0 W:World}{o:Nat→Tag}{r:Tag}{b K:Nat}{B:List UInt8}{s:AdS}
theorem SyT.doF(x:OpS)(h:SyT w0 W o r b B K s)(hr:Root r)(hK:K≤900000)(hH:x.H<18446744073709551616)(hs:x.s.size≤maxLen) :
  Calls Tryz.prog 18 #[eP b,x.v] W fun e W'=>e=.returned (ansV (s.do_ x).1)∧∃o' B',SyT w0 W' o' r b B' (K+1) (s.do_ x).2∧Fr (UndS r) W o W' o':=by
 refine(svDo x h.sv hr hK hH hs).mono ?_;rintro e W' ⟨rfl,o',B',h1,f1,h2⟩;exact⟨rfl,o',B',⟨h.fr.trans (f1.mono (unds_n9 hr)),h1⟩,f1⟩
theorem infoU8c:(Tryz.prog.info? 5).map (fun i=>(i.zero,i.size,i.bytes))=some (some (.int .u8 0),1,1):=by kernel_rfl
theorem made_bytes(n:Int)(w:World)(h0:0≤n)(h1:n≤100000) :
  (Instr.makeSlice 57 (.int .i64 n) (.int .i64 n)).run Tryz.prog w=.ok (.slice (some ⟨w.heap.size,0,none⟩) n.toNat n.toNat) (w.alloc (.cells (Array.replicate n.toNat (.int .u8 0)) 5)) ∧
  (convert 57 9 (.slice (some ⟨w.heap.size,0,none⟩) n.toNat n.toNat)).run Tryz.prog (w.alloc (.cells (Array.replicate n.toNat (.int .u8 0)) 5))=.ok (.string (baL (List.replicate n.toNat 0))) (w.alloc (.cells (Array.replicate n.toNat (.int .u8 0)) 5)):=by
 obtain⟨i0,hi,hz0,hz1,hz2⟩:=info_parts infoU8c;constructor
 ·have:=run_makeSlice (P:=Tryz.prog) (w:=w) 57 5 i0 (.int .u8 0) Tryz.underlying57 hi hz0 .i64 .i64 n n h0 (Int.le_refl _) (by rw [hz1];omega) (by rw [hz2];omega) (by omega)
  rw [this,hz1];have e:madeCells (Value.int .u8 0).cells (n.toNat*1)=Array.replicate n.toNat (.int .u8 0):=by
   rw [Nat.mul_one];generalize n.toNat=k;apply Array.ext'
   rw [show (Value.int IntKind.u8 0).cells=#[Value.int IntKind.u8 0] from rfl,toList_madeCells_one];simp
  rw [e]
 ·have hconv:=run_convert_bytes_back (P:=Tryz.prog) (w.alloc (.cells (Array.replicate n.toNat (.int .u8 0)) 5)) 57 9 5 ⟨w.heap.size,0,none⟩ n.toNat (List.replicate n.toNat 0) Tryz.underlying57 Tryz.underlying5 Tryz.underlying9 (fun j hj=>by
   rw [add_pl,Nat.zero_add];have:=heap_alloc_new w (.cells (Array.replicate n.toNat (.int .u8 0)) 5);rw [cell_of_row _ w.heap.size j _ _ _ this];rw [List.length_replicate] at hj;simp [hj])
  rw [List.length_replicate] at hconv;exact hconv
set_option maxHeartbeats 2000000 in
theorem cleanRead(x:OpS)(h:Nat)(fr n:Int)(pb:Nat)(g:SyT w0 W o [2] b B K s)(hp:Blk W o [7] pb #[eP b] 35)(hR:Reads s x.T h fr n)(hK:K≤900000)(hH:h<18446744073709551616)(hn:0≤n∧n≤100000) :
  Calls Tryz.prog 17 #[x.v,.int .u64 h,.int .i64 fr,.int .i64 n,.pointer (some ⟨pb,0,none⟩)] W fun e W'=>e=.returned (.bool true)∧∃o' B',SyT w0 W' o' [2] b B' (K+1) s∧Fr (fun t=>UndS [2] t) W o W' o':=by
 obtain⟨xK,xT,xN,xM,xH,xs_⟩:=x;simp only at hR;obtain⟨ch,hR⟩:=hR;have g1:=g.alloc (.cells #[.int .i64 xK,.int .i64 xT,.int .i64 xN,.int .i64 xM,.int .u64 xH,.string xs_] 32);have f1:Fr (fun t=>UndS [2] t) W o (W.alloc (.cells #[.int .i64 xK,.int .i64 xT,.int .i64 xN,.int .i64 xM,.int .u64 xH,.string xs_] 32)) (setO o W.heap.size [7]):=Fr.alloc _ _;have p1:=(own7_alloc (W:=W) (o:=o) (.cells #[.int .i64 xK,.int .i64 xT,.int .i64 xN,.int .i64 xM,.int .u64 xH,.string xs_] 32) _ _ _ hp).cell' (i:=0) (v:=eP b) rfl;have hdo:=HD (g1.doF ⟨9,xT,fr,n,h,bae⟩ rt2 (by omega) hH (Nat.zero_le _));rw [show s.do_ ⟨9,xT,fr,n,h,bae⟩=_ from hR] at hdo;replace f1:=HD f1;clear g g1 hp hR;show Calls _ _ #[.agg #[.int .i64 xK,.int .i64 xT,.int .i64 xN,.int .i64 xM,.int .u64 xH,.string xs_],_,_,_,_] W _;go_enter Tryz.func17,Tryz.ntmps17
 go_wp2_with fail;refine hdo.out.mono ?_;rintro e W2 ⟨rfl,o2,B2,g2,f2⟩;have fA:Fr (fun t=>UndS [2] t) W2 o2 (W2.alloc (.cells #[.int .i64 0,.int .u64 0,.int .i64 0,.int .i64 0,.string (baL (List.replicate n.toNat 0)),.int .i64 ch] 47)) (setO o2 W2.heap.size [7]):=Fr.alloc _ _;have g3:=g2.alloc (.cells #[.int .i64 0,.int .u64 0,.int .i64 0,.int .i64 0,.string (baL (List.replicate n.toNat 0)),.int .i64 ch] 47);have f3:=HD ((f1.out.trans f2).trans fA);have q3:=Blk.made W2 o2 [7] #[.int .i64 0,.int .u64 0,.int .i64 0,.int .i64 0,.string (baL (List.replicate n.toNat 0)),.int .i64 ch] 47;have y0:=q3.cell' (i:=0) (v:=.int .i64 0) rfl;have y4:=q3.cell' (i:=4) (v:=.string (baL (List.replicate n.toNat 0))) rfl;clear hdo f1 f2 fA g2 q3 p1;replace g3:=HD g3;simp only [ansV];go_wp2_with fail;have y0d:((W2.alloc (.cells #[.int .i64 0,.int .u64 0,.int .i64 0,.int .i64 0,.string (baL (List.replicate n.toNat 0)),.int .i64 ch] 47))).drew.cell? ⟨W2.heap.size,0,none⟩=some (.int .i64 0):=y0;have y4d:((W2.alloc (.cells #[.int .i64 0,.int .u64 0,.int .i64 0,.int .i64 0,.string (baL (List.replicate n.toNat 0)),.int .i64 ch] 47))).drew.cell? ⟨W2.heap.size,4,none⟩=some (.string (baL (List.replicate n.toNat 0))):=y4;replace g3:=HD g3.out.drew;replace f3:=HD (f3.out.trans (Fr.drew (S:=fun t=>UndS [2] t)));generalize (W2.alloc (.cells #[.int .i64 0,.int .u64 0,.int .i64 0,.int .i64 0,.string (baL (List.replicate n.toNat 0)),.int .i64 ch] 47))=V at *;generalize W2.heap.size=py at *;obtain⟨m1',m2'⟩:=made_bytes n V.drew hn.1 hn.2;have m1:(Instr.makeSlice 57 (.int .i64 n) (.int .i64 n)).run Tryz.prog V.drew=.ok (.slice (some ⟨V.heap.size,0,none⟩) n.toNat n.toNat) (V.alloc (.cells (Array.replicate n.toNat (.int .u8 0)) 5)).drew:=m1';have m2:(convert 57 9 (.slice (some ⟨V.heap.size,0,none⟩) n.toNat n.toNat)).run Tryz.prog (V.alloc (.cells (Array.replicate n.toNat (.int .u8 0)) 5)).drew=.ok (.string (baL (List.replicate n.toNat 0))) (V.alloc (.cells (Array.replicate n.toNat (.int .u8 0)) 5)).drew:=m2';clear m1' m2';have y0e:(V.alloc (.cells (Array.replicate n.toNat (.int .u8 0)) 5)).drew.cell? ⟨py,0,none⟩=some (.int .i64 0):=keep_alloc y0d;have y4e:(V.alloc (.cells (Array.replicate n.toNat (.int .u8 0)) 5)).drew.cell? ⟨py,4,none⟩=some (.string (baL (List.replicate n.toNat 0))):=keep_alloc y4d;have g4:=HD (g3.out.alloc (.cells (Array.replicate n.toNat (.int .u8 0)) 5));have f4:=HD (f3.out.trans (Fr.alloc (S:=fun t=>UndS [2] t) (.cells (Array.replicate n.toNat (.int .u8 0)) 5) [7]));clear y0 y4 g3 f3;refine wp_region_noPanic ?_;refine wp_region_held_drew (S:=(fun W'=>W'.cell? ⟨py,0,none⟩=some (.int .i64 0)∧W'.cell? ⟨py,4,none⟩=some (.string (baL (List.replicate n.toNat 0))))) (by kernel_rfl) ?_ (fun hHeld=>?_)
 ·(first|exact⟨y0d,y4d⟩|exact⟨y0e,y4e⟩)
 refine tkH 0 (h:=?_);refine tkH 1 (h:=?_);refine tkH 2 (h:=?_);refine tkH 3 (h:=?_);refine tkH 4 (h:=?_);refine tkH 5 (h:=?_);refine tkH 6 (h:=?_);refine onH 7 (h:=fun K hK=>?_);go_simp;refine hK.out _ _ ?_ (fun hHeld=>?_)
 ·(first|exact⟨y0d,y4d⟩|exact⟨y0e,y4e⟩)
 clear hK;refine nmH (h:=?_);refine onH 8 (h:=fun K hK=>?_);go_simp;refine hK.out _ _ ?_ (fun hHeld=>?_)
 ·(first|exact⟨y0d,y4d⟩|exact⟨y0e,y4e⟩)
 clear hK;refine nmH (h:=?_);refine tkH 9 (h:=?_);refine tkH 10 (h:=?_);refine tkH 11 (h:=?_);refine wpAnyH_done (by kernel_rfl) ?_ _;refine NoPanic.normal ?_;go_wp2_with fail;go_ret
 exact⟨rfl,_,_,g4.out,f4.out⟩
end
end
end Go.Proofs.YtfliaggjkianpaaGreatDoor
