import Derived.Test.YtfliaggjkianpaaGreatDoorK00
import Derived.Test.YtfliaggjkianpaaGreatDoorK09
import Derived.Test.YtfliaggjkianpaaGreatDoorK05
set_option linter.unusedVariables false
set_option linter.unusedSimpArgs false
set_option maxRecDepth 100000
namespace Go.Proofs.YtfliaggjkianpaaGreatDoor
section
open Go.RowKit
theorem sum_change{f g:Nat→Nat}{c:Nat}(h:∀d,d≠c→f d=g d):∀n,((List.range n).map f).sum+(if c<n then g c else 0)=((List.range n).map g).sum+(if c<n then f c else 0)
 |0=>by simp
 |n+1=>by
  have ih:=sum_change h n;rw [List.range_succ];simp only [List.map_append,List.map_cons,List.map_nil,List.sum_append,List.sum_cons,List.sum_nil];by_cases e:n=c
  ·subst e
   rw [if_neg (Nat.lt_irrefl _),if_neg (Nat.lt_irrefl _)] at ih;rw [if_pos (Nat.lt_succ_self _),if_pos (Nat.lt_succ_self _)];omega
  ·rw [h n e]
   by_cases e2:c<n
   ·rw [if_pos e2,if_pos e2] at ih
    rw [if_pos (by omega),if_pos (by omega)];omega
   ·rw [if_neg e2,if_neg e2] at ih
    rw [if_neg (by omega),if_neg (by omega)];omega
def ShS.tkn(s:ShS):Nat:=s.n-s.cnt
theorem tkn_take{s:ShS}{k:Nat}(hk:k<s.n)(hf:s.f k=true):(s.flip k).tkn=s.tkn+1:=by
 have h1:=cnt_flip s hk;have h2:=cnt_le s;have h3:=cnt_le (s.flip k);rw [hf] at h1;rw [flip_n] at h3;unfold ShS.tkn;rw [flip_n];simp at h1
 omega
theorem tkn_give{s:ShS}{k:Nat}(hk:k<s.n)(hf:s.f k=false):(s.flip k).tkn+1=s.tkn:=by
 have h1:=cnt_flip s hk;have h2:=cnt_le s;have h3:=cnt_le (s.flip k);rw [hf] at h1;rw [flip_n] at h3;unfold ShS.tkn;rw [flip_n];simp at h1
 omega
structure AlS where
 sl:Nat→ShS
 ln:Nat→List Int
 sm:List (Int×PgS)
def AlS.new:AlS:=⟨fun c=>ShS.new (slotsT c).toNat,fun _=>[],[]⟩
def up1{α:Type}(f:Nat→α)(c:Nat)(x:α):Nat→α:=fun d=>if d=c then x else f d
theorem up1_same{α:Type}{f:Nat→α}{c:Nat}{x:α}:up1 f c x c=x:=if_pos rfl
theorem up1_other{α:Type}{f:Nat→α}{c d:Nat}{x:α}(h:d≠c):up1 f c x d=f d:=if_neg h
def kdV(v:Int):Int:=v/256-1
def stV(v:Int):Int:=v%256/pagesT (kdV v)
def Mapped(sl:Nat→ShS)(v:Int):Prop:=(256≤v∧v<6400)∧stV v<slotsT (kdV v)∧(sl (kdV v).toNat).f (stV v).toNat=false
def pgsum(sl:Nat→ShS):Nat:=((List.range 24).map fun c=>(sl c).tkn*(pagesT c).toNat).sum
def runsum(sl:Nat→ShS):Nat:=((List.range 16).map fun i=>(sl (8+i)).tkn*(unitT ((8+i:Nat):Int)).toNat).sum
def smcost(sm:List (Int×PgS)):Nat:=(sm.map fun x=>x.2.had.tkn*x.2.unit.toNat).sum
def AlS.cost(a:AlS):Nat:=smcost a.sm+runsum a.sl
structure AlOk(a:AlS):Prop where
 n:∀c:Nat,c<24→((a.sl c).n:Int)=slotsT c
 rise:Rise a.sm
 pg:∀v p,mGet a.sm v=some p→(256≤v∧v<2304)∧p.base=0∧p.kind=kdV v∧PaOk p∧(a.sl (kdV v).toNat).f (v%256).toNat=false
 ln:∀c:Nat,c<8→(a.ln c).Nodup∧∀v,v∈a.ln c↔∃p,mGet a.sm v=some p∧kdV v=c∧0<p.had.cnt
 sm:∀c s:Nat,c<8→s<256→(a.sl c).f s=false→(mGet a.sm (256*(c+1)+s)).isSome=true
 cnt:∀c:Nat,c<8→(a.sl c).tkn=a.sm.countP (fun x=>decide (kdV x.1=c))
def AlS.Used(a:AlS):Prop:=∀v p,mGet a.sm v=some p→p.had.cnt<p.had.n
theorem pages_lt8{c:Nat}(h:c<8):pagesT c=1∧slotsT c=256:=by
 have e:pagesT c=1:=pages_small (by omega) (by omega);refine⟨e,?_⟩;rw [slots_in (by omega) (by omega),e];rfl
theorem AlOk.new:AlOk AlS.new where
 n c hc:=by
  have:=kind_facts (c:=(c:Int)) (by omega) (by omega);show ((slotsT c).toNat:Int)=_;omega
 rise:=List.Pairwise.nil
 pg v p h:=by cases h
 ln c hc:=⟨List.nodup_nil,fun v=>⟨fun h=>(nomatch h),fun ⟨_,h,_⟩=>(nomatch h)⟩⟩
 sm c s hc hs h:=by
  have e:=(pages_lt8 hc).2;replace h:decide (s<(slotsT c).toNat)=false:=h;rw [e] at h;simp at h;omega
 cnt c hc:=by
  show (ShS.new (slotsT c).toNat).tkn=0;unfold ShS.tkn;rw [cnt_new];show (slotsT c).toNat-(slotsT c).toNat=0;omega
theorem tkn_new(n:Nat):(ShS.new n).tkn=0:=by
 unfold ShS.tkn;rw [cnt_new];exact Nat.sub_self n
theorem sum_zero':∀(l:List Nat),(l.map fun _=>0).sum=0
 |[]=>rfl
 |_ :: l=>by simp only [List.map_cons,List.sum_cons,sum_zero' l]
theorem cost_new:AlS.new.cost=0:=by
 unfold AlS.cost runsum AlS.new;simp only [tkn_new,smcost,Nat.zero_mul,sum_zero'];rfl
theorem pgsum_new:pgsum AlS.new.sl=0:=by
 unfold pgsum AlS.new;simp only [tkn_new,Nat.zero_mul,sum_zero']
theorem pgsum_take{sl:Nat→ShS}{c s:Nat}(hc:c<24)(hs:s<(sl c).n)(hf:(sl c).f s=true):pgsum (up1 sl c ((sl c).flip s))=pgsum sl+(pagesT c).toNat:=by
 have:=sum_change (f:=fun d=>(up1 sl c ((sl c).flip s) d).tkn*(pagesT d).toNat) (g:=fun d=>(sl d).tkn*(pagesT d).toNat) (c:=c) (fun d hd=>by simp only [up1_other hd]) 24;simp only [if_pos hc,up1_same,tkn_take hs hf,Nat.add_mul,Nat.one_mul] at this;unfold pgsum;omega
theorem pgsum_give{sl:Nat→ShS}{c s:Nat}(hc:c<24)(hs:s<(sl c).n)(hf:(sl c).f s=false):pgsum (up1 sl c ((sl c).flip s))+(pagesT c).toNat=pgsum sl:=by
 have:=sum_change (f:=fun d=>(up1 sl c ((sl c).flip s) d).tkn*(pagesT d).toNat) (g:=fun d=>(sl d).tkn*(pagesT d).toNat) (c:=c) (fun d hd=>by simp only [up1_other hd]) 24;have h2:=tkn_give hs hf;simp only [if_pos hc,up1_same] at this;have h3:((sl c).flip s).tkn*(pagesT c).toNat+(pagesT c).toNat=(sl c).tkn*(pagesT c).toNat:=by rw [←h2,Nat.add_mul,Nat.one_mul]
 unfold pgsum;omega
theorem runsum_same{sl:Nat→ShS}{c:Nat}(hc:c<8)(s:ShS):runsum (up1 sl c s)=runsum sl:=by
 unfold runsum;exact congrArg List.sum (List.map_congr_left fun i hi=>by rw [up1_other (show 8+i≠c by omega)])
theorem runsum_take{sl:Nat→ShS}{c s:Nat}(h8:8≤c)(hc:c<24)(hs:s<(sl c).n)(hf:(sl c).f s=true):runsum (up1 sl c ((sl c).flip s))=runsum sl+(unitT c).toNat:=by
 have:=sum_change (f:=fun i=>(up1 sl c ((sl c).flip s) (8+i)).tkn*(unitT ((8+i:Nat):Int)).toNat) (g:=fun i=>(sl (8+i)).tkn*(unitT ((8+i:Nat):Int)).toNat) (c:=c-8) (fun d hd=>by simp only [up1_other (show 8+d≠c by omega)]) 16;rw [if_pos (by omega),if_pos (by omega)] at this;rw [show 8+(c-8)=c by omega] at this;simp only [up1_same,tkn_take hs hf,Nat.add_mul,Nat.one_mul] at this;unfold runsum;omega
theorem runsum_give{sl:Nat→ShS}{c s:Nat}(h8:8≤c)(hc:c<24)(hs:s<(sl c).n)(hf:(sl c).f s=false):runsum (up1 sl c ((sl c).flip s))+(unitT c).toNat=runsum sl:=by
 have:=sum_change (f:=fun i=>(up1 sl c ((sl c).flip s) (8+i)).tkn*(unitT ((8+i:Nat):Int)).toNat) (g:=fun i=>(sl (8+i)).tkn*(unitT ((8+i:Nat):Int)).toNat) (c:=c-8) (fun d hd=>by simp only [up1_other (show 8+d≠c by omega)]) 16;have h2:=tkn_give hs hf;rw [if_pos (by omega),if_pos (by omega)] at this;rw [show 8+(c-8)=c by omega] at this;simp only [up1_same] at this;have h3:((sl c).flip s).tkn*(unitT c).toNat+(unitT c).toNat=(sl c).tkn*(unitT c).toNat:=by rw [←h2,Nat.add_mul,Nat.one_mul]
 unfold runsum;omega
theorem smcost_ins{sm:List (Int×PgS)}(hr:Rise sm)(v:Int)(p:PgS):smcost (mIns v p sm)+(match mGet sm v with|some q=>q.had.tkn*q.unit.toNat|none=>0)=smcost sm+p.had.tkn*p.unit.toNat:=by
 unfold smcost;cases h:mGet sm v with
 |none =>
  rw [((mIns_new h p).map _).sum_nat];simp only [List.map_cons,List.sum_cons];omega
 |some q =>
  obtain⟨A,B,h1,h2,_⟩:=mAt hr (mGet_mem h);rw [h2 p,h1];simp only [List.map_append,List.map_cons,List.sum_append,List.sum_cons];omega
theorem smcost_del{sm:List (Int×PgS)}(hr:Rise sm){v:Int}{q:PgS}(h:mGet sm v=some q):smcost (mDel v sm)+q.had.tkn*q.unit.toNat=smcost sm:=by
 unfold smcost;obtain⟨A,B,h1,_,h3⟩:=mAt hr (mGet_mem h);rw [h3,h1];simp only [List.map_append,List.map_cons,List.sum_append,List.sum_cons];omega
theorem countP_ins'{α:Type}{M:List (Int×α)}(hr:Rise M)(k:Int)(p:α)(f:Int→Bool):(mIns k p M).countP (fun x=>f x.1)=M.countP (fun x=>f x.1)+(if (mGet M k).isSome then 0 else if f k then 1 else 0):=by
 cases h:mGet M k with
 |none=>rw [(mIns_new h p).countP_eq,List.countP_cons];simp
 |some u =>
  obtain⟨A,B,h1,h2,_⟩:=mAt hr (mGet_mem h);rw [h2 p,h1];simp [List.countP_append,List.countP_cons]
theorem countP_del'{α:Type}{M:List (Int×α)}(hr:Rise M){k:Int}{p:α}(h:mGet M k=some p)(f:Int→Bool):(mDel k M).countP (fun x=>f x.1)+(if f k then 1 else 0)=M.countP (fun x=>f x.1):=by
 obtain⟨A,B,h1,_,h3⟩:=mAt hr (mGet_mem h);rw [h3,h1,List.countP_append,List.countP_append,List.countP_cons];simp only;omega
def AlS.openP(a:AlS)(c s:Nat):AlS:=⟨up1 a.sl c ((a.sl c).flip s),up1 a.ln c (a.ln c++[((256*(c+1)+s:Nat):Int)]),mIns ((256*(c+1)+s:Nat):Int) (PgS.new 0 c) a.sm⟩
theorem kdV_of{c s:Nat}(hs:s<256):kdV ((256*(c+1)+s:Nat):Int)=c∧(((256*(c+1)+s:Nat):Int)%256)=s:=by unfold kdV;omega
theorem v_of{v:Int}(h:256≤v):v=((256*((kdV v).toNat+1)+(v%256).toNat:Nat):Int):=by unfold kdV;omega
theorem AlOk.openP{a:AlS}(h:AlOk a){c s:Nat}(hc:c<8)(hs:s<256)(hf:(a.sl c).f s=true):AlOk (a.openP c s)∧mGet a.sm ((256*(c+1)+s:Nat):Int)=none∧(a.openP c s).cost=a.cost:=by
 obtain⟨k1,k2⟩:=kdV_of (c:=c) hs;have hn:s<(a.sl c).n:=by have:=h.n c (by omega);rw [(pages_lt8 hc).2] at this;omega
 have hno:mGet a.sm ((256*(c+1)+s:Nat):Int)=none:=by
  cases e:mGet a.sm ((256*(c+1)+s:Nat):Int) with
  |none=>rfl
  |some p =>
   obtain⟨_,_,_,_,g⟩:=h.pg _ p e;rw [k1,k2,Int.toNat_natCast,Int.toNat_natCast,hf] at g;cases g
 have hk:(0:Int)≤(c:Int)∧(c:Int)≤7:=by omega
 have hpn:=PaOk.new hk;have hcn:(PgS.new 0 (c:Int)).had.cnt=(PgS.new 0 (c:Int)).had.n:=by show (ShS.new _).cnt=_;rw [cnt_new];rfl
 refine⟨⟨fun d hd=>?_,mIns_rise h.rise _ _,fun v p hg=>?_,fun d hd=>?_,fun d t hd ht hfd=>?_,fun d hd=>?_⟩,hno,?_⟩
 ·show ((up1 a.sl c _ d).n:Int)=_
  by_cases e:d=c
  ·subst e;rw [up1_same,flip_n];exact h.n d hd
  ·rw [up1_other e];exact h.n d hd
 ·show (256≤v∧v<2304)∧p.base=0∧p.kind=kdV v∧PaOk p∧(up1 a.sl c _ (kdV v).toNat).f _=false
  replace hg:mGet (mIns _ _ a.sm) v=some p:=hg;by_cases e:v=((256*(c+1)+s:Nat):Int)
  ·rw [e,mGet_ins_same h.rise] at hg
   injection hg with hg
   subst hg;rw [e,k1,k2,Int.toNat_natCast,Int.toNat_natCast,up1_same,flip_f,if_pos rfl,hf];exact⟨by omega,rfl,rfl,hpn,rfl⟩
  ·rw [mGet_ins_other e] at hg
   obtain⟨g1,g2,g3,g4,g5⟩:=h.pg v p hg;refine⟨g1,g2,g3,g4,?_⟩;by_cases e2:(kdV v).toNat=c
   ·rw [e2,up1_same,flip_f,if_neg]
    ·rw [e2] at g5;exact g5
    ·intro q
     have:=v_of g1.1;rw [e2,q] at this;exact e this
   ·rw [up1_other e2];exact g5
 ·show (up1 a.ln c _ d).Nodup∧∀v,v∈up1 a.ln c _ d↔∃p,mGet (mIns _ _ a.sm) v=some p∧_
  obtain⟨h1,h2⟩:=h.ln d hd;by_cases e:d=c
  ·subst e
   rw [up1_same];refine⟨?_,fun v=>?_⟩
   ·rw [List.nodup_append]
    refine⟨h1,by simp,fun x hx y hy q=>?_⟩;rw [q,List.mem_singleton.1 hy] at hx;obtain⟨p,q1,_⟩:=(h2 _).1 hx;rw [hno] at q1;cases q1
   ·rw [List.mem_append,List.mem_singleton]
    by_cases e3:v=((256*(d+1)+s:Nat):Int)
    ·rw [e3,mGet_ins_same h.rise]
     refine⟨fun _=>⟨_,rfl,k1,?_⟩,fun _=>.inr rfl⟩;rw [hcn];have:=hpn.n32;omega
    ·rw [mGet_ins_other e3,←h2 v]
     exact⟨fun q=>q.resolve_right e3,fun q=>.inl q⟩
  ·rw [up1_other e]
   refine⟨h1,fun v=>?_⟩;rw [h2 v];by_cases e3:v=((256*(c+1)+s:Nat):Int)
   ·rw [e3,hno,mGet_ins_same h.rise,k1]
    exact⟨fun ⟨_,q,_⟩=>(nomatch q),fun ⟨_,q,q2,_⟩=>by omega⟩
   ·rw [mGet_ins_other e3]
 ·show (mGet (mIns _ _ a.sm) _).isSome=true
  replace hfd:(up1 a.sl c _ d).f t=false:=hfd;by_cases e:(256*((d:Int)+1)+t)=((256*(c+1)+s:Nat):Int)
  ·rw [e,mGet_ins_same h.rise];rfl
  ·rw [mGet_ins_other e]
   refine h.sm d t hd ht ?_;by_cases e2:d=c
   ·subst e2
    rw [up1_same,flip_f,if_neg] at hfd
    ·exact hfd
    ·rintro rfl;exact e (by omega)
   ·rw [up1_other e2] at hfd;exact hfd
 ·show (up1 a.sl c _ d).tkn=(mIns _ _ a.sm).countP _
  rw [countP_ins' h.rise _ _ (fun x=>decide (kdV x=d)),hno,←h.cnt d hd];simp only [Option.isSome_none,Bool.false_eq_true,if_false,k1];by_cases e:d=c
  ·subst e;rw [up1_same,tkn_take hn hf];simp
  ·rw [up1_other e,if_neg (by simp;omega)];rfl
 ·show smcost (mIns _ _ a.sm)+runsum (up1 a.sl c _)=smcost a.sm+runsum a.sl
  rw [runsum_same hc];have:=smcost_ins h.rise ((256*(c+1)+s:Nat):Int) (PgS.new 0 c);rw [hno] at this;have e:(PgS.new 0 (c:Int)).had.tkn=0:=tkn_new _;rw [e,Nat.zero_mul] at this;exact congrArg (· + runsum a.sl) this
end
section
open Go.RowKit
def AlS.pgAt(a:AlS)(v:Int):PgS:=(mGet a.sm v).getD (PgS.new 0 0)
def AlS.outL(a:AlS)(c:Nat)(v:Int):Nat→List Int:=if (a.pgAt v).alP.had.cnt=0 then up1 a.ln c ((a.ln c).erase v) else a.ln
def AlS.takeP(a:AlS)(c:Nat)(v:Int):AlS:=⟨a.sl,a.outL c v,mIns v (a.pgAt v).alP a.sm⟩
theorem pgAt_some{a:AlS}{v:Int}{p:PgS}(h:mGet a.sm v=some p):a.pgAt v=p:=by unfold AlS.pgAt;rw [h];rfl
theorem al_tkn{p:PgS}(h:PaOk p)(hc:0<p.had.cnt):p.alP.had.tkn=p.had.tkn+1:=by
 obtain⟨h1,h2⟩:=alK_free h hc;rw [al_had.1,tkn_take h1 h2]
theorem AlOk.takeP{a:AlS}(h:AlOk a){c:Nat}(hc:c<8){v:Int}{p:PgS}(hg:mGet a.sm v=some p)(hk:kdV v=c)(hcnt:0<p.had.cnt) :
  AlOk (a.takeP c v)∧mGet (a.takeP c v).sm v=some p.alP∧(a.takeP c v).cost=a.cost+p.unit.toNat:=by
 obtain⟨g1,g2,g3,g4,g5⟩:=h.pg v p hg;have hp:=g4.al hcnt;obtain⟨e1,e2,e3⟩:=al_had (p:=p);have et:=al_tkn g4 hcnt;have eq:=pgAt_some hg;have hl:=h.ln c hc;refine⟨⟨h.n,mIns_rise h.rise _ _,fun v' p' hg'=>?_,fun d hd=>?_,fun d s hd hs hf=>?_,fun d hd=>?_⟩,?_,?_⟩
 ·replace hg':mGet (mIns v (a.pgAt v).alP a.sm) v'=some p':=hg'
  show (256≤v'∧v'<2304)∧p'.base=0∧p'.kind=kdV v'∧PaOk p'∧(a.sl _).f _=false;rw [eq] at hg';by_cases e:v'=v
  ·subst e
   rw [mGet_ins_same h.rise] at hg';injection hg' with hg'
   subst hg';exact⟨g1,e3.trans g2,e2.trans g3,hp,g5⟩
  ·rw [mGet_ins_other e] at hg';exact h.pg v' p' hg'
 ·show (a.outL c v d).Nodup∧∀v',v'∈a.outL c v d↔∃p',mGet (mIns v (a.pgAt v).alP a.sm) v'=some p'∧_
  unfold AlS.outL;rw [eq];obtain⟨h1,h2⟩:=h.ln d hd;by_cases hz:p.alP.had.cnt=0
  ·rw [if_pos hz]
   by_cases e:d=c
   ·subst e
    rw [up1_same];refine⟨h1.erase _,fun v'=>?_⟩;rw [h1.mem_erase_iff];by_cases e4:v'=v
    ·subst e4
     rw [mGet_ins_same h.rise];constructor
     ·intro q;exact absurd rfl q.1
     ·rintro ⟨p',q1,_,q2⟩
      injection q1 with q1
      subst q1;omega
    ·rw [mGet_ins_other e4,h2 v']
     exact⟨fun q=>q.2,fun q=>⟨e4,q⟩⟩
   ·rw [up1_other e]
    refine⟨h1,fun v'=>?_⟩;rw [h2 v'];by_cases e4:v'=v
    ·subst e4
     rw [mGet_ins_same h.rise,hg];constructor
     ·rintro ⟨p',_,q2,_⟩;omega
     ·rintro ⟨p',_,q2,_⟩;omega
    ·rw [mGet_ins_other e4]
  ·rw [if_neg hz]
   refine⟨h1,fun v'=>?_⟩;rw [h2 v'];by_cases e4:v'=v
   ·subst e4
    rw [mGet_ins_same h.rise,hg];constructor
    ·rintro ⟨p',q1,q2,q3⟩;exact⟨_,rfl,q2,by omega⟩
    ·rintro ⟨p',q1,q2,q3⟩;exact⟨_,rfl,q2,hcnt⟩
   ·rw [mGet_ins_other e4]
 ·show (mGet (mIns v (a.pgAt v).alP a.sm) _).isSome=true
  by_cases e:(256*((d:Int)+1)+s)=v
  ·rw [e,mGet_ins_same h.rise];rfl
  ·rw [mGet_ins_other e];exact h.sm d s hd hs hf
 ·show (a.sl d).tkn=(mIns v (a.pgAt v).alP a.sm).countP _
  rw [countP_ins' h.rise _ _ (fun x=>decide (kdV x=d)),hg,←h.cnt d hd];rfl
 ·show mGet (mIns v (a.pgAt v).alP a.sm) v=_
  rw [eq,mGet_ins_same h.rise]
 ·show smcost (mIns v (a.pgAt v).alP a.sm)+runsum a.sl=smcost a.sm+runsum a.sl+_
  rw [eq];have:=smcost_ins h.rise v p.alP;rw [hg] at this;have eu:p.alP.unit=p.unit:=by unfold PgS.unit;rw [e2]
  simp only [et,eu,Nat.add_mul,Nat.one_mul] at this;omega
def AlS.backL(a:AlS)(c:Nat)(v:Int):List Int:=if (a.pgAt v).had.cnt=0 then a.ln c++[v] else a.ln c
def AlS.giveP(a:AlS)(c:Nat)(v:Int)(k:Nat):AlS :=
 if ((a.pgAt v).fr k).had.tkn=0 then ⟨up1 a.sl c ((a.sl c).flip (v%256).toNat),up1 a.ln c ((a.backL c v).erase v),mDel v a.sm⟩
 else ⟨a.sl,up1 a.ln c (a.backL c v),mIns v ((a.pgAt v).fr k) a.sm⟩
theorem fr_tkn{p:PgS}{k:Nat}(hk:k<p.had.n)(hf:p.had.f k=false):(p.fr k).had.tkn+1=p.had.tkn:=tkn_give hk hf
theorem fr_cnt{p:PgS}{k:Nat}(hk:k<p.had.n)(hf:p.had.f k=false):(p.fr k).had.cnt=p.had.cnt+1:=by
 have:=cnt_flip p.had hk;rw [hf] at this;show (p.had.flip k).cnt=_;simp at this
 omega
theorem back_mem{a:AlS}(h:AlOk a){c:Nat}(hc:c<8){v:Int}{p:PgS}(hg:mGet a.sm v=some p)(hk:kdV v=c):(a.backL c v).Nodup∧v∈a.backL c v∧∀v',v'≠v→(v'∈a.backL c v↔v'∈a.ln c):=by
 obtain⟨h1,h2⟩:=h.ln c hc;unfold AlS.backL;rw [pgAt_some hg]
 split
 ·rename_i hz
  have hn:v∉a.ln c:=fun q=>by
   obtain⟨p',q1,_,q2⟩:=(h2 v).1 q;rw [hg] at q1;injection q1 with q1;subst q1;omega
  refine⟨List.nodup_append.2 ⟨h1,by simp,fun x hx y hy e=>?_⟩,by simp,fun v' hv=>by simp [hv]⟩;rw [e,List.mem_singleton.1 hy] at hx;exact hn hx
 ·exact⟨h1,(h2 v).2 ⟨p,hg,hk,by omega⟩,fun _ _=>Iff.rfl⟩
def AlS.backP(a:AlS)(c:Nat)(v:Int)(k:Nat):AlS:=⟨a.sl,up1 a.ln c (a.backL c v),mIns v ((a.pgAt v).fr k) a.sm⟩
theorem AlOk.backP{a:AlS}(h:AlOk a){c:Nat}(hc:c<8){v:Int}{p:PgS}(hg:mGet a.sm v=some p)(hk:kdV v=c){k:Nat}(hkn:k<p.had.n)(hf:p.had.f k=false) :
  AlOk (a.backP c v k)∧(a.backP c v k).cost+p.unit.toNat=a.cost:=by
 obtain⟨g1,g2,g3,g4,g5⟩:=h.pg v p hg;have hp:=g4.fr hkn hf;have eq:=pgAt_some hg;obtain⟨b1,b2,b3⟩:=back_mem h hc hg hk;have ht:=fr_tkn hkn hf;have hcn:=fr_cnt hkn hf;rw [hk,Int.toNat_natCast] at g5;have eu:(p.fr k).unit=p.unit:=rfl;unfold AlS.backP;rw [eq];refine⟨⟨h.n,mIns_rise h.rise _ _,fun v' p' hg'=>?_,fun d hd=>?_,fun d s hd hs hf=>?_,fun d hd=>?_⟩,?_⟩
 ·replace hg':mGet (mIns v (p.fr k) a.sm) v'=some p':=hg'
  show (256≤v'∧v'<2304)∧p'.base=0∧p'.kind=kdV v'∧PaOk p'∧(a.sl _).f _=false;by_cases e:v'=v
  ·subst e
   rw [mGet_ins_same h.rise] at hg';injection hg' with hg'
   subst hg';refine⟨g1,g2,g3,hp,?_⟩;rw [hk,Int.toNat_natCast];exact g5
  ·rw [mGet_ins_other e] at hg';exact h.pg v' p' hg'
 ·show (up1 a.ln c _ d).Nodup∧∀v',v'∈up1 a.ln c _ d↔∃p',mGet (mIns v (p.fr k) a.sm) v'=some p'∧_
  obtain⟨h1,h2⟩:=h.ln d hd;by_cases e:d=c
  ·subst e
   rw [up1_same];refine⟨b1,fun v'=>?_⟩;by_cases e4:v'=v
   ·subst e4
    rw [mGet_ins_same h.rise];exact⟨fun _=>⟨_,rfl,hk,by omega⟩,fun _=>b2⟩
   ·rw [mGet_ins_other e4,←h2 v',b3 v' e4]
  ·rw [up1_other e]
   refine⟨h1,fun v'=>?_⟩;rw [h2 v'];by_cases e4:v'=v
   ·subst e4
    rw [mGet_ins_same h.rise,hg];constructor
    ·rintro ⟨p',_,q2,_⟩;omega
    ·rintro ⟨p',_,q2,_⟩;omega
   ·rw [mGet_ins_other e4]
 ·show (mGet (mIns v (p.fr k) a.sm) _).isSome=true
  by_cases e:(256*((d:Int)+1)+s)=v
  ·rw [e,mGet_ins_same h.rise];rfl
  ·rw [mGet_ins_other e];exact h.sm d s hd hs hf
 ·show (a.sl d).tkn=(mIns v (p.fr k) a.sm).countP _
  rw [countP_ins' h.rise _ _ (fun x=>decide (kdV x=d)),hg,←h.cnt d hd];rfl
 ·show smcost (mIns v (p.fr k) a.sm)+runsum a.sl+_=smcost a.sm+runsum a.sl
  have:=smcost_ins h.rise v (p.fr k);rw [hg] at this;have x:p.had.tkn*p.unit.toNat=(p.fr k).had.tkn*p.unit.toNat+p.unit.toNat:=by rw [←ht,Nat.add_mul,Nat.one_mul]
  simp only [eu] at this;omega
theorem AlOk.giveP{a:AlS}(h:AlOk a){c:Nat}(hc:c<8){v:Int}{p:PgS}(hg:mGet a.sm v=some p)(hk:kdV v=c){k:Nat}(hkn:k<p.had.n)(hf:p.had.f k=false) :
  AlOk (a.giveP c v k)∧(a.giveP c v k).cost+p.unit.toNat=a.cost:=by
 obtain⟨g1,g2,g3,g4,g5⟩:=h.pg v p hg;have hp:=g4.fr hkn hf;have eq:=pgAt_some hg;obtain⟨b1,b2,b3⟩:=back_mem h hc hg hk;have ht:=fr_tkn hkn hf;have hcn:=fr_cnt hkn hf;have hs:(v%256).toNat<(a.sl c).n:=by have:=h.n c (by omega);rw [(pages_lt8 hc).2] at this;omega
 rw [hk,Int.toNat_natCast] at g5;have eu:(p.fr k).unit=p.unit:=rfl;unfold AlS.giveP;rw [eq]
 split
 ·rename_i hz
  refine⟨⟨fun d hd=>?_,mDel_rise h.rise _,fun v' p' hg'=>?_,fun d hd=>?_,fun d s hd hs' hf'=>?_,fun d hd=>?_⟩,?_⟩
  ·show ((up1 a.sl c _ d).n:Int)=_
   by_cases e:d=c
   ·subst e;rw [up1_same,flip_n];exact h.n d hd
   ·rw [up1_other e];exact h.n d hd
  ·replace hg':mGet (mDel v a.sm) v'=some p':=hg'
   show (256≤v'∧v'<2304)∧p'.base=0∧p'.kind=kdV v'∧PaOk p'∧(up1 a.sl c _ _).f _=false;by_cases e:v'=v
   ·subst e;rw [mGet_del_same h.rise] at hg';cases hg'
   ·rw [mGet_del_other e] at hg'
    obtain⟨f1,f2,f3,f4,f5⟩:=h.pg v' p' hg';refine⟨f1,f2,f3,f4,?_⟩;by_cases e2:(kdV v').toNat=c
    ·rw [e2,up1_same,flip_f,if_neg]
     ·rw [e2] at f5;exact f5
     ·intro q
      have x1:=v_of f1.1;have x2:=v_of g1.1;rw [e2] at x1;rw [hk,Int.toNat_natCast] at x2;exact e (by omega)
    ·rw [up1_other e2];exact f5
  ·show (up1 a.ln c _ d).Nodup∧∀v',v'∈up1 a.ln c _ d↔∃p',mGet (mDel v a.sm) v'=some p'∧_
   obtain⟨h1,h2⟩:=h.ln d hd;by_cases e:d=c
   ·subst e
    rw [up1_same];refine⟨b1.erase _,fun v'=>?_⟩;rw [b1.mem_erase_iff];by_cases e4:v'=v
    ·subst e4
     rw [mGet_del_same h.rise];exact⟨fun q=>absurd rfl q.1,fun ⟨_,q,_⟩=>(nomatch q)⟩
    ·rw [mGet_del_other e4,←h2 v',b3 v' e4]
     exact⟨fun q=>q.2,fun q=>⟨e4,q⟩⟩
   ·rw [up1_other e]
    refine⟨h1,fun v'=>?_⟩;rw [h2 v'];by_cases e4:v'=v
    ·subst e4
     rw [mGet_del_same h.rise,hg];constructor
     ·rintro ⟨p',_,q2,_⟩;omega
     ·rintro ⟨p',q2,_⟩;cases q2
    ·rw [mGet_del_other e4]
  ·show (mGet (mDel v a.sm) _).isSome=true
   replace hf':(up1 a.sl c _ d).f s=false:=hf';have hne:(256*((d:Int)+1)+s)≠v:=by
    intro e;have x1:d=c:=by unfold kdV at hk;omega
    subst x1;rw [up1_same,flip_f,if_pos (by omega)] at hf';have x3:s=(v%256).toNat:=by omega
    rw [x3,g5] at hf';cases hf'
   rw [mGet_del_other hne];refine h.sm d s hd hs' ?_;by_cases e2:d=c
   ·subst e2
    rw [up1_same,flip_f,if_neg] at hf'
    ·exact hf'
    ·rintro rfl;exact hne (by have:=v_of g1.1;rw [hk,Int.toNat_natCast] at this;omega)
   ·rw [up1_other e2] at hf';exact hf'
  ·show (up1 a.sl c _ d).tkn=(mDel v a.sm).countP _
   have x1:=countP_del' h.rise hg (fun x=>decide (kdV x=d));have x2:=h.cnt d hd;by_cases e:d=c
   ·subst e
    rw [up1_same];have:=tkn_give hs g5;rw [if_pos (by simpa using hk)] at x1;omega
   ·rw [up1_other e]
    rw [if_neg (by simp;omega)] at x1;omega
  ·show smcost (mDel v a.sm)+runsum (up1 a.sl c _)+_=smcost a.sm+runsum a.sl
   rw [runsum_same hc];have:=smcost_del h.rise hg;have x:p.had.tkn=1:=by omega
   rw [x,Nat.one_mul] at this;omega
 ·have:=h.backP hc hg hk hkn hf
  unfold AlS.backP at this;rw [eq] at this;exact this
end
section
open Go.RowKit
def FreeZ(B:List UInt8)(cm:CmS):Prop:=∀p,p<cm.P→cm.free p=true→∀i,i<512→byt B (p*512+i)=0
structure Keep(W:List Int)(B:List UInt8)(cm:CmS)(B':List UInt8)(cm':CmS):Prop where
 len:B'.length=B.length
 P:cm'.P=cm.P
 C:cm'.C=cm.C
 sh:∀c:Nat,(c:Int)∉W→cm'.sh c=cm.sh c
 by_:∀p:Nat,p<cm.P→((p%cm.C:Nat):Int)∉W→∀i,i<512→byt B' (p*512+i)=byt B (p*512+i)
theorem Keep.refl(W:List Int)(B:List UInt8)(cm:CmS):Keep W B cm B cm:=⟨rfl,rfl,rfl,fun _ _=>rfl,fun _ _ _ _ _=>rfl⟩
theorem Keep.trans{W:List Int}{B B1 B2:List UInt8}{cm cm1 cm2:CmS}(h:Keep W B cm B1 cm1)(k:Keep W B1 cm1 B2 cm2):Keep W B cm B2 cm2 :=
 ⟨k.len.trans h.len,k.P.trans h.P,k.C.trans h.C,fun c hc=>(k.sh c hc).trans (h.sh c hc),fun p hp hc i hi=>(k.by_ p (by rw [h.P];exact hp) (by rw [h.C];exact hc) i hi).trans (h.by_ p hp hc i hi)⟩
theorem Keep.mono{W W':List Int}{B B1:List UInt8}{cm cm1:CmS}(h:Keep W B cm B1 cm1)(hW:∀x∈W,x∈W'):Keep W' B cm B1 cm1 :=
 ⟨h.len,h.P,h.C,fun c hc=>h.sh c (fun q=>hc (hW _ q)),fun p hp hc=>h.by_ p hp (fun q=>hc (hW _ q))⟩
def SmZ(B:List UInt8)(tb:TbS)(sm:List (Int×PgS)):Prop:=∀v p q,mGet sm v=some p→mGet tb.pg v=some q→PgZ B (q.toNat*512) p
def Dom(tb:TbS)(D:Int→Prop):Prop:=∀v,(mGet tb.pg v).isSome=true↔D v
structure HpOk(B:List UInt8)(cm:CmS)(win:List Int)(tb:TbS)(a:AlS):Prop where
 al:AlOk a
 cmo:cm.ok
 len:B.length=cm.P*512
 ton:TbOk cm win tb
 dom:Dom tb (Mapped a.sl)
 cnt:tb.pg.length=pgsum a.sl
 z:FreeZ B cm
 c:SmZ B tb a.sm
def vOf(c s:Nat):Int:=256*(c+1)+s*pagesT c
theorem st_iff{x n s:Int}(hn:1≤n):x/n=s↔s*n≤x∧x<s*n+n:=by
 constructor
 ·rintro rfl
  have h1:=Int.ediv_mul_le x (b:=n) (by omega);have h2:=Int.lt_ediv_add_one_mul_self x (b:=n) (by omega);rw [Int.add_mul] at h2;omega
 ·intro h
  have h3:n*s=s*n:=Int.mul_comm _ _;exact((Int.ediv_emod_unique (a:=x) (b:=n) (r:=x-s*n) (q:=s) (by omega)).2 ⟨by omega,by omega,by omega⟩).1
theorem slot_in{c s:Nat}(hc:c<24)(hs:(s:Int)<slotsT c):1≤pagesT c∧0≤(s:Int)*pagesT c∧(s:Int)*pagesT c+pagesT c≤256:=by
 have h:=kind_facts (c:=(c:Int)) (by omega) (by omega);have h2:((s:Int)+1)*pagesT c≤slotsT c*pagesT c:=Int.mul_le_mul_of_nonneg_right (by omega) (by omega);have h3:slotsT c*(pagesT c*512)=slotsT c*pagesT c*512:=by rw [Int.mul_assoc]
 rw [Int.add_mul] at h2;exact⟨by omega,Int.mul_nonneg (by omega) (by omega),by omega⟩
theorem in_slot{c s:Nat}(hc:c<24)(hs:(s:Int)<slotsT c)(v:Int):(vOf c s≤v∧v<vOf c s+pagesT c)↔(256≤v∧kdV v=c∧stV v=s):=by
 obtain⟨h1,h2,h3⟩:=slot_in hc hs;unfold vOf;constructor
 ·rintro ⟨a,b⟩
  have hk:kdV v=c:=by unfold kdV;omega
  refine⟨by omega,hk,?_⟩;unfold stV;rw [hk,st_iff h1];omega
 ·rintro ⟨a,b,d⟩
  unfold stV at d;rw [b,st_iff h1] at d;unfold kdV at b;omega
theorem mapped_take{sl:Nat→ShS}{c s:Nat}(hc:c<24)(hs:(s:Int)<slotsT c)(hf:(sl c).f s=true)(v:Int):Mapped (up1 sl c ((sl c).flip s)) v↔Mapped sl v∨(vOf c s≤v∧v<vOf c s+pagesT c):=by
 rw [in_slot hc hs];unfold Mapped;by_cases e:kdV v=c
 ·rw [e,Int.toNat_natCast,up1_same,flip_f]
  by_cases e2:(stV v).toNat=s
  ·rw [if_pos e2,e2,hf]
   have h0:0≤stV v:=Int.ediv_nonneg (by omega) (by rw [e];have:=slot_in hc hs;omega);constructor
   ·rintro ⟨h1,h2,h3⟩;exact .inr ⟨by omega,rfl,by omega⟩
   ·rintro (⟨h1,h2,h3⟩|⟨h1,h2,h3⟩)
    ·cases h3
    ·exact⟨⟨h1,by unfold kdV at e;omega⟩,by omega,rfl⟩
  ·rw [if_neg e2]
   constructor
   ·intro h;exact .inl h
   ·rintro (h|⟨h1,h2,h3⟩)
    ·exact h
    ·exact absurd (by omega) e2
 ·constructor
  ·rintro ⟨h1,h2,h3⟩
   rw [up1_other (by unfold kdV at e ⊢;omega)] at h3;exact .inl ⟨h1,h2,h3⟩
  ·rintro (⟨h1,h2,h3⟩|⟨h1,h2,h3⟩)
   ·refine⟨h1,h2,?_⟩
    rw [up1_other (by unfold kdV at e ⊢;omega)];exact h3
   ·exact absurd h2 e
theorem mapped_give{sl:Nat→ShS}{c s:Nat}(hc:c<24)(hs:(s:Int)<slotsT c)(hf:(sl c).f s=false)(v:Int):Mapped (up1 sl c ((sl c).flip s)) v↔Mapped sl v∧¬(vOf c s≤v∧v<vOf c s+pagesT c):=by
 rw [in_slot hc hs];unfold Mapped;by_cases e:kdV v=c
 ·rw [e,Int.toNat_natCast,up1_same,flip_f]
  have h0:0≤stV v:=Int.ediv_nonneg (by omega) (by rw [e];have:=slot_in hc hs;omega);by_cases e2:(stV v).toNat=s
  ·rw [if_pos e2,e2,hf]
   constructor
   ·rintro ⟨h1,h2,h3⟩;cases h3
   ·rintro ⟨⟨h1,h2,h3⟩,h4⟩;exact absurd ⟨h1.1,rfl,by omega⟩ h4
  ·rw [if_neg e2]
   constructor
   ·intro h;exact⟨h,fun q=>e2 (by omega)⟩
   ·exact fun h=>h.1
 ·constructor
  ·rintro ⟨h1,h2,h3⟩
   rw [up1_other (by unfold kdV at e ⊢;omega)] at h3;exact⟨⟨h1,h2,h3⟩,fun q=>e q.2.1⟩
  ·rintro ⟨⟨h1,h2,h3⟩,_⟩
   refine⟨h1,h2,?_⟩;rw [up1_other (by unfold kdV at e ⊢;omega)];exact h3
structure Hld(cm:CmS)(win:List Int)(tb:TbS)(cm':CmS)(tb':TbS)(D:Int→Prop)(n:Nat):Prop where
 ton:TbOk cm' win tb'
 ok:cm'.ok
 old:∀v p,mGet tb.pg v=some p→mGet tb'.pg v=some p
 new:∀v p,mGet tb'.pg v=some p→mGet tb.pg v=some p∨(D v∧cm.free p.toNat=true)
 has:∀v,D v→(mGet tb'.pg v).isSome=true
 len:tb'.pg.length=tb.pg.length+n
 free:∀p,cm'.free p=true→cm.free p=true
 P:cm'.P=cm.P
 C:cm'.C=cm.C
 sh:∀c:Nat,(c:Int)∉win→cm'.sh c=cm.sh c
theorem Hld.zero{cm:CmS}{win:List Int}{tb:TbS}(h:TbOk cm win tb)(ok:cm.ok):Hld cm win tb cm tb (fun _=>False) 0 :=
 ⟨h,ok,fun _ _ q=>q,fun _ _ q=>.inl q,fun _ q=>q.elim,rfl,fun _ q=>q,rfl,rfl,fun _ _=>rfl⟩
theorem Hld.step{cm:CmS}{win:List Int}{tb:TbS}{cm':CmS}{tb':TbS}{D:Int→Prop}{n:Nat}(h:Hld cm win tb cm' tb' D n)(hf:tb.pg.length+n<win.length*(cm.P/cm.C)){v:Int}(hv:256≤v∧v<6400)(h0:mGet tb.pg v=none)(hD:¬D v) :
  ∃p:Nat,p<cm.P∧cm'.tkV win=p∧cm'.tkE win=0∧tb'.mapE v p=0∧Hld cm win tb (cm'.tk win) (tb'.map v p) (fun u=>D u∨u=v) (n+1):=by
 have hno:mGet tb'.pg v=none:=by
  cases e:mGet tb'.pg v with
  |none=>rfl
  |some p =>
   rcases h.new v p e with q|q
   ·rw [h0] at q;cases q
   ·exact absurd q.1 hD
 have hfre:=h.ton.fre;rw [h.len,h.P,h.C] at hfre;obtain⟨p,p1,p2,p3,p4,p5,p6,p7,p8⟩:=h.ton.take h.ok (fun x hx=>hx) h.ton.wok.1 (by omega) hv hno;have h4:=h.ok.2.2.2.1;have hE:tb'.mapE v p=0:=by
  unfold TbS.mapE;rw [if_neg (by omega),if_neg];rw [lookV_none hno,lookV_none p7];omega
 have hM:tb'.map v p=⟨mIns v p tb'.pg,mIns p v tb'.lc⟩:=by unfold TbS.map;rw [if_pos hE]
 refine⟨p,by rw [←h.P];exact p1,p4,p5,hE,?_⟩;rw [p6,hM];refine⟨p8,h.ok.fl p,fun u q hu=>?_,fun u q hu=>?_,fun u hu=>?_,?_,fun q hq=>?_,h.P,h.C,fun c hc=>?_⟩
 ·show mGet (mIns v (p:Int) tb'.pg) u=some q
  rw [mGet_ins_other (by rintro rfl;rw [h0] at hu;cases hu)];exact h.old u q hu
 ·replace hu:mGet (mIns v (p:Int) tb'.pg) u=some q:=hu
  by_cases e:u=v
  ·subst e
   rw [mGet_ins_same h.ton.rise.1] at hu;injection hu with hu
   subst hu;exact .inr ⟨.inr rfl,by rw [Int.toNat_natCast];exact h.free p p3⟩
  ·rw [mGet_ins_other e] at hu
   rcases h.new u q hu with q1|q1
   ·exact .inl q1
   ·exact .inr ⟨.inl q1.1,q1.2⟩
 ·show (mGet (mIns v (p:Int) tb'.pg) u).isSome=true
  by_cases e:u=v
  ·subst e;rw [mGet_ins_same h.ton.rise.1];rfl
  ·rw [mGet_ins_other e];exact h.has u (hu.resolve_right e)
 ·show (mIns v (p:Int) tb'.pg).length=_
  rw [len_ins hno,h.len];omega
 ·rw [fl_free _ _ _ h.ok.1] at hq
  split at hq
  ·rename_i e;subst e;rw [p3] at hq;cases hq
  ·exact h.free q hq
 ·rw [fl_sh _ _ _ (by rintro rfl;exact hc p2)];exact h.sh c hc
structure Rel(B:List UInt8)(cm:CmS)(win:List Int)(tb:TbS)(B':List UInt8)(cm':CmS)(tb':TbS)(D:Int→Prop)(n:Nat):Prop where
 ton:TbOk cm' win tb'
 ok:cm'.ok
 gone:∀v,D v→mGet tb'.pg v=none
 stay:∀v,¬D v→mGet tb'.pg v=mGet tb.pg v
 len:tb'.pg.length+n=tb.pg.length
 bys:∀v p,¬D v→mGet tb.pg v=some p→∀i,i<512→byt B' (p.toNat*512+i)=byt B (p.toNat*512+i)
 z:FreeZ B' cm'
 keep:Keep win B cm B' cm'
theorem Rel.zero{B:List UInt8}{cm:CmS}{win:List Int}{tb:TbS}(h:TbOk cm win tb)(ok:cm.ok)(z:FreeZ B cm):Rel B cm win tb B cm tb (fun _=>False) 0 :=
 ⟨h,ok,fun _ q=>q.elim,fun _ _=>rfl,rfl,fun _ _ _ _ _ _=>rfl,z,Keep.refl _ _ _⟩
theorem Rel.step{B:List UInt8}{cm:CmS}{win:List Int}{tb:TbS}{B':List UInt8}{cm':CmS}{tb':TbS}{D:Int→Prop}{n:Nat}(h:Rel B cm win tb B' cm' tb' D n)(hB:B.length=cm.P*512){v p:Int}(hg:mGet tb.pg v=some p)(hD:¬D v) :
  tb'.unE v=0∧tb'.unV v=p∧(0≤p∧p<cm.P)∧cm'.giveE p=0∧hasE B'.length (p*512) 512=0∧Rel B cm win tb (zrB B' (p*512) 512) (cm'.give p) (tb'.un v) (fun u=>D u∨u=v) (n+1):=by
 have hg':mGet tb'.pg v=some p:=(h.stay v hD).trans hg;obtain⟨q,rfl,q1,q2,q3,q4,q5,q6,q7,q8,q9⟩:=h.ton.drop h.ok hg';have hl:B'.length=cm.P*512:=h.keep.len.trans hB;have hq:q<cm.P:=by rw [←h.keep.P];exact q1
 have hE:hasE B'.length ((q:Int)*512) 512=0:=by rw [hl];exact if_pos ⟨by omega,by omega,by omega,by omega⟩
 refine⟨q6,q7,⟨by omega,by omega⟩,q4,hE,?_⟩;rw [q5,q8];have hz:∀r i,i<512→Go.Proofs.YtfliaggjkianpaaGreatDoor.byt (zrB B' ((q:Int)*512) 512) (r*512+i)=if r=q then 0 else Go.Proofs.YtfliaggjkianpaaGreatDoor.byt B' (r*512+i):=fun r i hi=>by
  rw [byt_zr hE];by_cases e:r=q
  ·rw [if_pos e,if_pos (by subst e;omega)]
  ·rw [if_neg e,if_neg (by omega)]
 refine⟨q9,h.ok.fl q,fun u hu=>?_,fun u hu=>?_,?_,fun u r hu hur i hi=>?_,fun r hr hrf i hi=>?_,?_⟩
 ·show mGet (mDel v tb'.pg) u=none
  by_cases e:u=v
  ·subst e;exact mGet_del_same h.ton.rise.1 _
  ·rw [mGet_del_other e];exact h.gone u (hu.resolve_right e)
 ·show mGet (mDel v tb'.pg) u=_
  rw [mGet_del_other (fun e=>hu (.inr e))];exact h.stay u (fun e=>hu (.inl e))
 ·show (mDel v tb'.pg).length+_=_
  have:=len_del h.ton.rise.1 hg';have:=h.len;omega
 ·have hDu:¬D u:=fun e=>hu (.inl e)
  rw [hz _ _ hi,if_neg]
  ·exact h.bys u r hDu hur i hi
  ·intro e
   have h1:mGet tb'.pg u=some r:=(h.stay u hDu).trans hur;have h2:=(h.ton.rng u r h1).2.1;have h3:r=q:=by omega
   subst h3;have h4:=(h.ton.inv u q).1 h1;rw [(h.ton.inv v q).1 hg'] at h4;injection h4 with h4
   exact hu (.inr h4.symm)
 ·rw [hz _ _ hi]
  split
  ·rfl
  ·rename_i e
   rw [fl_free _ _ _ h.ok.1,if_neg e] at hrf;exact h.z r hr hrf i hi
 ·refine h.keep.trans ⟨zrB_len _ _ _,rfl,rfl,fun c hc=>fl_sh _ _ _ (by rintro rfl;exact hc q2),fun r hr hc i hi=>?_⟩
  rw [hz _ _ hi,if_neg];rintro rfl;exact hc q2
end
end Go.Proofs.YtfliaggjkianpaaGreatDoor
