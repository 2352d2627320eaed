import Derived.Test.YtfliaggjkianpaaGreatDoorK07
import Derived.Test.YtfliaggjkianpaaGreatDoorK09
import Derived.Deep.QuietTactic
import Derived.BigQuiet
set_option linter.unusedVariables false
set_option linter.unusedSimpArgs false
set_option maxRecDepth 100000
namespace Go.Proofs.YtfliaggjkianpaaGreatDoor
section
def slotsT(c:Int):Int:=if c<0∨23<c then 0 else 256/pagesT c
def roomT(c:Int):Int:=if perT c<1 then 1 else perT c
def thereT(c s k:Int):Bool:=decide (0≤s)&&decide (s<slotsT c)&&decide (0≤k)&&decide (k<roomT c)
def posT(c s k:Int):Int:=131072*(c+1)+s*(pagesT c*512)+k*unitT c
theorem there_iff{c s k:Int}:thereT c s k=true↔0≤s∧s<slotsT c∧0≤k∧k<roomT c:=by
 unfold thereT;simp only [Bool.and_eq_true,decide_eq_true_eq,and_assoc]
theorem slots_out{c:Int}(h:c<0∨23<c):slotsT c=0:=by unfold slotsT;rw [if_pos h]
theorem slots_in{c:Int}(h0:0≤c)(h:c≤23):slotsT c=256/pagesT c:=by unfold slotsT;rw [if_neg (by omega)]
theorem room_per{c:Int}(h:1≤perT c):roomT c=perT c:=by unfold roomT;rw [if_neg (by omega)]
theorem room_one{c:Int}(h:perT c<1):roomT c=1:=by unfold roomT;rw [if_pos h]
theorem kind_dec:∀c∈List.range 24,16≤unitT c∧unitT c≤8192∧1≤pagesT c∧pagesT c≤16∧1≤slotsT c∧slotsT c≤256∧slotsT c*(pagesT c*512)≤131072∧1≤roomT c∧roomT c≤32∧roomT c*unitT c≤pagesT c*512∧alignT c∣131072∧alignT c∣pagesT c*512∧alignT c∣unitT c:=by decide +kernel
theorem kind_facts{c:Int}(h0:0≤c)(h:c≤23):16≤unitT c∧unitT c≤8192∧1≤pagesT c∧pagesT c≤16∧1≤slotsT c∧slotsT c≤256∧slotsT c*(pagesT c*512)≤131072∧1≤roomT c∧roomT c≤32∧roomT c*unitT c≤pagesT c*512∧alignT c∣131072∧alignT c∣pagesT c*512∧alignT c∣unitT c:=by
 obtain⟨k,rfl⟩:=Int.eq_ofNat_of_zero_le h0;exact kind_dec k (List.mem_range.2 (by omega))
theorem there_kind{c s k:Int}(h:thereT c s k=true):0≤c∧c≤23:=by
 have:=there_iff.1 h;by_cases g:c<0∨23<c
 ·rw [slots_out g] at this;omega
 ·omega
theorem pos_bounds{c s k:Int}(h:thereT c s k=true) :
  0≤k*unitT c∧k*unitT c+unitT c≤pagesT c*512∧0≤s*(pagesT c*512)∧s*(pagesT c*512)+pagesT c*512≤131072:=by
 obtain⟨c0,c1⟩:=there_kind h;obtain⟨s0,s1,k0,k1⟩:=there_iff.1 h;obtain⟨u0,u1,p0,p1,n0,n1,n2,r0,r1,r2,_⟩:=kind_facts c0 c1;have a1:(k+1)*unitT c≤roomT c*unitT c:=Int.mul_le_mul_of_nonneg_right (by omega) (by omega);have a2:(s+1)*(pagesT c*512)≤slotsT c*(pagesT c*512):=Int.mul_le_mul_of_nonneg_right (by omega) (by omega);rw [Int.add_mul] at a1 a2;refine⟨Int.mul_nonneg k0 (by omega),by omega,Int.mul_nonneg s0 (by omega),by omega⟩
def kdT(a:Int):Int:=a/131072-1
def slT(a:Int):Int:=a%131072/(pagesT (kdT a)*512)
def nrT(a:Int):Int:=a%131072%(pagesT (kdT a)*512)/unitT (kdT a)
theorem find_pos{c s k:Int}(h:thereT c s k=true) :
  131072≤posT c s k∧posT c s k+unitT c≤131072*(c+2)∧kdT (posT c s k)=c∧slT (posT c s k)=s∧nrT (posT c s k)=k:=by
 obtain⟨c0,c1⟩:=there_kind h;obtain⟨b0,b1,b2,b3⟩:=pos_bounds h;obtain⟨u0,u1,p0,p1,n0,n1,n2,r0,r1,r2,_⟩:=kind_facts c0 c1;have hk:kdT (posT c s k)=c:=by unfold kdT posT;omega
 have hm:posT c s k%131072=s*(pagesT c*512)+k*unitT c:=by unfold posT;omega
 have e1:(s*(pagesT c*512)+k*unitT c)/(pagesT c*512)=s∧(s*(pagesT c*512)+k*unitT c)%(pagesT c*512)=k*unitT c:=by
  refine(Int.ediv_emod_unique (by omega)).2 ⟨by rw [Int.mul_comm s];omega,b0,by omega⟩
 refine⟨by unfold posT;omega,by unfold posT;omega,hk,?_,?_⟩
 ·unfold slT;rw [hk,hm];exact e1.1
 ·unfold nrT;rw [hk,hm,e1.2]
  exact Int.mul_ediv_cancel _ (by omega)
def foundB(a:Int):Bool:=decide (131072≤a)&&decide (a<3276800)&&thereT (kdT a) (slT a) (nrT a)&&(posT (kdT a) (slT a) (nrT a)==a)
theorem found_iff{a:Int}:foundB a=true↔131072≤a∧a<3276800∧thereT (kdT a) (slT a) (nrT a)=true∧posT (kdT a) (slT a) (nrT a)=a:=by
 unfold foundB;simp only [Bool.and_eq_true,decide_eq_true_eq,beq_iff_eq,and_assoc]
theorem found_pos{c s k:Int}(h:thereT c s k=true):foundB (posT c s k)=true:=by
 obtain⟨c0,c1⟩:=there_kind h;obtain⟨a0,a1,a2,a3,a4⟩:=find_pos h;have u0:=(kind_facts c0 c1).1;rw [found_iff,a2,a3,a4];exact⟨a0,by omega,h,rfl⟩
theorem kd_bound{a:Int}(h0:131072≤a)(h1:a<3276800):0≤kdT a∧kdT a≤23:=by unfold kdT;omega
theorem pos_lt{c s k t l:Int}(h:thereT c s k=true)(g:thereT c t l=true)(hl:s<t∨(s=t∧k<l)):posT c s k+unitT c≤posT c t l:=by
 obtain⟨a0,a1,a2,a3⟩:=pos_bounds h;obtain⟨b0,b1,b2,b3⟩:=pos_bounds g;obtain⟨c0,c1⟩:=there_kind h;obtain⟨u0,u1,p0,p1,_⟩:=kind_facts c0 c1;rcases hl with hl|⟨rfl,hl⟩
 ·have:(s+1)*(pagesT c*512)≤t*(pagesT c*512):=Int.mul_le_mul_of_nonneg_right (by omega) (by omega)
  rw [Int.add_mul] at this;unfold posT;omega
 ·have:(k+1)*unitT c≤l*unitT c:=Int.mul_le_mul_of_nonneg_right (by omega) (by omega)
  rw [Int.add_mul] at this;unfold posT;omega
theorem pos_apart{c s k d t l:Int}(h:thereT c s k=true)(g:thereT d t l=true):(c=d∧s=t∧k=l)∨posT c s k+unitT c≤posT d t l∨posT d t l+unitT d≤posT c s k:=by
 have a:=find_pos h;have b:=find_pos g;obtain⟨a0,a1,a2,a3⟩:=pos_bounds h;obtain⟨b0,b1,b2,b3⟩:=pos_bounds g;rcases Int.lt_trichotomy c d with e|rfl|e
 ·right;left;unfold posT at *;omega
 ·rcases(by omega:(s<t∨(s=t∧k<l))∨(s=t∧k=l)∨(t<s∨(t=s∧l<k))) with e|e|e
  ·exact .inr (.inl (pos_lt h g e))
  ·exact .inl ⟨rfl,e⟩
  ·exact .inr (.inr (pos_lt g h e))
 ·right;right;unfold posT at *;omega
end
section
open Go.RowKit
theorem sum_change{f g:Nat→Nat}{c:Nat}(h:∀d,d≠c→f d=g d):∀n,((List.range n).map f).sum+(if c<n then g c else 0)=((List.range n).map g).sum+(if c<n then f c else 0)
 |0=>by simp
 |n+1=>by
  have ih:=sum_change h n;rw [List.range_succ];simp only [List.map_append,List.map_cons,List.map_nil,List.sum_append,List.sum_cons,List.sum_nil];by_cases e:n=c
  ·subst e
   rw [if_neg (Nat.lt_irrefl _),if_neg (Nat.lt_irrefl _)] at ih;rw [if_pos (Nat.lt_succ_self _),if_pos (Nat.lt_succ_self _)];omega
  ·rw [h n e]
   by_cases e2:c<n
   ·rw [if_pos e2,if_pos e2] at ih
    rw [if_pos (by omega),if_pos (by omega)];omega
   ·rw [if_neg e2,if_neg e2] at ih
    rw [if_neg (by omega),if_neg (by omega)];omega
def ShS.tkn(s:ShS):Nat:=s.n-s.cnt
theorem tkn_take{s:ShS}{k:Nat}(hk:k<s.n)(hf:s.f k=true):(s.flip k).tkn=s.tkn+1:=by
 have h1:=cnt_flip s hk;have h2:=cnt_le s;have h3:=cnt_le (s.flip k);rw [hf] at h1;rw [flip_n] at h3;unfold ShS.tkn;rw [flip_n];simp at h1
 omega
theorem tkn_give{s:ShS}{k:Nat}(hk:k<s.n)(hf:s.f k=false):(s.flip k).tkn+1=s.tkn:=by
 have h1:=cnt_flip s hk;have h2:=cnt_le s;have h3:=cnt_le (s.flip k);rw [hf] at h1;rw [flip_n] at h3;unfold ShS.tkn;rw [flip_n];simp at h1
 omega
structure AlS where
 sl:Nat→ShS
 ln:Nat→List Int
 sm:List (Int×PgS)
def AlS.new:AlS:=⟨fun c=>ShS.new (slotsT c).toNat,fun _=>[],[]⟩
def up1{α:Type}(f:Nat→α)(c:Nat)(x:α):Nat→α:=fun d=>if d=c then x else f d
theorem up1_same{α:Type}{f:Nat→α}{c:Nat}{x:α}:up1 f c x c=x:=if_pos rfl
theorem up1_other{α:Type}{f:Nat→α}{c d:Nat}{x:α}(h:d≠c):up1 f c x d=f d:=if_neg h
def kdV(v:Int):Int:=v/256-1
def stV(v:Int):Int:=v%256/pagesT (kdV v)
def Mapped(sl:Nat→ShS)(v:Int):Prop:=(256≤v∧v<6400)∧stV v<slotsT (kdV v)∧(sl (kdV v).toNat).f (stV v).toNat=false
def pgsum(sl:Nat→ShS):Nat:=((List.range 24).map fun c=>(sl c).tkn*(pagesT c).toNat).sum
def runsum(sl:Nat→ShS):Nat:=((List.range 16).map fun i=>(sl (8+i)).tkn*(unitT ((8+i:Nat):Int)).toNat).sum
def smcost(sm:List (Int×PgS)):Nat:=(sm.map fun x=>x.2.had.tkn*x.2.unit.toNat).sum
def AlS.cost(a:AlS):Nat:=smcost a.sm+runsum a.sl
structure AlOk(a:AlS):Prop where
 n:∀c:Nat,c<24→((a.sl c).n:Int)=slotsT c
 rise:Rise a.sm
 pg:∀v p,mGet a.sm v=some p→(256≤v∧v<2304)∧p.base=0∧p.kind=kdV v∧PaOk p∧(a.sl (kdV v).toNat).f (v%256).toNat=false
 ln:∀c:Nat,c<8→(a.ln c).Nodup∧∀v,v∈a.ln c↔∃p,mGet a.sm v=some p∧kdV v=c∧0<p.had.cnt
 sm:∀c s:Nat,c<8→s<256→(a.sl c).f s=false→(mGet a.sm (256*(c+1)+s)).isSome=true
 cnt:∀c:Nat,c<8→(a.sl c).tkn=a.sm.countP (fun x=>decide (kdV x.1=c))
def AlS.Used(a:AlS):Prop:=∀v p,mGet a.sm v=some p→p.had.cnt<p.had.n
theorem pages_lt8{c:Nat}(h:c<8):pagesT c=1∧slotsT c=256:=by
 have e:pagesT c=1:=pages_small (by omega) (by omega);refine⟨e,?_⟩;rw [slots_in (by omega) (by omega),e];rfl
theorem AlOk.new:AlOk AlS.new where
 n c hc:=by
  have:=kind_facts (c:=(c:Int)) (by omega) (by omega);show ((slotsT c).toNat:Int)=_;omega
 rise:=List.Pairwise.nil
 pg v p h:=by cases h
 ln c hc:=⟨List.nodup_nil,fun v=>⟨fun h=>(nomatch h),fun ⟨_,h,_⟩=>(nomatch h)⟩⟩
 sm c s hc hs h:=by
  have e:=(pages_lt8 hc).2;replace h:decide (s<(slotsT c).toNat)=false:=h;rw [e] at h;simp at h;omega
 cnt c hc:=by
  show (ShS.new (slotsT c).toNat).tkn=0;unfold ShS.tkn;rw [cnt_new];show (slotsT c).toNat-(slotsT c).toNat=0;omega
theorem tkn_new(n:Nat):(ShS.new n).tkn=0:=by
 unfold ShS.tkn;rw [cnt_new];exact Nat.sub_self n
theorem sum_zero':∀(l:List Nat),(l.map fun _=>0).sum=0
 |[]=>rfl
 |_ :: l=>by simp only [List.map_cons,List.sum_cons,sum_zero' l]
theorem cost_new:AlS.new.cost=0:=by
 unfold AlS.cost runsum AlS.new;simp only [tkn_new,smcost,Nat.zero_mul,sum_zero'];rfl
theorem pgsum_new:pgsum AlS.new.sl=0:=by
 unfold pgsum AlS.new;simp only [tkn_new,Nat.zero_mul,sum_zero']
theorem pgsum_take{sl:Nat→ShS}{c s:Nat}(hc:c<24)(hs:s<(sl c).n)(hf:(sl c).f s=true):pgsum (up1 sl c ((sl c).flip s))=pgsum sl+(pagesT c).toNat:=by
 have:=sum_change (f:=fun d=>(up1 sl c ((sl c).flip s) d).tkn*(pagesT d).toNat) (g:=fun d=>(sl d).tkn*(pagesT d).toNat) (c:=c) (fun d hd=>by simp only [up1_other hd]) 24;simp only [if_pos hc,up1_same,tkn_take hs hf,Nat.add_mul,Nat.one_mul] at this;unfold pgsum;omega
theorem pgsum_give{sl:Nat→ShS}{c s:Nat}(hc:c<24)(hs:s<(sl c).n)(hf:(sl c).f s=false):pgsum (up1 sl c ((sl c).flip s))+(pagesT c).toNat=pgsum sl:=by
 have:=sum_change (f:=fun d=>(up1 sl c ((sl c).flip s) d).tkn*(pagesT d).toNat) (g:=fun d=>(sl d).tkn*(pagesT d).toNat) (c:=c) (fun d hd=>by simp only [up1_other hd]) 24;have h2:=tkn_give hs hf;simp only [if_pos hc,up1_same] at this;have h3:((sl c).flip s).tkn*(pagesT c).toNat+(pagesT c).toNat=(sl c).tkn*(pagesT c).toNat:=by rw [←h2,Nat.add_mul,Nat.one_mul]
 unfold pgsum;omega
theorem runsum_same{sl:Nat→ShS}{c:Nat}(hc:c<8)(s:ShS):runsum (up1 sl c s)=runsum sl:=by
 unfold runsum;exact congrArg List.sum (List.map_congr_left fun i hi=>by rw [up1_other (show 8+i≠c by omega)])
theorem runsum_take{sl:Nat→ShS}{c s:Nat}(h8:8≤c)(hc:c<24)(hs:s<(sl c).n)(hf:(sl c).f s=true):runsum (up1 sl c ((sl c).flip s))=runsum sl+(unitT c).toNat:=by
 have:=sum_change (f:=fun i=>(up1 sl c ((sl c).flip s) (8+i)).tkn*(unitT ((8+i:Nat):Int)).toNat) (g:=fun i=>(sl (8+i)).tkn*(unitT ((8+i:Nat):Int)).toNat) (c:=c-8) (fun d hd=>by simp only [up1_other (show 8+d≠c by omega)]) 16;rw [if_pos (by omega),if_pos (by omega)] at this;rw [show 8+(c-8)=c by omega] at this;simp only [up1_same,tkn_take hs hf,Nat.add_mul,Nat.one_mul] at this;unfold runsum;omega
theorem runsum_give{sl:Nat→ShS}{c s:Nat}(h8:8≤c)(hc:c<24)(hs:s<(sl c).n)(hf:(sl c).f s=false):runsum (up1 sl c ((sl c).flip s))+(unitT c).toNat=runsum sl:=by
 have:=sum_change (f:=fun i=>(up1 sl c ((sl c).flip s) (8+i)).tkn*(unitT ((8+i:Nat):Int)).toNat) (g:=fun i=>(sl (8+i)).tkn*(unitT ((8+i:Nat):Int)).toNat) (c:=c-8) (fun d hd=>by simp only [up1_other (show 8+d≠c by omega)]) 16;have h2:=tkn_give hs hf;rw [if_pos (by omega),if_pos (by omega)] at this;rw [show 8+(c-8)=c by omega] at this;simp only [up1_same] at this;have h3:((sl c).flip s).tkn*(unitT c).toNat+(unitT c).toNat=(sl c).tkn*(unitT c).toNat:=by rw [←h2,Nat.add_mul,Nat.one_mul]
 unfold runsum;omega
theorem smcost_ins{sm:List (Int×PgS)}(hr:Rise sm)(v:Int)(p:PgS):smcost (mIns v p sm)+(match mGet sm v with|some q=>q.had.tkn*q.unit.toNat|none=>0)=smcost sm+p.had.tkn*p.unit.toNat:=by
 unfold smcost;cases h:mGet sm v with
 |none =>
  rw [((mIns_new h p).map _).sum_nat];simp only [List.map_cons,List.sum_cons];omega
 |some q =>
  obtain⟨A,B,h1,h2,_⟩:=mAt hr (mGet_mem h);rw [h2 p,h1];simp only [List.map_append,List.map_cons,List.sum_append,List.sum_cons];omega
theorem smcost_del{sm:List (Int×PgS)}(hr:Rise sm){v:Int}{q:PgS}(h:mGet sm v=some q):smcost (mDel v sm)+q.had.tkn*q.unit.toNat=smcost sm:=by
 unfold smcost;obtain⟨A,B,h1,_,h3⟩:=mAt hr (mGet_mem h);rw [h3,h1];simp only [List.map_append,List.map_cons,List.sum_append,List.sum_cons];omega
theorem countP_ins'{α:Type}{M:List (Int×α)}(hr:Rise M)(k:Int)(p:α)(f:Int→Bool):(mIns k p M).countP (fun x=>f x.1)=M.countP (fun x=>f x.1)+(if (mGet M k).isSome then 0 else if f k then 1 else 0):=by
 cases h:mGet M k with
 |none=>rw [(mIns_new h p).countP_eq,List.countP_cons];simp
 |some u =>
  obtain⟨A,B,h1,h2,_⟩:=mAt hr (mGet_mem h);rw [h2 p,h1];simp [List.countP_append,List.countP_cons]
theorem countP_del'{α:Type}{M:List (Int×α)}(hr:Rise M){k:Int}{p:α}(h:mGet M k=some p)(f:Int→Bool):(mDel k M).countP (fun x=>f x.1)+(if f k then 1 else 0)=M.countP (fun x=>f x.1):=by
 obtain⟨A,B,h1,_,h3⟩:=mAt hr (mGet_mem h);rw [h3,h1,List.countP_append,List.countP_append,List.countP_cons];simp only;omega
def AlS.openP(a:AlS)(c s:Nat):AlS:=⟨up1 a.sl c ((a.sl c).flip s),up1 a.ln c (a.ln c++[((256*(c+1)+s:Nat):Int)]),mIns ((256*(c+1)+s:Nat):Int) (PgS.new 0 c) a.sm⟩
theorem kdV_of{c s:Nat}(hs:s<256):kdV ((256*(c+1)+s:Nat):Int)=c∧(((256*(c+1)+s:Nat):Int)%256)=s:=by unfold kdV;omega
theorem v_of{v:Int}(h:256≤v):v=((256*((kdV v).toNat+1)+(v%256).toNat:Nat):Int):=by unfold kdV;omega
theorem AlOk.openP{a:AlS}(h:AlOk a){c s:Nat}(hc:c<8)(hs:s<256)(hf:(a.sl c).f s=true):AlOk (a.openP c s)∧mGet a.sm ((256*(c+1)+s:Nat):Int)=none∧(a.openP c s).cost=a.cost:=by
 obtain⟨k1,k2⟩:=kdV_of (c:=c) hs;have hn:s<(a.sl c).n:=by have:=h.n c (by omega);rw [(pages_lt8 hc).2] at this;omega
 have hno:mGet a.sm ((256*(c+1)+s:Nat):Int)=none:=by
  cases e:mGet a.sm ((256*(c+1)+s:Nat):Int) with
  |none=>rfl
  |some p =>
   obtain⟨_,_,_,_,g⟩:=h.pg _ p e;rw [k1,k2,Int.toNat_natCast,Int.toNat_natCast,hf] at g;cases g
 have hk:(0:Int)≤(c:Int)∧(c:Int)≤7:=by omega
 have hpn:=PaOk.new hk;have hcn:(PgS.new 0 (c:Int)).had.cnt=(PgS.new 0 (c:Int)).had.n:=by show (ShS.new _).cnt=_;rw [cnt_new];rfl
 refine⟨⟨fun d hd=>?_,mIns_rise h.rise _ _,fun v p hg=>?_,fun d hd=>?_,fun d t hd ht hfd=>?_,fun d hd=>?_⟩,hno,?_⟩
 ·show ((up1 a.sl c _ d).n:Int)=_
  by_cases e:d=c
  ·subst e;rw [up1_same,flip_n];exact h.n d hd
  ·rw [up1_other e];exact h.n d hd
 ·show (256≤v∧v<2304)∧p.base=0∧p.kind=kdV v∧PaOk p∧(up1 a.sl c _ (kdV v).toNat).f _=false
  replace hg:mGet (mIns _ _ a.sm) v=some p:=hg;by_cases e:v=((256*(c+1)+s:Nat):Int)
  ·rw [e,mGet_ins_same h.rise] at hg
   injection hg with hg
   subst hg;rw [e,k1,k2,Int.toNat_natCast,Int.toNat_natCast,up1_same,flip_f,if_pos rfl,hf];exact⟨by omega,rfl,rfl,hpn,rfl⟩
  ·rw [mGet_ins_other e] at hg
   obtain⟨g1,g2,g3,g4,g5⟩:=h.pg v p hg;refine⟨g1,g2,g3,g4,?_⟩;by_cases e2:(kdV v).toNat=c
   ·rw [e2,up1_same,flip_f,if_neg]
    ·rw [e2] at g5;exact g5
    ·intro q
     have:=v_of g1.1;rw [e2,q] at this;exact e this
   ·rw [up1_other e2];exact g5
 ·show (up1 a.ln c _ d).Nodup∧∀v,v∈up1 a.ln c _ d↔∃p,mGet (mIns _ _ a.sm) v=some p∧_
  obtain⟨h1,h2⟩:=h.ln d hd;by_cases e:d=c
  ·subst e
   rw [up1_same];refine⟨?_,fun v=>?_⟩
   ·rw [List.nodup_append]
    refine⟨h1,by simp,fun x hx y hy q=>?_⟩;rw [q,List.mem_singleton.1 hy] at hx;obtain⟨p,q1,_⟩:=(h2 _).1 hx;rw [hno] at q1;cases q1
   ·rw [List.mem_append,List.mem_singleton]
    by_cases e3:v=((256*(d+1)+s:Nat):Int)
    ·rw [e3,mGet_ins_same h.rise]
     refine⟨fun _=>⟨_,rfl,k1,?_⟩,fun _=>.inr rfl⟩;rw [hcn];have:=hpn.n32;omega
    ·rw [mGet_ins_other e3,←h2 v]
     exact⟨fun q=>q.resolve_right e3,fun q=>.inl q⟩
  ·rw [up1_other e]
   refine⟨h1,fun v=>?_⟩;rw [h2 v];by_cases e3:v=((256*(c+1)+s:Nat):Int)
   ·rw [e3,hno,mGet_ins_same h.rise,k1]
    exact⟨fun ⟨_,q,_⟩=>(nomatch q),fun ⟨_,q,q2,_⟩=>by omega⟩
   ·rw [mGet_ins_other e3]
 ·show (mGet (mIns _ _ a.sm) _).isSome=true
  replace hfd:(up1 a.sl c _ d).f t=false:=hfd;by_cases e:(256*((d:Int)+1)+t)=((256*(c+1)+s:Nat):Int)
  ·rw [e,mGet_ins_same h.rise];rfl
  ·rw [mGet_ins_other e]
   refine h.sm d t hd ht ?_;by_cases e2:d=c
   ·subst e2
    rw [up1_same,flip_f,if_neg] at hfd
    ·exact hfd
    ·rintro rfl;exact e (by omega)
   ·rw [up1_other e2] at hfd;exact hfd
 ·show (up1 a.sl c _ d).tkn=(mIns _ _ a.sm).countP _
  rw [countP_ins' h.rise _ _ (fun x=>decide (kdV x=d)),hno,←h.cnt d hd];simp only [Option.isSome_none,Bool.false_eq_true,if_false,k1];by_cases e:d=c
  ·subst e;rw [up1_same,tkn_take hn hf];simp
  ·rw [up1_other e,if_neg (by simp;omega)];rfl
 ·show smcost (mIns _ _ a.sm)+runsum (up1 a.sl c _)=smcost a.sm+runsum a.sl
  rw [runsum_same hc];have:=smcost_ins h.rise ((256*(c+1)+s:Nat):Int) (PgS.new 0 c);rw [hno] at this;have e:(PgS.new 0 (c:Int)).had.tkn=0:=tkn_new _;rw [e,Nat.zero_mul] at this;exact congrArg (· + runsum a.sl) this
end
section
open Go.RowKit
def AlS.pgAt(a:AlS)(v:Int):PgS:=(mGet a.sm v).getD (PgS.new 0 0)
def AlS.outL(a:AlS)(c:Nat)(v:Int):Nat→List Int:=if (a.pgAt v).alP.had.cnt=0 then up1 a.ln c ((a.ln c).erase v) else a.ln
def AlS.takeP(a:AlS)(c:Nat)(v:Int):AlS:=⟨a.sl,a.outL c v,mIns v (a.pgAt v).alP a.sm⟩
theorem pgAt_some{a:AlS}{v:Int}{p:PgS}(h:mGet a.sm v=some p):a.pgAt v=p:=by unfold AlS.pgAt;rw [h];rfl
theorem al_tkn{p:PgS}(h:PaOk p)(hc:0<p.had.cnt):p.alP.had.tkn=p.had.tkn+1:=by
 obtain⟨h1,h2⟩:=alK_free h hc;rw [al_had.1,tkn_take h1 h2]
theorem AlOk.takeP{a:AlS}(h:AlOk a){c:Nat}(hc:c<8){v:Int}{p:PgS}(hg:mGet a.sm v=some p)(hk:kdV v=c)(hcnt:0<p.had.cnt) :
  AlOk (a.takeP c v)∧mGet (a.takeP c v).sm v=some p.alP∧(a.takeP c v).cost=a.cost+p.unit.toNat:=by
 obtain⟨g1,g2,g3,g4,g5⟩:=h.pg v p hg;have hp:=g4.al hcnt;obtain⟨e1,e2,e3⟩:=al_had (p:=p);have et:=al_tkn g4 hcnt;have eq:=pgAt_some hg;have hl:=h.ln c hc;refine⟨⟨h.n,mIns_rise h.rise _ _,fun v' p' hg'=>?_,fun d hd=>?_,fun d s hd hs hf=>?_,fun d hd=>?_⟩,?_,?_⟩
 ·replace hg':mGet (mIns v (a.pgAt v).alP a.sm) v'=some p':=hg'
  show (256≤v'∧v'<2304)∧p'.base=0∧p'.kind=kdV v'∧PaOk p'∧(a.sl _).f _=false;rw [eq] at hg';by_cases e:v'=v
  ·subst e
   rw [mGet_ins_same h.rise] at hg';injection hg' with hg'
   subst hg';exact⟨g1,e3.trans g2,e2.trans g3,hp,g5⟩
  ·rw [mGet_ins_other e] at hg';exact h.pg v' p' hg'
 ·show (a.outL c v d).Nodup∧∀v',v'∈a.outL c v d↔∃p',mGet (mIns v (a.pgAt v).alP a.sm) v'=some p'∧_
  unfold AlS.outL;rw [eq];obtain⟨h1,h2⟩:=h.ln d hd;by_cases hz:p.alP.had.cnt=0
  ·rw [if_pos hz]
   by_cases e:d=c
   ·subst e
    rw [up1_same];refine⟨h1.erase _,fun v'=>?_⟩;rw [h1.mem_erase_iff];by_cases e4:v'=v
    ·subst e4
     rw [mGet_ins_same h.rise];constructor
     ·intro q;exact absurd rfl q.1
     ·rintro ⟨p',q1,_,q2⟩
      injection q1 with q1
      subst q1;omega
    ·rw [mGet_ins_other e4,h2 v']
     exact⟨fun q=>q.2,fun q=>⟨e4,q⟩⟩
   ·rw [up1_other e]
    refine⟨h1,fun v'=>?_⟩;rw [h2 v'];by_cases e4:v'=v
    ·subst e4
     rw [mGet_ins_same h.rise,hg];constructor
     ·rintro ⟨p',_,q2,_⟩;omega
     ·rintro ⟨p',_,q2,_⟩;omega
    ·rw [mGet_ins_other e4]
  ·rw [if_neg hz]
   refine⟨h1,fun v'=>?_⟩;rw [h2 v'];by_cases e4:v'=v
   ·subst e4
    rw [mGet_ins_same h.rise,hg];constructor
    ·rintro ⟨p',q1,q2,q3⟩;exact⟨_,rfl,q2,by omega⟩
    ·rintro ⟨p',q1,q2,q3⟩;exact⟨_,rfl,q2,hcnt⟩
   ·rw [mGet_ins_other e4]
 ·show (mGet (mIns v (a.pgAt v).alP a.sm) _).isSome=true
  by_cases e:(256*((d:Int)+1)+s)=v
  ·rw [e,mGet_ins_same h.rise];rfl
  ·rw [mGet_ins_other e];exact h.sm d s hd hs hf
 ·show (a.sl d).tkn=(mIns v (a.pgAt v).alP a.sm).countP _
  rw [countP_ins' h.rise _ _ (fun x=>decide (kdV x=d)),hg,←h.cnt d hd];rfl
 ·show mGet (mIns v (a.pgAt v).alP a.sm) v=_
  rw [eq,mGet_ins_same h.rise]
 ·show smcost (mIns v (a.pgAt v).alP a.sm)+runsum a.sl=smcost a.sm+runsum a.sl+_
  rw [eq];have:=smcost_ins h.rise v p.alP;rw [hg] at this;have eu:p.alP.unit=p.unit:=by unfold PgS.unit;rw [e2]
  simp only [et,eu,Nat.add_mul,Nat.one_mul] at this;omega
def AlS.backL(a:AlS)(c:Nat)(v:Int):List Int:=if (a.pgAt v).had.cnt=0 then a.ln c++[v] else a.ln c
def AlS.giveP(a:AlS)(c:Nat)(v:Int)(k:Nat):AlS :=
 if ((a.pgAt v).fr k).had.tkn=0 then ⟨up1 a.sl c ((a.sl c).flip (v%256).toNat),up1 a.ln c ((a.backL c v).erase v),mDel v a.sm⟩
 else ⟨a.sl,up1 a.ln c (a.backL c v),mIns v ((a.pgAt v).fr k) a.sm⟩
theorem fr_tkn{p:PgS}{k:Nat}(hk:k<p.had.n)(hf:p.had.f k=false):(p.fr k).had.tkn+1=p.had.tkn:=tkn_give hk hf
theorem fr_cnt{p:PgS}{k:Nat}(hk:k<p.had.n)(hf:p.had.f k=false):(p.fr k).had.cnt=p.had.cnt+1:=by
 have:=cnt_flip p.had hk;rw [hf] at this;show (p.had.flip k).cnt=_;simp at this
 omega
theorem back_mem{a:AlS}(h:AlOk a){c:Nat}(hc:c<8){v:Int}{p:PgS}(hg:mGet a.sm v=some p)(hk:kdV v=c):(a.backL c v).Nodup∧v∈a.backL c v∧∀v',v'≠v→(v'∈a.backL c v↔v'∈a.ln c):=by
 obtain⟨h1,h2⟩:=h.ln c hc;unfold AlS.backL;rw [pgAt_some hg]
 split
 ·rename_i hz
  have hn:v∉a.ln c:=fun q=>by
   obtain⟨p',q1,_,q2⟩:=(h2 v).1 q;rw [hg] at q1;injection q1 with q1;subst q1;omega
  refine⟨List.nodup_append.2 ⟨h1,by simp,fun x hx y hy e=>?_⟩,by simp,fun v' hv=>by simp [hv]⟩;rw [e,List.mem_singleton.1 hy] at hx;exact hn hx
 ·exact⟨h1,(h2 v).2 ⟨p,hg,hk,by omega⟩,fun _ _=>Iff.rfl⟩
def AlS.backP(a:AlS)(c:Nat)(v:Int)(k:Nat):AlS:=⟨a.sl,up1 a.ln c (a.backL c v),mIns v ((a.pgAt v).fr k) a.sm⟩
theorem AlOk.backP{a:AlS}(h:AlOk a){c:Nat}(hc:c<8){v:Int}{p:PgS}(hg:mGet a.sm v=some p)(hk:kdV v=c){k:Nat}(hkn:k<p.had.n)(hf:p.had.f k=false) :
  AlOk (a.backP c v k)∧(a.backP c v k).cost+p.unit.toNat=a.cost:=by
 obtain⟨g1,g2,g3,g4,g5⟩:=h.pg v p hg;have hp:=g4.fr hkn hf;have eq:=pgAt_some hg;obtain⟨b1,b2,b3⟩:=back_mem h hc hg hk;have ht:=fr_tkn hkn hf;have hcn:=fr_cnt hkn hf;rw [hk,Int.toNat_natCast] at g5;have eu:(p.fr k).unit=p.unit:=rfl;unfold AlS.backP;rw [eq];refine⟨⟨h.n,mIns_rise h.rise _ _,fun v' p' hg'=>?_,fun d hd=>?_,fun d s hd hs hf=>?_,fun d hd=>?_⟩,?_⟩
 ·replace hg':mGet (mIns v (p.fr k) a.sm) v'=some p':=hg'
  show (256≤v'∧v'<2304)∧p'.base=0∧p'.kind=kdV v'∧PaOk p'∧(a.sl _).f _=false;by_cases e:v'=v
  ·subst e
   rw [mGet_ins_same h.rise] at hg';injection hg' with hg'
   subst hg';refine⟨g1,g2,g3,hp,?_⟩;rw [hk,Int.toNat_natCast];exact g5
  ·rw [mGet_ins_other e] at hg';exact h.pg v' p' hg'
 ·show (up1 a.ln c _ d).Nodup∧∀v',v'∈up1 a.ln c _ d↔∃p',mGet (mIns v (p.fr k) a.sm) v'=some p'∧_
  obtain⟨h1,h2⟩:=h.ln d hd;by_cases e:d=c
  ·subst e
   rw [up1_same];refine⟨b1,fun v'=>?_⟩;by_cases e4:v'=v
   ·subst e4
    rw [mGet_ins_same h.rise];exact⟨fun _=>⟨_,rfl,hk,by omega⟩,fun _=>b2⟩
   ·rw [mGet_ins_other e4,←h2 v',b3 v' e4]
  ·rw [up1_other e]
   refine⟨h1,fun v'=>?_⟩;rw [h2 v'];by_cases e4:v'=v
   ·subst e4
    rw [mGet_ins_same h.rise,hg];constructor
    ·rintro ⟨p',_,q2,_⟩;omega
    ·rintro ⟨p',_,q2,_⟩;omega
   ·rw [mGet_ins_other e4]
 ·show (mGet (mIns v (p.fr k) a.sm) _).isSome=true
  by_cases e:(256*((d:Int)+1)+s)=v
  ·rw [e,mGet_ins_same h.rise];rfl
  ·rw [mGet_ins_other e];exact h.sm d s hd hs hf
 ·show (a.sl d).tkn=(mIns v (p.fr k) a.sm).countP _
  rw [countP_ins' h.rise _ _ (fun x=>decide (kdV x=d)),hg,←h.cnt d hd];rfl
 ·show smcost (mIns v (p.fr k) a.sm)+runsum a.sl+_=smcost a.sm+runsum a.sl
  have:=smcost_ins h.rise v (p.fr k);rw [hg] at this;have x:p.had.tkn*p.unit.toNat=(p.fr k).had.tkn*p.unit.toNat+p.unit.toNat:=by rw [←ht,Nat.add_mul,Nat.one_mul]
  simp only [eu] at this;omega
theorem AlOk.giveP{a:AlS}(h:AlOk a){c:Nat}(hc:c<8){v:Int}{p:PgS}(hg:mGet a.sm v=some p)(hk:kdV v=c){k:Nat}(hkn:k<p.had.n)(hf:p.had.f k=false) :
  AlOk (a.giveP c v k)∧(a.giveP c v k).cost+p.unit.toNat=a.cost:=by
 obtain⟨g1,g2,g3,g4,g5⟩:=h.pg v p hg;have hp:=g4.fr hkn hf;have eq:=pgAt_some hg;obtain⟨b1,b2,b3⟩:=back_mem h hc hg hk;have ht:=fr_tkn hkn hf;have hcn:=fr_cnt hkn hf;have hs:(v%256).toNat<(a.sl c).n:=by have:=h.n c (by omega);rw [(pages_lt8 hc).2] at this;omega
 rw [hk,Int.toNat_natCast] at g5;have eu:(p.fr k).unit=p.unit:=rfl;unfold AlS.giveP;rw [eq]
 split
 ·rename_i hz
  refine⟨⟨fun d hd=>?_,mDel_rise h.rise _,fun v' p' hg'=>?_,fun d hd=>?_,fun d s hd hs' hf'=>?_,fun d hd=>?_⟩,?_⟩
  ·show ((up1 a.sl c _ d).n:Int)=_
   by_cases e:d=c
   ·subst e;rw [up1_same,flip_n];exact h.n d hd
   ·rw [up1_other e];exact h.n d hd
  ·replace hg':mGet (mDel v a.sm) v'=some p':=hg'
   show (256≤v'∧v'<2304)∧p'.base=0∧p'.kind=kdV v'∧PaOk p'∧(up1 a.sl c _ _).f _=false;by_cases e:v'=v
   ·subst e;rw [mGet_del_same h.rise] at hg';cases hg'
   ·rw [mGet_del_other e] at hg'
    obtain⟨f1,f2,f3,f4,f5⟩:=h.pg v' p' hg';refine⟨f1,f2,f3,f4,?_⟩;by_cases e2:(kdV v').toNat=c
    ·rw [e2,up1_same,flip_f,if_neg]
     ·rw [e2] at f5;exact f5
     ·intro q
      have x1:=v_of f1.1;have x2:=v_of g1.1;rw [e2] at x1;rw [hk,Int.toNat_natCast] at x2;exact e (by omega)
    ·rw [up1_other e2];exact f5
  ·show (up1 a.ln c _ d).Nodup∧∀v',v'∈up1 a.ln c _ d↔∃p',mGet (mDel v a.sm) v'=some p'∧_
   obtain⟨h1,h2⟩:=h.ln d hd;by_cases e:d=c
   ·subst e
    rw [up1_same];refine⟨b1.erase _,fun v'=>?_⟩;rw [b1.mem_erase_iff];by_cases e4:v'=v
    ·subst e4
     rw [mGet_del_same h.rise];exact⟨fun q=>absurd rfl q.1,fun ⟨_,q,_⟩=>(nomatch q)⟩
    ·rw [mGet_del_other e4,←h2 v',b3 v' e4]
     exact⟨fun q=>q.2,fun q=>⟨e4,q⟩⟩
   ·rw [up1_other e]
    refine⟨h1,fun v'=>?_⟩;rw [h2 v'];by_cases e4:v'=v
    ·subst e4
     rw [mGet_del_same h.rise,hg];constructor
     ·rintro ⟨p',_,q2,_⟩;omega
     ·rintro ⟨p',q2,_⟩;cases q2
    ·rw [mGet_del_other e4]
  ·show (mGet (mDel v a.sm) _).isSome=true
   replace hf':(up1 a.sl c _ d).f s=false:=hf';have hne:(256*((d:Int)+1)+s)≠v:=by
    intro e;have x1:d=c:=by unfold kdV at hk;omega
    subst x1;rw [up1_same,flip_f,if_pos (by omega)] at hf';have x3:s=(v%256).toNat:=by omega
    rw [x3,g5] at hf';cases hf'
   rw [mGet_del_other hne];refine h.sm d s hd hs' ?_;by_cases e2:d=c
   ·subst e2
    rw [up1_same,flip_f,if_neg] at hf'
    ·exact hf'
    ·rintro rfl;exact hne (by have:=v_of g1.1;rw [hk,Int.toNat_natCast] at this;omega)
   ·rw [up1_other e2] at hf';exact hf'
  ·show (up1 a.sl c _ d).tkn=(mDel v a.sm).countP _
   have x1:=countP_del' h.rise hg (fun x=>decide (kdV x=d));have x2:=h.cnt d hd;by_cases e:d=c
   ·subst e
    rw [up1_same];have:=tkn_give hs g5;rw [if_pos (by simpa using hk)] at x1;omega
   ·rw [up1_other e]
    rw [if_neg (by simp;omega)] at x1;omega
  ·show smcost (mDel v a.sm)+runsum (up1 a.sl c _)+_=smcost a.sm+runsum a.sl
   rw [runsum_same hc];have:=smcost_del h.rise hg;have x:p.had.tkn=1:=by omega
   rw [x,Nat.one_mul] at this;omega
 ·have:=h.backP hc hg hk hkn hf
  unfold AlS.backP at this;rw [eq] at this;exact this
end
section
open Go.RowKit
def FreeZ(B:List UInt8)(cm:CmS):Prop:=∀p,p<cm.P→cm.free p=true→∀i,i<512→byt B (p*512+i)=0
structure Keep(W:List Int)(B:List UInt8)(cm:CmS)(B':List UInt8)(cm':CmS):Prop where
 len:B'.length=B.length
 P:cm'.P=cm.P
 C:cm'.C=cm.C
 sh:∀c:Nat,(c:Int)∉W→cm'.sh c=cm.sh c
 by_:∀p:Nat,p<cm.P→((p%cm.C:Nat):Int)∉W→∀i,i<512→byt B' (p*512+i)=byt B (p*512+i)
theorem Keep.refl(W:List Int)(B:List UInt8)(cm:CmS):Keep W B cm B cm:=⟨rfl,rfl,rfl,fun _ _=>rfl,fun _ _ _ _ _=>rfl⟩
theorem Keep.trans{W:List Int}{B B1 B2:List UInt8}{cm cm1 cm2:CmS}(h:Keep W B cm B1 cm1)(k:Keep W B1 cm1 B2 cm2):Keep W B cm B2 cm2 :=
 ⟨k.len.trans h.len,k.P.trans h.P,k.C.trans h.C,fun c hc=>(k.sh c hc).trans (h.sh c hc),fun p hp hc i hi=>(k.by_ p (by rw [h.P];exact hp) (by rw [h.C];exact hc) i hi).trans (h.by_ p hp hc i hi)⟩
theorem Keep.mono{W W':List Int}{B B1:List UInt8}{cm cm1:CmS}(h:Keep W B cm B1 cm1)(hW:∀x∈W,x∈W'):Keep W' B cm B1 cm1 :=
 ⟨h.len,h.P,h.C,fun c hc=>h.sh c (fun q=>hc (hW _ q)),fun p hp hc=>h.by_ p hp (fun q=>hc (hW _ q))⟩
def SmZ(B:List UInt8)(tb:TbS)(sm:List (Int×PgS)):Prop:=∀v p q,mGet sm v=some p→mGet tb.pg v=some q→PgZ B (q.toNat*512) p
def Dom(tb:TbS)(D:Int→Prop):Prop:=∀v,(mGet tb.pg v).isSome=true↔D v
structure HpOk(B:List UInt8)(cm:CmS)(win:List Int)(tb:TbS)(a:AlS):Prop where
 al:AlOk a
 cmo:cm.ok
 len:B.length=cm.P*512
 ton:TbOk cm win tb
 dom:Dom tb (Mapped a.sl)
 cnt:tb.pg.length=pgsum a.sl
 z:FreeZ B cm
 c:SmZ B tb a.sm
def vOf(c s:Nat):Int:=256*(c+1)+s*pagesT c
theorem st_iff{x n s:Int}(hn:1≤n):x/n=s↔s*n≤x∧x<s*n+n:=by
 constructor
 ·rintro rfl
  have h1:=Int.ediv_mul_le x (b:=n) (by omega);have h2:=Int.lt_ediv_add_one_mul_self x (b:=n) (by omega);rw [Int.add_mul] at h2;omega
 ·intro h
  have h3:n*s=s*n:=Int.mul_comm _ _;exact((Int.ediv_emod_unique (a:=x) (b:=n) (r:=x-s*n) (q:=s) (by omega)).2 ⟨by omega,by omega,by omega⟩).1
theorem slot_in{c s:Nat}(hc:c<24)(hs:(s:Int)<slotsT c):1≤pagesT c∧0≤(s:Int)*pagesT c∧(s:Int)*pagesT c+pagesT c≤256:=by
 have h:=kind_facts (c:=(c:Int)) (by omega) (by omega);have h2:((s:Int)+1)*pagesT c≤slotsT c*pagesT c:=Int.mul_le_mul_of_nonneg_right (by omega) (by omega);have h3:slotsT c*(pagesT c*512)=slotsT c*pagesT c*512:=by rw [Int.mul_assoc]
 rw [Int.add_mul] at h2;exact⟨by omega,Int.mul_nonneg (by omega) (by omega),by omega⟩
theorem in_slot{c s:Nat}(hc:c<24)(hs:(s:Int)<slotsT c)(v:Int):(vOf c s≤v∧v<vOf c s+pagesT c)↔(256≤v∧kdV v=c∧stV v=s):=by
 obtain⟨h1,h2,h3⟩:=slot_in hc hs;unfold vOf;constructor
 ·rintro ⟨a,b⟩
  have hk:kdV v=c:=by unfold kdV;omega
  refine⟨by omega,hk,?_⟩;unfold stV;rw [hk,st_iff h1];omega
 ·rintro ⟨a,b,d⟩
  unfold stV at d;rw [b,st_iff h1] at d;unfold kdV at b;omega
theorem mapped_take{sl:Nat→ShS}{c s:Nat}(hc:c<24)(hs:(s:Int)<slotsT c)(hf:(sl c).f s=true)(v:Int):Mapped (up1 sl c ((sl c).flip s)) v↔Mapped sl v∨(vOf c s≤v∧v<vOf c s+pagesT c):=by
 rw [in_slot hc hs];unfold Mapped;by_cases e:kdV v=c
 ·rw [e,Int.toNat_natCast,up1_same,flip_f]
  by_cases e2:(stV v).toNat=s
  ·rw [if_pos e2,e2,hf]
   have h0:0≤stV v:=Int.ediv_nonneg (by omega) (by rw [e];have:=slot_in hc hs;omega);constructor
   ·rintro ⟨h1,h2,h3⟩;exact .inr ⟨by omega,rfl,by omega⟩
   ·rintro (⟨h1,h2,h3⟩|⟨h1,h2,h3⟩)
    ·cases h3
    ·exact⟨⟨h1,by unfold kdV at e;omega⟩,by omega,rfl⟩
  ·rw [if_neg e2]
   constructor
   ·intro h;exact .inl h
   ·rintro (h|⟨h1,h2,h3⟩)
    ·exact h
    ·exact absurd (by omega) e2
 ·constructor
  ·rintro ⟨h1,h2,h3⟩
   rw [up1_other (by unfold kdV at e ⊢;omega)] at h3;exact .inl ⟨h1,h2,h3⟩
  ·rintro (⟨h1,h2,h3⟩|⟨h1,h2,h3⟩)
   ·refine⟨h1,h2,?_⟩
    rw [up1_other (by unfold kdV at e ⊢;omega)];exact h3
   ·exact absurd h2 e
theorem mapped_give{sl:Nat→ShS}{c s:Nat}(hc:c<24)(hs:(s:Int)<slotsT c)(hf:(sl c).f s=false)(v:Int):Mapped (up1 sl c ((sl c).flip s)) v↔Mapped sl v∧¬(vOf c s≤v∧v<vOf c s+pagesT c):=by
 rw [in_slot hc hs];unfold Mapped;by_cases e:kdV v=c
 ·rw [e,Int.toNat_natCast,up1_same,flip_f]
  have h0:0≤stV v:=Int.ediv_nonneg (by omega) (by rw [e];have:=slot_in hc hs;omega);by_cases e2:(stV v).toNat=s
  ·rw [if_pos e2,e2,hf]
   constructor
   ·rintro ⟨h1,h2,h3⟩;cases h3
   ·rintro ⟨⟨h1,h2,h3⟩,h4⟩;exact absurd ⟨h1.1,rfl,by omega⟩ h4
  ·rw [if_neg e2]
   constructor
   ·intro h;exact⟨h,fun q=>e2 (by omega)⟩
   ·exact fun h=>h.1
 ·constructor
  ·rintro ⟨h1,h2,h3⟩
   rw [up1_other (by unfold kdV at e ⊢;omega)] at h3;exact⟨⟨h1,h2,h3⟩,fun q=>e q.2.1⟩
  ·rintro ⟨⟨h1,h2,h3⟩,_⟩
   refine⟨h1,h2,?_⟩;rw [up1_other (by unfold kdV at e ⊢;omega)];exact h3
structure Hld(cm:CmS)(win:List Int)(tb:TbS)(cm':CmS)(tb':TbS)(D:Int→Prop)(n:Nat):Prop where
 ton:TbOk cm' win tb'
 ok:cm'.ok
 old:∀v p,mGet tb.pg v=some p→mGet tb'.pg v=some p
 new:∀v p,mGet tb'.pg v=some p→mGet tb.pg v=some p∨(D v∧cm.free p.toNat=true)
 has:∀v,D v→(mGet tb'.pg v).isSome=true
 len:tb'.pg.length=tb.pg.length+n
 free:∀p,cm'.free p=true→cm.free p=true
 P:cm'.P=cm.P
 C:cm'.C=cm.C
 sh:∀c:Nat,(c:Int)∉win→cm'.sh c=cm.sh c
theorem Hld.zero{cm:CmS}{win:List Int}{tb:TbS}(h:TbOk cm win tb)(ok:cm.ok):Hld cm win tb cm tb (fun _=>False) 0 :=
 ⟨h,ok,fun _ _ q=>q,fun _ _ q=>.inl q,fun _ q=>q.elim,rfl,fun _ q=>q,rfl,rfl,fun _ _=>rfl⟩
theorem Hld.step{cm:CmS}{win:List Int}{tb:TbS}{cm':CmS}{tb':TbS}{D:Int→Prop}{n:Nat}(h:Hld cm win tb cm' tb' D n)(hf:tb.pg.length+n<win.length*(cm.P/cm.C)){v:Int}(hv:256≤v∧v<6400)(h0:mGet tb.pg v=none)(hD:¬D v) :
  ∃p:Nat,p<cm.P∧cm'.tkV win=p∧cm'.tkE win=0∧tb'.mapE v p=0∧Hld cm win tb (cm'.tk win) (tb'.map v p) (fun u=>D u∨u=v) (n+1):=by
 have hno:mGet tb'.pg v=none:=by
  cases e:mGet tb'.pg v with
  |none=>rfl
  |some p =>
   rcases h.new v p e with q|q
   ·rw [h0] at q;cases q
   ·exact absurd q.1 hD
 have hfre:=h.ton.fre;rw [h.len,h.P,h.C] at hfre;obtain⟨p,p1,p2,p3,p4,p5,p6,p7,p8⟩:=h.ton.take h.ok (fun x hx=>hx) h.ton.wok.1 (by omega) hv hno;have h4:=h.ok.2.2.2.1;have hE:tb'.mapE v p=0:=by
  unfold TbS.mapE;rw [if_neg (by omega),if_neg];rw [lookV_none hno,lookV_none p7];omega
 have hM:tb'.map v p=⟨mIns v p tb'.pg,mIns p v tb'.lc⟩:=by unfold TbS.map;rw [if_pos hE]
 refine⟨p,by rw [←h.P];exact p1,p4,p5,hE,?_⟩;rw [p6,hM];refine⟨p8,h.ok.fl p,fun u q hu=>?_,fun u q hu=>?_,fun u hu=>?_,?_,fun q hq=>?_,h.P,h.C,fun c hc=>?_⟩
 ·show mGet (mIns v (p:Int) tb'.pg) u=some q
  rw [mGet_ins_other (by rintro rfl;rw [h0] at hu;cases hu)];exact h.old u q hu
 ·replace hu:mGet (mIns v (p:Int) tb'.pg) u=some q:=hu
  by_cases e:u=v
  ·subst e
   rw [mGet_ins_same h.ton.rise.1] at hu;injection hu with hu
   subst hu;exact .inr ⟨.inr rfl,by rw [Int.toNat_natCast];exact h.free p p3⟩
  ·rw [mGet_ins_other e] at hu
   rcases h.new u q hu with q1|q1
   ·exact .inl q1
   ·exact .inr ⟨.inl q1.1,q1.2⟩
 ·show (mGet (mIns v (p:Int) tb'.pg) u).isSome=true
  by_cases e:u=v
  ·subst e;rw [mGet_ins_same h.ton.rise.1];rfl
  ·rw [mGet_ins_other e];exact h.has u (hu.resolve_right e)
 ·show (mIns v (p:Int) tb'.pg).length=_
  rw [len_ins hno,h.len];omega
 ·rw [fl_free _ _ _ h.ok.1] at hq
  split at hq
  ·rename_i e;subst e;rw [p3] at hq;cases hq
  ·exact h.free q hq
 ·rw [fl_sh _ _ _ (by rintro rfl;exact hc p2)];exact h.sh c hc
structure Rel(B:List UInt8)(cm:CmS)(win:List Int)(tb:TbS)(B':List UInt8)(cm':CmS)(tb':TbS)(D:Int→Prop)(n:Nat):Prop where
 ton:TbOk cm' win tb'
 ok:cm'.ok
 gone:∀v,D v→mGet tb'.pg v=none
 stay:∀v,¬D v→mGet tb'.pg v=mGet tb.pg v
 len:tb'.pg.length+n=tb.pg.length
 bys:∀v p,¬D v→mGet tb.pg v=some p→∀i,i<512→byt B' (p.toNat*512+i)=byt B (p.toNat*512+i)
 z:FreeZ B' cm'
 keep:Keep win B cm B' cm'
theorem Rel.zero{B:List UInt8}{cm:CmS}{win:List Int}{tb:TbS}(h:TbOk cm win tb)(ok:cm.ok)(z:FreeZ B cm):Rel B cm win tb B cm tb (fun _=>False) 0 :=
 ⟨h,ok,fun _ q=>q.elim,fun _ _=>rfl,rfl,fun _ _ _ _ _ _=>rfl,z,Keep.refl _ _ _⟩
theorem Rel.step{B:List UInt8}{cm:CmS}{win:List Int}{tb:TbS}{B':List UInt8}{cm':CmS}{tb':TbS}{D:Int→Prop}{n:Nat}(h:Rel B cm win tb B' cm' tb' D n)(hB:B.length=cm.P*512){v p:Int}(hg:mGet tb.pg v=some p)(hD:¬D v) :
  tb'.unE v=0∧tb'.unV v=p∧(0≤p∧p<cm.P)∧cm'.giveE p=0∧hasE B'.length (p*512) 512=0∧Rel B cm win tb (zrB B' (p*512) 512) (cm'.give p) (tb'.un v) (fun u=>D u∨u=v) (n+1):=by
 have hg':mGet tb'.pg v=some p:=(h.stay v hD).trans hg;obtain⟨q,rfl,q1,q2,q3,q4,q5,q6,q7,q8,q9⟩:=h.ton.drop h.ok hg';have hl:B'.length=cm.P*512:=h.keep.len.trans hB;have hq:q<cm.P:=by rw [←h.keep.P];exact q1
 have hE:hasE B'.length ((q:Int)*512) 512=0:=by rw [hl];exact if_pos ⟨by omega,by omega,by omega,by omega⟩
 refine⟨q6,q7,⟨by omega,by omega⟩,q4,hE,?_⟩;rw [q5,q8];have hz:∀r i,i<512→Go.Proofs.YtfliaggjkianpaaGreatDoor.byt (zrB B' ((q:Int)*512) 512) (r*512+i)=if r=q then 0 else Go.Proofs.YtfliaggjkianpaaGreatDoor.byt B' (r*512+i):=fun r i hi=>by
  rw [byt_zr hE];by_cases e:r=q
  ·rw [if_pos e,if_pos (by subst e;omega)]
  ·rw [if_neg e,if_neg (by omega)]
 refine⟨q9,h.ok.fl q,fun u hu=>?_,fun u hu=>?_,?_,fun u r hu hur i hi=>?_,fun r hr hrf i hi=>?_,?_⟩
 ·show mGet (mDel v tb'.pg) u=none
  by_cases e:u=v
  ·subst e;exact mGet_del_same h.ton.rise.1 _
  ·rw [mGet_del_other e];exact h.gone u (hu.resolve_right e)
 ·show mGet (mDel v tb'.pg) u=_
  rw [mGet_del_other (fun e=>hu (.inr e))];exact h.stay u (fun e=>hu (.inl e))
 ·show (mDel v tb'.pg).length+_=_
  have:=len_del h.ton.rise.1 hg';have:=h.len;omega
 ·have hDu:¬D u:=fun e=>hu (.inl e)
  rw [hz _ _ hi,if_neg]
  ·exact h.bys u r hDu hur i hi
  ·intro e
   have h1:mGet tb'.pg u=some r:=(h.stay u hDu).trans hur;have h2:=(h.ton.rng u r h1).2.1;have h3:r=q:=by omega
   subst h3;have h4:=(h.ton.inv u q).1 h1;rw [(h.ton.inv v q).1 hg'] at h4;injection h4 with h4
   exact hu (.inr h4.symm)
 ·rw [hz _ _ hi]
  split
  ·rfl
  ·rename_i e
   rw [fl_free _ _ _ h.ok.1,if_neg e] at hrf;exact h.z r hr hrf i hi
 ·refine h.keep.trans ⟨zrB_len _ _ _,rfl,rfl,fun c hc=>fl_sh _ _ _ (by rintro rfl;exact hc q2),fun r hr hc i hi=>?_⟩
  rw [hz _ _ hi,if_neg];rintro rfl;exact hc q2
end
section
open Go.RowKit
attribute [local irreducible] smallT unitT kindT perT pagesT alignT chargeT
theorem slots_any(c:Int)(w:World) :
  Calls Tryz.prog 180 #[.int .i64 c] w fun e w'=>e=.returned (.int .i64 (slotsT c))∧w'=w:=by
 by_cases hc:c<0∨23<c
 ·rw [slots_out hc]
  have hp:=pages_out hc;clear hc;go_enter Tryz.func180,Tryz.ntmps180
  go_wp2_with (go_at_call 210;refine(pages_any _ _).mono ?_;rintro e w' ⟨rfl,hw⟩;obtain rfl:=hw.symm)
  go_ret
  exact⟨rfl,rfl⟩
 ·rw [slots_in (by omega) (by omega)]
  obtain⟨_,_,p0,p1,_⟩:=kind_facts (c:=c) (by omega) (by omega);clear hc;go_enter Tryz.func180,Tryz.ntmps180
  go_wp2_with (go_at_call 210;refine(pages_any _ _).mono ?_;rintro e w' ⟨rfl,hw⟩;obtain rfl:=hw.symm)
  go_ret
  exact⟨rfl,rfl⟩
theorem pages_bound(c:Int):0≤pagesT c∧pagesT c≤16:=by
 by_cases hc:c<0∨23<c
 ·rw [pages_out hc];omega
 ·have:=kind_facts (c:=c) (by omega) (by omega);omega
theorem step_any(c:Int)(w:World) :
  Calls Tryz.prog 229 #[.int .i64 c] w fun e w'=>e=.returned (.int .i64 (pagesT c*512))∧w'=w:=by
 obtain⟨p0,p1⟩:=pages_bound c;go_enter Tryz.func229,Tryz.ntmps229
 go_wp2_with (go_at_call 210;refine(pages_any _ _).mono ?_;rintro e w' ⟨rfl,hw⟩;obtain rfl:=hw.symm)
 go_ret
 exact⟨rfl,rfl⟩
theorem placeOf_yes(c s k:Int)(w:World)(h:thereT c s k=true) :
  Calls Tryz.prog 196 #[.int .i64 c,.int .i64 s,.int .i64 k] w fun e w'=>e=.returned (.tuple #[.int .i64 (posT c s k),.int .i64 0])∧w'=w:=by
 obtain⟨c0,c1⟩:=there_kind h;obtain⟨s0,s1,k0,k1⟩:=there_iff.1 h;obtain⟨b0,b1,b2,b3⟩:=pos_bounds h;obtain⟨u0,u1,p0,p1,n0,n1,_,r0,r1,_⟩:=kind_facts c0 c1;by_cases hr:1≤perT c
 ·rw [room_per hr] at k1 r1
  unfold posT;clear h;go_enter Tryz.func196,Tryz.ntmps196
  go_wp2_with (first|(go_at_call 180;refine(slots_any _ _).mono ?_;rintro e w' ⟨rfl,hw⟩;obtain rfl:=hw.symm)|(go_at_call 166;refine(per_any _ _).mono ?_;rintro e w' ⟨rfl,hw⟩;obtain rfl:=hw.symm)|(go_at_call 229;refine(step_any _ _).mono ?_;rintro e w' ⟨rfl,hw⟩;obtain rfl:=hw.symm)|(go_at_call 153;refine(unit_any _ _).mono ?_;rintro e w' ⟨rfl,hw⟩;obtain rfl:=hw.symm))
  all_goals
   go_ret2
   exact⟨rfl,rfl⟩
 ·rw [room_one (by omega)] at k1 r1
  unfold posT;clear h;go_enter Tryz.func196,Tryz.ntmps196
  go_wp2_with (first|(go_at_call 180;refine(slots_any _ _).mono ?_;rintro e w' ⟨rfl,hw⟩;obtain rfl:=hw.symm)|(go_at_call 166;refine(per_any _ _).mono ?_;rintro e w' ⟨rfl,hw⟩;obtain rfl:=hw.symm)|(go_at_call 229;refine(step_any _ _).mono ?_;rintro e w' ⟨rfl,hw⟩;obtain rfl:=hw.symm)|(go_at_call 153;refine(unit_any _ _).mono ?_;rintro e w' ⟨rfl,hw⟩;obtain rfl:=hw.symm))
  all_goals
   go_ret2
   exact⟨rfl,rfl⟩
theorem find_yes(a:Int)(w:World)(h:foundB a=true) :
  Calls Tryz.prog 207 #[.int .i64 a] w fun e w'=>e=.returned (.tuple #[.int .i64 (kdT a),.int .i64 (slT a),.int .i64 (nrT a),.int .i64 0])∧∃n,w'=w.drewN n:=by
 obtain⟨a0,a1,ht,hp⟩:=found_iff.1 h;clear h;obtain⟨c0,c1⟩:=kd_bound a0 a1;obtain⟨u0,u1,p0,p1,_⟩:=kind_facts c0 c1;have e0:a/131072-1=kdT a:=rfl;have g0:0≤a%131072%(pagesT (kdT a)*512):=Int.emod_nonneg _ (by omega);have g1:a%131072%(pagesT (kdT a)*512)<pagesT (kdT a)*512:=Int.emod_lt_of_pos _ (by omega);have e1:a%131072/(pagesT (kdT a)*512)=slT a:=rfl;have e2:a%131072%(pagesT (kdT a)*512)/unitT (kdT a)=nrT a:=rfl;have hq:(posT (kdT a) (slT a) (nrT a) != a)=false:=by simp [hp]
 clear hp;go_enter Tryz.func207,Tryz.ntmps207
 go_wp2_with (first|(go_at_call 229;refine(step_any _ _).mono ?_;rintro e w' ⟨rfl,hw⟩;obtain rfl:=hw.symm))
 go_quiet ((first|(go_at_call 229;exact Calls.quiet_of_same (step_any _ _))|(go_at_call 153;exact Calls.quiet_of_same (unit_any _ _))))
 go_wp2_with (go_at_call 196;refine(placeOf_yes _ _ _ _ ht).mono ?_;rintro e w' ⟨rfl,hw⟩;obtain rfl:=hw.symm)
 exact bodyPost_ret (v:=.tuple #[.int .i64 (kdT a),.int .i64 (slT a),.int .i64 (nrT a),.int .i64 0]) (by simp [results,Tryz.results207,go_sem]) rfl ⟨rfl,nq,rfl⟩
def insideB(a n:Int):Bool:=decide (0≤n)&&decide (131072≤a)&&decide (a≤3276800)&&decide (n≤3276800-a)
theorem inside_no{a n:Int}(h:n<0∨a<131072∨3276800<a):insideB a n=false:=by
 unfold insideB;rcases h with h|h|h
 ·rw [decide_eq_false (by omega:¬0≤n)];rfl
 ·rw [decide_eq_false (by omega:¬131072≤a)];simp
 ·rw [decide_eq_false (by omega:¬a≤3276800)];simp
theorem inside_in{a n:Int}(h0:0≤n)(h1:131072≤a)(h2:a≤3276800):insideB a n=decide (n≤3276800-a):=by
 unfold insideB;rw [decide_eq_true h0,decide_eq_true h1,decide_eq_true h2];simp
theorem within2_any(a n:Int)(w:World) :
  Calls Tryz.prog 238 #[.int .i64 a,.int .i64 n] w fun e w'=>e=.returned (.bool (insideB a n))∧w'=w:=by
 by_cases h0:n<0
 ·rw [inside_no (.inl h0)]
  go_enter Tryz.func238,Tryz.ntmps238
  go_wp2
  go_ret
  exact⟨rfl,rfl⟩
 by_cases h1:a<131072
 ·rw [inside_no (.inr (.inl h1))]
  have h0':0≤n:=by omega
  go_enter Tryz.func238,Tryz.ntmps238
  go_wp2
  go_ret
  exact⟨rfl,rfl⟩
 have h0':0≤n:=by omega
 have h1':131072≤a:=by omega
 by_cases h2:3276800<a
 ·rw [inside_no (.inr (.inr h2))]
  go_enter Tryz.func238,Tryz.ntmps238
  go_wp2
  go_ret
  exact⟨rfl,rfl⟩
 have h2':a≤3276800:=by omega
 rw [inside_in h0' h1' h2'];clear h0 h1 h2;go_enter Tryz.func238,Tryz.ntmps238
 go_wp2
 go_ret
 exact⟨rfl,rfl⟩
end
section
open Go.RowKit
def pgOf(tb:TbS)(v:Int):Nat:=(lookV tb.pg v).toNat
def lb(tb:TbS)(B:List UInt8)(x:Int):UInt8:=byt B (pgOf tb (x/512)*512+(x%512).toNat)
theorem pgOf_some{tb:TbS}{v p:Int}(h:mGet tb.pg v=some p):pgOf tb v=p.toNat:=by unfold pgOf;rw [lookV_some h]
theorem AlOk.run{a:AlS}(h:AlOk a){c:Nat}(h8:8≤c)(hc:c<24)(s:Nat):AlOk ⟨up1 a.sl c ((a.sl c).flip s),a.ln,a.sm⟩ where
 n d hd:=by
  show ((up1 a.sl c _ d).n:Int)=_;by_cases e:d=c
  ·subst e;rw [up1_same,flip_n];exact h.n d hd
  ·rw [up1_other e];exact h.n d hd
 rise:=h.rise
 pg v p hg:=by
  obtain⟨g1,g2,g3,g4,g5⟩:=h.pg v p hg;refine⟨g1,g2,g3,g4,?_⟩;show (up1 a.sl c _ _).f _=_;rw [up1_other (by unfold kdV;omega)];exact g5
 ln:=h.ln
 sm d t hd ht hf:=by
  replace hf:(up1 a.sl c _ d).f t=false:=hf;rw [up1_other (by omega)] at hf;exact h.sm d t hd ht hf
 cnt d hd:=by
  show (up1 a.sl c _ d).tkn=_;rw [up1_other (by omega)];exact h.cnt d hd
theorem sm_mapped{a:AlS}(h:AlOk a){v:Int}{p:PgS}(hg:mGet a.sm v=some p):Mapped a.sl v:=by
 obtain⟨g1,_,_,_,g5⟩:=h.pg v p hg;have hk:kdV v=((kdV v).toNat:Nat):=by unfold kdV;omega
 have hl:=pages_lt8 (c:=(kdV v).toNat) (by unfold kdV;omega);rw [←hk] at hl;have hs:stV v=v%256:=by unfold stV;rw [hl.1];omega
 refine⟨by omega,by rw [hs,hl.2];omega,?_⟩;rw [hs];exact g5
theorem small_in{c s:Nat}(hc:c<8)(v:Int):(vOf c s≤v∧v<vOf c s+pagesT c)↔v=((256*(c+1)+s:Nat):Int):=by
 unfold vOf;rw [(pages_lt8 hc).1];omega
section
variable{B:List UInt8}{cm:CmS}{win:List Int}{tb:TbS}{a:AlS}
theorem HpOk.held(h:HpOk B cm win tb a){c s:Nat}(hc:c<24)(hs:s<(a.sl c).n)(hf:(a.sl c).f s=true){cm':CmS}{tb':TbS}(H:Hld cm win tb cm' tb' (fun v=>vOf c s≤v∧v<vOf c s+pagesT c) (pagesT c).toNat)
  {a':AlS} (hsl:a'.sl=up1 a.sl c ((a.sl c).flip s)) (ok':AlOk a') (hsm:∀v p,mGet a'.sm v=some p→mGet a.sm v=some p∨(∀q,mGet tb'.pg v=some q→PgZ B (q.toNat*512) p)) :
  HpOk B cm' win tb' a'∧Keep win B cm B cm'∧(∀v q,mGet tb.pg v=some q→mGet tb'.pg v=some q)∧(∀v q,vOf c s≤v→v<vOf c s+pagesT c→mGet tb'.pg v=some q→∀i,i<512→byt B (q.toNat*512+i)=0):=by
 have hsT:(s:Int)<slotsT c:=by rw [←h.al.n c hc];omega
 refine⟨⟨ok',H.ok,by rw [H.P];exact h.len,H.ton,fun v=>?_,?_,fun p hp hpf i hi=>?_,fun v p q hp hq=>?_⟩,⟨rfl,H.P,H.C,H.sh,fun _ _ _ _ _=>rfl⟩,H.old,fun v q h1 h2 hq i hi=>?_⟩
 ·rw [hsl,mapped_take hc hsT hf]
  constructor
  ·intro e
   obtain⟨p,hp⟩:=Option.isSome_iff_exists.1 e;rcases H.new v p hp with q|q
   ·exact .inl ((h.dom v).1 (by rw [q];rfl))
   ·exact .inr q.1
  ·rintro (e|e)
   ·obtain⟨p,hp⟩:=Option.isSome_iff_exists.1 ((h.dom v).2 e)
    rw [H.old v p hp];rfl
   ·exact H.has v e
 ·rw [hsl,pgsum_take hc hs hf,H.len,h.cnt]
 ·rw [H.P] at hp;exact h.z p hp (H.free p hpf) i hi
 ·rcases hsm v p hp with e|e
  ·obtain⟨q',hq'⟩:=Option.isSome_iff_exists.1 ((h.dom v).2 (sm_mapped h.al e))
   have:=H.old v q' hq';rw [hq] at this;injection this with this
   subst this;exact h.c v p q e hq'
  ·exact e q hq
 ·rcases H.new v q hq with e|e
  ·exfalso
   have:=(h.dom v).1 (by rw [e];rfl);have h3:=(in_slot hc hsT v).1 ⟨h1,h2⟩;unfold Mapped at this;rw [h3.2.1,h3.2.2,Int.toNat_natCast,Int.toNat_natCast,hf] at this;cases this.2.2
  ·have:=(H.ton.rng v q hq).2.1
   rw [H.P] at this;exact h.z q.toNat (by omega) e.2 i hi
theorem HpOk.opened(h:HpOk B cm win tb a){c s:Nat}(hc:c<8)(hs:s<(a.sl c).n)(hf:(a.sl c).f s=true){cm':CmS}{tb':TbS}(H:Hld cm win tb cm' tb' (fun v=>vOf c s≤v∧v<vOf c s+pagesT c) (pagesT c).toNat) :
  HpOk B cm' win tb' (a.openP c s)∧Keep win B cm B cm'∧(∀v q,mGet tb.pg v=some q→mGet tb'.pg v=some q)∧(a.openP c s).cost=a.cost∧∃q,mGet tb'.pg ((256*(c+1)+s:Nat):Int)=some q∧0≤q∧q<cm.P:=by
 have hs256:s<256:=by have:=h.al.n c (by omega);rw [(pages_lt8 hc).2] at this;omega
 obtain⟨o1,o2,o3⟩:=h.al.openP hc hs256 hf;have hb:∀v q,vOf c s≤v→v<vOf c s+pagesT c→mGet tb'.pg v=some q→∀i,i<512→byt B (q.toNat*512+i)=0:=fun v q h1 h2 hq i hi=>by
  rcases H.new v q hq with e|e
  ·exfalso
   have hsT:(s:Int)<slotsT c:=by rw [(pages_lt8 hc).2];omega
   have:=(h.dom v).1 (by rw [e];rfl);have h3:=(in_slot (by omega) hsT v).1 ⟨h1,h2⟩;unfold Mapped at this;rw [h3.2.1,h3.2.2,Int.toNat_natCast,Int.toNat_natCast,hf] at this;cases this.2.2
  ·have:=(H.ton.rng v q hq).2.1
   rw [H.P] at this;exact h.z q.toNat (by omega) e.2 i hi
 obtain⟨r1,r2,r3,r4⟩:=h.held (a':=a.openP c s) (by omega) hs hf H rfl o1 (fun v p hp=>by
  by_cases e:v=((256*(c+1)+s:Nat):Int)
  ·right
   intro q hq;have hv:=(small_in hc v).2 e;replace hp:mGet (mIns _ (PgS.new 0 c) a.sm) v=some p:=hp;rw [e,mGet_ins_same h.al.rise] at hp;injection hp with hp
   subst hp;exact PgZ.new (by omega) (hb v q hv.1 hv.2 hq)
  ·left
   replace hp:mGet (mIns _ (PgS.new 0 c) a.sm) v=some p:=hp;rw [mGet_ins_other e] at hp;exact hp)
 refine⟨r1,r2,r3,o3,?_⟩;obtain⟨q,hq⟩:=Option.isSome_iff_exists.1 (H.has _ ((small_in hc _).2 rfl));have:=(H.ton.rng _ q hq).2.1;rw [H.P] at this;exact⟨q,hq,this⟩
theorem pg_sep(h:HpOk B cm win tb a){u v p q:Int}(hu:mGet tb.pg u=some p)(hv:mGet tb.pg v=some q)(hne:u≠v):p.toNat≠q.toNat:=by
 intro e;have h1:=(h.ton.rng u p hu).2.1;have h2:=(h.ton.rng v q hv).2.1;have:p=q:=by omega
 subst this;have h3:=(h.ton.inv u p).1 hu;rw [(h.ton.inv v p).1 hv] at h3;injection h3 with h3
 exact hne h3.symm
structure One(B B':List UInt8)(q lo hi:Nat):Prop where
 len:B'.length=B.length
 at_:q*512≤lo∧hi≤q*512+512
 same:∀j,¬(lo≤j∧j<hi)→byt B' j=byt B j
theorem One.page{B':List UInt8}{q lo hi:Nat}(o:One B B' q lo hi){r:Nat}(hr:r≠q){i:Nat}(h:i<512):byt B' (r*512+i)=byt B (r*512+i):=o.same _ (by have:=o.at_;omega)
theorem HpOk.one(h:HpOk B cm win tb a){v q:Int}(hq:mGet tb.pg v=some q){B':List UInt8}{lo hi:Nat}(o:One B B' q.toNat lo hi){a':AlS}(hsl:a'.sl=a.sl)(ok':AlOk a')
  (hsm:∀u p,u≠v→mGet a'.sm u=some p→mGet a.sm u=some p) (hv:∀p,mGet a'.sm v=some p→PgZ B' (q.toNat*512) p) :
  HpOk B' cm win tb a'∧Keep win B cm B' cm:=by
 obtain⟨r1,r2,r3,r4⟩:=h.ton.rng v q hq;refine⟨⟨ok',h.cmo,o.len.trans h.len,h.ton,by rw [hsl];exact h.dom,by rw [hsl];exact h.cnt,fun p hp hf i hi=>?_,fun u p r hp hr=>?_⟩,⟨o.len,rfl,rfl,fun _ _=>rfl,fun p hp hc i hi=>?_⟩⟩
 ·rw [o.page (by rintro rfl;rw [r4] at hf;cases hf) hi];exact h.z p hp hf i hi
 ·by_cases e:u=v
  ·subst e
   rw [hq] at hr;injection hr with hr;subst hr
   exact hv p hp
  ·have hp':=hsm u p e hp
   have hz:=h.c u p r hp' hr;have hok:=(h.al.pg u p hp').2.2.2.1;intro k hk hf i hi;have hb:=blk_at hok hk;have hs:=pg_sep h hr hq e;have:=o.page (r:=r.toNat) hs (i:=k*p.unit.toNat+i) (by omega);rw [←Nat.add_assoc] at this;rw [this];exact hz k hk hf i hi
 ·exact o.page (by rintro rfl;exact hc r3) hi
theorem HpOk.takeP(h:HpOk B cm win tb a){c:Nat}(hc:c<8){v q:Int}{p:PgS}(hg:mGet a.sm v=some p)(hk:kdV v=c)(hcnt:0<p.had.cnt)(hq:mGet tb.pg v=some q) :
  HpOk (p.alB (q.toNat*512) B) cm win tb (a.takeP c v)∧Keep win B cm (p.alB (q.toNat*512) B) cm∧One B (p.alB (q.toNat*512) B) q.toNat (q.toNat*512+p.alK*p.unit.toNat) (q.toNat*512+p.alK*p.unit.toNat+p.unit.toNat)∧(∀i,i<p.unit.toNat→byt (p.alB (q.toNat*512) B) (q.toNat*512+p.alK*p.unit.toNat+i)=0)∧(a.takeP c v).cost=a.cost+p.unit.toNat:=by
 obtain⟨g1,g2,g3,g4,g5⟩:=h.al.pg v p hg;obtain⟨r1,r2,r3,r4⟩:=h.ton.rng v q hq;have hlen:=h.len;have hB:q.toNat*512+512≤B.length:=by omega
 have hz:=h.c v p q hg hq;obtain⟨b1,b2⟩:=al_byt g4 hcnt hB hz;obtain⟨k1,k2⟩:=alK_free g4 hcnt;have hb:=blk_at g4 k1;obtain⟨t1,t2,t3⟩:=h.al.takeP hc hg hk hcnt;have o:One B (p.alB (q.toNat*512) B) q.toNat (q.toNat*512+p.alK*p.unit.toNat) (q.toNat*512+p.alK*p.unit.toNat+p.unit.toNat):=⟨al_len,by omega,b2⟩
 obtain⟨x1,x2⟩:=h.one hq o (a':=a.takeP c v) rfl t1 (fun u p' hu hp'=>by
  replace hp':mGet (mIns v (a.pgAt v).alP a.sm) u=some p':=hp'
  rwa [mGet_ins_other hu] at hp') (fun p' hp'=>by
  rw [t2] at hp';injection hp' with hp';subst hp'
  exact hz.al g4 hcnt hB)
 exact⟨x1,x2,o,b1,t3⟩
theorem HpOk.backP(h:HpOk B cm win tb a){c:Nat}(hc:c<8){v q:Int}{p:PgS}(hg:mGet a.sm v=some p)(hk:kdV v=c)(hq:mGet tb.pg v=some q){k:Nat}(hkn:k<p.had.n)(hf:p.had.f k=false) :
  HpOk ((p.on (q.toNat*512:Nat)).frB k B) cm win tb (a.backP c v k)∧Keep win B cm ((p.on (q.toNat*512:Nat)).frB k B) cm∧One B ((p.on (q.toNat*512:Nat)).frB k B) q.toNat (q.toNat*512+k*p.unit.toNat) (q.toNat*512+k*p.unit.toNat+p.unit.toNat)∧(a.backP c v k).cost+p.unit.toNat=a.cost:=by
 obtain⟨g1,g2,g3,g4,g5⟩:=h.al.pg v p hg;obtain⟨r1,r2,r3,r4⟩:=h.ton.rng v q hq;have hlen:=h.len;have hB:q.toNat*512+512≤B.length:=by omega
 have hz:=h.c v p q hg hq;obtain⟨b1,b2⟩:=fr_byt g4 hkn hB;have hb:=blk_at g4 hkn;obtain⟨t1,t3⟩:=h.al.backP hc hg hk hkn hf;have o:One B ((p.on (q.toNat*512:Nat)).frB k B) q.toNat (q.toNat*512+k*p.unit.toNat) (q.toNat*512+k*p.unit.toNat+p.unit.toNat):=⟨frB_len _ _ _,by omega,b2⟩
 obtain⟨x1,x2⟩:=h.one hq o (a':=a.backP c v k) rfl t1 (fun u p' hu hp'=>by
  replace hp':mGet (mIns v _ a.sm) u=some p':=hp'
  rwa [mGet_ins_other hu] at hp') (fun p' hp'=>by
  replace hp':mGet (mIns v _ a.sm) v=some p':=hp';rw [mGet_ins_same h.al.rise,pgAt_some hg] at hp';injection hp' with hp';subst hp'
  exact hz.fr g4 hkn hf hB)
 exact⟨x1,x2,o,t3⟩
theorem HpOk.released(h:HpOk B cm win tb a){c s:Nat}(hc:c<24)(hs:s<(a.sl c).n)(hf:(a.sl c).f s=false){B':List UInt8}{cm':CmS}{tb':TbS}(R:Rel B cm win tb B' cm' tb' (fun v=>vOf c s≤v∧v<vOf c s+pagesT c) (pagesT c).toNat)
  {a':AlS} (hsl:a'.sl=up1 a.sl c ((a.sl c).flip s)) (ok':AlOk a') (hsm:∀v p,mGet a'.sm v=some p→mGet a.sm v=some p) :
  HpOk B' cm' win tb' a':=by
 have hsT:(s:Int)<slotsT c:=by rw [←h.al.n c hc];omega
 have hdom:Dom tb' (Mapped a'.sl):=fun v=>by
  rw [hsl,mapped_give hc hsT hf];constructor
  ·intro e
   have hD:¬(vOf c s≤v∧v<vOf c s+pagesT c):=fun q=>by rw [R.gone v q] at e;cases e
   rw [R.stay v hD] at e;exact⟨(h.dom v).1 e,hD⟩
  ·rintro ⟨e,hD⟩
   rw [R.stay v hD];exact(h.dom v).2 e
 refine⟨ok',R.ok,by rw [R.keep.len,R.keep.P];exact h.len,R.ton,hdom,?_,R.z,fun v p q hp hq=>?_⟩
 ·have h1:=pgsum_give hc hs hf
  have h2:=R.len;have h3:=h.cnt;rw [hsl];omega
 ·have hm:=sm_mapped ok' hp
  have hD:¬(vOf c s≤v∧v<vOf c s+pagesT c):=by
   rw [hsl,mapped_give hc hsT hf] at hm;exact hm.2
  rw [R.stay v hD] at hq;have hz:=h.c v p q (hsm v p hp) hq;have hok:=(ok'.pg v p hp).2.2.2.1;intro k hk hkf i hi;have hb:=blk_at hok hk;have:=R.bys v q hD hq (k*p.unit.toNat+i) (by omega);rw [←Nat.add_assoc] at this;rw [this];exact hz k hk hkf i hi
end
end
section
open Go.RowKit Flt
def spans(T:List (Int×Int)):List Value:=T.flatMap fun x=>[.int .i64 x.1,.int .i64 x.2,.bool false]
theorem spans_append(A B:List (Int×Int)):spans (A++B)=spans A++spans B:=by unfold spans;simp
def Spn(w:World)(base:Nat)(v:Value)(T:List (Int×Int)):Prop:=w.ownsRow base 217 3 v T.length (spans T)
theorem ptIn(a:Int)(w:World)(h0:131072≤a)(h1:a<3276800) :
  Calls Tryz.prog 239 #[.int .i64 a] w fun e w'=>e=.returned (.tuple #[.complex .f64 (F (a/512)) (F (a%512)),.int .i64 0])∧w'=w:=by
 go_enter Tryz.func239,Tryz.ntmps239
 go_wp2
 go_ret2
 exact⟨rfl,rfl⟩
theorem conv_F(n:Int)(h:n.natAbs<2^53)(w:World):(convert 183 3 (.float .f64 (F n))).run Tryz.prog w=.ok (.int .i64 n) w:=by
 refine run_convert_float_int w 183 3 .f64 .i64 (F n) n (by rw [Tryz.underlying183];rfl) Tryz.underlying3 ?_;unfold floatToIntVal;rw [show FloatKind.f64.decode (F n)=Ieee.double.read (F n) from rfl,toInt_F h];simp only;rw [if_pos];have:(2:Nat)^53=9007199254740992:=by decide
 simp [IntKind.min,IntKind.max,IntKind.signed,IntKind.bits];omega
def pcL(pg:List (Int×Int)):Nat→Int→Int→Option (List (Int×Int))
 |0,_,_=>some []
 |f+1,a,n=>if n≤0 then some [] else if lookV pg (a/512)<0 then none else
  (pcL pg f (a+min n (512-a%512)) (n-min n (512-a%512))).map (fun r=>(lookV pg (a/512)*512+a%512,min n (512-a%512)) :: r)
def pcErr:Option (List (Int×Int))→Int
 |none=>4
 |some _=>0
def TbS.pcE(s:TbS)(a n:Int):Int:=if insideB a n=true then pcErr (pcL s.pg n.toNat a n) else 4
def TbS.pcs(s:TbS)(a n:Int):List (Int×Int):=if insideB a n=true then (pcL s.pg n.toNat a n).getD [] else []
theorem inside_iff{a n:Int}:insideB a n=true↔0≤n∧131072≤a∧a≤3276800∧n≤3276800-a:=by
 unfold insideB;simp only [Bool.and_eq_true,decide_eq_true_eq,and_assoc]
theorem lookV_bound{M:List (Int×Int)}(hv:∀p∈M,0≤p.2∧p.2<1048577)(k:Int):-1≤lookV M k∧lookV M k<1048577:=by
 by_cases h:lookV M k<0
 ·unfold lookV at *
  cases hg:mGet M k with
  |none=>simp
  |some v=>rw [hg] at h;have:=hv _ (mGet_mem hg);simp at h this;omega
 ·have:=hv _ (lookV_mem h);simp at this;omega
theorem pcL_out{pg:List (Int×Int)}:∀(f:Nat) (a n:Int),n≤0→pcL pg f a n=some []
 |0,_,_,_=>rfl
 |f+1,a,n,h=>by unfold pcL;rw [if_pos h]
set_option maxHeartbeats 1000000 in
theorem tbPieces(b:Nat)(a0 n0:Int)(w:World){o:Nat→Tag}{t:Tag}{s:TbS}(h:TbAt w o t b s)(hv:∀p∈s.pg,0≤p.2∧p.2<1048577) :
  Calls Tryz.prog 211 #[.pointer (some ⟨b,0,none⟩),.int .i64 a0,.int .i64 n0] w fun e w'=>∃v,e=.returned (.tuple #[v,.int .i64 (s.pcE a0 n0)])∧Spn w' w.heap.size v (s.pcs a0 n0)∧Below w.heap.size w w':=by
 have hs:=HD h;have hin:=within2_any a0 n0;obtain⟨i0,hi,hz0,hz1,hz2⟩:=info_parts infoSpan;by_cases h1:insideB a0 n0=true
 ·obtain⟨q1,q2,q3,q4⟩:=inside_iff.1 h1
  have hpE:s.pcE a0 n0=pcErr (pcL s.pg n0.toNat a0 n0):=if_pos h1;have hpL:s.pcs a0 n0=(pcL s.pg n0.toNat a0 n0).getD []:=if_pos h1;rw [hpE,hpL];rw [h1] at hin;replace hv:=HD hv;clear hpL hpE h1 h;generalize hR:pcL s.pg n0.toNat a0 n0=R at *;replace hR:=HD hR;go_enter Tryz.func211,Tryz.ntmps211
  go_wp2_with fail;refine SM (hin _) ?_;go_wp2_with fail;go_loopg [1,2,6] n0.toNat (fun gh ai ni v wx=>∃(a n:Int) (A:List (Int×Int)),ai=.int .i64 a∧ni=.int .i64 n∧n.toNat≤gh∧131072≤a∧0≤n∧n≤3276800-a∧Hid (R=(pcL s.pg gh a n).map (A++·))∧A.length≤n0-n∧Spn wx w.heap.size v A∧Below w.heap.size w wx)
  case atStart=>exact⟨a0,n0,[],rfl,rfl,Nat.le_refl _,q2,q1,q4,HD (by rw [hR.out];simp),by simp,⟨rfl,.inl ⟨rfl,rfl⟩⟩,Below.refl _ _⟩
  case round =>
   obtain⟨a,n,A,rfl,rfl,hgh,r1,r2,r3,hL,hA,hS,hB⟩:=hrel;replace hS:=HD hS;replace hB:=HD hB;by_cases hn:0<n
   ·have hT:TbAt wr o t b s:=hs.out.fr (Fr.below (S:=fun _=>False) hB.out) ⟨fun _ _ q=>q,fun q=>q⟩
    have hat:=HD (ptIn a wr r1 (by omega));have hf:=HD (tbFind b (a/512) wr hT);have hlb:=lookV_bound hv.out (a/512);have c1:=fun w=>conv_F (a/512) (by omega) w
    have c2:=fun w=>conv_F (a%512) (by omega) w
    have hL2:=hL.out;obtain⟨f,rfl⟩:∃f:Nat,gk=f+1:=⟨gk-1,by omega⟩
    unfold pcL at hL2;rw [if_neg (by omega)] at hL2;have ho1:0≤a%512:=by omega
    have ho2:a%512<512:=by omega
    have hqb:0≤a/512∧a/512≤6400:=by omega
    clear hT;generalize a/512=q at *;generalize a%512=y at *;generalize lookV s.pg q=z at *;generalize F q=fq at *;generalize F y=fy at *;by_cases hz:z<0
    ·rw [if_pos hz] at hL2
     replace hL2:=HD hL2;go_wp2_with fail;refine SM hat.out ?_;go_wp2_with fail;refine SM hf.out ?_;go_wp2_with fail;go_ret2
     have hR0:R=none:=hL2.out;rw [hR0];exact⟨_,rfl,⟨rfl,.inl ⟨rfl,rfl⟩⟩,hB.out⟩
    ·rw [if_neg hz] at hL2
     replace hL2:=HD hL2;have hm:Hid (1≤min n (512-y)∧min n (512-y)≤n∧min n (512-y)≤512-y):=HD (by omega);have hbs:=HD hB.out.size;have hB2:=HD (hB.out.alloc hB.out.size (.cells #[.int .i64 (z*512+y),.int .i64 (min n (512-y)),.bool false] 217));go_wp2_with fail;refine SM hat.out ?_;go_wp2_with fail;refine SM hf.out ?_;go_wp2_with (at_builtin;refine wpList_append_own _ rfl _ _ 74 rfl w.heap.size 217 i0 (.agg #[.int .i64 0,.int .i64 0,.bool false]) 3 24 Tryz.underlying74 hi hz0 hz1 hz2 rfl (by decide) _ _ _ rfl (hS.out.alloc _) _ 1 1 [.int .i64 (z*512+y),.int .i64 (min n (512-y)),.bool false] rfl rfl ?c1 ?c2 ?c3 ?c4 ?c5 ?_)
     case c1 =>
      intro q u hq;match q,hq with
      |0,hq=>simp at hq;subst hq;simp [Addr.add]
      |1,hq=>simp at hq;subst hq;simp [Addr.add]
      |2,hq=>simp at hq;subst hq;simp [Addr.add]
     case c2=>intro u hu;simp at hu;rcases hu with rfl|rfl|rfl<;>rfl
     case c3=>unfold maxLen;omega
     case c4=>omega
     case c5=>simp;have:=hbs.out;omega
     intro v2 w2 hr2 hg2 _;have hr3:Spn w2 w.heap.size v2 (A++[(z*512+y,min n (512-y))]):=by
      unfold Spn;rw [spans_append,List.length_append];exact hr2
     have hB3:Below w.heap.size w w2:=hB2.out.grown hg2 (by simp;have:=hbs.out;omega) (fun k hk=>(hS.out.lt k hk).1);have hm1:=hm.out;have hlen:((A++[(z*512+y,min n (512-y))]).length:Int)=A.length+1:=by simp
     have hL3:R=(pcL s.pg f (a+min n (512-y)) (n-min n (512-y))).map ((A++[(z*512+y,min n (512-y))])++·):=by
      rw [hL2.out,Option.map_map]
      congr 1
      funext r
      simp
     replace hL3:=HD hL3;generalize A++[(z*512+y,min n (512-y))]=A2 at *;replace hr3:=HD hr3;replace hB3:=HD hB3;clear hr2 hg2 hL2 hL hm hB2;generalize min n (512-y)=m at *;go_wp2_with fail;go_roundg f
     case measure=>omega
     case rel=>exact⟨a+m,n-m,A2,by go_num,by go_num,by omega,by omega,by omega,by omega,hL3,by omega,hr3.out,hB3.out⟩
   ·obtain rfl:n=0:=by omega
    go_wp2_with fail;go_ret2
    have hR0:R=some A:=by rw [hL.out,pcL_out _ _ _ (Int.le_refl 0)];simp
    rw [hR0];exact⟨_,rfl,hS.out,hB.out⟩
 ·have h1':insideB a0 n0=false:=by simpa using h1
  have hpE:s.pcE a0 n0=4:=if_neg h1;have hpL:s.pcs a0 n0=[]:=if_neg h1;rw [hpE,hpL];rw [h1'] at hin;clear hpL hpE h1 h hv;go_enter Tryz.func211,Tryz.ntmps211
  go_wp2_with fail;refine SM (hin _) ?_;go_wp2_with fail;go_ret2
  exact⟨_,rfl,⟨rfl,.inl ⟨rfl,rfl⟩⟩,Below.refl _ _⟩
end
end Go.Proofs.YtfliaggjkianpaaGreatDoor
